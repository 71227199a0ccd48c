/- The law of two sets. -/
import Derived.Test.YtlecpjgbmeejdaaDoorAwake17
import Derived.Test.YtlecpjgbmeejdaaDoorRefSet
namespace Yard
open Go Go.Sx Go.Proofs
set_option linter.unusedVariables false
set_option linter.unusedSimpArgs false
set_option maxRecDepth 4000

abbrev JX : Type := List Int × List Int × List Int
def jN (x : JX) : Nat := clampN (x.1.getD 0 0)
def jM (x : JX) : Nat := clampN (x.1.getD 1 0)
def jS (x : JX) : Nat × Nat := (jN x, addL (jN x) 0 x.2.1)
def jT (x : JX) : Nat × Nat := (jM x, addL (jM x) 0 x.2.2)
def bitsJoinsC : Ctr := pureC JX (fun x => (∀ i, I64 (x.1.getD i 0)) ∧ IntL x.2.1 ∧ IntL x.2.2) (fun x => [.agg [.arr 1 2 (fun i => [i64 (x.1.getD i 0)])], intA x.2.1, intA x.2.2]) (fun _ => .bool true)
abbrev jBox (x : JX) : Sx.Item := .cells 51 [.arr 1 2 (fun i => [i64 (x.1.getD i 0)])]
abbrev jHeap (x : JX) (cx cy : Nat) : AH := [.fence, jBox x, rowI 3 .i64 cx (listN (jS x)), rowI 3 .i64 cy (listN (jT x)), setI (jS x), setI (jT x), setI (joinN (jS x) (jT x)), setI (minusN (jS x) (jT x))]
abbrev jFrame (x : JX) (cx cy : Nat) (r : List (Nat × AV)) : Fr := frm 140 ([(3, .ptr 1 [] 0), (1, intA x.2.1), (2, intA x.2.2), (7, i64 (jN x : Nat)), (8, i64 (jM x : Nat)), (9, .sl 2 [] 0 1 0 (listN (jS x)).length cx), (10, .sl 3 [] 0 1 0 (listN (jT x)).length cy), (11, .ptr 4 [] 0), (12, .ptr 5 [] 0)] ++ r)
/-- The order of what was made. -/
def jRen (F : Fr) (_ : AH) : Option Ren := match F.getD 9 .any, F.getD 10 .any, F.getD 11 .any, F.getD 12 .any with
  | .sl a _ _ _ _ _ _, .sl b _ _ _ _ _ _, .ptr c _ _, .ptr d _ _ => some [some 0, some 1, some a, some b, some c, some d]
  | _, _, _, _ => none
def jJoin (x : JX) : LA := { T := Nat × Nat, F := fun t => jFrame x t.1 t.2 [], H := fun t => [.fence, jBox x, rowI 3 .i64 t.1 (listN (jS x)), rowI 3 .i64 t.2 (listN (jT x)), setI (jS x), setI (jT x)], ρ₁ := jRen }
def jUV : List (Nat × AV) := [(13, .ptr 6 [] 0), (14, .ptr 7 [] 0)]
def jLoopA (x : JX) : LA := { T := Nat × Nat × Nat, F := fun t => jFrame x t.2.1 t.2.2 ([(13, .ptr 6 [] 0), (14, .ptr 7 [] 0), (15, .sl 2 [] 0 1 0 (listN (jS x)).length t.2.1), (16, i64 (t.1 : Nat))]), H := fun t => jHeap x t.2.1 t.2.2 }
def rowRenAt (t n : Nat) (F : Fr) (_ : AH) : Option Ren := match F.getD t .any with
  | .sl q _ _ _ _ _ _ => some (idRen n n ++ [some q])
  | _ => none
def jLoopB (x : JX) : LA := { T := Nat × Nat × Nat × Nat × Nat, F := fun t => jFrame x t.2.1 t.2.2.1 ([(13, .ptr 6 [] 0), (14, .ptr 7 [] 0), (15, .sl 8 [] 0 1 0 (listN (jN x, t.2.2.2.1)).length t.2.2.2.2), (16, i64 (t.1 : Nat))]), H := fun t => jHeap x t.2.1 t.2.2.1 ++ [rowI 3 .i64 t.2.2.2.2 (listN (jN x, t.2.2.2.1))], ρ₂ := rowRenAt 15 8 }
def jEnd (x : JX) : LA := { T := Nat × Nat, F := fun t => jFrame x t.1 t.2 [(13, .ptr 6 [] 0), (14, .ptr 7 [] 0)], H := fun t => jHeap x t.1 t.2 }

-- callees: 13=awake17_ok 14=small_ok 15=setOf_ok 18=refSize_ok 20=setDrop_ok 21=(specObj_ok setAdd_ok setAddO_ok) 23=(specIf_ok refAddA_ok refAddB_ok) 24=refInts_ok 25=setList_ok 26=setSize_ok 38=refOf_ok 39=(specEq_ok setWithS_ok setWith_ok) 40=setWithout_ok 41=refWithout_ok 42=setSame_ok
theorem bitsJoinsV : (∀ (x : List Int × List Int × List Int),
 (∀ (i : Nat), I64 (x.fst.getD i 0)) ∧ IntL x.snd.fst ∧ IntL x.snd.snd →
 Exx Unit fun x_1 =>
 Tr 1 (true = true ∧ True) ∧
 Tr 1
 (∀ (y : Unit),
 True →
 Exx (List Int × Int) fun x_2 =>
 (((x.snd.fst.length = x_2.fst.length ∧ ∀ (i : Nat), i < x_2.fst.length → [AV.int IntKind.i64 (x.snd.fst.getD i 0)] = [AV.int IntKind.i64 (x_2.fst.getD i 0)]) ∧
 Tr 1 ((60 : Int) = x_2.snd) ∧ True) ∧
 true = true ∧ True) ∧
 x_2.fst.length ≤ 9223372036854775807 ∧
 ∀ (y : Unit),
 True →
 BC (!decide ((↑x_2.fst.length : Int) ≤ x_2.snd))
 (Exx Unit fun x => Tr 1 (true = true ∧ True) ∧ Tr 1 (∀ (y : Unit), True → Exx Unit fun y => ((true = true ∧ True) ∧ true = true ∧ True) ∧ True))
 (Exx (List Int × Int) fun x_3 =>
 (((x.snd.snd.length = x_3.fst.length ∧
 ∀ (i : Nat), i < x_3.fst.length → [AV.int IntKind.i64 (x.snd.snd.getD i 0)] = [AV.int IntKind.i64 (x_3.fst.getD i 0)]) ∧
 Tr 1 ((60 : Int) = x_3.snd) ∧ True) ∧
 true = true ∧ True) ∧
 x_3.fst.length ≤ 9223372036854775807 ∧
 ∀ (y : Unit),
 True →
 BC (!decide ((↑x_3.fst.length : Int) ≤ x_3.snd))
 (Exx Unit fun x =>
 Tr 1 (true = true ∧ True) ∧ Tr 1 (∀ (y : Unit), True → Exx Unit fun y => ((true = true ∧ True) ∧ true = true ∧ True) ∧ True))
 (((0 : Int) ≤ (0 : Int) ∧ (0 : Int) < (↑(2 : Nat) : Int)) ∧
 (0 : Int).toNat < (2 : Nat) ∧
 ((0 : Int) ≤ (1 : Int) ∧ (1 : Int) < (↑(2 : Nat) : Int)) ∧
 (1 : Int).toNat < (2 : Nat) ∧
 Exx Int fun x_4 =>
 ((Tr 1 (x.fst.getD (Int.toNat 0) 0 = x_4) ∧ True) ∧ true = true ∧ True) ∧
 (-9223372036854775808 ≤ x_4 ∧ x_4 ≤ (9223372036854775807 : Int)) ∧
 ∀ (y : Unit),
 True →
 Exx Int fun x_5 =>
 ((Tr 1 (x.fst.getD (Int.toNat 1) 0 = x_5) ∧ True) ∧ true = true ∧ True) ∧
 (-9223372036854775808 ≤ x_5 ∧ x_5 ≤ (9223372036854775807 : Int)) ∧
 ∀ (y : Unit),
 True →
 Exx (Nat × List Int) fun x_6 =>
 ((Tr 1 ((↑(clampN x_4) : Int) = (↑x_6.fst : Int)) ∧
 (x.snd.fst.length = x_6.snd.length ∧
 ∀ (i : Nat),
 i < x_6.snd.length →
 [AV.int IntKind.i64 (x.snd.fst.getD i 0)] = [AV.int IntKind.i64 (x_6.snd.getD i 0)]) ∧
 True) ∧
 true = true ∧ True) ∧
 (x_6.fst ≤ 3072 ∧ IntL x_6.snd) ∧
 ∀ (y : Nat),
 (listN (x_6.fst, addL x_6.fst 0 x_6.snd)).length ≤ y ∧ y ≤ 9223372036854775807 →
 Exx (Nat × List Int) fun x_7 =>
 ((Tr 1 ((↑(clampN x_5) : Int) = (↑x_7.fst : Int)) ∧
 (x.snd.snd.length = x_7.snd.length ∧
 ∀ (i : Nat),
 i < x_7.snd.length →
 [AV.int IntKind.i64 (x.snd.snd.getD i 0)] = [AV.int IntKind.i64 (x_7.snd.getD i 0)]) ∧
 True) ∧
 true = true ∧ True) ∧
 (x_7.fst ≤ 3072 ∧ IntL x_7.snd) ∧
 ∀ (y_1 : Nat),
 (listN (x_7.fst, addL x_7.fst 0 x_7.snd)).length ≤ y_1 ∧ y_1 ≤ 9223372036854775807 →
 Exx (Nat × Nat → Prop) fun I =>
 (((0 : Int) ≤ (0 : Int) ∧ (0 : Int) < (↑(2 : Nat) : Int)) ∧
 (0 : Int).toNat < (2 : Nat) ∧
 ((0 : Int) ≤ (1 : Int) ∧ (1 : Int) < (↑(2 : Nat) : Int)) ∧
 (1 : Int).toNat < (2 : Nat) ∧
 Exx (Int × List Int) fun x_8 =>
 ((Tr 1 (x.fst.getD (Int.toNat 0) 0 = x_8.fst) ∧
 (x.snd.fst.length = x_8.snd.length ∧
 ∀ (i : Nat),
 i < x_8.snd.length →
 [AV.int IntKind.i64 (x.snd.fst.getD i 0)] =
 [AV.int IntKind.i64 (x_8.snd.getD i 0)]) ∧
 True) ∧
 true = true ∧ True) ∧
 (I64 x_8.fst ∧ Ints x_8.snd) ∧
 ∀ (y_2 : Unit),
 True →
 Exx (Int × List Int) fun x_9 =>
 ((Tr 1 (x.fst.getD (Int.toNat 1) 0 = x_9.fst) ∧
 (x.snd.snd.length = x_9.snd.length ∧
 ∀ (i : Nat),
 i < x_9.snd.length →
 [AV.int IntKind.i64 (x.snd.snd.getD i 0)] =
 [AV.int IntKind.i64 (x_9.snd.getD i 0)]) ∧
 True) ∧
 true = true ∧ True) ∧
 (I64 x_9.fst ∧ Ints x_9.snd) ∧
 ∀ (y_3 : Unit),
 True →
 Exx (Nat × Nat) fun t =>
 I t ∧
 Tr 1
 (((1 : Nat) = (1 : Nat) ∧
 x.snd.fst.length = x.snd.fst.length ∧
 ∀ (i : Nat),
 i < x.snd.fst.length →
 [AV.int IntKind.i64 (x.snd.fst.getD i 0)] =
 [AV.int IntKind.i64
 (x.snd.fst.getD i 0)]) ∧
 ((1 : Nat) = (1 : Nat) ∧
 x.snd.snd.length = x.snd.snd.length ∧
 ∀ (i : Nat),
 i < x.snd.snd.length →
 [AV.int IntKind.i64
 (x.snd.snd.getD i 0)] =
 [AV.int IntKind.i64
 (x.snd.snd.getD i 0)]) ∧
 (true = true ∧ NilNil ∧ (0 : Nat) = (0 : Nat)) ∧
 Tr 3
 (Tr 1
 ((↑(clampN x_4) : Int) =
 (↑(jN x) : Int)) ∧
 Tr 1
 ((↑(clampN x_5) : Int) =
 (↑(jM x) : Int)) ∧
 (true = true ∧
 NilNil ∧
 (0 : Nat) = (0 : Nat) ∧
 (1 : Nat) = (1 : Nat) ∧
 (0 : Nat) = (0 : Nat) ∧
 (listN
 (x_6.fst,
 addL x_6.fst 0
 x_6.snd)).length =
 (listN (jS x)).length ∧
 y = t.fst) ∧
 (true = true ∧
 NilNil ∧
 (0 : Nat) = (0 : Nat) ∧
 (1 : Nat) = (1 : Nat) ∧
 (0 : Nat) = (0 : Nat) ∧
 (listN
 (x_7.fst,
 addL x_7.fst 0
 x_7.snd)).length =
 (listN (jT x)).length ∧
 y_1 = t.snd) ∧
 (true = true ∧
 NilNil ∧ (0 : Nat) = (0 : Nat)) ∧
 (true = true ∧
 NilNil ∧
 (0 : Nat) = (0 : Nat)) ∧
 Tr 127 True)) ∧
 true = true ∧
 ((51 : Nat) = (51 : TypeId) ∧
 (1 : Nat) = (1 : Nat) ∧
 (2 : Nat) = (2 : Nat) ∧
 (∀ (i : Nat),
 i < 2 →
 [AV.int IntKind.i64 (x.fst.getD i 0)] =
 [AV.int IntKind.i64
 (x.fst.getD i 0)]) ∧
 True) ∧
 ((3 : TypeId) = (3 : TypeId) ∧
 (1 : Nat) = (1 : Nat) ∧
 y = t.fst ∧
 (listN (jS x)).length ≤
 (listN
 (x_6.fst,
 addL x_6.fst 0 x_6.snd)).length ∧
 ∀ (i : Nat),
 i < (listN (jS x)).length →
 [AV.int IntKind.i64
 ((listN
 (x_6.fst,
 addL x_6.fst 0
 x_6.snd)).getD
 i 0)] =
 [AV.int IntKind.i64
 ((listN (jS x)).getD i 0)]) ∧
 ((3 : TypeId) = (3 : TypeId) ∧
 (1 : Nat) = (1 : Nat) ∧
 y_1 = t.snd ∧
 (listN (jT x)).length ≤
 (listN
 (x_7.fst,
 addL x_7.fst 0
 x_7.snd)).length ∧
 ∀ (i : Nat),
 i < (listN (jT x)).length →
 [AV.int IntKind.i64
 ((listN
 (x_7.fst,
 addL x_7.fst 0
 x_7.snd)).getD
 i 0)] =
 [AV.int IntKind.i64
 ((listN (jT x)).getD i 0)]) ∧
 setB
 (clampN x_8.fst,
 addL (clampN x_8.fst) 0 x_8.snd) =
 setB (jS x) ∧
 setB
 (clampN x_9.fst,
 addL (clampN x_9.fst) 0 x_9.snd) =
 setB (jT x) ∧
 True) ∧
 ∀ (t : Nat × Nat),
 I t →
 Exx ((Nat × Nat) × Nat × Nat) fun x_8 =>
 (((true = true ∧ NilNil ∧ (0 : Nat) = (0 : Nat)) ∧
 (true = true ∧ NilNil ∧ (0 : Nat) = (0 : Nat)) ∧ True) ∧
 true = true ∧ setB (jS x) = setB x_8.fst ∧ setB (jT x) = setB x_8.snd ∧ True) ∧
 (SetW x_8.fst ∧ SetW x_8.snd) ∧
 ∀ (y : Unit),
 True →
 Exx ((Nat × Nat) × Nat × Nat) fun x_9 =>
 (((true = true ∧ NilNil ∧ (0 : Nat) = (0 : Nat)) ∧
 (true = true ∧ NilNil ∧ (0 : Nat) = (0 : Nat)) ∧ True) ∧
 true = true ∧
 setB x_8.fst = setB x_9.fst ∧ setB x_8.snd = setB x_9.snd ∧ True) ∧
 (SetW x_9.fst ∧ SetW x_9.snd) ∧
 ∀ (y : Unit),
 True →
 Exx (Nat × Nat × Nat → Prop) fun I =>
 Exx (Nat × Nat × Nat × Nat × Nat → Prop) fun J =>
 Exx (Nat × Nat × Nat → Nat) fun m =>
 Exx (Nat × Nat × Nat × Nat × Nat → Nat) fun n =>
 ((Exx (Nat × Nat × Nat) fun t_1 =>
 I t_1 ∧
 Tr 1
 (((1 : Nat) = (1 : Nat) ∧
 x.snd.fst.length = x.snd.fst.length ∧
 ∀ (i : Nat),
 i < x.snd.fst.length →
 [AV.int IntKind.i64
 (x.snd.fst.getD i 0)] =
 [AV.int IntKind.i64
 (x.snd.fst.getD i 0)]) ∧
 ((1 : Nat) = (1 : Nat) ∧
 x.snd.snd.length = x.snd.snd.length ∧
 ∀ (i : Nat),
 i < x.snd.snd.length →
 [AV.int IntKind.i64
 (x.snd.snd.getD i 0)] =
 [AV.int IntKind.i64
 (x.snd.snd.getD i 0)]) ∧
 (true = true ∧
 NilNil ∧ (0 : Nat) = (0 : Nat)) ∧
 Tr 3
 (Tr 1
 ((↑(jN x) : Int) =
 (↑(jN x) : Int)) ∧
 Tr 1
 ((↑(jM x) : Int) =
 (↑(jM x) : Int)) ∧
 (true = true ∧
 NilNil ∧
 (0 : Nat) = (0 : Nat) ∧
 (1 : Nat) = (1 : Nat) ∧
 (0 : Nat) = (0 : Nat) ∧
 (listN
 (jS
 x)).length =
 (listN
 (jS
 x)).length ∧
 t.fst =
 t_1.snd.fst) ∧
 (true = true ∧
 NilNil ∧
 (0 : Nat) = (0 : Nat) ∧
 (1 : Nat) = (1 : Nat) ∧
 (0 : Nat) =
 (0 : Nat) ∧
 (listN
 (jT
 x)).length =
 (listN
 (jT
 x)).length ∧
 t.snd =
 t_1.snd.snd) ∧
 (true = true ∧
 NilNil ∧
 (0 : Nat) = (0 : Nat)) ∧
 (true = true ∧
 NilNil ∧
 (0 : Nat) =
 (0 : Nat)) ∧
 (true = true ∧
 NilNil ∧
 (0 : Nat) =
 (0 : Nat)) ∧
 (true = true ∧
 NilNil ∧
 (0 : Nat) =
 (0 : Nat)) ∧
 (true = true ∧
 NilNil ∧
 (0 : Nat) =
 (0 : Nat) ∧
 (1 : Nat) =
 (1 :
 Nat) ∧
 (0 : Nat) =
 (0 :
 Nat) ∧
 (listN
 (jS
 x)).length =
 (listN
 (jS
 x)).length ∧
 t.fst =
 t_1.snd.fst) ∧
 Tr 1
 ((0 : Int) =
 (↑t_1.fst :
 Int)) ∧
 Tr 123 True)) ∧
 true = true ∧
 ((51 : TypeId) = (51 : TypeId) ∧
 (1 : Nat) = (1 : Nat) ∧
 (2 : Nat) = (2 : Nat) ∧
 (∀ (i : Nat),
 i < 2 →
 [AV.int IntKind.i64
 (x.fst.getD i 0)] =
 [AV.int IntKind.i64
 (x.fst.getD i 0)]) ∧
 True) ∧
 ((3 : TypeId) = (3 : TypeId) ∧
 (1 : Nat) = (1 : Nat) ∧
 t.fst = t_1.snd.fst ∧
 (listN (jS x)).length ≤
 (listN (jS x)).length ∧
 ∀ (i : Nat),
 i < (listN (jS x)).length →
 [AV.int IntKind.i64
 ((listN (jS x)).getD i
 0)] =
 [AV.int IntKind.i64
 ((listN (jS x)).getD i
 0)]) ∧
 ((3 : TypeId) = (3 : TypeId) ∧
 (1 : Nat) = (1 : Nat) ∧
 t.snd = t_1.snd.snd ∧
 (listN (jT x)).length ≤
 (listN (jT x)).length ∧
 ∀ (i : Nat),
 i < (listN (jT x)).length →
 [AV.int IntKind.i64
 ((listN (jT x)).getD i
 0)] =
 [AV.int IntKind.i64
 ((listN (jT x)).getD i
 0)]) ∧
 setB x_9.fst = setB (jS x) ∧
 setB x_9.snd = setB (jT x) ∧
 setB (joinN x_8.fst x_8.snd) =
 setB (joinN (jS x) (jT x)) ∧
 setB (minusN x_9.fst x_9.snd) =
 setB (minusN (jS x) (jT x)) ∧
 True) ∨
 Exx (Nat × Nat × Nat × Nat × Nat) fun t_1 =>
 J t_1 ∧
 Tr 1
 (((1 : Nat) = (1 : Nat) ∧
 x.snd.fst.length = x.snd.fst.length ∧
 ∀ (i : Nat),
 i < x.snd.fst.length →
 [AV.int IntKind.i64
 (x.snd.fst.getD i 0)] =
 [AV.int IntKind.i64
 (x.snd.fst.getD i 0)]) ∧
 ((1 : Nat) = (1 : Nat) ∧
 x.snd.snd.length = x.snd.snd.length ∧
 ∀ (i : Nat),
 i < x.snd.snd.length →
 [AV.int IntKind.i64
 (x.snd.snd.getD i 0)] =
 [AV.int IntKind.i64
 (x.snd.snd.getD i 0)]) ∧
 (true = true ∧
 NilNil ∧ (0 : Nat) = (0 : Nat)) ∧
 Tr 3
 (Tr 1
 ((↑(jN x) : Int) =
 (↑(jN x) : Int)) ∧
 Tr 1
 ((↑(jM x) : Int) =
 (↑(jM x) : Int)) ∧
 (true = true ∧
 NilNil ∧
 (0 : Nat) = (0 : Nat) ∧
 (1 : Nat) = (1 : Nat) ∧
 (0 : Nat) = (0 : Nat) ∧
 (listN
 (jS
 x)).length =
 (listN
 (jS
 x)).length ∧
 t.fst =
 t_1.snd.fst) ∧
 (true = true ∧
 NilNil ∧
 (0 : Nat) = (0 : Nat) ∧
 (1 : Nat) = (1 : Nat) ∧
 (0 : Nat) =
 (0 : Nat) ∧
 (listN
 (jT
 x)).length =
 (listN
 (jT
 x)).length ∧
 t.snd =
 t_1.snd.snd.fst) ∧
 (true = true ∧
 NilNil ∧
 (0 : Nat) = (0 : Nat)) ∧
 (true = true ∧
 NilNil ∧
 (0 : Nat) =
 (0 : Nat)) ∧
 (true = true ∧
 NilNil ∧
 (0 : Nat) =
 (0 : Nat)) ∧
 (true = true ∧
 NilNil ∧
 (0 : Nat) =
 (0 : Nat)) ∧
 (False ∧
 NilNil ∧
 (0 : Nat) =
 (0 : Nat) ∧
 (1 : Nat) =
 (1 :
 Nat) ∧
 (0 : Nat) =
 (0 :
 Nat) ∧
 (listN
 (jS
 x)).length =
 (listN
 (jN
 x,
 t_1.snd.snd.snd.fst)).length ∧
 t.fst =
 t_1.snd.snd.snd.snd) ∧
 Tr 1
 ((0 : Int) =
 (↑t_1.fst :
 Int)) ∧
 Tr 123 True)) ∧
 true = true ∧
 ((51 : TypeId) = (51 : TypeId) ∧
 (1 : Nat) = (1 : Nat) ∧
 (2 : Nat) = (2 : Nat) ∧
 (∀ (i : Nat),
 i < 2 →
 [AV.int IntKind.i64
 (x.fst.getD i 0)] =
 [AV.int IntKind.i64
 (x.fst.getD i 0)]) ∧
 True) ∧
 ((3 : TypeId) = (3 : TypeId) ∧
 (1 : Nat) = (1 : Nat) ∧
 t.fst = t_1.snd.fst ∧
 (listN (jS x)).length ≤
 (listN (jS x)).length ∧
 ∀ (i : Nat),
 i < (listN (jS x)).length →
 [AV.int IntKind.i64
 ((listN (jS x)).getD i
 0)] =
 [AV.int IntKind.i64
 ((listN (jS x)).getD i
 0)]) ∧
 ((3 : TypeId) = (3 : TypeId) ∧
 (1 : Nat) = (1 : Nat) ∧
 t.snd = t_1.snd.snd.fst ∧
 (listN (jT x)).length ≤
 (listN (jT x)).length ∧
 ∀ (i : Nat),
 i < (listN (jT x)).length →
 [AV.int IntKind.i64
 ((listN (jT x)).getD i
 0)] =
 [AV.int IntKind.i64
 ((listN (jT x)).getD i
 0)]) ∧
 setB x_9.fst = setB (jS x) ∧
 setB x_9.snd = setB (jT x) ∧
 setB (joinN x_8.fst x_8.snd) =
 setB (joinN (jS x) (jT x)) ∧
 setB (minusN x_9.fst x_9.snd) =
 setB (minusN (jS x) (jT x)) ∧
 (t_1.snd.snd.snd.snd = 0 ∧
 (listN
 (jN x,
 t_1.snd.snd.snd.fst)).length =
 0) ∧
 True) ∧
 (∀ (t : Nat × Nat × Nat),
 I t →
 BC
 (decide
 ((↑t.fst : Int) <
 (↑(listN (jT x)).length : Int)))
 (((0 : Int) ≤ (↑t.fst : Int) ∧
 (↑t.fst : Int) <
 (↑(listN (jT x)).length : Int)) ∧
 0 + (↑t.fst : Int).toNat <
 (listN (jT x)).length ∧
 Exx (Nat × List Int × Int × Int) fun x_10 =>
 (((true = true ∧
 NilNil ∧
 (0 : Nat) = (0 : Nat) ∧
 (1 : Nat) = (1 : Nat) ∧
 (0 : Nat) = (0 : Nat) ∧
 (listN (jS x)).length =
 x_10.snd.fst.length ∧
 t.snd.fst = x_10.fst) ∧
 Tr 1
 ((↑(jN x) : Int) =
 x_10.snd.snd.fst) ∧
 Tr 1
 ((listN (jT x)).getD
 (0 + (↑t.fst : Int).toNat)
 0 =
 x_10.snd.snd.snd) ∧
 True) ∧
 true = true ∧
 ((3 : TypeId) = (3 : TypeId) ∧
 (1 : Nat) = (1 : Nat) ∧
 t.snd.fst = x_10.fst ∧
 x_10.snd.fst.length ≤
 (listN (jS x)).length ∧
 ∀ (i : Nat),
 i <
 x_10.snd.fst.length →
 [AV.int IntKind.i64
 ((listN
 (jS
 x)).getD
 i 0)] =
 [AV.int IntKind.i64
 (x_10.snd.fst.getD
 i 0)]) ∧
 True) ∧
 (Ints x_10.snd.fst ∧
 x_10.snd.fst.length ≤ x_10.fst ∧
 x_10.fst ≤ 9223372036854775807 ∧
 I64 x_10.snd.snd.fst ∧
 I64 x_10.snd.snd.snd ∧
 List.Pairwise
 (fun x1 x2 => x1 < x2)
 x_10.snd.fst) ∧
 (x_10.snd.snd.snd < (0 : Int) ∨
 x_10.snd.snd.fst ≤
 x_10.snd.snd.snd ∨
 x_10.snd.snd.snd ∈
 x_10.snd.fst →
 ∀ (y : Unit),
 True →
 I64 ((↑t.fst : Int) + 1) ∧
 ((Exx (Nat × Nat × Nat)
 fun t' =>
 (I t' ∧ m t' < m t) ∧
 Tr 1
 (((1 : Nat) =
 (1 : Nat) ∧
 x.snd.fst.length =
 x.snd.fst.length ∧
 ∀ (i : Nat),
 i <
 x.snd.fst.length →
 [AV.int
 IntKind.i64
 (x.snd.fst.getD
 i
 0)] =
 [AV.int
 IntKind.i64
 (x.snd.fst.getD
 i
 0)]) ∧
 ((1 : Nat) =
 (1 :
 Nat) ∧
 x.snd.snd.length =
 x.snd.snd.length ∧
 ∀
 (i :
 Nat),
 i <
 x.snd.snd.length →
 [AV.int
 IntKind.i64
 (x.snd.snd.getD
 i
 0)] =
 [AV.int
 IntKind.i64
 (x.snd.snd.getD
 i
 0)]) ∧
 (true = true ∧
 NilNil ∧
 (0 :
 Nat) =
 (0 :
 Nat)) ∧
 Tr 3
 (Tr 1
 ((↑(jN
 x) :
 Int) =
 (↑(jN
 x) :
 Int)) ∧
 Tr 1
 ((↑(jM
 x) :
 Int) =
 (↑(jM
 x) :
 Int)) ∧
 (true =
 true ∧
 NilNil ∧
 (0 :
 Nat) =
 (0 :
 Nat) ∧
 (1 :
 Nat) =
 (1 :
 Nat) ∧
 (0 :
 Nat) =
 (0 :
 Nat) ∧
 (listN
 (jS
 x)).length =
 (listN
 (jS
 x)).length ∧
 t.snd.fst =
 t'.snd.fst) ∧
 (true =
 true ∧
 NilNil ∧
 (0 :
 Nat) =
 (0 :
 Nat) ∧
 (1 :
 Nat) =
 (1 :
 Nat) ∧
 (0 :
 Nat) =
 (0 :
 Nat) ∧
 (listN
 (jT
 x)).length =
 (listN
 (jT
 x)).length ∧
 t.snd.snd =
 t'.snd.snd) ∧
 (true =
 true ∧
 NilNil ∧
 (0 :
 Nat) =
 (0 :
 Nat)) ∧
 (true =
 true ∧
 NilNil ∧
 (0 :
 Nat) =
 (0 :
 Nat)) ∧
 (true =
 true ∧
 NilNil ∧
 (0 :
 Nat) =
 (0 :
 Nat)) ∧
 (true =
 true ∧
 NilNil ∧
 (0 :
 Nat) =
 (0 :
 Nat)) ∧
 (true =
 true ∧
 NilNil ∧
 (0 :
 Nat) =
 (0 :
 Nat) ∧
 (1 :
 Nat) =
 (1 :
 Nat) ∧
 (0 :
 Nat) =
 (0 :
 Nat) ∧
 x_10.snd.fst.length =
 (listN
 (jS
 x)).length ∧
 x_10.fst =
 t'.snd.fst) ∧
 Tr
 1
 ((↑t.fst :
 Int) +
 1 =
 (↑t'.fst :
 Int)) ∧
 Tr
 123
 True)) ∧
 true = true ∧
 ((51 : TypeId) =
 (51 :
 TypeId) ∧
 (1 : Nat) =
 (1 :
 Nat) ∧
 (2 : Nat) =
 (2 :
 Nat) ∧
 (∀
 (i :
 Nat),
 i <
 2 →
 [AV.int
 IntKind.i64
 (x.fst.getD
 i
 0)] =
 [AV.int
 IntKind.i64
 (x.fst.getD
 i
 0)]) ∧
 True) ∧
 ((3 : TypeId) =
 (3 :
 TypeId) ∧
 (1 : Nat) =
 (1 :
 Nat) ∧
 x_10.fst =
 t'.snd.fst ∧
 (listN
 (jS
 x)).length ≤
 x_10.snd.fst.length ∧
 ∀
 (i :
 Nat),
 i <
 (listN
 (jS
 x)).length →
 [AV.int
 IntKind.i64
 (x_10.snd.fst.getD
 i
 0)] =
 [AV.int
 IntKind.i64
 ((listN
 (jS
 x)).getD
 i
 0)]) ∧
 ((3 :
 TypeId) =
 (3 :
 TypeId) ∧
 (1 :
 Nat) =
 (1 :
 Nat) ∧
 t.snd.snd =
 t'.snd.snd ∧
 (listN
 (jT
 x)).length ≤
 (listN
 (jT
 x)).length ∧
 ∀
 (i :
 Nat),
 i <
 (listN
 (jT
 x)).length →
 [AV.int
 IntKind.i64
 ((listN
 (jT
 x)).getD
 i
 0)] =
 [AV.int
 IntKind.i64
 ((listN
 (jT
 x)).getD
 i
 0)]) ∧
 setB
 (jS
 x) =
 setB
 (jS
 x) ∧
 setB
 (jT
 x) =
 setB
 (jT
 x) ∧
 setB
 (joinN
 (jS
 x)
 (jT
 x)) =
 setB
 (joinN
 (jS
 x)
 (jT
 x)) ∧
 setB
 (minusN
 (jS
 x)
 (jT
 x)) =
 setB
 (minusN
 (jS
 x)
 (jT
 x)) ∧
 True) ∨
 Exx
 (Nat ×
 Nat × Nat × Nat × Nat)
 fun t' =>
 (J t' ∧ n t' < m t) ∧
 False)) ∧
 (¬refAddI.p x_10 →
 ∀ (y : Nat),
 x_10.snd.fst.length + 1 ≤ y ∧
 y ≤ 9223372036854775807 →
 I64 ((↑t.fst : Int) + 1) ∧
 ((Exx (Nat × Nat × Nat)
 fun t' =>
 (I t' ∧ m t' < m t) ∧
 Tr 1
 (((1 : Nat) =
 (1 : Nat) ∧
 x.snd.fst.length =
 x.snd.fst.length ∧
 ∀ (i : Nat),
 i <
 x.snd.fst.length →
 [AV.int
 IntKind.i64
 (x.snd.fst.getD
 i
 0)] =
 [AV.int
 IntKind.i64
 (x.snd.fst.getD
 i
 0)]) ∧
 ((1 : Nat) =
 (1 :
 Nat) ∧
 x.snd.snd.length =
 x.snd.snd.length ∧
 ∀
 (i :
 Nat),
 i <
 x.snd.snd.length →
 [AV.int
 IntKind.i64
 (x.snd.snd.getD
 i
 0)] =
 [AV.int
 IntKind.i64
 (x.snd.snd.getD
 i
 0)]) ∧
 (true = true ∧
 NilNil ∧
 (0 :
 Nat) =
 (0 :
 Nat)) ∧
 Tr 3
 (Tr 1
 ((↑(jN
 x) :
 Int) =
 (↑(jN
 x) :
 Int)) ∧
 Tr 1
 ((↑(jM
 x) :
 Int) =
 (↑(jM
 x) :
 Int)) ∧
 (true =
 true ∧
 NilNil ∧
 (0 :
 Nat) =
 (0 :
 Nat) ∧
 (1 :
 Nat) =
 (1 :
 Nat) ∧
 (0 :
 Nat) =
 (0 :
 Nat) ∧
 (listN
 (jS
 x)).length =
 (listN
 (jS
 x)).length ∧
 t.snd.fst =
 t'.snd.fst) ∧
 (true =
 true ∧
 NilNil ∧
 (0 :
 Nat) =
 (0 :
 Nat) ∧
 (1 :
 Nat) =
 (1 :
 Nat) ∧
 (0 :
 Nat) =
 (0 :
 Nat) ∧
 (listN
 (jT
 x)).length =
 (listN
 (jT
 x)).length ∧
 t.snd.snd =
 t'.snd.snd) ∧
 (true =
 true ∧
 NilNil ∧
 (0 :
 Nat) =
 (0 :
 Nat)) ∧
 (true =
 true ∧
 NilNil ∧
 (0 :
 Nat) =
 (0 :
 Nat)) ∧
 (true =
 true ∧
 NilNil ∧
 (0 :
 Nat) =
 (0 :
 Nat)) ∧
 (true =
 true ∧
 NilNil ∧
 (0 :
 Nat) =
 (0 :
 Nat)) ∧
 (false =
 true ∧
 NilNil ∧
 (0 :
 Nat) =
 (0 :
 Nat) ∧
 (1 :
 Nat) =
 (1 :
 Nat) ∧
 (0 :
 Nat) =
 (0 :
 Nat) ∧
 x_10.snd.fst.length +
 1 =
 (listN
 (jS
 x)).length ∧
 y =
 t'.snd.fst) ∧
 Tr
 1
 ((↑t.fst :
 Int) +
 1 =
 (↑t'.fst :
 Int)) ∧
 Tr
 123
 True)) ∧
 true = true ∧
 ((51 : TypeId) =
 (51 :
 TypeId) ∧
 (1 : Nat) =
 (1 :
 Nat) ∧
 (2 : Nat) =
 (2 :
 Nat) ∧
 (∀
 (i :
 Nat),
 i <
 2 →
 [AV.int
 IntKind.i64
 (x.fst.getD
 i
 0)] =
 [AV.int
 IntKind.i64
 (x.fst.getD
 i
 0)]) ∧
 True) ∧
 ((3 : TypeId) =
 (3 :
 TypeId) ∧
 (1 : Nat) =
 (1 :
 Nat) ∧
 x_10.fst =
 t'.snd.fst ∧
 (listN
 (jS
 x)).length ≤
 x_10.snd.fst.length ∧
 ∀
 (i :
 Nat),
 i <
 (listN
 (jS
 x)).length →
 [AV.int
 IntKind.i64
 (x_10.snd.fst.getD
 i
 0)] =
 [AV.int
 IntKind.i64
 ((listN
 (jS
 x)).getD
 i
 0)]) ∧
 ((3 :
 TypeId) =
 (3 :
 TypeId) ∧
 (1 :
 Nat) =
 (1 :
 Nat) ∧
 t.snd.snd =
 t'.snd.snd ∧
 (listN
 (jT
 x)).length ≤
 (listN
 (jT
 x)).length ∧
 ∀
 (i :
 Nat),
 i <
 (listN
 (jT
 x)).length →
 [AV.int
 IntKind.i64
 ((listN
 (jT
 x)).getD
 i
 0)] =
 [AV.int
 IntKind.i64
 ((listN
 (jT
 x)).getD
 i
 0)]) ∧
 setB
 (jS
 x) =
 setB
 (jS
 x) ∧
 setB
 (jT
 x) =
 setB
 (jT
 x) ∧
 setB
 (joinN
 (jS
 x)
 (jT
 x)) =
 setB
 (joinN
 (jS
 x)
 (jT
 x)) ∧
 setB
 (minusN
 (jS
 x)
 (jT
 x)) =
 setB
 (minusN
 (jS
 x)
 (jT
 x)) ∧
 True) ∨
 Exx
 (Nat ×
 Nat × Nat × Nat × Nat)
 fun t' =>
 (J t' ∧ n t' < m t) ∧
 Tr 1
 (((1 : Nat) =
 (1 : Nat) ∧
 x.snd.fst.length =
 x.snd.fst.length ∧
 ∀ (i : Nat),
 i <
 x.snd.fst.length →
 [AV.int
 IntKind.i64
 (x.snd.fst.getD
 i
 0)] =
 [AV.int
 IntKind.i64
 (x.snd.fst.getD
 i
 0)]) ∧
 ((1 : Nat) =
 (1 :
 Nat) ∧
 x.snd.snd.length =
 x.snd.snd.length ∧
 ∀
 (i :
 Nat),
 i <
 x.snd.snd.length →
 [AV.int
 IntKind.i64
 (x.snd.snd.getD
 i
 0)] =
 [AV.int
 IntKind.i64
 (x.snd.snd.getD
 i
 0)]) ∧
 (true = true ∧
 NilNil ∧
 (0 :
 Nat) =
 (0 :
 Nat)) ∧
 Tr 3
 (Tr 1
 ((↑(jN
 x) :
 Int) =
 (↑(jN
 x) :
 Int)) ∧
 Tr 1
 ((↑(jM
 x) :
 Int) =
 (↑(jM
 x) :
 Int)) ∧
 (true =
 true ∧
 NilNil ∧
 (0 :
 Nat) =
 (0 :
 Nat) ∧
 (1 :
 Nat) =
 (1 :
 Nat) ∧
 (0 :
 Nat) =
 (0 :
 Nat) ∧
 (listN
 (jS
 x)).length =
 (listN
 (jS
 x)).length ∧
 t.snd.fst =
 t'.snd.fst) ∧
 (true =
 true ∧
 NilNil ∧
 (0 :
 Nat) =
 (0 :
 Nat) ∧
 (1 :
 Nat) =
 (1 :
 Nat) ∧
 (0 :
 Nat) =
 (0 :
 Nat) ∧
 (listN
 (jT
 x)).length =
 (listN
 (jT
 x)).length ∧
 t.snd.snd =
 t'.snd.snd.fst) ∧
 (true =
 true ∧
 NilNil ∧
 (0 :
 Nat) =
 (0 :
 Nat)) ∧
 (true =
 true ∧
 NilNil ∧
 (0 :
 Nat) =
 (0 :
 Nat)) ∧
 (true =
 true ∧
 NilNil ∧
 (0 :
 Nat) =
 (0 :
 Nat)) ∧
 (true =
 true ∧
 NilNil ∧
 (0 :
 Nat) =
 (0 :
 Nat)) ∧
 (true =
 true ∧
 NilNil ∧
 (0 :
 Nat) =
 (0 :
 Nat) ∧
 (1 :
 Nat) =
 (1 :
 Nat) ∧
 (0 :
 Nat) =
 (0 :
 Nat) ∧
 x_10.snd.fst.length +
 1 =
 (listN
 (jN
 x,
 t'.snd.snd.snd.fst)).length ∧
 y =
 t'.snd.snd.snd.snd) ∧
 Tr
 1
 ((↑t.fst :
 Int) +
 1 =
 (↑t'.fst :
 Int)) ∧
 Tr
 123
 True)) ∧
 true = true ∧
 ((51 : TypeId) =
 (51 :
 TypeId) ∧
 (1 : Nat) =
 (1 :
 Nat) ∧
 (2 : Nat) =
 (2 :
 Nat) ∧
 (∀
 (i :
 Nat),
 i <
 2 →
 [AV.int
 IntKind.i64
 (x.fst.getD
 i
 0)] =
 [AV.int
 IntKind.i64
 (x.fst.getD
 i
 0)]) ∧
 True) ∧
 ((3 : TypeId) =
 (3 :
 TypeId) ∧
 (1 : Nat) =
 (1 :
 Nat) ∧
 x_10.fst =
 t'.snd.fst ∧
 (listN
 (jS
 x)).length ≤
 x_10.snd.fst.length ∧
 ∀
 (i :
 Nat),
 i <
 (listN
 (jS
 x)).length →
 [AV.int
 IntKind.i64
 (x_10.snd.fst.getD
 i
 0)] =
 [AV.int
 IntKind.i64
 ((listN
 (jS
 x)).getD
 i
 0)]) ∧
 ((3 :
 TypeId) =
 (3 :
 TypeId) ∧
 (1 :
 Nat) =
 (1 :
 Nat) ∧
 t.snd.snd =
 t'.snd.snd.fst ∧
 (listN
 (jT
 x)).length ≤
 (listN
 (jT
 x)).length ∧
 ∀
 (i :
 Nat),
 i <
 (listN
 (jT
 x)).length →
 [AV.int
 IntKind.i64
 ((listN
 (jT
 x)).getD
 i
 0)] =
 [AV.int
 IntKind.i64
 ((listN
 (jT
 x)).getD
 i
 0)]) ∧
 setB
 (jS
 x) =
 setB
 (jS
 x) ∧
 setB
 (jT
 x) =
 setB
 (jT
 x) ∧
 setB
 (joinN
 (jS
 x)
 (jT
 x)) =
 setB
 (joinN
 (jS
 x)
 (jT
 x)) ∧
 setB
 (minusN
 (jS
 x)
 (jT
 x)) =
 setB
 (minusN
 (jS
 x)
 (jT
 x)) ∧
 ((3 :
 TypeId) =
 (3 :
 TypeId) ∧
 (1 :
 Nat) =
 (1 :
 Nat) ∧
 y =
 t'.snd.snd.snd.snd ∧
 (listN
 (jN
 x,
 t'.snd.snd.snd.fst)).length ≤
 x_10.snd.fst.length +
 1 ∧
 ∀
 (i :
 Nat),
 i <
 (listN
 (jN
 x,
 t'.snd.snd.snd.fst)).length →
 [AV.int
 IntKind.i64
 ((insI
 x_10.snd.fst
 x_10.snd.snd.snd).getD
 i
 0)] =
 [AV.int
 IntKind.i64
 ((listN
 (jN
 x,
 t'.snd.snd.snd.fst)).getD
 i
 0)]) ∧
 True)))
 (Exx (Nat × Nat → Prop) fun I =>
 (Exx ((Nat × Nat) × Unit) fun x_10 =>
 (((true = true ∧
 NilNil ∧ (0 : Nat) = (0 : Nat)) ∧
 True) ∧
 true = true ∧
 setB (joinN (jS x) (jT x)) =
 setB x_10.fst ∧
 True) ∧
 (SetW x_10.fst ∧ True) ∧
 ∀ (y : Unit),
 True →
 BC
 (!decide
 ((↑x_10.fst.fst : Int) =
 (↑(jN x) : Int)))
 (Exx Unit fun y =>
 ((false = true ∧ True) ∧
 true = true ∧ True) ∧
 True)
 (Exx ((Nat × Nat) × Unit)
 fun x_11 =>
 (((true = true ∧
 NilNil ∧
 (0 : Nat) =
 (0 : Nat)) ∧
 True) ∧
 true = true ∧
 setB
 (minusN (jS x)
 (jT x)) =
 setB x_11.fst ∧
 True) ∧
 (SetW x_11.fst ∧ True) ∧
 ∀ (y : Unit),
 True →
 BC
 (!decide
 ((↑x_11.fst.fst :
 Int) =
 (↑(jN x) :
 Int)))
 (Exx Unit fun y =>
 ((false = true ∧
 True) ∧
 true = true ∧
 True) ∧
 True)
 (Exx (Nat × Nat)
 fun x_12 =>
 (((true = true ∧
 NilNil ∧
 (0 :
 Nat) =
 (0 :
 Nat)) ∧
 True) ∧
 true = true ∧
 setB
 x_10.fst =
 setB
 x_12 ∧
 True) ∧
 SetW x_12 ∧
 ∀ (y : Nat),
 (listN
 x_12).length ≤
 y →
 Exx
 (List
 Int ×
 List
 Int)
 fun
 x_13 =>
 (((0 +
 (listN
 x_12).length ≤
 (listN
 x_12).length ∧
 (listN
 x_12).length =
 x_13.fst.length ∧
 ∀
 (i :
 Nat),
 i <
 x_13.fst.length →
 [AV.int
 IntKind.i64
 ((listN
 x_12).getD
 (0 +
 i)
 0)] =
 [AV.int
 IntKind.i64
 (x_13.fst.getD
 i
 0)]) ∧
 (0 +
 (listN
 (jS
 x)).length ≤
 (listN
 (jS
 x)).length ∧
 (listN
 (jS
 x)).length =
 x_13.snd.length ∧
 ∀
 (i :
 Nat),
 i <
 x_13.snd.length →
 [AV.int
 IntKind.i64
 ((listN
 (jS
 x)).getD
 (0 +
 i)
 0)] =
 [AV.int
 IntKind.i64
 (x_13.snd.getD
 i
 0)]) ∧
 True) ∧
 true =
 true ∧
 True) ∧
 (IntL
 x_13.fst ∧
 IntL
 x_13.snd) ∧
 ∀
 (y :
 Unit),
 True →
 BC
 (!decide
 (x_13.fst =
 x_13.snd))
 (Exx
 Unit
 fun
 y =>
 ((false =
 true ∧
 True) ∧
 true =
 true ∧
 True) ∧
 True)
 (Exx
 (Nat ×
 Nat)
 fun
 x_14 =>
 (((true =
 true ∧
 NilNil ∧
 (0 :
 Nat) =
 (0 :
 Nat)) ∧
 True) ∧
 true =
 true ∧
 setB
 x_11.fst =
 setB
 x_14 ∧
 True) ∧
 SetW
 x_14 ∧
 ∀
 (y :
 Nat),
 (listN
 x_14).length ≤
 y →
 Exx
 (List
 Int ×
 List
 Int)
 fun
 x_15 =>
 (((0 +
 (listN
 (jS
 x)).length ≤
 (listN
 (jS
 x)).length ∧
 (listN
 (jS
 x)).length =
 x_15.fst.length ∧
 ∀
 (i :
 Nat),
 i <
 x_15.fst.length →
 [AV.int
 IntKind.i64
 ((listN
 (jS
 x)).getD
 (0 +
 i)
 0)] =
 [AV.int
 IntKind.i64
 (x_15.fst.getD
 i
 0)]) ∧
 (0 +
 (listN
 (jT
 x)).length ≤
 (listN
 (jT
 x)).length ∧
 (listN
 (jT
 x)).length =
 x_15.snd.length ∧
 ∀
 (i :
 Nat),
 i <
 x_15.snd.length →
 [AV.int
 IntKind.i64
 ((listN
 (jT
 x)).getD
 (0 +
 i)
 0)] =
 [AV.int
 IntKind.i64
 (x_15.snd.getD
 i
 0)]) ∧
 True) ∧
 true =
 true ∧
 True) ∧
 (Ints
 x_15.fst ∧
 IntL
 x_15.snd) ∧
 ∀
 (y :
 Nat),
 (List.filter
 (fun
 y =>
 !decide
 (y ∈
 x_15.snd))
 x_15.fst).length ≤
 y →
 Exx
 (List
 Int ×
 List
 Int)
 fun
 x_16 =>
 (((0 +
 (listN
 x_14).length ≤
 (listN
 x_14).length ∧
 (listN
 x_14).length =
 x_16.fst.length ∧
 ∀
 (i :
 Nat),
 i <
 x_16.fst.length →
 [AV.int
 IntKind.i64
 ((listN
 x_14).getD
 (0 +
 i)
 0)] =
 [AV.int
 IntKind.i64
 (x_16.fst.getD
 i
 0)]) ∧
 (0 +
 (List.filter
 (fun
 y =>
 !decide
 (y ∈
 x_15.snd))
 x_15.fst).length ≤
 (List.filter
 (fun
 y =>
 !decide
 (y ∈
 x_15.snd))
 x_15.fst).length ∧
 (List.filter
 (fun
 y =>
 !decide
 (y ∈
 x_15.snd))
 x_15.fst).length =
 x_16.snd.length ∧
 ∀
 (i :
 Nat),
 i <
 x_16.snd.length →
 [AV.int
 IntKind.i64
 ((List.filter
 (fun
 y =>
 !decide
 (y ∈
 x_15.snd))
 x_15.fst).getD
 (0 +
 i)
 0)] =
 [AV.int
 IntKind.i64
 (x_16.snd.getD
 i
 0)]) ∧
 True) ∧
 true =
 true ∧
 True) ∧
 (IntL
 x_16.fst ∧
 IntL
 x_16.snd) ∧
 ∀
 (y :
 Unit),
 True →
 BC
 (!decide
 (x_16.fst =
 x_16.snd))
 (Exx
 Unit
 fun
 y =>
 ((false =
 true ∧
 True) ∧
 true =
 true ∧
 True) ∧
 True)
 (Exx
 (Nat ×
 Nat)
 fun
 t_1 =>
 I
 t_1 ∧
 Tr
 1
 (((1 :
 Nat) =
 (1 :
 Nat) ∧
 x.snd.fst.length =
 x.snd.fst.length ∧
 ∀
 (i :
 Nat),
 i <
 x.snd.fst.length →
 [AV.int
 IntKind.i64
 (x.snd.fst.getD
 i
 0)] =
 [AV.int
 IntKind.i64
 (x.snd.fst.getD
 i
 0)]) ∧
 ((1 :
 Nat) =
 (1 :
 Nat) ∧
 x.snd.snd.length =
 x.snd.snd.length ∧
 ∀
 (i :
 Nat),
 i <
 x.snd.snd.length →
 [AV.int
 IntKind.i64
 (x.snd.snd.getD
 i
 0)] =
 [AV.int
 IntKind.i64
 (x.snd.snd.getD
 i
 0)]) ∧
 (true =
 true ∧
 NilNil ∧
 (0 :
 Nat) =
 (0 :
 Nat)) ∧
 Tr
 3
 (Tr
 1
 ((↑(jN
 x) :
 Int) =
 (↑(jN
 x) :
 Int)) ∧
 Tr
 1
 ((↑(jM
 x) :
 Int) =
 (↑(jM
 x) :
 Int)) ∧
 (true =
 true ∧
 NilNil ∧
 (0 :
 Nat) =
 (0 :
 Nat) ∧
 (1 :
 Nat) =
 (1 :
 Nat) ∧
 (0 :
 Nat) =
 (0 :
 Nat) ∧
 (listN
 (jS
 x)).length =
 (listN
 (jS
 x)).length ∧
 t.snd.fst =
 t_1.fst) ∧
 (true =
 true ∧
 NilNil ∧
 (0 :
 Nat) =
 (0 :
 Nat) ∧
 (1 :
 Nat) =
 (1 :
 Nat) ∧
 (0 :
 Nat) =
 (0 :
 Nat) ∧
 (listN
 (jT
 x)).length =
 (listN
 (jT
 x)).length ∧
 t.snd.snd =
 t_1.snd) ∧
 (true =
 true ∧
 NilNil ∧
 (0 :
 Nat) =
 (0 :
 Nat)) ∧
 (true =
 true ∧
 NilNil ∧
 (0 :
 Nat) =
 (0 :
 Nat)) ∧
 (true =
 true ∧
 NilNil ∧
 (0 :
 Nat) =
 (0 :
 Nat)) ∧
 (true =
 true ∧
 NilNil ∧
 (0 :
 Nat) =
 (0 :
 Nat)) ∧
 Tr
 125
 True)) ∧
 true =
 true ∧
 ((51 :
 TypeId) =
 (51 :
 TypeId) ∧
 (1 :
 Nat) =
 (1 :
 Nat) ∧
 (2 :
 Nat) =
 (2 :
 Nat) ∧
 (∀
 (i :
 Nat),
 i <
 2 →
 [AV.int
 IntKind.i64
 (x.fst.getD
 i
 0)] =
 [AV.int
 IntKind.i64
 (x.fst.getD
 i
 0)]) ∧
 True) ∧
 ((3 :
 TypeId) =
 (3 :
 TypeId) ∧
 (1 :
 Nat) =
 (1 :
 Nat) ∧
 t.snd.fst =
 t_1.fst ∧
 (listN
 (jS
 x)).length ≤
 (listN
 (jS
 x)).length ∧
 ∀
 (i :
 Nat),
 i <
 (listN
 (jS
 x)).length →
 [AV.int
 IntKind.i64
 ((listN
 (jS
 x)).getD
 i
 0)] =
 [AV.int
 IntKind.i64
 ((listN
 (jS
 x)).getD
 i
 0)]) ∧
 ((3 :
 TypeId) =
 (3 :
 TypeId) ∧
 (1 :
 Nat) =
 (1 :
 Nat) ∧
 t.snd.snd =
 t_1.snd ∧
 (listN
 (jT
 x)).length ≤
 (listN
 (jT
 x)).length ∧
 ∀
 (i :
 Nat),
 i <
 (listN
 (jT
 x)).length →
 [AV.int
 IntKind.i64
 ((listN
 (jT
 x)).getD
 i
 0)] =
 [AV.int
 IntKind.i64
 ((listN
 (jT
 x)).getD
 i
 0)]) ∧
 setB
 (jS
 x) =
 setB
 (jS
 x) ∧
 setB
 (jT
 x) =
 setB
 (jT
 x) ∧
 setB
 x_12 =
 setB
 (joinN
 (jS
 x)
 (jT
 x)) ∧
 setB
 x_14 =
 setB
 (minusN
 (jS
 x)
 (jT
 x)) ∧
 True))))) ∧
 ∀ (t : Nat × Nat),
 I t →
 Exx ((Nat × Nat) × List Int) fun x_10 =>
 (((true = true ∧
 NilNil ∧
 (0 : Nat) = (0 : Nat)) ∧
 ((0 : Nat) + (3 : Nat) ≤
 (3 : Nat) ∧
 3 = x_10.snd.length ∧
 ∀ (i : Nat),
 i < x_10.snd.length →
 [AV.int IntKind.i64
 (if
 0 + i =
 2 * 1 /
 1 then
 2
 else
 if
 0 + i =
 1 * 1 /
 1 then
 1
 else
 if
 0 + i =
 0 *
 1 /
 1 then
 0
 else 0)] =
 [AV.int IntKind.i64
 (x_10.snd.getD i
 0)]) ∧
 True) ∧
 true = true ∧
 setB (joinN (jS x) (jT x)) =
 setB x_10.fst ∧
 True) ∧
 (SetW x_10.fst ∧ Ints x_10.snd) ∧
 ∀ (y : Unit),
 True →
 Exx ((Nat × Nat) × List Int)
 fun x_11 =>
 (((true = true ∧
 NilNil ∧
 (0 : Nat) =
 (0 : Nat)) ∧
 (x.snd.fst.length =
 x_11.snd.length ∧
 ∀ (i : Nat),
 i <
 x_11.snd.length →
 [AV.int
 IntKind.i64
 (x.snd.fst.getD
 i
 0)] =
 [AV.int
 IntKind.i64
 (x_11.snd.getD
 i
 0)]) ∧
 True) ∧
 true = true ∧
 setB
 (minusN (jS x)
 (jT x)) =
 setB x_11.fst ∧
 True) ∧
 (SetW x_11.fst ∧
 Ints x_11.snd) ∧
 ∀ (y : Unit),
 True →
 Exx (Nat × Nat)
 fun x_12 =>
 (((true = true ∧
 NilNil ∧
 (0 :
 Nat) =
 (0 :
 Nat)) ∧
 True) ∧
 true = true ∧
 setB
 (jS
 x) =
 setB
 x_12 ∧
 True) ∧
 SetW x_12 ∧
 ∀ (y : Nat),
 (listN
 x_12).length ≤
 y →
 Exx
 (List
 Int ×
 List
 Int)
 fun
 x_13 =>
 (((0 +
 (listN
 x_12).length ≤
 (listN
 x_12).length ∧
 (listN
 x_12).length =
 x_13.fst.length ∧
 ∀
 (i :
 Nat),
 i <
 x_13.fst.length →
 [AV.int
 IntKind.i64
 ((listN
 x_12).getD
 (0 +
 i)
 0)] =
 [AV.int
 IntKind.i64
 (x_13.fst.getD
 i
 0)]) ∧
 (0 +
 (listN
 (jS
 x)).length ≤
 (listN
 (jS
 x)).length ∧
 (listN
 (jS
 x)).length =
 x_13.snd.length ∧
 ∀
 (i :
 Nat),
 i <
 x_13.snd.length →
 [AV.int
 IntKind.i64
 ((listN
 (jS
 x)).getD
 (0 +
 i)
 0)] =
 [AV.int
 IntKind.i64
 (x_13.snd.getD
 i
 0)]) ∧
 True) ∧
 true =
 true ∧
 True) ∧
 (IntL
 x_13.fst ∧
 IntL
 x_13.snd) ∧
 ∀
 (y :
 Unit),
 True →
 BC
 (decide
 (x_13.fst =
 x_13.snd))
 (Exx
 (Nat ×
 Nat)
 fun
 x_14 =>
 (((true =
 true ∧
 NilNil ∧
 (0 :
 Nat) =
 (0 :
 Nat)) ∧
 True) ∧
 true =
 true ∧
 setB
 (jT
 x) =
 setB
 x_14 ∧
 True) ∧
 SetW
 x_14 ∧
 ∀
 (y :
 Nat),
 (listN
 x_14).length ≤
 y →
 Exx
 (List
 Int ×
 List
 Int)
 fun
 x_15 =>
 (((0 +
 (listN
 x_14).length ≤
 (listN
 x_14).length ∧
 (listN
 x_14).length =
 x_15.fst.length ∧
 ∀
 (i :
 Nat),
 i <
 x_15.fst.length →
 [AV.int
 IntKind.i64
 ((listN
 x_14).getD
 (0 +
 i)
 0)] =
 [AV.int
 IntKind.i64
 (x_15.fst.getD
 i
 0)]) ∧
 (0 +
 (listN
 (jT
 x)).length ≤
 (listN
 (jT
 x)).length ∧
 (listN
 (jT
 x)).length =
 x_15.snd.length ∧
 ∀
 (i :
 Nat),
 i <
 x_15.snd.length →
 [AV.int
 IntKind.i64
 ((listN
 (jT
 x)).getD
 (0 +
 i)
 0)] =
 [AV.int
 IntKind.i64
 (x_15.snd.getD
 i
 0)]) ∧
 True) ∧
 true =
 true ∧
 True) ∧
 (IntL
 x_15.fst ∧
 IntL
 x_15.snd) ∧
 ∀
 (y :
 Unit),
 True →
 BC
 (decide
 (x_15.fst =
 x_15.snd))
 (Exx
 ((Nat ×
 Nat) ×
 Nat ×
 Nat)
 fun
 x_16 =>
 (((true =
 true ∧
 NilNil ∧
 (0 :
 Nat) =
 (0 :
 Nat)) ∧
 (true =
 true ∧
 NilNil ∧
 (0 :
 Nat) =
 (0 :
 Nat)) ∧
 True) ∧
 true =
 true ∧
 setB
 x_12 =
 setB
 x_16.fst ∧
 setB
 x_14 =
 setB
 x_16.snd ∧
 True) ∧
 (SetW
 x_16.fst ∧
 SetW
 x_16.snd) ∧
 ∀
 (y :
 Unit),
 True →
 BC
 (decide
 ((↑(jN
 x) :
 Int) =
 (↑(jM
 x) :
 Int)))
 (Exx
 (List
 Int ×
 List
 Int)
 fun
 x_17 =>
 (((0 +
 (listN
 (jS
 x)).length ≤
 (listN
 (jS
 x)).length ∧
 (listN
 (jS
 x)).length =
 x_17.fst.length ∧
 ∀
 (i :
 Nat),
 i <
 x_17.fst.length →
 [AV.int
 IntKind.i64
 ((listN
 (jS
 x)).getD
 (0 +
 i)
 0)] =
 [AV.int
 IntKind.i64
 (x_17.fst.getD
 i
 0)]) ∧
 (0 +
 (listN
 (jT
 x)).length ≤
 (listN
 (jT
 x)).length ∧
 (listN
 (jT
 x)).length =
 x_17.snd.length ∧
 ∀
 (i :
 Nat),
 i <
 x_17.snd.length →
 [AV.int
 IntKind.i64
 ((listN
 (jT
 x)).getD
 (0 +
 i)
 0)] =
 [AV.int
 IntKind.i64
 (x_17.snd.getD
 i
 0)]) ∧
 True) ∧
 true =
 true ∧
 True) ∧
 (IntL
 x_17.fst ∧
 IntL
 x_17.snd) ∧
 ∀
 (y :
 Unit),
 True →
 BC
 (decide
 (x_16.fst =
 x_16.snd) ==
 decide
 (x_17.fst =
 x_17.snd))
 (((0 :
 Int) ≤
 (0 :
 Int) ∧
 (0 :
 Int) <
 (↑(2 :
 Nat) :
 Int)) ∧
 (0 :
 Int).toNat <
 (2 :
 Nat) ∧
 Exx
 (Int ×
 List
 Int)
 fun
 x_18 =>
 ((Tr
 1
 (x.fst.getD
 (Int.toNat
 0)
 0 =
 x_18.fst) ∧
 (0 +
 (listN
 (jS
 x)).length ≤
 (listN
 (jS
 x)).length ∧
 (listN
 (jS
 x)).length =
 x_18.snd.length ∧
 ∀
 (i :
 Nat),
 i <
 x_18.snd.length →
 [AV.int
 IntKind.i64
 ((listN
 (jS
 x)).getD
 (0 +
 i)
 0)] =
 [AV.int
 IntKind.i64
 (x_18.snd.getD
 i
 0)]) ∧
 True) ∧
 true =
 true ∧
 True) ∧
 (I64
 x_18.fst ∧
 Ints
 x_18.snd) ∧
 ∀
 (y :
 Unit),
 True →
 Exx
 ((Nat ×
 Nat) ×
 Nat ×
 Nat)
 fun
 x =>
 (((true =
 true ∧
 NilNil ∧
 (0 :
 Nat) =
 (0 :
 Nat)) ∧
 (true =
 true ∧
 NilNil ∧
 (0 :
 Nat) =
 (0 :
 Nat)) ∧
 True) ∧
 true =
 true ∧
 setB
 x_16.fst =
 setB
 x.fst ∧
 setB
 (clampN
 x_18.fst,
 addL
 (clampN
 x_18.fst)
 0
 x_18.snd) =
 setB
 x.snd ∧
 True) ∧
 (SetW
 x.fst ∧
 SetW
 x.snd) ∧
 ∀
 (y :
 Unit),
 True →
 Exx
 Unit
 fun
 y =>
 ((decide
 (x.fst =
 x.snd) =
 true ∧
 True) ∧
 true =
 true ∧
 True) ∧
 True)
 (Exx
 Unit
 fun
 y =>
 ((false =
 true ∧
 True) ∧
 true =
 true ∧
 True) ∧
 True))
 (BC
 (decide
 (x_16.fst =
 x_16.snd) ==
 false)
 (((0 :
 Int) ≤
 (0 :
 Int) ∧
 (0 :
 Int) <
 (↑(2 :
 Nat) :
 Int)) ∧
 (0 :
 Int).toNat <
 (2 :
 Nat) ∧
 Exx
 (Int ×
 List
 Int)
 fun
 x_17 =>
 ((Tr
 1
 (x.fst.getD
 (Int.toNat
 0)
 0 =
 x_17.fst) ∧
 (0 +
 (listN
 (jS
 x)).length ≤
 (listN
 (jS
 x)).length ∧
 (listN
 (jS
 x)).length =
 x_17.snd.length ∧
 ∀
 (i :
 Nat),
 i <
 x_17.snd.length →
 [AV.int
 IntKind.i64
 ((listN
 (jS
 x)).getD
 (0 +
 i)
 0)] =
 [AV.int
 IntKind.i64
 (x_17.snd.getD
 i
 0)]) ∧
 True) ∧
 true =
 true ∧
 True) ∧
 (I64
 x_17.fst ∧
 Ints
 x_17.snd) ∧
 ∀
 (y :
 Unit),
 True →
 Exx
 ((Nat ×
 Nat) ×
 Nat ×
 Nat)
 fun
 x =>
 (((true =
 true ∧
 NilNil ∧
 (0 :
 Nat) =
 (0 :
 Nat)) ∧
 (true =
 true ∧
 NilNil ∧
 (0 :
 Nat) =
 (0 :
 Nat)) ∧
 True) ∧
 true =
 true ∧
 setB
 x_16.fst =
 setB
 x.fst ∧
 setB
 (clampN
 x_17.fst,
 addL
 (clampN
 x_17.fst)
 0
 x_17.snd) =
 setB
 x.snd ∧
 True) ∧
 (SetW
 x.fst ∧
 SetW
 x.snd) ∧
 ∀
 (y :
 Unit),
 True →
 Exx
 Unit
 fun
 y =>
 ((decide
 (x.fst =
 x.snd) =
 true ∧
 True) ∧
 true =
 true ∧
 True) ∧
 True)
 (Exx
 Unit
 fun
 y =>
 ((false =
 true ∧
 True) ∧
 true =
 true ∧
 True) ∧
 True)))
 (Exx
 Unit
 fun
 y =>
 ((false =
 true ∧
 True) ∧
 true =
 true ∧
 True) ∧
 True))
 (Exx
 Unit
 fun
 y =>
 ((false =
 true ∧
 True) ∧
 true =
 true ∧
 True) ∧
 True))) ∧
 ∀ (t : Nat × Nat × Nat × Nat × Nat),
 J t →
 BC
 (decide
 ((↑t.fst : Int) <
 (↑(listN (jT x)).length : Int)))
 (((0 : Int) ≤ (↑t.fst : Int) ∧
 (↑t.fst : Int) <
 (↑(listN (jT x)).length : Int)) ∧
 0 + (↑t.fst : Int).toNat <
 (listN (jT x)).length ∧
 Exx (Nat × List Int × Int × Int) fun x_10 =>
 (((true = true ∧
 NilNil ∧
 (0 : Nat) = (0 : Nat) ∧
 (1 : Nat) = (1 : Nat) ∧
 (0 : Nat) = (0 : Nat) ∧
 (listN
 (jN x,
 t.snd.snd.snd.fst)).length =
 x_10.snd.fst.length ∧
 t.snd.snd.snd.snd =
 x_10.fst) ∧
 Tr 1
 ((↑(jN x) : Int) =
 x_10.snd.snd.fst) ∧
 Tr 1
 ((listN (jT x)).getD
 (0 + (↑t.fst : Int).toNat)
 0 =
 x_10.snd.snd.snd) ∧
 True) ∧
 true = true ∧
 ((3 : TypeId) = (3 : TypeId) ∧
 (1 : Nat) = (1 : Nat) ∧
 t.snd.snd.snd.snd = x_10.fst ∧
 x_10.snd.fst.length ≤
 (listN
 (jN x,
 t.snd.snd.snd.fst)).length ∧
 ∀ (i : Nat),
 i <
 x_10.snd.fst.length →
 [AV.int IntKind.i64
 ((listN
 (jN x,
 t.snd.snd.snd.fst)).getD
 i 0)] =
 [AV.int IntKind.i64
 (x_10.snd.fst.getD
 i 0)]) ∧
 True) ∧
 (Ints x_10.snd.fst ∧
 x_10.snd.fst.length ≤ x_10.fst ∧
 x_10.fst ≤ 9223372036854775807 ∧
 I64 x_10.snd.snd.fst ∧
 I64 x_10.snd.snd.snd ∧
 List.Pairwise
 (fun x1 x2 => x1 < x2)
 x_10.snd.fst) ∧
 (x_10.snd.snd.snd < (0 : Int) ∨
 x_10.snd.snd.fst ≤
 x_10.snd.snd.snd ∨
 x_10.snd.snd.snd ∈
 x_10.snd.fst →
 ∀ (y : Unit),
 True →
 I64 ((↑t.fst : Int) + 1) ∧
 ((Exx (Nat × Nat × Nat)
 fun t' =>
 (I t' ∧ m t' < n t) ∧
 Tr 1
 (((1 : Nat) =
 (1 : Nat) ∧
 x.snd.fst.length =
 x.snd.fst.length ∧
 ∀ (i : Nat),
 i <
 x.snd.fst.length →
 [AV.int
 IntKind.i64
 (x.snd.fst.getD
 i
 0)] =
 [AV.int
 IntKind.i64
 (x.snd.fst.getD
 i
 0)]) ∧
 ((1 : Nat) =
 (1 :
 Nat) ∧
 x.snd.snd.length =
 x.snd.snd.length ∧
 ∀
 (i :
 Nat),
 i <
 x.snd.snd.length →
 [AV.int
 IntKind.i64
 (x.snd.snd.getD
 i
 0)] =
 [AV.int
 IntKind.i64
 (x.snd.snd.getD
 i
 0)]) ∧
 (true = true ∧
 NilNil ∧
 (0 :
 Nat) =
 (0 :
 Nat)) ∧
 Tr 3
 (Tr 1
 ((↑(jN
 x) :
 Int) =
 (↑(jN
 x) :
 Int)) ∧
 Tr 1
 ((↑(jM
 x) :
 Int) =
 (↑(jM
 x) :
 Int)) ∧
 (true =
 true ∧
 NilNil ∧
 (0 :
 Nat) =
 (0 :
 Nat) ∧
 (1 :
 Nat) =
 (1 :
 Nat) ∧
 (0 :
 Nat) =
 (0 :
 Nat) ∧
 (listN
 (jS
 x)).length =
 (listN
 (jS
 x)).length ∧
 t.snd.fst =
 t'.snd.fst) ∧
 (true =
 true ∧
 NilNil ∧
 (0 :
 Nat) =
 (0 :
 Nat) ∧
 (1 :
 Nat) =
 (1 :
 Nat) ∧
 (0 :
 Nat) =
 (0 :
 Nat) ∧
 (listN
 (jT
 x)).length =
 (listN
 (jT
 x)).length ∧
 t.snd.snd.fst =
 t'.snd.snd) ∧
 (true =
 true ∧
 NilNil ∧
 (0 :
 Nat) =
 (0 :
 Nat)) ∧
 (true =
 true ∧
 NilNil ∧
 (0 :
 Nat) =
 (0 :
 Nat)) ∧
 (true =
 true ∧
 NilNil ∧
 (0 :
 Nat) =
 (0 :
 Nat)) ∧
 (true =
 true ∧
 NilNil ∧
 (0 :
 Nat) =
 (0 :
 Nat)) ∧
 (false =
 true ∧
 NilNil ∧
 (0 :
 Nat) =
 (0 :
 Nat) ∧
 (1 :
 Nat) =
 (1 :
 Nat) ∧
 (0 :
 Nat) =
 (0 :
 Nat) ∧
 x_10.snd.fst.length =
 (listN
 (jS
 x)).length ∧
 x_10.fst =
 t'.snd.fst) ∧
 Tr
 1
 ((↑t.fst :
 Int) +
 1 =
 (↑t'.fst :
 Int)) ∧
 Tr
 123
 True)) ∧
 true = true ∧
 ((51 : TypeId) =
 (51 :
 TypeId) ∧
 (1 : Nat) =
 (1 :
 Nat) ∧
 (2 : Nat) =
 (2 :
 Nat) ∧
 (∀
 (i :
 Nat),
 i <
 2 →
 [AV.int
 IntKind.i64
 (x.fst.getD
 i
 0)] =
 [AV.int
 IntKind.i64
 (x.fst.getD
 i
 0)]) ∧
 True) ∧
 ((3 : TypeId) =
 (3 :
 TypeId) ∧
 (1 : Nat) =
 (1 :
 Nat) ∧
 t.snd.fst =
 t'.snd.fst ∧
 (listN
 (jS
 x)).length ≤
 (listN
 (jS
 x)).length ∧
 ∀
 (i :
 Nat),
 i <
 (listN
 (jS
 x)).length →
 [AV.int
 IntKind.i64
 ((listN
 (jS
 x)).getD
 i
 0)] =
 [AV.int
 IntKind.i64
 ((listN
 (jS
 x)).getD
 i
 0)]) ∧
 ((3 :
 TypeId) =
 (3 :
 TypeId) ∧
 (1 :
 Nat) =
 (1 :
 Nat) ∧
 t.snd.snd.fst =
 t'.snd.snd ∧
 (listN
 (jT
 x)).length ≤
 (listN
 (jT
 x)).length ∧
 ∀
 (i :
 Nat),
 i <
 (listN
 (jT
 x)).length →
 [AV.int
 IntKind.i64
 ((listN
 (jT
 x)).getD
 i
 0)] =
 [AV.int
 IntKind.i64
 ((listN
 (jT
 x)).getD
 i
 0)]) ∧
 setB
 (jS
 x) =
 setB
 (jS
 x) ∧
 setB
 (jT
 x) =
 setB
 (jT
 x) ∧
 setB
 (joinN
 (jS
 x)
 (jT
 x)) =
 setB
 (joinN
 (jS
 x)
 (jT
 x)) ∧
 setB
 (minusN
 (jS
 x)
 (jT
 x)) =
 setB
 (minusN
 (jS
 x)
 (jT
 x)) ∧
 True) ∨
 Exx
 (Nat ×
 Nat × Nat × Nat × Nat)
 fun t' =>
 (J t' ∧ n t' < n t) ∧
 Tr 1
 (((1 : Nat) =
 (1 : Nat) ∧
 x.snd.fst.length =
 x.snd.fst.length ∧
 ∀ (i : Nat),
 i <
 x.snd.fst.length →
 [AV.int
 IntKind.i64
 (x.snd.fst.getD
 i
 0)] =
 [AV.int
 IntKind.i64
 (x.snd.fst.getD
 i
 0)]) ∧
 ((1 : Nat) =
 (1 :
 Nat) ∧
 x.snd.snd.length =
 x.snd.snd.length ∧
 ∀
 (i :
 Nat),
 i <
 x.snd.snd.length →
 [AV.int
 IntKind.i64
 (x.snd.snd.getD
 i
 0)] =
 [AV.int
 IntKind.i64
 (x.snd.snd.getD
 i
 0)]) ∧
 (true = true ∧
 NilNil ∧
 (0 :
 Nat) =
 (0 :
 Nat)) ∧
 Tr 3
 (Tr 1
 ((↑(jN
 x) :
 Int) =
 (↑(jN
 x) :
 Int)) ∧
 Tr 1
 ((↑(jM
 x) :
 Int) =
 (↑(jM
 x) :
 Int)) ∧
 (true =
 true ∧
 NilNil ∧
 (0 :
 Nat) =
 (0 :
 Nat) ∧
 (1 :
 Nat) =
 (1 :
 Nat) ∧
 (0 :
 Nat) =
 (0 :
 Nat) ∧
 (listN
 (jS
 x)).length =
 (listN
 (jS
 x)).length ∧
 t.snd.fst =
 t'.snd.fst) ∧
 (true =
 true ∧
 NilNil ∧
 (0 :
 Nat) =
 (0 :
 Nat) ∧
 (1 :
 Nat) =
 (1 :
 Nat) ∧
 (0 :
 Nat) =
 (0 :
 Nat) ∧
 (listN
 (jT
 x)).length =
 (listN
 (jT
 x)).length ∧
 t.snd.snd.fst =
 t'.snd.snd.fst) ∧
 (true =
 true ∧
 NilNil ∧
 (0 :
 Nat) =
 (0 :
 Nat)) ∧
 (true =
 true ∧
 NilNil ∧
 (0 :
 Nat) =
 (0 :
 Nat)) ∧
 (true =
 true ∧
 NilNil ∧
 (0 :
 Nat) =
 (0 :
 Nat)) ∧
 (true =
 true ∧
 NilNil ∧
 (0 :
 Nat) =
 (0 :
 Nat)) ∧
 (true =
 true ∧
 NilNil ∧
 (0 :
 Nat) =
 (0 :
 Nat) ∧
 (1 :
 Nat) =
 (1 :
 Nat) ∧
 (0 :
 Nat) =
 (0 :
 Nat) ∧
 x_10.snd.fst.length =
 (listN
 (jN
 x,
 t'.snd.snd.snd.fst)).length ∧
 x_10.fst =
 t'.snd.snd.snd.snd) ∧
 Tr
 1
 ((↑t.fst :
 Int) +
 1 =
 (↑t'.fst :
 Int)) ∧
 Tr
 123
 True)) ∧
 true = true ∧
 ((51 : TypeId) =
 (51 :
 TypeId) ∧
 (1 : Nat) =
 (1 :
 Nat) ∧
 (2 : Nat) =
 (2 :
 Nat) ∧
 (∀
 (i :
 Nat),
 i <
 2 →
 [AV.int
 IntKind.i64
 (x.fst.getD
 i
 0)] =
 [AV.int
 IntKind.i64
 (x.fst.getD
 i
 0)]) ∧
 True) ∧
 ((3 : TypeId) =
 (3 :
 TypeId) ∧
 (1 : Nat) =
 (1 :
 Nat) ∧
 t.snd.fst =
 t'.snd.fst ∧
 (listN
 (jS
 x)).length ≤
 (listN
 (jS
 x)).length ∧
 ∀
 (i :
 Nat),
 i <
 (listN
 (jS
 x)).length →
 [AV.int
 IntKind.i64
 ((listN
 (jS
 x)).getD
 i
 0)] =
 [AV.int
 IntKind.i64
 ((listN
 (jS
 x)).getD
 i
 0)]) ∧
 ((3 :
 TypeId) =
 (3 :
 TypeId) ∧
 (1 :
 Nat) =
 (1 :
 Nat) ∧
 t.snd.snd.fst =
 t'.snd.snd.fst ∧
 (listN
 (jT
 x)).length ≤
 (listN
 (jT
 x)).length ∧
 ∀
 (i :
 Nat),
 i <
 (listN
 (jT
 x)).length →
 [AV.int
 IntKind.i64
 ((listN
 (jT
 x)).getD
 i
 0)] =
 [AV.int
 IntKind.i64
 ((listN
 (jT
 x)).getD
 i
 0)]) ∧
 setB
 (jS
 x) =
 setB
 (jS
 x) ∧
 setB
 (jT
 x) =
 setB
 (jT
 x) ∧
 setB
 (joinN
 (jS
 x)
 (jT
 x)) =
 setB
 (joinN
 (jS
 x)
 (jT
 x)) ∧
 setB
 (minusN
 (jS
 x)
 (jT
 x)) =
 setB
 (minusN
 (jS
 x)
 (jT
 x)) ∧
 ((3 :
 TypeId) =
 (3 :
 TypeId) ∧
 (1 :
 Nat) =
 (1 :
 Nat) ∧
 x_10.fst =
 t'.snd.snd.snd.snd ∧
 (listN
 (jN
 x,
 t'.snd.snd.snd.fst)).length ≤
 x_10.snd.fst.length ∧
 ∀
 (i :
 Nat),
 i <
 (listN
 (jN
 x,
 t'.snd.snd.snd.fst)).length →
 [AV.int
 IntKind.i64
 (x_10.snd.fst.getD
 i
 0)] =
 [AV.int
 IntKind.i64
 ((listN
 (jN
 x,
 t'.snd.snd.snd.fst)).getD
 i
 0)]) ∧
 True)) ∧
 (¬refAddI.p x_10 →
 ∀ (y : Nat),
 x_10.snd.fst.length + 1 ≤ y ∧
 y ≤ 9223372036854775807 →
 I64 ((↑t.fst : Int) + 1) ∧
 ((Exx (Nat × Nat × Nat)
 fun t' =>
 (I t' ∧ m t' < n t) ∧
 Tr 1
 (((1 : Nat) =
 (1 : Nat) ∧
 x.snd.fst.length =
 x.snd.fst.length ∧
 ∀ (i : Nat),
 i <
 x.snd.fst.length →
 [AV.int
 IntKind.i64
 (x.snd.fst.getD
 i
 0)] =
 [AV.int
 IntKind.i64
 (x.snd.fst.getD
 i
 0)]) ∧
 ((1 : Nat) =
 (1 :
 Nat) ∧
 x.snd.snd.length =
 x.snd.snd.length ∧
 ∀
 (i :
 Nat),
 i <
 x.snd.snd.length →
 [AV.int
 IntKind.i64
 (x.snd.snd.getD
 i
 0)] =
 [AV.int
 IntKind.i64
 (x.snd.snd.getD
 i
 0)]) ∧
 (true = true ∧
 NilNil ∧
 (0 :
 Nat) =
 (0 :
 Nat)) ∧
 Tr 3
 (Tr 1
 ((↑(jN
 x) :
 Int) =
 (↑(jN
 x) :
 Int)) ∧
 Tr 1
 ((↑(jM
 x) :
 Int) =
 (↑(jM
 x) :
 Int)) ∧
 (true =
 true ∧
 NilNil ∧
 (0 :
 Nat) =
 (0 :
 Nat) ∧
 (1 :
 Nat) =
 (1 :
 Nat) ∧
 (0 :
 Nat) =
 (0 :
 Nat) ∧
 (listN
 (jS
 x)).length =
 (listN
 (jS
 x)).length ∧
 t.snd.fst =
 t'.snd.fst) ∧
 (true =
 true ∧
 NilNil ∧
 (0 :
 Nat) =
 (0 :
 Nat) ∧
 (1 :
 Nat) =
 (1 :
 Nat) ∧
 (0 :
 Nat) =
 (0 :
 Nat) ∧
 (listN
 (jT
 x)).length =
 (listN
 (jT
 x)).length ∧
 t.snd.snd.fst =
 t'.snd.snd) ∧
 (true =
 true ∧
 NilNil ∧
 (0 :
 Nat) =
 (0 :
 Nat)) ∧
 (true =
 true ∧
 NilNil ∧
 (0 :
 Nat) =
 (0 :
 Nat)) ∧
 (true =
 true ∧
 NilNil ∧
 (0 :
 Nat) =
 (0 :
 Nat)) ∧
 (true =
 true ∧
 NilNil ∧
 (0 :
 Nat) =
 (0 :
 Nat)) ∧
 (false =
 true ∧
 NilNil ∧
 (0 :
 Nat) =
 (0 :
 Nat) ∧
 (1 :
 Nat) =
 (1 :
 Nat) ∧
 (0 :
 Nat) =
 (0 :
 Nat) ∧
 x_10.snd.fst.length +
 1 =
 (listN
 (jS
 x)).length ∧
 y =
 t'.snd.fst) ∧
 Tr
 1
 ((↑t.fst :
 Int) +
 1 =
 (↑t'.fst :
 Int)) ∧
 Tr
 123
 True)) ∧
 true = true ∧
 ((51 : TypeId) =
 (51 :
 TypeId) ∧
 (1 : Nat) =
 (1 :
 Nat) ∧
 (2 : Nat) =
 (2 :
 Nat) ∧
 (∀
 (i :
 Nat),
 i <
 2 →
 [AV.int
 IntKind.i64
 (x.fst.getD
 i
 0)] =
 [AV.int
 IntKind.i64
 (x.fst.getD
 i
 0)]) ∧
 True) ∧
 ((3 : TypeId) =
 (3 :
 TypeId) ∧
 (1 : Nat) =
 (1 :
 Nat) ∧
 t.snd.fst =
 t'.snd.fst ∧
 (listN
 (jS
 x)).length ≤
 (listN
 (jS
 x)).length ∧
 ∀
 (i :
 Nat),
 i <
 (listN
 (jS
 x)).length →
 [AV.int
 IntKind.i64
 ((listN
 (jS
 x)).getD
 i
 0)] =
 [AV.int
 IntKind.i64
 ((listN
 (jS
 x)).getD
 i
 0)]) ∧
 ((3 :
 TypeId) =
 (3 :
 TypeId) ∧
 (1 :
 Nat) =
 (1 :
 Nat) ∧
 t.snd.snd.fst =
 t'.snd.snd ∧
 (listN
 (jT
 x)).length ≤
 (listN
 (jT
 x)).length ∧
 ∀
 (i :
 Nat),
 i <
 (listN
 (jT
 x)).length →
 [AV.int
 IntKind.i64
 ((listN
 (jT
 x)).getD
 i
 0)] =
 [AV.int
 IntKind.i64
 ((listN
 (jT
 x)).getD
 i
 0)]) ∧
 setB
 (jS
 x) =
 setB
 (jS
 x) ∧
 setB
 (jT
 x) =
 setB
 (jT
 x) ∧
 setB
 (joinN
 (jS
 x)
 (jT
 x)) =
 setB
 (joinN
 (jS
 x)
 (jT
 x)) ∧
 setB
 (minusN
 (jS
 x)
 (jT
 x)) =
 setB
 (minusN
 (jS
 x)
 (jT
 x)) ∧
 True) ∨
 Exx
 (Nat ×
 Nat × Nat × Nat × Nat)
 fun t' =>
 (J t' ∧ n t' < n t) ∧
 Tr 1
 (((1 : Nat) =
 (1 : Nat) ∧
 x.snd.fst.length =
 x.snd.fst.length ∧
 ∀ (i : Nat),
 i <
 x.snd.fst.length →
 [AV.int
 IntKind.i64
 (x.snd.fst.getD
 i
 0)] =
 [AV.int
 IntKind.i64
 (x.snd.fst.getD
 i
 0)]) ∧
 ((1 : Nat) =
 (1 :
 Nat) ∧
 x.snd.snd.length =
 x.snd.snd.length ∧
 ∀
 (i :
 Nat),
 i <
 x.snd.snd.length →
 [AV.int
 IntKind.i64
 (x.snd.snd.getD
 i
 0)] =
 [AV.int
 IntKind.i64
 (x.snd.snd.getD
 i
 0)]) ∧
 (true = true ∧
 NilNil ∧
 (0 :
 Nat) =
 (0 :
 Nat)) ∧
 Tr 3
 (Tr 1
 ((↑(jN
 x) :
 Int) =
 (↑(jN
 x) :
 Int)) ∧
 Tr 1
 ((↑(jM
 x) :
 Int) =
 (↑(jM
 x) :
 Int)) ∧
 (true =
 true ∧
 NilNil ∧
 (0 :
 Nat) =
 (0 :
 Nat) ∧
 (1 :
 Nat) =
 (1 :
 Nat) ∧
 (0 :
 Nat) =
 (0 :
 Nat) ∧
 (listN
 (jS
 x)).length =
 (listN
 (jS
 x)).length ∧
 t.snd.fst =
 t'.snd.fst) ∧
 (true =
 true ∧
 NilNil ∧
 (0 :
 Nat) =
 (0 :
 Nat) ∧
 (1 :
 Nat) =
 (1 :
 Nat) ∧
 (0 :
 Nat) =
 (0 :
 Nat) ∧
 (listN
 (jT
 x)).length =
 (listN
 (jT
 x)).length ∧
 t.snd.snd.fst =
 t'.snd.snd.fst) ∧
 (true =
 true ∧
 NilNil ∧
 (0 :
 Nat) =
 (0 :
 Nat)) ∧
 (true =
 true ∧
 NilNil ∧
 (0 :
 Nat) =
 (0 :
 Nat)) ∧
 (true =
 true ∧
 NilNil ∧
 (0 :
 Nat) =
 (0 :
 Nat)) ∧
 (true =
 true ∧
 NilNil ∧
 (0 :
 Nat) =
 (0 :
 Nat)) ∧
 (true =
 true ∧
 NilNil ∧
 (0 :
 Nat) =
 (0 :
 Nat) ∧
 (1 :
 Nat) =
 (1 :
 Nat) ∧
 (0 :
 Nat) =
 (0 :
 Nat) ∧
 x_10.snd.fst.length +
 1 =
 (listN
 (jN
 x,
 t'.snd.snd.snd.fst)).length ∧
 y =
 t'.snd.snd.snd.snd) ∧
 Tr
 1
 ((↑t.fst :
 Int) +
 1 =
 (↑t'.fst :
 Int)) ∧
 Tr
 123
 True)) ∧
 true = true ∧
 ((51 : TypeId) =
 (51 :
 TypeId) ∧
 (1 : Nat) =
 (1 :
 Nat) ∧
 (2 : Nat) =
 (2 :
 Nat) ∧
 (∀
 (i :
 Nat),
 i <
 2 →
 [AV.int
 IntKind.i64
 (x.fst.getD
 i
 0)] =
 [AV.int
 IntKind.i64
 (x.fst.getD
 i
 0)]) ∧
 True) ∧
 ((3 : TypeId) =
 (3 :
 TypeId) ∧
 (1 : Nat) =
 (1 :
 Nat) ∧
 t.snd.fst =
 t'.snd.fst ∧
 (listN
 (jS
 x)).length ≤
 (listN
 (jS
 x)).length ∧
 ∀
 (i :
 Nat),
 i <
 (listN
 (jS
 x)).length →
 [AV.int
 IntKind.i64
 ((listN
 (jS
 x)).getD
 i
 0)] =
 [AV.int
 IntKind.i64
 ((listN
 (jS
 x)).getD
 i
 0)]) ∧
 ((3 :
 TypeId) =
 (3 :
 TypeId) ∧
 (1 :
 Nat) =
 (1 :
 Nat) ∧
 t.snd.snd.fst =
 t'.snd.snd.fst ∧
 (listN
 (jT
 x)).length ≤
 (listN
 (jT
 x)).length ∧
 ∀
 (i :
 Nat),
 i <
 (listN
 (jT
 x)).length →
 [AV.int
 IntKind.i64
 ((listN
 (jT
 x)).getD
 i
 0)] =
 [AV.int
 IntKind.i64
 ((listN
 (jT
 x)).getD
 i
 0)]) ∧
 setB
 (jS
 x) =
 setB
 (jS
 x) ∧
 setB
 (jT
 x) =
 setB
 (jT
 x) ∧
 setB
 (joinN
 (jS
 x)
 (jT
 x)) =
 setB
 (joinN
 (jS
 x)
 (jT
 x)) ∧
 setB
 (minusN
 (jS
 x)
 (jT
 x)) =
 setB
 (minusN
 (jS
 x)
 (jT
 x)) ∧
 ((3 :
 TypeId) =
 (3 :
 TypeId) ∧
 (1 :
 Nat) =
 (1 :
 Nat) ∧
 y =
 t'.snd.snd.snd.snd ∧
 (listN
 (jN
 x,
 t'.snd.snd.snd.fst)).length ≤
 x_10.snd.fst.length +
 1 ∧
 ∀
 (i :
 Nat),
 i <
 (listN
 (jN
 x,
 t'.snd.snd.snd.fst)).length →
 [AV.int
 IntKind.i64
 ((insI
 x_10.snd.fst
 x_10.snd.snd.snd).getD
 i
 0)] =
 [AV.int
 IntKind.i64
 ((listN
 (jN
 x,
 t'.snd.snd.snd.fst)).getD
 i
 0)]) ∧
 True)))
 (Exx (Nat × Nat → Prop) fun I =>
 (Exx ((Nat × Nat) × Unit) fun x_10 =>
 (((true = true ∧
 NilNil ∧ (0 : Nat) = (0 : Nat)) ∧
 True) ∧
 true = true ∧
 setB (joinN (jS x) (jT x)) =
 setB x_10.fst ∧
 True) ∧
 (SetW x_10.fst ∧ True) ∧
 ∀ (y : Unit),
 True →
 BC
 (!decide
 ((↑x_10.fst.fst : Int) =
 (↑(jN x) : Int)))
 (Exx Unit fun y =>
 ((false = true ∧ True) ∧
 true = true ∧ True) ∧
 True)
 (Exx ((Nat × Nat) × Unit)
 fun x_11 =>
 (((true = true ∧
 NilNil ∧
 (0 : Nat) =
 (0 : Nat)) ∧
 True) ∧
 true = true ∧
 setB
 (minusN (jS x)
 (jT x)) =
 setB x_11.fst ∧
 True) ∧
 (SetW x_11.fst ∧ True) ∧
 ∀ (y : Unit),
 True →
 BC
 (!decide
 ((↑x_11.fst.fst :
 Int) =
 (↑(jN x) :
 Int)))
 (Exx Unit fun y =>
 ((false = true ∧
 True) ∧
 true = true ∧
 True) ∧
 True)
 (Exx (Nat × Nat)
 fun x_12 =>
 (((true = true ∧
 NilNil ∧
 (0 :
 Nat) =
 (0 :
 Nat)) ∧
 True) ∧
 true = true ∧
 setB
 x_10.fst =
 setB
 x_12 ∧
 True) ∧
 SetW x_12 ∧
 ∀ (y : Nat),
 (listN
 x_12).length ≤
 y →
 Exx
 (List
 Int ×
 List
 Int)
 fun
 x_13 =>
 (((0 +
 (listN
 x_12).length ≤
 (listN
 x_12).length ∧
 (listN
 x_12).length =
 x_13.fst.length ∧
 ∀
 (i :
 Nat),
 i <
 x_13.fst.length →
 [AV.int
 IntKind.i64
 ((listN
 x_12).getD
 (0 +
 i)
 0)] =
 [AV.int
 IntKind.i64
 (x_13.fst.getD
 i
 0)]) ∧
 (0 +
 (listN
 (jN
 x,
 t.snd.snd.snd.fst)).length ≤
 (listN
 (jN
 x,
 t.snd.snd.snd.fst)).length ∧
 (listN
 (jN
 x,
 t.snd.snd.snd.fst)).length =
 x_13.snd.length ∧
 ∀
 (i :
 Nat),
 i <
 x_13.snd.length →
 [AV.int
 IntKind.i64
 ((listN
 (jN
 x,
 t.snd.snd.snd.fst)).getD
 (0 +
 i)
 0)] =
 [AV.int
 IntKind.i64
 (x_13.snd.getD
 i
 0)]) ∧
 True) ∧
 true =
 true ∧
 True) ∧
 (IntL
 x_13.fst ∧
 IntL
 x_13.snd) ∧
 ∀
 (y :
 Unit),
 True →
 BC
 (!decide
 (x_13.fst =
 x_13.snd))
 (Exx
 Unit
 fun
 y =>
 ((false =
 true ∧
 True) ∧
 true =
 true ∧
 True) ∧
 True)
 (Exx
 (Nat ×
 Nat)
 fun
 x_14 =>
 (((true =
 true ∧
 NilNil ∧
 (0 :
 Nat) =
 (0 :
 Nat)) ∧
 True) ∧
 true =
 true ∧
 setB
 x_11.fst =
 setB
 x_14 ∧
 True) ∧
 SetW
 x_14 ∧
 ∀
 (y :
 Nat),
 (listN
 x_14).length ≤
 y →
 Exx
 (List
 Int ×
 List
 Int)
 fun
 x_15 =>
 (((0 +
 (listN
 (jS
 x)).length ≤
 (listN
 (jS
 x)).length ∧
 (listN
 (jS
 x)).length =
 x_15.fst.length ∧
 ∀
 (i :
 Nat),
 i <
 x_15.fst.length →
 [AV.int
 IntKind.i64
 ((listN
 (jS
 x)).getD
 (0 +
 i)
 0)] =
 [AV.int
 IntKind.i64
 (x_15.fst.getD
 i
 0)]) ∧
 (0 +
 (listN
 (jT
 x)).length ≤
 (listN
 (jT
 x)).length ∧
 (listN
 (jT
 x)).length =
 x_15.snd.length ∧
 ∀
 (i :
 Nat),
 i <
 x_15.snd.length →
 [AV.int
 IntKind.i64
 ((listN
 (jT
 x)).getD
 (0 +
 i)
 0)] =
 [AV.int
 IntKind.i64
 (x_15.snd.getD
 i
 0)]) ∧
 True) ∧
 true =
 true ∧
 True) ∧
 (Ints
 x_15.fst ∧
 IntL
 x_15.snd) ∧
 ∀
 (y :
 Nat),
 (List.filter
 (fun
 y =>
 !decide
 (y ∈
 x_15.snd))
 x_15.fst).length ≤
 y →
 Exx
 (List
 Int ×
 List
 Int)
 fun
 x_16 =>
 (((0 +
 (listN
 x_14).length ≤
 (listN
 x_14).length ∧
 (listN
 x_14).length =
 x_16.fst.length ∧
 ∀
 (i :
 Nat),
 i <
 x_16.fst.length →
 [AV.int
 IntKind.i64
 ((listN
 x_14).getD
 (0 +
 i)
 0)] =
 [AV.int
 IntKind.i64
 (x_16.fst.getD
 i
 0)]) ∧
 (0 +
 (List.filter
 (fun
 y =>
 !decide
 (y ∈
 x_15.snd))
 x_15.fst).length ≤
 (List.filter
 (fun
 y =>
 !decide
 (y ∈
 x_15.snd))
 x_15.fst).length ∧
 (List.filter
 (fun
 y =>
 !decide
 (y ∈
 x_15.snd))
 x_15.fst).length =
 x_16.snd.length ∧
 ∀
 (i :
 Nat),
 i <
 x_16.snd.length →
 [AV.int
 IntKind.i64
 ((List.filter
 (fun
 y =>
 !decide
 (y ∈
 x_15.snd))
 x_15.fst).getD
 (0 +
 i)
 0)] =
 [AV.int
 IntKind.i64
 (x_16.snd.getD
 i
 0)]) ∧
 True) ∧
 true =
 true ∧
 True) ∧
 (IntL
 x_16.fst ∧
 IntL
 x_16.snd) ∧
 ∀
 (y :
 Unit),
 True →
 BC
 (!decide
 (x_16.fst =
 x_16.snd))
 (Exx
 Unit
 fun
 y =>
 ((false =
 true ∧
 True) ∧
 true =
 true ∧
 True) ∧
 True)
 (Exx
 (Nat ×
 Nat)
 fun
 t_1 =>
 I
 t_1 ∧
 Tr
 1
 (((1 :
 Nat) =
 (1 :
 Nat) ∧
 x.snd.fst.length =
 x.snd.fst.length ∧
 ∀
 (i :
 Nat),
 i <
 x.snd.fst.length →
 [AV.int
 IntKind.i64
 (x.snd.fst.getD
 i
 0)] =
 [AV.int
 IntKind.i64
 (x.snd.fst.getD
 i
 0)]) ∧
 ((1 :
 Nat) =
 (1 :
 Nat) ∧
 x.snd.snd.length =
 x.snd.snd.length ∧
 ∀
 (i :
 Nat),
 i <
 x.snd.snd.length →
 [AV.int
 IntKind.i64
 (x.snd.snd.getD
 i
 0)] =
 [AV.int
 IntKind.i64
 (x.snd.snd.getD
 i
 0)]) ∧
 (true =
 true ∧
 NilNil ∧
 (0 :
 Nat) =
 (0 :
 Nat)) ∧
 Tr
 3
 (Tr
 1
 ((↑(jN
 x) :
 Int) =
 (↑(jN
 x) :
 Int)) ∧
 Tr
 1
 ((↑(jM
 x) :
 Int) =
 (↑(jM
 x) :
 Int)) ∧
 (true =
 true ∧
 NilNil ∧
 (0 :
 Nat) =
 (0 :
 Nat) ∧
 (1 :
 Nat) =
 (1 :
 Nat) ∧
 (0 :
 Nat) =
 (0 :
 Nat) ∧
 (listN
 (jS
 x)).length =
 (listN
 (jS
 x)).length ∧
 t.snd.fst =
 t_1.fst) ∧
 (true =
 true ∧
 NilNil ∧
 (0 :
 Nat) =
 (0 :
 Nat) ∧
 (1 :
 Nat) =
 (1 :
 Nat) ∧
 (0 :
 Nat) =
 (0 :
 Nat) ∧
 (listN
 (jT
 x)).length =
 (listN
 (jT
 x)).length ∧
 t.snd.snd.fst =
 t_1.snd) ∧
 (true =
 true ∧
 NilNil ∧
 (0 :
 Nat) =
 (0 :
 Nat)) ∧
 (true =
 true ∧
 NilNil ∧
 (0 :
 Nat) =
 (0 :
 Nat)) ∧
 (true =
 true ∧
 NilNil ∧
 (0 :
 Nat) =
 (0 :
 Nat)) ∧
 (true =
 true ∧
 NilNil ∧
 (0 :
 Nat) =
 (0 :
 Nat)) ∧
 Tr
 125
 True)) ∧
 true =
 true ∧
 ((51 :
 TypeId) =
 (51 :
 TypeId) ∧
 (1 :
 Nat) =
 (1 :
 Nat) ∧
 (2 :
 Nat) =
 (2 :
 Nat) ∧
 (∀
 (i :
 Nat),
 i <
 2 →
 [AV.int
 IntKind.i64
 (x.fst.getD
 i
 0)] =
 [AV.int
 IntKind.i64
 (x.fst.getD
 i
 0)]) ∧
 True) ∧
 ((3 :
 TypeId) =
 (3 :
 TypeId) ∧
 (1 :
 Nat) =
 (1 :
 Nat) ∧
 t.snd.fst =
 t_1.fst ∧
 (listN
 (jS
 x)).length ≤
 (listN
 (jS
 x)).length ∧
 ∀
 (i :
 Nat),
 i <
 (listN
 (jS
 x)).length →
 [AV.int
 IntKind.i64
 ((listN
 (jS
 x)).getD
 i
 0)] =
 [AV.int
 IntKind.i64
 ((listN
 (jS
 x)).getD
 i
 0)]) ∧
 ((3 :
 TypeId) =
 (3 :
 TypeId) ∧
 (1 :
 Nat) =
 (1 :
 Nat) ∧
 t.snd.snd.fst =
 t_1.snd ∧
 (listN
 (jT
 x)).length ≤
 (listN
 (jT
 x)).length ∧
 ∀
 (i :
 Nat),
 i <
 (listN
 (jT
 x)).length →
 [AV.int
 IntKind.i64
 ((listN
 (jT
 x)).getD
 i
 0)] =
 [AV.int
 IntKind.i64
 ((listN
 (jT
 x)).getD
 i
 0)]) ∧
 setB
 (jS
 x) =
 setB
 (jS
 x) ∧
 setB
 (jT
 x) =
 setB
 (jT
 x) ∧
 setB
 x_12 =
 setB
 (joinN
 (jS
 x)
 (jT
 x)) ∧
 setB
 x_14 =
 setB
 (minusN
 (jS
 x)
 (jT
 x)) ∧
 True))))) ∧
 ∀ (t : Nat × Nat),
 I t →
 Exx ((Nat × Nat) × List Int) fun x_10 =>
 (((true = true ∧
 NilNil ∧
 (0 : Nat) = (0 : Nat)) ∧
 ((0 : Nat) + (3 : Nat) ≤
 (3 : Nat) ∧
 3 = x_10.snd.length ∧
 ∀ (i : Nat),
 i < x_10.snd.length →
 [AV.int IntKind.i64
 (if
 0 + i =
 2 * 1 /
 1 then
 2
 else
 if
 0 + i =
 1 * 1 /
 1 then
 1
 else
 if
 0 + i =
 0 *
 1 /
 1 then
 0
 else 0)] =
 [AV.int IntKind.i64
 (x_10.snd.getD i
 0)]) ∧
 True) ∧
 true = true ∧
 setB (joinN (jS x) (jT x)) =
 setB x_10.fst ∧
 True) ∧
 (SetW x_10.fst ∧ Ints x_10.snd) ∧
 ∀ (y : Unit),
 True →
 Exx ((Nat × Nat) × List Int)
 fun x_11 =>
 (((true = true ∧
 NilNil ∧
 (0 : Nat) =
 (0 : Nat)) ∧
 (x.snd.fst.length =
 x_11.snd.length ∧
 ∀ (i : Nat),
 i <
 x_11.snd.length →
 [AV.int
 IntKind.i64
 (x.snd.fst.getD
 i
 0)] =
 [AV.int
 IntKind.i64
 (x_11.snd.getD
 i
 0)]) ∧
 True) ∧
 true = true ∧
 setB
 (minusN (jS x)
 (jT x)) =
 setB x_11.fst ∧
 True) ∧
 (SetW x_11.fst ∧
 Ints x_11.snd) ∧
 ∀ (y : Unit),
 True →
 Exx (Nat × Nat)
 fun x_12 =>
 (((true = true ∧
 NilNil ∧
 (0 :
 Nat) =
 (0 :
 Nat)) ∧
 True) ∧
 true = true ∧
 setB
 (jS
 x) =
 setB
 x_12 ∧
 True) ∧
 SetW x_12 ∧
 ∀ (y : Nat),
 (listN
 x_12).length ≤
 y →
 Exx
 (List
 Int ×
 List
 Int)
 fun
 x_13 =>
 (((0 +
 (listN
 x_12).length ≤
 (listN
 x_12).length ∧
 (listN
 x_12).length =
 x_13.fst.length ∧
 ∀
 (i :
 Nat),
 i <
 x_13.fst.length →
 [AV.int
 IntKind.i64
 ((listN
 x_12).getD
 (0 +
 i)
 0)] =
 [AV.int
 IntKind.i64
 (x_13.fst.getD
 i
 0)]) ∧
 (0 +
 (listN
 (jS
 x)).length ≤
 (listN
 (jS
 x)).length ∧
 (listN
 (jS
 x)).length =
 x_13.snd.length ∧
 ∀
 (i :
 Nat),
 i <
 x_13.snd.length →
 [AV.int
 IntKind.i64
 ((listN
 (jS
 x)).getD
 (0 +
 i)
 0)] =
 [AV.int
 IntKind.i64
 (x_13.snd.getD
 i
 0)]) ∧
 True) ∧
 true =
 true ∧
 True) ∧
 (IntL
 x_13.fst ∧
 IntL
 x_13.snd) ∧
 ∀
 (y :
 Unit),
 True →
 BC
 (decide
 (x_13.fst =
 x_13.snd))
 (Exx
 (Nat ×
 Nat)
 fun
 x_14 =>
 (((true =
 true ∧
 NilNil ∧
 (0 :
 Nat) =
 (0 :
 Nat)) ∧
 True) ∧
 true =
 true ∧
 setB
 (jT
 x) =
 setB
 x_14 ∧
 True) ∧
 SetW
 x_14 ∧
 ∀
 (y :
 Nat),
 (listN
 x_14).length ≤
 y →
 Exx
 (List
 Int ×
 List
 Int)
 fun
 x_15 =>
 (((0 +
 (listN
 x_14).length ≤
 (listN
 x_14).length ∧
 (listN
 x_14).length =
 x_15.fst.length ∧
 ∀
 (i :
 Nat),
 i <
 x_15.fst.length →
 [AV.int
 IntKind.i64
 ((listN
 x_14).getD
 (0 +
 i)
 0)] =
 [AV.int
 IntKind.i64
 (x_15.fst.getD
 i
 0)]) ∧
 (0 +
 (listN
 (jT
 x)).length ≤
 (listN
 (jT
 x)).length ∧
 (listN
 (jT
 x)).length =
 x_15.snd.length ∧
 ∀
 (i :
 Nat),
 i <
 x_15.snd.length →
 [AV.int
 IntKind.i64
 ((listN
 (jT
 x)).getD
 (0 +
 i)
 0)] =
 [AV.int
 IntKind.i64
 (x_15.snd.getD
 i
 0)]) ∧
 True) ∧
 true =
 true ∧
 True) ∧
 (IntL
 x_15.fst ∧
 IntL
 x_15.snd) ∧
 ∀
 (y :
 Unit),
 True →
 BC
 (decide
 (x_15.fst =
 x_15.snd))
 (Exx
 ((Nat ×
 Nat) ×
 Nat ×
 Nat)
 fun
 x_16 =>
 (((true =
 true ∧
 NilNil ∧
 (0 :
 Nat) =
 (0 :
 Nat)) ∧
 (true =
 true ∧
 NilNil ∧
 (0 :
 Nat) =
 (0 :
 Nat)) ∧
 True) ∧
 true =
 true ∧
 setB
 x_12 =
 setB
 x_16.fst ∧
 setB
 x_14 =
 setB
 x_16.snd ∧
 True) ∧
 (SetW
 x_16.fst ∧
 SetW
 x_16.snd) ∧
 ∀
 (y :
 Unit),
 True →
 BC
 (decide
 ((↑(jN
 x) :
 Int) =
 (↑(jM
 x) :
 Int)))
 (Exx
 (List
 Int ×
 List
 Int)
 fun
 x_17 =>
 (((0 +
 (listN
 (jS
 x)).length ≤
 (listN
 (jS
 x)).length ∧
 (listN
 (jS
 x)).length =
 x_17.fst.length ∧
 ∀
 (i :
 Nat),
 i <
 x_17.fst.length →
 [AV.int
 IntKind.i64
 ((listN
 (jS
 x)).getD
 (0 +
 i)
 0)] =
 [AV.int
 IntKind.i64
 (x_17.fst.getD
 i
 0)]) ∧
 (0 +
 (listN
 (jT
 x)).length ≤
 (listN
 (jT
 x)).length ∧
 (listN
 (jT
 x)).length =
 x_17.snd.length ∧
 ∀
 (i :
 Nat),
 i <
 x_17.snd.length →
 [AV.int
 IntKind.i64
 ((listN
 (jT
 x)).getD
 (0 +
 i)
 0)] =
 [AV.int
 IntKind.i64
 (x_17.snd.getD
 i
 0)]) ∧
 True) ∧
 true =
 true ∧
 True) ∧
 (IntL
 x_17.fst ∧
 IntL
 x_17.snd) ∧
 ∀
 (y :
 Unit),
 True →
 BC
 (decide
 (x_16.fst =
 x_16.snd) ==
 decide
 (x_17.fst =
 x_17.snd))
 (((0 :
 Int) ≤
 (0 :
 Int) ∧
 (0 :
 Int) <
 (↑(2 :
 Nat) :
 Int)) ∧
 (0 :
 Int).toNat <
 (2 :
 Nat) ∧
 Exx
 (Int ×
 List
 Int)
 fun
 x_18 =>
 ((Tr
 1
 (x.fst.getD
 (Int.toNat
 0)
 0 =
 x_18.fst) ∧
 (0 +
 (listN
 (jS
 x)).length ≤
 (listN
 (jS
 x)).length ∧
 (listN
 (jS
 x)).length =
 x_18.snd.length ∧
 ∀
 (i :
 Nat),
 i <
 x_18.snd.length →
 [AV.int
 IntKind.i64
 ((listN
 (jS
 x)).getD
 (0 +
 i)
 0)] =
 [AV.int
 IntKind.i64
 (x_18.snd.getD
 i
 0)]) ∧
 True) ∧
 true =
 true ∧
 True) ∧
 (I64
 x_18.fst ∧
 Ints
 x_18.snd) ∧
 ∀
 (y :
 Unit),
 True →
 Exx
 ((Nat ×
 Nat) ×
 Nat ×
 Nat)
 fun
 x =>
 (((true =
 true ∧
 NilNil ∧
 (0 :
 Nat) =
 (0 :
 Nat)) ∧
 (true =
 true ∧
 NilNil ∧
 (0 :
 Nat) =
 (0 :
 Nat)) ∧
 True) ∧
 true =
 true ∧
 setB
 x_16.fst =
 setB
 x.fst ∧
 setB
 (clampN
 x_18.fst,
 addL
 (clampN
 x_18.fst)
 0
 x_18.snd) =
 setB
 x.snd ∧
 True) ∧
 (SetW
 x.fst ∧
 SetW
 x.snd) ∧
 ∀
 (y :
 Unit),
 True →
 Exx
 Unit
 fun
 y =>
 ((decide
 (x.fst =
 x.snd) =
 true ∧
 True) ∧
 true =
 true ∧
 True) ∧
 True)
 (Exx
 Unit
 fun
 y =>
 ((false =
 true ∧
 True) ∧
 true =
 true ∧
 True) ∧
 True))
 (BC
 (decide
 (x_16.fst =
 x_16.snd) ==
 false)
 (((0 :
 Int) ≤
 (0 :
 Int) ∧
 (0 :
 Int) <
 (↑(2 :
 Nat) :
 Int)) ∧
 (0 :
 Int).toNat <
 (2 :
 Nat) ∧
 Exx
 (Int ×
 List
 Int)
 fun
 x_17 =>
 ((Tr
 1
 (x.fst.getD
 (Int.toNat
 0)
 0 =
 x_17.fst) ∧
 (0 +
 (listN
 (jS
 x)).length ≤
 (listN
 (jS
 x)).length ∧
 (listN
 (jS
 x)).length =
 x_17.snd.length ∧
 ∀
 (i :
 Nat),
 i <
 x_17.snd.length →
 [AV.int
 IntKind.i64
 ((listN
 (jS
 x)).getD
 (0 +
 i)
 0)] =
 [AV.int
 IntKind.i64
 (x_17.snd.getD
 i
 0)]) ∧
 True) ∧
 true =
 true ∧
 True) ∧
 (I64
 x_17.fst ∧
 Ints
 x_17.snd) ∧
 ∀
 (y :
 Unit),
 True →
 Exx
 ((Nat ×
 Nat) ×
 Nat ×
 Nat)
 fun
 x =>
 (((true =
 true ∧
 NilNil ∧
 (0 :
 Nat) =
 (0 :
 Nat)) ∧
 (true =
 true ∧
 NilNil ∧
 (0 :
 Nat) =
 (0 :
 Nat)) ∧
 True) ∧
 true =
 true ∧
 setB
 x_16.fst =
 setB
 x.fst ∧
 setB
 (clampN
 x_17.fst,
 addL
 (clampN
 x_17.fst)
 0
 x_17.snd) =
 setB
 x.snd ∧
 True) ∧
 (SetW
 x.fst ∧
 SetW
 x.snd) ∧
 ∀
 (y :
 Unit),
 True →
 Exx
 Unit
 fun
 y =>
 ((decide
 (x.fst =
 x.snd) =
 true ∧
 True) ∧
 true =
 true ∧
 True) ∧
 True)
 (Exx
 Unit
 fun
 y =>
 ((false =
 true ∧
 True) ∧
 true =
 true ∧
 True) ∧
 True)))
 (Exx
 Unit
 fun
 y =>
 ((false =
 true ∧
 True) ∧
 true =
 true ∧
 True) ∧
 True))
 (Exx
 Unit
 fun
 y =>
 ((false =
 true ∧
 True) ∧
 true =
 true ∧
 True) ∧
 True)))))) =
 (fnVC tb [(13, specOf awake17C), (14, specOf smallC), (15, specOf setOfC), (18, specOf refSizeC), (20, specOf setDropC), (21, specObj (specOf setAddC) (specOf setAddOC)), (23, specIf refAddI), (24, specOf refIntsC), (25, specOf setListC), (26, specOf setSizeC), (38, specOf refOfC), (39, specEq (specOf setWithSC) (specOf setWithC)), (40, specOf setWithoutC), (41, specOf refWithoutC), (42, specOf setSameC)] Tryd.f8 bitsJoinsC (fun x => { joins := [(6, jJoin x), (16, jEnd x)], loops2 := [(11, jLoopA x, jLoopB x)] }) (fun _ => none)) := by kernel_rfl

theorem bitsJoins_ok : SpecOk Tryd.prog 8 (specOf bitsJoinsC) := by
  refine specOk mixed tb_ok (SPok.cons awake17_ok (SPok.cons small_ok (SPok.cons setOf_ok (SPok.cons refSize_ok (SPok.cons setDrop_ok (SPok.cons (specObj_ok setAdd_ok setAddO_ok) (SPok.cons (specIf_ok refAddA_ok refAddB_ok) (SPok.cons refInts_ok (SPok.cons setList_ok (SPok.cons setSize_ok (SPok.cons refOf_ok (SPok.cons (specEq_ok setWithS_ok setWith_ok) (SPok.cons setWithout_ok (SPok.cons refWithout_ok (SPok.cons setSame_ok SPok.nil))))))))))))))) Tryd.func8 (by decide) (pureC_ok fun _ => rfl) (an := (fun x => { joins := [(6, jJoin x), (16, jEnd x)], loops2 := [(11, jLoopA x, jLoopB x)] })) (σ := (fun _ => none)) ?_
  rw [← bitsJoinsV]
  simp (maxSteps := 10000000) only [and_false, false_and, false_or, or_false, bOf_true, bOf_false, true_bOf, false_bOf, Exx, int_ite, merge_o, Tr_eq, true_and, and_true, exists_const, forall_const, implies_true, forall_eq, exists_eq, exists_eq', exists_eq_left, exists_eq_left', exists_eq_right, Prod.exists, Prod.forall, and_assoc, exists_and_left, BC_iff, Bool.not_eq_true', Bool.not_eq_false', decide_eq_true_eq, decide_eq_false_iff_not, I64, nat_cast_inj, Int.toNat_natCast, nats_iff, nats_iff', ints_iff, ints_iff', natss_iff, natss_iff', nilnil, litL_eq, str_inj, str_append, str_length, str_getD, str_take, lit1_iff, one_iff, two_iff, one_get, Nat.zero_add, Nat.sub_zero, Nat.reduceMul, Nat.reduceDiv, Nat.reduceAdd, Int.reduceToNat, Nat.not_lt_zero, if_false, if_true, Nat.le_refl, List.length_singleton, List.length_cons, List.length_nil, Bool.false_eq_true, not_true_eq_false, false_implies, not_false_eq_true, Prod.mk.injEq, setB_inj]
  rintro n l m ⟨hn, hl, hm⟩
  refine ⟨hl.2, fun h60 => ⟨hm.2, fun h60' => ?_⟩⟩
  have hint : Ints l := ⟨hl.1, by omega⟩
  have hint' : Ints m := ⟨hm.1, by omega⟩
  have hc1 : clampN (n.getD 0 0) ≤ 3072 := by unfold clampN; omega
  have hc2 : clampN (n.getD 1 0) ≤ 3072 := by unfold clampN; omega
  have hp : ∀ c : Nat, 0 < 2 ^ c := fun c => Nat.pos_of_ne_zero (by simp)
  have hS : SetW (jS (n, l, m)) := ⟨hc1, addL_lt (hp _)⟩
  have hT : SetW (jT (n, l, m)) := ⟨hc2, addL_lt (hp _)⟩
  have hIS := listN_Ints hS.1
  have hIT := listN_Ints hT.1
  have hLS := hIS.intL
  have hLT := hIT.intL
  have hJ : SetW (joinN (jS (n, l, m)) (jT (n, l, m))) := ⟨hS.1, addL_lt hS.2⟩
  have hM : SetW (minusN (jS (n, l, m)) (jT (n, l, m))) := ⟨hS.1, dropL_lt hS.2⟩
  have hLJ := (listN_Ints hJ.1).intL
  have hLM := (listN_Ints hM.1).intL
  have hwo : (listN (jS (n, l, m))).filter (fun y => !decide (y ∈ listN (jT (n, l, m)))) = listN (minusN (jS (n, l, m)) (jT (n, l, m))) := ref_without
  have hback : jS (n, l, m) = (clampN (n.getD 0 0), addL (clampN (n.getD 0 0)) 0 (listN (jS (n, l, m)))) := by
    have := addL_list (n := (jS (n, l, m)).1) (m := (jS (n, l, m)).2) hS.2
    exact Prod.ext rfl this.symm
  have hback2 : jT (n, l, m) = (clampN (n.getD 1 0), addL (clampN (n.getD 1 0)) 0 (listN (jT (n, l, m)))) := by
    have := addL_list (n := (jT (n, l, m)).1) (m := (jT (n, l, m)).2) hT.2
    exact Prod.ext rfl this.symm
  have heq : jN (n, l, m) = jM (n, l, m) → (jS (n, l, m) = jT (n, l, m) ↔ listN (jS (n, l, m)) = listN (jT (n, l, m))) := fun he => ⟨fun e => by rw [e], fun e => by
    rw [hback, hback2, e]
    have he' : clampN (n.getD 0 0) = clampN (n.getD 1 0) := he
    rw [he']⟩
  have hlenT : (listN (jT (n, l, m))).length ≤ 3072 := Nat.le_trans (listN_len _) hT.1
  have hn0 := hn 0
  have hn1 := hn 1
  refine ⟨by omega, by omega, by omega, by omega, by omega, by omega, hn0.1, hn0.2, hn1.1, hn1.2, hc1, hl, fun y hy => ⟨hc2, hm, fun y2 hy2 => ⟨by omega, by omega, by omega, by omega, by omega, by omega, hn0.1, hn0.2, hint, hn1.1, hn1.2, hint', fun t => ((listN (jS (n, l, m))).length ≤ t.1 ∧ t.1 ≤ 9223372036854775807), ⟨y, y2, ⟨hy.1, hy.2⟩, rfl, rfl, rfl, rfl, rfl, rfl, rfl, Nat.le_refl _, fun _ _ => rfl, rfl, Nat.le_refl _, fun _ _ => rfl, rfl, rfl⟩, ?_⟩⟩⟩
  rintro cx cy ⟨hcx, hcx2⟩
  simp only at hcx hcx2
  refine ⟨hS, hT, hS, hT, fun t => t.1 ≤ (listN (jT (n, l, m))).length ∧ addL (jN (n, l, m)) (jS (n, l, m)).2 ((listN (jT (n, l, m))).take t.1) = (jS (n, l, m)).2 ∧ (listN (jS (n, l, m))).length ≤ t.2.1 ∧ t.2.1 ≤ 9223372036854775807, ⟨0, cx, cy, ⟨by simp, rfl, hcx, hcx2⟩, rfl, rfl, rfl, rfl, rfl, rfl⟩, fun t => t.1 ≤ (listN (jT (n, l, m))).length ∧ t.2.2.2.1 = addL (jN (n, l, m)) (jS (n, l, m)).2 ((listN (jT (n, l, m))).take t.1) ∧ (listN (jN (n, l, m), t.2.2.2.1)).length ≤ t.2.2.2.2 ∧ t.2.2.2.2 ≤ 9223372036854775807, fun t => (listN (jT (n, l, m))).length - t.1, fun t => (listN (jT (n, l, m))).length - t.1, ?_, ?_⟩
  · rintro i cx2 cy2 ⟨hi, hq, hc3, hc4⟩
    simp only at hi hq hc3 hc4
    have hst := addL_snoc (n := jN (n, l, m)) (m := (jS (n, l, m)).2) (l := listN (jT (n, l, m))) (i := i)
    refine ⟨fun hlt => ⟨by omega, by omega, by omega, cx2, listN (jS (n, l, m)), rfl, rfl, rfl, Nat.le_refl _, fun _ _ => rfl, hIS, hc3, hc4, by omega, by have := hS.1; show ((jN (n, l, m) : Nat) : Int) ≤ _; have e : jN (n, l, m) = (jS (n, l, m)).1 := rfl; omega, ?_, ?_, listN_sorted _, fun hpp => ?_, fun hpp y hy => ?_⟩, fun hge => ?_⟩
    · exact (getD_mem (p := I64) hIT.1 (by unfold I64; omega) i).1
    · exact (getD_mem (p := I64) hIT.1 (by unfold I64; omega) i).2
    · refine ⟨by omega, by omega, i + 1, cx2, cy2, ⟨by simp only; omega, ?_, hc3, hc4⟩, by simp only; omega, rfl, rfl, rfl, rfl, by omega, rfl, Nat.le_refl _, fun _ _ => rfl, rfl⟩
      simp only
      rw [hst (by omega), hq]
      exact ref_add_out (n := jN (n, l, m)) (m := (jS (n, l, m)).2) hpp
    · have hp' : ¬ ((listN (jT (n, l, m))).getD i 0 < 0 ∨ (jN (n, l, m) : Int) ≤ (listN (jT (n, l, m))).getD i 0 ∨ (listN (jT (n, l, m))).getD i 0 ∈ listN (jN (n, l, m), (jS (n, l, m)).2)) := hpp
      have e := ref_add_in (n := jN (n, l, m)) (m := (jS (n, l, m)).2) (a := (listN (jT (n, l, m))).getD i 0) (by omega) (by omega) (fun h => hp' (.inr (.inr h)))
      have e2 := insI_length (listN (jS (n, l, m))) ((listN (jT (n, l, m))).getD i 0)
      have e3 : insI (listN (jS (n, l, m))) ((listN (jT (n, l, m))).getD i 0) = listN (jN (n, l, m), add1 (jN (n, l, m)) (jS (n, l, m)).2 ((listN (jT (n, l, m))).getD i 0)) := e
      rw [e3] at e2 ⊢
      refine ⟨by omega, by omega, i + 1, cx2, cy2, _, y, ⟨by simp only; omega, ?_, by rw [e2]; exact hy.1, hy.2⟩, by simp only; omega, rfl, rfl, e2.symm, rfl, by omega, rfl, Nat.le_refl _, fun _ _ => rfl, rfl, rfl, by omega, fun _ _ => rfl⟩
      simp only
      rw [hst (by omega), hq]
    · have hfin : listN (joinN (jS (n, l, m)) (jT (n, l, m))) = listN (jS (n, l, m)) := by
        rw [List.take_of_length_le (by omega)] at hq
        rw [joinN]
        have : addL (jS (n, l, m)).1 (jS (n, l, m)).2 (listN (jT (n, l, m))) = (jS (n, l, m)).2 := hq
        rw [this]
      refine ⟨hJ, fun h => absurd rfl h, fun _ => True, fun _ => ⟨hM, fun h => absurd rfl h, fun _ => ⟨hJ, fun y hy => ⟨hLJ, hLS, fun h => h hfin, fun _ => ⟨hM, fun y2 hy2 => ⟨hIS, hLT, fun y3 hy3 => ⟨hLM, by rw [hwo]; exact hLM, fun h => h hwo.symm, fun _ => ⟨_, _, trivial, rfl, rfl, rfl, rfl⟩⟩⟩⟩⟩⟩⟩, ?_⟩
      rintro cx3 cy3 _
      refine ⟨_, _, [0, 1, 2], rfl, fun i hi => ?_, rfl, ⟨hS.1, addL_lt hS.2⟩, ⟨fun x hx => ?_, by simp⟩, ⟨hS.1, dropL_lt hS.2⟩, hint, hS, fun y hy => ⟨hLS, hLS, hT, fun y2 hy2 => ⟨hLT, hLT, hS, hT, fun he => ⟨hLS, hLT, fun _ => ⟨by omega, by omega, by omega, (hn 0).1, (hn 0).2, hIS, hS, ⟨hS.1, addL_lt (Nat.pos_of_ne_zero (by simp))⟩, hback⟩, fun h => ?_⟩, fun he => ⟨fun _ => ⟨by omega, by omega, by omega, (hn 0).1, (hn 0).2, hIS, hS, ⟨hS.1, addL_lt (Nat.pos_of_ne_zero (by simp))⟩, hback⟩, fun h => ?_⟩⟩⟩⟩
      · have hi : i < 3 := hi
        have : i = 0 ∨ i = 1 ∨ i = 2 := by omega
        rcases this with rfl | rfl | rfl <;> rfl
      · simp at hx
        rcases hx with rfl | rfl | rfl <;> exact ⟨by omega, by omega⟩
      · have hq2 := heq he
        by_cases e : jS (n, l, m) = jT (n, l, m)
        · rw [decide_eq_true e, decide_eq_true (hq2.1 e)] at h; cases h
        · rw [decide_eq_false e, decide_eq_false (fun k => e (hq2.2 k))] at h; cases h
      · have hne : ¬ jS (n, l, m) = jT (n, l, m) := fun e => he (congrArg Prod.fst e)
        rw [decide_eq_false hne] at h; cases h
  · rintro i cx2 cy2 mb cb ⟨hi, hq, hc3, hc4⟩
    simp only at hi hq hc3 hc4
    have hst := addL_snoc (n := jN (n, l, m)) (m := (jS (n, l, m)).2) (l := listN (jT (n, l, m))) (i := i)
    have hIB := listN_Ints (s := (jN (n, l, m), mb)) hS.1
    refine ⟨fun hlt => ⟨by omega, by omega, by omega, cb, listN (jN (n, l, m), mb), rfl, rfl, rfl, Nat.le_refl _, fun _ _ => rfl, hIB, hc3, hc4, by omega, by have := hS.1; show ((jN (n, l, m) : Nat) : Int) ≤ _; have e : jN (n, l, m) = (jS (n, l, m)).1 := rfl; omega, ?_, ?_, listN_sorted _, fun hpp => ?_, fun hpp y hy => ?_⟩, fun hge => ?_⟩
    · exact (getD_mem (p := I64) hIT.1 (by unfold I64; omega) i).1
    · exact (getD_mem (p := I64) hIT.1 (by unfold I64; omega) i).2
    · refine ⟨by omega, by omega, i + 1, cx2, cy2, mb, cb, ⟨by simp only; omega, ?_, hc3, hc4⟩, by simp only; omega, rfl, rfl, rfl, rfl, by omega, rfl, rfl, rfl, Nat.le_refl _, fun _ _ => rfl⟩
      simp only
      rw [hst (by omega), ← hq]
      exact (ref_add_out (n := jN (n, l, m)) (m := mb) hpp).symm
    · have hp' : ¬ ((listN (jT (n, l, m))).getD i 0 < 0 ∨ (jN (n, l, m) : Int) ≤ (listN (jT (n, l, m))).getD i 0 ∨ (listN (jT (n, l, m))).getD i 0 ∈ listN (jN (n, l, m), mb)) := hpp
      have e := ref_add_in (n := jN (n, l, m)) (m := mb) (a := (listN (jT (n, l, m))).getD i 0) (by omega) (by omega) (fun h => hp' (.inr (.inr h)))
      have e2 := insI_length (listN (jN (n, l, m), mb)) ((listN (jT (n, l, m))).getD i 0)
      rw [e] at e2 ⊢
      refine ⟨by omega, by omega, i + 1, cx2, cy2, _, y, ⟨by simp only; omega, ?_, by rw [e2]; exact hy.1, hy.2⟩, by simp only; omega, rfl, rfl, e2.symm, rfl, by omega, rfl, rfl, rfl, by omega, fun _ _ => rfl⟩
      simp only
      rw [hst (by omega), ← hq]
    · have hfin : listN (joinN (jS (n, l, m)) (jT (n, l, m))) = listN (jN (n, l, m), mb) := by
        rw [List.take_of_length_le (by omega)] at hq
        rw [hq]; rfl
      refine ⟨hJ, fun h => absurd rfl h, fun _ => True, fun _ => ⟨hM, fun h => absurd rfl h, fun _ => ⟨hJ, fun y hy => ⟨hLJ, hIB.intL, fun h => h hfin, fun _ => ⟨hM, fun y2 hy2 => ⟨hIS, hLT, fun y3 hy3 => ⟨hLM, by rw [hwo]; exact hLM, fun h => h hwo.symm, fun _ => ⟨_, _, trivial, rfl, rfl, rfl, rfl⟩⟩⟩⟩⟩⟩⟩, ?_⟩
      rintro cx3 cy3 _
      refine ⟨_, _, [0, 1, 2], rfl, fun i hi => ?_, rfl, ⟨hS.1, addL_lt hS.2⟩, ⟨fun x hx => ?_, by simp⟩, ⟨hS.1, dropL_lt hS.2⟩, hint, hS, fun y hy => ⟨hLS, hLS, hT, fun y2 hy2 => ⟨hLT, hLT, hS, hT, fun he => ⟨hLS, hLT, fun _ => ⟨by omega, by omega, by omega, (hn 0).1, (hn 0).2, hIS, hS, ⟨hS.1, addL_lt (Nat.pos_of_ne_zero (by simp))⟩, hback⟩, fun h => ?_⟩, fun he => ⟨fun _ => ⟨by omega, by omega, by omega, (hn 0).1, (hn 0).2, hIS, hS, ⟨hS.1, addL_lt (Nat.pos_of_ne_zero (by simp))⟩, hback⟩, fun h => ?_⟩⟩⟩⟩
      · have hi : i < 3 := hi
        have : i = 0 ∨ i = 1 ∨ i = 2 := by omega
        rcases this with rfl | rfl | rfl <;> rfl
      · simp at hx
        rcases hx with rfl | rfl | rfl <;> exact ⟨by omega, by omega⟩
      · have hq2 := heq he
        by_cases e : jS (n, l, m) = jT (n, l, m)
        · rw [decide_eq_true e, decide_eq_true (hq2.1 e)] at h; cases h
        · rw [decide_eq_false e, decide_eq_false (fun k => e (hq2.2 k))] at h; cases h
      · have hne : ¬ jS (n, l, m) = jT (n, l, m) := fun e => he (congrArg Prod.fst e)
        rw [decide_eq_false hne] at h; cases h

end Yard
