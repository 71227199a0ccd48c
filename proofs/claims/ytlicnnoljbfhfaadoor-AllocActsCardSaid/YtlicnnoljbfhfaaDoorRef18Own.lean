import Derived.Test.YtlicnnoljbfhfaaDoorRef18

namespace Yard
open Go Go.Sx Go.Proofs
set_option linter.unusedVariables false
set_option linter.unusedSimpArgs false
set_option maxRecDepth 4000
set_option maxHeartbeats 4000000

theorem refOwnV : (∀ (x : AllocT × Int), RefW x.1 ∧ I64 x.2 → Exx Unit fun y => refB x.1 = ((opR 0 x.1).o y).ob ∧ (∀ (g : Subtype (RCap x.1 true true true)),
 Exx (List Int × Int) fun x_1 => (((0 + (lC x.1).length ≤ (lC x.1).length ∧ (lC x.1).length = x_1.1.length ∧ ∀ (i : Nat), i < x_1.1.length → [AV.int .i64 ((lC
 x.1).getD (0 + i) 0)] = [AV.int .i64 (x_1.1.getD i 0)]) ∧ Tr 1 (x.2 = x_1.2) ∧ True) ∧ true = true ∧ True) ∧ (IntL x_1.1 ∧ I64 x_1.2) ∧ ∀ (y : Unit), True → BC
 (decide (x_1.2 ∈ x_1.1)) (Exx (List Int × Int) fun x_2 => (((0 + (lC x.1).length ≤ (lC x.1).length ∧ (lC x.1).length = x_2.1.length ∧ ∀ (i : Nat), i <
 x_2.1.length → [AV.int .i64 ((lC x.1).getD (0 + i) 0)] = [AV.int .i64 (x_2.1.getD i 0)]) ∧ Tr 1 (x.2 = x_2.2) ∧ True) ∧ true = true ∧ True) ∧ (IntL x_2.1 ∧ I64
 x_2.2) ∧ ∀ (y : Unit), True → Exx Unit fun y => Exx (Subtype (RCap x.1 true true true)) fun g_1 => Tr 1 (((38 : TypeId) = 38 ∧ Tr 1 ((↑x.1.n : Int) = (↑x.1.n :
 Int)) ∧ Tr 1 (x.1.r = x.1.r) ∧ (true = true ∧ NilNil ∧ (0 : Nat) = 0 ∧ (1 : Nat) = 1 ∧ (0 : Nat) = 0 ∧ (lC x.1).length = (lC x.1).length ∧ g.val.1 = g_1.val.1)
 ∧ (true = true ∧ NilNil ∧ (0 : Nat) = 0 ∧ (1 : Nat) = 1 ∧ (0 : Nat) = 0 ∧ (lC x.1).length = (lC x.1).length ∧ g.val.1 = g_1.val.1) ∧ (true = true ∧ NilNil ∧ (0
 : Nat) = 0 ∧ (1 : Nat) = 1 ∧ (0 : Nat) = 0 ∧ (lC x.1).length = (lC x.1).length ∧ g.val.1 = g_1.val.1) ∧ (true = true ∧ NilNil ∧ (0 : Nat) = 0 ∧ (1 : Nat) = 1 ∧
 (0 : Nat) = 0 ∧ (lC x.1).length = (lC x.1).length ∧ g.val.1 = g_1.val.1) ∧ True) ∧ ((3 : TypeId) = 3 ∧ (1 : Nat) = 1 ∧ g.val.1 = g_1.val.1 ∧ (lC x.1).length ≤
 (lC x.1).length ∧ ∀ (i : Nat), i < (lC x.1).length → [AV.int .i64 ((lC x.1).getD i 0)] = [AV.int .i64 ((lC x.1).getD i 0)]) ∧ True) ∧ (((!decide (x_2.2 ∈
 x_2.1)) = (hasN (x.1.n, x.1.w) x.2 && !hasN (x.1.n, x.1.m) x.2) ∧ True) ∧ refB x.1 = refB x.1 ∧ true = true ∧ True) ∧ True) (Exx Unit fun y => Exx (Subtype
 (RCap x.1 true true true)) fun g_1 => Tr 1 (((38 : TypeId) = 38 ∧ Tr 1 ((↑x.1.n : Int) = (↑x.1.n : Int)) ∧ Tr 1 (x.1.r = x.1.r) ∧ (true = true ∧ NilNil ∧ (0 :
 Nat) = 0 ∧ (1 : Nat) = 1 ∧ (0 : Nat) = 0 ∧ (lC x.1).length = (lC x.1).length ∧ g.val.1 = g_1.val.1) ∧ (true = true ∧ NilNil ∧ (0 : Nat) = 0 ∧ (1 : Nat) = 1 ∧ (0
 : Nat) = 0 ∧ (lC x.1).length = (lC x.1).length ∧ g.val.1 = g_1.val.1) ∧ (true = true ∧ NilNil ∧ (0 : Nat) = 0 ∧ (1 : Nat) = 1 ∧ (0 : Nat) = 0 ∧ (lC x.1).length
 = (lC x.1).length ∧ g.val.1 = g_1.val.1) ∧ (true = true ∧ NilNil ∧ (0 : Nat) = 0 ∧ (1 : Nat) = 1 ∧ (0 : Nat) = 0 ∧ (lC x.1).length = (lC x.1).length ∧ g.val.1 =
 g_1.val.1) ∧ True) ∧ ((3 : TypeId) = 3 ∧ (1 : Nat) = 1 ∧ g.val.1 = g_1.val.1 ∧ (lC x.1).length ≤ (lC x.1).length ∧ ∀ (i : Nat), i < (lC x.1).length → [AV.int
 .i64 ((lC x.1).getD i 0)] = [AV.int .i64 ((lC x.1).getD i 0)]) ∧ True) ∧ ((false = (hasN (x.1.n, x.1.w) x.2 && !hasN (x.1.n, x.1.m) x.2) ∧ True) ∧ refB x.1 =
 refB x.1 ∧ true = true ∧ True) ∧ True)) ∧ (∀ (g : Subtype (RCap x.1 true true false)), Exx (List Int × Int) fun x_1 => (((0 + (lW x.1).length ≤ (lW x.1).length
 ∧ (lW x.1).length = x_1.1.length ∧ ∀ (i : Nat), i < x_1.1.length → [AV.int .i64 ((lW x.1).getD (0 + i) 0)] = [AV.int .i64 (x_1.1.getD i 0)]) ∧ Tr 1 (x.2 =
 x_1.2) ∧ True) ∧ true = true ∧ True) ∧ (IntL x_1.1 ∧ I64 x_1.2) ∧ ∀ (y : Unit), True → BC (decide (x_1.2 ∈ x_1.1)) (Exx (List Int × Int) fun x_2 => (((0 + (lC
 x.1).length ≤ (lC x.1).length ∧ (lC x.1).length = x_2.1.length ∧ ∀ (i : Nat), i < x_2.1.length → [AV.int .i64 ((lC x.1).getD (0 + i) 0)] = [AV.int .i64
 (x_2.1.getD i 0)]) ∧ Tr 1 (x.2 = x_2.2) ∧ True) ∧ true = true ∧ True) ∧ (IntL x_2.1 ∧ I64 x_2.2) ∧ ∀ (y : Unit), True → Exx Unit fun y => Exx (Subtype (RCap x.1
 true true false)) fun g_1 => Tr 1 (((38 : TypeId) = 38 ∧ Tr 1 ((↑x.1.n : Int) = (↑x.1.n : Int)) ∧ Tr 1 (x.1.r = x.1.r) ∧ (true = true ∧ NilNil ∧ (0 : Nat) = 0 ∧
 (1 : Nat) = 1 ∧ (0 : Nat) = 0 ∧ (lC x.1).length = (lC x.1).length ∧ g.val.1 = g_1.val.1) ∧ (true = true ∧ NilNil ∧ (0 : Nat) = 0 ∧ (1 : Nat) = 1 ∧ (0 : Nat) = 0
 ∧ (lC x.1).length = (lC x.1).length ∧ g.val.1 = g_1.val.1) ∧ (true = true ∧ NilNil ∧ (0 : Nat) = 0 ∧ (1 : Nat) = 1 ∧ (0 : Nat) = 0 ∧ (lC x.1).length = (lC
 x.1).length ∧ g.val.1 = g_1.val.1) ∧ (true = true ∧ NilNil ∧ (0 : Nat) = 0 ∧ (1 : Nat) = 1 ∧ (0 : Nat) = 0 ∧ (lW x.1).length = (lW x.1).length ∧ g.val.2.2.2 =
 g_1.val.2.2.2) ∧ True) ∧ ((3 : TypeId) = 3 ∧ (1 : Nat) = 1 ∧ g.val.1 = g_1.val.1 ∧ (lC x.1).length ≤ (lC x.1).length ∧ ∀ (i : Nat), i < (lC x.1).length →
 [AV.int .i64 ((lC x.1).getD i 0)] = [AV.int .i64 ((lC x.1).getD i 0)]) ∧ ((3 : TypeId) = 3 ∧ (1 : Nat) = 1 ∧ g.val.2.2.2 = g_1.val.2.2.2 ∧ (lW x.1).length ≤ (lW
 x.1).length ∧ ∀ (i : Nat), i < (lW x.1).length → [AV.int .i64 ((lW x.1).getD i 0)] = [AV.int .i64 ((lW x.1).getD i 0)]) ∧ True) ∧ (((!decide (x_2.2 ∈ x_2.1)) =
 (hasN (x.1.n, x.1.w) x.2 && !hasN (x.1.n, x.1.m) x.2) ∧ True) ∧ refB x.1 = refB x.1 ∧ true = true ∧ True) ∧ True) (Exx Unit fun y => Exx (Subtype (RCap x.1 true
 true false)) fun g_1 => Tr 1 (((38 : TypeId) = 38 ∧ Tr 1 ((↑x.1.n : Int) = (↑x.1.n : Int)) ∧ Tr 1 (x.1.r = x.1.r) ∧ (true = true ∧ NilNil ∧ (0 : Nat) = 0 ∧ (1 :
 Nat) = 1 ∧ (0 : Nat) = 0 ∧ (lC x.1).length = (lC x.1).length ∧ g.val.1 = g_1.val.1) ∧ (true = true ∧ NilNil ∧ (0 : Nat) = 0 ∧ (1 : Nat) = 1 ∧ (0 : Nat) = 0 ∧
 (lC x.1).length = (lC x.1).length ∧ g.val.1 = g_1.val.1) ∧ (true = true ∧ NilNil ∧ (0 : Nat) = 0 ∧ (1 : Nat) = 1 ∧ (0 : Nat) = 0 ∧ (lC x.1).length = (lC
 x.1).length ∧ g.val.1 = g_1.val.1) ∧ (true = true ∧ NilNil ∧ (0 : Nat) = 0 ∧ (1 : Nat) = 1 ∧ (0 : Nat) = 0 ∧ (lW x.1).length = (lW x.1).length ∧ g.val.2.2.2 =
 g_1.val.2.2.2) ∧ True) ∧ ((3 : TypeId) = 3 ∧ (1 : Nat) = 1 ∧ g.val.1 = g_1.val.1 ∧ (lC x.1).length ≤ (lC x.1).length ∧ ∀ (i : Nat), i < (lC x.1).length →
 [AV.int .i64 ((lC x.1).getD i 0)] = [AV.int .i64 ((lC x.1).getD i 0)]) ∧ ((3 : TypeId) = 3 ∧ (1 : Nat) = 1 ∧ g.val.2.2.2 = g_1.val.2.2.2 ∧ (lW x.1).length ≤ (lW
 x.1).length ∧ ∀ (i : Nat), i < (lW x.1).length → [AV.int .i64 ((lW x.1).getD i 0)] = [AV.int .i64 ((lW x.1).getD i 0)]) ∧ True) ∧ ((false = (hasN (x.1.n, x.1.w)
 x.2 && !hasN (x.1.n, x.1.m) x.2) ∧ True) ∧ refB x.1 = refB x.1 ∧ true = true ∧ True) ∧ True)) ∧ (∀ (g : Subtype (RCap x.1 true false true)), Exx (List Int ×
 Int) fun x_1 => (((0 + (lM x.1).length ≤ (lM x.1).length ∧ (lM x.1).length = x_1.1.length ∧ ∀ (i : Nat), i < x_1.1.length → [AV.int .i64 ((lM x.1).getD (0 + i)
 0)] = [AV.int .i64 (x_1.1.getD i 0)]) ∧ Tr 1 (x.2 = x_1.2) ∧ True) ∧ true = true ∧ True) ∧ (IntL x_1.1 ∧ I64 x_1.2) ∧ ∀ (y : Unit), True → BC (decide (x_1.2 ∈
 x_1.1)) (Exx (List Int × Int) fun x_2 => (((0 + (lM x.1).length ≤ (lM x.1).length ∧ (lM x.1).length = x_2.1.length ∧ ∀ (i : Nat), i < x_2.1.length → [AV.int
 .i64 ((lM x.1).getD (0 + i) 0)] = [AV.int .i64 (x_2.1.getD i 0)]) ∧ Tr 1 (x.2 = x_2.2) ∧ True) ∧ true = true ∧ True) ∧ (IntL x_2.1 ∧ I64 x_2.2) ∧ ∀ (y : Unit),
 True → Exx Unit fun y => Exx (Subtype (RCap x.1 true false true)) fun g_1 => Tr 1 (((38 : TypeId) = 38 ∧ Tr 1 ((↑x.1.n : Int) = (↑x.1.n : Int)) ∧ Tr 1 (x.1.r =
 x.1.r) ∧ (true = true ∧ NilNil ∧ (0 : Nat) = 0 ∧ (1 : Nat) = 1 ∧ (0 : Nat) = 0 ∧ (lC x.1).length = (lC x.1).length ∧ g.val.1 = g_1.val.1) ∧ (true = true ∧
 NilNil ∧ (0 : Nat) = 0 ∧ (1 : Nat) = 1 ∧ (0 : Nat) = 0 ∧ (lC x.1).length = (lC x.1).length ∧ g.val.1 = g_1.val.1) ∧ (true = true ∧ NilNil ∧ (0 : Nat) = 0 ∧ (1 :
 Nat) = 1 ∧ (0 : Nat) = 0 ∧ (lM x.1).length = (lM x.1).length ∧ g.val.2.2.1 = g_1.val.2.2.1) ∧ (true = true ∧ NilNil ∧ (0 : Nat) = 0 ∧ (1 : Nat) = 1 ∧ (0 : Nat)
 = 0 ∧ (lM x.1).length = (lM x.1).length ∧ g.val.2.2.1 = g_1.val.2.2.1) ∧ True) ∧ ((3 : TypeId) = 3 ∧ (1 : Nat) = 1 ∧ g.val.1 = g_1.val.1 ∧ (lC x.1).length ≤ (lC
 x.1).length ∧ ∀ (i : Nat), i < (lC x.1).length → [AV.int .i64 ((lC x.1).getD i 0)] = [AV.int .i64 ((lC x.1).getD i 0)]) ∧ ((3 : TypeId) = 3 ∧ (1 : Nat) = 1 ∧
 g.val.2.2.1 = g_1.val.2.2.1 ∧ (lM x.1).length ≤ (lM x.1).length ∧ ∀ (i : Nat), i < (lM x.1).length → [AV.int .i64 ((lM x.1).getD i 0)] = [AV.int .i64 ((lM
 x.1).getD i 0)]) ∧ True) ∧ (((!decide (x_2.2 ∈ x_2.1)) = (hasN (x.1.n, x.1.w) x.2 && !hasN (x.1.n, x.1.m) x.2) ∧ True) ∧ refB x.1 = refB x.1 ∧ true = true ∧
 True) ∧ True) (Exx Unit fun y => Exx (Subtype (RCap x.1 true false true)) fun g_1 => Tr 1 (((38 : TypeId) = 38 ∧ Tr 1 ((↑x.1.n : Int) = (↑x.1.n : Int)) ∧ Tr 1
 (x.1.r = x.1.r) ∧ (true = true ∧ NilNil ∧ (0 : Nat) = 0 ∧ (1 : Nat) = 1 ∧ (0 : Nat) = 0 ∧ (lC x.1).length = (lC x.1).length ∧ g.val.1 = g_1.val.1) ∧ (true =
 true ∧ NilNil ∧ (0 : Nat) = 0 ∧ (1 : Nat) = 1 ∧ (0 : Nat) = 0 ∧ (lC x.1).length = (lC x.1).length ∧ g.val.1 = g_1.val.1) ∧ (true = true ∧ NilNil ∧ (0 : Nat) = 0
 ∧ (1 : Nat) = 1 ∧ (0 : Nat) = 0 ∧ (lM x.1).length = (lM x.1).length ∧ g.val.2.2.1 = g_1.val.2.2.1) ∧ (true = true ∧ NilNil ∧ (0 : Nat) = 0 ∧ (1 : Nat) = 1 ∧ (0
 : Nat) = 0 ∧ (lM x.1).length = (lM x.1).length ∧ g.val.2.2.1 = g_1.val.2.2.1) ∧ True) ∧ ((3 : TypeId) = 3 ∧ (1 : Nat) = 1 ∧ g.val.1 = g_1.val.1 ∧ (lC
 x.1).length ≤ (lC x.1).length ∧ ∀ (i : Nat), i < (lC x.1).length → [AV.int .i64 ((lC x.1).getD i 0)] = [AV.int .i64 ((lC x.1).getD i 0)]) ∧ ((3 : TypeId) = 3 ∧
 (1 : Nat) = 1 ∧ g.val.2.2.1 = g_1.val.2.2.1 ∧ (lM x.1).length ≤ (lM x.1).length ∧ ∀ (i : Nat), i < (lM x.1).length → [AV.int .i64 ((lM x.1).getD i 0)] = [AV.int
 .i64 ((lM x.1).getD i 0)]) ∧ True) ∧ ((false = (hasN (x.1.n, x.1.w) x.2 && !hasN (x.1.n, x.1.m) x.2) ∧ True) ∧ refB x.1 = refB x.1 ∧ true = true ∧ True) ∧
 True)) ∧ (∀ (g : Subtype (RCap x.1 true false false)), Exx (List Int × Int) fun x_1 => (((0 + (lW x.1).length ≤ (lW x.1).length ∧ (lW x.1).length = x_1.1.length
 ∧ ∀ (i : Nat), i < x_1.1.length → [AV.int .i64 ((lW x.1).getD (0 + i) 0)] = [AV.int .i64 (x_1.1.getD i 0)]) ∧ Tr 1 (x.2 = x_1.2) ∧ True) ∧ true = true ∧ True) ∧
 (IntL x_1.1 ∧ I64 x_1.2) ∧ ∀ (y : Unit), True → BC (decide (x_1.2 ∈ x_1.1)) (Exx (List Int × Int) fun x_2 => (((0 + (lM x.1).length ≤ (lM x.1).length ∧ (lM
 x.1).length = x_2.1.length ∧ ∀ (i : Nat), i < x_2.1.length → [AV.int .i64 ((lM x.1).getD (0 + i) 0)] = [AV.int .i64 (x_2.1.getD i 0)]) ∧ Tr 1 (x.2 = x_2.2) ∧
 True) ∧ true = true ∧ True) ∧ (IntL x_2.1 ∧ I64 x_2.2) ∧ ∀ (y : Unit), True → Exx Unit fun y => Exx (Subtype (RCap x.1 true false false)) fun g_1 => Tr 1 (((38
 : TypeId) = 38 ∧ Tr 1 ((↑x.1.n : Int) = (↑x.1.n : Int)) ∧ Tr 1 (x.1.r = x.1.r) ∧ (true = true ∧ NilNil ∧ (0 : Nat) = 0 ∧ (1 : Nat) = 1 ∧ (0 : Nat) = 0 ∧ (lC
 x.1).length = (lC x.1).length ∧ g.val.1 = g_1.val.1) ∧ (true = true ∧ NilNil ∧ (0 : Nat) = 0 ∧ (1 : Nat) = 1 ∧ (0 : Nat) = 0 ∧ (lC x.1).length = (lC x.1).length
 ∧ g.val.1 = g_1.val.1) ∧ (true = true ∧ NilNil ∧ (0 : Nat) = 0 ∧ (1 : Nat) = 1 ∧ (0 : Nat) = 0 ∧ (lM x.1).length = (lM x.1).length ∧ g.val.2.2.1 =
 g_1.val.2.2.1) ∧ (true = true ∧ NilNil ∧ (0 : Nat) = 0 ∧ (1 : Nat) = 1 ∧ (0 : Nat) = 0 ∧ (lW x.1).length = (lW x.1).length ∧ g.val.2.2.2 = g_1.val.2.2.2) ∧
 True) ∧ ((3 : TypeId) = 3 ∧ (1 : Nat) = 1 ∧ g.val.1 = g_1.val.1 ∧ (lC x.1).length ≤ (lC x.1).length ∧ ∀ (i : Nat), i < (lC x.1).length → [AV.int .i64 ((lC
 x.1).getD i 0)] = [AV.int .i64 ((lC x.1).getD i 0)]) ∧ ((3 : TypeId) = 3 ∧ (1 : Nat) = 1 ∧ g.val.2.2.1 = g_1.val.2.2.1 ∧ (lM x.1).length ≤ (lM x.1).length ∧ ∀
 (i : Nat), i < (lM x.1).length → [AV.int .i64 ((lM x.1).getD i 0)] = [AV.int .i64 ((lM x.1).getD i 0)]) ∧ ((3 : TypeId) = 3 ∧ (1 : Nat) = 1 ∧ g.val.2.2.2 =
 g_1.val.2.2.2 ∧ (lW x.1).length ≤ (lW x.1).length ∧ ∀ (i : Nat), i < (lW x.1).length → [AV.int .i64 ((lW x.1).getD i 0)] = [AV.int .i64 ((lW x.1).getD i 0)]) ∧
 True) ∧ (((!decide (x_2.2 ∈ x_2.1)) = (hasN (x.1.n, x.1.w) x.2 && !hasN (x.1.n, x.1.m) x.2) ∧ True) ∧ refB x.1 = refB x.1 ∧ true = true ∧ True) ∧ True) (Exx
 Unit fun y => Exx (Subtype (RCap x.1 true false false)) fun g_1 => Tr 1 (((38 : TypeId) = 38 ∧ Tr 1 ((↑x.1.n : Int) = (↑x.1.n : Int)) ∧ Tr 1 (x.1.r = x.1.r) ∧
 (true = true ∧ NilNil ∧ (0 : Nat) = 0 ∧ (1 : Nat) = 1 ∧ (0 : Nat) = 0 ∧ (lC x.1).length = (lC x.1).length ∧ g.val.1 = g_1.val.1) ∧ (true = true ∧ NilNil ∧ (0 :
 Nat) = 0 ∧ (1 : Nat) = 1 ∧ (0 : Nat) = 0 ∧ (lC x.1).length = (lC x.1).length ∧ g.val.1 = g_1.val.1) ∧ (true = true ∧ NilNil ∧ (0 : Nat) = 0 ∧ (1 : Nat) = 1 ∧ (0
 : Nat) = 0 ∧ (lM x.1).length = (lM x.1).length ∧ g.val.2.2.1 = g_1.val.2.2.1) ∧ (true = true ∧ NilNil ∧ (0 : Nat) = 0 ∧ (1 : Nat) = 1 ∧ (0 : Nat) = 0 ∧ (lW
 x.1).length = (lW x.1).length ∧ g.val.2.2.2 = g_1.val.2.2.2) ∧ True) ∧ ((3 : TypeId) = 3 ∧ (1 : Nat) = 1 ∧ g.val.1 = g_1.val.1 ∧ (lC x.1).length ≤ (lC
 x.1).length ∧ ∀ (i : Nat), i < (lC x.1).length → [AV.int .i64 ((lC x.1).getD i 0)] = [AV.int .i64 ((lC x.1).getD i 0)]) ∧ ((3 : TypeId) = 3 ∧ (1 : Nat) = 1 ∧
 g.val.2.2.1 = g_1.val.2.2.1 ∧ (lM x.1).length ≤ (lM x.1).length ∧ ∀ (i : Nat), i < (lM x.1).length → [AV.int .i64 ((lM x.1).getD i 0)] = [AV.int .i64 ((lM
 x.1).getD i 0)]) ∧ ((3 : TypeId) = 3 ∧ (1 : Nat) = 1 ∧ g.val.2.2.2 = g_1.val.2.2.2 ∧ (lW x.1).length ≤ (lW x.1).length ∧ ∀ (i : Nat), i < (lW x.1).length →
 [AV.int .i64 ((lW x.1).getD i 0)] = [AV.int .i64 ((lW x.1).getD i 0)]) ∧ True) ∧ ((false = (hasN (x.1.n, x.1.w) x.2 && !hasN (x.1.n, x.1.m) x.2) ∧ True) ∧ refB
 x.1 = refB x.1 ∧ true = true ∧ True) ∧ True)) ∧ (∀ (g : Subtype (RCap x.1 false true true)), Exx (List Int × Int) fun x_1 => (((0 + (lC x.1).length ≤ (lC
 x.1).length ∧ (lC x.1).length = x_1.1.length ∧ ∀ (i : Nat), i < x_1.1.length → [AV.int .i64 ((lC x.1).getD (0 + i) 0)] = [AV.int .i64 (x_1.1.getD i 0)]) ∧ Tr 1
 (x.2 = x_1.2) ∧ True) ∧ true = true ∧ True) ∧ (IntL x_1.1 ∧ I64 x_1.2) ∧ ∀ (y : Unit), True → BC (decide (x_1.2 ∈ x_1.1)) (Exx (List Int × Int) fun x_2 => (((0
 + (lC x.1).length ≤ (lC x.1).length ∧ (lC x.1).length = x_2.1.length ∧ ∀ (i : Nat), i < x_2.1.length → [AV.int .i64 ((lC x.1).getD (0 + i) 0)] = [AV.int .i64
 (x_2.1.getD i 0)]) ∧ Tr 1 (x.2 = x_2.2) ∧ True) ∧ true = true ∧ True) ∧ (IntL x_2.1 ∧ I64 x_2.2) ∧ ∀ (y : Unit), True → Exx Unit fun y => Exx (Subtype (RCap x.1
 false true true)) fun g_1 => Tr 1 (((38 : TypeId) = 38 ∧ Tr 1 ((↑x.1.n : Int) = (↑x.1.n : Int)) ∧ Tr 1 (x.1.r = x.1.r) ∧ (true = true ∧ NilNil ∧ (0 : Nat) = 0 ∧
 (1 : Nat) = 1 ∧ (0 : Nat) = 0 ∧ (lC x.1).length = (lC x.1).length ∧ g.val.1 = g_1.val.1) ∧ (true = true ∧ NilNil ∧ (0 : Nat) = 0 ∧ (1 : Nat) = 1 ∧ (0 : Nat) = 0
 ∧ (lE x.1).length = (lE x.1).length ∧ g.val.2.1 = g_1.val.2.1) ∧ (true = true ∧ NilNil ∧ (0 : Nat) = 0 ∧ (1 : Nat) = 1 ∧ (0 : Nat) = 0 ∧ (lC x.1).length = (lC
 x.1).length ∧ g.val.1 = g_1.val.1) ∧ (true = true ∧ NilNil ∧ (0 : Nat) = 0 ∧ (1 : Nat) = 1 ∧ (0 : Nat) = 0 ∧ (lC x.1).length = (lC x.1).length ∧ g.val.1 =
 g_1.val.1) ∧ True) ∧ ((3 : TypeId) = 3 ∧ (1 : Nat) = 1 ∧ g.val.1 = g_1.val.1 ∧ (lC x.1).length ≤ (lC x.1).length ∧ ∀ (i : Nat), i < (lC x.1).length → [AV.int
 .i64 ((lC x.1).getD i 0)] = [AV.int .i64 ((lC x.1).getD i 0)]) ∧ ((3 : TypeId) = 3 ∧ (1 : Nat) = 1 ∧ g.val.2.1 = g_1.val.2.1 ∧ (lE x.1).length ≤ (lE x.1).length
 ∧ ∀ (i : Nat), i < (lE x.1).length → [AV.int .i64 ((lE x.1).getD i 0)] = [AV.int .i64 ((lE x.1).getD i 0)]) ∧ True) ∧ (((!decide (x_2.2 ∈ x_2.1)) = (hasN
 (x.1.n, x.1.w) x.2 && !hasN (x.1.n, x.1.m) x.2) ∧ True) ∧ refB x.1 = refB x.1 ∧ true = true ∧ True) ∧ True) (Exx Unit fun y => Exx (Subtype (RCap x.1 false true
 true)) fun g_1 => Tr 1 (((38 : TypeId) = 38 ∧ Tr 1 ((↑x.1.n : Int) = (↑x.1.n : Int)) ∧ Tr 1 (x.1.r = x.1.r) ∧ (true = true ∧ NilNil ∧ (0 : Nat) = 0 ∧ (1 : Nat)
 = 1 ∧ (0 : Nat) = 0 ∧ (lC x.1).length = (lC x.1).length ∧ g.val.1 = g_1.val.1) ∧ (true = true ∧ NilNil ∧ (0 : Nat) = 0 ∧ (1 : Nat) = 1 ∧ (0 : Nat) = 0 ∧ (lE
 x.1).length = (lE x.1).length ∧ g.val.2.1 = g_1.val.2.1) ∧ (true = true ∧ NilNil ∧ (0 : Nat) = 0 ∧ (1 : Nat) = 1 ∧ (0 : Nat) = 0 ∧ (lC x.1).length = (lC
 x.1).length ∧ g.val.1 = g_1.val.1) ∧ (true = true ∧ NilNil ∧ (0 : Nat) = 0 ∧ (1 : Nat) = 1 ∧ (0 : Nat) = 0 ∧ (lC x.1).length = (lC x.1).length ∧ g.val.1 =
 g_1.val.1) ∧ True) ∧ ((3 : TypeId) = 3 ∧ (1 : Nat) = 1 ∧ g.val.1 = g_1.val.1 ∧ (lC x.1).length ≤ (lC x.1).length ∧ ∀ (i : Nat), i < (lC x.1).length → [AV.int
 .i64 ((lC x.1).getD i 0)] = [AV.int .i64 ((lC x.1).getD i 0)]) ∧ ((3 : TypeId) = 3 ∧ (1 : Nat) = 1 ∧ g.val.2.1 = g_1.val.2.1 ∧ (lE x.1).length ≤ (lE x.1).length
 ∧ ∀ (i : Nat), i < (lE x.1).length → [AV.int .i64 ((lE x.1).getD i 0)] = [AV.int .i64 ((lE x.1).getD i 0)]) ∧ True) ∧ ((false = (hasN (x.1.n, x.1.w) x.2 &&
 !hasN (x.1.n, x.1.m) x.2) ∧ True) ∧ refB x.1 = refB x.1 ∧ true = true ∧ True) ∧ True)) ∧ (∀ (g : Subtype (RCap x.1 false true false)), Exx (List Int × Int) fun
 x_1 => (((0 + (lW x.1).length ≤ (lW x.1).length ∧ (lW x.1).length = x_1.1.length ∧ ∀ (i : Nat), i < x_1.1.length → [AV.int .i64 ((lW x.1).getD (0 + i) 0)] =
 [AV.int .i64 (x_1.1.getD i 0)]) ∧ Tr 1 (x.2 = x_1.2) ∧ True) ∧ true = true ∧ True) ∧ (IntL x_1.1 ∧ I64 x_1.2) ∧ ∀ (y : Unit), True → BC (decide (x_1.2 ∈ x_1.1))
 (Exx (List Int × Int) fun x_2 => (((0 + (lC x.1).length ≤ (lC x.1).length ∧ (lC x.1).length = x_2.1.length ∧ ∀ (i : Nat), i < x_2.1.length → [AV.int .i64 ((lC
 x.1).getD (0 + i) 0)] = [AV.int .i64 (x_2.1.getD i 0)]) ∧ Tr 1 (x.2 = x_2.2) ∧ True) ∧ true = true ∧ True) ∧ (IntL x_2.1 ∧ I64 x_2.2) ∧ ∀ (y : Unit), True → Exx
 Unit fun y => Exx (Subtype (RCap x.1 false true false)) fun g_1 => Tr 1 (((38 : TypeId) = 38 ∧ Tr 1 ((↑x.1.n : Int) = (↑x.1.n : Int)) ∧ Tr 1 (x.1.r = x.1.r) ∧
 (true = true ∧ NilNil ∧ (0 : Nat) = 0 ∧ (1 : Nat) = 1 ∧ (0 : Nat) = 0 ∧ (lC x.1).length = (lC x.1).length ∧ g.val.1 = g_1.val.1) ∧ (true = true ∧ NilNil ∧ (0 :
 Nat) = 0 ∧ (1 : Nat) = 1 ∧ (0 : Nat) = 0 ∧ (lE x.1).length = (lE x.1).length ∧ g.val.2.1 = g_1.val.2.1) ∧ (true = true ∧ NilNil ∧ (0 : Nat) = 0 ∧ (1 : Nat) = 1
 ∧ (0 : Nat) = 0 ∧ (lC x.1).length = (lC x.1).length ∧ g.val.1 = g_1.val.1) ∧ (true = true ∧ NilNil ∧ (0 : Nat) = 0 ∧ (1 : Nat) = 1 ∧ (0 : Nat) = 0 ∧ (lW
 x.1).length = (lW x.1).length ∧ g.val.2.2.2 = g_1.val.2.2.2) ∧ True) ∧ ((3 : TypeId) = 3 ∧ (1 : Nat) = 1 ∧ g.val.1 = g_1.val.1 ∧ (lC x.1).length ≤ (lC
 x.1).length ∧ ∀ (i : Nat), i < (lC x.1).length → [AV.int .i64 ((lC x.1).getD i 0)] = [AV.int .i64 ((lC x.1).getD i 0)]) ∧ ((3 : TypeId) = 3 ∧ (1 : Nat) = 1 ∧
 g.val.2.1 = g_1.val.2.1 ∧ (lE x.1).length ≤ (lE x.1).length ∧ ∀ (i : Nat), i < (lE x.1).length → [AV.int .i64 ((lE x.1).getD i 0)] = [AV.int .i64 ((lE x.1).getD
 i 0)]) ∧ ((3 : TypeId) = 3 ∧ (1 : Nat) = 1 ∧ g.val.2.2.2 = g_1.val.2.2.2 ∧ (lW x.1).length ≤ (lW x.1).length ∧ ∀ (i : Nat), i < (lW x.1).length → [AV.int .i64
 ((lW x.1).getD i 0)] = [AV.int .i64 ((lW x.1).getD i 0)]) ∧ True) ∧ (((!decide (x_2.2 ∈ x_2.1)) = (hasN (x.1.n, x.1.w) x.2 && !hasN (x.1.n, x.1.m) x.2) ∧ True)
 ∧ refB x.1 = refB x.1 ∧ true = true ∧ True) ∧ True) (Exx Unit fun y => Exx (Subtype (RCap x.1 false true false)) fun g_1 => Tr 1 (((38 : TypeId) = 38 ∧ Tr 1
 ((↑x.1.n : Int) = (↑x.1.n : Int)) ∧ Tr 1 (x.1.r = x.1.r) ∧ (true = true ∧ NilNil ∧ (0 : Nat) = 0 ∧ (1 : Nat) = 1 ∧ (0 : Nat) = 0 ∧ (lC x.1).length = (lC
 x.1).length ∧ g.val.1 = g_1.val.1) ∧ (true = true ∧ NilNil ∧ (0 : Nat) = 0 ∧ (1 : Nat) = 1 ∧ (0 : Nat) = 0 ∧ (lE x.1).length = (lE x.1).length ∧ g.val.2.1 =
 g_1.val.2.1) ∧ (true = true ∧ NilNil ∧ (0 : Nat) = 0 ∧ (1 : Nat) = 1 ∧ (0 : Nat) = 0 ∧ (lC x.1).length = (lC x.1).length ∧ g.val.1 = g_1.val.1) ∧ (true = true ∧
 NilNil ∧ (0 : Nat) = 0 ∧ (1 : Nat) = 1 ∧ (0 : Nat) = 0 ∧ (lW x.1).length = (lW x.1).length ∧ g.val.2.2.2 = g_1.val.2.2.2) ∧ True) ∧ ((3 : TypeId) = 3 ∧ (1 :
 Nat) = 1 ∧ g.val.1 = g_1.val.1 ∧ (lC x.1).length ≤ (lC x.1).length ∧ ∀ (i : Nat), i < (lC x.1).length → [AV.int .i64 ((lC x.1).getD i 0)] = [AV.int .i64 ((lC
 x.1).getD i 0)]) ∧ ((3 : TypeId) = 3 ∧ (1 : Nat) = 1 ∧ g.val.2.1 = g_1.val.2.1 ∧ (lE x.1).length ≤ (lE x.1).length ∧ ∀ (i : Nat), i < (lE x.1).length → [AV.int
 .i64 ((lE x.1).getD i 0)] = [AV.int .i64 ((lE x.1).getD i 0)]) ∧ ((3 : TypeId) = 3 ∧ (1 : Nat) = 1 ∧ g.val.2.2.2 = g_1.val.2.2.2 ∧ (lW x.1).length ≤ (lW
 x.1).length ∧ ∀ (i : Nat), i < (lW x.1).length → [AV.int .i64 ((lW x.1).getD i 0)] = [AV.int .i64 ((lW x.1).getD i 0)]) ∧ True) ∧ ((false = (hasN (x.1.n, x.1.w)
 x.2 && !hasN (x.1.n, x.1.m) x.2) ∧ True) ∧ refB x.1 = refB x.1 ∧ true = true ∧ True) ∧ True)) ∧ (∀ (g : Subtype (RCap x.1 false false true)), Exx (List Int ×
 Int) fun x_1 => (((0 + (lM x.1).length ≤ (lM x.1).length ∧ (lM x.1).length = x_1.1.length ∧ ∀ (i : Nat), i < x_1.1.length → [AV.int .i64 ((lM x.1).getD (0 + i)
 0)] = [AV.int .i64 (x_1.1.getD i 0)]) ∧ Tr 1 (x.2 = x_1.2) ∧ True) ∧ true = true ∧ True) ∧ (IntL x_1.1 ∧ I64 x_1.2) ∧ ∀ (y : Unit), True → BC (decide (x_1.2 ∈
 x_1.1)) (Exx (List Int × Int) fun x_2 => (((0 + (lM x.1).length ≤ (lM x.1).length ∧ (lM x.1).length = x_2.1.length ∧ ∀ (i : Nat), i < x_2.1.length → [AV.int
 .i64 ((lM x.1).getD (0 + i) 0)] = [AV.int .i64 (x_2.1.getD i 0)]) ∧ Tr 1 (x.2 = x_2.2) ∧ True) ∧ true = true ∧ True) ∧ (IntL x_2.1 ∧ I64 x_2.2) ∧ ∀ (y : Unit),
 True → Exx Unit fun y => Exx (Subtype (RCap x.1 false false true)) fun g_1 => Tr 1 (((38 : TypeId) = 38 ∧ Tr 1 ((↑x.1.n : Int) = (↑x.1.n : Int)) ∧ Tr 1 (x.1.r =
 x.1.r) ∧ (true = true ∧ NilNil ∧ (0 : Nat) = 0 ∧ (1 : Nat) = 1 ∧ (0 : Nat) = 0 ∧ (lC x.1).length = (lC x.1).length ∧ g.val.1 = g_1.val.1) ∧ (true = true ∧
 NilNil ∧ (0 : Nat) = 0 ∧ (1 : Nat) = 1 ∧ (0 : Nat) = 0 ∧ (lE x.1).length = (lE x.1).length ∧ g.val.2.1 = g_1.val.2.1) ∧ (true = true ∧ NilNil ∧ (0 : Nat) = 0 ∧
 (1 : Nat) = 1 ∧ (0 : Nat) = 0 ∧ (lM x.1).length = (lM x.1).length ∧ g.val.2.2.1 = g_1.val.2.2.1) ∧ (true = true ∧ NilNil ∧ (0 : Nat) = 0 ∧ (1 : Nat) = 1 ∧ (0 :
 Nat) = 0 ∧ (lM x.1).length = (lM x.1).length ∧ g.val.2.2.1 = g_1.val.2.2.1) ∧ True) ∧ ((3 : TypeId) = 3 ∧ (1 : Nat) = 1 ∧ g.val.1 = g_1.val.1 ∧ (lC x.1).length
 ≤ (lC x.1).length ∧ ∀ (i : Nat), i < (lC x.1).length → [AV.int .i64 ((lC x.1).getD i 0)] = [AV.int .i64 ((lC x.1).getD i 0)]) ∧ ((3 : TypeId) = 3 ∧ (1 : Nat) =
 1 ∧ g.val.2.1 = g_1.val.2.1 ∧ (lE x.1).length ≤ (lE x.1).length ∧ ∀ (i : Nat), i < (lE x.1).length → [AV.int .i64 ((lE x.1).getD i 0)] = [AV.int .i64 ((lE
 x.1).getD i 0)]) ∧ ((3 : TypeId) = 3 ∧ (1 : Nat) = 1 ∧ g.val.2.2.1 = g_1.val.2.2.1 ∧ (lM x.1).length ≤ (lM x.1).length ∧ ∀ (i : Nat), i < (lM x.1).length →
 [AV.int .i64 ((lM x.1).getD i 0)] = [AV.int .i64 ((lM x.1).getD i 0)]) ∧ True) ∧ (((!decide (x_2.2 ∈ x_2.1)) = (hasN (x.1.n, x.1.w) x.2 && !hasN (x.1.n, x.1.m)
 x.2) ∧ True) ∧ refB x.1 = refB x.1 ∧ true = true ∧ True) ∧ True) (Exx Unit fun y => Exx (Subtype (RCap x.1 false false true)) fun g_1 => Tr 1 (((38 : TypeId) =
 38 ∧ Tr 1 ((↑x.1.n : Int) = (↑x.1.n : Int)) ∧ Tr 1 (x.1.r = x.1.r) ∧ (true = true ∧ NilNil ∧ (0 : Nat) = 0 ∧ (1 : Nat) = 1 ∧ (0 : Nat) = 0 ∧ (lC x.1).length =
 (lC x.1).length ∧ g.val.1 = g_1.val.1) ∧ (true = true ∧ NilNil ∧ (0 : Nat) = 0 ∧ (1 : Nat) = 1 ∧ (0 : Nat) = 0 ∧ (lE x.1).length = (lE x.1).length ∧ g.val.2.1 =
 g_1.val.2.1) ∧ (true = true ∧ NilNil ∧ (0 : Nat) = 0 ∧ (1 : Nat) = 1 ∧ (0 : Nat) = 0 ∧ (lM x.1).length = (lM x.1).length ∧ g.val.2.2.1 = g_1.val.2.2.1) ∧ (true
 = true ∧ NilNil ∧ (0 : Nat) = 0 ∧ (1 : Nat) = 1 ∧ (0 : Nat) = 0 ∧ (lM x.1).length = (lM x.1).length ∧ g.val.2.2.1 = g_1.val.2.2.1) ∧ True) ∧ ((3 : TypeId) = 3 ∧
 (1 : Nat) = 1 ∧ g.val.1 = g_1.val.1 ∧ (lC x.1).length ≤ (lC x.1).length ∧ ∀ (i : Nat), i < (lC x.1).length → [AV.int .i64 ((lC x.1).getD i 0)] = [AV.int .i64
 ((lC x.1).getD i 0)]) ∧ ((3 : TypeId) = 3 ∧ (1 : Nat) = 1 ∧ g.val.2.1 = g_1.val.2.1 ∧ (lE x.1).length ≤ (lE x.1).length ∧ ∀ (i : Nat), i < (lE x.1).length →
 [AV.int .i64 ((lE x.1).getD i 0)] = [AV.int .i64 ((lE x.1).getD i 0)]) ∧ ((3 : TypeId) = 3 ∧ (1 : Nat) = 1 ∧ g.val.2.2.1 = g_1.val.2.2.1 ∧ (lM x.1).length ≤ (lM
 x.1).length ∧ ∀ (i : Nat), i < (lM x.1).length → [AV.int .i64 ((lM x.1).getD i 0)] = [AV.int .i64 ((lM x.1).getD i 0)]) ∧ True) ∧ ((false = (hasN (x.1.n, x.1.w)
 x.2 && !hasN (x.1.n, x.1.m) x.2) ∧ True) ∧ refB x.1 = refB x.1 ∧ true = true ∧ True) ∧ True)) ∧ (∀ (g : Subtype (RCap x.1 false false false)), Exx (List Int ×
 Int) fun x_1 => (((0 + (lW x.1).length ≤ (lW x.1).length ∧ (lW x.1).length = x_1.1.length ∧ ∀ (i : Nat), i < x_1.1.length → [AV.int .i64 ((lW x.1).getD (0 + i)
 0)] = [AV.int .i64 (x_1.1.getD i 0)]) ∧ Tr 1 (x.2 = x_1.2) ∧ True) ∧ true = true ∧ True) ∧ (IntL x_1.1 ∧ I64 x_1.2) ∧ ∀ (y : Unit), True → BC (decide (x_1.2 ∈
 x_1.1)) (Exx (List Int × Int) fun x_2 => (((0 + (lM x.1).length ≤ (lM x.1).length ∧ (lM x.1).length = x_2.1.length ∧ ∀ (i : Nat), i < x_2.1.length → [AV.int
 .i64 ((lM x.1).getD (0 + i) 0)] = [AV.int .i64 (x_2.1.getD i 0)]) ∧ Tr 1 (x.2 = x_2.2) ∧ True) ∧ true = true ∧ True) ∧ (IntL x_2.1 ∧ I64 x_2.2) ∧ ∀ (y : Unit),
 True → Exx Unit fun y => Exx (Subtype (RCap x.1 false false false)) fun g_1 => Tr 1 (((38 : TypeId) = 38 ∧ Tr 1 ((↑x.1.n : Int) = (↑x.1.n : Int)) ∧ Tr 1 (x.1.r
 = x.1.r) ∧ (true = true ∧ NilNil ∧ (0 : Nat) = 0 ∧ (1 : Nat) = 1 ∧ (0 : Nat) = 0 ∧ (lC x.1).length = (lC x.1).length ∧ g.val.1 = g_1.val.1) ∧ (true = true ∧
 NilNil ∧ (0 : Nat) = 0 ∧ (1 : Nat) = 1 ∧ (0 : Nat) = 0 ∧ (lE x.1).length = (lE x.1).length ∧ g.val.2.1 = g_1.val.2.1) ∧ (true = true ∧ NilNil ∧ (0 : Nat) = 0 ∧
 (1 : Nat) = 1 ∧ (0 : Nat) = 0 ∧ (lM x.1).length = (lM x.1).length ∧ g.val.2.2.1 = g_1.val.2.2.1) ∧ (true = true ∧ NilNil ∧ (0 : Nat) = 0 ∧ (1 : Nat) = 1 ∧ (0 :
 Nat) = 0 ∧ (lW x.1).length = (lW x.1).length ∧ g.val.2.2.2 = g_1.val.2.2.2) ∧ True) ∧ ((3 : TypeId) = 3 ∧ (1 : Nat) = 1 ∧ g.val.1 = g_1.val.1 ∧ (lC x.1).length
 ≤ (lC x.1).length ∧ ∀ (i : Nat), i < (lC x.1).length → [AV.int .i64 ((lC x.1).getD i 0)] = [AV.int .i64 ((lC x.1).getD i 0)]) ∧ ((3 : TypeId) = 3 ∧ (1 : Nat) =
 1 ∧ g.val.2.1 = g_1.val.2.1 ∧ (lE x.1).length ≤ (lE x.1).length ∧ ∀ (i : Nat), i < (lE x.1).length → [AV.int .i64 ((lE x.1).getD i 0)] = [AV.int .i64 ((lE
 x.1).getD i 0)]) ∧ ((3 : TypeId) = 3 ∧ (1 : Nat) = 1 ∧ g.val.2.2.1 = g_1.val.2.2.1 ∧ (lM x.1).length ≤ (lM x.1).length ∧ ∀ (i : Nat), i < (lM x.1).length →
 [AV.int .i64 ((lM x.1).getD i 0)] = [AV.int .i64 ((lM x.1).getD i 0)]) ∧ ((3 : TypeId) = 3 ∧ (1 : Nat) = 1 ∧ g.val.2.2.2 = g_1.val.2.2.2 ∧ (lW x.1).length ≤ (lW
 x.1).length ∧ ∀ (i : Nat), i < (lW x.1).length → [AV.int .i64 ((lW x.1).getD i 0)] = [AV.int .i64 ((lW x.1).getD i 0)]) ∧ True) ∧ (((!decide (x_2.2 ∈ x_2.1)) =
 (hasN (x.1.n, x.1.w) x.2 && !hasN (x.1.n, x.1.m) x.2) ∧ True) ∧ refB x.1 = refB x.1 ∧ true = true ∧ True) ∧ True) (Exx Unit fun y => Exx (Subtype (RCap x.1
 false false false)) fun g_1 => Tr 1 (((38 : TypeId) = 38 ∧ Tr 1 ((↑x.1.n : Int) = (↑x.1.n : Int)) ∧ Tr 1 (x.1.r = x.1.r) ∧ (true = true ∧ NilNil ∧ (0 : Nat) = 0
 ∧ (1 : Nat) = 1 ∧ (0 : Nat) = 0 ∧ (lC x.1).length = (lC x.1).length ∧ g.val.1 = g_1.val.1) ∧ (true = true ∧ NilNil ∧ (0 : Nat) = 0 ∧ (1 : Nat) = 1 ∧ (0 : Nat) =
 0 ∧ (lE x.1).length = (lE x.1).length ∧ g.val.2.1 = g_1.val.2.1) ∧ (true = true ∧ NilNil ∧ (0 : Nat) = 0 ∧ (1 : Nat) = 1 ∧ (0 : Nat) = 0 ∧ (lM x.1).length = (lM
 x.1).length ∧ g.val.2.2.1 = g_1.val.2.2.1) ∧ (true = true ∧ NilNil ∧ (0 : Nat) = 0 ∧ (1 : Nat) = 1 ∧ (0 : Nat) = 0 ∧ (lW x.1).length = (lW x.1).length ∧
 g.val.2.2.2 = g_1.val.2.2.2) ∧ True) ∧ ((3 : TypeId) = 3 ∧ (1 : Nat) = 1 ∧ g.val.1 = g_1.val.1 ∧ (lC x.1).length ≤ (lC x.1).length ∧ ∀ (i : Nat), i < (lC
 x.1).length → [AV.int .i64 ((lC x.1).getD i 0)] = [AV.int .i64 ((lC x.1).getD i 0)]) ∧ ((3 : TypeId) = 3 ∧ (1 : Nat) = 1 ∧ g.val.2.1 = g_1.val.2.1 ∧ (lE
 x.1).length ≤ (lE x.1).length ∧ ∀ (i : Nat), i < (lE x.1).length → [AV.int .i64 ((lE x.1).getD i 0)] = [AV.int .i64 ((lE x.1).getD i 0)]) ∧ ((3 : TypeId) = 3 ∧
 (1 : Nat) = 1 ∧ g.val.2.2.1 = g_1.val.2.2.1 ∧ (lM x.1).length ≤ (lM x.1).length ∧ ∀ (i : Nat), i < (lM x.1).length → [AV.int .i64 ((lM x.1).getD i 0)] = [AV.int
 .i64 ((lM x.1).getD i 0)]) ∧ ((3 : TypeId) = 3 ∧ (1 : Nat) = 1 ∧ g.val.2.2.2 = g_1.val.2.2.2 ∧ (lW x.1).length ≤ (lW x.1).length ∧ ∀ (i : Nat), i < (lW
 x.1).length → [AV.int .i64 ((lW x.1).getD i 0)] = [AV.int .i64 ((lW x.1).getD i 0)]) ∧ True) ∧ ((false = (hasN (x.1.n, x.1.w) x.2 && !hasN (x.1.n, x.1.m) x.2) ∧
 True) ∧ refB x.1 = refB x.1 ∧ true = true ∧ True) ∧ True)) ∧ True) = (fnVCo tb [(14, specOf refHasC)] Tryd.f25 refOwnC (fun x => { opensA := [(1, [opR 0 x.1])]
 }) (fun _ _ _ => none) (fun _ => []) (fun x y av H => clR 0 H x.1)) := by kernel_rfl

theorem refOwn_ok : SpecOk Tryd.prog 25 (specOf refOwnC) := by
  refine specOko mixed tb_ok (SPok.cons refHas_ok SPok.nil) Tryd.func25 (by decide) (refGetC_ok fun _ => rfl) (an := (fun x => { opensA := [(1, [opR 0 x.1])] })) (σ := (fun _ _ _ => none)) (op := (fun _ => [])) (cl := (fun x y av H => clR 0 H x.1)) ?_
  rw [← refOwnV]
  simp (maxSteps := 10000000) only [and_false, false_and, false_or, or_false, bOf_true, bOf_false, true_bOf, false_bOf, Exx, int_ite, merge_o, Tr_eq, true_and, and_true, exists_const, forall_const, implies_true, forall_eq, exists_eq, exists_eq', exists_eq_left, exists_eq_left', exists_eq_right, Prod.exists, Prod.forall, and_assoc, exists_and_left, BC_iff, Bool.not_eq_true', Bool.not_eq_false', decide_eq_true_eq, decide_eq_false_iff_not, I64, nat_cast_inj, Int.toNat_natCast, nats_iff, nats_iff', ints_iff, ints_iff', natss_iff, natss_iff', nilnil, litL_eq, str_inj, str_append, str_length, str_getD, str_take, lit1_iff, one_iff, two_iff, one_get, Nat.zero_add, Nat.sub_zero, Nat.reduceMul, Nat.reduceDiv, Nat.reduceAdd, Int.reduceToNat, Nat.not_lt_zero, if_false, if_true, Nat.le_refl, List.length_singleton, List.length_cons, List.length_nil, Bool.false_eq_true, not_true_eq_false, false_implies, not_false_eq_true, Prod.mk.injEq, refB_inj, refB_open, Subtype.forall, Subtype.exists, exists_prop, RCap, RC1_t, RC1_f]
  rintro ⟨n, r, c, e, m, w⟩ b ⟨hw, hb⟩
  have hI := hw.I
  have hd : ∀ k, hasN (n, k) b = decide (b ∈ listN (n, k)) := fun k => hasN_mem
  simp only [lC, lE, lM, lW, hd]
  repeat' first
    | exact hI _
    | intro _
    | apply And.intro
  all_goals grind

end Yard
