import Derived.Test.YtlicnnoljbfhfaaDoorRef18Free

namespace Yard
open Go Go.Sx Go.Proofs
set_option linter.unusedVariables false
set_option linter.unusedSimpArgs false
set_option maxRecDepth 4000
set_option maxHeartbeats 4000000

def refTakeC : Ctr := refSetC Int (fun x => I64 x.2 ∧ 0 ≤ x.2) (fun x => [i64 x.2]) (fun x => takeS x.1 x.2) (fun x => .tup [i64 (takeAt x.1 x.2), i64 (takeErr x.1 x.2)])

theorem refTakeV : (∀ (x : AllocT × Int), RefW x.1 ∧ I64 x.2 ∧ (0 : Int) ≤ x.2 → Exx AllocT fun x_1 => (((true = true ∧ NilNil ∧ (0 : Nat) = 0) ∧ True) ∧ true =
 true ∧ refB x.1 = refB x_1 ∧ True) ∧ RefW x_1 ∧ ∀ (y : Nat), (freeL x_1).length ≤ y ∧ y ≤ 9223372036854775807 → BC (decide ((↑(freeL x_1).length : Int) ≤ x.2))
 (Exx Unit fun y => (((Tr 1 ((0 : Int) = takeAt x.1 x.2) ∧ Tr 1 ((10 : Int) = takeErr x.1 x.2) ∧ True) ∧ True) ∧ refB x_1 = refB (takeS x.1 x.2) ∧ true = true ∧
 True) ∧ True) (Exx Unit fun y => refB x_1 = ((opR 0 x.1).o y).ob ∧ (∀ (g : Subtype (RCap x.1 true true true)), ((0 : Int) ≤ (0 : Int) ∧ (0 : Int) < (↑(freeL
 x_1).length : Int)) ∧ ((0 + Int.toNat 0 < (freeL x_1).length ∧ Exx (Nat × List Int × Int × Int) fun x_2 => (((true = true ∧ NilNil ∧ (0 : Nat) = 0 ∧ (1 : Nat) =
 1 ∧ (0 : Nat) = 0 ∧ (lC x.1).length = x_2.2.1.length ∧ g.val.1 = x_2.1) ∧ Tr 1 ((↑x.1.n : Int) = x_2.2.2.1) ∧ Tr 1 ((freeL x_1).getD (0 + Int.toNat 0) 0 =
 x_2.2.2.2) ∧ True) ∧ true = true ∧ ((3 : TypeId) = 3 ∧ (1 : Nat) = 1 ∧ g.val.1 = x_2.1 ∧ x_2.2.1.length ≤ (lC x.1).length ∧ ∀ (i : Nat), i < x_2.2.1.length →
 [AV.int .i64 ((lC x.1).getD i 0)] = [AV.int .i64 (x_2.2.1.getD i 0)]) ∧ True) ∧ (Ints x_2.2.1 ∧ x_2.2.1.length ≤ x_2.1 ∧ x_2.1 ≤ 9223372036854775807 ∧ I64
 x_2.2.2.1 ∧ I64 x_2.2.2.2 ∧ List.Pairwise (fun x1 x2 => x1 < x2) x_2.2.1) ∧ (x_2.2.2.2 < (0 : Int) ∨ x_2.2.2.1 ≤ x_2.2.2.2 ∨ x_2.2.2.2 ∈ x_2.2.1 → ∀ (y : Unit),
 True → ((0 : Int) ≤ (0 : Int) ∧ (0 : Int) < (↑(freeL x_1).length : Int)) ∧ 0 + Int.toNat 0 < (freeL x_1).length ∧ Exx Unit fun y => Exx (Subtype (RCap (takeS
 x.1 x.2) true true true)) fun g_1 => Tr 1 (((38 : TypeId) = 38 ∧ Tr 1 ((↑x.1.n : Int) = (↑(takeS x.1 x.2).n : Int)) ∧ Tr 1 (x.1.r = (takeS x.1 x.2).r) ∧ (true =
 true ∧ NilNil ∧ (0 : Nat) = 0 ∧ (1 : Nat) = 1 ∧ (0 : Nat) = 0 ∧ (lC x.1).length = (lC (takeS x.1 x.2)).length ∧ g.val.1 = g_1.val.1) ∧ (true = true ∧ NilNil ∧
 (0 : Nat) = 0 ∧ (1 : Nat) = 1 ∧ (0 : Nat) = 0 ∧ (lC x.1).length = (lC (takeS x.1 x.2)).length ∧ g.val.1 = g_1.val.1) ∧ (true = true ∧ NilNil ∧ (0 : Nat) = 0 ∧
 (1 : Nat) = 1 ∧ (0 : Nat) = 0 ∧ (lC x.1).length = (lC (takeS x.1 x.2)).length ∧ g.val.1 = g_1.val.1) ∧ (true = true ∧ NilNil ∧ (0 : Nat) = 0 ∧ (1 : Nat) = 1 ∧
 (0 : Nat) = 0 ∧ x_2.2.1.length = (lC (takeS x.1 x.2)).length ∧ x_2.1 = g_1.val.1) ∧ True) ∧ ((3 : TypeId) = 3 ∧ (1 : Nat) = 1 ∧ x_2.1 = g_1.val.1 ∧ (lC (takeS
 x.1 x.2)).length ≤ x_2.2.1.length ∧ ∀ (i : Nat), i < (lC (takeS x.1 x.2)).length → [AV.int .i64 (x_2.2.1.getD i 0)] = [AV.int .i64 ((lC (takeS x.1 x.2)).getD i
 0)]) ∧ True) ∧ (((Tr 1 ((freeL x_1).getD (0 + Int.toNat 0) 0 = takeAt x.1 x.2) ∧ Tr 1 ((0 : Int) = takeErr x.1 x.2) ∧ True) ∧ True) ∧ refB (takeS x.1 x.2) =
 refB (takeS x.1 x.2) ∧ true = true ∧ True) ∧ True) ∧ (¬refAddI.p x_2 → ∀ (y : Nat), x_2.2.1.length + 1 ≤ y ∧ y ≤ 9223372036854775807 → ((0 : Int) ≤ (0 : Int) ∧
 (0 : Int) < (↑(freeL x_1).length : Int)) ∧ 0 + Int.toNat 0 < (freeL x_1).length ∧ Exx Unit fun y_1 => Exx (Subtype (RCap (takeS x.1 x.2) true true false)) fun
 g_1 => Tr 1 (((38 : TypeId) = 38 ∧ Tr 1 ((↑x.1.n : Int) = (↑(takeS x.1 x.2).n : Int)) ∧ Tr 1 (x.1.r = (takeS x.1 x.2).r) ∧ (true = true ∧ NilNil ∧ (0 : Nat) = 0
 ∧ (1 : Nat) = 1 ∧ (0 : Nat) = 0 ∧ (lC x.1).length = (lC (takeS x.1 x.2)).length ∧ g.val.1 = g_1.val.1) ∧ (true = true ∧ NilNil ∧ (0 : Nat) = 0 ∧ (1 : Nat) = 1 ∧
 (0 : Nat) = 0 ∧ (lC x.1).length = (lC (takeS x.1 x.2)).length ∧ g.val.1 = g_1.val.1) ∧ (true = true ∧ NilNil ∧ (0 : Nat) = 0 ∧ (1 : Nat) = 1 ∧ (0 : Nat) = 0 ∧
 (lC x.1).length = (lC (takeS x.1 x.2)).length ∧ g.val.1 = g_1.val.1) ∧ (true = true ∧ NilNil ∧ (0 : Nat) = 0 ∧ (1 : Nat) = 1 ∧ (0 : Nat) = 0 ∧ x_2.2.1.length +
 1 = (lW (takeS x.1 x.2)).length ∧ y = g_1.val.2.2.2) ∧ True) ∧ ((3 : TypeId) = 3 ∧ (1 : Nat) = 1 ∧ x_2.1 = g_1.val.1 ∧ (lC (takeS x.1 x.2)).length ≤
 x_2.2.1.length ∧ ∀ (i : Nat), i < (lC (takeS x.1 x.2)).length → [AV.int .i64 (x_2.2.1.getD i 0)] = [AV.int .i64 ((lC (takeS x.1 x.2)).getD i 0)]) ∧ ((3 :
 TypeId) = 3 ∧ (1 : Nat) = 1 ∧ y = g_1.val.2.2.2 ∧ (lW (takeS x.1 x.2)).length ≤ x_2.2.1.length + 1 ∧ ∀ (i : Nat), i < (lW (takeS x.1 x.2)).length → [AV.int .i64
 ((insI x_2.2.1 x_2.2.2.2).getD i 0)] = [AV.int .i64 ((lW (takeS x.1 x.2)).getD i 0)]) ∧ True) ∧ (((Tr 1 ((freeL x_1).getD (0 + Int.toNat 0) 0 = takeAt x.1 x.2)
 ∧ Tr 1 ((0 : Int) = takeErr x.1 x.2) ∧ True) ∧ True) ∧ refB (takeS x.1 x.2) = refB (takeS x.1 x.2) ∧ true = true ∧ True) ∧ True)) ∧ 0 + Int.toNat 0 < (freeL
 x_1).length ∧ Exx (Nat × List Int × Int × Int) fun x_2 => (((true = true ∧ NilNil ∧ (0 : Nat) = 0 ∧ (1 : Nat) = 1 ∧ (0 : Nat) = 0 ∧ (lC x.1).length =
 x_2.2.1.length ∧ g.val.1 = x_2.1) ∧ Tr 1 ((↑x.1.n : Int) = x_2.2.2.1) ∧ Tr 1 ((freeL x_1).getD (0 + Int.toNat 0) 0 = x_2.2.2.2) ∧ True) ∧ true = true ∧ ((3 :
 TypeId) = 3 ∧ (1 : Nat) = 1 ∧ g.val.1 = x_2.1 ∧ x_2.2.1.length ≤ (lC x.1).length ∧ ∀ (i : Nat), i < x_2.2.1.length → [AV.int .i64 ((lC x.1).getD i 0)] = [AV.int
 .i64 (x_2.2.1.getD i 0)]) ∧ True) ∧ (Ints x_2.2.1 ∧ x_2.2.1.length ≤ x_2.1 ∧ x_2.1 ≤ 9223372036854775807 ∧ I64 x_2.2.2.1 ∧ I64 x_2.2.2.2 ∧ List.Pairwise (fun x1
 x2 => x1 < x2) x_2.2.1) ∧ (x_2.2.2.2 < (0 : Int) ∨ x_2.2.2.1 ≤ x_2.2.2.2 ∨ x_2.2.2.2 ∈ x_2.2.1 → ∀ (y : Unit), True → ((0 : Int) ≤ (0 : Int) ∧ (0 : Int) <
 (↑(freeL x_1).length : Int)) ∧ 0 + Int.toNat 0 < (freeL x_1).length ∧ Exx Unit fun y => Exx (Subtype (RCap (takeS x.1 x.2) true true true)) fun g_1 => Tr 1
 (((38 : TypeId) = 38 ∧ Tr 1 ((↑x.1.n : Int) = (↑(takeS x.1 x.2).n : Int)) ∧ Tr 1 (x.1.r = (takeS x.1 x.2).r) ∧ (true = true ∧ NilNil ∧ (0 : Nat) = 0 ∧ (1 : Nat)
 = 1 ∧ (0 : Nat) = 0 ∧ (lC x.1).length = (lC (takeS x.1 x.2)).length ∧ g.val.1 = g_1.val.1) ∧ (true = true ∧ NilNil ∧ (0 : Nat) = 0 ∧ (1 : Nat) = 1 ∧ (0 : Nat) =
 0 ∧ (lC x.1).length = (lC (takeS x.1 x.2)).length ∧ g.val.1 = g_1.val.1) ∧ (true = true ∧ NilNil ∧ (0 : Nat) = 0 ∧ (1 : Nat) = 1 ∧ (0 : Nat) = 0 ∧ (lC
 x.1).length = (lC (takeS x.1 x.2)).length ∧ g.val.1 = g_1.val.1) ∧ (true = true ∧ NilNil ∧ (0 : Nat) = 0 ∧ (1 : Nat) = 1 ∧ (0 : Nat) = 0 ∧ x_2.2.1.length = (lC
 (takeS x.1 x.2)).length ∧ x_2.1 = g_1.val.1) ∧ True) ∧ ((3 : TypeId) = 3 ∧ (1 : Nat) = 1 ∧ x_2.1 = g_1.val.1 ∧ (lC (takeS x.1 x.2)).length ≤ x_2.2.1.length ∧ ∀
 (i : Nat), i < (lC (takeS x.1 x.2)).length → [AV.int .i64 (x_2.2.1.getD i 0)] = [AV.int .i64 ((lC (takeS x.1 x.2)).getD i 0)]) ∧ True) ∧ (((Tr 1 ((freeL
 x_1).getD (0 + Int.toNat 0) 0 = takeAt x.1 x.2) ∧ Tr 1 ((0 : Int) = takeErr x.1 x.2) ∧ True) ∧ True) ∧ refB (takeS x.1 x.2) = refB (takeS x.1 x.2) ∧ true = true
 ∧ True) ∧ True) ∧ (¬refAddI.p x_2 → ∀ (y : Nat), x_2.2.1.length + 1 ≤ y ∧ y ≤ 9223372036854775807 → ((0 : Int) ≤ (0 : Int) ∧ (0 : Int) < (↑(freeL x_1).length :
 Int)) ∧ 0 + Int.toNat 0 < (freeL x_1).length ∧ Exx Unit fun y_1 => Exx (Subtype (RCap (takeS x.1 x.2) true true false)) fun g_1 => Tr 1 (((38 : TypeId) = 38 ∧
 Tr 1 ((↑x.1.n : Int) = (↑(takeS x.1 x.2).n : Int)) ∧ Tr 1 (x.1.r = (takeS x.1 x.2).r) ∧ (true = true ∧ NilNil ∧ (0 : Nat) = 0 ∧ (1 : Nat) = 1 ∧ (0 : Nat) = 0 ∧
 (lC x.1).length = (lC (takeS x.1 x.2)).length ∧ g.val.1 = g_1.val.1) ∧ (true = true ∧ NilNil ∧ (0 : Nat) = 0 ∧ (1 : Nat) = 1 ∧ (0 : Nat) = 0 ∧ (lC x.1).length =
 (lC (takeS x.1 x.2)).length ∧ g.val.1 = g_1.val.1) ∧ (true = true ∧ NilNil ∧ (0 : Nat) = 0 ∧ (1 : Nat) = 1 ∧ (0 : Nat) = 0 ∧ (lC x.1).length = (lC (takeS x.1
 x.2)).length ∧ g.val.1 = g_1.val.1) ∧ (true = true ∧ NilNil ∧ (0 : Nat) = 0 ∧ (1 : Nat) = 1 ∧ (0 : Nat) = 0 ∧ x_2.2.1.length + 1 = (lW (takeS x.1 x.2)).length ∧
 y = g_1.val.2.2.2) ∧ True) ∧ ((3 : TypeId) = 3 ∧ (1 : Nat) = 1 ∧ x_2.1 = g_1.val.1 ∧ (lC (takeS x.1 x.2)).length ≤ x_2.2.1.length ∧ ∀ (i : Nat), i < (lC (takeS
 x.1 x.2)).length → [AV.int .i64 (x_2.2.1.getD i 0)] = [AV.int .i64 ((lC (takeS x.1 x.2)).getD i 0)]) ∧ ((3 : TypeId) = 3 ∧ (1 : Nat) = 1 ∧ y = g_1.val.2.2.2 ∧
 (lW (takeS x.1 x.2)).length ≤ x_2.2.1.length + 1 ∧ ∀ (i : Nat), i < (lW (takeS x.1 x.2)).length → [AV.int .i64 ((insI x_2.2.1 x_2.2.2.2).getD i 0)] = [AV.int
 .i64 ((lW (takeS x.1 x.2)).getD i 0)]) ∧ True) ∧ (((Tr 1 ((freeL x_1).getD (0 + Int.toNat 0) 0 = takeAt x.1 x.2) ∧ Tr 1 ((0 : Int) = takeErr x.1 x.2) ∧ True) ∧
 True) ∧ refB (takeS x.1 x.2) = refB (takeS x.1 x.2) ∧ true = true ∧ True) ∧ True)) ∧ ((0 + Int.toNat 0 < (freeL x_1).length ∧ Exx (Nat × List Int × Int × Int)
 fun x_2 => (((true = true ∧ NilNil ∧ (0 : Nat) = 0 ∧ (1 : Nat) = 1 ∧ (0 : Nat) = 0 ∧ (lC x.1).length = x_2.2.1.length ∧ g.val.1 = x_2.1) ∧ Tr 1 ((↑x.1.n : Int)
 = x_2.2.2.1) ∧ Tr 1 ((freeL x_1).getD (0 + Int.toNat 0) 0 = x_2.2.2.2) ∧ True) ∧ true = true ∧ ((3 : TypeId) = 3 ∧ (1 : Nat) = 1 ∧ g.val.1 = x_2.1 ∧
 x_2.2.1.length ≤ (lC x.1).length ∧ ∀ (i : Nat), i < x_2.2.1.length → [AV.int .i64 ((lC x.1).getD i 0)] = [AV.int .i64 (x_2.2.1.getD i 0)]) ∧ True) ∧ (Ints
 x_2.2.1 ∧ x_2.2.1.length ≤ x_2.1 ∧ x_2.1 ≤ 9223372036854775807 ∧ I64 x_2.2.2.1 ∧ I64 x_2.2.2.2 ∧ List.Pairwise (fun x1 x2 => x1 < x2) x_2.2.1) ∧ (x_2.2.2.2 < (0
 : Int) ∨ x_2.2.2.1 ≤ x_2.2.2.2 ∨ x_2.2.2.2 ∈ x_2.2.1 → ∀ (y : Unit), True → ((0 : Int) ≤ (0 : Int) ∧ (0 : Int) < (↑(freeL x_1).length : Int)) ∧ 0 + Int.toNat 0
 < (freeL x_1).length ∧ Exx Unit fun y => Exx (Subtype (RCap (takeS x.1 x.2) true true true)) fun g_1 => Tr 1 (((38 : TypeId) = 38 ∧ Tr 1 ((↑x.1.n : Int) =
 (↑(takeS x.1 x.2).n : Int)) ∧ Tr 1 (x.1.r = (takeS x.1 x.2).r) ∧ (true = true ∧ NilNil ∧ (0 : Nat) = 0 ∧ (1 : Nat) = 1 ∧ (0 : Nat) = 0 ∧ (lC x.1).length = (lC
 (takeS x.1 x.2)).length ∧ g.val.1 = g_1.val.1) ∧ (true = true ∧ NilNil ∧ (0 : Nat) = 0 ∧ (1 : Nat) = 1 ∧ (0 : Nat) = 0 ∧ (lC x.1).length = (lC (takeS x.1
 x.2)).length ∧ g.val.1 = g_1.val.1) ∧ (true = true ∧ NilNil ∧ (0 : Nat) = 0 ∧ (1 : Nat) = 1 ∧ (0 : Nat) = 0 ∧ (lC x.1).length = (lC (takeS x.1 x.2)).length ∧
 g.val.1 = g_1.val.1) ∧ (true = true ∧ NilNil ∧ (0 : Nat) = 0 ∧ (1 : Nat) = 1 ∧ (0 : Nat) = 0 ∧ x_2.2.1.length = (lC (takeS x.1 x.2)).length ∧ x_2.1 = g_1.val.1)
 ∧ True) ∧ ((3 : TypeId) = 3 ∧ (1 : Nat) = 1 ∧ x_2.1 = g_1.val.1 ∧ (lC (takeS x.1 x.2)).length ≤ x_2.2.1.length ∧ ∀ (i : Nat), i < (lC (takeS x.1 x.2)).length →
 [AV.int .i64 (x_2.2.1.getD i 0)] = [AV.int .i64 ((lC (takeS x.1 x.2)).getD i 0)]) ∧ True) ∧ (((Tr 1 ((freeL x_1).getD (0 + Int.toNat 0) 0 = takeAt x.1 x.2) ∧ Tr
 1 ((0 : Int) = takeErr x.1 x.2) ∧ True) ∧ True) ∧ refB (takeS x.1 x.2) = refB (takeS x.1 x.2) ∧ true = true ∧ True) ∧ True) ∧ (¬refAddI.p x_2 → ∀ (y : Nat),
 x_2.2.1.length + 1 ≤ y ∧ y ≤ 9223372036854775807 → ((0 : Int) ≤ (0 : Int) ∧ (0 : Int) < (↑(freeL x_1).length : Int)) ∧ 0 + Int.toNat 0 < (freeL x_1).length ∧
 Exx Unit fun y_1 => Exx (Subtype (RCap (takeS x.1 x.2) true true false)) fun g_1 => Tr 1 (((38 : TypeId) = 38 ∧ Tr 1 ((↑x.1.n : Int) = (↑(takeS x.1 x.2).n :
 Int)) ∧ Tr 1 (x.1.r = (takeS x.1 x.2).r) ∧ (true = true ∧ NilNil ∧ (0 : Nat) = 0 ∧ (1 : Nat) = 1 ∧ (0 : Nat) = 0 ∧ (lC x.1).length = (lC (takeS x.1 x.2)).length
 ∧ g.val.1 = g_1.val.1) ∧ (true = true ∧ NilNil ∧ (0 : Nat) = 0 ∧ (1 : Nat) = 1 ∧ (0 : Nat) = 0 ∧ (lC x.1).length = (lC (takeS x.1 x.2)).length ∧ g.val.1 =
 g_1.val.1) ∧ (true = true ∧ NilNil ∧ (0 : Nat) = 0 ∧ (1 : Nat) = 1 ∧ (0 : Nat) = 0 ∧ (lC x.1).length = (lC (takeS x.1 x.2)).length ∧ g.val.1 = g_1.val.1) ∧
 (true = true ∧ NilNil ∧ (0 : Nat) = 0 ∧ (1 : Nat) = 1 ∧ (0 : Nat) = 0 ∧ x_2.2.1.length + 1 = (lW (takeS x.1 x.2)).length ∧ y = g_1.val.2.2.2) ∧ True) ∧ ((3 :
 TypeId) = 3 ∧ (1 : Nat) = 1 ∧ x_2.1 = g_1.val.1 ∧ (lC (takeS x.1 x.2)).length ≤ x_2.2.1.length ∧ ∀ (i : Nat), i < (lC (takeS x.1 x.2)).length → [AV.int .i64
 (x_2.2.1.getD i 0)] = [AV.int .i64 ((lC (takeS x.1 x.2)).getD i 0)]) ∧ ((3 : TypeId) = 3 ∧ (1 : Nat) = 1 ∧ y = g_1.val.2.2.2 ∧ (lW (takeS x.1 x.2)).length ≤
 x_2.2.1.length + 1 ∧ ∀ (i : Nat), i < (lW (takeS x.1 x.2)).length → [AV.int .i64 ((insI x_2.2.1 x_2.2.2.2).getD i 0)] = [AV.int .i64 ((lW (takeS x.1 x.2)).getD
 i 0)]) ∧ True) ∧ (((Tr 1 ((freeL x_1).getD (0 + Int.toNat 0) 0 = takeAt x.1 x.2) ∧ Tr 1 ((0 : Int) = takeErr x.1 x.2) ∧ True) ∧ True) ∧ refB (takeS x.1 x.2) =
 refB (takeS x.1 x.2) ∧ true = true ∧ True) ∧ True)) ∧ 0 + Int.toNat 0 < (freeL x_1).length ∧ Exx (Nat × List Int × Int × Int) fun x_2 => (((true = true ∧ NilNil
 ∧ (0 : Nat) = 0 ∧ (1 : Nat) = 1 ∧ (0 : Nat) = 0 ∧ (lC x.1).length = x_2.2.1.length ∧ g.val.1 = x_2.1) ∧ Tr 1 ((↑x.1.n : Int) = x_2.2.2.1) ∧ Tr 1 ((freeL
 x_1).getD (0 + Int.toNat 0) 0 = x_2.2.2.2) ∧ True) ∧ true = true ∧ ((3 : TypeId) = 3 ∧ (1 : Nat) = 1 ∧ g.val.1 = x_2.1 ∧ x_2.2.1.length ≤ (lC x.1).length ∧ ∀ (i
 : Nat), i < x_2.2.1.length → [AV.int .i64 ((lC x.1).getD i 0)] = [AV.int .i64 (x_2.2.1.getD i 0)]) ∧ True) ∧ (Ints x_2.2.1 ∧ x_2.2.1.length ≤ x_2.1 ∧ x_2.1 ≤
 9223372036854775807 ∧ I64 x_2.2.2.1 ∧ I64 x_2.2.2.2 ∧ List.Pairwise (fun x1 x2 => x1 < x2) x_2.2.1) ∧ (x_2.2.2.2 < (0 : Int) ∨ x_2.2.2.1 ≤ x_2.2.2.2 ∨ x_2.2.2.2
 ∈ x_2.2.1 → ∀ (y : Unit), True → ((0 : Int) ≤ (0 : Int) ∧ (0 : Int) < (↑(freeL x_1).length : Int)) ∧ 0 + Int.toNat 0 < (freeL x_1).length ∧ Exx Unit fun y =>
 Exx (Subtype (RCap (takeS x.1 x.2) true true true)) fun g_1 => Tr 1 (((38 : TypeId) = 38 ∧ Tr 1 ((↑x.1.n : Int) = (↑(takeS x.1 x.2).n : Int)) ∧ Tr 1 (x.1.r =
 (takeS x.1 x.2).r) ∧ (true = true ∧ NilNil ∧ (0 : Nat) = 0 ∧ (1 : Nat) = 1 ∧ (0 : Nat) = 0 ∧ (lC x.1).length = (lC (takeS x.1 x.2)).length ∧ g.val.1 =
 g_1.val.1) ∧ (true = true ∧ NilNil ∧ (0 : Nat) = 0 ∧ (1 : Nat) = 1 ∧ (0 : Nat) = 0 ∧ (lC x.1).length = (lC (takeS x.1 x.2)).length ∧ g.val.1 = g_1.val.1) ∧
 (true = true ∧ NilNil ∧ (0 : Nat) = 0 ∧ (1 : Nat) = 1 ∧ (0 : Nat) = 0 ∧ (lC x.1).length = (lC (takeS x.1 x.2)).length ∧ g.val.1 = g_1.val.1) ∧ (true = true ∧
 NilNil ∧ (0 : Nat) = 0 ∧ (1 : Nat) = 1 ∧ (0 : Nat) = 0 ∧ x_2.2.1.length = (lC (takeS x.1 x.2)).length ∧ x_2.1 = g_1.val.1) ∧ True) ∧ ((3 : TypeId) = 3 ∧ (1 :
 Nat) = 1 ∧ x_2.1 = g_1.val.1 ∧ (lC (takeS x.1 x.2)).length ≤ x_2.2.1.length ∧ ∀ (i : Nat), i < (lC (takeS x.1 x.2)).length → [AV.int .i64 (x_2.2.1.getD i 0)] =
 [AV.int .i64 ((lC (takeS x.1 x.2)).getD i 0)]) ∧ True) ∧ (((Tr 1 ((freeL x_1).getD (0 + Int.toNat 0) 0 = takeAt x.1 x.2) ∧ Tr 1 ((0 : Int) = takeErr x.1 x.2) ∧
 True) ∧ True) ∧ refB (takeS x.1 x.2) = refB (takeS x.1 x.2) ∧ true = true ∧ True) ∧ True) ∧ (¬refAddI.p x_2 → ∀ (y : Nat), x_2.2.1.length + 1 ≤ y ∧ y ≤
 9223372036854775807 → ((0 : Int) ≤ (0 : Int) ∧ (0 : Int) < (↑(freeL x_1).length : Int)) ∧ 0 + Int.toNat 0 < (freeL x_1).length ∧ Exx Unit fun y_1 => Exx
 (Subtype (RCap (takeS x.1 x.2) true true false)) fun g_1 => Tr 1 (((38 : TypeId) = 38 ∧ Tr 1 ((↑x.1.n : Int) = (↑(takeS x.1 x.2).n : Int)) ∧ Tr 1 (x.1.r =
 (takeS x.1 x.2).r) ∧ (true = true ∧ NilNil ∧ (0 : Nat) = 0 ∧ (1 : Nat) = 1 ∧ (0 : Nat) = 0 ∧ (lC x.1).length = (lC (takeS x.1 x.2)).length ∧ g.val.1 =
 g_1.val.1) ∧ (true = true ∧ NilNil ∧ (0 : Nat) = 0 ∧ (1 : Nat) = 1 ∧ (0 : Nat) = 0 ∧ (lC x.1).length = (lC (takeS x.1 x.2)).length ∧ g.val.1 = g_1.val.1) ∧
 (true = true ∧ NilNil ∧ (0 : Nat) = 0 ∧ (1 : Nat) = 1 ∧ (0 : Nat) = 0 ∧ (lC x.1).length = (lC (takeS x.1 x.2)).length ∧ g.val.1 = g_1.val.1) ∧ (true = true ∧
 NilNil ∧ (0 : Nat) = 0 ∧ (1 : Nat) = 1 ∧ (0 : Nat) = 0 ∧ x_2.2.1.length + 1 = (lW (takeS x.1 x.2)).length ∧ y = g_1.val.2.2.2) ∧ True) ∧ ((3 : TypeId) = 3 ∧ (1
 : Nat) = 1 ∧ x_2.1 = g_1.val.1 ∧ (lC (takeS x.1 x.2)).length ≤ x_2.2.1.length ∧ ∀ (i : Nat), i < (lC (takeS x.1 x.2)).length → [AV.int .i64 (x_2.2.1.getD i 0)]
 = [AV.int .i64 ((lC (takeS x.1 x.2)).getD i 0)]) ∧ ((3 : TypeId) = 3 ∧ (1 : Nat) = 1 ∧ y = g_1.val.2.2.2 ∧ (lW (takeS x.1 x.2)).length ≤ x_2.2.1.length + 1 ∧ ∀
 (i : Nat), i < (lW (takeS x.1 x.2)).length → [AV.int .i64 ((insI x_2.2.1 x_2.2.2.2).getD i 0)] = [AV.int .i64 ((lW (takeS x.1 x.2)).getD i 0)]) ∧ True) ∧ (((Tr
 1 ((freeL x_1).getD (0 + Int.toNat 0) 0 = takeAt x.1 x.2) ∧ Tr 1 ((0 : Int) = takeErr x.1 x.2) ∧ True) ∧ True) ∧ refB (takeS x.1 x.2) = refB (takeS x.1 x.2) ∧
 true = true ∧ True) ∧ True)) ∧ 0 + Int.toNat 0 < (freeL x_1).length ∧ (Exx (Nat × List Int × Int × Int) fun x_2 => (((true = true ∧ NilNil ∧ (0 : Nat) = 0 ∧ (1
 : Nat) = 1 ∧ (0 : Nat) = 0 ∧ (lC x.1).length = x_2.2.1.length ∧ g.val.1 = x_2.1) ∧ Tr 1 ((↑x.1.n : Int) = x_2.2.2.1) ∧ Tr 1 ((freeL x_1).getD (0 + Int.toNat 0)
 0 = x_2.2.2.2) ∧ True) ∧ true = true ∧ ((3 : TypeId) = 3 ∧ (1 : Nat) = 1 ∧ g.val.1 = x_2.1 ∧ x_2.2.1.length ≤ (lC x.1).length ∧ ∀ (i : Nat), i < x_2.2.1.length
 → [AV.int .i64 ((lC x.1).getD i 0)] = [AV.int .i64 (x_2.2.1.getD i 0)]) ∧ True) ∧ (Ints x_2.2.1 ∧ x_2.2.1.length ≤ x_2.1 ∧ x_2.1 ≤ 9223372036854775807 ∧ I64
 x_2.2.2.1 ∧ I64 x_2.2.2.2 ∧ List.Pairwise (fun x1 x2 => x1 < x2) x_2.2.1) ∧ (x_2.2.2.2 < (0 : Int) ∨ x_2.2.2.1 ≤ x_2.2.2.2 ∨ x_2.2.2.2 ∈ x_2.2.1 → ∀ (y : Unit),
 True → ((0 : Int) ≤ (0 : Int) ∧ (0 : Int) < (↑(freeL x_1).length : Int)) ∧ 0 + Int.toNat 0 < (freeL x_1).length ∧ Exx Unit fun y => Exx (Subtype (RCap (takeS
 x.1 x.2) true true true)) fun g_1 => Tr 1 (((38 : TypeId) = 38 ∧ Tr 1 ((↑x.1.n : Int) = (↑(takeS x.1 x.2).n : Int)) ∧ Tr 1 (x.1.r = (takeS x.1 x.2).r) ∧ (true =
 true ∧ NilNil ∧ (0 : Nat) = 0 ∧ (1 : Nat) = 1 ∧ (0 : Nat) = 0 ∧ (lC x.1).length = (lC (takeS x.1 x.2)).length ∧ g.val.1 = g_1.val.1) ∧ (true = true ∧ NilNil ∧
 (0 : Nat) = 0 ∧ (1 : Nat) = 1 ∧ (0 : Nat) = 0 ∧ (lC x.1).length = (lC (takeS x.1 x.2)).length ∧ g.val.1 = g_1.val.1) ∧ (true = true ∧ NilNil ∧ (0 : Nat) = 0 ∧
 (1 : Nat) = 1 ∧ (0 : Nat) = 0 ∧ (lC x.1).length = (lC (takeS x.1 x.2)).length ∧ g.val.1 = g_1.val.1) ∧ (true = true ∧ NilNil ∧ (0 : Nat) = 0 ∧ (1 : Nat) = 1 ∧
 (0 : Nat) = 0 ∧ x_2.2.1.length = (lC (takeS x.1 x.2)).length ∧ x_2.1 = g_1.val.1) ∧ True) ∧ ((3 : TypeId) = 3 ∧ (1 : Nat) = 1 ∧ x_2.1 = g_1.val.1 ∧ (lC (takeS
 x.1 x.2)).length ≤ x_2.2.1.length ∧ ∀ (i : Nat), i < (lC (takeS x.1 x.2)).length → [AV.int .i64 (x_2.2.1.getD i 0)] = [AV.int .i64 ((lC (takeS x.1 x.2)).getD i
 0)]) ∧ True) ∧ (((Tr 1 ((freeL x_1).getD (0 + Int.toNat 0) 0 = takeAt x.1 x.2) ∧ Tr 1 ((0 : Int) = takeErr x.1 x.2) ∧ True) ∧ True) ∧ refB (takeS x.1 x.2) =
 refB (takeS x.1 x.2) ∧ true = true ∧ True) ∧ True) ∧ (¬refAddI.p x_2 → ∀ (y : Nat), x_2.2.1.length + 1 ≤ y ∧ y ≤ 9223372036854775807 → ((0 : Int) ≤ (0 : Int) ∧
 (0 : Int) < (↑(freeL x_1).length : Int)) ∧ 0 + Int.toNat 0 < (freeL x_1).length ∧ Exx Unit fun y_1 => Exx (Subtype (RCap (takeS x.1 x.2) true true false)) fun
 g_1 => Tr 1 (((38 : TypeId) = 38 ∧ Tr 1 ((↑x.1.n : Int) = (↑(takeS x.1 x.2).n : Int)) ∧ Tr 1 (x.1.r = (takeS x.1 x.2).r) ∧ (true = true ∧ NilNil ∧ (0 : Nat) = 0
 ∧ (1 : Nat) = 1 ∧ (0 : Nat) = 0 ∧ (lC x.1).length = (lC (takeS x.1 x.2)).length ∧ g.val.1 = g_1.val.1) ∧ (true = true ∧ NilNil ∧ (0 : Nat) = 0 ∧ (1 : Nat) = 1 ∧
 (0 : Nat) = 0 ∧ (lC x.1).length = (lC (takeS x.1 x.2)).length ∧ g.val.1 = g_1.val.1) ∧ (true = true ∧ NilNil ∧ (0 : Nat) = 0 ∧ (1 : Nat) = 1 ∧ (0 : Nat) = 0 ∧
 (lC x.1).length = (lC (takeS x.1 x.2)).length ∧ g.val.1 = g_1.val.1) ∧ (true = true ∧ NilNil ∧ (0 : Nat) = 0 ∧ (1 : Nat) = 1 ∧ (0 : Nat) = 0 ∧ x_2.2.1.length +
 1 = (lW (takeS x.1 x.2)).length ∧ y = g_1.val.2.2.2) ∧ True) ∧ ((3 : TypeId) = 3 ∧ (1 : Nat) = 1 ∧ x_2.1 = g_1.val.1 ∧ (lC (takeS x.1 x.2)).length ≤
 x_2.2.1.length ∧ ∀ (i : Nat), i < (lC (takeS x.1 x.2)).length → [AV.int .i64 (x_2.2.1.getD i 0)] = [AV.int .i64 ((lC (takeS x.1 x.2)).getD i 0)]) ∧ ((3 :
 TypeId) = 3 ∧ (1 : Nat) = 1 ∧ y = g_1.val.2.2.2 ∧ (lW (takeS x.1 x.2)).length ≤ x_2.2.1.length + 1 ∧ ∀ (i : Nat), i < (lW (takeS x.1 x.2)).length → [AV.int .i64
 ((insI x_2.2.1 x_2.2.2.2).getD i 0)] = [AV.int .i64 ((lW (takeS x.1 x.2)).getD i 0)]) ∧ True) ∧ (((Tr 1 ((freeL x_1).getD (0 + Int.toNat 0) 0 = takeAt x.1 x.2)
 ∧ Tr 1 ((0 : Int) = takeErr x.1 x.2) ∧ True) ∧ True) ∧ refB (takeS x.1 x.2) = refB (takeS x.1 x.2) ∧ true = true ∧ True) ∧ True)) ∧ Exx (Nat × List Int × Int ×
 Int) fun x_2 => (((true = true ∧ NilNil ∧ (0 : Nat) = 0 ∧ (1 : Nat) = 1 ∧ (0 : Nat) = 0 ∧ (lC x.1).length = x_2.2.1.length ∧ g.val.1 = x_2.1) ∧ Tr 1 ((↑x.1.n :
 Int) = x_2.2.2.1) ∧ Tr 1 ((freeL x_1).getD (0 + Int.toNat 0) 0 = x_2.2.2.2) ∧ True) ∧ true = true ∧ ((3 : TypeId) = 3 ∧ (1 : Nat) = 1 ∧ g.val.1 = x_2.1 ∧
 x_2.2.1.length ≤ (lC x.1).length ∧ ∀ (i : Nat), i < x_2.2.1.length → [AV.int .i64 ((lC x.1).getD i 0)] = [AV.int .i64 (x_2.2.1.getD i 0)]) ∧ True) ∧ (Ints
 x_2.2.1 ∧ x_2.2.1.length ≤ x_2.1 ∧ x_2.1 ≤ 9223372036854775807 ∧ I64 x_2.2.2.1 ∧ I64 x_2.2.2.2 ∧ List.Pairwise (fun x1 x2 => x1 < x2) x_2.2.1) ∧ (x_2.2.2.2 < (0
 : Int) ∨ x_2.2.2.1 ≤ x_2.2.2.2 ∨ x_2.2.2.2 ∈ x_2.2.1 → ∀ (y : Unit), True → ((0 : Int) ≤ (0 : Int) ∧ (0 : Int) < (↑(freeL x_1).length : Int)) ∧ 0 + Int.toNat 0
 < (freeL x_1).length ∧ Exx Unit fun y => Exx (Subtype (RCap (takeS x.1 x.2) true true true)) fun g_1 => Tr 1 (((38 : TypeId) = 38 ∧ Tr 1 ((↑x.1.n : Int) =
 (↑(takeS x.1 x.2).n : Int)) ∧ Tr 1 (x.1.r = (takeS x.1 x.2).r) ∧ (true = true ∧ NilNil ∧ (0 : Nat) = 0 ∧ (1 : Nat) = 1 ∧ (0 : Nat) = 0 ∧ (lC x.1).length = (lC
 (takeS x.1 x.2)).length ∧ g.val.1 = g_1.val.1) ∧ (true = true ∧ NilNil ∧ (0 : Nat) = 0 ∧ (1 : Nat) = 1 ∧ (0 : Nat) = 0 ∧ (lC x.1).length = (lC (takeS x.1
 x.2)).length ∧ g.val.1 = g_1.val.1) ∧ (true = true ∧ NilNil ∧ (0 : Nat) = 0 ∧ (1 : Nat) = 1 ∧ (0 : Nat) = 0 ∧ (lC x.1).length = (lC (takeS x.1 x.2)).length ∧
 g.val.1 = g_1.val.1) ∧ (true = true ∧ NilNil ∧ (0 : Nat) = 0 ∧ (1 : Nat) = 1 ∧ (0 : Nat) = 0 ∧ x_2.2.1.length = (lC (takeS x.1 x.2)).length ∧ x_2.1 = g_1.val.1)
 ∧ True) ∧ ((3 : TypeId) = 3 ∧ (1 : Nat) = 1 ∧ x_2.1 = g_1.val.1 ∧ (lC (takeS x.1 x.2)).length ≤ x_2.2.1.length ∧ ∀ (i : Nat), i < (lC (takeS x.1 x.2)).length →
 [AV.int .i64 (x_2.2.1.getD i 0)] = [AV.int .i64 ((lC (takeS x.1 x.2)).getD i 0)]) ∧ True) ∧ (((Tr 1 ((freeL x_1).getD (0 + Int.toNat 0) 0 = takeAt x.1 x.2) ∧ Tr
 1 ((0 : Int) = takeErr x.1 x.2) ∧ True) ∧ True) ∧ refB (takeS x.1 x.2) = refB (takeS x.1 x.2) ∧ true = true ∧ True) ∧ True) ∧ (¬refAddI.p x_2 → ∀ (y : Nat),
 x_2.2.1.length + 1 ≤ y ∧ y ≤ 9223372036854775807 → ((0 : Int) ≤ (0 : Int) ∧ (0 : Int) < (↑(freeL x_1).length : Int)) ∧ 0 + Int.toNat 0 < (freeL x_1).length ∧
 Exx Unit fun y_1 => Exx (Subtype (RCap (takeS x.1 x.2) true true false)) fun g_1 => Tr 1 (((38 : TypeId) = 38 ∧ Tr 1 ((↑x.1.n : Int) = (↑(takeS x.1 x.2).n :
 Int)) ∧ Tr 1 (x.1.r = (takeS x.1 x.2).r) ∧ (true = true ∧ NilNil ∧ (0 : Nat) = 0 ∧ (1 : Nat) = 1 ∧ (0 : Nat) = 0 ∧ (lC x.1).length = (lC (takeS x.1 x.2)).length
 ∧ g.val.1 = g_1.val.1) ∧ (true = true ∧ NilNil ∧ (0 : Nat) = 0 ∧ (1 : Nat) = 1 ∧ (0 : Nat) = 0 ∧ (lC x.1).length = (lC (takeS x.1 x.2)).length ∧ g.val.1 =
 g_1.val.1) ∧ (true = true ∧ NilNil ∧ (0 : Nat) = 0 ∧ (1 : Nat) = 1 ∧ (0 : Nat) = 0 ∧ (lC x.1).length = (lC (takeS x.1 x.2)).length ∧ g.val.1 = g_1.val.1) ∧
 (true = true ∧ NilNil ∧ (0 : Nat) = 0 ∧ (1 : Nat) = 1 ∧ (0 : Nat) = 0 ∧ x_2.2.1.length + 1 = (lW (takeS x.1 x.2)).length ∧ y = g_1.val.2.2.2) ∧ True) ∧ ((3 :
 TypeId) = 3 ∧ (1 : Nat) = 1 ∧ x_2.1 = g_1.val.1 ∧ (lC (takeS x.1 x.2)).length ≤ x_2.2.1.length ∧ ∀ (i : Nat), i < (lC (takeS x.1 x.2)).length → [AV.int .i64
 (x_2.2.1.getD i 0)] = [AV.int .i64 ((lC (takeS x.1 x.2)).getD i 0)]) ∧ ((3 : TypeId) = 3 ∧ (1 : Nat) = 1 ∧ y = g_1.val.2.2.2 ∧ (lW (takeS x.1 x.2)).length ≤
 x_2.2.1.length + 1 ∧ ∀ (i : Nat), i < (lW (takeS x.1 x.2)).length → [AV.int .i64 ((insI x_2.2.1 x_2.2.2.2).getD i 0)] = [AV.int .i64 ((lW (takeS x.1 x.2)).getD
 i 0)]) ∧ True) ∧ (((Tr 1 ((freeL x_1).getD (0 + Int.toNat 0) 0 = takeAt x.1 x.2) ∧ Tr 1 ((0 : Int) = takeErr x.1 x.2) ∧ True) ∧ True) ∧ refB (takeS x.1 x.2) =
 refB (takeS x.1 x.2) ∧ true = true ∧ True) ∧ True)) ∧ (∀ (g : Subtype (RCap x.1 true true false)), ((0 : Int) ≤ (0 : Int) ∧ (0 : Int) < (↑(freeL x_1).length :
 Int)) ∧ ((0 + Int.toNat 0 < (freeL x_1).length ∧ Exx (Nat × List Int × Int × Int) fun x_2 => (((true = true ∧ NilNil ∧ (0 : Nat) = 0 ∧ (1 : Nat) = 1 ∧ (0 : Nat)
 = 0 ∧ (lW x.1).length = x_2.2.1.length ∧ g.val.2.2.2 = x_2.1) ∧ Tr 1 ((↑x.1.n : Int) = x_2.2.2.1) ∧ Tr 1 ((freeL x_1).getD (0 + Int.toNat 0) 0 = x_2.2.2.2) ∧
 True) ∧ true = true ∧ ((3 : TypeId) = 3 ∧ (1 : Nat) = 1 ∧ g.val.2.2.2 = x_2.1 ∧ x_2.2.1.length ≤ (lW x.1).length ∧ ∀ (i : Nat), i < x_2.2.1.length → [AV.int
 .i64 ((lW x.1).getD i 0)] = [AV.int .i64 (x_2.2.1.getD i 0)]) ∧ True) ∧ (Ints x_2.2.1 ∧ x_2.2.1.length ≤ x_2.1 ∧ x_2.1 ≤ 9223372036854775807 ∧ I64 x_2.2.2.1 ∧
 I64 x_2.2.2.2 ∧ List.Pairwise (fun x1 x2 => x1 < x2) x_2.2.1) ∧ (x_2.2.2.2 < (0 : Int) ∨ x_2.2.2.1 ≤ x_2.2.2.2 ∨ x_2.2.2.2 ∈ x_2.2.1 → ∀ (y : Unit), True → ((0
 : Int) ≤ (0 : Int) ∧ (0 : Int) < (↑(freeL x_1).length : Int)) ∧ 0 + Int.toNat 0 < (freeL x_1).length ∧ Exx Unit fun y => Exx (Subtype (RCap (takeS x.1 x.2) true
 true false)) fun g_1 => Tr 1 (((38 : TypeId) = 38 ∧ Tr 1 ((↑x.1.n : Int) = (↑(takeS x.1 x.2).n : Int)) ∧ Tr 1 (x.1.r = (takeS x.1 x.2).r) ∧ (true = true ∧
 NilNil ∧ (0 : Nat) = 0 ∧ (1 : Nat) = 1 ∧ (0 : Nat) = 0 ∧ (lC x.1).length = (lC (takeS x.1 x.2)).length ∧ g.val.1 = g_1.val.1) ∧ (true = true ∧ NilNil ∧ (0 :
 Nat) = 0 ∧ (1 : Nat) = 1 ∧ (0 : Nat) = 0 ∧ (lC x.1).length = (lC (takeS x.1 x.2)).length ∧ g.val.1 = g_1.val.1) ∧ (true = true ∧ NilNil ∧ (0 : Nat) = 0 ∧ (1 :
 Nat) = 1 ∧ (0 : Nat) = 0 ∧ (lC x.1).length = (lC (takeS x.1 x.2)).length ∧ g.val.1 = g_1.val.1) ∧ (true = true ∧ NilNil ∧ (0 : Nat) = 0 ∧ (1 : Nat) = 1 ∧ (0 :
 Nat) = 0 ∧ x_2.2.1.length = (lW (takeS x.1 x.2)).length ∧ x_2.1 = g_1.val.2.2.2) ∧ True) ∧ ((3 : TypeId) = 3 ∧ (1 : Nat) = 1 ∧ g.val.1 = g_1.val.1 ∧ (lC (takeS
 x.1 x.2)).length ≤ (lC x.1).length ∧ ∀ (i : Nat), i < (lC (takeS x.1 x.2)).length → [AV.int .i64 ((lC x.1).getD i 0)] = [AV.int .i64 ((lC (takeS x.1 x.2)).getD
 i 0)]) ∧ ((3 : TypeId) = 3 ∧ (1 : Nat) = 1 ∧ x_2.1 = g_1.val.2.2.2 ∧ (lW (takeS x.1 x.2)).length ≤ x_2.2.1.length ∧ ∀ (i : Nat), i < (lW (takeS x.1 x.2)).length
 → [AV.int .i64 (x_2.2.1.getD i 0)] = [AV.int .i64 ((lW (takeS x.1 x.2)).getD i 0)]) ∧ True) ∧ (((Tr 1 ((freeL x_1).getD (0 + Int.toNat 0) 0 = takeAt x.1 x.2) ∧
 Tr 1 ((0 : Int) = takeErr x.1 x.2) ∧ True) ∧ True) ∧ refB (takeS x.1 x.2) = refB (takeS x.1 x.2) ∧ true = true ∧ True) ∧ True) ∧ (¬refAddI.p x_2 → ∀ (y : Nat),
 x_2.2.1.length + 1 ≤ y ∧ y ≤ 9223372036854775807 → ((0 : Int) ≤ (0 : Int) ∧ (0 : Int) < (↑(freeL x_1).length : Int)) ∧ 0 + Int.toNat 0 < (freeL x_1).length ∧
 Exx Unit fun y_1 => Exx (Subtype (RCap (takeS x.1 x.2) true true false)) fun g_1 => Tr 1 (((38 : TypeId) = 38 ∧ Tr 1 ((↑x.1.n : Int) = (↑(takeS x.1 x.2).n :
 Int)) ∧ Tr 1 (x.1.r = (takeS x.1 x.2).r) ∧ (true = true ∧ NilNil ∧ (0 : Nat) = 0 ∧ (1 : Nat) = 1 ∧ (0 : Nat) = 0 ∧ (lC x.1).length = (lC (takeS x.1 x.2)).length
 ∧ g.val.1 = g_1.val.1) ∧ (true = true ∧ NilNil ∧ (0 : Nat) = 0 ∧ (1 : Nat) = 1 ∧ (0 : Nat) = 0 ∧ (lC x.1).length = (lC (takeS x.1 x.2)).length ∧ g.val.1 =
 g_1.val.1) ∧ (true = true ∧ NilNil ∧ (0 : Nat) = 0 ∧ (1 : Nat) = 1 ∧ (0 : Nat) = 0 ∧ (lC x.1).length = (lC (takeS x.1 x.2)).length ∧ g.val.1 = g_1.val.1) ∧
 (true = true ∧ NilNil ∧ (0 : Nat) = 0 ∧ (1 : Nat) = 1 ∧ (0 : Nat) = 0 ∧ x_2.2.1.length + 1 = (lW (takeS x.1 x.2)).length ∧ y = g_1.val.2.2.2) ∧ True) ∧ ((3 :
 TypeId) = 3 ∧ (1 : Nat) = 1 ∧ g.val.1 = g_1.val.1 ∧ (lC (takeS x.1 x.2)).length ≤ (lC x.1).length ∧ ∀ (i : Nat), i < (lC (takeS x.1 x.2)).length → [AV.int .i64
 ((lC x.1).getD i 0)] = [AV.int .i64 ((lC (takeS x.1 x.2)).getD i 0)]) ∧ ((3 : TypeId) = 3 ∧ (1 : Nat) = 1 ∧ y = g_1.val.2.2.2 ∧ (lW (takeS x.1 x.2)).length ≤
 x_2.2.1.length + 1 ∧ ∀ (i : Nat), i < (lW (takeS x.1 x.2)).length → [AV.int .i64 ((insI x_2.2.1 x_2.2.2.2).getD i 0)] = [AV.int .i64 ((lW (takeS x.1 x.2)).getD
 i 0)]) ∧ True) ∧ (((Tr 1 ((freeL x_1).getD (0 + Int.toNat 0) 0 = takeAt x.1 x.2) ∧ Tr 1 ((0 : Int) = takeErr x.1 x.2) ∧ True) ∧ True) ∧ refB (takeS x.1 x.2) =
 refB (takeS x.1 x.2) ∧ true = true ∧ True) ∧ True)) ∧ 0 + Int.toNat 0 < (freeL x_1).length ∧ Exx (Nat × List Int × Int × Int) fun x_2 => (((true = true ∧ NilNil
 ∧ (0 : Nat) = 0 ∧ (1 : Nat) = 1 ∧ (0 : Nat) = 0 ∧ (lW x.1).length = x_2.2.1.length ∧ g.val.2.2.2 = x_2.1) ∧ Tr 1 ((↑x.1.n : Int) = x_2.2.2.1) ∧ Tr 1 ((freeL
 x_1).getD (0 + Int.toNat 0) 0 = x_2.2.2.2) ∧ True) ∧ true = true ∧ ((3 : TypeId) = 3 ∧ (1 : Nat) = 1 ∧ g.val.2.2.2 = x_2.1 ∧ x_2.2.1.length ≤ (lW x.1).length ∧
 ∀ (i : Nat), i < x_2.2.1.length → [AV.int .i64 ((lW x.1).getD i 0)] = [AV.int .i64 (x_2.2.1.getD i 0)]) ∧ True) ∧ (Ints x_2.2.1 ∧ x_2.2.1.length ≤ x_2.1 ∧ x_2.1
 ≤ 9223372036854775807 ∧ I64 x_2.2.2.1 ∧ I64 x_2.2.2.2 ∧ List.Pairwise (fun x1 x2 => x1 < x2) x_2.2.1) ∧ (x_2.2.2.2 < (0 : Int) ∨ x_2.2.2.1 ≤ x_2.2.2.2 ∨
 x_2.2.2.2 ∈ x_2.2.1 → ∀ (y : Unit), True → ((0 : Int) ≤ (0 : Int) ∧ (0 : Int) < (↑(freeL x_1).length : Int)) ∧ 0 + Int.toNat 0 < (freeL x_1).length ∧ Exx Unit
 fun y => Exx (Subtype (RCap (takeS x.1 x.2) true true false)) fun g_1 => Tr 1 (((38 : TypeId) = 38 ∧ Tr 1 ((↑x.1.n : Int) = (↑(takeS x.1 x.2).n : Int)) ∧ Tr 1
 (x.1.r = (takeS x.1 x.2).r) ∧ (true = true ∧ NilNil ∧ (0 : Nat) = 0 ∧ (1 : Nat) = 1 ∧ (0 : Nat) = 0 ∧ (lC x.1).length = (lC (takeS x.1 x.2)).length ∧ g.val.1 =
 g_1.val.1) ∧ (true = true ∧ NilNil ∧ (0 : Nat) = 0 ∧ (1 : Nat) = 1 ∧ (0 : Nat) = 0 ∧ (lC x.1).length = (lC (takeS x.1 x.2)).length ∧ g.val.1 = g_1.val.1) ∧
 (true = true ∧ NilNil ∧ (0 : Nat) = 0 ∧ (1 : Nat) = 1 ∧ (0 : Nat) = 0 ∧ (lC x.1).length = (lC (takeS x.1 x.2)).length ∧ g.val.1 = g_1.val.1) ∧ (true = true ∧
 NilNil ∧ (0 : Nat) = 0 ∧ (1 : Nat) = 1 ∧ (0 : Nat) = 0 ∧ x_2.2.1.length = (lW (takeS x.1 x.2)).length ∧ x_2.1 = g_1.val.2.2.2) ∧ True) ∧ ((3 : TypeId) = 3 ∧ (1
 : Nat) = 1 ∧ g.val.1 = g_1.val.1 ∧ (lC (takeS x.1 x.2)).length ≤ (lC x.1).length ∧ ∀ (i : Nat), i < (lC (takeS x.1 x.2)).length → [AV.int .i64 ((lC x.1).getD i
 0)] = [AV.int .i64 ((lC (takeS x.1 x.2)).getD i 0)]) ∧ ((3 : TypeId) = 3 ∧ (1 : Nat) = 1 ∧ x_2.1 = g_1.val.2.2.2 ∧ (lW (takeS x.1 x.2)).length ≤ x_2.2.1.length
 ∧ ∀ (i : Nat), i < (lW (takeS x.1 x.2)).length → [AV.int .i64 (x_2.2.1.getD i 0)] = [AV.int .i64 ((lW (takeS x.1 x.2)).getD i 0)]) ∧ True) ∧ (((Tr 1 ((freeL
 x_1).getD (0 + Int.toNat 0) 0 = takeAt x.1 x.2) ∧ Tr 1 ((0 : Int) = takeErr x.1 x.2) ∧ True) ∧ True) ∧ refB (takeS x.1 x.2) = refB (takeS x.1 x.2) ∧ true = true
 ∧ True) ∧ True) ∧ (¬refAddI.p x_2 → ∀ (y : Nat), x_2.2.1.length + 1 ≤ y ∧ y ≤ 9223372036854775807 → ((0 : Int) ≤ (0 : Int) ∧ (0 : Int) < (↑(freeL x_1).length :
 Int)) ∧ 0 + Int.toNat 0 < (freeL x_1).length ∧ Exx Unit fun y_1 => Exx (Subtype (RCap (takeS x.1 x.2) true true false)) fun g_1 => Tr 1 (((38 : TypeId) = 38 ∧
 Tr 1 ((↑x.1.n : Int) = (↑(takeS x.1 x.2).n : Int)) ∧ Tr 1 (x.1.r = (takeS x.1 x.2).r) ∧ (true = true ∧ NilNil ∧ (0 : Nat) = 0 ∧ (1 : Nat) = 1 ∧ (0 : Nat) = 0 ∧
 (lC x.1).length = (lC (takeS x.1 x.2)).length ∧ g.val.1 = g_1.val.1) ∧ (true = true ∧ NilNil ∧ (0 : Nat) = 0 ∧ (1 : Nat) = 1 ∧ (0 : Nat) = 0 ∧ (lC x.1).length =
 (lC (takeS x.1 x.2)).length ∧ g.val.1 = g_1.val.1) ∧ (true = true ∧ NilNil ∧ (0 : Nat) = 0 ∧ (1 : Nat) = 1 ∧ (0 : Nat) = 0 ∧ (lC x.1).length = (lC (takeS x.1
 x.2)).length ∧ g.val.1 = g_1.val.1) ∧ (true = true ∧ NilNil ∧ (0 : Nat) = 0 ∧ (1 : Nat) = 1 ∧ (0 : Nat) = 0 ∧ x_2.2.1.length + 1 = (lW (takeS x.1 x.2)).length ∧
 y = g_1.val.2.2.2) ∧ True) ∧ ((3 : TypeId) = 3 ∧ (1 : Nat) = 1 ∧ g.val.1 = g_1.val.1 ∧ (lC (takeS x.1 x.2)).length ≤ (lC x.1).length ∧ ∀ (i : Nat), i < (lC
 (takeS x.1 x.2)).length → [AV.int .i64 ((lC x.1).getD i 0)] = [AV.int .i64 ((lC (takeS x.1 x.2)).getD i 0)]) ∧ ((3 : TypeId) = 3 ∧ (1 : Nat) = 1 ∧ y =
 g_1.val.2.2.2 ∧ (lW (takeS x.1 x.2)).length ≤ x_2.2.1.length + 1 ∧ ∀ (i : Nat), i < (lW (takeS x.1 x.2)).length → [AV.int .i64 ((insI x_2.2.1 x_2.2.2.2).getD i
 0)] = [AV.int .i64 ((lW (takeS x.1 x.2)).getD i 0)]) ∧ True) ∧ (((Tr 1 ((freeL x_1).getD (0 + Int.toNat 0) 0 = takeAt x.1 x.2) ∧ Tr 1 ((0 : Int) = takeErr x.1
 x.2) ∧ True) ∧ True) ∧ refB (takeS x.1 x.2) = refB (takeS x.1 x.2) ∧ true = true ∧ True) ∧ True)) ∧ ((0 + Int.toNat 0 < (freeL x_1).length ∧ Exx (Nat × List Int
 × Int × Int) fun x_2 => (((true = true ∧ NilNil ∧ (0 : Nat) = 0 ∧ (1 : Nat) = 1 ∧ (0 : Nat) = 0 ∧ (lW x.1).length = x_2.2.1.length ∧ g.val.2.2.2 = x_2.1) ∧ Tr 1
 ((↑x.1.n : Int) = x_2.2.2.1) ∧ Tr 1 ((freeL x_1).getD (0 + Int.toNat 0) 0 = x_2.2.2.2) ∧ True) ∧ true = true ∧ ((3 : TypeId) = 3 ∧ (1 : Nat) = 1 ∧ g.val.2.2.2 =
 x_2.1 ∧ x_2.2.1.length ≤ (lW x.1).length ∧ ∀ (i : Nat), i < x_2.2.1.length → [AV.int .i64 ((lW x.1).getD i 0)] = [AV.int .i64 (x_2.2.1.getD i 0)]) ∧ True) ∧
 (Ints x_2.2.1 ∧ x_2.2.1.length ≤ x_2.1 ∧ x_2.1 ≤ 9223372036854775807 ∧ I64 x_2.2.2.1 ∧ I64 x_2.2.2.2 ∧ List.Pairwise (fun x1 x2 => x1 < x2) x_2.2.1) ∧
 (x_2.2.2.2 < (0 : Int) ∨ x_2.2.2.1 ≤ x_2.2.2.2 ∨ x_2.2.2.2 ∈ x_2.2.1 → ∀ (y : Unit), True → ((0 : Int) ≤ (0 : Int) ∧ (0 : Int) < (↑(freeL x_1).length : Int)) ∧
 0 + Int.toNat 0 < (freeL x_1).length ∧ Exx Unit fun y => Exx (Subtype (RCap (takeS x.1 x.2) true true false)) fun g_1 => Tr 1 (((38 : TypeId) = 38 ∧ Tr 1
 ((↑x.1.n : Int) = (↑(takeS x.1 x.2).n : Int)) ∧ Tr 1 (x.1.r = (takeS x.1 x.2).r) ∧ (true = true ∧ NilNil ∧ (0 : Nat) = 0 ∧ (1 : Nat) = 1 ∧ (0 : Nat) = 0 ∧ (lC
 x.1).length = (lC (takeS x.1 x.2)).length ∧ g.val.1 = g_1.val.1) ∧ (true = true ∧ NilNil ∧ (0 : Nat) = 0 ∧ (1 : Nat) = 1 ∧ (0 : Nat) = 0 ∧ (lC x.1).length = (lC
 (takeS x.1 x.2)).length ∧ g.val.1 = g_1.val.1) ∧ (true = true ∧ NilNil ∧ (0 : Nat) = 0 ∧ (1 : Nat) = 1 ∧ (0 : Nat) = 0 ∧ (lC x.1).length = (lC (takeS x.1
 x.2)).length ∧ g.val.1 = g_1.val.1) ∧ (true = true ∧ NilNil ∧ (0 : Nat) = 0 ∧ (1 : Nat) = 1 ∧ (0 : Nat) = 0 ∧ x_2.2.1.length = (lW (takeS x.1 x.2)).length ∧
 x_2.1 = g_1.val.2.2.2) ∧ True) ∧ ((3 : TypeId) = 3 ∧ (1 : Nat) = 1 ∧ g.val.1 = g_1.val.1 ∧ (lC (takeS x.1 x.2)).length ≤ (lC x.1).length ∧ ∀ (i : Nat), i < (lC
 (takeS x.1 x.2)).length → [AV.int .i64 ((lC x.1).getD i 0)] = [AV.int .i64 ((lC (takeS x.1 x.2)).getD i 0)]) ∧ ((3 : TypeId) = 3 ∧ (1 : Nat) = 1 ∧ x_2.1 =
 g_1.val.2.2.2 ∧ (lW (takeS x.1 x.2)).length ≤ x_2.2.1.length ∧ ∀ (i : Nat), i < (lW (takeS x.1 x.2)).length → [AV.int .i64 (x_2.2.1.getD i 0)] = [AV.int .i64
 ((lW (takeS x.1 x.2)).getD i 0)]) ∧ True) ∧ (((Tr 1 ((freeL x_1).getD (0 + Int.toNat 0) 0 = takeAt x.1 x.2) ∧ Tr 1 ((0 : Int) = takeErr x.1 x.2) ∧ True) ∧ True)
 ∧ refB (takeS x.1 x.2) = refB (takeS x.1 x.2) ∧ true = true ∧ True) ∧ True) ∧ (¬refAddI.p x_2 → ∀ (y : Nat), x_2.2.1.length + 1 ≤ y ∧ y ≤ 9223372036854775807 →
 ((0 : Int) ≤ (0 : Int) ∧ (0 : Int) < (↑(freeL x_1).length : Int)) ∧ 0 + Int.toNat 0 < (freeL x_1).length ∧ Exx Unit fun y_1 => Exx (Subtype (RCap (takeS x.1
 x.2) true true false)) fun g_1 => Tr 1 (((38 : TypeId) = 38 ∧ Tr 1 ((↑x.1.n : Int) = (↑(takeS x.1 x.2).n : Int)) ∧ Tr 1 (x.1.r = (takeS x.1 x.2).r) ∧ (true =
 true ∧ NilNil ∧ (0 : Nat) = 0 ∧ (1 : Nat) = 1 ∧ (0 : Nat) = 0 ∧ (lC x.1).length = (lC (takeS x.1 x.2)).length ∧ g.val.1 = g_1.val.1) ∧ (true = true ∧ NilNil ∧
 (0 : Nat) = 0 ∧ (1 : Nat) = 1 ∧ (0 : Nat) = 0 ∧ (lC x.1).length = (lC (takeS x.1 x.2)).length ∧ g.val.1 = g_1.val.1) ∧ (true = true ∧ NilNil ∧ (0 : Nat) = 0 ∧
 (1 : Nat) = 1 ∧ (0 : Nat) = 0 ∧ (lC x.1).length = (lC (takeS x.1 x.2)).length ∧ g.val.1 = g_1.val.1) ∧ (true = true ∧ NilNil ∧ (0 : Nat) = 0 ∧ (1 : Nat) = 1 ∧
 (0 : Nat) = 0 ∧ x_2.2.1.length + 1 = (lW (takeS x.1 x.2)).length ∧ y = g_1.val.2.2.2) ∧ True) ∧ ((3 : TypeId) = 3 ∧ (1 : Nat) = 1 ∧ g.val.1 = g_1.val.1 ∧ (lC
 (takeS x.1 x.2)).length ≤ (lC x.1).length ∧ ∀ (i : Nat), i < (lC (takeS x.1 x.2)).length → [AV.int .i64 ((lC x.1).getD i 0)] = [AV.int .i64 ((lC (takeS x.1
 x.2)).getD i 0)]) ∧ ((3 : TypeId) = 3 ∧ (1 : Nat) = 1 ∧ y = g_1.val.2.2.2 ∧ (lW (takeS x.1 x.2)).length ≤ x_2.2.1.length + 1 ∧ ∀ (i : Nat), i < (lW (takeS x.1
 x.2)).length → [AV.int .i64 ((insI x_2.2.1 x_2.2.2.2).getD i 0)] = [AV.int .i64 ((lW (takeS x.1 x.2)).getD i 0)]) ∧ True) ∧ (((Tr 1 ((freeL x_1).getD (0 +
 Int.toNat 0) 0 = takeAt x.1 x.2) ∧ Tr 1 ((0 : Int) = takeErr x.1 x.2) ∧ True) ∧ True) ∧ refB (takeS x.1 x.2) = refB (takeS x.1 x.2) ∧ true = true ∧ True) ∧
 True)) ∧ 0 + Int.toNat 0 < (freeL x_1).length ∧ Exx (Nat × List Int × Int × Int) fun x_2 => (((true = true ∧ NilNil ∧ (0 : Nat) = 0 ∧ (1 : Nat) = 1 ∧ (0 : Nat)
 = 0 ∧ (lW x.1).length = x_2.2.1.length ∧ g.val.2.2.2 = x_2.1) ∧ Tr 1 ((↑x.1.n : Int) = x_2.2.2.1) ∧ Tr 1 ((freeL x_1).getD (0 + Int.toNat 0) 0 = x_2.2.2.2) ∧
 True) ∧ true = true ∧ ((3 : TypeId) = 3 ∧ (1 : Nat) = 1 ∧ g.val.2.2.2 = x_2.1 ∧ x_2.2.1.length ≤ (lW x.1).length ∧ ∀ (i : Nat), i < x_2.2.1.length → [AV.int
 .i64 ((lW x.1).getD i 0)] = [AV.int .i64 (x_2.2.1.getD i 0)]) ∧ True) ∧ (Ints x_2.2.1 ∧ x_2.2.1.length ≤ x_2.1 ∧ x_2.1 ≤ 9223372036854775807 ∧ I64 x_2.2.2.1 ∧
 I64 x_2.2.2.2 ∧ List.Pairwise (fun x1 x2 => x1 < x2) x_2.2.1) ∧ (x_2.2.2.2 < (0 : Int) ∨ x_2.2.2.1 ≤ x_2.2.2.2 ∨ x_2.2.2.2 ∈ x_2.2.1 → ∀ (y : Unit), True → ((0
 : Int) ≤ (0 : Int) ∧ (0 : Int) < (↑(freeL x_1).length : Int)) ∧ 0 + Int.toNat 0 < (freeL x_1).length ∧ Exx Unit fun y => Exx (Subtype (RCap (takeS x.1 x.2) true
 true false)) fun g_1 => Tr 1 (((38 : TypeId) = 38 ∧ Tr 1 ((↑x.1.n : Int) = (↑(takeS x.1 x.2).n : Int)) ∧ Tr 1 (x.1.r = (takeS x.1 x.2).r) ∧ (true = true ∧
 NilNil ∧ (0 : Nat) = 0 ∧ (1 : Nat) = 1 ∧ (0 : Nat) = 0 ∧ (lC x.1).length = (lC (takeS x.1 x.2)).length ∧ g.val.1 = g_1.val.1) ∧ (true = true ∧ NilNil ∧ (0 :
 Nat) = 0 ∧ (1 : Nat) = 1 ∧ (0 : Nat) = 0 ∧ (lC x.1).length = (lC (takeS x.1 x.2)).length ∧ g.val.1 = g_1.val.1) ∧ (true = true ∧ NilNil ∧ (0 : Nat) = 0 ∧ (1 :
 Nat) = 1 ∧ (0 : Nat) = 0 ∧ (lC x.1).length = (lC (takeS x.1 x.2)).length ∧ g.val.1 = g_1.val.1) ∧ (true = true ∧ NilNil ∧ (0 : Nat) = 0 ∧ (1 : Nat) = 1 ∧ (0 :
 Nat) = 0 ∧ x_2.2.1.length = (lW (takeS x.1 x.2)).length ∧ x_2.1 = g_1.val.2.2.2) ∧ True) ∧ ((3 : TypeId) = 3 ∧ (1 : Nat) = 1 ∧ g.val.1 = g_1.val.1 ∧ (lC (takeS
 x.1 x.2)).length ≤ (lC x.1).length ∧ ∀ (i : Nat), i < (lC (takeS x.1 x.2)).length → [AV.int .i64 ((lC x.1).getD i 0)] = [AV.int .i64 ((lC (takeS x.1 x.2)).getD
 i 0)]) ∧ ((3 : TypeId) = 3 ∧ (1 : Nat) = 1 ∧ x_2.1 = g_1.val.2.2.2 ∧ (lW (takeS x.1 x.2)).length ≤ x_2.2.1.length ∧ ∀ (i : Nat), i < (lW (takeS x.1 x.2)).length
 → [AV.int .i64 (x_2.2.1.getD i 0)] = [AV.int .i64 ((lW (takeS x.1 x.2)).getD i 0)]) ∧ True) ∧ (((Tr 1 ((freeL x_1).getD (0 + Int.toNat 0) 0 = takeAt x.1 x.2) ∧
 Tr 1 ((0 : Int) = takeErr x.1 x.2) ∧ True) ∧ True) ∧ refB (takeS x.1 x.2) = refB (takeS x.1 x.2) ∧ true = true ∧ True) ∧ True) ∧ (¬refAddI.p x_2 → ∀ (y : Nat),
 x_2.2.1.length + 1 ≤ y ∧ y ≤ 9223372036854775807 → ((0 : Int) ≤ (0 : Int) ∧ (0 : Int) < (↑(freeL x_1).length : Int)) ∧ 0 + Int.toNat 0 < (freeL x_1).length ∧
 Exx Unit fun y_1 => Exx (Subtype (RCap (takeS x.1 x.2) true true false)) fun g_1 => Tr 1 (((38 : TypeId) = 38 ∧ Tr 1 ((↑x.1.n : Int) = (↑(takeS x.1 x.2).n :
 Int)) ∧ Tr 1 (x.1.r = (takeS x.1 x.2).r) ∧ (true = true ∧ NilNil ∧ (0 : Nat) = 0 ∧ (1 : Nat) = 1 ∧ (0 : Nat) = 0 ∧ (lC x.1).length = (lC (takeS x.1 x.2)).length
 ∧ g.val.1 = g_1.val.1) ∧ (true = true ∧ NilNil ∧ (0 : Nat) = 0 ∧ (1 : Nat) = 1 ∧ (0 : Nat) = 0 ∧ (lC x.1).length = (lC (takeS x.1 x.2)).length ∧ g.val.1 =
 g_1.val.1) ∧ (true = true ∧ NilNil ∧ (0 : Nat) = 0 ∧ (1 : Nat) = 1 ∧ (0 : Nat) = 0 ∧ (lC x.1).length = (lC (takeS x.1 x.2)).length ∧ g.val.1 = g_1.val.1) ∧
 (true = true ∧ NilNil ∧ (0 : Nat) = 0 ∧ (1 : Nat) = 1 ∧ (0 : Nat) = 0 ∧ x_2.2.1.length + 1 = (lW (takeS x.1 x.2)).length ∧ y = g_1.val.2.2.2) ∧ True) ∧ ((3 :
 TypeId) = 3 ∧ (1 : Nat) = 1 ∧ g.val.1 = g_1.val.1 ∧ (lC (takeS x.1 x.2)).length ≤ (lC x.1).length ∧ ∀ (i : Nat), i < (lC (takeS x.1 x.2)).length → [AV.int .i64
 ((lC x.1).getD i 0)] = [AV.int .i64 ((lC (takeS x.1 x.2)).getD i 0)]) ∧ ((3 : TypeId) = 3 ∧ (1 : Nat) = 1 ∧ y = g_1.val.2.2.2 ∧ (lW (takeS x.1 x.2)).length ≤
 x_2.2.1.length + 1 ∧ ∀ (i : Nat), i < (lW (takeS x.1 x.2)).length → [AV.int .i64 ((insI x_2.2.1 x_2.2.2.2).getD i 0)] = [AV.int .i64 ((lW (takeS x.1 x.2)).getD
 i 0)]) ∧ True) ∧ (((Tr 1 ((freeL x_1).getD (0 + Int.toNat 0) 0 = takeAt x.1 x.2) ∧ Tr 1 ((0 : Int) = takeErr x.1 x.2) ∧ True) ∧ True) ∧ refB (takeS x.1 x.2) =
 refB (takeS x.1 x.2) ∧ true = true ∧ True) ∧ True)) ∧ 0 + Int.toNat 0 < (freeL x_1).length ∧ (Exx (Nat × List Int × Int × Int) fun x_2 => (((true = true ∧
 NilNil ∧ (0 : Nat) = 0 ∧ (1 : Nat) = 1 ∧ (0 : Nat) = 0 ∧ (lW x.1).length = x_2.2.1.length ∧ g.val.2.2.2 = x_2.1) ∧ Tr 1 ((↑x.1.n : Int) = x_2.2.2.1) ∧ Tr 1
 ((freeL x_1).getD (0 + Int.toNat 0) 0 = x_2.2.2.2) ∧ True) ∧ true = true ∧ ((3 : TypeId) = 3 ∧ (1 : Nat) = 1 ∧ g.val.2.2.2 = x_2.1 ∧ x_2.2.1.length ≤ (lW
 x.1).length ∧ ∀ (i : Nat), i < x_2.2.1.length → [AV.int .i64 ((lW x.1).getD i 0)] = [AV.int .i64 (x_2.2.1.getD i 0)]) ∧ True) ∧ (Ints x_2.2.1 ∧ x_2.2.1.length ≤
 x_2.1 ∧ x_2.1 ≤ 9223372036854775807 ∧ I64 x_2.2.2.1 ∧ I64 x_2.2.2.2 ∧ List.Pairwise (fun x1 x2 => x1 < x2) x_2.2.1) ∧ (x_2.2.2.2 < (0 : Int) ∨ x_2.2.2.1 ≤
 x_2.2.2.2 ∨ x_2.2.2.2 ∈ x_2.2.1 → ∀ (y : Unit), True → ((0 : Int) ≤ (0 : Int) ∧ (0 : Int) < (↑(freeL x_1).length : Int)) ∧ 0 + Int.toNat 0 < (freeL x_1).length
 ∧ Exx Unit fun y => Exx (Subtype (RCap (takeS x.1 x.2) true true false)) fun g_1 => Tr 1 (((38 : TypeId) = 38 ∧ Tr 1 ((↑x.1.n : Int) = (↑(takeS x.1 x.2).n :
 Int)) ∧ Tr 1 (x.1.r = (takeS x.1 x.2).r) ∧ (true = true ∧ NilNil ∧ (0 : Nat) = 0 ∧ (1 : Nat) = 1 ∧ (0 : Nat) = 0 ∧ (lC x.1).length = (lC (takeS x.1 x.2)).length
 ∧ g.val.1 = g_1.val.1) ∧ (true = true ∧ NilNil ∧ (0 : Nat) = 0 ∧ (1 : Nat) = 1 ∧ (0 : Nat) = 0 ∧ (lC x.1).length = (lC (takeS x.1 x.2)).length ∧ g.val.1 =
 g_1.val.1) ∧ (true = true ∧ NilNil ∧ (0 : Nat) = 0 ∧ (1 : Nat) = 1 ∧ (0 : Nat) = 0 ∧ (lC x.1).length = (lC (takeS x.1 x.2)).length ∧ g.val.1 = g_1.val.1) ∧
 (true = true ∧ NilNil ∧ (0 : Nat) = 0 ∧ (1 : Nat) = 1 ∧ (0 : Nat) = 0 ∧ x_2.2.1.length = (lW (takeS x.1 x.2)).length ∧ x_2.1 = g_1.val.2.2.2) ∧ True) ∧ ((3 :
 TypeId) = 3 ∧ (1 : Nat) = 1 ∧ g.val.1 = g_1.val.1 ∧ (lC (takeS x.1 x.2)).length ≤ (lC x.1).length ∧ ∀ (i : Nat), i < (lC (takeS x.1 x.2)).length → [AV.int .i64
 ((lC x.1).getD i 0)] = [AV.int .i64 ((lC (takeS x.1 x.2)).getD i 0)]) ∧ ((3 : TypeId) = 3 ∧ (1 : Nat) = 1 ∧ x_2.1 = g_1.val.2.2.2 ∧ (lW (takeS x.1 x.2)).length
 ≤ x_2.2.1.length ∧ ∀ (i : Nat), i < (lW (takeS x.1 x.2)).length → [AV.int .i64 (x_2.2.1.getD i 0)] = [AV.int .i64 ((lW (takeS x.1 x.2)).getD i 0)]) ∧ True) ∧
 (((Tr 1 ((freeL x_1).getD (0 + Int.toNat 0) 0 = takeAt x.1 x.2) ∧ Tr 1 ((0 : Int) = takeErr x.1 x.2) ∧ True) ∧ True) ∧ refB (takeS x.1 x.2) = refB (takeS x.1
 x.2) ∧ true = true ∧ True) ∧ True) ∧ (¬refAddI.p x_2 → ∀ (y : Nat), x_2.2.1.length + 1 ≤ y ∧ y ≤ 9223372036854775807 → ((0 : Int) ≤ (0 : Int) ∧ (0 : Int) <
 (↑(freeL x_1).length : Int)) ∧ 0 + Int.toNat 0 < (freeL x_1).length ∧ Exx Unit fun y_1 => Exx (Subtype (RCap (takeS x.1 x.2) true true false)) fun g_1 => Tr 1
 (((38 : TypeId) = 38 ∧ Tr 1 ((↑x.1.n : Int) = (↑(takeS x.1 x.2).n : Int)) ∧ Tr 1 (x.1.r = (takeS x.1 x.2).r) ∧ (true = true ∧ NilNil ∧ (0 : Nat) = 0 ∧ (1 : Nat)
 = 1 ∧ (0 : Nat) = 0 ∧ (lC x.1).length = (lC (takeS x.1 x.2)).length ∧ g.val.1 = g_1.val.1) ∧ (true = true ∧ NilNil ∧ (0 : Nat) = 0 ∧ (1 : Nat) = 1 ∧ (0 : Nat) =
 0 ∧ (lC x.1).length = (lC (takeS x.1 x.2)).length ∧ g.val.1 = g_1.val.1) ∧ (true = true ∧ NilNil ∧ (0 : Nat) = 0 ∧ (1 : Nat) = 1 ∧ (0 : Nat) = 0 ∧ (lC
 x.1).length = (lC (takeS x.1 x.2)).length ∧ g.val.1 = g_1.val.1) ∧ (true = true ∧ NilNil ∧ (0 : Nat) = 0 ∧ (1 : Nat) = 1 ∧ (0 : Nat) = 0 ∧ x_2.2.1.length + 1 =
 (lW (takeS x.1 x.2)).length ∧ y = g_1.val.2.2.2) ∧ True) ∧ ((3 : TypeId) = 3 ∧ (1 : Nat) = 1 ∧ g.val.1 = g_1.val.1 ∧ (lC (takeS x.1 x.2)).length ≤ (lC
 x.1).length ∧ ∀ (i : Nat), i < (lC (takeS x.1 x.2)).length → [AV.int .i64 ((lC x.1).getD i 0)] = [AV.int .i64 ((lC (takeS x.1 x.2)).getD i 0)]) ∧ ((3 : TypeId)
 = 3 ∧ (1 : Nat) = 1 ∧ y = g_1.val.2.2.2 ∧ (lW (takeS x.1 x.2)).length ≤ x_2.2.1.length + 1 ∧ ∀ (i : Nat), i < (lW (takeS x.1 x.2)).length → [AV.int .i64 ((insI
 x_2.2.1 x_2.2.2.2).getD i 0)] = [AV.int .i64 ((lW (takeS x.1 x.2)).getD i 0)]) ∧ True) ∧ (((Tr 1 ((freeL x_1).getD (0 + Int.toNat 0) 0 = takeAt x.1 x.2) ∧ Tr 1
 ((0 : Int) = takeErr x.1 x.2) ∧ True) ∧ True) ∧ refB (takeS x.1 x.2) = refB (takeS x.1 x.2) ∧ true = true ∧ True) ∧ True)) ∧ Exx (Nat × List Int × Int × Int)
 fun x_2 => (((true = true ∧ NilNil ∧ (0 : Nat) = 0 ∧ (1 : Nat) = 1 ∧ (0 : Nat) = 0 ∧ (lW x.1).length = x_2.2.1.length ∧ g.val.2.2.2 = x_2.1) ∧ Tr 1 ((↑x.1.n :
 Int) = x_2.2.2.1) ∧ Tr 1 ((freeL x_1).getD (0 + Int.toNat 0) 0 = x_2.2.2.2) ∧ True) ∧ true = true ∧ ((3 : TypeId) = 3 ∧ (1 : Nat) = 1 ∧ g.val.2.2.2 = x_2.1 ∧
 x_2.2.1.length ≤ (lW x.1).length ∧ ∀ (i : Nat), i < x_2.2.1.length → [AV.int .i64 ((lW x.1).getD i 0)] = [AV.int .i64 (x_2.2.1.getD i 0)]) ∧ True) ∧ (Ints
 x_2.2.1 ∧ x_2.2.1.length ≤ x_2.1 ∧ x_2.1 ≤ 9223372036854775807 ∧ I64 x_2.2.2.1 ∧ I64 x_2.2.2.2 ∧ List.Pairwise (fun x1 x2 => x1 < x2) x_2.2.1) ∧ (x_2.2.2.2 < (0
 : Int) ∨ x_2.2.2.1 ≤ x_2.2.2.2 ∨ x_2.2.2.2 ∈ x_2.2.1 → ∀ (y : Unit), True → ((0 : Int) ≤ (0 : Int) ∧ (0 : Int) < (↑(freeL x_1).length : Int)) ∧ 0 + Int.toNat 0
 < (freeL x_1).length ∧ Exx Unit fun y => Exx (Subtype (RCap (takeS x.1 x.2) true true false)) fun g_1 => Tr 1 (((38 : TypeId) = 38 ∧ Tr 1 ((↑x.1.n : Int) =
 (↑(takeS x.1 x.2).n : Int)) ∧ Tr 1 (x.1.r = (takeS x.1 x.2).r) ∧ (true = true ∧ NilNil ∧ (0 : Nat) = 0 ∧ (1 : Nat) = 1 ∧ (0 : Nat) = 0 ∧ (lC x.1).length = (lC
 (takeS x.1 x.2)).length ∧ g.val.1 = g_1.val.1) ∧ (true = true ∧ NilNil ∧ (0 : Nat) = 0 ∧ (1 : Nat) = 1 ∧ (0 : Nat) = 0 ∧ (lC x.1).length = (lC (takeS x.1
 x.2)).length ∧ g.val.1 = g_1.val.1) ∧ (true = true ∧ NilNil ∧ (0 : Nat) = 0 ∧ (1 : Nat) = 1 ∧ (0 : Nat) = 0 ∧ (lC x.1).length = (lC (takeS x.1 x.2)).length ∧
 g.val.1 = g_1.val.1) ∧ (true = true ∧ NilNil ∧ (0 : Nat) = 0 ∧ (1 : Nat) = 1 ∧ (0 : Nat) = 0 ∧ x_2.2.1.length = (lW (takeS x.1 x.2)).length ∧ x_2.1 =
 g_1.val.2.2.2) ∧ True) ∧ ((3 : TypeId) = 3 ∧ (1 : Nat) = 1 ∧ g.val.1 = g_1.val.1 ∧ (lC (takeS x.1 x.2)).length ≤ (lC x.1).length ∧ ∀ (i : Nat), i < (lC (takeS
 x.1 x.2)).length → [AV.int .i64 ((lC x.1).getD i 0)] = [AV.int .i64 ((lC (takeS x.1 x.2)).getD i 0)]) ∧ ((3 : TypeId) = 3 ∧ (1 : Nat) = 1 ∧ x_2.1 =
 g_1.val.2.2.2 ∧ (lW (takeS x.1 x.2)).length ≤ x_2.2.1.length ∧ ∀ (i : Nat), i < (lW (takeS x.1 x.2)).length → [AV.int .i64 (x_2.2.1.getD i 0)] = [AV.int .i64
 ((lW (takeS x.1 x.2)).getD i 0)]) ∧ True) ∧ (((Tr 1 ((freeL x_1).getD (0 + Int.toNat 0) 0 = takeAt x.1 x.2) ∧ Tr 1 ((0 : Int) = takeErr x.1 x.2) ∧ True) ∧ True)
 ∧ refB (takeS x.1 x.2) = refB (takeS x.1 x.2) ∧ true = true ∧ True) ∧ True) ∧ (¬refAddI.p x_2 → ∀ (y : Nat), x_2.2.1.length + 1 ≤ y ∧ y ≤ 9223372036854775807 →
 ((0 : Int) ≤ (0 : Int) ∧ (0 : Int) < (↑(freeL x_1).length : Int)) ∧ 0 + Int.toNat 0 < (freeL x_1).length ∧ Exx Unit fun y_1 => Exx (Subtype (RCap (takeS x.1
 x.2) true true false)) fun g_1 => Tr 1 (((38 : TypeId) = 38 ∧ Tr 1 ((↑x.1.n : Int) = (↑(takeS x.1 x.2).n : Int)) ∧ Tr 1 (x.1.r = (takeS x.1 x.2).r) ∧ (true =
 true ∧ NilNil ∧ (0 : Nat) = 0 ∧ (1 : Nat) = 1 ∧ (0 : Nat) = 0 ∧ (lC x.1).length = (lC (takeS x.1 x.2)).length ∧ g.val.1 = g_1.val.1) ∧ (true = true ∧ NilNil ∧
 (0 : Nat) = 0 ∧ (1 : Nat) = 1 ∧ (0 : Nat) = 0 ∧ (lC x.1).length = (lC (takeS x.1 x.2)).length ∧ g.val.1 = g_1.val.1) ∧ (true = true ∧ NilNil ∧ (0 : Nat) = 0 ∧
 (1 : Nat) = 1 ∧ (0 : Nat) = 0 ∧ (lC x.1).length = (lC (takeS x.1 x.2)).length ∧ g.val.1 = g_1.val.1) ∧ (true = true ∧ NilNil ∧ (0 : Nat) = 0 ∧ (1 : Nat) = 1 ∧
 (0 : Nat) = 0 ∧ x_2.2.1.length + 1 = (lW (takeS x.1 x.2)).length ∧ y = g_1.val.2.2.2) ∧ True) ∧ ((3 : TypeId) = 3 ∧ (1 : Nat) = 1 ∧ g.val.1 = g_1.val.1 ∧ (lC
 (takeS x.1 x.2)).length ≤ (lC x.1).length ∧ ∀ (i : Nat), i < (lC (takeS x.1 x.2)).length → [AV.int .i64 ((lC x.1).getD i 0)] = [AV.int .i64 ((lC (takeS x.1
 x.2)).getD i 0)]) ∧ ((3 : TypeId) = 3 ∧ (1 : Nat) = 1 ∧ y = g_1.val.2.2.2 ∧ (lW (takeS x.1 x.2)).length ≤ x_2.2.1.length + 1 ∧ ∀ (i : Nat), i < (lW (takeS x.1
 x.2)).length → [AV.int .i64 ((insI x_2.2.1 x_2.2.2.2).getD i 0)] = [AV.int .i64 ((lW (takeS x.1 x.2)).getD i 0)]) ∧ True) ∧ (((Tr 1 ((freeL x_1).getD (0 +
 Int.toNat 0) 0 = takeAt x.1 x.2) ∧ Tr 1 ((0 : Int) = takeErr x.1 x.2) ∧ True) ∧ True) ∧ refB (takeS x.1 x.2) = refB (takeS x.1 x.2) ∧ true = true ∧ True) ∧
 True)) ∧ (∀ (g : Subtype (RCap x.1 true false true)), ((0 : Int) ≤ (0 : Int) ∧ (0 : Int) < (↑(freeL x_1).length : Int)) ∧ ((0 + Int.toNat 0 < (freeL x_1).length
 ∧ Exx (Nat × List Int × Int × Int) fun x_2 => (((true = true ∧ NilNil ∧ (0 : Nat) = 0 ∧ (1 : Nat) = 1 ∧ (0 : Nat) = 0 ∧ (lM x.1).length = x_2.2.1.length ∧
 g.val.2.2.1 = x_2.1) ∧ Tr 1 ((↑x.1.n : Int) = x_2.2.2.1) ∧ Tr 1 ((freeL x_1).getD (0 + Int.toNat 0) 0 = x_2.2.2.2) ∧ True) ∧ true = true ∧ ((3 : TypeId) = 3 ∧
 (1 : Nat) = 1 ∧ g.val.2.2.1 = x_2.1 ∧ x_2.2.1.length ≤ (lM x.1).length ∧ ∀ (i : Nat), i < x_2.2.1.length → [AV.int .i64 ((lM x.1).getD i 0)] = [AV.int .i64
 (x_2.2.1.getD i 0)]) ∧ True) ∧ (Ints x_2.2.1 ∧ x_2.2.1.length ≤ x_2.1 ∧ x_2.1 ≤ 9223372036854775807 ∧ I64 x_2.2.2.1 ∧ I64 x_2.2.2.2 ∧ List.Pairwise (fun x1 x2
 => x1 < x2) x_2.2.1) ∧ (x_2.2.2.2 < (0 : Int) ∨ x_2.2.2.1 ≤ x_2.2.2.2 ∨ x_2.2.2.2 ∈ x_2.2.1 → ∀ (y : Unit), True → ((0 : Int) ≤ (0 : Int) ∧ (0 : Int) < (↑(freeL
 x_1).length : Int)) ∧ 0 + Int.toNat 0 < (freeL x_1).length ∧ Exx Unit fun y => Exx (Subtype (RCap (takeS x.1 x.2) true false true)) fun g_1 => Tr 1 (((38 :
 TypeId) = 38 ∧ Tr 1 ((↑x.1.n : Int) = (↑(takeS x.1 x.2).n : Int)) ∧ Tr 1 (x.1.r = (takeS x.1 x.2).r) ∧ (true = true ∧ NilNil ∧ (0 : Nat) = 0 ∧ (1 : Nat) = 1 ∧
 (0 : Nat) = 0 ∧ (lC x.1).length = (lC (takeS x.1 x.2)).length ∧ g.val.1 = g_1.val.1) ∧ (true = true ∧ NilNil ∧ (0 : Nat) = 0 ∧ (1 : Nat) = 1 ∧ (0 : Nat) = 0 ∧
 (lC x.1).length = (lC (takeS x.1 x.2)).length ∧ g.val.1 = g_1.val.1) ∧ (true = true ∧ NilNil ∧ (0 : Nat) = 0 ∧ (1 : Nat) = 1 ∧ (0 : Nat) = 0 ∧ (lM x.1).length =
 (lM (takeS x.1 x.2)).length ∧ g.val.2.2.1 = g_1.val.2.2.1) ∧ (true = true ∧ NilNil ∧ (0 : Nat) = 0 ∧ (1 : Nat) = 1 ∧ (0 : Nat) = 0 ∧ x_2.2.1.length = (lM (takeS
 x.1 x.2)).length ∧ x_2.1 = g_1.val.2.2.1) ∧ True) ∧ ((3 : TypeId) = 3 ∧ (1 : Nat) = 1 ∧ g.val.1 = g_1.val.1 ∧ (lC (takeS x.1 x.2)).length ≤ (lC x.1).length ∧ ∀
 (i : Nat), i < (lC (takeS x.1 x.2)).length → [AV.int .i64 ((lC x.1).getD i 0)] = [AV.int .i64 ((lC (takeS x.1 x.2)).getD i 0)]) ∧ ((3 : TypeId) = 3 ∧ (1 : Nat)
 = 1 ∧ x_2.1 = g_1.val.2.2.1 ∧ (lM (takeS x.1 x.2)).length ≤ x_2.2.1.length ∧ ∀ (i : Nat), i < (lM (takeS x.1 x.2)).length → [AV.int .i64 (x_2.2.1.getD i 0)] =
 [AV.int .i64 ((lM (takeS x.1 x.2)).getD i 0)]) ∧ True) ∧ (((Tr 1 ((freeL x_1).getD (0 + Int.toNat 0) 0 = takeAt x.1 x.2) ∧ Tr 1 ((0 : Int) = takeErr x.1 x.2) ∧
 True) ∧ True) ∧ refB (takeS x.1 x.2) = refB (takeS x.1 x.2) ∧ true = true ∧ True) ∧ True) ∧ (¬refAddI.p x_2 → ∀ (y : Nat), x_2.2.1.length + 1 ≤ y ∧ y ≤
 9223372036854775807 → ((0 : Int) ≤ (0 : Int) ∧ (0 : Int) < (↑(freeL x_1).length : Int)) ∧ 0 + Int.toNat 0 < (freeL x_1).length ∧ Exx Unit fun y_1 => Exx
 (Subtype (RCap (takeS x.1 x.2) true false false)) fun g_1 => Tr 1 (((38 : TypeId) = 38 ∧ Tr 1 ((↑x.1.n : Int) = (↑(takeS x.1 x.2).n : Int)) ∧ Tr 1 (x.1.r =
 (takeS x.1 x.2).r) ∧ (true = true ∧ NilNil ∧ (0 : Nat) = 0 ∧ (1 : Nat) = 1 ∧ (0 : Nat) = 0 ∧ (lC x.1).length = (lC (takeS x.1 x.2)).length ∧ g.val.1 =
 g_1.val.1) ∧ (true = true ∧ NilNil ∧ (0 : Nat) = 0 ∧ (1 : Nat) = 1 ∧ (0 : Nat) = 0 ∧ (lC x.1).length = (lC (takeS x.1 x.2)).length ∧ g.val.1 = g_1.val.1) ∧
 (true = true ∧ NilNil ∧ (0 : Nat) = 0 ∧ (1 : Nat) = 1 ∧ (0 : Nat) = 0 ∧ (lM x.1).length = (lM (takeS x.1 x.2)).length ∧ g.val.2.2.1 = g_1.val.2.2.1) ∧ (true =
 true ∧ NilNil ∧ (0 : Nat) = 0 ∧ (1 : Nat) = 1 ∧ (0 : Nat) = 0 ∧ x_2.2.1.length + 1 = (lW (takeS x.1 x.2)).length ∧ y = g_1.val.2.2.2) ∧ True) ∧ ((3 : TypeId) =
 3 ∧ (1 : Nat) = 1 ∧ g.val.1 = g_1.val.1 ∧ (lC (takeS x.1 x.2)).length ≤ (lC x.1).length ∧ ∀ (i : Nat), i < (lC (takeS x.1 x.2)).length → [AV.int .i64 ((lC
 x.1).getD i 0)] = [AV.int .i64 ((lC (takeS x.1 x.2)).getD i 0)]) ∧ ((3 : TypeId) = 3 ∧ (1 : Nat) = 1 ∧ x_2.1 = g_1.val.2.2.1 ∧ (lM (takeS x.1 x.2)).length ≤
 x_2.2.1.length ∧ ∀ (i : Nat), i < (lM (takeS x.1 x.2)).length → [AV.int .i64 (x_2.2.1.getD i 0)] = [AV.int .i64 ((lM (takeS x.1 x.2)).getD i 0)]) ∧ ((3 :
 TypeId) = 3 ∧ (1 : Nat) = 1 ∧ y = g_1.val.2.2.2 ∧ (lW (takeS x.1 x.2)).length ≤ x_2.2.1.length + 1 ∧ ∀ (i : Nat), i < (lW (takeS x.1 x.2)).length → [AV.int .i64
 ((insI x_2.2.1 x_2.2.2.2).getD i 0)] = [AV.int .i64 ((lW (takeS x.1 x.2)).getD i 0)]) ∧ True) ∧ (((Tr 1 ((freeL x_1).getD (0 + Int.toNat 0) 0 = takeAt x.1 x.2)
 ∧ Tr 1 ((0 : Int) = takeErr x.1 x.2) ∧ True) ∧ True) ∧ refB (takeS x.1 x.2) = refB (takeS x.1 x.2) ∧ true = true ∧ True) ∧ True)) ∧ 0 + Int.toNat 0 < (freeL
 x_1).length ∧ Exx (Nat × List Int × Int × Int) fun x_2 => (((true = true ∧ NilNil ∧ (0 : Nat) = 0 ∧ (1 : Nat) = 1 ∧ (0 : Nat) = 0 ∧ (lM x.1).length =
 x_2.2.1.length ∧ g.val.2.2.1 = x_2.1) ∧ Tr 1 ((↑x.1.n : Int) = x_2.2.2.1) ∧ Tr 1 ((freeL x_1).getD (0 + Int.toNat 0) 0 = x_2.2.2.2) ∧ True) ∧ true = true ∧ ((3
 : TypeId) = 3 ∧ (1 : Nat) = 1 ∧ g.val.2.2.1 = x_2.1 ∧ x_2.2.1.length ≤ (lM x.1).length ∧ ∀ (i : Nat), i < x_2.2.1.length → [AV.int .i64 ((lM x.1).getD i 0)] =
 [AV.int .i64 (x_2.2.1.getD i 0)]) ∧ True) ∧ (Ints x_2.2.1 ∧ x_2.2.1.length ≤ x_2.1 ∧ x_2.1 ≤ 9223372036854775807 ∧ I64 x_2.2.2.1 ∧ I64 x_2.2.2.2 ∧ List.Pairwise
 (fun x1 x2 => x1 < x2) x_2.2.1) ∧ (x_2.2.2.2 < (0 : Int) ∨ x_2.2.2.1 ≤ x_2.2.2.2 ∨ x_2.2.2.2 ∈ x_2.2.1 → ∀ (y : Unit), True → ((0 : Int) ≤ (0 : Int) ∧ (0 : Int)
 < (↑(freeL x_1).length : Int)) ∧ 0 + Int.toNat 0 < (freeL x_1).length ∧ Exx Unit fun y => Exx (Subtype (RCap (takeS x.1 x.2) true false true)) fun g_1 => Tr 1
 (((38 : TypeId) = 38 ∧ Tr 1 ((↑x.1.n : Int) = (↑(takeS x.1 x.2).n : Int)) ∧ Tr 1 (x.1.r = (takeS x.1 x.2).r) ∧ (true = true ∧ NilNil ∧ (0 : Nat) = 0 ∧ (1 : Nat)
 = 1 ∧ (0 : Nat) = 0 ∧ (lC x.1).length = (lC (takeS x.1 x.2)).length ∧ g.val.1 = g_1.val.1) ∧ (true = true ∧ NilNil ∧ (0 : Nat) = 0 ∧ (1 : Nat) = 1 ∧ (0 : Nat) =
 0 ∧ (lC x.1).length = (lC (takeS x.1 x.2)).length ∧ g.val.1 = g_1.val.1) ∧ (true = true ∧ NilNil ∧ (0 : Nat) = 0 ∧ (1 : Nat) = 1 ∧ (0 : Nat) = 0 ∧ (lM
 x.1).length = (lM (takeS x.1 x.2)).length ∧ g.val.2.2.1 = g_1.val.2.2.1) ∧ (true = true ∧ NilNil ∧ (0 : Nat) = 0 ∧ (1 : Nat) = 1 ∧ (0 : Nat) = 0 ∧
 x_2.2.1.length = (lM (takeS x.1 x.2)).length ∧ x_2.1 = g_1.val.2.2.1) ∧ True) ∧ ((3 : TypeId) = 3 ∧ (1 : Nat) = 1 ∧ g.val.1 = g_1.val.1 ∧ (lC (takeS x.1
 x.2)).length ≤ (lC x.1).length ∧ ∀ (i : Nat), i < (lC (takeS x.1 x.2)).length → [AV.int .i64 ((lC x.1).getD i 0)] = [AV.int .i64 ((lC (takeS x.1 x.2)).getD i
 0)]) ∧ ((3 : TypeId) = 3 ∧ (1 : Nat) = 1 ∧ x_2.1 = g_1.val.2.2.1 ∧ (lM (takeS x.1 x.2)).length ≤ x_2.2.1.length ∧ ∀ (i : Nat), i < (lM (takeS x.1 x.2)).length →
 [AV.int .i64 (x_2.2.1.getD i 0)] = [AV.int .i64 ((lM (takeS x.1 x.2)).getD i 0)]) ∧ True) ∧ (((Tr 1 ((freeL x_1).getD (0 + Int.toNat 0) 0 = takeAt x.1 x.2) ∧ Tr
 1 ((0 : Int) = takeErr x.1 x.2) ∧ True) ∧ True) ∧ refB (takeS x.1 x.2) = refB (takeS x.1 x.2) ∧ true = true ∧ True) ∧ True) ∧ (¬refAddI.p x_2 → ∀ (y : Nat),
 x_2.2.1.length + 1 ≤ y ∧ y ≤ 9223372036854775807 → ((0 : Int) ≤ (0 : Int) ∧ (0 : Int) < (↑(freeL x_1).length : Int)) ∧ 0 + Int.toNat 0 < (freeL x_1).length ∧
 Exx Unit fun y_1 => Exx (Subtype (RCap (takeS x.1 x.2) true false false)) fun g_1 => Tr 1 (((38 : TypeId) = 38 ∧ Tr 1 ((↑x.1.n : Int) = (↑(takeS x.1 x.2).n :
 Int)) ∧ Tr 1 (x.1.r = (takeS x.1 x.2).r) ∧ (true = true ∧ NilNil ∧ (0 : Nat) = 0 ∧ (1 : Nat) = 1 ∧ (0 : Nat) = 0 ∧ (lC x.1).length = (lC (takeS x.1 x.2)).length
 ∧ g.val.1 = g_1.val.1) ∧ (true = true ∧ NilNil ∧ (0 : Nat) = 0 ∧ (1 : Nat) = 1 ∧ (0 : Nat) = 0 ∧ (lC x.1).length = (lC (takeS x.1 x.2)).length ∧ g.val.1 =
 g_1.val.1) ∧ (true = true ∧ NilNil ∧ (0 : Nat) = 0 ∧ (1 : Nat) = 1 ∧ (0 : Nat) = 0 ∧ (lM x.1).length = (lM (takeS x.1 x.2)).length ∧ g.val.2.2.1 =
 g_1.val.2.2.1) ∧ (true = true ∧ NilNil ∧ (0 : Nat) = 0 ∧ (1 : Nat) = 1 ∧ (0 : Nat) = 0 ∧ x_2.2.1.length + 1 = (lW (takeS x.1 x.2)).length ∧ y = g_1.val.2.2.2) ∧
 True) ∧ ((3 : TypeId) = 3 ∧ (1 : Nat) = 1 ∧ g.val.1 = g_1.val.1 ∧ (lC (takeS x.1 x.2)).length ≤ (lC x.1).length ∧ ∀ (i : Nat), i < (lC (takeS x.1 x.2)).length →
 [AV.int .i64 ((lC x.1).getD i 0)] = [AV.int .i64 ((lC (takeS x.1 x.2)).getD i 0)]) ∧ ((3 : TypeId) = 3 ∧ (1 : Nat) = 1 ∧ x_2.1 = g_1.val.2.2.1 ∧ (lM (takeS x.1
 x.2)).length ≤ x_2.2.1.length ∧ ∀ (i : Nat), i < (lM (takeS x.1 x.2)).length → [AV.int .i64 (x_2.2.1.getD i 0)] = [AV.int .i64 ((lM (takeS x.1 x.2)).getD i 0)])
 ∧ ((3 : TypeId) = 3 ∧ (1 : Nat) = 1 ∧ y = g_1.val.2.2.2 ∧ (lW (takeS x.1 x.2)).length ≤ x_2.2.1.length + 1 ∧ ∀ (i : Nat), i < (lW (takeS x.1 x.2)).length →
 [AV.int .i64 ((insI x_2.2.1 x_2.2.2.2).getD i 0)] = [AV.int .i64 ((lW (takeS x.1 x.2)).getD i 0)]) ∧ True) ∧ (((Tr 1 ((freeL x_1).getD (0 + Int.toNat 0) 0 =
 takeAt x.1 x.2) ∧ Tr 1 ((0 : Int) = takeErr x.1 x.2) ∧ True) ∧ True) ∧ refB (takeS x.1 x.2) = refB (takeS x.1 x.2) ∧ true = true ∧ True) ∧ True)) ∧ ((0 +
 Int.toNat 0 < (freeL x_1).length ∧ Exx (Nat × List Int × Int × Int) fun x_2 => (((true = true ∧ NilNil ∧ (0 : Nat) = 0 ∧ (1 : Nat) = 1 ∧ (0 : Nat) = 0 ∧ (lM
 x.1).length = x_2.2.1.length ∧ g.val.2.2.1 = x_2.1) ∧ Tr 1 ((↑x.1.n : Int) = x_2.2.2.1) ∧ Tr 1 ((freeL x_1).getD (0 + Int.toNat 0) 0 = x_2.2.2.2) ∧ True) ∧ true
 = true ∧ ((3 : TypeId) = 3 ∧ (1 : Nat) = 1 ∧ g.val.2.2.1 = x_2.1 ∧ x_2.2.1.length ≤ (lM x.1).length ∧ ∀ (i : Nat), i < x_2.2.1.length → [AV.int .i64 ((lM
 x.1).getD i 0)] = [AV.int .i64 (x_2.2.1.getD i 0)]) ∧ True) ∧ (Ints x_2.2.1 ∧ x_2.2.1.length ≤ x_2.1 ∧ x_2.1 ≤ 9223372036854775807 ∧ I64 x_2.2.2.1 ∧ I64
 x_2.2.2.2 ∧ List.Pairwise (fun x1 x2 => x1 < x2) x_2.2.1) ∧ (x_2.2.2.2 < (0 : Int) ∨ x_2.2.2.1 ≤ x_2.2.2.2 ∨ x_2.2.2.2 ∈ x_2.2.1 → ∀ (y : Unit), True → ((0 :
 Int) ≤ (0 : Int) ∧ (0 : Int) < (↑(freeL x_1).length : Int)) ∧ 0 + Int.toNat 0 < (freeL x_1).length ∧ Exx Unit fun y => Exx (Subtype (RCap (takeS x.1 x.2) true
 false true)) fun g_1 => Tr 1 (((38 : TypeId) = 38 ∧ Tr 1 ((↑x.1.n : Int) = (↑(takeS x.1 x.2).n : Int)) ∧ Tr 1 (x.1.r = (takeS x.1 x.2).r) ∧ (true = true ∧
 NilNil ∧ (0 : Nat) = 0 ∧ (1 : Nat) = 1 ∧ (0 : Nat) = 0 ∧ (lC x.1).length = (lC (takeS x.1 x.2)).length ∧ g.val.1 = g_1.val.1) ∧ (true = true ∧ NilNil ∧ (0 :
 Nat) = 0 ∧ (1 : Nat) = 1 ∧ (0 : Nat) = 0 ∧ (lC x.1).length = (lC (takeS x.1 x.2)).length ∧ g.val.1 = g_1.val.1) ∧ (true = true ∧ NilNil ∧ (0 : Nat) = 0 ∧ (1 :
 Nat) = 1 ∧ (0 : Nat) = 0 ∧ (lM x.1).length = (lM (takeS x.1 x.2)).length ∧ g.val.2.2.1 = g_1.val.2.2.1) ∧ (true = true ∧ NilNil ∧ (0 : Nat) = 0 ∧ (1 : Nat) = 1
 ∧ (0 : Nat) = 0 ∧ x_2.2.1.length = (lM (takeS x.1 x.2)).length ∧ x_2.1 = g_1.val.2.2.1) ∧ True) ∧ ((3 : TypeId) = 3 ∧ (1 : Nat) = 1 ∧ g.val.1 = g_1.val.1 ∧ (lC
 (takeS x.1 x.2)).length ≤ (lC x.1).length ∧ ∀ (i : Nat), i < (lC (takeS x.1 x.2)).length → [AV.int .i64 ((lC x.1).getD i 0)] = [AV.int .i64 ((lC (takeS x.1
 x.2)).getD i 0)]) ∧ ((3 : TypeId) = 3 ∧ (1 : Nat) = 1 ∧ x_2.1 = g_1.val.2.2.1 ∧ (lM (takeS x.1 x.2)).length ≤ x_2.2.1.length ∧ ∀ (i : Nat), i < (lM (takeS x.1
 x.2)).length → [AV.int .i64 (x_2.2.1.getD i 0)] = [AV.int .i64 ((lM (takeS x.1 x.2)).getD i 0)]) ∧ True) ∧ (((Tr 1 ((freeL x_1).getD (0 + Int.toNat 0) 0 =
 takeAt x.1 x.2) ∧ Tr 1 ((0 : Int) = takeErr x.1 x.2) ∧ True) ∧ True) ∧ refB (takeS x.1 x.2) = refB (takeS x.1 x.2) ∧ true = true ∧ True) ∧ True) ∧ (¬refAddI.p
 x_2 → ∀ (y : Nat), x_2.2.1.length + 1 ≤ y ∧ y ≤ 9223372036854775807 → ((0 : Int) ≤ (0 : Int) ∧ (0 : Int) < (↑(freeL x_1).length : Int)) ∧ 0 + Int.toNat 0 <
 (freeL x_1).length ∧ Exx Unit fun y_1 => Exx (Subtype (RCap (takeS x.1 x.2) true false false)) fun g_1 => Tr 1 (((38 : TypeId) = 38 ∧ Tr 1 ((↑x.1.n : Int) =
 (↑(takeS x.1 x.2).n : Int)) ∧ Tr 1 (x.1.r = (takeS x.1 x.2).r) ∧ (true = true ∧ NilNil ∧ (0 : Nat) = 0 ∧ (1 : Nat) = 1 ∧ (0 : Nat) = 0 ∧ (lC x.1).length = (lC
 (takeS x.1 x.2)).length ∧ g.val.1 = g_1.val.1) ∧ (true = true ∧ NilNil ∧ (0 : Nat) = 0 ∧ (1 : Nat) = 1 ∧ (0 : Nat) = 0 ∧ (lC x.1).length = (lC (takeS x.1
 x.2)).length ∧ g.val.1 = g_1.val.1) ∧ (true = true ∧ NilNil ∧ (0 : Nat) = 0 ∧ (1 : Nat) = 1 ∧ (0 : Nat) = 0 ∧ (lM x.1).length = (lM (takeS x.1 x.2)).length ∧
 g.val.2.2.1 = g_1.val.2.2.1) ∧ (true = true ∧ NilNil ∧ (0 : Nat) = 0 ∧ (1 : Nat) = 1 ∧ (0 : Nat) = 0 ∧ x_2.2.1.length + 1 = (lW (takeS x.1 x.2)).length ∧ y =
 g_1.val.2.2.2) ∧ True) ∧ ((3 : TypeId) = 3 ∧ (1 : Nat) = 1 ∧ g.val.1 = g_1.val.1 ∧ (lC (takeS x.1 x.2)).length ≤ (lC x.1).length ∧ ∀ (i : Nat), i < (lC (takeS
 x.1 x.2)).length → [AV.int .i64 ((lC x.1).getD i 0)] = [AV.int .i64 ((lC (takeS x.1 x.2)).getD i 0)]) ∧ ((3 : TypeId) = 3 ∧ (1 : Nat) = 1 ∧ x_2.1 =
 g_1.val.2.2.1 ∧ (lM (takeS x.1 x.2)).length ≤ x_2.2.1.length ∧ ∀ (i : Nat), i < (lM (takeS x.1 x.2)).length → [AV.int .i64 (x_2.2.1.getD i 0)] = [AV.int .i64
 ((lM (takeS x.1 x.2)).getD i 0)]) ∧ ((3 : TypeId) = 3 ∧ (1 : Nat) = 1 ∧ y = g_1.val.2.2.2 ∧ (lW (takeS x.1 x.2)).length ≤ x_2.2.1.length + 1 ∧ ∀ (i : Nat), i <
 (lW (takeS x.1 x.2)).length → [AV.int .i64 ((insI x_2.2.1 x_2.2.2.2).getD i 0)] = [AV.int .i64 ((lW (takeS x.1 x.2)).getD i 0)]) ∧ True) ∧ (((Tr 1 ((freeL
 x_1).getD (0 + Int.toNat 0) 0 = takeAt x.1 x.2) ∧ Tr 1 ((0 : Int) = takeErr x.1 x.2) ∧ True) ∧ True) ∧ refB (takeS x.1 x.2) = refB (takeS x.1 x.2) ∧ true = true
 ∧ True) ∧ True)) ∧ 0 + Int.toNat 0 < (freeL x_1).length ∧ Exx (Nat × List Int × Int × Int) fun x_2 => (((true = true ∧ NilNil ∧ (0 : Nat) = 0 ∧ (1 : Nat) = 1 ∧
 (0 : Nat) = 0 ∧ (lM x.1).length = x_2.2.1.length ∧ g.val.2.2.1 = x_2.1) ∧ Tr 1 ((↑x.1.n : Int) = x_2.2.2.1) ∧ Tr 1 ((freeL x_1).getD (0 + Int.toNat 0) 0 =
 x_2.2.2.2) ∧ True) ∧ true = true ∧ ((3 : TypeId) = 3 ∧ (1 : Nat) = 1 ∧ g.val.2.2.1 = x_2.1 ∧ x_2.2.1.length ≤ (lM x.1).length ∧ ∀ (i : Nat), i < x_2.2.1.length
 → [AV.int .i64 ((lM x.1).getD i 0)] = [AV.int .i64 (x_2.2.1.getD i 0)]) ∧ True) ∧ (Ints x_2.2.1 ∧ x_2.2.1.length ≤ x_2.1 ∧ x_2.1 ≤ 9223372036854775807 ∧ I64
 x_2.2.2.1 ∧ I64 x_2.2.2.2 ∧ List.Pairwise (fun x1 x2 => x1 < x2) x_2.2.1) ∧ (x_2.2.2.2 < (0 : Int) ∨ x_2.2.2.1 ≤ x_2.2.2.2 ∨ x_2.2.2.2 ∈ x_2.2.1 → ∀ (y : Unit),
 True → ((0 : Int) ≤ (0 : Int) ∧ (0 : Int) < (↑(freeL x_1).length : Int)) ∧ 0 + Int.toNat 0 < (freeL x_1).length ∧ Exx Unit fun y => Exx (Subtype (RCap (takeS
 x.1 x.2) true false true)) fun g_1 => Tr 1 (((38 : TypeId) = 38 ∧ Tr 1 ((↑x.1.n : Int) = (↑(takeS x.1 x.2).n : Int)) ∧ Tr 1 (x.1.r = (takeS x.1 x.2).r) ∧ (true
 = true ∧ NilNil ∧ (0 : Nat) = 0 ∧ (1 : Nat) = 1 ∧ (0 : Nat) = 0 ∧ (lC x.1).length = (lC (takeS x.1 x.2)).length ∧ g.val.1 = g_1.val.1) ∧ (true = true ∧ NilNil ∧
 (0 : Nat) = 0 ∧ (1 : Nat) = 1 ∧ (0 : Nat) = 0 ∧ (lC x.1).length = (lC (takeS x.1 x.2)).length ∧ g.val.1 = g_1.val.1) ∧ (true = true ∧ NilNil ∧ (0 : Nat) = 0 ∧
 (1 : Nat) = 1 ∧ (0 : Nat) = 0 ∧ (lM x.1).length = (lM (takeS x.1 x.2)).length ∧ g.val.2.2.1 = g_1.val.2.2.1) ∧ (true = true ∧ NilNil ∧ (0 : Nat) = 0 ∧ (1 : Nat)
 = 1 ∧ (0 : Nat) = 0 ∧ x_2.2.1.length = (lM (takeS x.1 x.2)).length ∧ x_2.1 = g_1.val.2.2.1) ∧ True) ∧ ((3 : TypeId) = 3 ∧ (1 : Nat) = 1 ∧ g.val.1 = g_1.val.1 ∧
 (lC (takeS x.1 x.2)).length ≤ (lC x.1).length ∧ ∀ (i : Nat), i < (lC (takeS x.1 x.2)).length → [AV.int .i64 ((lC x.1).getD i 0)] = [AV.int .i64 ((lC (takeS x.1
 x.2)).getD i 0)]) ∧ ((3 : TypeId) = 3 ∧ (1 : Nat) = 1 ∧ x_2.1 = g_1.val.2.2.1 ∧ (lM (takeS x.1 x.2)).length ≤ x_2.2.1.length ∧ ∀ (i : Nat), i < (lM (takeS x.1
 x.2)).length → [AV.int .i64 (x_2.2.1.getD i 0)] = [AV.int .i64 ((lM (takeS x.1 x.2)).getD i 0)]) ∧ True) ∧ (((Tr 1 ((freeL x_1).getD (0 + Int.toNat 0) 0 =
 takeAt x.1 x.2) ∧ Tr 1 ((0 : Int) = takeErr x.1 x.2) ∧ True) ∧ True) ∧ refB (takeS x.1 x.2) = refB (takeS x.1 x.2) ∧ true = true ∧ True) ∧ True) ∧ (¬refAddI.p
 x_2 → ∀ (y : Nat), x_2.2.1.length + 1 ≤ y ∧ y ≤ 9223372036854775807 → ((0 : Int) ≤ (0 : Int) ∧ (0 : Int) < (↑(freeL x_1).length : Int)) ∧ 0 + Int.toNat 0 <
 (freeL x_1).length ∧ Exx Unit fun y_1 => Exx (Subtype (RCap (takeS x.1 x.2) true false false)) fun g_1 => Tr 1 (((38 : TypeId) = 38 ∧ Tr 1 ((↑x.1.n : Int) =
 (↑(takeS x.1 x.2).n : Int)) ∧ Tr 1 (x.1.r = (takeS x.1 x.2).r) ∧ (true = true ∧ NilNil ∧ (0 : Nat) = 0 ∧ (1 : Nat) = 1 ∧ (0 : Nat) = 0 ∧ (lC x.1).length = (lC
 (takeS x.1 x.2)).length ∧ g.val.1 = g_1.val.1) ∧ (true = true ∧ NilNil ∧ (0 : Nat) = 0 ∧ (1 : Nat) = 1 ∧ (0 : Nat) = 0 ∧ (lC x.1).length = (lC (takeS x.1
 x.2)).length ∧ g.val.1 = g_1.val.1) ∧ (true = true ∧ NilNil ∧ (0 : Nat) = 0 ∧ (1 : Nat) = 1 ∧ (0 : Nat) = 0 ∧ (lM x.1).length = (lM (takeS x.1 x.2)).length ∧
 g.val.2.2.1 = g_1.val.2.2.1) ∧ (true = true ∧ NilNil ∧ (0 : Nat) = 0 ∧ (1 : Nat) = 1 ∧ (0 : Nat) = 0 ∧ x_2.2.1.length + 1 = (lW (takeS x.1 x.2)).length ∧ y =
 g_1.val.2.2.2) ∧ True) ∧ ((3 : TypeId) = 3 ∧ (1 : Nat) = 1 ∧ g.val.1 = g_1.val.1 ∧ (lC (takeS x.1 x.2)).length ≤ (lC x.1).length ∧ ∀ (i : Nat), i < (lC (takeS
 x.1 x.2)).length → [AV.int .i64 ((lC x.1).getD i 0)] = [AV.int .i64 ((lC (takeS x.1 x.2)).getD i 0)]) ∧ ((3 : TypeId) = 3 ∧ (1 : Nat) = 1 ∧ x_2.1 =
 g_1.val.2.2.1 ∧ (lM (takeS x.1 x.2)).length ≤ x_2.2.1.length ∧ ∀ (i : Nat), i < (lM (takeS x.1 x.2)).length → [AV.int .i64 (x_2.2.1.getD i 0)] = [AV.int .i64
 ((lM (takeS x.1 x.2)).getD i 0)]) ∧ ((3 : TypeId) = 3 ∧ (1 : Nat) = 1 ∧ y = g_1.val.2.2.2 ∧ (lW (takeS x.1 x.2)).length ≤ x_2.2.1.length + 1 ∧ ∀ (i : Nat), i <
 (lW (takeS x.1 x.2)).length → [AV.int .i64 ((insI x_2.2.1 x_2.2.2.2).getD i 0)] = [AV.int .i64 ((lW (takeS x.1 x.2)).getD i 0)]) ∧ True) ∧ (((Tr 1 ((freeL
 x_1).getD (0 + Int.toNat 0) 0 = takeAt x.1 x.2) ∧ Tr 1 ((0 : Int) = takeErr x.1 x.2) ∧ True) ∧ True) ∧ refB (takeS x.1 x.2) = refB (takeS x.1 x.2) ∧ true = true
 ∧ True) ∧ True)) ∧ 0 + Int.toNat 0 < (freeL x_1).length ∧ (Exx (Nat × List Int × Int × Int) fun x_2 => (((true = true ∧ NilNil ∧ (0 : Nat) = 0 ∧ (1 : Nat) = 1 ∧
 (0 : Nat) = 0 ∧ (lM x.1).length = x_2.2.1.length ∧ g.val.2.2.1 = x_2.1) ∧ Tr 1 ((↑x.1.n : Int) = x_2.2.2.1) ∧ Tr 1 ((freeL x_1).getD (0 + Int.toNat 0) 0 =
 x_2.2.2.2) ∧ True) ∧ true = true ∧ ((3 : TypeId) = 3 ∧ (1 : Nat) = 1 ∧ g.val.2.2.1 = x_2.1 ∧ x_2.2.1.length ≤ (lM x.1).length ∧ ∀ (i : Nat), i < x_2.2.1.length
 → [AV.int .i64 ((lM x.1).getD i 0)] = [AV.int .i64 (x_2.2.1.getD i 0)]) ∧ True) ∧ (Ints x_2.2.1 ∧ x_2.2.1.length ≤ x_2.1 ∧ x_2.1 ≤ 9223372036854775807 ∧ I64
 x_2.2.2.1 ∧ I64 x_2.2.2.2 ∧ List.Pairwise (fun x1 x2 => x1 < x2) x_2.2.1) ∧ (x_2.2.2.2 < (0 : Int) ∨ x_2.2.2.1 ≤ x_2.2.2.2 ∨ x_2.2.2.2 ∈ x_2.2.1 → ∀ (y : Unit),
 True → ((0 : Int) ≤ (0 : Int) ∧ (0 : Int) < (↑(freeL x_1).length : Int)) ∧ 0 + Int.toNat 0 < (freeL x_1).length ∧ Exx Unit fun y => Exx (Subtype (RCap (takeS
 x.1 x.2) true false true)) fun g_1 => Tr 1 (((38 : TypeId) = 38 ∧ Tr 1 ((↑x.1.n : Int) = (↑(takeS x.1 x.2).n : Int)) ∧ Tr 1 (x.1.r = (takeS x.1 x.2).r) ∧ (true
 = true ∧ NilNil ∧ (0 : Nat) = 0 ∧ (1 : Nat) = 1 ∧ (0 : Nat) = 0 ∧ (lC x.1).length = (lC (takeS x.1 x.2)).length ∧ g.val.1 = g_1.val.1) ∧ (true = true ∧ NilNil ∧
 (0 : Nat) = 0 ∧ (1 : Nat) = 1 ∧ (0 : Nat) = 0 ∧ (lC x.1).length = (lC (takeS x.1 x.2)).length ∧ g.val.1 = g_1.val.1) ∧ (true = true ∧ NilNil ∧ (0 : Nat) = 0 ∧
 (1 : Nat) = 1 ∧ (0 : Nat) = 0 ∧ (lM x.1).length = (lM (takeS x.1 x.2)).length ∧ g.val.2.2.1 = g_1.val.2.2.1) ∧ (true = true ∧ NilNil ∧ (0 : Nat) = 0 ∧ (1 : Nat)
 = 1 ∧ (0 : Nat) = 0 ∧ x_2.2.1.length = (lM (takeS x.1 x.2)).length ∧ x_2.1 = g_1.val.2.2.1) ∧ True) ∧ ((3 : TypeId) = 3 ∧ (1 : Nat) = 1 ∧ g.val.1 = g_1.val.1 ∧
 (lC (takeS x.1 x.2)).length ≤ (lC x.1).length ∧ ∀ (i : Nat), i < (lC (takeS x.1 x.2)).length → [AV.int .i64 ((lC x.1).getD i 0)] = [AV.int .i64 ((lC (takeS x.1
 x.2)).getD i 0)]) ∧ ((3 : TypeId) = 3 ∧ (1 : Nat) = 1 ∧ x_2.1 = g_1.val.2.2.1 ∧ (lM (takeS x.1 x.2)).length ≤ x_2.2.1.length ∧ ∀ (i : Nat), i < (lM (takeS x.1
 x.2)).length → [AV.int .i64 (x_2.2.1.getD i 0)] = [AV.int .i64 ((lM (takeS x.1 x.2)).getD i 0)]) ∧ True) ∧ (((Tr 1 ((freeL x_1).getD (0 + Int.toNat 0) 0 =
 takeAt x.1 x.2) ∧ Tr 1 ((0 : Int) = takeErr x.1 x.2) ∧ True) ∧ True) ∧ refB (takeS x.1 x.2) = refB (takeS x.1 x.2) ∧ true = true ∧ True) ∧ True) ∧ (¬refAddI.p
 x_2 → ∀ (y : Nat), x_2.2.1.length + 1 ≤ y ∧ y ≤ 9223372036854775807 → ((0 : Int) ≤ (0 : Int) ∧ (0 : Int) < (↑(freeL x_1).length : Int)) ∧ 0 + Int.toNat 0 <
 (freeL x_1).length ∧ Exx Unit fun y_1 => Exx (Subtype (RCap (takeS x.1 x.2) true false false)) fun g_1 => Tr 1 (((38 : TypeId) = 38 ∧ Tr 1 ((↑x.1.n : Int) =
 (↑(takeS x.1 x.2).n : Int)) ∧ Tr 1 (x.1.r = (takeS x.1 x.2).r) ∧ (true = true ∧ NilNil ∧ (0 : Nat) = 0 ∧ (1 : Nat) = 1 ∧ (0 : Nat) = 0 ∧ (lC x.1).length = (lC
 (takeS x.1 x.2)).length ∧ g.val.1 = g_1.val.1) ∧ (true = true ∧ NilNil ∧ (0 : Nat) = 0 ∧ (1 : Nat) = 1 ∧ (0 : Nat) = 0 ∧ (lC x.1).length = (lC (takeS x.1
 x.2)).length ∧ g.val.1 = g_1.val.1) ∧ (true = true ∧ NilNil ∧ (0 : Nat) = 0 ∧ (1 : Nat) = 1 ∧ (0 : Nat) = 0 ∧ (lM x.1).length = (lM (takeS x.1 x.2)).length ∧
 g.val.2.2.1 = g_1.val.2.2.1) ∧ (true = true ∧ NilNil ∧ (0 : Nat) = 0 ∧ (1 : Nat) = 1 ∧ (0 : Nat) = 0 ∧ x_2.2.1.length + 1 = (lW (takeS x.1 x.2)).length ∧ y =
 g_1.val.2.2.2) ∧ True) ∧ ((3 : TypeId) = 3 ∧ (1 : Nat) = 1 ∧ g.val.1 = g_1.val.1 ∧ (lC (takeS x.1 x.2)).length ≤ (lC x.1).length ∧ ∀ (i : Nat), i < (lC (takeS
 x.1 x.2)).length → [AV.int .i64 ((lC x.1).getD i 0)] = [AV.int .i64 ((lC (takeS x.1 x.2)).getD i 0)]) ∧ ((3 : TypeId) = 3 ∧ (1 : Nat) = 1 ∧ x_2.1 =
 g_1.val.2.2.1 ∧ (lM (takeS x.1 x.2)).length ≤ x_2.2.1.length ∧ ∀ (i : Nat), i < (lM (takeS x.1 x.2)).length → [AV.int .i64 (x_2.2.1.getD i 0)] = [AV.int .i64
 ((lM (takeS x.1 x.2)).getD i 0)]) ∧ ((3 : TypeId) = 3 ∧ (1 : Nat) = 1 ∧ y = g_1.val.2.2.2 ∧ (lW (takeS x.1 x.2)).length ≤ x_2.2.1.length + 1 ∧ ∀ (i : Nat), i <
 (lW (takeS x.1 x.2)).length → [AV.int .i64 ((insI x_2.2.1 x_2.2.2.2).getD i 0)] = [AV.int .i64 ((lW (takeS x.1 x.2)).getD i 0)]) ∧ True) ∧ (((Tr 1 ((freeL
 x_1).getD (0 + Int.toNat 0) 0 = takeAt x.1 x.2) ∧ Tr 1 ((0 : Int) = takeErr x.1 x.2) ∧ True) ∧ True) ∧ refB (takeS x.1 x.2) = refB (takeS x.1 x.2) ∧ true = true
 ∧ True) ∧ True)) ∧ Exx (Nat × List Int × Int × Int) fun x_2 => (((true = true ∧ NilNil ∧ (0 : Nat) = 0 ∧ (1 : Nat) = 1 ∧ (0 : Nat) = 0 ∧ (lM x.1).length =
 x_2.2.1.length ∧ g.val.2.2.1 = x_2.1) ∧ Tr 1 ((↑x.1.n : Int) = x_2.2.2.1) ∧ Tr 1 ((freeL x_1).getD (0 + Int.toNat 0) 0 = x_2.2.2.2) ∧ True) ∧ true = true ∧ ((3
 : TypeId) = 3 ∧ (1 : Nat) = 1 ∧ g.val.2.2.1 = x_2.1 ∧ x_2.2.1.length ≤ (lM x.1).length ∧ ∀ (i : Nat), i < x_2.2.1.length → [AV.int .i64 ((lM x.1).getD i 0)] =
 [AV.int .i64 (x_2.2.1.getD i 0)]) ∧ True) ∧ (Ints x_2.2.1 ∧ x_2.2.1.length ≤ x_2.1 ∧ x_2.1 ≤ 9223372036854775807 ∧ I64 x_2.2.2.1 ∧ I64 x_2.2.2.2 ∧ List.Pairwise
 (fun x1 x2 => x1 < x2) x_2.2.1) ∧ (x_2.2.2.2 < (0 : Int) ∨ x_2.2.2.1 ≤ x_2.2.2.2 ∨ x_2.2.2.2 ∈ x_2.2.1 → ∀ (y : Unit), True → ((0 : Int) ≤ (0 : Int) ∧ (0 : Int)
 < (↑(freeL x_1).length : Int)) ∧ 0 + Int.toNat 0 < (freeL x_1).length ∧ Exx Unit fun y => Exx (Subtype (RCap (takeS x.1 x.2) true false true)) fun g_1 => Tr 1
 (((38 : TypeId) = 38 ∧ Tr 1 ((↑x.1.n : Int) = (↑(takeS x.1 x.2).n : Int)) ∧ Tr 1 (x.1.r = (takeS x.1 x.2).r) ∧ (true = true ∧ NilNil ∧ (0 : Nat) = 0 ∧ (1 : Nat)
 = 1 ∧ (0 : Nat) = 0 ∧ (lC x.1).length = (lC (takeS x.1 x.2)).length ∧ g.val.1 = g_1.val.1) ∧ (true = true ∧ NilNil ∧ (0 : Nat) = 0 ∧ (1 : Nat) = 1 ∧ (0 : Nat) =
 0 ∧ (lC x.1).length = (lC (takeS x.1 x.2)).length ∧ g.val.1 = g_1.val.1) ∧ (true = true ∧ NilNil ∧ (0 : Nat) = 0 ∧ (1 : Nat) = 1 ∧ (0 : Nat) = 0 ∧ (lM
 x.1).length = (lM (takeS x.1 x.2)).length ∧ g.val.2.2.1 = g_1.val.2.2.1) ∧ (true = true ∧ NilNil ∧ (0 : Nat) = 0 ∧ (1 : Nat) = 1 ∧ (0 : Nat) = 0 ∧
 x_2.2.1.length = (lM (takeS x.1 x.2)).length ∧ x_2.1 = g_1.val.2.2.1) ∧ True) ∧ ((3 : TypeId) = 3 ∧ (1 : Nat) = 1 ∧ g.val.1 = g_1.val.1 ∧ (lC (takeS x.1
 x.2)).length ≤ (lC x.1).length ∧ ∀ (i : Nat), i < (lC (takeS x.1 x.2)).length → [AV.int .i64 ((lC x.1).getD i 0)] = [AV.int .i64 ((lC (takeS x.1 x.2)).getD i
 0)]) ∧ ((3 : TypeId) = 3 ∧ (1 : Nat) = 1 ∧ x_2.1 = g_1.val.2.2.1 ∧ (lM (takeS x.1 x.2)).length ≤ x_2.2.1.length ∧ ∀ (i : Nat), i < (lM (takeS x.1 x.2)).length →
 [AV.int .i64 (x_2.2.1.getD i 0)] = [AV.int .i64 ((lM (takeS x.1 x.2)).getD i 0)]) ∧ True) ∧ (((Tr 1 ((freeL x_1).getD (0 + Int.toNat 0) 0 = takeAt x.1 x.2) ∧ Tr
 1 ((0 : Int) = takeErr x.1 x.2) ∧ True) ∧ True) ∧ refB (takeS x.1 x.2) = refB (takeS x.1 x.2) ∧ true = true ∧ True) ∧ True) ∧ (¬refAddI.p x_2 → ∀ (y : Nat),
 x_2.2.1.length + 1 ≤ y ∧ y ≤ 9223372036854775807 → ((0 : Int) ≤ (0 : Int) ∧ (0 : Int) < (↑(freeL x_1).length : Int)) ∧ 0 + Int.toNat 0 < (freeL x_1).length ∧
 Exx Unit fun y_1 => Exx (Subtype (RCap (takeS x.1 x.2) true false false)) fun g_1 => Tr 1 (((38 : TypeId) = 38 ∧ Tr 1 ((↑x.1.n : Int) = (↑(takeS x.1 x.2).n :
 Int)) ∧ Tr 1 (x.1.r = (takeS x.1 x.2).r) ∧ (true = true ∧ NilNil ∧ (0 : Nat) = 0 ∧ (1 : Nat) = 1 ∧ (0 : Nat) = 0 ∧ (lC x.1).length = (lC (takeS x.1 x.2)).length
 ∧ g.val.1 = g_1.val.1) ∧ (true = true ∧ NilNil ∧ (0 : Nat) = 0 ∧ (1 : Nat) = 1 ∧ (0 : Nat) = 0 ∧ (lC x.1).length = (lC (takeS x.1 x.2)).length ∧ g.val.1 =
 g_1.val.1) ∧ (true = true ∧ NilNil ∧ (0 : Nat) = 0 ∧ (1 : Nat) = 1 ∧ (0 : Nat) = 0 ∧ (lM x.1).length = (lM (takeS x.1 x.2)).length ∧ g.val.2.2.1 =
 g_1.val.2.2.1) ∧ (true = true ∧ NilNil ∧ (0 : Nat) = 0 ∧ (1 : Nat) = 1 ∧ (0 : Nat) = 0 ∧ x_2.2.1.length + 1 = (lW (takeS x.1 x.2)).length ∧ y = g_1.val.2.2.2) ∧
 True) ∧ ((3 : TypeId) = 3 ∧ (1 : Nat) = 1 ∧ g.val.1 = g_1.val.1 ∧ (lC (takeS x.1 x.2)).length ≤ (lC x.1).length ∧ ∀ (i : Nat), i < (lC (takeS x.1 x.2)).length →
 [AV.int .i64 ((lC x.1).getD i 0)] = [AV.int .i64 ((lC (takeS x.1 x.2)).getD i 0)]) ∧ ((3 : TypeId) = 3 ∧ (1 : Nat) = 1 ∧ x_2.1 = g_1.val.2.2.1 ∧ (lM (takeS x.1
 x.2)).length ≤ x_2.2.1.length ∧ ∀ (i : Nat), i < (lM (takeS x.1 x.2)).length → [AV.int .i64 (x_2.2.1.getD i 0)] = [AV.int .i64 ((lM (takeS x.1 x.2)).getD i 0)])
 ∧ ((3 : TypeId) = 3 ∧ (1 : Nat) = 1 ∧ y = g_1.val.2.2.2 ∧ (lW (takeS x.1 x.2)).length ≤ x_2.2.1.length + 1 ∧ ∀ (i : Nat), i < (lW (takeS x.1 x.2)).length →
 [AV.int .i64 ((insI x_2.2.1 x_2.2.2.2).getD i 0)] = [AV.int .i64 ((lW (takeS x.1 x.2)).getD i 0)]) ∧ True) ∧ (((Tr 1 ((freeL x_1).getD (0 + Int.toNat 0) 0 =
 takeAt x.1 x.2) ∧ Tr 1 ((0 : Int) = takeErr x.1 x.2) ∧ True) ∧ True) ∧ refB (takeS x.1 x.2) = refB (takeS x.1 x.2) ∧ true = true ∧ True) ∧ True)) ∧ (∀ (g :
 Subtype (RCap x.1 true false false)), ((0 : Int) ≤ (0 : Int) ∧ (0 : Int) < (↑(freeL x_1).length : Int)) ∧ ((0 + Int.toNat 0 < (freeL x_1).length ∧ Exx (Nat ×
 List Int × Int × Int) fun x_2 => (((true = true ∧ NilNil ∧ (0 : Nat) = 0 ∧ (1 : Nat) = 1 ∧ (0 : Nat) = 0 ∧ (lW x.1).length = x_2.2.1.length ∧ g.val.2.2.2 =
 x_2.1) ∧ Tr 1 ((↑x.1.n : Int) = x_2.2.2.1) ∧ Tr 1 ((freeL x_1).getD (0 + Int.toNat 0) 0 = x_2.2.2.2) ∧ True) ∧ true = true ∧ ((3 : TypeId) = 3 ∧ (1 : Nat) = 1 ∧
 g.val.2.2.2 = x_2.1 ∧ x_2.2.1.length ≤ (lW x.1).length ∧ ∀ (i : Nat), i < x_2.2.1.length → [AV.int .i64 ((lW x.1).getD i 0)] = [AV.int .i64 (x_2.2.1.getD i 0)])
 ∧ True) ∧ (Ints x_2.2.1 ∧ x_2.2.1.length ≤ x_2.1 ∧ x_2.1 ≤ 9223372036854775807 ∧ I64 x_2.2.2.1 ∧ I64 x_2.2.2.2 ∧ List.Pairwise (fun x1 x2 => x1 < x2) x_2.2.1) ∧
 (x_2.2.2.2 < (0 : Int) ∨ x_2.2.2.1 ≤ x_2.2.2.2 ∨ x_2.2.2.2 ∈ x_2.2.1 → ∀ (y : Unit), True → ((0 : Int) ≤ (0 : Int) ∧ (0 : Int) < (↑(freeL x_1).length : Int)) ∧
 0 + Int.toNat 0 < (freeL x_1).length ∧ Exx Unit fun y => Exx (Subtype (RCap (takeS x.1 x.2) true false false)) fun g_1 => Tr 1 (((38 : TypeId) = 38 ∧ Tr 1
 ((↑x.1.n : Int) = (↑(takeS x.1 x.2).n : Int)) ∧ Tr 1 (x.1.r = (takeS x.1 x.2).r) ∧ (true = true ∧ NilNil ∧ (0 : Nat) = 0 ∧ (1 : Nat) = 1 ∧ (0 : Nat) = 0 ∧ (lC
 x.1).length = (lC (takeS x.1 x.2)).length ∧ g.val.1 = g_1.val.1) ∧ (true = true ∧ NilNil ∧ (0 : Nat) = 0 ∧ (1 : Nat) = 1 ∧ (0 : Nat) = 0 ∧ (lC x.1).length = (lC
 (takeS x.1 x.2)).length ∧ g.val.1 = g_1.val.1) ∧ (true = true ∧ NilNil ∧ (0 : Nat) = 0 ∧ (1 : Nat) = 1 ∧ (0 : Nat) = 0 ∧ (lM x.1).length = (lM (takeS x.1
 x.2)).length ∧ g.val.2.2.1 = g_1.val.2.2.1) ∧ (true = true ∧ NilNil ∧ (0 : Nat) = 0 ∧ (1 : Nat) = 1 ∧ (0 : Nat) = 0 ∧ x_2.2.1.length = (lW (takeS x.1
 x.2)).length ∧ x_2.1 = g_1.val.2.2.2) ∧ True) ∧ ((3 : TypeId) = 3 ∧ (1 : Nat) = 1 ∧ g.val.1 = g_1.val.1 ∧ (lC (takeS x.1 x.2)).length ≤ (lC x.1).length ∧ ∀ (i :
 Nat), i < (lC (takeS x.1 x.2)).length → [AV.int .i64 ((lC x.1).getD i 0)] = [AV.int .i64 ((lC (takeS x.1 x.2)).getD i 0)]) ∧ ((3 : TypeId) = 3 ∧ (1 : Nat) = 1 ∧
 g.val.2.2.1 = g_1.val.2.2.1 ∧ (lM (takeS x.1 x.2)).length ≤ (lM x.1).length ∧ ∀ (i : Nat), i < (lM (takeS x.1 x.2)).length → [AV.int .i64 ((lM x.1).getD i 0)] =
 [AV.int .i64 ((lM (takeS x.1 x.2)).getD i 0)]) ∧ ((3 : TypeId) = 3 ∧ (1 : Nat) = 1 ∧ x_2.1 = g_1.val.2.2.2 ∧ (lW (takeS x.1 x.2)).length ≤ x_2.2.1.length ∧ ∀ (i
 : Nat), i < (lW (takeS x.1 x.2)).length → [AV.int .i64 (x_2.2.1.getD i 0)] = [AV.int .i64 ((lW (takeS x.1 x.2)).getD i 0)]) ∧ True) ∧ (((Tr 1 ((freeL x_1).getD
 (0 + Int.toNat 0) 0 = takeAt x.1 x.2) ∧ Tr 1 ((0 : Int) = takeErr x.1 x.2) ∧ True) ∧ True) ∧ refB (takeS x.1 x.2) = refB (takeS x.1 x.2) ∧ true = true ∧ True) ∧
 True) ∧ (¬refAddI.p x_2 → ∀ (y : Nat), x_2.2.1.length + 1 ≤ y ∧ y ≤ 9223372036854775807 → ((0 : Int) ≤ (0 : Int) ∧ (0 : Int) < (↑(freeL x_1).length : Int)) ∧ 0
 + Int.toNat 0 < (freeL x_1).length ∧ Exx Unit fun y_1 => Exx (Subtype (RCap (takeS x.1 x.2) true false false)) fun g_1 => Tr 1 (((38 : TypeId) = 38 ∧ Tr 1
 ((↑x.1.n : Int) = (↑(takeS x.1 x.2).n : Int)) ∧ Tr 1 (x.1.r = (takeS x.1 x.2).r) ∧ (true = true ∧ NilNil ∧ (0 : Nat) = 0 ∧ (1 : Nat) = 1 ∧ (0 : Nat) = 0 ∧ (lC
 x.1).length = (lC (takeS x.1 x.2)).length ∧ g.val.1 = g_1.val.1) ∧ (true = true ∧ NilNil ∧ (0 : Nat) = 0 ∧ (1 : Nat) = 1 ∧ (0 : Nat) = 0 ∧ (lC x.1).length = (lC
 (takeS x.1 x.2)).length ∧ g.val.1 = g_1.val.1) ∧ (true = true ∧ NilNil ∧ (0 : Nat) = 0 ∧ (1 : Nat) = 1 ∧ (0 : Nat) = 0 ∧ (lM x.1).length = (lM (takeS x.1
 x.2)).length ∧ g.val.2.2.1 = g_1.val.2.2.1) ∧ (true = true ∧ NilNil ∧ (0 : Nat) = 0 ∧ (1 : Nat) = 1 ∧ (0 : Nat) = 0 ∧ x_2.2.1.length + 1 = (lW (takeS x.1
 x.2)).length ∧ y = g_1.val.2.2.2) ∧ True) ∧ ((3 : TypeId) = 3 ∧ (1 : Nat) = 1 ∧ g.val.1 = g_1.val.1 ∧ (lC (takeS x.1 x.2)).length ≤ (lC x.1).length ∧ ∀ (i :
 Nat), i < (lC (takeS x.1 x.2)).length → [AV.int .i64 ((lC x.1).getD i 0)] = [AV.int .i64 ((lC (takeS x.1 x.2)).getD i 0)]) ∧ ((3 : TypeId) = 3 ∧ (1 : Nat) = 1 ∧
 g.val.2.2.1 = g_1.val.2.2.1 ∧ (lM (takeS x.1 x.2)).length ≤ (lM x.1).length ∧ ∀ (i : Nat), i < (lM (takeS x.1 x.2)).length → [AV.int .i64 ((lM x.1).getD i 0)] =
 [AV.int .i64 ((lM (takeS x.1 x.2)).getD i 0)]) ∧ ((3 : TypeId) = 3 ∧ (1 : Nat) = 1 ∧ y = g_1.val.2.2.2 ∧ (lW (takeS x.1 x.2)).length ≤ x_2.2.1.length + 1 ∧ ∀ (i
 : Nat), i < (lW (takeS x.1 x.2)).length → [AV.int .i64 ((insI x_2.2.1 x_2.2.2.2).getD i 0)] = [AV.int .i64 ((lW (takeS x.1 x.2)).getD i 0)]) ∧ True) ∧ (((Tr 1
 ((freeL x_1).getD (0 + Int.toNat 0) 0 = takeAt x.1 x.2) ∧ Tr 1 ((0 : Int) = takeErr x.1 x.2) ∧ True) ∧ True) ∧ refB (takeS x.1 x.2) = refB (takeS x.1 x.2) ∧
 true = true ∧ True) ∧ True)) ∧ 0 + Int.toNat 0 < (freeL x_1).length ∧ Exx (Nat × List Int × Int × Int) fun x_2 => (((true = true ∧ NilNil ∧ (0 : Nat) = 0 ∧ (1 :
 Nat) = 1 ∧ (0 : Nat) = 0 ∧ (lW x.1).length = x_2.2.1.length ∧ g.val.2.2.2 = x_2.1) ∧ Tr 1 ((↑x.1.n : Int) = x_2.2.2.1) ∧ Tr 1 ((freeL x_1).getD (0 + Int.toNat
 0) 0 = x_2.2.2.2) ∧ True) ∧ true = true ∧ ((3 : TypeId) = 3 ∧ (1 : Nat) = 1 ∧ g.val.2.2.2 = x_2.1 ∧ x_2.2.1.length ≤ (lW x.1).length ∧ ∀ (i : Nat), i <
 x_2.2.1.length → [AV.int .i64 ((lW x.1).getD i 0)] = [AV.int .i64 (x_2.2.1.getD i 0)]) ∧ True) ∧ (Ints x_2.2.1 ∧ x_2.2.1.length ≤ x_2.1 ∧ x_2.1 ≤
 9223372036854775807 ∧ I64 x_2.2.2.1 ∧ I64 x_2.2.2.2 ∧ List.Pairwise (fun x1 x2 => x1 < x2) x_2.2.1) ∧ (x_2.2.2.2 < (0 : Int) ∨ x_2.2.2.1 ≤ x_2.2.2.2 ∨ x_2.2.2.2
 ∈ x_2.2.1 → ∀ (y : Unit), True → ((0 : Int) ≤ (0 : Int) ∧ (0 : Int) < (↑(freeL x_1).length : Int)) ∧ 0 + Int.toNat 0 < (freeL x_1).length ∧ Exx Unit fun y =>
 Exx (Subtype (RCap (takeS x.1 x.2) true false false)) fun g_1 => Tr 1 (((38 : TypeId) = 38 ∧ Tr 1 ((↑x.1.n : Int) = (↑(takeS x.1 x.2).n : Int)) ∧ Tr 1 (x.1.r =
 (takeS x.1 x.2).r) ∧ (true = true ∧ NilNil ∧ (0 : Nat) = 0 ∧ (1 : Nat) = 1 ∧ (0 : Nat) = 0 ∧ (lC x.1).length = (lC (takeS x.1 x.2)).length ∧ g.val.1 =
 g_1.val.1) ∧ (true = true ∧ NilNil ∧ (0 : Nat) = 0 ∧ (1 : Nat) = 1 ∧ (0 : Nat) = 0 ∧ (lC x.1).length = (lC (takeS x.1 x.2)).length ∧ g.val.1 = g_1.val.1) ∧
 (true = true ∧ NilNil ∧ (0 : Nat) = 0 ∧ (1 : Nat) = 1 ∧ (0 : Nat) = 0 ∧ (lM x.1).length = (lM (takeS x.1 x.2)).length ∧ g.val.2.2.1 = g_1.val.2.2.1) ∧ (true =
 true ∧ NilNil ∧ (0 : Nat) = 0 ∧ (1 : Nat) = 1 ∧ (0 : Nat) = 0 ∧ x_2.2.1.length = (lW (takeS x.1 x.2)).length ∧ x_2.1 = g_1.val.2.2.2) ∧ True) ∧ ((3 : TypeId) =
 3 ∧ (1 : Nat) = 1 ∧ g.val.1 = g_1.val.1 ∧ (lC (takeS x.1 x.2)).length ≤ (lC x.1).length ∧ ∀ (i : Nat), i < (lC (takeS x.1 x.2)).length → [AV.int .i64 ((lC
 x.1).getD i 0)] = [AV.int .i64 ((lC (takeS x.1 x.2)).getD i 0)]) ∧ ((3 : TypeId) = 3 ∧ (1 : Nat) = 1 ∧ g.val.2.2.1 = g_1.val.2.2.1 ∧ (lM (takeS x.1 x.2)).length
 ≤ (lM x.1).length ∧ ∀ (i : Nat), i < (lM (takeS x.1 x.2)).length → [AV.int .i64 ((lM x.1).getD i 0)] = [AV.int .i64 ((lM (takeS x.1 x.2)).getD i 0)]) ∧ ((3 :
 TypeId) = 3 ∧ (1 : Nat) = 1 ∧ x_2.1 = g_1.val.2.2.2 ∧ (lW (takeS x.1 x.2)).length ≤ x_2.2.1.length ∧ ∀ (i : Nat), i < (lW (takeS x.1 x.2)).length → [AV.int .i64
 (x_2.2.1.getD i 0)] = [AV.int .i64 ((lW (takeS x.1 x.2)).getD i 0)]) ∧ True) ∧ (((Tr 1 ((freeL x_1).getD (0 + Int.toNat 0) 0 = takeAt x.1 x.2) ∧ Tr 1 ((0 : Int)
 = takeErr x.1 x.2) ∧ True) ∧ True) ∧ refB (takeS x.1 x.2) = refB (takeS x.1 x.2) ∧ true = true ∧ True) ∧ True) ∧ (¬refAddI.p x_2 → ∀ (y : Nat), x_2.2.1.length +
 1 ≤ y ∧ y ≤ 9223372036854775807 → ((0 : Int) ≤ (0 : Int) ∧ (0 : Int) < (↑(freeL x_1).length : Int)) ∧ 0 + Int.toNat 0 < (freeL x_1).length ∧ Exx Unit fun y_1 =>
 Exx (Subtype (RCap (takeS x.1 x.2) true false false)) fun g_1 => Tr 1 (((38 : TypeId) = 38 ∧ Tr 1 ((↑x.1.n : Int) = (↑(takeS x.1 x.2).n : Int)) ∧ Tr 1 (x.1.r =
 (takeS x.1 x.2).r) ∧ (true = true ∧ NilNil ∧ (0 : Nat) = 0 ∧ (1 : Nat) = 1 ∧ (0 : Nat) = 0 ∧ (lC x.1).length = (lC (takeS x.1 x.2)).length ∧ g.val.1 =
 g_1.val.1) ∧ (true = true ∧ NilNil ∧ (0 : Nat) = 0 ∧ (1 : Nat) = 1 ∧ (0 : Nat) = 0 ∧ (lC x.1).length = (lC (takeS x.1 x.2)).length ∧ g.val.1 = g_1.val.1) ∧
 (true = true ∧ NilNil ∧ (0 : Nat) = 0 ∧ (1 : Nat) = 1 ∧ (0 : Nat) = 0 ∧ (lM x.1).length = (lM (takeS x.1 x.2)).length ∧ g.val.2.2.1 = g_1.val.2.2.1) ∧ (true =
 true ∧ NilNil ∧ (0 : Nat) = 0 ∧ (1 : Nat) = 1 ∧ (0 : Nat) = 0 ∧ x_2.2.1.length + 1 = (lW (takeS x.1 x.2)).length ∧ y = g_1.val.2.2.2) ∧ True) ∧ ((3 : TypeId) =
 3 ∧ (1 : Nat) = 1 ∧ g.val.1 = g_1.val.1 ∧ (lC (takeS x.1 x.2)).length ≤ (lC x.1).length ∧ ∀ (i : Nat), i < (lC (takeS x.1 x.2)).length → [AV.int .i64 ((lC
 x.1).getD i 0)] = [AV.int .i64 ((lC (takeS x.1 x.2)).getD i 0)]) ∧ ((3 : TypeId) = 3 ∧ (1 : Nat) = 1 ∧ g.val.2.2.1 = g_1.val.2.2.1 ∧ (lM (takeS x.1 x.2)).length
 ≤ (lM x.1).length ∧ ∀ (i : Nat), i < (lM (takeS x.1 x.2)).length → [AV.int .i64 ((lM x.1).getD i 0)] = [AV.int .i64 ((lM (takeS x.1 x.2)).getD i 0)]) ∧ ((3 :
 TypeId) = 3 ∧ (1 : Nat) = 1 ∧ y = g_1.val.2.2.2 ∧ (lW (takeS x.1 x.2)).length ≤ x_2.2.1.length + 1 ∧ ∀ (i : Nat), i < (lW (takeS x.1 x.2)).length → [AV.int .i64
 ((insI x_2.2.1 x_2.2.2.2).getD i 0)] = [AV.int .i64 ((lW (takeS x.1 x.2)).getD i 0)]) ∧ True) ∧ (((Tr 1 ((freeL x_1).getD (0 + Int.toNat 0) 0 = takeAt x.1 x.2)
 ∧ Tr 1 ((0 : Int) = takeErr x.1 x.2) ∧ True) ∧ True) ∧ refB (takeS x.1 x.2) = refB (takeS x.1 x.2) ∧ true = true ∧ True) ∧ True)) ∧ ((0 + Int.toNat 0 < (freeL
 x_1).length ∧ Exx (Nat × List Int × Int × Int) fun x_2 => (((true = true ∧ NilNil ∧ (0 : Nat) = 0 ∧ (1 : Nat) = 1 ∧ (0 : Nat) = 0 ∧ (lW x.1).length =
 x_2.2.1.length ∧ g.val.2.2.2 = x_2.1) ∧ Tr 1 ((↑x.1.n : Int) = x_2.2.2.1) ∧ Tr 1 ((freeL x_1).getD (0 + Int.toNat 0) 0 = x_2.2.2.2) ∧ True) ∧ true = true ∧ ((3
 : TypeId) = 3 ∧ (1 : Nat) = 1 ∧ g.val.2.2.2 = x_2.1 ∧ x_2.2.1.length ≤ (lW x.1).length ∧ ∀ (i : Nat), i < x_2.2.1.length → [AV.int .i64 ((lW x.1).getD i 0)] =
 [AV.int .i64 (x_2.2.1.getD i 0)]) ∧ True) ∧ (Ints x_2.2.1 ∧ x_2.2.1.length ≤ x_2.1 ∧ x_2.1 ≤ 9223372036854775807 ∧ I64 x_2.2.2.1 ∧ I64 x_2.2.2.2 ∧ List.Pairwise
 (fun x1 x2 => x1 < x2) x_2.2.1) ∧ (x_2.2.2.2 < (0 : Int) ∨ x_2.2.2.1 ≤ x_2.2.2.2 ∨ x_2.2.2.2 ∈ x_2.2.1 → ∀ (y : Unit), True → ((0 : Int) ≤ (0 : Int) ∧ (0 : Int)
 < (↑(freeL x_1).length : Int)) ∧ 0 + Int.toNat 0 < (freeL x_1).length ∧ Exx Unit fun y => Exx (Subtype (RCap (takeS x.1 x.2) true false false)) fun g_1 => Tr 1
 (((38 : TypeId) = 38 ∧ Tr 1 ((↑x.1.n : Int) = (↑(takeS x.1 x.2).n : Int)) ∧ Tr 1 (x.1.r = (takeS x.1 x.2).r) ∧ (true = true ∧ NilNil ∧ (0 : Nat) = 0 ∧ (1 : Nat)
 = 1 ∧ (0 : Nat) = 0 ∧ (lC x.1).length = (lC (takeS x.1 x.2)).length ∧ g.val.1 = g_1.val.1) ∧ (true = true ∧ NilNil ∧ (0 : Nat) = 0 ∧ (1 : Nat) = 1 ∧ (0 : Nat) =
 0 ∧ (lC x.1).length = (lC (takeS x.1 x.2)).length ∧ g.val.1 = g_1.val.1) ∧ (true = true ∧ NilNil ∧ (0 : Nat) = 0 ∧ (1 : Nat) = 1 ∧ (0 : Nat) = 0 ∧ (lM
 x.1).length = (lM (takeS x.1 x.2)).length ∧ g.val.2.2.1 = g_1.val.2.2.1) ∧ (true = true ∧ NilNil ∧ (0 : Nat) = 0 ∧ (1 : Nat) = 1 ∧ (0 : Nat) = 0 ∧
 x_2.2.1.length = (lW (takeS x.1 x.2)).length ∧ x_2.1 = g_1.val.2.2.2) ∧ True) ∧ ((3 : TypeId) = 3 ∧ (1 : Nat) = 1 ∧ g.val.1 = g_1.val.1 ∧ (lC (takeS x.1
 x.2)).length ≤ (lC x.1).length ∧ ∀ (i : Nat), i < (lC (takeS x.1 x.2)).length → [AV.int .i64 ((lC x.1).getD i 0)] = [AV.int .i64 ((lC (takeS x.1 x.2)).getD i
 0)]) ∧ ((3 : TypeId) = 3 ∧ (1 : Nat) = 1 ∧ g.val.2.2.1 = g_1.val.2.2.1 ∧ (lM (takeS x.1 x.2)).length ≤ (lM x.1).length ∧ ∀ (i : Nat), i < (lM (takeS x.1
 x.2)).length → [AV.int .i64 ((lM x.1).getD i 0)] = [AV.int .i64 ((lM (takeS x.1 x.2)).getD i 0)]) ∧ ((3 : TypeId) = 3 ∧ (1 : Nat) = 1 ∧ x_2.1 = g_1.val.2.2.2 ∧
 (lW (takeS x.1 x.2)).length ≤ x_2.2.1.length ∧ ∀ (i : Nat), i < (lW (takeS x.1 x.2)).length → [AV.int .i64 (x_2.2.1.getD i 0)] = [AV.int .i64 ((lW (takeS x.1
 x.2)).getD i 0)]) ∧ True) ∧ (((Tr 1 ((freeL x_1).getD (0 + Int.toNat 0) 0 = takeAt x.1 x.2) ∧ Tr 1 ((0 : Int) = takeErr x.1 x.2) ∧ True) ∧ True) ∧ refB (takeS
 x.1 x.2) = refB (takeS x.1 x.2) ∧ true = true ∧ True) ∧ True) ∧ (¬refAddI.p x_2 → ∀ (y : Nat), x_2.2.1.length + 1 ≤ y ∧ y ≤ 9223372036854775807 → ((0 : Int) ≤
 (0 : Int) ∧ (0 : Int) < (↑(freeL x_1).length : Int)) ∧ 0 + Int.toNat 0 < (freeL x_1).length ∧ Exx Unit fun y_1 => Exx (Subtype (RCap (takeS x.1 x.2) true false
 false)) fun g_1 => Tr 1 (((38 : TypeId) = 38 ∧ Tr 1 ((↑x.1.n : Int) = (↑(takeS x.1 x.2).n : Int)) ∧ Tr 1 (x.1.r = (takeS x.1 x.2).r) ∧ (true = true ∧ NilNil ∧
 (0 : Nat) = 0 ∧ (1 : Nat) = 1 ∧ (0 : Nat) = 0 ∧ (lC x.1).length = (lC (takeS x.1 x.2)).length ∧ g.val.1 = g_1.val.1) ∧ (true = true ∧ NilNil ∧ (0 : Nat) = 0 ∧
 (1 : Nat) = 1 ∧ (0 : Nat) = 0 ∧ (lC x.1).length = (lC (takeS x.1 x.2)).length ∧ g.val.1 = g_1.val.1) ∧ (true = true ∧ NilNil ∧ (0 : Nat) = 0 ∧ (1 : Nat) = 1 ∧
 (0 : Nat) = 0 ∧ (lM x.1).length = (lM (takeS x.1 x.2)).length ∧ g.val.2.2.1 = g_1.val.2.2.1) ∧ (true = true ∧ NilNil ∧ (0 : Nat) = 0 ∧ (1 : Nat) = 1 ∧ (0 : Nat)
 = 0 ∧ x_2.2.1.length + 1 = (lW (takeS x.1 x.2)).length ∧ y = g_1.val.2.2.2) ∧ True) ∧ ((3 : TypeId) = 3 ∧ (1 : Nat) = 1 ∧ g.val.1 = g_1.val.1 ∧ (lC (takeS x.1
 x.2)).length ≤ (lC x.1).length ∧ ∀ (i : Nat), i < (lC (takeS x.1 x.2)).length → [AV.int .i64 ((lC x.1).getD i 0)] = [AV.int .i64 ((lC (takeS x.1 x.2)).getD i
 0)]) ∧ ((3 : TypeId) = 3 ∧ (1 : Nat) = 1 ∧ g.val.2.2.1 = g_1.val.2.2.1 ∧ (lM (takeS x.1 x.2)).length ≤ (lM x.1).length ∧ ∀ (i : Nat), i < (lM (takeS x.1
 x.2)).length → [AV.int .i64 ((lM x.1).getD i 0)] = [AV.int .i64 ((lM (takeS x.1 x.2)).getD i 0)]) ∧ ((3 : TypeId) = 3 ∧ (1 : Nat) = 1 ∧ y = g_1.val.2.2.2 ∧ (lW
 (takeS x.1 x.2)).length ≤ x_2.2.1.length + 1 ∧ ∀ (i : Nat), i < (lW (takeS x.1 x.2)).length → [AV.int .i64 ((insI x_2.2.1 x_2.2.2.2).getD i 0)] = [AV.int .i64
 ((lW (takeS x.1 x.2)).getD i 0)]) ∧ True) ∧ (((Tr 1 ((freeL x_1).getD (0 + Int.toNat 0) 0 = takeAt x.1 x.2) ∧ Tr 1 ((0 : Int) = takeErr x.1 x.2) ∧ True) ∧ True)
 ∧ refB (takeS x.1 x.2) = refB (takeS x.1 x.2) ∧ true = true ∧ True) ∧ True)) ∧ 0 + Int.toNat 0 < (freeL x_1).length ∧ Exx (Nat × List Int × Int × Int) fun x_2
 => (((true = true ∧ NilNil ∧ (0 : Nat) = 0 ∧ (1 : Nat) = 1 ∧ (0 : Nat) = 0 ∧ (lW x.1).length = x_2.2.1.length ∧ g.val.2.2.2 = x_2.1) ∧ Tr 1 ((↑x.1.n : Int) =
 x_2.2.2.1) ∧ Tr 1 ((freeL x_1).getD (0 + Int.toNat 0) 0 = x_2.2.2.2) ∧ True) ∧ true = true ∧ ((3 : TypeId) = 3 ∧ (1 : Nat) = 1 ∧ g.val.2.2.2 = x_2.1 ∧
 x_2.2.1.length ≤ (lW x.1).length ∧ ∀ (i : Nat), i < x_2.2.1.length → [AV.int .i64 ((lW x.1).getD i 0)] = [AV.int .i64 (x_2.2.1.getD i 0)]) ∧ True) ∧ (Ints
 x_2.2.1 ∧ x_2.2.1.length ≤ x_2.1 ∧ x_2.1 ≤ 9223372036854775807 ∧ I64 x_2.2.2.1 ∧ I64 x_2.2.2.2 ∧ List.Pairwise (fun x1 x2 => x1 < x2) x_2.2.1) ∧ (x_2.2.2.2 < (0
 : Int) ∨ x_2.2.2.1 ≤ x_2.2.2.2 ∨ x_2.2.2.2 ∈ x_2.2.1 → ∀ (y : Unit), True → ((0 : Int) ≤ (0 : Int) ∧ (0 : Int) < (↑(freeL x_1).length : Int)) ∧ 0 + Int.toNat 0
 < (freeL x_1).length ∧ Exx Unit fun y => Exx (Subtype (RCap (takeS x.1 x.2) true false false)) fun g_1 => Tr 1 (((38 : TypeId) = 38 ∧ Tr 1 ((↑x.1.n : Int) =
 (↑(takeS x.1 x.2).n : Int)) ∧ Tr 1 (x.1.r = (takeS x.1 x.2).r) ∧ (true = true ∧ NilNil ∧ (0 : Nat) = 0 ∧ (1 : Nat) = 1 ∧ (0 : Nat) = 0 ∧ (lC x.1).length = (lC
 (takeS x.1 x.2)).length ∧ g.val.1 = g_1.val.1) ∧ (true = true ∧ NilNil ∧ (0 : Nat) = 0 ∧ (1 : Nat) = 1 ∧ (0 : Nat) = 0 ∧ (lC x.1).length = (lC (takeS x.1
 x.2)).length ∧ g.val.1 = g_1.val.1) ∧ (true = true ∧ NilNil ∧ (0 : Nat) = 0 ∧ (1 : Nat) = 1 ∧ (0 : Nat) = 0 ∧ (lM x.1).length = (lM (takeS x.1 x.2)).length ∧
 g.val.2.2.1 = g_1.val.2.2.1) ∧ (true = true ∧ NilNil ∧ (0 : Nat) = 0 ∧ (1 : Nat) = 1 ∧ (0 : Nat) = 0 ∧ x_2.2.1.length = (lW (takeS x.1 x.2)).length ∧ x_2.1 =
 g_1.val.2.2.2) ∧ True) ∧ ((3 : TypeId) = 3 ∧ (1 : Nat) = 1 ∧ g.val.1 = g_1.val.1 ∧ (lC (takeS x.1 x.2)).length ≤ (lC x.1).length ∧ ∀ (i : Nat), i < (lC (takeS
 x.1 x.2)).length → [AV.int .i64 ((lC x.1).getD i 0)] = [AV.int .i64 ((lC (takeS x.1 x.2)).getD i 0)]) ∧ ((3 : TypeId) = 3 ∧ (1 : Nat) = 1 ∧ g.val.2.2.1 =
 g_1.val.2.2.1 ∧ (lM (takeS x.1 x.2)).length ≤ (lM x.1).length ∧ ∀ (i : Nat), i < (lM (takeS x.1 x.2)).length → [AV.int .i64 ((lM x.1).getD i 0)] = [AV.int .i64
 ((lM (takeS x.1 x.2)).getD i 0)]) ∧ ((3 : TypeId) = 3 ∧ (1 : Nat) = 1 ∧ x_2.1 = g_1.val.2.2.2 ∧ (lW (takeS x.1 x.2)).length ≤ x_2.2.1.length ∧ ∀ (i : Nat), i <
 (lW (takeS x.1 x.2)).length → [AV.int .i64 (x_2.2.1.getD i 0)] = [AV.int .i64 ((lW (takeS x.1 x.2)).getD i 0)]) ∧ True) ∧ (((Tr 1 ((freeL x_1).getD (0 +
 Int.toNat 0) 0 = takeAt x.1 x.2) ∧ Tr 1 ((0 : Int) = takeErr x.1 x.2) ∧ True) ∧ True) ∧ refB (takeS x.1 x.2) = refB (takeS x.1 x.2) ∧ true = true ∧ True) ∧
 True) ∧ (¬refAddI.p x_2 → ∀ (y : Nat), x_2.2.1.length + 1 ≤ y ∧ y ≤ 9223372036854775807 → ((0 : Int) ≤ (0 : Int) ∧ (0 : Int) < (↑(freeL x_1).length : Int)) ∧ 0
 + Int.toNat 0 < (freeL x_1).length ∧ Exx Unit fun y_1 => Exx (Subtype (RCap (takeS x.1 x.2) true false false)) fun g_1 => Tr 1 (((38 : TypeId) = 38 ∧ Tr 1
 ((↑x.1.n : Int) = (↑(takeS x.1 x.2).n : Int)) ∧ Tr 1 (x.1.r = (takeS x.1 x.2).r) ∧ (true = true ∧ NilNil ∧ (0 : Nat) = 0 ∧ (1 : Nat) = 1 ∧ (0 : Nat) = 0 ∧ (lC
 x.1).length = (lC (takeS x.1 x.2)).length ∧ g.val.1 = g_1.val.1) ∧ (true = true ∧ NilNil ∧ (0 : Nat) = 0 ∧ (1 : Nat) = 1 ∧ (0 : Nat) = 0 ∧ (lC x.1).length = (lC
 (takeS x.1 x.2)).length ∧ g.val.1 = g_1.val.1) ∧ (true = true ∧ NilNil ∧ (0 : Nat) = 0 ∧ (1 : Nat) = 1 ∧ (0 : Nat) = 0 ∧ (lM x.1).length = (lM (takeS x.1
 x.2)).length ∧ g.val.2.2.1 = g_1.val.2.2.1) ∧ (true = true ∧ NilNil ∧ (0 : Nat) = 0 ∧ (1 : Nat) = 1 ∧ (0 : Nat) = 0 ∧ x_2.2.1.length + 1 = (lW (takeS x.1
 x.2)).length ∧ y = g_1.val.2.2.2) ∧ True) ∧ ((3 : TypeId) = 3 ∧ (1 : Nat) = 1 ∧ g.val.1 = g_1.val.1 ∧ (lC (takeS x.1 x.2)).length ≤ (lC x.1).length ∧ ∀ (i :
 Nat), i < (lC (takeS x.1 x.2)).length → [AV.int .i64 ((lC x.1).getD i 0)] = [AV.int .i64 ((lC (takeS x.1 x.2)).getD i 0)]) ∧ ((3 : TypeId) = 3 ∧ (1 : Nat) = 1 ∧
 g.val.2.2.1 = g_1.val.2.2.1 ∧ (lM (takeS x.1 x.2)).length ≤ (lM x.1).length ∧ ∀ (i : Nat), i < (lM (takeS x.1 x.2)).length → [AV.int .i64 ((lM x.1).getD i 0)] =
 [AV.int .i64 ((lM (takeS x.1 x.2)).getD i 0)]) ∧ ((3 : TypeId) = 3 ∧ (1 : Nat) = 1 ∧ y = g_1.val.2.2.2 ∧ (lW (takeS x.1 x.2)).length ≤ x_2.2.1.length + 1 ∧ ∀ (i
 : Nat), i < (lW (takeS x.1 x.2)).length → [AV.int .i64 ((insI x_2.2.1 x_2.2.2.2).getD i 0)] = [AV.int .i64 ((lW (takeS x.1 x.2)).getD i 0)]) ∧ True) ∧ (((Tr 1
 ((freeL x_1).getD (0 + Int.toNat 0) 0 = takeAt x.1 x.2) ∧ Tr 1 ((0 : Int) = takeErr x.1 x.2) ∧ True) ∧ True) ∧ refB (takeS x.1 x.2) = refB (takeS x.1 x.2) ∧
 true = true ∧ True) ∧ True)) ∧ 0 + Int.toNat 0 < (freeL x_1).length ∧ (Exx (Nat × List Int × Int × Int) fun x_2 => (((true = true ∧ NilNil ∧ (0 : Nat) = 0 ∧ (1
 : Nat) = 1 ∧ (0 : Nat) = 0 ∧ (lW x.1).length = x_2.2.1.length ∧ g.val.2.2.2 = x_2.1) ∧ Tr 1 ((↑x.1.n : Int) = x_2.2.2.1) ∧ Tr 1 ((freeL x_1).getD (0 + Int.toNat
 0) 0 = x_2.2.2.2) ∧ True) ∧ true = true ∧ ((3 : TypeId) = 3 ∧ (1 : Nat) = 1 ∧ g.val.2.2.2 = x_2.1 ∧ x_2.2.1.length ≤ (lW x.1).length ∧ ∀ (i : Nat), i <
 x_2.2.1.length → [AV.int .i64 ((lW x.1).getD i 0)] = [AV.int .i64 (x_2.2.1.getD i 0)]) ∧ True) ∧ (Ints x_2.2.1 ∧ x_2.2.1.length ≤ x_2.1 ∧ x_2.1 ≤
 9223372036854775807 ∧ I64 x_2.2.2.1 ∧ I64 x_2.2.2.2 ∧ List.Pairwise (fun x1 x2 => x1 < x2) x_2.2.1) ∧ (x_2.2.2.2 < (0 : Int) ∨ x_2.2.2.1 ≤ x_2.2.2.2 ∨ x_2.2.2.2
 ∈ x_2.2.1 → ∀ (y : Unit), True → ((0 : Int) ≤ (0 : Int) ∧ (0 : Int) < (↑(freeL x_1).length : Int)) ∧ 0 + Int.toNat 0 < (freeL x_1).length ∧ Exx Unit fun y =>
 Exx (Subtype (RCap (takeS x.1 x.2) true false false)) fun g_1 => Tr 1 (((38 : TypeId) = 38 ∧ Tr 1 ((↑x.1.n : Int) = (↑(takeS x.1 x.2).n : Int)) ∧ Tr 1 (x.1.r =
 (takeS x.1 x.2).r) ∧ (true = true ∧ NilNil ∧ (0 : Nat) = 0 ∧ (1 : Nat) = 1 ∧ (0 : Nat) = 0 ∧ (lC x.1).length = (lC (takeS x.1 x.2)).length ∧ g.val.1 =
 g_1.val.1) ∧ (true = true ∧ NilNil ∧ (0 : Nat) = 0 ∧ (1 : Nat) = 1 ∧ (0 : Nat) = 0 ∧ (lC x.1).length = (lC (takeS x.1 x.2)).length ∧ g.val.1 = g_1.val.1) ∧
 (true = true ∧ NilNil ∧ (0 : Nat) = 0 ∧ (1 : Nat) = 1 ∧ (0 : Nat) = 0 ∧ (lM x.1).length = (lM (takeS x.1 x.2)).length ∧ g.val.2.2.1 = g_1.val.2.2.1) ∧ (true =
 true ∧ NilNil ∧ (0 : Nat) = 0 ∧ (1 : Nat) = 1 ∧ (0 : Nat) = 0 ∧ x_2.2.1.length = (lW (takeS x.1 x.2)).length ∧ x_2.1 = g_1.val.2.2.2) ∧ True) ∧ ((3 : TypeId) =
 3 ∧ (1 : Nat) = 1 ∧ g.val.1 = g_1.val.1 ∧ (lC (takeS x.1 x.2)).length ≤ (lC x.1).length ∧ ∀ (i : Nat), i < (lC (takeS x.1 x.2)).length → [AV.int .i64 ((lC
 x.1).getD i 0)] = [AV.int .i64 ((lC (takeS x.1 x.2)).getD i 0)]) ∧ ((3 : TypeId) = 3 ∧ (1 : Nat) = 1 ∧ g.val.2.2.1 = g_1.val.2.2.1 ∧ (lM (takeS x.1 x.2)).length
 ≤ (lM x.1).length ∧ ∀ (i : Nat), i < (lM (takeS x.1 x.2)).length → [AV.int .i64 ((lM x.1).getD i 0)] = [AV.int .i64 ((lM (takeS x.1 x.2)).getD i 0)]) ∧ ((3 :
 TypeId) = 3 ∧ (1 : Nat) = 1 ∧ x_2.1 = g_1.val.2.2.2 ∧ (lW (takeS x.1 x.2)).length ≤ x_2.2.1.length ∧ ∀ (i : Nat), i < (lW (takeS x.1 x.2)).length → [AV.int .i64
 (x_2.2.1.getD i 0)] = [AV.int .i64 ((lW (takeS x.1 x.2)).getD i 0)]) ∧ True) ∧ (((Tr 1 ((freeL x_1).getD (0 + Int.toNat 0) 0 = takeAt x.1 x.2) ∧ Tr 1 ((0 : Int)
 = takeErr x.1 x.2) ∧ True) ∧ True) ∧ refB (takeS x.1 x.2) = refB (takeS x.1 x.2) ∧ true = true ∧ True) ∧ True) ∧ (¬refAddI.p x_2 → ∀ (y : Nat), x_2.2.1.length +
 1 ≤ y ∧ y ≤ 9223372036854775807 → ((0 : Int) ≤ (0 : Int) ∧ (0 : Int) < (↑(freeL x_1).length : Int)) ∧ 0 + Int.toNat 0 < (freeL x_1).length ∧ Exx Unit fun y_1 =>
 Exx (Subtype (RCap (takeS x.1 x.2) true false false)) fun g_1 => Tr 1 (((38 : TypeId) = 38 ∧ Tr 1 ((↑x.1.n : Int) = (↑(takeS x.1 x.2).n : Int)) ∧ Tr 1 (x.1.r =
 (takeS x.1 x.2).r) ∧ (true = true ∧ NilNil ∧ (0 : Nat) = 0 ∧ (1 : Nat) = 1 ∧ (0 : Nat) = 0 ∧ (lC x.1).length = (lC (takeS x.1 x.2)).length ∧ g.val.1 =
 g_1.val.1) ∧ (true = true ∧ NilNil ∧ (0 : Nat) = 0 ∧ (1 : Nat) = 1 ∧ (0 : Nat) = 0 ∧ (lC x.1).length = (lC (takeS x.1 x.2)).length ∧ g.val.1 = g_1.val.1) ∧
 (true = true ∧ NilNil ∧ (0 : Nat) = 0 ∧ (1 : Nat) = 1 ∧ (0 : Nat) = 0 ∧ (lM x.1).length = (lM (takeS x.1 x.2)).length ∧ g.val.2.2.1 = g_1.val.2.2.1) ∧ (true =
 true ∧ NilNil ∧ (0 : Nat) = 0 ∧ (1 : Nat) = 1 ∧ (0 : Nat) = 0 ∧ x_2.2.1.length + 1 = (lW (takeS x.1 x.2)).length ∧ y = g_1.val.2.2.2) ∧ True) ∧ ((3 : TypeId) =
 3 ∧ (1 : Nat) = 1 ∧ g.val.1 = g_1.val.1 ∧ (lC (takeS x.1 x.2)).length ≤ (lC x.1).length ∧ ∀ (i : Nat), i < (lC (takeS x.1 x.2)).length → [AV.int .i64 ((lC
 x.1).getD i 0)] = [AV.int .i64 ((lC (takeS x.1 x.2)).getD i 0)]) ∧ ((3 : TypeId) = 3 ∧ (1 : Nat) = 1 ∧ g.val.2.2.1 = g_1.val.2.2.1 ∧ (lM (takeS x.1 x.2)).length
 ≤ (lM x.1).length ∧ ∀ (i : Nat), i < (lM (takeS x.1 x.2)).length → [AV.int .i64 ((lM x.1).getD i 0)] = [AV.int .i64 ((lM (takeS x.1 x.2)).getD i 0)]) ∧ ((3 :
 TypeId) = 3 ∧ (1 : Nat) = 1 ∧ y = g_1.val.2.2.2 ∧ (lW (takeS x.1 x.2)).length ≤ x_2.2.1.length + 1 ∧ ∀ (i : Nat), i < (lW (takeS x.1 x.2)).length → [AV.int .i64
 ((insI x_2.2.1 x_2.2.2.2).getD i 0)] = [AV.int .i64 ((lW (takeS x.1 x.2)).getD i 0)]) ∧ True) ∧ (((Tr 1 ((freeL x_1).getD (0 + Int.toNat 0) 0 = takeAt x.1 x.2)
 ∧ Tr 1 ((0 : Int) = takeErr x.1 x.2) ∧ True) ∧ True) ∧ refB (takeS x.1 x.2) = refB (takeS x.1 x.2) ∧ true = true ∧ True) ∧ True)) ∧ Exx (Nat × List Int × Int ×
 Int) fun x_2 => (((true = true ∧ NilNil ∧ (0 : Nat) = 0 ∧ (1 : Nat) = 1 ∧ (0 : Nat) = 0 ∧ (lW x.1).length = x_2.2.1.length ∧ g.val.2.2.2 = x_2.1) ∧ Tr 1
 ((↑x.1.n : Int) = x_2.2.2.1) ∧ Tr 1 ((freeL x_1).getD (0 + Int.toNat 0) 0 = x_2.2.2.2) ∧ True) ∧ true = true ∧ ((3 : TypeId) = 3 ∧ (1 : Nat) = 1 ∧ g.val.2.2.2 =
 x_2.1 ∧ x_2.2.1.length ≤ (lW x.1).length ∧ ∀ (i : Nat), i < x_2.2.1.length → [AV.int .i64 ((lW x.1).getD i 0)] = [AV.int .i64 (x_2.2.1.getD i 0)]) ∧ True) ∧
 (Ints x_2.2.1 ∧ x_2.2.1.length ≤ x_2.1 ∧ x_2.1 ≤ 9223372036854775807 ∧ I64 x_2.2.2.1 ∧ I64 x_2.2.2.2 ∧ List.Pairwise (fun x1 x2 => x1 < x2) x_2.2.1) ∧
 (x_2.2.2.2 < (0 : Int) ∨ x_2.2.2.1 ≤ x_2.2.2.2 ∨ x_2.2.2.2 ∈ x_2.2.1 → ∀ (y : Unit), True → ((0 : Int) ≤ (0 : Int) ∧ (0 : Int) < (↑(freeL x_1).length : Int)) ∧
 0 + Int.toNat 0 < (freeL x_1).length ∧ Exx Unit fun y => Exx (Subtype (RCap (takeS x.1 x.2) true false false)) fun g_1 => Tr 1 (((38 : TypeId) = 38 ∧ Tr 1
 ((↑x.1.n : Int) = (↑(takeS x.1 x.2).n : Int)) ∧ Tr 1 (x.1.r = (takeS x.1 x.2).r) ∧ (true = true ∧ NilNil ∧ (0 : Nat) = 0 ∧ (1 : Nat) = 1 ∧ (0 : Nat) = 0 ∧ (lC
 x.1).length = (lC (takeS x.1 x.2)).length ∧ g.val.1 = g_1.val.1) ∧ (true = true ∧ NilNil ∧ (0 : Nat) = 0 ∧ (1 : Nat) = 1 ∧ (0 : Nat) = 0 ∧ (lC x.1).length = (lC
 (takeS x.1 x.2)).length ∧ g.val.1 = g_1.val.1) ∧ (true = true ∧ NilNil ∧ (0 : Nat) = 0 ∧ (1 : Nat) = 1 ∧ (0 : Nat) = 0 ∧ (lM x.1).length = (lM (takeS x.1
 x.2)).length ∧ g.val.2.2.1 = g_1.val.2.2.1) ∧ (true = true ∧ NilNil ∧ (0 : Nat) = 0 ∧ (1 : Nat) = 1 ∧ (0 : Nat) = 0 ∧ x_2.2.1.length = (lW (takeS x.1
 x.2)).length ∧ x_2.1 = g_1.val.2.2.2) ∧ True) ∧ ((3 : TypeId) = 3 ∧ (1 : Nat) = 1 ∧ g.val.1 = g_1.val.1 ∧ (lC (takeS x.1 x.2)).length ≤ (lC x.1).length ∧ ∀ (i :
 Nat), i < (lC (takeS x.1 x.2)).length → [AV.int .i64 ((lC x.1).getD i 0)] = [AV.int .i64 ((lC (takeS x.1 x.2)).getD i 0)]) ∧ ((3 : TypeId) = 3 ∧ (1 : Nat) = 1 ∧
 g.val.2.2.1 = g_1.val.2.2.1 ∧ (lM (takeS x.1 x.2)).length ≤ (lM x.1).length ∧ ∀ (i : Nat), i < (lM (takeS x.1 x.2)).length → [AV.int .i64 ((lM x.1).getD i 0)] =
 [AV.int .i64 ((lM (takeS x.1 x.2)).getD i 0)]) ∧ ((3 : TypeId) = 3 ∧ (1 : Nat) = 1 ∧ x_2.1 = g_1.val.2.2.2 ∧ (lW (takeS x.1 x.2)).length ≤ x_2.2.1.length ∧ ∀ (i
 : Nat), i < (lW (takeS x.1 x.2)).length → [AV.int .i64 (x_2.2.1.getD i 0)] = [AV.int .i64 ((lW (takeS x.1 x.2)).getD i 0)]) ∧ True) ∧ (((Tr 1 ((freeL x_1).getD
 (0 + Int.toNat 0) 0 = takeAt x.1 x.2) ∧ Tr 1 ((0 : Int) = takeErr x.1 x.2) ∧ True) ∧ True) ∧ refB (takeS x.1 x.2) = refB (takeS x.1 x.2) ∧ true = true ∧ True) ∧
 True) ∧ (¬refAddI.p x_2 → ∀ (y : Nat), x_2.2.1.length + 1 ≤ y ∧ y ≤ 9223372036854775807 → ((0 : Int) ≤ (0 : Int) ∧ (0 : Int) < (↑(freeL x_1).length : Int)) ∧ 0
 + Int.toNat 0 < (freeL x_1).length ∧ Exx Unit fun y_1 => Exx (Subtype (RCap (takeS x.1 x.2) true false false)) fun g_1 => Tr 1 (((38 : TypeId) = 38 ∧ Tr 1
 ((↑x.1.n : Int) = (↑(takeS x.1 x.2).n : Int)) ∧ Tr 1 (x.1.r = (takeS x.1 x.2).r) ∧ (true = true ∧ NilNil ∧ (0 : Nat) = 0 ∧ (1 : Nat) = 1 ∧ (0 : Nat) = 0 ∧ (lC
 x.1).length = (lC (takeS x.1 x.2)).length ∧ g.val.1 = g_1.val.1) ∧ (true = true ∧ NilNil ∧ (0 : Nat) = 0 ∧ (1 : Nat) = 1 ∧ (0 : Nat) = 0 ∧ (lC x.1).length = (lC
 (takeS x.1 x.2)).length ∧ g.val.1 = g_1.val.1) ∧ (true = true ∧ NilNil ∧ (0 : Nat) = 0 ∧ (1 : Nat) = 1 ∧ (0 : Nat) = 0 ∧ (lM x.1).length = (lM (takeS x.1
 x.2)).length ∧ g.val.2.2.1 = g_1.val.2.2.1) ∧ (true = true ∧ NilNil ∧ (0 : Nat) = 0 ∧ (1 : Nat) = 1 ∧ (0 : Nat) = 0 ∧ x_2.2.1.length + 1 = (lW (takeS x.1
 x.2)).length ∧ y = g_1.val.2.2.2) ∧ True) ∧ ((3 : TypeId) = 3 ∧ (1 : Nat) = 1 ∧ g.val.1 = g_1.val.1 ∧ (lC (takeS x.1 x.2)).length ≤ (lC x.1).length ∧ ∀ (i :
 Nat), i < (lC (takeS x.1 x.2)).length → [AV.int .i64 ((lC x.1).getD i 0)] = [AV.int .i64 ((lC (takeS x.1 x.2)).getD i 0)]) ∧ ((3 : TypeId) = 3 ∧ (1 : Nat) = 1 ∧
 g.val.2.2.1 = g_1.val.2.2.1 ∧ (lM (takeS x.1 x.2)).length ≤ (lM x.1).length ∧ ∀ (i : Nat), i < (lM (takeS x.1 x.2)).length → [AV.int .i64 ((lM x.1).getD i 0)] =
 [AV.int .i64 ((lM (takeS x.1 x.2)).getD i 0)]) ∧ ((3 : TypeId) = 3 ∧ (1 : Nat) = 1 ∧ y = g_1.val.2.2.2 ∧ (lW (takeS x.1 x.2)).length ≤ x_2.2.1.length + 1 ∧ ∀ (i
 : Nat), i < (lW (takeS x.1 x.2)).length → [AV.int .i64 ((insI x_2.2.1 x_2.2.2.2).getD i 0)] = [AV.int .i64 ((lW (takeS x.1 x.2)).getD i 0)]) ∧ True) ∧ (((Tr 1
 ((freeL x_1).getD (0 + Int.toNat 0) 0 = takeAt x.1 x.2) ∧ Tr 1 ((0 : Int) = takeErr x.1 x.2) ∧ True) ∧ True) ∧ refB (takeS x.1 x.2) = refB (takeS x.1 x.2) ∧
 true = true ∧ True) ∧ True)) ∧ (∀ (g : Subtype (RCap x.1 false true true)), ((0 : Int) ≤ (0 : Int) ∧ (0 : Int) < (↑(freeL x_1).length : Int)) ∧ ((0 + Int.toNat
 0 < (freeL x_1).length ∧ Exx (Nat × List Int × Int × Int) fun x_2 => (((true = true ∧ NilNil ∧ (0 : Nat) = 0 ∧ (1 : Nat) = 1 ∧ (0 : Nat) = 0 ∧ (lC x.1).length =
 x_2.2.1.length ∧ g.val.1 = x_2.1) ∧ Tr 1 ((↑x.1.n : Int) = x_2.2.2.1) ∧ Tr 1 ((freeL x_1).getD (0 + Int.toNat 0) 0 = x_2.2.2.2) ∧ True) ∧ true = true ∧ ((3 :
 TypeId) = 3 ∧ (1 : Nat) = 1 ∧ g.val.1 = x_2.1 ∧ x_2.2.1.length ≤ (lC x.1).length ∧ ∀ (i : Nat), i < x_2.2.1.length → [AV.int .i64 ((lC x.1).getD i 0)] = [AV.int
 .i64 (x_2.2.1.getD i 0)]) ∧ True) ∧ (Ints x_2.2.1 ∧ x_2.2.1.length ≤ x_2.1 ∧ x_2.1 ≤ 9223372036854775807 ∧ I64 x_2.2.2.1 ∧ I64 x_2.2.2.2 ∧ List.Pairwise (fun x1
 x2 => x1 < x2) x_2.2.1) ∧ (x_2.2.2.2 < (0 : Int) ∨ x_2.2.2.1 ≤ x_2.2.2.2 ∨ x_2.2.2.2 ∈ x_2.2.1 → ∀ (y : Unit), True → ((0 : Int) ≤ (0 : Int) ∧ (0 : Int) <
 (↑(freeL x_1).length : Int)) ∧ 0 + Int.toNat 0 < (freeL x_1).length ∧ Exx Unit fun y => Exx (Subtype (RCap (takeS x.1 x.2) false true true)) fun g_1 => Tr 1
 (((38 : TypeId) = 38 ∧ Tr 1 ((↑x.1.n : Int) = (↑(takeS x.1 x.2).n : Int)) ∧ Tr 1 (x.1.r = (takeS x.1 x.2).r) ∧ (true = true ∧ NilNil ∧ (0 : Nat) = 0 ∧ (1 : Nat)
 = 1 ∧ (0 : Nat) = 0 ∧ (lC x.1).length = (lC (takeS x.1 x.2)).length ∧ g.val.1 = g_1.val.1) ∧ (true = true ∧ NilNil ∧ (0 : Nat) = 0 ∧ (1 : Nat) = 1 ∧ (0 : Nat) =
 0 ∧ (lE x.1).length = (lE (takeS x.1 x.2)).length ∧ g.val.2.1 = g_1.val.2.1) ∧ (true = true ∧ NilNil ∧ (0 : Nat) = 0 ∧ (1 : Nat) = 1 ∧ (0 : Nat) = 0 ∧ (lC
 x.1).length = (lC (takeS x.1 x.2)).length ∧ g.val.1 = g_1.val.1) ∧ (true = true ∧ NilNil ∧ (0 : Nat) = 0 ∧ (1 : Nat) = 1 ∧ (0 : Nat) = 0 ∧ x_2.2.1.length = (lC
 (takeS x.1 x.2)).length ∧ x_2.1 = g_1.val.1) ∧ True) ∧ ((3 : TypeId) = 3 ∧ (1 : Nat) = 1 ∧ x_2.1 = g_1.val.1 ∧ (lC (takeS x.1 x.2)).length ≤ x_2.2.1.length ∧ ∀
 (i : Nat), i < (lC (takeS x.1 x.2)).length → [AV.int .i64 (x_2.2.1.getD i 0)] = [AV.int .i64 ((lC (takeS x.1 x.2)).getD i 0)]) ∧ ((3 : TypeId) = 3 ∧ (1 : Nat) =
 1 ∧ g.val.2.1 = g_1.val.2.1 ∧ (lE (takeS x.1 x.2)).length ≤ (lE x.1).length ∧ ∀ (i : Nat), i < (lE (takeS x.1 x.2)).length → [AV.int .i64 ((lE x.1).getD i 0)] =
 [AV.int .i64 ((lE (takeS x.1 x.2)).getD i 0)]) ∧ True) ∧ (((Tr 1 ((freeL x_1).getD (0 + Int.toNat 0) 0 = takeAt x.1 x.2) ∧ Tr 1 ((0 : Int) = takeErr x.1 x.2) ∧
 True) ∧ True) ∧ refB (takeS x.1 x.2) = refB (takeS x.1 x.2) ∧ true = true ∧ True) ∧ True) ∧ (¬refAddI.p x_2 → ∀ (y : Nat), x_2.2.1.length + 1 ≤ y ∧ y ≤
 9223372036854775807 → ((0 : Int) ≤ (0 : Int) ∧ (0 : Int) < (↑(freeL x_1).length : Int)) ∧ 0 + Int.toNat 0 < (freeL x_1).length ∧ Exx Unit fun y_1 => Exx
 (Subtype (RCap (takeS x.1 x.2) false true false)) fun g_1 => Tr 1 (((38 : TypeId) = 38 ∧ Tr 1 ((↑x.1.n : Int) = (↑(takeS x.1 x.2).n : Int)) ∧ Tr 1 (x.1.r =
 (takeS x.1 x.2).r) ∧ (true = true ∧ NilNil ∧ (0 : Nat) = 0 ∧ (1 : Nat) = 1 ∧ (0 : Nat) = 0 ∧ (lC x.1).length = (lC (takeS x.1 x.2)).length ∧ g.val.1 =
 g_1.val.1) ∧ (true = true ∧ NilNil ∧ (0 : Nat) = 0 ∧ (1 : Nat) = 1 ∧ (0 : Nat) = 0 ∧ (lE x.1).length = (lE (takeS x.1 x.2)).length ∧ g.val.2.1 = g_1.val.2.1) ∧
 (true = true ∧ NilNil ∧ (0 : Nat) = 0 ∧ (1 : Nat) = 1 ∧ (0 : Nat) = 0 ∧ (lC x.1).length = (lC (takeS x.1 x.2)).length ∧ g.val.1 = g_1.val.1) ∧ (true = true ∧
 NilNil ∧ (0 : Nat) = 0 ∧ (1 : Nat) = 1 ∧ (0 : Nat) = 0 ∧ x_2.2.1.length + 1 = (lW (takeS x.1 x.2)).length ∧ y = g_1.val.2.2.2) ∧ True) ∧ ((3 : TypeId) = 3 ∧ (1
 : Nat) = 1 ∧ x_2.1 = g_1.val.1 ∧ (lC (takeS x.1 x.2)).length ≤ x_2.2.1.length ∧ ∀ (i : Nat), i < (lC (takeS x.1 x.2)).length → [AV.int .i64 (x_2.2.1.getD i 0)]
 = [AV.int .i64 ((lC (takeS x.1 x.2)).getD i 0)]) ∧ ((3 : TypeId) = 3 ∧ (1 : Nat) = 1 ∧ g.val.2.1 = g_1.val.2.1 ∧ (lE (takeS x.1 x.2)).length ≤ (lE x.1).length ∧
 ∀ (i : Nat), i < (lE (takeS x.1 x.2)).length → [AV.int .i64 ((lE x.1).getD i 0)] = [AV.int .i64 ((lE (takeS x.1 x.2)).getD i 0)]) ∧ ((3 : TypeId) = 3 ∧ (1 :
 Nat) = 1 ∧ y = g_1.val.2.2.2 ∧ (lW (takeS x.1 x.2)).length ≤ x_2.2.1.length + 1 ∧ ∀ (i : Nat), i < (lW (takeS x.1 x.2)).length → [AV.int .i64 ((insI x_2.2.1
 x_2.2.2.2).getD i 0)] = [AV.int .i64 ((lW (takeS x.1 x.2)).getD i 0)]) ∧ True) ∧ (((Tr 1 ((freeL x_1).getD (0 + Int.toNat 0) 0 = takeAt x.1 x.2) ∧ Tr 1 ((0 :
 Int) = takeErr x.1 x.2) ∧ True) ∧ True) ∧ refB (takeS x.1 x.2) = refB (takeS x.1 x.2) ∧ true = true ∧ True) ∧ True)) ∧ 0 + Int.toNat 0 < (freeL x_1).length ∧
 Exx (Nat × List Int × Int × Int) fun x_2 => (((true = true ∧ NilNil ∧ (0 : Nat) = 0 ∧ (1 : Nat) = 1 ∧ (0 : Nat) = 0 ∧ (lC x.1).length = x_2.2.1.length ∧ g.val.1
 = x_2.1) ∧ Tr 1 ((↑x.1.n : Int) = x_2.2.2.1) ∧ Tr 1 ((freeL x_1).getD (0 + Int.toNat 0) 0 = x_2.2.2.2) ∧ True) ∧ true = true ∧ ((3 : TypeId) = 3 ∧ (1 : Nat) = 1
 ∧ g.val.1 = x_2.1 ∧ x_2.2.1.length ≤ (lC x.1).length ∧ ∀ (i : Nat), i < x_2.2.1.length → [AV.int .i64 ((lC x.1).getD i 0)] = [AV.int .i64 (x_2.2.1.getD i 0)]) ∧
 True) ∧ (Ints x_2.2.1 ∧ x_2.2.1.length ≤ x_2.1 ∧ x_2.1 ≤ 9223372036854775807 ∧ I64 x_2.2.2.1 ∧ I64 x_2.2.2.2 ∧ List.Pairwise (fun x1 x2 => x1 < x2) x_2.2.1) ∧
 (x_2.2.2.2 < (0 : Int) ∨ x_2.2.2.1 ≤ x_2.2.2.2 ∨ x_2.2.2.2 ∈ x_2.2.1 → ∀ (y : Unit), True → ((0 : Int) ≤ (0 : Int) ∧ (0 : Int) < (↑(freeL x_1).length : Int)) ∧
 0 + Int.toNat 0 < (freeL x_1).length ∧ Exx Unit fun y => Exx (Subtype (RCap (takeS x.1 x.2) false true true)) fun g_1 => Tr 1 (((38 : TypeId) = 38 ∧ Tr 1
 ((↑x.1.n : Int) = (↑(takeS x.1 x.2).n : Int)) ∧ Tr 1 (x.1.r = (takeS x.1 x.2).r) ∧ (true = true ∧ NilNil ∧ (0 : Nat) = 0 ∧ (1 : Nat) = 1 ∧ (0 : Nat) = 0 ∧ (lC
 x.1).length = (lC (takeS x.1 x.2)).length ∧ g.val.1 = g_1.val.1) ∧ (true = true ∧ NilNil ∧ (0 : Nat) = 0 ∧ (1 : Nat) = 1 ∧ (0 : Nat) = 0 ∧ (lE x.1).length = (lE
 (takeS x.1 x.2)).length ∧ g.val.2.1 = g_1.val.2.1) ∧ (true = true ∧ NilNil ∧ (0 : Nat) = 0 ∧ (1 : Nat) = 1 ∧ (0 : Nat) = 0 ∧ (lC x.1).length = (lC (takeS x.1
 x.2)).length ∧ g.val.1 = g_1.val.1) ∧ (true = true ∧ NilNil ∧ (0 : Nat) = 0 ∧ (1 : Nat) = 1 ∧ (0 : Nat) = 0 ∧ x_2.2.1.length = (lC (takeS x.1 x.2)).length ∧
 x_2.1 = g_1.val.1) ∧ True) ∧ ((3 : TypeId) = 3 ∧ (1 : Nat) = 1 ∧ x_2.1 = g_1.val.1 ∧ (lC (takeS x.1 x.2)).length ≤ x_2.2.1.length ∧ ∀ (i : Nat), i < (lC (takeS
 x.1 x.2)).length → [AV.int .i64 (x_2.2.1.getD i 0)] = [AV.int .i64 ((lC (takeS x.1 x.2)).getD i 0)]) ∧ ((3 : TypeId) = 3 ∧ (1 : Nat) = 1 ∧ g.val.2.1 =
 g_1.val.2.1 ∧ (lE (takeS x.1 x.2)).length ≤ (lE x.1).length ∧ ∀ (i : Nat), i < (lE (takeS x.1 x.2)).length → [AV.int .i64 ((lE x.1).getD i 0)] = [AV.int .i64
 ((lE (takeS x.1 x.2)).getD i 0)]) ∧ True) ∧ (((Tr 1 ((freeL x_1).getD (0 + Int.toNat 0) 0 = takeAt x.1 x.2) ∧ Tr 1 ((0 : Int) = takeErr x.1 x.2) ∧ True) ∧ True)
 ∧ refB (takeS x.1 x.2) = refB (takeS x.1 x.2) ∧ true = true ∧ True) ∧ True) ∧ (¬refAddI.p x_2 → ∀ (y : Nat), x_2.2.1.length + 1 ≤ y ∧ y ≤ 9223372036854775807 →
 ((0 : Int) ≤ (0 : Int) ∧ (0 : Int) < (↑(freeL x_1).length : Int)) ∧ 0 + Int.toNat 0 < (freeL x_1).length ∧ Exx Unit fun y_1 => Exx (Subtype (RCap (takeS x.1
 x.2) false true false)) fun g_1 => Tr 1 (((38 : TypeId) = 38 ∧ Tr 1 ((↑x.1.n : Int) = (↑(takeS x.1 x.2).n : Int)) ∧ Tr 1 (x.1.r = (takeS x.1 x.2).r) ∧ (true =
 true ∧ NilNil ∧ (0 : Nat) = 0 ∧ (1 : Nat) = 1 ∧ (0 : Nat) = 0 ∧ (lC x.1).length = (lC (takeS x.1 x.2)).length ∧ g.val.1 = g_1.val.1) ∧ (true = true ∧ NilNil ∧
 (0 : Nat) = 0 ∧ (1 : Nat) = 1 ∧ (0 : Nat) = 0 ∧ (lE x.1).length = (lE (takeS x.1 x.2)).length ∧ g.val.2.1 = g_1.val.2.1) ∧ (true = true ∧ NilNil ∧ (0 : Nat) = 0
 ∧ (1 : Nat) = 1 ∧ (0 : Nat) = 0 ∧ (lC x.1).length = (lC (takeS x.1 x.2)).length ∧ g.val.1 = g_1.val.1) ∧ (true = true ∧ NilNil ∧ (0 : Nat) = 0 ∧ (1 : Nat) = 1 ∧
 (0 : Nat) = 0 ∧ x_2.2.1.length + 1 = (lW (takeS x.1 x.2)).length ∧ y = g_1.val.2.2.2) ∧ True) ∧ ((3 : TypeId) = 3 ∧ (1 : Nat) = 1 ∧ x_2.1 = g_1.val.1 ∧ (lC
 (takeS x.1 x.2)).length ≤ x_2.2.1.length ∧ ∀ (i : Nat), i < (lC (takeS x.1 x.2)).length → [AV.int .i64 (x_2.2.1.getD i 0)] = [AV.int .i64 ((lC (takeS x.1
 x.2)).getD i 0)]) ∧ ((3 : TypeId) = 3 ∧ (1 : Nat) = 1 ∧ g.val.2.1 = g_1.val.2.1 ∧ (lE (takeS x.1 x.2)).length ≤ (lE x.1).length ∧ ∀ (i : Nat), i < (lE (takeS
 x.1 x.2)).length → [AV.int .i64 ((lE x.1).getD i 0)] = [AV.int .i64 ((lE (takeS x.1 x.2)).getD i 0)]) ∧ ((3 : TypeId) = 3 ∧ (1 : Nat) = 1 ∧ y = g_1.val.2.2.2 ∧
 (lW (takeS x.1 x.2)).length ≤ x_2.2.1.length + 1 ∧ ∀ (i : Nat), i < (lW (takeS x.1 x.2)).length → [AV.int .i64 ((insI x_2.2.1 x_2.2.2.2).getD i 0)] = [AV.int
 .i64 ((lW (takeS x.1 x.2)).getD i 0)]) ∧ True) ∧ (((Tr 1 ((freeL x_1).getD (0 + Int.toNat 0) 0 = takeAt x.1 x.2) ∧ Tr 1 ((0 : Int) = takeErr x.1 x.2) ∧ True) ∧
 True) ∧ refB (takeS x.1 x.2) = refB (takeS x.1 x.2) ∧ true = true ∧ True) ∧ True)) ∧ ((0 + Int.toNat 0 < (freeL x_1).length ∧ Exx (Nat × List Int × Int × Int)
 fun x_2 => (((true = true ∧ NilNil ∧ (0 : Nat) = 0 ∧ (1 : Nat) = 1 ∧ (0 : Nat) = 0 ∧ (lC x.1).length = x_2.2.1.length ∧ g.val.1 = x_2.1) ∧ Tr 1 ((↑x.1.n : Int)
 = x_2.2.2.1) ∧ Tr 1 ((freeL x_1).getD (0 + Int.toNat 0) 0 = x_2.2.2.2) ∧ True) ∧ true = true ∧ ((3 : TypeId) = 3 ∧ (1 : Nat) = 1 ∧ g.val.1 = x_2.1 ∧
 x_2.2.1.length ≤ (lC x.1).length ∧ ∀ (i : Nat), i < x_2.2.1.length → [AV.int .i64 ((lC x.1).getD i 0)] = [AV.int .i64 (x_2.2.1.getD i 0)]) ∧ True) ∧ (Ints
 x_2.2.1 ∧ x_2.2.1.length ≤ x_2.1 ∧ x_2.1 ≤ 9223372036854775807 ∧ I64 x_2.2.2.1 ∧ I64 x_2.2.2.2 ∧ List.Pairwise (fun x1 x2 => x1 < x2) x_2.2.1) ∧ (x_2.2.2.2 < (0
 : Int) ∨ x_2.2.2.1 ≤ x_2.2.2.2 ∨ x_2.2.2.2 ∈ x_2.2.1 → ∀ (y : Unit), True → ((0 : Int) ≤ (0 : Int) ∧ (0 : Int) < (↑(freeL x_1).length : Int)) ∧ 0 + Int.toNat 0
 < (freeL x_1).length ∧ Exx Unit fun y => Exx (Subtype (RCap (takeS x.1 x.2) false true true)) fun g_1 => Tr 1 (((38 : TypeId) = 38 ∧ Tr 1 ((↑x.1.n : Int) =
 (↑(takeS x.1 x.2).n : Int)) ∧ Tr 1 (x.1.r = (takeS x.1 x.2).r) ∧ (true = true ∧ NilNil ∧ (0 : Nat) = 0 ∧ (1 : Nat) = 1 ∧ (0 : Nat) = 0 ∧ (lC x.1).length = (lC
 (takeS x.1 x.2)).length ∧ g.val.1 = g_1.val.1) ∧ (true = true ∧ NilNil ∧ (0 : Nat) = 0 ∧ (1 : Nat) = 1 ∧ (0 : Nat) = 0 ∧ (lE x.1).length = (lE (takeS x.1
 x.2)).length ∧ g.val.2.1 = g_1.val.2.1) ∧ (true = true ∧ NilNil ∧ (0 : Nat) = 0 ∧ (1 : Nat) = 1 ∧ (0 : Nat) = 0 ∧ (lC x.1).length = (lC (takeS x.1 x.2)).length
 ∧ g.val.1 = g_1.val.1) ∧ (true = true ∧ NilNil ∧ (0 : Nat) = 0 ∧ (1 : Nat) = 1 ∧ (0 : Nat) = 0 ∧ x_2.2.1.length = (lC (takeS x.1 x.2)).length ∧ x_2.1 =
 g_1.val.1) ∧ True) ∧ ((3 : TypeId) = 3 ∧ (1 : Nat) = 1 ∧ x_2.1 = g_1.val.1 ∧ (lC (takeS x.1 x.2)).length ≤ x_2.2.1.length ∧ ∀ (i : Nat), i < (lC (takeS x.1
 x.2)).length → [AV.int .i64 (x_2.2.1.getD i 0)] = [AV.int .i64 ((lC (takeS x.1 x.2)).getD i 0)]) ∧ ((3 : TypeId) = 3 ∧ (1 : Nat) = 1 ∧ g.val.2.1 = g_1.val.2.1 ∧
 (lE (takeS x.1 x.2)).length ≤ (lE x.1).length ∧ ∀ (i : Nat), i < (lE (takeS x.1 x.2)).length → [AV.int .i64 ((lE x.1).getD i 0)] = [AV.int .i64 ((lE (takeS x.1
 x.2)).getD i 0)]) ∧ True) ∧ (((Tr 1 ((freeL x_1).getD (0 + Int.toNat 0) 0 = takeAt x.1 x.2) ∧ Tr 1 ((0 : Int) = takeErr x.1 x.2) ∧ True) ∧ True) ∧ refB (takeS
 x.1 x.2) = refB (takeS x.1 x.2) ∧ true = true ∧ True) ∧ True) ∧ (¬refAddI.p x_2 → ∀ (y : Nat), x_2.2.1.length + 1 ≤ y ∧ y ≤ 9223372036854775807 → ((0 : Int) ≤
 (0 : Int) ∧ (0 : Int) < (↑(freeL x_1).length : Int)) ∧ 0 + Int.toNat 0 < (freeL x_1).length ∧ Exx Unit fun y_1 => Exx (Subtype (RCap (takeS x.1 x.2) false true
 false)) fun g_1 => Tr 1 (((38 : TypeId) = 38 ∧ Tr 1 ((↑x.1.n : Int) = (↑(takeS x.1 x.2).n : Int)) ∧ Tr 1 (x.1.r = (takeS x.1 x.2).r) ∧ (true = true ∧ NilNil ∧
 (0 : Nat) = 0 ∧ (1 : Nat) = 1 ∧ (0 : Nat) = 0 ∧ (lC x.1).length = (lC (takeS x.1 x.2)).length ∧ g.val.1 = g_1.val.1) ∧ (true = true ∧ NilNil ∧ (0 : Nat) = 0 ∧
 (1 : Nat) = 1 ∧ (0 : Nat) = 0 ∧ (lE x.1).length = (lE (takeS x.1 x.2)).length ∧ g.val.2.1 = g_1.val.2.1) ∧ (true = true ∧ NilNil ∧ (0 : Nat) = 0 ∧ (1 : Nat) = 1
 ∧ (0 : Nat) = 0 ∧ (lC x.1).length = (lC (takeS x.1 x.2)).length ∧ g.val.1 = g_1.val.1) ∧ (true = true ∧ NilNil ∧ (0 : Nat) = 0 ∧ (1 : Nat) = 1 ∧ (0 : Nat) = 0 ∧
 x_2.2.1.length + 1 = (lW (takeS x.1 x.2)).length ∧ y = g_1.val.2.2.2) ∧ True) ∧ ((3 : TypeId) = 3 ∧ (1 : Nat) = 1 ∧ x_2.1 = g_1.val.1 ∧ (lC (takeS x.1
 x.2)).length ≤ x_2.2.1.length ∧ ∀ (i : Nat), i < (lC (takeS x.1 x.2)).length → [AV.int .i64 (x_2.2.1.getD i 0)] = [AV.int .i64 ((lC (takeS x.1 x.2)).getD i 0)])
 ∧ ((3 : TypeId) = 3 ∧ (1 : Nat) = 1 ∧ g.val.2.1 = g_1.val.2.1 ∧ (lE (takeS x.1 x.2)).length ≤ (lE x.1).length ∧ ∀ (i : Nat), i < (lE (takeS x.1 x.2)).length →
 [AV.int .i64 ((lE x.1).getD i 0)] = [AV.int .i64 ((lE (takeS x.1 x.2)).getD i 0)]) ∧ ((3 : TypeId) = 3 ∧ (1 : Nat) = 1 ∧ y = g_1.val.2.2.2 ∧ (lW (takeS x.1
 x.2)).length ≤ x_2.2.1.length + 1 ∧ ∀ (i : Nat), i < (lW (takeS x.1 x.2)).length → [AV.int .i64 ((insI x_2.2.1 x_2.2.2.2).getD i 0)] = [AV.int .i64 ((lW (takeS
 x.1 x.2)).getD i 0)]) ∧ True) ∧ (((Tr 1 ((freeL x_1).getD (0 + Int.toNat 0) 0 = takeAt x.1 x.2) ∧ Tr 1 ((0 : Int) = takeErr x.1 x.2) ∧ True) ∧ True) ∧ refB
 (takeS x.1 x.2) = refB (takeS x.1 x.2) ∧ true = true ∧ True) ∧ True)) ∧ 0 + Int.toNat 0 < (freeL x_1).length ∧ Exx (Nat × List Int × Int × Int) fun x_2 =>
 (((true = true ∧ NilNil ∧ (0 : Nat) = 0 ∧ (1 : Nat) = 1 ∧ (0 : Nat) = 0 ∧ (lC x.1).length = x_2.2.1.length ∧ g.val.1 = x_2.1) ∧ Tr 1 ((↑x.1.n : Int) =
 x_2.2.2.1) ∧ Tr 1 ((freeL x_1).getD (0 + Int.toNat 0) 0 = x_2.2.2.2) ∧ True) ∧ true = true ∧ ((3 : TypeId) = 3 ∧ (1 : Nat) = 1 ∧ g.val.1 = x_2.1 ∧
 x_2.2.1.length ≤ (lC x.1).length ∧ ∀ (i : Nat), i < x_2.2.1.length → [AV.int .i64 ((lC x.1).getD i 0)] = [AV.int .i64 (x_2.2.1.getD i 0)]) ∧ True) ∧ (Ints
 x_2.2.1 ∧ x_2.2.1.length ≤ x_2.1 ∧ x_2.1 ≤ 9223372036854775807 ∧ I64 x_2.2.2.1 ∧ I64 x_2.2.2.2 ∧ List.Pairwise (fun x1 x2 => x1 < x2) x_2.2.1) ∧ (x_2.2.2.2 < (0
 : Int) ∨ x_2.2.2.1 ≤ x_2.2.2.2 ∨ x_2.2.2.2 ∈ x_2.2.1 → ∀ (y : Unit), True → ((0 : Int) ≤ (0 : Int) ∧ (0 : Int) < (↑(freeL x_1).length : Int)) ∧ 0 + Int.toNat 0
 < (freeL x_1).length ∧ Exx Unit fun y => Exx (Subtype (RCap (takeS x.1 x.2) false true true)) fun g_1 => Tr 1 (((38 : TypeId) = 38 ∧ Tr 1 ((↑x.1.n : Int) =
 (↑(takeS x.1 x.2).n : Int)) ∧ Tr 1 (x.1.r = (takeS x.1 x.2).r) ∧ (true = true ∧ NilNil ∧ (0 : Nat) = 0 ∧ (1 : Nat) = 1 ∧ (0 : Nat) = 0 ∧ (lC x.1).length = (lC
 (takeS x.1 x.2)).length ∧ g.val.1 = g_1.val.1) ∧ (true = true ∧ NilNil ∧ (0 : Nat) = 0 ∧ (1 : Nat) = 1 ∧ (0 : Nat) = 0 ∧ (lE x.1).length = (lE (takeS x.1
 x.2)).length ∧ g.val.2.1 = g_1.val.2.1) ∧ (true = true ∧ NilNil ∧ (0 : Nat) = 0 ∧ (1 : Nat) = 1 ∧ (0 : Nat) = 0 ∧ (lC x.1).length = (lC (takeS x.1 x.2)).length
 ∧ g.val.1 = g_1.val.1) ∧ (true = true ∧ NilNil ∧ (0 : Nat) = 0 ∧ (1 : Nat) = 1 ∧ (0 : Nat) = 0 ∧ x_2.2.1.length = (lC (takeS x.1 x.2)).length ∧ x_2.1 =
 g_1.val.1) ∧ True) ∧ ((3 : TypeId) = 3 ∧ (1 : Nat) = 1 ∧ x_2.1 = g_1.val.1 ∧ (lC (takeS x.1 x.2)).length ≤ x_2.2.1.length ∧ ∀ (i : Nat), i < (lC (takeS x.1
 x.2)).length → [AV.int .i64 (x_2.2.1.getD i 0)] = [AV.int .i64 ((lC (takeS x.1 x.2)).getD i 0)]) ∧ ((3 : TypeId) = 3 ∧ (1 : Nat) = 1 ∧ g.val.2.1 = g_1.val.2.1 ∧
 (lE (takeS x.1 x.2)).length ≤ (lE x.1).length ∧ ∀ (i : Nat), i < (lE (takeS x.1 x.2)).length → [AV.int .i64 ((lE x.1).getD i 0)] = [AV.int .i64 ((lE (takeS x.1
 x.2)).getD i 0)]) ∧ True) ∧ (((Tr 1 ((freeL x_1).getD (0 + Int.toNat 0) 0 = takeAt x.1 x.2) ∧ Tr 1 ((0 : Int) = takeErr x.1 x.2) ∧ True) ∧ True) ∧ refB (takeS
 x.1 x.2) = refB (takeS x.1 x.2) ∧ true = true ∧ True) ∧ True) ∧ (¬refAddI.p x_2 → ∀ (y : Nat), x_2.2.1.length + 1 ≤ y ∧ y ≤ 9223372036854775807 → ((0 : Int) ≤
 (0 : Int) ∧ (0 : Int) < (↑(freeL x_1).length : Int)) ∧ 0 + Int.toNat 0 < (freeL x_1).length ∧ Exx Unit fun y_1 => Exx (Subtype (RCap (takeS x.1 x.2) false true
 false)) fun g_1 => Tr 1 (((38 : TypeId) = 38 ∧ Tr 1 ((↑x.1.n : Int) = (↑(takeS x.1 x.2).n : Int)) ∧ Tr 1 (x.1.r = (takeS x.1 x.2).r) ∧ (true = true ∧ NilNil ∧
 (0 : Nat) = 0 ∧ (1 : Nat) = 1 ∧ (0 : Nat) = 0 ∧ (lC x.1).length = (lC (takeS x.1 x.2)).length ∧ g.val.1 = g_1.val.1) ∧ (true = true ∧ NilNil ∧ (0 : Nat) = 0 ∧
 (1 : Nat) = 1 ∧ (0 : Nat) = 0 ∧ (lE x.1).length = (lE (takeS x.1 x.2)).length ∧ g.val.2.1 = g_1.val.2.1) ∧ (true = true ∧ NilNil ∧ (0 : Nat) = 0 ∧ (1 : Nat) = 1
 ∧ (0 : Nat) = 0 ∧ (lC x.1).length = (lC (takeS x.1 x.2)).length ∧ g.val.1 = g_1.val.1) ∧ (true = true ∧ NilNil ∧ (0 : Nat) = 0 ∧ (1 : Nat) = 1 ∧ (0 : Nat) = 0 ∧
 x_2.2.1.length + 1 = (lW (takeS x.1 x.2)).length ∧ y = g_1.val.2.2.2) ∧ True) ∧ ((3 : TypeId) = 3 ∧ (1 : Nat) = 1 ∧ x_2.1 = g_1.val.1 ∧ (lC (takeS x.1
 x.2)).length ≤ x_2.2.1.length ∧ ∀ (i : Nat), i < (lC (takeS x.1 x.2)).length → [AV.int .i64 (x_2.2.1.getD i 0)] = [AV.int .i64 ((lC (takeS x.1 x.2)).getD i 0)])
 ∧ ((3 : TypeId) = 3 ∧ (1 : Nat) = 1 ∧ g.val.2.1 = g_1.val.2.1 ∧ (lE (takeS x.1 x.2)).length ≤ (lE x.1).length ∧ ∀ (i : Nat), i < (lE (takeS x.1 x.2)).length →
 [AV.int .i64 ((lE x.1).getD i 0)] = [AV.int .i64 ((lE (takeS x.1 x.2)).getD i 0)]) ∧ ((3 : TypeId) = 3 ∧ (1 : Nat) = 1 ∧ y = g_1.val.2.2.2 ∧ (lW (takeS x.1
 x.2)).length ≤ x_2.2.1.length + 1 ∧ ∀ (i : Nat), i < (lW (takeS x.1 x.2)).length → [AV.int .i64 ((insI x_2.2.1 x_2.2.2.2).getD i 0)] = [AV.int .i64 ((lW (takeS
 x.1 x.2)).getD i 0)]) ∧ True) ∧ (((Tr 1 ((freeL x_1).getD (0 + Int.toNat 0) 0 = takeAt x.1 x.2) ∧ Tr 1 ((0 : Int) = takeErr x.1 x.2) ∧ True) ∧ True) ∧ refB
 (takeS x.1 x.2) = refB (takeS x.1 x.2) ∧ true = true ∧ True) ∧ True)) ∧ 0 + Int.toNat 0 < (freeL x_1).length ∧ (Exx (Nat × List Int × Int × Int) fun x_2 =>
 (((true = true ∧ NilNil ∧ (0 : Nat) = 0 ∧ (1 : Nat) = 1 ∧ (0 : Nat) = 0 ∧ (lC x.1).length = x_2.2.1.length ∧ g.val.1 = x_2.1) ∧ Tr 1 ((↑x.1.n : Int) =
 x_2.2.2.1) ∧ Tr 1 ((freeL x_1).getD (0 + Int.toNat 0) 0 = x_2.2.2.2) ∧ True) ∧ true = true ∧ ((3 : TypeId) = 3 ∧ (1 : Nat) = 1 ∧ g.val.1 = x_2.1 ∧
 x_2.2.1.length ≤ (lC x.1).length ∧ ∀ (i : Nat), i < x_2.2.1.length → [AV.int .i64 ((lC x.1).getD i 0)] = [AV.int .i64 (x_2.2.1.getD i 0)]) ∧ True) ∧ (Ints
 x_2.2.1 ∧ x_2.2.1.length ≤ x_2.1 ∧ x_2.1 ≤ 9223372036854775807 ∧ I64 x_2.2.2.1 ∧ I64 x_2.2.2.2 ∧ List.Pairwise (fun x1 x2 => x1 < x2) x_2.2.1) ∧ (x_2.2.2.2 < (0
 : Int) ∨ x_2.2.2.1 ≤ x_2.2.2.2 ∨ x_2.2.2.2 ∈ x_2.2.1 → ∀ (y : Unit), True → ((0 : Int) ≤ (0 : Int) ∧ (0 : Int) < (↑(freeL x_1).length : Int)) ∧ 0 + Int.toNat 0
 < (freeL x_1).length ∧ Exx Unit fun y => Exx (Subtype (RCap (takeS x.1 x.2) false true true)) fun g_1 => Tr 1 (((38 : TypeId) = 38 ∧ Tr 1 ((↑x.1.n : Int) =
 (↑(takeS x.1 x.2).n : Int)) ∧ Tr 1 (x.1.r = (takeS x.1 x.2).r) ∧ (true = true ∧ NilNil ∧ (0 : Nat) = 0 ∧ (1 : Nat) = 1 ∧ (0 : Nat) = 0 ∧ (lC x.1).length = (lC
 (takeS x.1 x.2)).length ∧ g.val.1 = g_1.val.1) ∧ (true = true ∧ NilNil ∧ (0 : Nat) = 0 ∧ (1 : Nat) = 1 ∧ (0 : Nat) = 0 ∧ (lE x.1).length = (lE (takeS x.1
 x.2)).length ∧ g.val.2.1 = g_1.val.2.1) ∧ (true = true ∧ NilNil ∧ (0 : Nat) = 0 ∧ (1 : Nat) = 1 ∧ (0 : Nat) = 0 ∧ (lC x.1).length = (lC (takeS x.1 x.2)).length
 ∧ g.val.1 = g_1.val.1) ∧ (true = true ∧ NilNil ∧ (0 : Nat) = 0 ∧ (1 : Nat) = 1 ∧ (0 : Nat) = 0 ∧ x_2.2.1.length = (lC (takeS x.1 x.2)).length ∧ x_2.1 =
 g_1.val.1) ∧ True) ∧ ((3 : TypeId) = 3 ∧ (1 : Nat) = 1 ∧ x_2.1 = g_1.val.1 ∧ (lC (takeS x.1 x.2)).length ≤ x_2.2.1.length ∧ ∀ (i : Nat), i < (lC (takeS x.1
 x.2)).length → [AV.int .i64 (x_2.2.1.getD i 0)] = [AV.int .i64 ((lC (takeS x.1 x.2)).getD i 0)]) ∧ ((3 : TypeId) = 3 ∧ (1 : Nat) = 1 ∧ g.val.2.1 = g_1.val.2.1 ∧
 (lE (takeS x.1 x.2)).length ≤ (lE x.1).length ∧ ∀ (i : Nat), i < (lE (takeS x.1 x.2)).length → [AV.int .i64 ((lE x.1).getD i 0)] = [AV.int .i64 ((lE (takeS x.1
 x.2)).getD i 0)]) ∧ True) ∧ (((Tr 1 ((freeL x_1).getD (0 + Int.toNat 0) 0 = takeAt x.1 x.2) ∧ Tr 1 ((0 : Int) = takeErr x.1 x.2) ∧ True) ∧ True) ∧ refB (takeS
 x.1 x.2) = refB (takeS x.1 x.2) ∧ true = true ∧ True) ∧ True) ∧ (¬refAddI.p x_2 → ∀ (y : Nat), x_2.2.1.length + 1 ≤ y ∧ y ≤ 9223372036854775807 → ((0 : Int) ≤
 (0 : Int) ∧ (0 : Int) < (↑(freeL x_1).length : Int)) ∧ 0 + Int.toNat 0 < (freeL x_1).length ∧ Exx Unit fun y_1 => Exx (Subtype (RCap (takeS x.1 x.2) false true
 false)) fun g_1 => Tr 1 (((38 : TypeId) = 38 ∧ Tr 1 ((↑x.1.n : Int) = (↑(takeS x.1 x.2).n : Int)) ∧ Tr 1 (x.1.r = (takeS x.1 x.2).r) ∧ (true = true ∧ NilNil ∧
 (0 : Nat) = 0 ∧ (1 : Nat) = 1 ∧ (0 : Nat) = 0 ∧ (lC x.1).length = (lC (takeS x.1 x.2)).length ∧ g.val.1 = g_1.val.1) ∧ (true = true ∧ NilNil ∧ (0 : Nat) = 0 ∧
 (1 : Nat) = 1 ∧ (0 : Nat) = 0 ∧ (lE x.1).length = (lE (takeS x.1 x.2)).length ∧ g.val.2.1 = g_1.val.2.1) ∧ (true = true ∧ NilNil ∧ (0 : Nat) = 0 ∧ (1 : Nat) = 1
 ∧ (0 : Nat) = 0 ∧ (lC x.1).length = (lC (takeS x.1 x.2)).length ∧ g.val.1 = g_1.val.1) ∧ (true = true ∧ NilNil ∧ (0 : Nat) = 0 ∧ (1 : Nat) = 1 ∧ (0 : Nat) = 0 ∧
 x_2.2.1.length + 1 = (lW (takeS x.1 x.2)).length ∧ y = g_1.val.2.2.2) ∧ True) ∧ ((3 : TypeId) = 3 ∧ (1 : Nat) = 1 ∧ x_2.1 = g_1.val.1 ∧ (lC (takeS x.1
 x.2)).length ≤ x_2.2.1.length ∧ ∀ (i : Nat), i < (lC (takeS x.1 x.2)).length → [AV.int .i64 (x_2.2.1.getD i 0)] = [AV.int .i64 ((lC (takeS x.1 x.2)).getD i 0)])
 ∧ ((3 : TypeId) = 3 ∧ (1 : Nat) = 1 ∧ g.val.2.1 = g_1.val.2.1 ∧ (lE (takeS x.1 x.2)).length ≤ (lE x.1).length ∧ ∀ (i : Nat), i < (lE (takeS x.1 x.2)).length →
 [AV.int .i64 ((lE x.1).getD i 0)] = [AV.int .i64 ((lE (takeS x.1 x.2)).getD i 0)]) ∧ ((3 : TypeId) = 3 ∧ (1 : Nat) = 1 ∧ y = g_1.val.2.2.2 ∧ (lW (takeS x.1
 x.2)).length ≤ x_2.2.1.length + 1 ∧ ∀ (i : Nat), i < (lW (takeS x.1 x.2)).length → [AV.int .i64 ((insI x_2.2.1 x_2.2.2.2).getD i 0)] = [AV.int .i64 ((lW (takeS
 x.1 x.2)).getD i 0)]) ∧ True) ∧ (((Tr 1 ((freeL x_1).getD (0 + Int.toNat 0) 0 = takeAt x.1 x.2) ∧ Tr 1 ((0 : Int) = takeErr x.1 x.2) ∧ True) ∧ True) ∧ refB
 (takeS x.1 x.2) = refB (takeS x.1 x.2) ∧ true = true ∧ True) ∧ True)) ∧ Exx (Nat × List Int × Int × Int) fun x_2 => (((true = true ∧ NilNil ∧ (0 : Nat) = 0 ∧ (1
 : Nat) = 1 ∧ (0 : Nat) = 0 ∧ (lC x.1).length = x_2.2.1.length ∧ g.val.1 = x_2.1) ∧ Tr 1 ((↑x.1.n : Int) = x_2.2.2.1) ∧ Tr 1 ((freeL x_1).getD (0 + Int.toNat 0)
 0 = x_2.2.2.2) ∧ True) ∧ true = true ∧ ((3 : TypeId) = 3 ∧ (1 : Nat) = 1 ∧ g.val.1 = x_2.1 ∧ x_2.2.1.length ≤ (lC x.1).length ∧ ∀ (i : Nat), i < x_2.2.1.length
 → [AV.int .i64 ((lC x.1).getD i 0)] = [AV.int .i64 (x_2.2.1.getD i 0)]) ∧ True) ∧ (Ints x_2.2.1 ∧ x_2.2.1.length ≤ x_2.1 ∧ x_2.1 ≤ 9223372036854775807 ∧ I64
 x_2.2.2.1 ∧ I64 x_2.2.2.2 ∧ List.Pairwise (fun x1 x2 => x1 < x2) x_2.2.1) ∧ (x_2.2.2.2 < (0 : Int) ∨ x_2.2.2.1 ≤ x_2.2.2.2 ∨ x_2.2.2.2 ∈ x_2.2.1 → ∀ (y : Unit),
 True → ((0 : Int) ≤ (0 : Int) ∧ (0 : Int) < (↑(freeL x_1).length : Int)) ∧ 0 + Int.toNat 0 < (freeL x_1).length ∧ Exx Unit fun y => Exx (Subtype (RCap (takeS
 x.1 x.2) false true true)) fun g_1 => Tr 1 (((38 : TypeId) = 38 ∧ Tr 1 ((↑x.1.n : Int) = (↑(takeS x.1 x.2).n : Int)) ∧ Tr 1 (x.1.r = (takeS x.1 x.2).r) ∧ (true
 = true ∧ NilNil ∧ (0 : Nat) = 0 ∧ (1 : Nat) = 1 ∧ (0 : Nat) = 0 ∧ (lC x.1).length = (lC (takeS x.1 x.2)).length ∧ g.val.1 = g_1.val.1) ∧ (true = true ∧ NilNil ∧
 (0 : Nat) = 0 ∧ (1 : Nat) = 1 ∧ (0 : Nat) = 0 ∧ (lE x.1).length = (lE (takeS x.1 x.2)).length ∧ g.val.2.1 = g_1.val.2.1) ∧ (true = true ∧ NilNil ∧ (0 : Nat) = 0
 ∧ (1 : Nat) = 1 ∧ (0 : Nat) = 0 ∧ (lC x.1).length = (lC (takeS x.1 x.2)).length ∧ g.val.1 = g_1.val.1) ∧ (true = true ∧ NilNil ∧ (0 : Nat) = 0 ∧ (1 : Nat) = 1 ∧
 (0 : Nat) = 0 ∧ x_2.2.1.length = (lC (takeS x.1 x.2)).length ∧ x_2.1 = g_1.val.1) ∧ True) ∧ ((3 : TypeId) = 3 ∧ (1 : Nat) = 1 ∧ x_2.1 = g_1.val.1 ∧ (lC (takeS
 x.1 x.2)).length ≤ x_2.2.1.length ∧ ∀ (i : Nat), i < (lC (takeS x.1 x.2)).length → [AV.int .i64 (x_2.2.1.getD i 0)] = [AV.int .i64 ((lC (takeS x.1 x.2)).getD i
 0)]) ∧ ((3 : TypeId) = 3 ∧ (1 : Nat) = 1 ∧ g.val.2.1 = g_1.val.2.1 ∧ (lE (takeS x.1 x.2)).length ≤ (lE x.1).length ∧ ∀ (i : Nat), i < (lE (takeS x.1
 x.2)).length → [AV.int .i64 ((lE x.1).getD i 0)] = [AV.int .i64 ((lE (takeS x.1 x.2)).getD i 0)]) ∧ True) ∧ (((Tr 1 ((freeL x_1).getD (0 + Int.toNat 0) 0 =
 takeAt x.1 x.2) ∧ Tr 1 ((0 : Int) = takeErr x.1 x.2) ∧ True) ∧ True) ∧ refB (takeS x.1 x.2) = refB (takeS x.1 x.2) ∧ true = true ∧ True) ∧ True) ∧ (¬refAddI.p
 x_2 → ∀ (y : Nat), x_2.2.1.length + 1 ≤ y ∧ y ≤ 9223372036854775807 → ((0 : Int) ≤ (0 : Int) ∧ (0 : Int) < (↑(freeL x_1).length : Int)) ∧ 0 + Int.toNat 0 <
 (freeL x_1).length ∧ Exx Unit fun y_1 => Exx (Subtype (RCap (takeS x.1 x.2) false true false)) fun g_1 => Tr 1 (((38 : TypeId) = 38 ∧ Tr 1 ((↑x.1.n : Int) =
 (↑(takeS x.1 x.2).n : Int)) ∧ Tr 1 (x.1.r = (takeS x.1 x.2).r) ∧ (true = true ∧ NilNil ∧ (0 : Nat) = 0 ∧ (1 : Nat) = 1 ∧ (0 : Nat) = 0 ∧ (lC x.1).length = (lC
 (takeS x.1 x.2)).length ∧ g.val.1 = g_1.val.1) ∧ (true = true ∧ NilNil ∧ (0 : Nat) = 0 ∧ (1 : Nat) = 1 ∧ (0 : Nat) = 0 ∧ (lE x.1).length = (lE (takeS x.1
 x.2)).length ∧ g.val.2.1 = g_1.val.2.1) ∧ (true = true ∧ NilNil ∧ (0 : Nat) = 0 ∧ (1 : Nat) = 1 ∧ (0 : Nat) = 0 ∧ (lC x.1).length = (lC (takeS x.1 x.2)).length
 ∧ g.val.1 = g_1.val.1) ∧ (true = true ∧ NilNil ∧ (0 : Nat) = 0 ∧ (1 : Nat) = 1 ∧ (0 : Nat) = 0 ∧ x_2.2.1.length + 1 = (lW (takeS x.1 x.2)).length ∧ y =
 g_1.val.2.2.2) ∧ True) ∧ ((3 : TypeId) = 3 ∧ (1 : Nat) = 1 ∧ x_2.1 = g_1.val.1 ∧ (lC (takeS x.1 x.2)).length ≤ x_2.2.1.length ∧ ∀ (i : Nat), i < (lC (takeS x.1
 x.2)).length → [AV.int .i64 (x_2.2.1.getD i 0)] = [AV.int .i64 ((lC (takeS x.1 x.2)).getD i 0)]) ∧ ((3 : TypeId) = 3 ∧ (1 : Nat) = 1 ∧ g.val.2.1 = g_1.val.2.1 ∧
 (lE (takeS x.1 x.2)).length ≤ (lE x.1).length ∧ ∀ (i : Nat), i < (lE (takeS x.1 x.2)).length → [AV.int .i64 ((lE x.1).getD i 0)] = [AV.int .i64 ((lE (takeS x.1
 x.2)).getD i 0)]) ∧ ((3 : TypeId) = 3 ∧ (1 : Nat) = 1 ∧ y = g_1.val.2.2.2 ∧ (lW (takeS x.1 x.2)).length ≤ x_2.2.1.length + 1 ∧ ∀ (i : Nat), i < (lW (takeS x.1
 x.2)).length → [AV.int .i64 ((insI x_2.2.1 x_2.2.2.2).getD i 0)] = [AV.int .i64 ((lW (takeS x.1 x.2)).getD i 0)]) ∧ True) ∧ (((Tr 1 ((freeL x_1).getD (0 +
 Int.toNat 0) 0 = takeAt x.1 x.2) ∧ Tr 1 ((0 : Int) = takeErr x.1 x.2) ∧ True) ∧ True) ∧ refB (takeS x.1 x.2) = refB (takeS x.1 x.2) ∧ true = true ∧ True) ∧
 True)) ∧ (∀ (g : Subtype (RCap x.1 false true false)), ((0 : Int) ≤ (0 : Int) ∧ (0 : Int) < (↑(freeL x_1).length : Int)) ∧ ((0 + Int.toNat 0 < (freeL
 x_1).length ∧ Exx (Nat × List Int × Int × Int) fun x_2 => (((true = true ∧ NilNil ∧ (0 : Nat) = 0 ∧ (1 : Nat) = 1 ∧ (0 : Nat) = 0 ∧ (lW x.1).length =
 x_2.2.1.length ∧ g.val.2.2.2 = x_2.1) ∧ Tr 1 ((↑x.1.n : Int) = x_2.2.2.1) ∧ Tr 1 ((freeL x_1).getD (0 + Int.toNat 0) 0 = x_2.2.2.2) ∧ True) ∧ true = true ∧ ((3
 : TypeId) = 3 ∧ (1 : Nat) = 1 ∧ g.val.2.2.2 = x_2.1 ∧ x_2.2.1.length ≤ (lW x.1).length ∧ ∀ (i : Nat), i < x_2.2.1.length → [AV.int .i64 ((lW x.1).getD i 0)] =
 [AV.int .i64 (x_2.2.1.getD i 0)]) ∧ True) ∧ (Ints x_2.2.1 ∧ x_2.2.1.length ≤ x_2.1 ∧ x_2.1 ≤ 9223372036854775807 ∧ I64 x_2.2.2.1 ∧ I64 x_2.2.2.2 ∧ List.Pairwise
 (fun x1 x2 => x1 < x2) x_2.2.1) ∧ (x_2.2.2.2 < (0 : Int) ∨ x_2.2.2.1 ≤ x_2.2.2.2 ∨ x_2.2.2.2 ∈ x_2.2.1 → ∀ (y : Unit), True → ((0 : Int) ≤ (0 : Int) ∧ (0 : Int)
 < (↑(freeL x_1).length : Int)) ∧ 0 + Int.toNat 0 < (freeL x_1).length ∧ Exx Unit fun y => Exx (Subtype (RCap (takeS x.1 x.2) false true false)) fun g_1 => Tr 1
 (((38 : TypeId) = 38 ∧ Tr 1 ((↑x.1.n : Int) = (↑(takeS x.1 x.2).n : Int)) ∧ Tr 1 (x.1.r = (takeS x.1 x.2).r) ∧ (true = true ∧ NilNil ∧ (0 : Nat) = 0 ∧ (1 : Nat)
 = 1 ∧ (0 : Nat) = 0 ∧ (lC x.1).length = (lC (takeS x.1 x.2)).length ∧ g.val.1 = g_1.val.1) ∧ (true = true ∧ NilNil ∧ (0 : Nat) = 0 ∧ (1 : Nat) = 1 ∧ (0 : Nat) =
 0 ∧ (lE x.1).length = (lE (takeS x.1 x.2)).length ∧ g.val.2.1 = g_1.val.2.1) ∧ (true = true ∧ NilNil ∧ (0 : Nat) = 0 ∧ (1 : Nat) = 1 ∧ (0 : Nat) = 0 ∧ (lC
 x.1).length = (lC (takeS x.1 x.2)).length ∧ g.val.1 = g_1.val.1) ∧ (true = true ∧ NilNil ∧ (0 : Nat) = 0 ∧ (1 : Nat) = 1 ∧ (0 : Nat) = 0 ∧ x_2.2.1.length = (lW
 (takeS x.1 x.2)).length ∧ x_2.1 = g_1.val.2.2.2) ∧ True) ∧ ((3 : TypeId) = 3 ∧ (1 : Nat) = 1 ∧ g.val.1 = g_1.val.1 ∧ (lC (takeS x.1 x.2)).length ≤ (lC
 x.1).length ∧ ∀ (i : Nat), i < (lC (takeS x.1 x.2)).length → [AV.int .i64 ((lC x.1).getD i 0)] = [AV.int .i64 ((lC (takeS x.1 x.2)).getD i 0)]) ∧ ((3 : TypeId)
 = 3 ∧ (1 : Nat) = 1 ∧ g.val.2.1 = g_1.val.2.1 ∧ (lE (takeS x.1 x.2)).length ≤ (lE x.1).length ∧ ∀ (i : Nat), i < (lE (takeS x.1 x.2)).length → [AV.int .i64 ((lE
 x.1).getD i 0)] = [AV.int .i64 ((lE (takeS x.1 x.2)).getD i 0)]) ∧ ((3 : TypeId) = 3 ∧ (1 : Nat) = 1 ∧ x_2.1 = g_1.val.2.2.2 ∧ (lW (takeS x.1 x.2)).length ≤
 x_2.2.1.length ∧ ∀ (i : Nat), i < (lW (takeS x.1 x.2)).length → [AV.int .i64 (x_2.2.1.getD i 0)] = [AV.int .i64 ((lW (takeS x.1 x.2)).getD i 0)]) ∧ True) ∧
 (((Tr 1 ((freeL x_1).getD (0 + Int.toNat 0) 0 = takeAt x.1 x.2) ∧ Tr 1 ((0 : Int) = takeErr x.1 x.2) ∧ True) ∧ True) ∧ refB (takeS x.1 x.2) = refB (takeS x.1
 x.2) ∧ true = true ∧ True) ∧ True) ∧ (¬refAddI.p x_2 → ∀ (y : Nat), x_2.2.1.length + 1 ≤ y ∧ y ≤ 9223372036854775807 → ((0 : Int) ≤ (0 : Int) ∧ (0 : Int) <
 (↑(freeL x_1).length : Int)) ∧ 0 + Int.toNat 0 < (freeL x_1).length ∧ Exx Unit fun y_1 => Exx (Subtype (RCap (takeS x.1 x.2) false true false)) fun g_1 => Tr 1
 (((38 : TypeId) = 38 ∧ Tr 1 ((↑x.1.n : Int) = (↑(takeS x.1 x.2).n : Int)) ∧ Tr 1 (x.1.r = (takeS x.1 x.2).r) ∧ (true = true ∧ NilNil ∧ (0 : Nat) = 0 ∧ (1 : Nat)
 = 1 ∧ (0 : Nat) = 0 ∧ (lC x.1).length = (lC (takeS x.1 x.2)).length ∧ g.val.1 = g_1.val.1) ∧ (true = true ∧ NilNil ∧ (0 : Nat) = 0 ∧ (1 : Nat) = 1 ∧ (0 : Nat) =
 0 ∧ (lE x.1).length = (lE (takeS x.1 x.2)).length ∧ g.val.2.1 = g_1.val.2.1) ∧ (true = true ∧ NilNil ∧ (0 : Nat) = 0 ∧ (1 : Nat) = 1 ∧ (0 : Nat) = 0 ∧ (lC
 x.1).length = (lC (takeS x.1 x.2)).length ∧ g.val.1 = g_1.val.1) ∧ (true = true ∧ NilNil ∧ (0 : Nat) = 0 ∧ (1 : Nat) = 1 ∧ (0 : Nat) = 0 ∧ x_2.2.1.length + 1 =
 (lW (takeS x.1 x.2)).length ∧ y = g_1.val.2.2.2) ∧ True) ∧ ((3 : TypeId) = 3 ∧ (1 : Nat) = 1 ∧ g.val.1 = g_1.val.1 ∧ (lC (takeS x.1 x.2)).length ≤ (lC
 x.1).length ∧ ∀ (i : Nat), i < (lC (takeS x.1 x.2)).length → [AV.int .i64 ((lC x.1).getD i 0)] = [AV.int .i64 ((lC (takeS x.1 x.2)).getD i 0)]) ∧ ((3 : TypeId)
 = 3 ∧ (1 : Nat) = 1 ∧ g.val.2.1 = g_1.val.2.1 ∧ (lE (takeS x.1 x.2)).length ≤ (lE x.1).length ∧ ∀ (i : Nat), i < (lE (takeS x.1 x.2)).length → [AV.int .i64 ((lE
 x.1).getD i 0)] = [AV.int .i64 ((lE (takeS x.1 x.2)).getD i 0)]) ∧ ((3 : TypeId) = 3 ∧ (1 : Nat) = 1 ∧ y = g_1.val.2.2.2 ∧ (lW (takeS x.1 x.2)).length ≤
 x_2.2.1.length + 1 ∧ ∀ (i : Nat), i < (lW (takeS x.1 x.2)).length → [AV.int .i64 ((insI x_2.2.1 x_2.2.2.2).getD i 0)] = [AV.int .i64 ((lW (takeS x.1 x.2)).getD
 i 0)]) ∧ True) ∧ (((Tr 1 ((freeL x_1).getD (0 + Int.toNat 0) 0 = takeAt x.1 x.2) ∧ Tr 1 ((0 : Int) = takeErr x.1 x.2) ∧ True) ∧ True) ∧ refB (takeS x.1 x.2) =
 refB (takeS x.1 x.2) ∧ true = true ∧ True) ∧ True)) ∧ 0 + Int.toNat 0 < (freeL x_1).length ∧ Exx (Nat × List Int × Int × Int) fun x_2 => (((true = true ∧ NilNil
 ∧ (0 : Nat) = 0 ∧ (1 : Nat) = 1 ∧ (0 : Nat) = 0 ∧ (lW x.1).length = x_2.2.1.length ∧ g.val.2.2.2 = x_2.1) ∧ Tr 1 ((↑x.1.n : Int) = x_2.2.2.1) ∧ Tr 1 ((freeL
 x_1).getD (0 + Int.toNat 0) 0 = x_2.2.2.2) ∧ True) ∧ true = true ∧ ((3 : TypeId) = 3 ∧ (1 : Nat) = 1 ∧ g.val.2.2.2 = x_2.1 ∧ x_2.2.1.length ≤ (lW x.1).length ∧
 ∀ (i : Nat), i < x_2.2.1.length → [AV.int .i64 ((lW x.1).getD i 0)] = [AV.int .i64 (x_2.2.1.getD i 0)]) ∧ True) ∧ (Ints x_2.2.1 ∧ x_2.2.1.length ≤ x_2.1 ∧ x_2.1
 ≤ 9223372036854775807 ∧ I64 x_2.2.2.1 ∧ I64 x_2.2.2.2 ∧ List.Pairwise (fun x1 x2 => x1 < x2) x_2.2.1) ∧ (x_2.2.2.2 < (0 : Int) ∨ x_2.2.2.1 ≤ x_2.2.2.2 ∨
 x_2.2.2.2 ∈ x_2.2.1 → ∀ (y : Unit), True → ((0 : Int) ≤ (0 : Int) ∧ (0 : Int) < (↑(freeL x_1).length : Int)) ∧ 0 + Int.toNat 0 < (freeL x_1).length ∧ Exx Unit
 fun y => Exx (Subtype (RCap (takeS x.1 x.2) false true false)) fun g_1 => Tr 1 (((38 : TypeId) = 38 ∧ Tr 1 ((↑x.1.n : Int) = (↑(takeS x.1 x.2).n : Int)) ∧ Tr 1
 (x.1.r = (takeS x.1 x.2).r) ∧ (true = true ∧ NilNil ∧ (0 : Nat) = 0 ∧ (1 : Nat) = 1 ∧ (0 : Nat) = 0 ∧ (lC x.1).length = (lC (takeS x.1 x.2)).length ∧ g.val.1 =
 g_1.val.1) ∧ (true = true ∧ NilNil ∧ (0 : Nat) = 0 ∧ (1 : Nat) = 1 ∧ (0 : Nat) = 0 ∧ (lE x.1).length = (lE (takeS x.1 x.2)).length ∧ g.val.2.1 = g_1.val.2.1) ∧
 (true = true ∧ NilNil ∧ (0 : Nat) = 0 ∧ (1 : Nat) = 1 ∧ (0 : Nat) = 0 ∧ (lC x.1).length = (lC (takeS x.1 x.2)).length ∧ g.val.1 = g_1.val.1) ∧ (true = true ∧
 NilNil ∧ (0 : Nat) = 0 ∧ (1 : Nat) = 1 ∧ (0 : Nat) = 0 ∧ x_2.2.1.length = (lW (takeS x.1 x.2)).length ∧ x_2.1 = g_1.val.2.2.2) ∧ True) ∧ ((3 : TypeId) = 3 ∧ (1
 : Nat) = 1 ∧ g.val.1 = g_1.val.1 ∧ (lC (takeS x.1 x.2)).length ≤ (lC x.1).length ∧ ∀ (i : Nat), i < (lC (takeS x.1 x.2)).length → [AV.int .i64 ((lC x.1).getD i
 0)] = [AV.int .i64 ((lC (takeS x.1 x.2)).getD i 0)]) ∧ ((3 : TypeId) = 3 ∧ (1 : Nat) = 1 ∧ g.val.2.1 = g_1.val.2.1 ∧ (lE (takeS x.1 x.2)).length ≤ (lE
 x.1).length ∧ ∀ (i : Nat), i < (lE (takeS x.1 x.2)).length → [AV.int .i64 ((lE x.1).getD i 0)] = [AV.int .i64 ((lE (takeS x.1 x.2)).getD i 0)]) ∧ ((3 : TypeId)
 = 3 ∧ (1 : Nat) = 1 ∧ x_2.1 = g_1.val.2.2.2 ∧ (lW (takeS x.1 x.2)).length ≤ x_2.2.1.length ∧ ∀ (i : Nat), i < (lW (takeS x.1 x.2)).length → [AV.int .i64
 (x_2.2.1.getD i 0)] = [AV.int .i64 ((lW (takeS x.1 x.2)).getD i 0)]) ∧ True) ∧ (((Tr 1 ((freeL x_1).getD (0 + Int.toNat 0) 0 = takeAt x.1 x.2) ∧ Tr 1 ((0 : Int)
 = takeErr x.1 x.2) ∧ True) ∧ True) ∧ refB (takeS x.1 x.2) = refB (takeS x.1 x.2) ∧ true = true ∧ True) ∧ True) ∧ (¬refAddI.p x_2 → ∀ (y : Nat), x_2.2.1.length +
 1 ≤ y ∧ y ≤ 9223372036854775807 → ((0 : Int) ≤ (0 : Int) ∧ (0 : Int) < (↑(freeL x_1).length : Int)) ∧ 0 + Int.toNat 0 < (freeL x_1).length ∧ Exx Unit fun y_1 =>
 Exx (Subtype (RCap (takeS x.1 x.2) false true false)) fun g_1 => Tr 1 (((38 : TypeId) = 38 ∧ Tr 1 ((↑x.1.n : Int) = (↑(takeS x.1 x.2).n : Int)) ∧ Tr 1 (x.1.r =
 (takeS x.1 x.2).r) ∧ (true = true ∧ NilNil ∧ (0 : Nat) = 0 ∧ (1 : Nat) = 1 ∧ (0 : Nat) = 0 ∧ (lC x.1).length = (lC (takeS x.1 x.2)).length ∧ g.val.1 =
 g_1.val.1) ∧ (true = true ∧ NilNil ∧ (0 : Nat) = 0 ∧ (1 : Nat) = 1 ∧ (0 : Nat) = 0 ∧ (lE x.1).length = (lE (takeS x.1 x.2)).length ∧ g.val.2.1 = g_1.val.2.1) ∧
 (true = true ∧ NilNil ∧ (0 : Nat) = 0 ∧ (1 : Nat) = 1 ∧ (0 : Nat) = 0 ∧ (lC x.1).length = (lC (takeS x.1 x.2)).length ∧ g.val.1 = g_1.val.1) ∧ (true = true ∧
 NilNil ∧ (0 : Nat) = 0 ∧ (1 : Nat) = 1 ∧ (0 : Nat) = 0 ∧ x_2.2.1.length + 1 = (lW (takeS x.1 x.2)).length ∧ y = g_1.val.2.2.2) ∧ True) ∧ ((3 : TypeId) = 3 ∧ (1
 : Nat) = 1 ∧ g.val.1 = g_1.val.1 ∧ (lC (takeS x.1 x.2)).length ≤ (lC x.1).length ∧ ∀ (i : Nat), i < (lC (takeS x.1 x.2)).length → [AV.int .i64 ((lC x.1).getD i
 0)] = [AV.int .i64 ((lC (takeS x.1 x.2)).getD i 0)]) ∧ ((3 : TypeId) = 3 ∧ (1 : Nat) = 1 ∧ g.val.2.1 = g_1.val.2.1 ∧ (lE (takeS x.1 x.2)).length ≤ (lE
 x.1).length ∧ ∀ (i : Nat), i < (lE (takeS x.1 x.2)).length → [AV.int .i64 ((lE x.1).getD i 0)] = [AV.int .i64 ((lE (takeS x.1 x.2)).getD i 0)]) ∧ ((3 : TypeId)
 = 3 ∧ (1 : Nat) = 1 ∧ y = g_1.val.2.2.2 ∧ (lW (takeS x.1 x.2)).length ≤ x_2.2.1.length + 1 ∧ ∀ (i : Nat), i < (lW (takeS x.1 x.2)).length → [AV.int .i64 ((insI
 x_2.2.1 x_2.2.2.2).getD i 0)] = [AV.int .i64 ((lW (takeS x.1 x.2)).getD i 0)]) ∧ True) ∧ (((Tr 1 ((freeL x_1).getD (0 + Int.toNat 0) 0 = takeAt x.1 x.2) ∧ Tr 1
 ((0 : Int) = takeErr x.1 x.2) ∧ True) ∧ True) ∧ refB (takeS x.1 x.2) = refB (takeS x.1 x.2) ∧ true = true ∧ True) ∧ True)) ∧ ((0 + Int.toNat 0 < (freeL
 x_1).length ∧ Exx (Nat × List Int × Int × Int) fun x_2 => (((true = true ∧ NilNil ∧ (0 : Nat) = 0 ∧ (1 : Nat) = 1 ∧ (0 : Nat) = 0 ∧ (lW x.1).length =
 x_2.2.1.length ∧ g.val.2.2.2 = x_2.1) ∧ Tr 1 ((↑x.1.n : Int) = x_2.2.2.1) ∧ Tr 1 ((freeL x_1).getD (0 + Int.toNat 0) 0 = x_2.2.2.2) ∧ True) ∧ true = true ∧ ((3
 : TypeId) = 3 ∧ (1 : Nat) = 1 ∧ g.val.2.2.2 = x_2.1 ∧ x_2.2.1.length ≤ (lW x.1).length ∧ ∀ (i : Nat), i < x_2.2.1.length → [AV.int .i64 ((lW x.1).getD i 0)] =
 [AV.int .i64 (x_2.2.1.getD i 0)]) ∧ True) ∧ (Ints x_2.2.1 ∧ x_2.2.1.length ≤ x_2.1 ∧ x_2.1 ≤ 9223372036854775807 ∧ I64 x_2.2.2.1 ∧ I64 x_2.2.2.2 ∧ List.Pairwise
 (fun x1 x2 => x1 < x2) x_2.2.1) ∧ (x_2.2.2.2 < (0 : Int) ∨ x_2.2.2.1 ≤ x_2.2.2.2 ∨ x_2.2.2.2 ∈ x_2.2.1 → ∀ (y : Unit), True → ((0 : Int) ≤ (0 : Int) ∧ (0 : Int)
 < (↑(freeL x_1).length : Int)) ∧ 0 + Int.toNat 0 < (freeL x_1).length ∧ Exx Unit fun y => Exx (Subtype (RCap (takeS x.1 x.2) false true false)) fun g_1 => Tr 1
 (((38 : TypeId) = 38 ∧ Tr 1 ((↑x.1.n : Int) = (↑(takeS x.1 x.2).n : Int)) ∧ Tr 1 (x.1.r = (takeS x.1 x.2).r) ∧ (true = true ∧ NilNil ∧ (0 : Nat) = 0 ∧ (1 : Nat)
 = 1 ∧ (0 : Nat) = 0 ∧ (lC x.1).length = (lC (takeS x.1 x.2)).length ∧ g.val.1 = g_1.val.1) ∧ (true = true ∧ NilNil ∧ (0 : Nat) = 0 ∧ (1 : Nat) = 1 ∧ (0 : Nat) =
 0 ∧ (lE x.1).length = (lE (takeS x.1 x.2)).length ∧ g.val.2.1 = g_1.val.2.1) ∧ (true = true ∧ NilNil ∧ (0 : Nat) = 0 ∧ (1 : Nat) = 1 ∧ (0 : Nat) = 0 ∧ (lC
 x.1).length = (lC (takeS x.1 x.2)).length ∧ g.val.1 = g_1.val.1) ∧ (true = true ∧ NilNil ∧ (0 : Nat) = 0 ∧ (1 : Nat) = 1 ∧ (0 : Nat) = 0 ∧ x_2.2.1.length = (lW
 (takeS x.1 x.2)).length ∧ x_2.1 = g_1.val.2.2.2) ∧ True) ∧ ((3 : TypeId) = 3 ∧ (1 : Nat) = 1 ∧ g.val.1 = g_1.val.1 ∧ (lC (takeS x.1 x.2)).length ≤ (lC
 x.1).length ∧ ∀ (i : Nat), i < (lC (takeS x.1 x.2)).length → [AV.int .i64 ((lC x.1).getD i 0)] = [AV.int .i64 ((lC (takeS x.1 x.2)).getD i 0)]) ∧ ((3 : TypeId)
 = 3 ∧ (1 : Nat) = 1 ∧ g.val.2.1 = g_1.val.2.1 ∧ (lE (takeS x.1 x.2)).length ≤ (lE x.1).length ∧ ∀ (i : Nat), i < (lE (takeS x.1 x.2)).length → [AV.int .i64 ((lE
 x.1).getD i 0)] = [AV.int .i64 ((lE (takeS x.1 x.2)).getD i 0)]) ∧ ((3 : TypeId) = 3 ∧ (1 : Nat) = 1 ∧ x_2.1 = g_1.val.2.2.2 ∧ (lW (takeS x.1 x.2)).length ≤
 x_2.2.1.length ∧ ∀ (i : Nat), i < (lW (takeS x.1 x.2)).length → [AV.int .i64 (x_2.2.1.getD i 0)] = [AV.int .i64 ((lW (takeS x.1 x.2)).getD i 0)]) ∧ True) ∧
 (((Tr 1 ((freeL x_1).getD (0 + Int.toNat 0) 0 = takeAt x.1 x.2) ∧ Tr 1 ((0 : Int) = takeErr x.1 x.2) ∧ True) ∧ True) ∧ refB (takeS x.1 x.2) = refB (takeS x.1
 x.2) ∧ true = true ∧ True) ∧ True) ∧ (¬refAddI.p x_2 → ∀ (y : Nat), x_2.2.1.length + 1 ≤ y ∧ y ≤ 9223372036854775807 → ((0 : Int) ≤ (0 : Int) ∧ (0 : Int) <
 (↑(freeL x_1).length : Int)) ∧ 0 + Int.toNat 0 < (freeL x_1).length ∧ Exx Unit fun y_1 => Exx (Subtype (RCap (takeS x.1 x.2) false true false)) fun g_1 => Tr 1
 (((38 : TypeId) = 38 ∧ Tr 1 ((↑x.1.n : Int) = (↑(takeS x.1 x.2).n : Int)) ∧ Tr 1 (x.1.r = (takeS x.1 x.2).r) ∧ (true = true ∧ NilNil ∧ (0 : Nat) = 0 ∧ (1 : Nat)
 = 1 ∧ (0 : Nat) = 0 ∧ (lC x.1).length = (lC (takeS x.1 x.2)).length ∧ g.val.1 = g_1.val.1) ∧ (true = true ∧ NilNil ∧ (0 : Nat) = 0 ∧ (1 : Nat) = 1 ∧ (0 : Nat) =
 0 ∧ (lE x.1).length = (lE (takeS x.1 x.2)).length ∧ g.val.2.1 = g_1.val.2.1) ∧ (true = true ∧ NilNil ∧ (0 : Nat) = 0 ∧ (1 : Nat) = 1 ∧ (0 : Nat) = 0 ∧ (lC
 x.1).length = (lC (takeS x.1 x.2)).length ∧ g.val.1 = g_1.val.1) ∧ (true = true ∧ NilNil ∧ (0 : Nat) = 0 ∧ (1 : Nat) = 1 ∧ (0 : Nat) = 0 ∧ x_2.2.1.length + 1 =
 (lW (takeS x.1 x.2)).length ∧ y = g_1.val.2.2.2) ∧ True) ∧ ((3 : TypeId) = 3 ∧ (1 : Nat) = 1 ∧ g.val.1 = g_1.val.1 ∧ (lC (takeS x.1 x.2)).length ≤ (lC
 x.1).length ∧ ∀ (i : Nat), i < (lC (takeS x.1 x.2)).length → [AV.int .i64 ((lC x.1).getD i 0)] = [AV.int .i64 ((lC (takeS x.1 x.2)).getD i 0)]) ∧ ((3 : TypeId)
 = 3 ∧ (1 : Nat) = 1 ∧ g.val.2.1 = g_1.val.2.1 ∧ (lE (takeS x.1 x.2)).length ≤ (lE x.1).length ∧ ∀ (i : Nat), i < (lE (takeS x.1 x.2)).length → [AV.int .i64 ((lE
 x.1).getD i 0)] = [AV.int .i64 ((lE (takeS x.1 x.2)).getD i 0)]) ∧ ((3 : TypeId) = 3 ∧ (1 : Nat) = 1 ∧ y = g_1.val.2.2.2 ∧ (lW (takeS x.1 x.2)).length ≤
 x_2.2.1.length + 1 ∧ ∀ (i : Nat), i < (lW (takeS x.1 x.2)).length → [AV.int .i64 ((insI x_2.2.1 x_2.2.2.2).getD i 0)] = [AV.int .i64 ((lW (takeS x.1 x.2)).getD
 i 0)]) ∧ True) ∧ (((Tr 1 ((freeL x_1).getD (0 + Int.toNat 0) 0 = takeAt x.1 x.2) ∧ Tr 1 ((0 : Int) = takeErr x.1 x.2) ∧ True) ∧ True) ∧ refB (takeS x.1 x.2) =
 refB (takeS x.1 x.2) ∧ true = true ∧ True) ∧ True)) ∧ 0 + Int.toNat 0 < (freeL x_1).length ∧ Exx (Nat × List Int × Int × Int) fun x_2 => (((true = true ∧ NilNil
 ∧ (0 : Nat) = 0 ∧ (1 : Nat) = 1 ∧ (0 : Nat) = 0 ∧ (lW x.1).length = x_2.2.1.length ∧ g.val.2.2.2 = x_2.1) ∧ Tr 1 ((↑x.1.n : Int) = x_2.2.2.1) ∧ Tr 1 ((freeL
 x_1).getD (0 + Int.toNat 0) 0 = x_2.2.2.2) ∧ True) ∧ true = true ∧ ((3 : TypeId) = 3 ∧ (1 : Nat) = 1 ∧ g.val.2.2.2 = x_2.1 ∧ x_2.2.1.length ≤ (lW x.1).length ∧
 ∀ (i : Nat), i < x_2.2.1.length → [AV.int .i64 ((lW x.1).getD i 0)] = [AV.int .i64 (x_2.2.1.getD i 0)]) ∧ True) ∧ (Ints x_2.2.1 ∧ x_2.2.1.length ≤ x_2.1 ∧ x_2.1
 ≤ 9223372036854775807 ∧ I64 x_2.2.2.1 ∧ I64 x_2.2.2.2 ∧ List.Pairwise (fun x1 x2 => x1 < x2) x_2.2.1) ∧ (x_2.2.2.2 < (0 : Int) ∨ x_2.2.2.1 ≤ x_2.2.2.2 ∨
 x_2.2.2.2 ∈ x_2.2.1 → ∀ (y : Unit), True → ((0 : Int) ≤ (0 : Int) ∧ (0 : Int) < (↑(freeL x_1).length : Int)) ∧ 0 + Int.toNat 0 < (freeL x_1).length ∧ Exx Unit
 fun y => Exx (Subtype (RCap (takeS x.1 x.2) false true false)) fun g_1 => Tr 1 (((38 : TypeId) = 38 ∧ Tr 1 ((↑x.1.n : Int) = (↑(takeS x.1 x.2).n : Int)) ∧ Tr 1
 (x.1.r = (takeS x.1 x.2).r) ∧ (true = true ∧ NilNil ∧ (0 : Nat) = 0 ∧ (1 : Nat) = 1 ∧ (0 : Nat) = 0 ∧ (lC x.1).length = (lC (takeS x.1 x.2)).length ∧ g.val.1 =
 g_1.val.1) ∧ (true = true ∧ NilNil ∧ (0 : Nat) = 0 ∧ (1 : Nat) = 1 ∧ (0 : Nat) = 0 ∧ (lE x.1).length = (lE (takeS x.1 x.2)).length ∧ g.val.2.1 = g_1.val.2.1) ∧
 (true = true ∧ NilNil ∧ (0 : Nat) = 0 ∧ (1 : Nat) = 1 ∧ (0 : Nat) = 0 ∧ (lC x.1).length = (lC (takeS x.1 x.2)).length ∧ g.val.1 = g_1.val.1) ∧ (true = true ∧
 NilNil ∧ (0 : Nat) = 0 ∧ (1 : Nat) = 1 ∧ (0 : Nat) = 0 ∧ x_2.2.1.length = (lW (takeS x.1 x.2)).length ∧ x_2.1 = g_1.val.2.2.2) ∧ True) ∧ ((3 : TypeId) = 3 ∧ (1
 : Nat) = 1 ∧ g.val.1 = g_1.val.1 ∧ (lC (takeS x.1 x.2)).length ≤ (lC x.1).length ∧ ∀ (i : Nat), i < (lC (takeS x.1 x.2)).length → [AV.int .i64 ((lC x.1).getD i
 0)] = [AV.int .i64 ((lC (takeS x.1 x.2)).getD i 0)]) ∧ ((3 : TypeId) = 3 ∧ (1 : Nat) = 1 ∧ g.val.2.1 = g_1.val.2.1 ∧ (lE (takeS x.1 x.2)).length ≤ (lE
 x.1).length ∧ ∀ (i : Nat), i < (lE (takeS x.1 x.2)).length → [AV.int .i64 ((lE x.1).getD i 0)] = [AV.int .i64 ((lE (takeS x.1 x.2)).getD i 0)]) ∧ ((3 : TypeId)
 = 3 ∧ (1 : Nat) = 1 ∧ x_2.1 = g_1.val.2.2.2 ∧ (lW (takeS x.1 x.2)).length ≤ x_2.2.1.length ∧ ∀ (i : Nat), i < (lW (takeS x.1 x.2)).length → [AV.int .i64
 (x_2.2.1.getD i 0)] = [AV.int .i64 ((lW (takeS x.1 x.2)).getD i 0)]) ∧ True) ∧ (((Tr 1 ((freeL x_1).getD (0 + Int.toNat 0) 0 = takeAt x.1 x.2) ∧ Tr 1 ((0 : Int)
 = takeErr x.1 x.2) ∧ True) ∧ True) ∧ refB (takeS x.1 x.2) = refB (takeS x.1 x.2) ∧ true = true ∧ True) ∧ True) ∧ (¬refAddI.p x_2 → ∀ (y : Nat), x_2.2.1.length +
 1 ≤ y ∧ y ≤ 9223372036854775807 → ((0 : Int) ≤ (0 : Int) ∧ (0 : Int) < (↑(freeL x_1).length : Int)) ∧ 0 + Int.toNat 0 < (freeL x_1).length ∧ Exx Unit fun y_1 =>
 Exx (Subtype (RCap (takeS x.1 x.2) false true false)) fun g_1 => Tr 1 (((38 : TypeId) = 38 ∧ Tr 1 ((↑x.1.n : Int) = (↑(takeS x.1 x.2).n : Int)) ∧ Tr 1 (x.1.r =
 (takeS x.1 x.2).r) ∧ (true = true ∧ NilNil ∧ (0 : Nat) = 0 ∧ (1 : Nat) = 1 ∧ (0 : Nat) = 0 ∧ (lC x.1).length = (lC (takeS x.1 x.2)).length ∧ g.val.1 =
 g_1.val.1) ∧ (true = true ∧ NilNil ∧ (0 : Nat) = 0 ∧ (1 : Nat) = 1 ∧ (0 : Nat) = 0 ∧ (lE x.1).length = (lE (takeS x.1 x.2)).length ∧ g.val.2.1 = g_1.val.2.1) ∧
 (true = true ∧ NilNil ∧ (0 : Nat) = 0 ∧ (1 : Nat) = 1 ∧ (0 : Nat) = 0 ∧ (lC x.1).length = (lC (takeS x.1 x.2)).length ∧ g.val.1 = g_1.val.1) ∧ (true = true ∧
 NilNil ∧ (0 : Nat) = 0 ∧ (1 : Nat) = 1 ∧ (0 : Nat) = 0 ∧ x_2.2.1.length + 1 = (lW (takeS x.1 x.2)).length ∧ y = g_1.val.2.2.2) ∧ True) ∧ ((3 : TypeId) = 3 ∧ (1
 : Nat) = 1 ∧ g.val.1 = g_1.val.1 ∧ (lC (takeS x.1 x.2)).length ≤ (lC x.1).length ∧ ∀ (i : Nat), i < (lC (takeS x.1 x.2)).length → [AV.int .i64 ((lC x.1).getD i
 0)] = [AV.int .i64 ((lC (takeS x.1 x.2)).getD i 0)]) ∧ ((3 : TypeId) = 3 ∧ (1 : Nat) = 1 ∧ g.val.2.1 = g_1.val.2.1 ∧ (lE (takeS x.1 x.2)).length ≤ (lE
 x.1).length ∧ ∀ (i : Nat), i < (lE (takeS x.1 x.2)).length → [AV.int .i64 ((lE x.1).getD i 0)] = [AV.int .i64 ((lE (takeS x.1 x.2)).getD i 0)]) ∧ ((3 : TypeId)
 = 3 ∧ (1 : Nat) = 1 ∧ y = g_1.val.2.2.2 ∧ (lW (takeS x.1 x.2)).length ≤ x_2.2.1.length + 1 ∧ ∀ (i : Nat), i < (lW (takeS x.1 x.2)).length → [AV.int .i64 ((insI
 x_2.2.1 x_2.2.2.2).getD i 0)] = [AV.int .i64 ((lW (takeS x.1 x.2)).getD i 0)]) ∧ True) ∧ (((Tr 1 ((freeL x_1).getD (0 + Int.toNat 0) 0 = takeAt x.1 x.2) ∧ Tr 1
 ((0 : Int) = takeErr x.1 x.2) ∧ True) ∧ True) ∧ refB (takeS x.1 x.2) = refB (takeS x.1 x.2) ∧ true = true ∧ True) ∧ True)) ∧ 0 + Int.toNat 0 < (freeL
 x_1).length ∧ (Exx (Nat × List Int × Int × Int) fun x_2 => (((true = true ∧ NilNil ∧ (0 : Nat) = 0 ∧ (1 : Nat) = 1 ∧ (0 : Nat) = 0 ∧ (lW x.1).length =
 x_2.2.1.length ∧ g.val.2.2.2 = x_2.1) ∧ Tr 1 ((↑x.1.n : Int) = x_2.2.2.1) ∧ Tr 1 ((freeL x_1).getD (0 + Int.toNat 0) 0 = x_2.2.2.2) ∧ True) ∧ true = true ∧ ((3
 : TypeId) = 3 ∧ (1 : Nat) = 1 ∧ g.val.2.2.2 = x_2.1 ∧ x_2.2.1.length ≤ (lW x.1).length ∧ ∀ (i : Nat), i < x_2.2.1.length → [AV.int .i64 ((lW x.1).getD i 0)] =
 [AV.int .i64 (x_2.2.1.getD i 0)]) ∧ True) ∧ (Ints x_2.2.1 ∧ x_2.2.1.length ≤ x_2.1 ∧ x_2.1 ≤ 9223372036854775807 ∧ I64 x_2.2.2.1 ∧ I64 x_2.2.2.2 ∧ List.Pairwise
 (fun x1 x2 => x1 < x2) x_2.2.1) ∧ (x_2.2.2.2 < (0 : Int) ∨ x_2.2.2.1 ≤ x_2.2.2.2 ∨ x_2.2.2.2 ∈ x_2.2.1 → ∀ (y : Unit), True → ((0 : Int) ≤ (0 : Int) ∧ (0 : Int)
 < (↑(freeL x_1).length : Int)) ∧ 0 + Int.toNat 0 < (freeL x_1).length ∧ Exx Unit fun y => Exx (Subtype (RCap (takeS x.1 x.2) false true false)) fun g_1 => Tr 1
 (((38 : TypeId) = 38 ∧ Tr 1 ((↑x.1.n : Int) = (↑(takeS x.1 x.2).n : Int)) ∧ Tr 1 (x.1.r = (takeS x.1 x.2).r) ∧ (true = true ∧ NilNil ∧ (0 : Nat) = 0 ∧ (1 : Nat)
 = 1 ∧ (0 : Nat) = 0 ∧ (lC x.1).length = (lC (takeS x.1 x.2)).length ∧ g.val.1 = g_1.val.1) ∧ (true = true ∧ NilNil ∧ (0 : Nat) = 0 ∧ (1 : Nat) = 1 ∧ (0 : Nat) =
 0 ∧ (lE x.1).length = (lE (takeS x.1 x.2)).length ∧ g.val.2.1 = g_1.val.2.1) ∧ (true = true ∧ NilNil ∧ (0 : Nat) = 0 ∧ (1 : Nat) = 1 ∧ (0 : Nat) = 0 ∧ (lC
 x.1).length = (lC (takeS x.1 x.2)).length ∧ g.val.1 = g_1.val.1) ∧ (true = true ∧ NilNil ∧ (0 : Nat) = 0 ∧ (1 : Nat) = 1 ∧ (0 : Nat) = 0 ∧ x_2.2.1.length = (lW
 (takeS x.1 x.2)).length ∧ x_2.1 = g_1.val.2.2.2) ∧ True) ∧ ((3 : TypeId) = 3 ∧ (1 : Nat) = 1 ∧ g.val.1 = g_1.val.1 ∧ (lC (takeS x.1 x.2)).length ≤ (lC
 x.1).length ∧ ∀ (i : Nat), i < (lC (takeS x.1 x.2)).length → [AV.int .i64 ((lC x.1).getD i 0)] = [AV.int .i64 ((lC (takeS x.1 x.2)).getD i 0)]) ∧ ((3 : TypeId)
 = 3 ∧ (1 : Nat) = 1 ∧ g.val.2.1 = g_1.val.2.1 ∧ (lE (takeS x.1 x.2)).length ≤ (lE x.1).length ∧ ∀ (i : Nat), i < (lE (takeS x.1 x.2)).length → [AV.int .i64 ((lE
 x.1).getD i 0)] = [AV.int .i64 ((lE (takeS x.1 x.2)).getD i 0)]) ∧ ((3 : TypeId) = 3 ∧ (1 : Nat) = 1 ∧ x_2.1 = g_1.val.2.2.2 ∧ (lW (takeS x.1 x.2)).length ≤
 x_2.2.1.length ∧ ∀ (i : Nat), i < (lW (takeS x.1 x.2)).length → [AV.int .i64 (x_2.2.1.getD i 0)] = [AV.int .i64 ((lW (takeS x.1 x.2)).getD i 0)]) ∧ True) ∧
 (((Tr 1 ((freeL x_1).getD (0 + Int.toNat 0) 0 = takeAt x.1 x.2) ∧ Tr 1 ((0 : Int) = takeErr x.1 x.2) ∧ True) ∧ True) ∧ refB (takeS x.1 x.2) = refB (takeS x.1
 x.2) ∧ true = true ∧ True) ∧ True) ∧ (¬refAddI.p x_2 → ∀ (y : Nat), x_2.2.1.length + 1 ≤ y ∧ y ≤ 9223372036854775807 → ((0 : Int) ≤ (0 : Int) ∧ (0 : Int) <
 (↑(freeL x_1).length : Int)) ∧ 0 + Int.toNat 0 < (freeL x_1).length ∧ Exx Unit fun y_1 => Exx (Subtype (RCap (takeS x.1 x.2) false true false)) fun g_1 => Tr 1
 (((38 : TypeId) = 38 ∧ Tr 1 ((↑x.1.n : Int) = (↑(takeS x.1 x.2).n : Int)) ∧ Tr 1 (x.1.r = (takeS x.1 x.2).r) ∧ (true = true ∧ NilNil ∧ (0 : Nat) = 0 ∧ (1 : Nat)
 = 1 ∧ (0 : Nat) = 0 ∧ (lC x.1).length = (lC (takeS x.1 x.2)).length ∧ g.val.1 = g_1.val.1) ∧ (true = true ∧ NilNil ∧ (0 : Nat) = 0 ∧ (1 : Nat) = 1 ∧ (0 : Nat) =
 0 ∧ (lE x.1).length = (lE (takeS x.1 x.2)).length ∧ g.val.2.1 = g_1.val.2.1) ∧ (true = true ∧ NilNil ∧ (0 : Nat) = 0 ∧ (1 : Nat) = 1 ∧ (0 : Nat) = 0 ∧ (lC
 x.1).length = (lC (takeS x.1 x.2)).length ∧ g.val.1 = g_1.val.1) ∧ (true = true ∧ NilNil ∧ (0 : Nat) = 0 ∧ (1 : Nat) = 1 ∧ (0 : Nat) = 0 ∧ x_2.2.1.length + 1 =
 (lW (takeS x.1 x.2)).length ∧ y = g_1.val.2.2.2) ∧ True) ∧ ((3 : TypeId) = 3 ∧ (1 : Nat) = 1 ∧ g.val.1 = g_1.val.1 ∧ (lC (takeS x.1 x.2)).length ≤ (lC
 x.1).length ∧ ∀ (i : Nat), i < (lC (takeS x.1 x.2)).length → [AV.int .i64 ((lC x.1).getD i 0)] = [AV.int .i64 ((lC (takeS x.1 x.2)).getD i 0)]) ∧ ((3 : TypeId)
 = 3 ∧ (1 : Nat) = 1 ∧ g.val.2.1 = g_1.val.2.1 ∧ (lE (takeS x.1 x.2)).length ≤ (lE x.1).length ∧ ∀ (i : Nat), i < (lE (takeS x.1 x.2)).length → [AV.int .i64 ((lE
 x.1).getD i 0)] = [AV.int .i64 ((lE (takeS x.1 x.2)).getD i 0)]) ∧ ((3 : TypeId) = 3 ∧ (1 : Nat) = 1 ∧ y = g_1.val.2.2.2 ∧ (lW (takeS x.1 x.2)).length ≤
 x_2.2.1.length + 1 ∧ ∀ (i : Nat), i < (lW (takeS x.1 x.2)).length → [AV.int .i64 ((insI x_2.2.1 x_2.2.2.2).getD i 0)] = [AV.int .i64 ((lW (takeS x.1 x.2)).getD
 i 0)]) ∧ True) ∧ (((Tr 1 ((freeL x_1).getD (0 + Int.toNat 0) 0 = takeAt x.1 x.2) ∧ Tr 1 ((0 : Int) = takeErr x.1 x.2) ∧ True) ∧ True) ∧ refB (takeS x.1 x.2) =
 refB (takeS x.1 x.2) ∧ true = true ∧ True) ∧ True)) ∧ Exx (Nat × List Int × Int × Int) fun x_2 => (((true = true ∧ NilNil ∧ (0 : Nat) = 0 ∧ (1 : Nat) = 1 ∧ (0 :
 Nat) = 0 ∧ (lW x.1).length = x_2.2.1.length ∧ g.val.2.2.2 = x_2.1) ∧ Tr 1 ((↑x.1.n : Int) = x_2.2.2.1) ∧ Tr 1 ((freeL x_1).getD (0 + Int.toNat 0) 0 = x_2.2.2.2)
 ∧ True) ∧ true = true ∧ ((3 : TypeId) = 3 ∧ (1 : Nat) = 1 ∧ g.val.2.2.2 = x_2.1 ∧ x_2.2.1.length ≤ (lW x.1).length ∧ ∀ (i : Nat), i < x_2.2.1.length → [AV.int
 .i64 ((lW x.1).getD i 0)] = [AV.int .i64 (x_2.2.1.getD i 0)]) ∧ True) ∧ (Ints x_2.2.1 ∧ x_2.2.1.length ≤ x_2.1 ∧ x_2.1 ≤ 9223372036854775807 ∧ I64 x_2.2.2.1 ∧
 I64 x_2.2.2.2 ∧ List.Pairwise (fun x1 x2 => x1 < x2) x_2.2.1) ∧ (x_2.2.2.2 < (0 : Int) ∨ x_2.2.2.1 ≤ x_2.2.2.2 ∨ x_2.2.2.2 ∈ x_2.2.1 → ∀ (y : Unit), True → ((0
 : Int) ≤ (0 : Int) ∧ (0 : Int) < (↑(freeL x_1).length : Int)) ∧ 0 + Int.toNat 0 < (freeL x_1).length ∧ Exx Unit fun y => Exx (Subtype (RCap (takeS x.1 x.2)
 false true false)) fun g_1 => Tr 1 (((38 : TypeId) = 38 ∧ Tr 1 ((↑x.1.n : Int) = (↑(takeS x.1 x.2).n : Int)) ∧ Tr 1 (x.1.r = (takeS x.1 x.2).r) ∧ (true = true ∧
 NilNil ∧ (0 : Nat) = 0 ∧ (1 : Nat) = 1 ∧ (0 : Nat) = 0 ∧ (lC x.1).length = (lC (takeS x.1 x.2)).length ∧ g.val.1 = g_1.val.1) ∧ (true = true ∧ NilNil ∧ (0 :
 Nat) = 0 ∧ (1 : Nat) = 1 ∧ (0 : Nat) = 0 ∧ (lE x.1).length = (lE (takeS x.1 x.2)).length ∧ g.val.2.1 = g_1.val.2.1) ∧ (true = true ∧ NilNil ∧ (0 : Nat) = 0 ∧ (1
 : Nat) = 1 ∧ (0 : Nat) = 0 ∧ (lC x.1).length = (lC (takeS x.1 x.2)).length ∧ g.val.1 = g_1.val.1) ∧ (true = true ∧ NilNil ∧ (0 : Nat) = 0 ∧ (1 : Nat) = 1 ∧ (0 :
 Nat) = 0 ∧ x_2.2.1.length = (lW (takeS x.1 x.2)).length ∧ x_2.1 = g_1.val.2.2.2) ∧ True) ∧ ((3 : TypeId) = 3 ∧ (1 : Nat) = 1 ∧ g.val.1 = g_1.val.1 ∧ (lC (takeS
 x.1 x.2)).length ≤ (lC x.1).length ∧ ∀ (i : Nat), i < (lC (takeS x.1 x.2)).length → [AV.int .i64 ((lC x.1).getD i 0)] = [AV.int .i64 ((lC (takeS x.1 x.2)).getD
 i 0)]) ∧ ((3 : TypeId) = 3 ∧ (1 : Nat) = 1 ∧ g.val.2.1 = g_1.val.2.1 ∧ (lE (takeS x.1 x.2)).length ≤ (lE x.1).length ∧ ∀ (i : Nat), i < (lE (takeS x.1
 x.2)).length → [AV.int .i64 ((lE x.1).getD i 0)] = [AV.int .i64 ((lE (takeS x.1 x.2)).getD i 0)]) ∧ ((3 : TypeId) = 3 ∧ (1 : Nat) = 1 ∧ x_2.1 = g_1.val.2.2.2 ∧
 (lW (takeS x.1 x.2)).length ≤ x_2.2.1.length ∧ ∀ (i : Nat), i < (lW (takeS x.1 x.2)).length → [AV.int .i64 (x_2.2.1.getD i 0)] = [AV.int .i64 ((lW (takeS x.1
 x.2)).getD i 0)]) ∧ True) ∧ (((Tr 1 ((freeL x_1).getD (0 + Int.toNat 0) 0 = takeAt x.1 x.2) ∧ Tr 1 ((0 : Int) = takeErr x.1 x.2) ∧ True) ∧ True) ∧ refB (takeS
 x.1 x.2) = refB (takeS x.1 x.2) ∧ true = true ∧ True) ∧ True) ∧ (¬refAddI.p x_2 → ∀ (y : Nat), x_2.2.1.length + 1 ≤ y ∧ y ≤ 9223372036854775807 → ((0 : Int) ≤
 (0 : Int) ∧ (0 : Int) < (↑(freeL x_1).length : Int)) ∧ 0 + Int.toNat 0 < (freeL x_1).length ∧ Exx Unit fun y_1 => Exx (Subtype (RCap (takeS x.1 x.2) false true
 false)) fun g_1 => Tr 1 (((38 : TypeId) = 38 ∧ Tr 1 ((↑x.1.n : Int) = (↑(takeS x.1 x.2).n : Int)) ∧ Tr 1 (x.1.r = (takeS x.1 x.2).r) ∧ (true = true ∧ NilNil ∧
 (0 : Nat) = 0 ∧ (1 : Nat) = 1 ∧ (0 : Nat) = 0 ∧ (lC x.1).length = (lC (takeS x.1 x.2)).length ∧ g.val.1 = g_1.val.1) ∧ (true = true ∧ NilNil ∧ (0 : Nat) = 0 ∧
 (1 : Nat) = 1 ∧ (0 : Nat) = 0 ∧ (lE x.1).length = (lE (takeS x.1 x.2)).length ∧ g.val.2.1 = g_1.val.2.1) ∧ (true = true ∧ NilNil ∧ (0 : Nat) = 0 ∧ (1 : Nat) = 1
 ∧ (0 : Nat) = 0 ∧ (lC x.1).length = (lC (takeS x.1 x.2)).length ∧ g.val.1 = g_1.val.1) ∧ (true = true ∧ NilNil ∧ (0 : Nat) = 0 ∧ (1 : Nat) = 1 ∧ (0 : Nat) = 0 ∧
 x_2.2.1.length + 1 = (lW (takeS x.1 x.2)).length ∧ y = g_1.val.2.2.2) ∧ True) ∧ ((3 : TypeId) = 3 ∧ (1 : Nat) = 1 ∧ g.val.1 = g_1.val.1 ∧ (lC (takeS x.1
 x.2)).length ≤ (lC x.1).length ∧ ∀ (i : Nat), i < (lC (takeS x.1 x.2)).length → [AV.int .i64 ((lC x.1).getD i 0)] = [AV.int .i64 ((lC (takeS x.1 x.2)).getD i
 0)]) ∧ ((3 : TypeId) = 3 ∧ (1 : Nat) = 1 ∧ g.val.2.1 = g_1.val.2.1 ∧ (lE (takeS x.1 x.2)).length ≤ (lE x.1).length ∧ ∀ (i : Nat), i < (lE (takeS x.1
 x.2)).length → [AV.int .i64 ((lE x.1).getD i 0)] = [AV.int .i64 ((lE (takeS x.1 x.2)).getD i 0)]) ∧ ((3 : TypeId) = 3 ∧ (1 : Nat) = 1 ∧ y = g_1.val.2.2.2 ∧ (lW
 (takeS x.1 x.2)).length ≤ x_2.2.1.length + 1 ∧ ∀ (i : Nat), i < (lW (takeS x.1 x.2)).length → [AV.int .i64 ((insI x_2.2.1 x_2.2.2.2).getD i 0)] = [AV.int .i64
 ((lW (takeS x.1 x.2)).getD i 0)]) ∧ True) ∧ (((Tr 1 ((freeL x_1).getD (0 + Int.toNat 0) 0 = takeAt x.1 x.2) ∧ Tr 1 ((0 : Int) = takeErr x.1 x.2) ∧ True) ∧ True)
 ∧ refB (takeS x.1 x.2) = refB (takeS x.1 x.2) ∧ true = true ∧ True) ∧ True)) ∧ (∀ (g : Subtype (RCap x.1 false false true)), ((0 : Int) ≤ (0 : Int) ∧ (0 : Int)
 < (↑(freeL x_1).length : Int)) ∧ ((0 + Int.toNat 0 < (freeL x_1).length ∧ Exx (Nat × List Int × Int × Int) fun x_2 => (((true = true ∧ NilNil ∧ (0 : Nat) = 0 ∧
 (1 : Nat) = 1 ∧ (0 : Nat) = 0 ∧ (lM x.1).length = x_2.2.1.length ∧ g.val.2.2.1 = x_2.1) ∧ Tr 1 ((↑x.1.n : Int) = x_2.2.2.1) ∧ Tr 1 ((freeL x_1).getD (0 +
 Int.toNat 0) 0 = x_2.2.2.2) ∧ True) ∧ true = true ∧ ((3 : TypeId) = 3 ∧ (1 : Nat) = 1 ∧ g.val.2.2.1 = x_2.1 ∧ x_2.2.1.length ≤ (lM x.1).length ∧ ∀ (i : Nat), i
 < x_2.2.1.length → [AV.int .i64 ((lM x.1).getD i 0)] = [AV.int .i64 (x_2.2.1.getD i 0)]) ∧ True) ∧ (Ints x_2.2.1 ∧ x_2.2.1.length ≤ x_2.1 ∧ x_2.1 ≤
 9223372036854775807 ∧ I64 x_2.2.2.1 ∧ I64 x_2.2.2.2 ∧ List.Pairwise (fun x1 x2 => x1 < x2) x_2.2.1) ∧ (x_2.2.2.2 < (0 : Int) ∨ x_2.2.2.1 ≤ x_2.2.2.2 ∨ x_2.2.2.2
 ∈ x_2.2.1 → ∀ (y : Unit), True → ((0 : Int) ≤ (0 : Int) ∧ (0 : Int) < (↑(freeL x_1).length : Int)) ∧ 0 + Int.toNat 0 < (freeL x_1).length ∧ Exx Unit fun y =>
 Exx (Subtype (RCap (takeS x.1 x.2) false false true)) fun g_1 => Tr 1 (((38 : TypeId) = 38 ∧ Tr 1 ((↑x.1.n : Int) = (↑(takeS x.1 x.2).n : Int)) ∧ Tr 1 (x.1.r =
 (takeS x.1 x.2).r) ∧ (true = true ∧ NilNil ∧ (0 : Nat) = 0 ∧ (1 : Nat) = 1 ∧ (0 : Nat) = 0 ∧ (lC x.1).length = (lC (takeS x.1 x.2)).length ∧ g.val.1 =
 g_1.val.1) ∧ (true = true ∧ NilNil ∧ (0 : Nat) = 0 ∧ (1 : Nat) = 1 ∧ (0 : Nat) = 0 ∧ (lE x.1).length = (lE (takeS x.1 x.2)).length ∧ g.val.2.1 = g_1.val.2.1) ∧
 (true = true ∧ NilNil ∧ (0 : Nat) = 0 ∧ (1 : Nat) = 1 ∧ (0 : Nat) = 0 ∧ (lM x.1).length = (lM (takeS x.1 x.2)).length ∧ g.val.2.2.1 = g_1.val.2.2.1) ∧ (true =
 true ∧ NilNil ∧ (0 : Nat) = 0 ∧ (1 : Nat) = 1 ∧ (0 : Nat) = 0 ∧ x_2.2.1.length = (lM (takeS x.1 x.2)).length ∧ x_2.1 = g_1.val.2.2.1) ∧ True) ∧ ((3 : TypeId) =
 3 ∧ (1 : Nat) = 1 ∧ g.val.1 = g_1.val.1 ∧ (lC (takeS x.1 x.2)).length ≤ (lC x.1).length ∧ ∀ (i : Nat), i < (lC (takeS x.1 x.2)).length → [AV.int .i64 ((lC
 x.1).getD i 0)] = [AV.int .i64 ((lC (takeS x.1 x.2)).getD i 0)]) ∧ ((3 : TypeId) = 3 ∧ (1 : Nat) = 1 ∧ g.val.2.1 = g_1.val.2.1 ∧ (lE (takeS x.1 x.2)).length ≤
 (lE x.1).length ∧ ∀ (i : Nat), i < (lE (takeS x.1 x.2)).length → [AV.int .i64 ((lE x.1).getD i 0)] = [AV.int .i64 ((lE (takeS x.1 x.2)).getD i 0)]) ∧ ((3 :
 TypeId) = 3 ∧ (1 : Nat) = 1 ∧ x_2.1 = g_1.val.2.2.1 ∧ (lM (takeS x.1 x.2)).length ≤ x_2.2.1.length ∧ ∀ (i : Nat), i < (lM (takeS x.1 x.2)).length → [AV.int .i64
 (x_2.2.1.getD i 0)] = [AV.int .i64 ((lM (takeS x.1 x.2)).getD i 0)]) ∧ True) ∧ (((Tr 1 ((freeL x_1).getD (0 + Int.toNat 0) 0 = takeAt x.1 x.2) ∧ Tr 1 ((0 : Int)
 = takeErr x.1 x.2) ∧ True) ∧ True) ∧ refB (takeS x.1 x.2) = refB (takeS x.1 x.2) ∧ true = true ∧ True) ∧ True) ∧ (¬refAddI.p x_2 → ∀ (y : Nat), x_2.2.1.length +
 1 ≤ y ∧ y ≤ 9223372036854775807 → ((0 : Int) ≤ (0 : Int) ∧ (0 : Int) < (↑(freeL x_1).length : Int)) ∧ 0 + Int.toNat 0 < (freeL x_1).length ∧ Exx Unit fun y_1 =>
 Exx (Subtype (RCap (takeS x.1 x.2) false false false)) fun g_1 => Tr 1 (((38 : TypeId) = 38 ∧ Tr 1 ((↑x.1.n : Int) = (↑(takeS x.1 x.2).n : Int)) ∧ Tr 1 (x.1.r =
 (takeS x.1 x.2).r) ∧ (true = true ∧ NilNil ∧ (0 : Nat) = 0 ∧ (1 : Nat) = 1 ∧ (0 : Nat) = 0 ∧ (lC x.1).length = (lC (takeS x.1 x.2)).length ∧ g.val.1 =
 g_1.val.1) ∧ (true = true ∧ NilNil ∧ (0 : Nat) = 0 ∧ (1 : Nat) = 1 ∧ (0 : Nat) = 0 ∧ (lE x.1).length = (lE (takeS x.1 x.2)).length ∧ g.val.2.1 = g_1.val.2.1) ∧
 (true = true ∧ NilNil ∧ (0 : Nat) = 0 ∧ (1 : Nat) = 1 ∧ (0 : Nat) = 0 ∧ (lM x.1).length = (lM (takeS x.1 x.2)).length ∧ g.val.2.2.1 = g_1.val.2.2.1) ∧ (true =
 true ∧ NilNil ∧ (0 : Nat) = 0 ∧ (1 : Nat) = 1 ∧ (0 : Nat) = 0 ∧ x_2.2.1.length + 1 = (lW (takeS x.1 x.2)).length ∧ y = g_1.val.2.2.2) ∧ True) ∧ ((3 : TypeId) =
 3 ∧ (1 : Nat) = 1 ∧ g.val.1 = g_1.val.1 ∧ (lC (takeS x.1 x.2)).length ≤ (lC x.1).length ∧ ∀ (i : Nat), i < (lC (takeS x.1 x.2)).length → [AV.int .i64 ((lC
 x.1).getD i 0)] = [AV.int .i64 ((lC (takeS x.1 x.2)).getD i 0)]) ∧ ((3 : TypeId) = 3 ∧ (1 : Nat) = 1 ∧ g.val.2.1 = g_1.val.2.1 ∧ (lE (takeS x.1 x.2)).length ≤
 (lE x.1).length ∧ ∀ (i : Nat), i < (lE (takeS x.1 x.2)).length → [AV.int .i64 ((lE x.1).getD i 0)] = [AV.int .i64 ((lE (takeS x.1 x.2)).getD i 0)]) ∧ ((3 :
 TypeId) = 3 ∧ (1 : Nat) = 1 ∧ x_2.1 = g_1.val.2.2.1 ∧ (lM (takeS x.1 x.2)).length ≤ x_2.2.1.length ∧ ∀ (i : Nat), i < (lM (takeS x.1 x.2)).length → [AV.int .i64
 (x_2.2.1.getD i 0)] = [AV.int .i64 ((lM (takeS x.1 x.2)).getD i 0)]) ∧ ((3 : TypeId) = 3 ∧ (1 : Nat) = 1 ∧ y = g_1.val.2.2.2 ∧ (lW (takeS x.1 x.2)).length ≤
 x_2.2.1.length + 1 ∧ ∀ (i : Nat), i < (lW (takeS x.1 x.2)).length → [AV.int .i64 ((insI x_2.2.1 x_2.2.2.2).getD i 0)] = [AV.int .i64 ((lW (takeS x.1 x.2)).getD
 i 0)]) ∧ True) ∧ (((Tr 1 ((freeL x_1).getD (0 + Int.toNat 0) 0 = takeAt x.1 x.2) ∧ Tr 1 ((0 : Int) = takeErr x.1 x.2) ∧ True) ∧ True) ∧ refB (takeS x.1 x.2) =
 refB (takeS x.1 x.2) ∧ true = true ∧ True) ∧ True)) ∧ 0 + Int.toNat 0 < (freeL x_1).length ∧ Exx (Nat × List Int × Int × Int) fun x_2 => (((true = true ∧ NilNil
 ∧ (0 : Nat) = 0 ∧ (1 : Nat) = 1 ∧ (0 : Nat) = 0 ∧ (lM x.1).length = x_2.2.1.length ∧ g.val.2.2.1 = x_2.1) ∧ Tr 1 ((↑x.1.n : Int) = x_2.2.2.1) ∧ Tr 1 ((freeL
 x_1).getD (0 + Int.toNat 0) 0 = x_2.2.2.2) ∧ True) ∧ true = true ∧ ((3 : TypeId) = 3 ∧ (1 : Nat) = 1 ∧ g.val.2.2.1 = x_2.1 ∧ x_2.2.1.length ≤ (lM x.1).length ∧
 ∀ (i : Nat), i < x_2.2.1.length → [AV.int .i64 ((lM x.1).getD i 0)] = [AV.int .i64 (x_2.2.1.getD i 0)]) ∧ True) ∧ (Ints x_2.2.1 ∧ x_2.2.1.length ≤ x_2.1 ∧ x_2.1
 ≤ 9223372036854775807 ∧ I64 x_2.2.2.1 ∧ I64 x_2.2.2.2 ∧ List.Pairwise (fun x1 x2 => x1 < x2) x_2.2.1) ∧ (x_2.2.2.2 < (0 : Int) ∨ x_2.2.2.1 ≤ x_2.2.2.2 ∨
 x_2.2.2.2 ∈ x_2.2.1 → ∀ (y : Unit), True → ((0 : Int) ≤ (0 : Int) ∧ (0 : Int) < (↑(freeL x_1).length : Int)) ∧ 0 + Int.toNat 0 < (freeL x_1).length ∧ Exx Unit
 fun y => Exx (Subtype (RCap (takeS x.1 x.2) false false true)) fun g_1 => Tr 1 (((38 : TypeId) = 38 ∧ Tr 1 ((↑x.1.n : Int) = (↑(takeS x.1 x.2).n : Int)) ∧ Tr 1
 (x.1.r = (takeS x.1 x.2).r) ∧ (true = true ∧ NilNil ∧ (0 : Nat) = 0 ∧ (1 : Nat) = 1 ∧ (0 : Nat) = 0 ∧ (lC x.1).length = (lC (takeS x.1 x.2)).length ∧ g.val.1 =
 g_1.val.1) ∧ (true = true ∧ NilNil ∧ (0 : Nat) = 0 ∧ (1 : Nat) = 1 ∧ (0 : Nat) = 0 ∧ (lE x.1).length = (lE (takeS x.1 x.2)).length ∧ g.val.2.1 = g_1.val.2.1) ∧
 (true = true ∧ NilNil ∧ (0 : Nat) = 0 ∧ (1 : Nat) = 1 ∧ (0 : Nat) = 0 ∧ (lM x.1).length = (lM (takeS x.1 x.2)).length ∧ g.val.2.2.1 = g_1.val.2.2.1) ∧ (true =
 true ∧ NilNil ∧ (0 : Nat) = 0 ∧ (1 : Nat) = 1 ∧ (0 : Nat) = 0 ∧ x_2.2.1.length = (lM (takeS x.1 x.2)).length ∧ x_2.1 = g_1.val.2.2.1) ∧ True) ∧ ((3 : TypeId) =
 3 ∧ (1 : Nat) = 1 ∧ g.val.1 = g_1.val.1 ∧ (lC (takeS x.1 x.2)).length ≤ (lC x.1).length ∧ ∀ (i : Nat), i < (lC (takeS x.1 x.2)).length → [AV.int .i64 ((lC
 x.1).getD i 0)] = [AV.int .i64 ((lC (takeS x.1 x.2)).getD i 0)]) ∧ ((3 : TypeId) = 3 ∧ (1 : Nat) = 1 ∧ g.val.2.1 = g_1.val.2.1 ∧ (lE (takeS x.1 x.2)).length ≤
 (lE x.1).length ∧ ∀ (i : Nat), i < (lE (takeS x.1 x.2)).length → [AV.int .i64 ((lE x.1).getD i 0)] = [AV.int .i64 ((lE (takeS x.1 x.2)).getD i 0)]) ∧ ((3 :
 TypeId) = 3 ∧ (1 : Nat) = 1 ∧ x_2.1 = g_1.val.2.2.1 ∧ (lM (takeS x.1 x.2)).length ≤ x_2.2.1.length ∧ ∀ (i : Nat), i < (lM (takeS x.1 x.2)).length → [AV.int .i64
 (x_2.2.1.getD i 0)] = [AV.int .i64 ((lM (takeS x.1 x.2)).getD i 0)]) ∧ True) ∧ (((Tr 1 ((freeL x_1).getD (0 + Int.toNat 0) 0 = takeAt x.1 x.2) ∧ Tr 1 ((0 : Int)
 = takeErr x.1 x.2) ∧ True) ∧ True) ∧ refB (takeS x.1 x.2) = refB (takeS x.1 x.2) ∧ true = true ∧ True) ∧ True) ∧ (¬refAddI.p x_2 → ∀ (y : Nat), x_2.2.1.length +
 1 ≤ y ∧ y ≤ 9223372036854775807 → ((0 : Int) ≤ (0 : Int) ∧ (0 : Int) < (↑(freeL x_1).length : Int)) ∧ 0 + Int.toNat 0 < (freeL x_1).length ∧ Exx Unit fun y_1 =>
 Exx (Subtype (RCap (takeS x.1 x.2) false false false)) fun g_1 => Tr 1 (((38 : TypeId) = 38 ∧ Tr 1 ((↑x.1.n : Int) = (↑(takeS x.1 x.2).n : Int)) ∧ Tr 1 (x.1.r =
 (takeS x.1 x.2).r) ∧ (true = true ∧ NilNil ∧ (0 : Nat) = 0 ∧ (1 : Nat) = 1 ∧ (0 : Nat) = 0 ∧ (lC x.1).length = (lC (takeS x.1 x.2)).length ∧ g.val.1 =
 g_1.val.1) ∧ (true = true ∧ NilNil ∧ (0 : Nat) = 0 ∧ (1 : Nat) = 1 ∧ (0 : Nat) = 0 ∧ (lE x.1).length = (lE (takeS x.1 x.2)).length ∧ g.val.2.1 = g_1.val.2.1) ∧
 (true = true ∧ NilNil ∧ (0 : Nat) = 0 ∧ (1 : Nat) = 1 ∧ (0 : Nat) = 0 ∧ (lM x.1).length = (lM (takeS x.1 x.2)).length ∧ g.val.2.2.1 = g_1.val.2.2.1) ∧ (true =
 true ∧ NilNil ∧ (0 : Nat) = 0 ∧ (1 : Nat) = 1 ∧ (0 : Nat) = 0 ∧ x_2.2.1.length + 1 = (lW (takeS x.1 x.2)).length ∧ y = g_1.val.2.2.2) ∧ True) ∧ ((3 : TypeId) =
 3 ∧ (1 : Nat) = 1 ∧ g.val.1 = g_1.val.1 ∧ (lC (takeS x.1 x.2)).length ≤ (lC x.1).length ∧ ∀ (i : Nat), i < (lC (takeS x.1 x.2)).length → [AV.int .i64 ((lC
 x.1).getD i 0)] = [AV.int .i64 ((lC (takeS x.1 x.2)).getD i 0)]) ∧ ((3 : TypeId) = 3 ∧ (1 : Nat) = 1 ∧ g.val.2.1 = g_1.val.2.1 ∧ (lE (takeS x.1 x.2)).length ≤
 (lE x.1).length ∧ ∀ (i : Nat), i < (lE (takeS x.1 x.2)).length → [AV.int .i64 ((lE x.1).getD i 0)] = [AV.int .i64 ((lE (takeS x.1 x.2)).getD i 0)]) ∧ ((3 :
 TypeId) = 3 ∧ (1 : Nat) = 1 ∧ x_2.1 = g_1.val.2.2.1 ∧ (lM (takeS x.1 x.2)).length ≤ x_2.2.1.length ∧ ∀ (i : Nat), i < (lM (takeS x.1 x.2)).length → [AV.int .i64
 (x_2.2.1.getD i 0)] = [AV.int .i64 ((lM (takeS x.1 x.2)).getD i 0)]) ∧ ((3 : TypeId) = 3 ∧ (1 : Nat) = 1 ∧ y = g_1.val.2.2.2 ∧ (lW (takeS x.1 x.2)).length ≤
 x_2.2.1.length + 1 ∧ ∀ (i : Nat), i < (lW (takeS x.1 x.2)).length → [AV.int .i64 ((insI x_2.2.1 x_2.2.2.2).getD i 0)] = [AV.int .i64 ((lW (takeS x.1 x.2)).getD
 i 0)]) ∧ True) ∧ (((Tr 1 ((freeL x_1).getD (0 + Int.toNat 0) 0 = takeAt x.1 x.2) ∧ Tr 1 ((0 : Int) = takeErr x.1 x.2) ∧ True) ∧ True) ∧ refB (takeS x.1 x.2) =
 refB (takeS x.1 x.2) ∧ true = true ∧ True) ∧ True)) ∧ ((0 + Int.toNat 0 < (freeL x_1).length ∧ Exx (Nat × List Int × Int × Int) fun x_2 => (((true = true ∧
 NilNil ∧ (0 : Nat) = 0 ∧ (1 : Nat) = 1 ∧ (0 : Nat) = 0 ∧ (lM x.1).length = x_2.2.1.length ∧ g.val.2.2.1 = x_2.1) ∧ Tr 1 ((↑x.1.n : Int) = x_2.2.2.1) ∧ Tr 1
 ((freeL x_1).getD (0 + Int.toNat 0) 0 = x_2.2.2.2) ∧ True) ∧ true = true ∧ ((3 : TypeId) = 3 ∧ (1 : Nat) = 1 ∧ g.val.2.2.1 = x_2.1 ∧ x_2.2.1.length ≤ (lM
 x.1).length ∧ ∀ (i : Nat), i < x_2.2.1.length → [AV.int .i64 ((lM x.1).getD i 0)] = [AV.int .i64 (x_2.2.1.getD i 0)]) ∧ True) ∧ (Ints x_2.2.1 ∧ x_2.2.1.length ≤
 x_2.1 ∧ x_2.1 ≤ 9223372036854775807 ∧ I64 x_2.2.2.1 ∧ I64 x_2.2.2.2 ∧ List.Pairwise (fun x1 x2 => x1 < x2) x_2.2.1) ∧ (x_2.2.2.2 < (0 : Int) ∨ x_2.2.2.1 ≤
 x_2.2.2.2 ∨ x_2.2.2.2 ∈ x_2.2.1 → ∀ (y : Unit), True → ((0 : Int) ≤ (0 : Int) ∧ (0 : Int) < (↑(freeL x_1).length : Int)) ∧ 0 + Int.toNat 0 < (freeL x_1).length
 ∧ Exx Unit fun y => Exx (Subtype (RCap (takeS x.1 x.2) false false true)) fun g_1 => Tr 1 (((38 : TypeId) = 38 ∧ Tr 1 ((↑x.1.n : Int) = (↑(takeS x.1 x.2).n :
 Int)) ∧ Tr 1 (x.1.r = (takeS x.1 x.2).r) ∧ (true = true ∧ NilNil ∧ (0 : Nat) = 0 ∧ (1 : Nat) = 1 ∧ (0 : Nat) = 0 ∧ (lC x.1).length = (lC (takeS x.1 x.2)).length
 ∧ g.val.1 = g_1.val.1) ∧ (true = true ∧ NilNil ∧ (0 : Nat) = 0 ∧ (1 : Nat) = 1 ∧ (0 : Nat) = 0 ∧ (lE x.1).length = (lE (takeS x.1 x.2)).length ∧ g.val.2.1 =
 g_1.val.2.1) ∧ (true = true ∧ NilNil ∧ (0 : Nat) = 0 ∧ (1 : Nat) = 1 ∧ (0 : Nat) = 0 ∧ (lM x.1).length = (lM (takeS x.1 x.2)).length ∧ g.val.2.2.1 =
 g_1.val.2.2.1) ∧ (true = true ∧ NilNil ∧ (0 : Nat) = 0 ∧ (1 : Nat) = 1 ∧ (0 : Nat) = 0 ∧ x_2.2.1.length = (lM (takeS x.1 x.2)).length ∧ x_2.1 = g_1.val.2.2.1) ∧
 True) ∧ ((3 : TypeId) = 3 ∧ (1 : Nat) = 1 ∧ g.val.1 = g_1.val.1 ∧ (lC (takeS x.1 x.2)).length ≤ (lC x.1).length ∧ ∀ (i : Nat), i < (lC (takeS x.1 x.2)).length →
 [AV.int .i64 ((lC x.1).getD i 0)] = [AV.int .i64 ((lC (takeS x.1 x.2)).getD i 0)]) ∧ ((3 : TypeId) = 3 ∧ (1 : Nat) = 1 ∧ g.val.2.1 = g_1.val.2.1 ∧ (lE (takeS
 x.1 x.2)).length ≤ (lE x.1).length ∧ ∀ (i : Nat), i < (lE (takeS x.1 x.2)).length → [AV.int .i64 ((lE x.1).getD i 0)] = [AV.int .i64 ((lE (takeS x.1 x.2)).getD
 i 0)]) ∧ ((3 : TypeId) = 3 ∧ (1 : Nat) = 1 ∧ x_2.1 = g_1.val.2.2.1 ∧ (lM (takeS x.1 x.2)).length ≤ x_2.2.1.length ∧ ∀ (i : Nat), i < (lM (takeS x.1 x.2)).length
 → [AV.int .i64 (x_2.2.1.getD i 0)] = [AV.int .i64 ((lM (takeS x.1 x.2)).getD i 0)]) ∧ True) ∧ (((Tr 1 ((freeL x_1).getD (0 + Int.toNat 0) 0 = takeAt x.1 x.2) ∧
 Tr 1 ((0 : Int) = takeErr x.1 x.2) ∧ True) ∧ True) ∧ refB (takeS x.1 x.2) = refB (takeS x.1 x.2) ∧ true = true ∧ True) ∧ True) ∧ (¬refAddI.p x_2 → ∀ (y : Nat),
 x_2.2.1.length + 1 ≤ y ∧ y ≤ 9223372036854775807 → ((0 : Int) ≤ (0 : Int) ∧ (0 : Int) < (↑(freeL x_1).length : Int)) ∧ 0 + Int.toNat 0 < (freeL x_1).length ∧
 Exx Unit fun y_1 => Exx (Subtype (RCap (takeS x.1 x.2) false false false)) fun g_1 => Tr 1 (((38 : TypeId) = 38 ∧ Tr 1 ((↑x.1.n : Int) = (↑(takeS x.1 x.2).n :
 Int)) ∧ Tr 1 (x.1.r = (takeS x.1 x.2).r) ∧ (true = true ∧ NilNil ∧ (0 : Nat) = 0 ∧ (1 : Nat) = 1 ∧ (0 : Nat) = 0 ∧ (lC x.1).length = (lC (takeS x.1 x.2)).length
 ∧ g.val.1 = g_1.val.1) ∧ (true = true ∧ NilNil ∧ (0 : Nat) = 0 ∧ (1 : Nat) = 1 ∧ (0 : Nat) = 0 ∧ (lE x.1).length = (lE (takeS x.1 x.2)).length ∧ g.val.2.1 =
 g_1.val.2.1) ∧ (true = true ∧ NilNil ∧ (0 : Nat) = 0 ∧ (1 : Nat) = 1 ∧ (0 : Nat) = 0 ∧ (lM x.1).length = (lM (takeS x.1 x.2)).length ∧ g.val.2.2.1 =
 g_1.val.2.2.1) ∧ (true = true ∧ NilNil ∧ (0 : Nat) = 0 ∧ (1 : Nat) = 1 ∧ (0 : Nat) = 0 ∧ x_2.2.1.length + 1 = (lW (takeS x.1 x.2)).length ∧ y = g_1.val.2.2.2) ∧
 True) ∧ ((3 : TypeId) = 3 ∧ (1 : Nat) = 1 ∧ g.val.1 = g_1.val.1 ∧ (lC (takeS x.1 x.2)).length ≤ (lC x.1).length ∧ ∀ (i : Nat), i < (lC (takeS x.1 x.2)).length →
 [AV.int .i64 ((lC x.1).getD i 0)] = [AV.int .i64 ((lC (takeS x.1 x.2)).getD i 0)]) ∧ ((3 : TypeId) = 3 ∧ (1 : Nat) = 1 ∧ g.val.2.1 = g_1.val.2.1 ∧ (lE (takeS
 x.1 x.2)).length ≤ (lE x.1).length ∧ ∀ (i : Nat), i < (lE (takeS x.1 x.2)).length → [AV.int .i64 ((lE x.1).getD i 0)] = [AV.int .i64 ((lE (takeS x.1 x.2)).getD
 i 0)]) ∧ ((3 : TypeId) = 3 ∧ (1 : Nat) = 1 ∧ x_2.1 = g_1.val.2.2.1 ∧ (lM (takeS x.1 x.2)).length ≤ x_2.2.1.length ∧ ∀ (i : Nat), i < (lM (takeS x.1 x.2)).length
 → [AV.int .i64 (x_2.2.1.getD i 0)] = [AV.int .i64 ((lM (takeS x.1 x.2)).getD i 0)]) ∧ ((3 : TypeId) = 3 ∧ (1 : Nat) = 1 ∧ y = g_1.val.2.2.2 ∧ (lW (takeS x.1
 x.2)).length ≤ x_2.2.1.length + 1 ∧ ∀ (i : Nat), i < (lW (takeS x.1 x.2)).length → [AV.int .i64 ((insI x_2.2.1 x_2.2.2.2).getD i 0)] = [AV.int .i64 ((lW (takeS
 x.1 x.2)).getD i 0)]) ∧ True) ∧ (((Tr 1 ((freeL x_1).getD (0 + Int.toNat 0) 0 = takeAt x.1 x.2) ∧ Tr 1 ((0 : Int) = takeErr x.1 x.2) ∧ True) ∧ True) ∧ refB
 (takeS x.1 x.2) = refB (takeS x.1 x.2) ∧ true = true ∧ True) ∧ True)) ∧ 0 + Int.toNat 0 < (freeL x_1).length ∧ Exx (Nat × List Int × Int × Int) fun x_2 =>
 (((true = true ∧ NilNil ∧ (0 : Nat) = 0 ∧ (1 : Nat) = 1 ∧ (0 : Nat) = 0 ∧ (lM x.1).length = x_2.2.1.length ∧ g.val.2.2.1 = x_2.1) ∧ Tr 1 ((↑x.1.n : Int) =
 x_2.2.2.1) ∧ Tr 1 ((freeL x_1).getD (0 + Int.toNat 0) 0 = x_2.2.2.2) ∧ True) ∧ true = true ∧ ((3 : TypeId) = 3 ∧ (1 : Nat) = 1 ∧ g.val.2.2.1 = x_2.1 ∧
 x_2.2.1.length ≤ (lM x.1).length ∧ ∀ (i : Nat), i < x_2.2.1.length → [AV.int .i64 ((lM x.1).getD i 0)] = [AV.int .i64 (x_2.2.1.getD i 0)]) ∧ True) ∧ (Ints
 x_2.2.1 ∧ x_2.2.1.length ≤ x_2.1 ∧ x_2.1 ≤ 9223372036854775807 ∧ I64 x_2.2.2.1 ∧ I64 x_2.2.2.2 ∧ List.Pairwise (fun x1 x2 => x1 < x2) x_2.2.1) ∧ (x_2.2.2.2 < (0
 : Int) ∨ x_2.2.2.1 ≤ x_2.2.2.2 ∨ x_2.2.2.2 ∈ x_2.2.1 → ∀ (y : Unit), True → ((0 : Int) ≤ (0 : Int) ∧ (0 : Int) < (↑(freeL x_1).length : Int)) ∧ 0 + Int.toNat 0
 < (freeL x_1).length ∧ Exx Unit fun y => Exx (Subtype (RCap (takeS x.1 x.2) false false true)) fun g_1 => Tr 1 (((38 : TypeId) = 38 ∧ Tr 1 ((↑x.1.n : Int) =
 (↑(takeS x.1 x.2).n : Int)) ∧ Tr 1 (x.1.r = (takeS x.1 x.2).r) ∧ (true = true ∧ NilNil ∧ (0 : Nat) = 0 ∧ (1 : Nat) = 1 ∧ (0 : Nat) = 0 ∧ (lC x.1).length = (lC
 (takeS x.1 x.2)).length ∧ g.val.1 = g_1.val.1) ∧ (true = true ∧ NilNil ∧ (0 : Nat) = 0 ∧ (1 : Nat) = 1 ∧ (0 : Nat) = 0 ∧ (lE x.1).length = (lE (takeS x.1
 x.2)).length ∧ g.val.2.1 = g_1.val.2.1) ∧ (true = true ∧ NilNil ∧ (0 : Nat) = 0 ∧ (1 : Nat) = 1 ∧ (0 : Nat) = 0 ∧ (lM x.1).length = (lM (takeS x.1 x.2)).length
 ∧ g.val.2.2.1 = g_1.val.2.2.1) ∧ (true = true ∧ NilNil ∧ (0 : Nat) = 0 ∧ (1 : Nat) = 1 ∧ (0 : Nat) = 0 ∧ x_2.2.1.length = (lM (takeS x.1 x.2)).length ∧ x_2.1 =
 g_1.val.2.2.1) ∧ True) ∧ ((3 : TypeId) = 3 ∧ (1 : Nat) = 1 ∧ g.val.1 = g_1.val.1 ∧ (lC (takeS x.1 x.2)).length ≤ (lC x.1).length ∧ ∀ (i : Nat), i < (lC (takeS
 x.1 x.2)).length → [AV.int .i64 ((lC x.1).getD i 0)] = [AV.int .i64 ((lC (takeS x.1 x.2)).getD i 0)]) ∧ ((3 : TypeId) = 3 ∧ (1 : Nat) = 1 ∧ g.val.2.1 =
 g_1.val.2.1 ∧ (lE (takeS x.1 x.2)).length ≤ (lE x.1).length ∧ ∀ (i : Nat), i < (lE (takeS x.1 x.2)).length → [AV.int .i64 ((lE x.1).getD i 0)] = [AV.int .i64
 ((lE (takeS x.1 x.2)).getD i 0)]) ∧ ((3 : TypeId) = 3 ∧ (1 : Nat) = 1 ∧ x_2.1 = g_1.val.2.2.1 ∧ (lM (takeS x.1 x.2)).length ≤ x_2.2.1.length ∧ ∀ (i : Nat), i <
 (lM (takeS x.1 x.2)).length → [AV.int .i64 (x_2.2.1.getD i 0)] = [AV.int .i64 ((lM (takeS x.1 x.2)).getD i 0)]) ∧ True) ∧ (((Tr 1 ((freeL x_1).getD (0 +
 Int.toNat 0) 0 = takeAt x.1 x.2) ∧ Tr 1 ((0 : Int) = takeErr x.1 x.2) ∧ True) ∧ True) ∧ refB (takeS x.1 x.2) = refB (takeS x.1 x.2) ∧ true = true ∧ True) ∧
 True) ∧ (¬refAddI.p x_2 → ∀ (y : Nat), x_2.2.1.length + 1 ≤ y ∧ y ≤ 9223372036854775807 → ((0 : Int) ≤ (0 : Int) ∧ (0 : Int) < (↑(freeL x_1).length : Int)) ∧ 0
 + Int.toNat 0 < (freeL x_1).length ∧ Exx Unit fun y_1 => Exx (Subtype (RCap (takeS x.1 x.2) false false false)) fun g_1 => Tr 1 (((38 : TypeId) = 38 ∧ Tr 1
 ((↑x.1.n : Int) = (↑(takeS x.1 x.2).n : Int)) ∧ Tr 1 (x.1.r = (takeS x.1 x.2).r) ∧ (true = true ∧ NilNil ∧ (0 : Nat) = 0 ∧ (1 : Nat) = 1 ∧ (0 : Nat) = 0 ∧ (lC
 x.1).length = (lC (takeS x.1 x.2)).length ∧ g.val.1 = g_1.val.1) ∧ (true = true ∧ NilNil ∧ (0 : Nat) = 0 ∧ (1 : Nat) = 1 ∧ (0 : Nat) = 0 ∧ (lE x.1).length = (lE
 (takeS x.1 x.2)).length ∧ g.val.2.1 = g_1.val.2.1) ∧ (true = true ∧ NilNil ∧ (0 : Nat) = 0 ∧ (1 : Nat) = 1 ∧ (0 : Nat) = 0 ∧ (lM x.1).length = (lM (takeS x.1
 x.2)).length ∧ g.val.2.2.1 = g_1.val.2.2.1) ∧ (true = true ∧ NilNil ∧ (0 : Nat) = 0 ∧ (1 : Nat) = 1 ∧ (0 : Nat) = 0 ∧ x_2.2.1.length + 1 = (lW (takeS x.1
 x.2)).length ∧ y = g_1.val.2.2.2) ∧ True) ∧ ((3 : TypeId) = 3 ∧ (1 : Nat) = 1 ∧ g.val.1 = g_1.val.1 ∧ (lC (takeS x.1 x.2)).length ≤ (lC x.1).length ∧ ∀ (i :
 Nat), i < (lC (takeS x.1 x.2)).length → [AV.int .i64 ((lC x.1).getD i 0)] = [AV.int .i64 ((lC (takeS x.1 x.2)).getD i 0)]) ∧ ((3 : TypeId) = 3 ∧ (1 : Nat) = 1 ∧
 g.val.2.1 = g_1.val.2.1 ∧ (lE (takeS x.1 x.2)).length ≤ (lE x.1).length ∧ ∀ (i : Nat), i < (lE (takeS x.1 x.2)).length → [AV.int .i64 ((lE x.1).getD i 0)] =
 [AV.int .i64 ((lE (takeS x.1 x.2)).getD i 0)]) ∧ ((3 : TypeId) = 3 ∧ (1 : Nat) = 1 ∧ x_2.1 = g_1.val.2.2.1 ∧ (lM (takeS x.1 x.2)).length ≤ x_2.2.1.length ∧ ∀ (i
 : Nat), i < (lM (takeS x.1 x.2)).length → [AV.int .i64 (x_2.2.1.getD i 0)] = [AV.int .i64 ((lM (takeS x.1 x.2)).getD i 0)]) ∧ ((3 : TypeId) = 3 ∧ (1 : Nat) = 1
 ∧ y = g_1.val.2.2.2 ∧ (lW (takeS x.1 x.2)).length ≤ x_2.2.1.length + 1 ∧ ∀ (i : Nat), i < (lW (takeS x.1 x.2)).length → [AV.int .i64 ((insI x_2.2.1
 x_2.2.2.2).getD i 0)] = [AV.int .i64 ((lW (takeS x.1 x.2)).getD i 0)]) ∧ True) ∧ (((Tr 1 ((freeL x_1).getD (0 + Int.toNat 0) 0 = takeAt x.1 x.2) ∧ Tr 1 ((0 :
 Int) = takeErr x.1 x.2) ∧ True) ∧ True) ∧ refB (takeS x.1 x.2) = refB (takeS x.1 x.2) ∧ true = true ∧ True) ∧ True)) ∧ 0 + Int.toNat 0 < (freeL x_1).length ∧
 (Exx (Nat × List Int × Int × Int) fun x_2 => (((true = true ∧ NilNil ∧ (0 : Nat) = 0 ∧ (1 : Nat) = 1 ∧ (0 : Nat) = 0 ∧ (lM x.1).length = x_2.2.1.length ∧
 g.val.2.2.1 = x_2.1) ∧ Tr 1 ((↑x.1.n : Int) = x_2.2.2.1) ∧ Tr 1 ((freeL x_1).getD (0 + Int.toNat 0) 0 = x_2.2.2.2) ∧ True) ∧ true = true ∧ ((3 : TypeId) = 3 ∧
 (1 : Nat) = 1 ∧ g.val.2.2.1 = x_2.1 ∧ x_2.2.1.length ≤ (lM x.1).length ∧ ∀ (i : Nat), i < x_2.2.1.length → [AV.int .i64 ((lM x.1).getD i 0)] = [AV.int .i64
 (x_2.2.1.getD i 0)]) ∧ True) ∧ (Ints x_2.2.1 ∧ x_2.2.1.length ≤ x_2.1 ∧ x_2.1 ≤ 9223372036854775807 ∧ I64 x_2.2.2.1 ∧ I64 x_2.2.2.2 ∧ List.Pairwise (fun x1 x2
 => x1 < x2) x_2.2.1) ∧ (x_2.2.2.2 < (0 : Int) ∨ x_2.2.2.1 ≤ x_2.2.2.2 ∨ x_2.2.2.2 ∈ x_2.2.1 → ∀ (y : Unit), True → ((0 : Int) ≤ (0 : Int) ∧ (0 : Int) < (↑(freeL
 x_1).length : Int)) ∧ 0 + Int.toNat 0 < (freeL x_1).length ∧ Exx Unit fun y => Exx (Subtype (RCap (takeS x.1 x.2) false false true)) fun g_1 => Tr 1 (((38 :
 TypeId) = 38 ∧ Tr 1 ((↑x.1.n : Int) = (↑(takeS x.1 x.2).n : Int)) ∧ Tr 1 (x.1.r = (takeS x.1 x.2).r) ∧ (true = true ∧ NilNil ∧ (0 : Nat) = 0 ∧ (1 : Nat) = 1 ∧
 (0 : Nat) = 0 ∧ (lC x.1).length = (lC (takeS x.1 x.2)).length ∧ g.val.1 = g_1.val.1) ∧ (true = true ∧ NilNil ∧ (0 : Nat) = 0 ∧ (1 : Nat) = 1 ∧ (0 : Nat) = 0 ∧
 (lE x.1).length = (lE (takeS x.1 x.2)).length ∧ g.val.2.1 = g_1.val.2.1) ∧ (true = true ∧ NilNil ∧ (0 : Nat) = 0 ∧ (1 : Nat) = 1 ∧ (0 : Nat) = 0 ∧ (lM
 x.1).length = (lM (takeS x.1 x.2)).length ∧ g.val.2.2.1 = g_1.val.2.2.1) ∧ (true = true ∧ NilNil ∧ (0 : Nat) = 0 ∧ (1 : Nat) = 1 ∧ (0 : Nat) = 0 ∧
 x_2.2.1.length = (lM (takeS x.1 x.2)).length ∧ x_2.1 = g_1.val.2.2.1) ∧ True) ∧ ((3 : TypeId) = 3 ∧ (1 : Nat) = 1 ∧ g.val.1 = g_1.val.1 ∧ (lC (takeS x.1
 x.2)).length ≤ (lC x.1).length ∧ ∀ (i : Nat), i < (lC (takeS x.1 x.2)).length → [AV.int .i64 ((lC x.1).getD i 0)] = [AV.int .i64 ((lC (takeS x.1 x.2)).getD i
 0)]) ∧ ((3 : TypeId) = 3 ∧ (1 : Nat) = 1 ∧ g.val.2.1 = g_1.val.2.1 ∧ (lE (takeS x.1 x.2)).length ≤ (lE x.1).length ∧ ∀ (i : Nat), i < (lE (takeS x.1
 x.2)).length → [AV.int .i64 ((lE x.1).getD i 0)] = [AV.int .i64 ((lE (takeS x.1 x.2)).getD i 0)]) ∧ ((3 : TypeId) = 3 ∧ (1 : Nat) = 1 ∧ x_2.1 = g_1.val.2.2.1 ∧
 (lM (takeS x.1 x.2)).length ≤ x_2.2.1.length ∧ ∀ (i : Nat), i < (lM (takeS x.1 x.2)).length → [AV.int .i64 (x_2.2.1.getD i 0)] = [AV.int .i64 ((lM (takeS x.1
 x.2)).getD i 0)]) ∧ True) ∧ (((Tr 1 ((freeL x_1).getD (0 + Int.toNat 0) 0 = takeAt x.1 x.2) ∧ Tr 1 ((0 : Int) = takeErr x.1 x.2) ∧ True) ∧ True) ∧ refB (takeS
 x.1 x.2) = refB (takeS x.1 x.2) ∧ true = true ∧ True) ∧ True) ∧ (¬refAddI.p x_2 → ∀ (y : Nat), x_2.2.1.length + 1 ≤ y ∧ y ≤ 9223372036854775807 → ((0 : Int) ≤
 (0 : Int) ∧ (0 : Int) < (↑(freeL x_1).length : Int)) ∧ 0 + Int.toNat 0 < (freeL x_1).length ∧ Exx Unit fun y_1 => Exx (Subtype (RCap (takeS x.1 x.2) false false
 false)) fun g_1 => Tr 1 (((38 : TypeId) = 38 ∧ Tr 1 ((↑x.1.n : Int) = (↑(takeS x.1 x.2).n : Int)) ∧ Tr 1 (x.1.r = (takeS x.1 x.2).r) ∧ (true = true ∧ NilNil ∧
 (0 : Nat) = 0 ∧ (1 : Nat) = 1 ∧ (0 : Nat) = 0 ∧ (lC x.1).length = (lC (takeS x.1 x.2)).length ∧ g.val.1 = g_1.val.1) ∧ (true = true ∧ NilNil ∧ (0 : Nat) = 0 ∧
 (1 : Nat) = 1 ∧ (0 : Nat) = 0 ∧ (lE x.1).length = (lE (takeS x.1 x.2)).length ∧ g.val.2.1 = g_1.val.2.1) ∧ (true = true ∧ NilNil ∧ (0 : Nat) = 0 ∧ (1 : Nat) = 1
 ∧ (0 : Nat) = 0 ∧ (lM x.1).length = (lM (takeS x.1 x.2)).length ∧ g.val.2.2.1 = g_1.val.2.2.1) ∧ (true = true ∧ NilNil ∧ (0 : Nat) = 0 ∧ (1 : Nat) = 1 ∧ (0 :
 Nat) = 0 ∧ x_2.2.1.length + 1 = (lW (takeS x.1 x.2)).length ∧ y = g_1.val.2.2.2) ∧ True) ∧ ((3 : TypeId) = 3 ∧ (1 : Nat) = 1 ∧ g.val.1 = g_1.val.1 ∧ (lC (takeS
 x.1 x.2)).length ≤ (lC x.1).length ∧ ∀ (i : Nat), i < (lC (takeS x.1 x.2)).length → [AV.int .i64 ((lC x.1).getD i 0)] = [AV.int .i64 ((lC (takeS x.1 x.2)).getD
 i 0)]) ∧ ((3 : TypeId) = 3 ∧ (1 : Nat) = 1 ∧ g.val.2.1 = g_1.val.2.1 ∧ (lE (takeS x.1 x.2)).length ≤ (lE x.1).length ∧ ∀ (i : Nat), i < (lE (takeS x.1
 x.2)).length → [AV.int .i64 ((lE x.1).getD i 0)] = [AV.int .i64 ((lE (takeS x.1 x.2)).getD i 0)]) ∧ ((3 : TypeId) = 3 ∧ (1 : Nat) = 1 ∧ x_2.1 = g_1.val.2.2.1 ∧
 (lM (takeS x.1 x.2)).length ≤ x_2.2.1.length ∧ ∀ (i : Nat), i < (lM (takeS x.1 x.2)).length → [AV.int .i64 (x_2.2.1.getD i 0)] = [AV.int .i64 ((lM (takeS x.1
 x.2)).getD i 0)]) ∧ ((3 : TypeId) = 3 ∧ (1 : Nat) = 1 ∧ y = g_1.val.2.2.2 ∧ (lW (takeS x.1 x.2)).length ≤ x_2.2.1.length + 1 ∧ ∀ (i : Nat), i < (lW (takeS x.1
 x.2)).length → [AV.int .i64 ((insI x_2.2.1 x_2.2.2.2).getD i 0)] = [AV.int .i64 ((lW (takeS x.1 x.2)).getD i 0)]) ∧ True) ∧ (((Tr 1 ((freeL x_1).getD (0 +
 Int.toNat 0) 0 = takeAt x.1 x.2) ∧ Tr 1 ((0 : Int) = takeErr x.1 x.2) ∧ True) ∧ True) ∧ refB (takeS x.1 x.2) = refB (takeS x.1 x.2) ∧ true = true ∧ True) ∧
 True)) ∧ Exx (Nat × List Int × Int × Int) fun x_2 => (((true = true ∧ NilNil ∧ (0 : Nat) = 0 ∧ (1 : Nat) = 1 ∧ (0 : Nat) = 0 ∧ (lM x.1).length = x_2.2.1.length
 ∧ g.val.2.2.1 = x_2.1) ∧ Tr 1 ((↑x.1.n : Int) = x_2.2.2.1) ∧ Tr 1 ((freeL x_1).getD (0 + Int.toNat 0) 0 = x_2.2.2.2) ∧ True) ∧ true = true ∧ ((3 : TypeId) = 3 ∧
 (1 : Nat) = 1 ∧ g.val.2.2.1 = x_2.1 ∧ x_2.2.1.length ≤ (lM x.1).length ∧ ∀ (i : Nat), i < x_2.2.1.length → [AV.int .i64 ((lM x.1).getD i 0)] = [AV.int .i64
 (x_2.2.1.getD i 0)]) ∧ True) ∧ (Ints x_2.2.1 ∧ x_2.2.1.length ≤ x_2.1 ∧ x_2.1 ≤ 9223372036854775807 ∧ I64 x_2.2.2.1 ∧ I64 x_2.2.2.2 ∧ List.Pairwise (fun x1 x2
 => x1 < x2) x_2.2.1) ∧ (x_2.2.2.2 < (0 : Int) ∨ x_2.2.2.1 ≤ x_2.2.2.2 ∨ x_2.2.2.2 ∈ x_2.2.1 → ∀ (y : Unit), True → ((0 : Int) ≤ (0 : Int) ∧ (0 : Int) < (↑(freeL
 x_1).length : Int)) ∧ 0 + Int.toNat 0 < (freeL x_1).length ∧ Exx Unit fun y => Exx (Subtype (RCap (takeS x.1 x.2) false false true)) fun g_1 => Tr 1 (((38 :
 TypeId) = 38 ∧ Tr 1 ((↑x.1.n : Int) = (↑(takeS x.1 x.2).n : Int)) ∧ Tr 1 (x.1.r = (takeS x.1 x.2).r) ∧ (true = true ∧ NilNil ∧ (0 : Nat) = 0 ∧ (1 : Nat) = 1 ∧
 (0 : Nat) = 0 ∧ (lC x.1).length = (lC (takeS x.1 x.2)).length ∧ g.val.1 = g_1.val.1) ∧ (true = true ∧ NilNil ∧ (0 : Nat) = 0 ∧ (1 : Nat) = 1 ∧ (0 : Nat) = 0 ∧
 (lE x.1).length = (lE (takeS x.1 x.2)).length ∧ g.val.2.1 = g_1.val.2.1) ∧ (true = true ∧ NilNil ∧ (0 : Nat) = 0 ∧ (1 : Nat) = 1 ∧ (0 : Nat) = 0 ∧ (lM
 x.1).length = (lM (takeS x.1 x.2)).length ∧ g.val.2.2.1 = g_1.val.2.2.1) ∧ (true = true ∧ NilNil ∧ (0 : Nat) = 0 ∧ (1 : Nat) = 1 ∧ (0 : Nat) = 0 ∧
 x_2.2.1.length = (lM (takeS x.1 x.2)).length ∧ x_2.1 = g_1.val.2.2.1) ∧ True) ∧ ((3 : TypeId) = 3 ∧ (1 : Nat) = 1 ∧ g.val.1 = g_1.val.1 ∧ (lC (takeS x.1
 x.2)).length ≤ (lC x.1).length ∧ ∀ (i : Nat), i < (lC (takeS x.1 x.2)).length → [AV.int .i64 ((lC x.1).getD i 0)] = [AV.int .i64 ((lC (takeS x.1 x.2)).getD i
 0)]) ∧ ((3 : TypeId) = 3 ∧ (1 : Nat) = 1 ∧ g.val.2.1 = g_1.val.2.1 ∧ (lE (takeS x.1 x.2)).length ≤ (lE x.1).length ∧ ∀ (i : Nat), i < (lE (takeS x.1
 x.2)).length → [AV.int .i64 ((lE x.1).getD i 0)] = [AV.int .i64 ((lE (takeS x.1 x.2)).getD i 0)]) ∧ ((3 : TypeId) = 3 ∧ (1 : Nat) = 1 ∧ x_2.1 = g_1.val.2.2.1 ∧
 (lM (takeS x.1 x.2)).length ≤ x_2.2.1.length ∧ ∀ (i : Nat), i < (lM (takeS x.1 x.2)).length → [AV.int .i64 (x_2.2.1.getD i 0)] = [AV.int .i64 ((lM (takeS x.1
 x.2)).getD i 0)]) ∧ True) ∧ (((Tr 1 ((freeL x_1).getD (0 + Int.toNat 0) 0 = takeAt x.1 x.2) ∧ Tr 1 ((0 : Int) = takeErr x.1 x.2) ∧ True) ∧ True) ∧ refB (takeS
 x.1 x.2) = refB (takeS x.1 x.2) ∧ true = true ∧ True) ∧ True) ∧ (¬refAddI.p x_2 → ∀ (y : Nat), x_2.2.1.length + 1 ≤ y ∧ y ≤ 9223372036854775807 → ((0 : Int) ≤
 (0 : Int) ∧ (0 : Int) < (↑(freeL x_1).length : Int)) ∧ 0 + Int.toNat 0 < (freeL x_1).length ∧ Exx Unit fun y_1 => Exx (Subtype (RCap (takeS x.1 x.2) false false
 false)) fun g_1 => Tr 1 (((38 : TypeId) = 38 ∧ Tr 1 ((↑x.1.n : Int) = (↑(takeS x.1 x.2).n : Int)) ∧ Tr 1 (x.1.r = (takeS x.1 x.2).r) ∧ (true = true ∧ NilNil ∧
 (0 : Nat) = 0 ∧ (1 : Nat) = 1 ∧ (0 : Nat) = 0 ∧ (lC x.1).length = (lC (takeS x.1 x.2)).length ∧ g.val.1 = g_1.val.1) ∧ (true = true ∧ NilNil ∧ (0 : Nat) = 0 ∧
 (1 : Nat) = 1 ∧ (0 : Nat) = 0 ∧ (lE x.1).length = (lE (takeS x.1 x.2)).length ∧ g.val.2.1 = g_1.val.2.1) ∧ (true = true ∧ NilNil ∧ (0 : Nat) = 0 ∧ (1 : Nat) = 1
 ∧ (0 : Nat) = 0 ∧ (lM x.1).length = (lM (takeS x.1 x.2)).length ∧ g.val.2.2.1 = g_1.val.2.2.1) ∧ (true = true ∧ NilNil ∧ (0 : Nat) = 0 ∧ (1 : Nat) = 1 ∧ (0 :
 Nat) = 0 ∧ x_2.2.1.length + 1 = (lW (takeS x.1 x.2)).length ∧ y = g_1.val.2.2.2) ∧ True) ∧ ((3 : TypeId) = 3 ∧ (1 : Nat) = 1 ∧ g.val.1 = g_1.val.1 ∧ (lC (takeS
 x.1 x.2)).length ≤ (lC x.1).length ∧ ∀ (i : Nat), i < (lC (takeS x.1 x.2)).length → [AV.int .i64 ((lC x.1).getD i 0)] = [AV.int .i64 ((lC (takeS x.1 x.2)).getD
 i 0)]) ∧ ((3 : TypeId) = 3 ∧ (1 : Nat) = 1 ∧ g.val.2.1 = g_1.val.2.1 ∧ (lE (takeS x.1 x.2)).length ≤ (lE x.1).length ∧ ∀ (i : Nat), i < (lE (takeS x.1
 x.2)).length → [AV.int .i64 ((lE x.1).getD i 0)] = [AV.int .i64 ((lE (takeS x.1 x.2)).getD i 0)]) ∧ ((3 : TypeId) = 3 ∧ (1 : Nat) = 1 ∧ x_2.1 = g_1.val.2.2.1 ∧
 (lM (takeS x.1 x.2)).length ≤ x_2.2.1.length ∧ ∀ (i : Nat), i < (lM (takeS x.1 x.2)).length → [AV.int .i64 (x_2.2.1.getD i 0)] = [AV.int .i64 ((lM (takeS x.1
 x.2)).getD i 0)]) ∧ ((3 : TypeId) = 3 ∧ (1 : Nat) = 1 ∧ y = g_1.val.2.2.2 ∧ (lW (takeS x.1 x.2)).length ≤ x_2.2.1.length + 1 ∧ ∀ (i : Nat), i < (lW (takeS x.1
 x.2)).length → [AV.int .i64 ((insI x_2.2.1 x_2.2.2.2).getD i 0)] = [AV.int .i64 ((lW (takeS x.1 x.2)).getD i 0)]) ∧ True) ∧ (((Tr 1 ((freeL x_1).getD (0 +
 Int.toNat 0) 0 = takeAt x.1 x.2) ∧ Tr 1 ((0 : Int) = takeErr x.1 x.2) ∧ True) ∧ True) ∧ refB (takeS x.1 x.2) = refB (takeS x.1 x.2) ∧ true = true ∧ True) ∧
 True)) ∧ (∀ (g : Subtype (RCap x.1 false false false)), ((0 : Int) ≤ (0 : Int) ∧ (0 : Int) < (↑(freeL x_1).length : Int)) ∧ ((0 + Int.toNat 0 < (freeL
 x_1).length ∧ Exx (Nat × List Int × Int × Int) fun x_2 => (((true = true ∧ NilNil ∧ (0 : Nat) = 0 ∧ (1 : Nat) = 1 ∧ (0 : Nat) = 0 ∧ (lW x.1).length =
 x_2.2.1.length ∧ g.val.2.2.2 = x_2.1) ∧ Tr 1 ((↑x.1.n : Int) = x_2.2.2.1) ∧ Tr 1 ((freeL x_1).getD (0 + Int.toNat 0) 0 = x_2.2.2.2) ∧ True) ∧ true = true ∧ ((3
 : TypeId) = 3 ∧ (1 : Nat) = 1 ∧ g.val.2.2.2 = x_2.1 ∧ x_2.2.1.length ≤ (lW x.1).length ∧ ∀ (i : Nat), i < x_2.2.1.length → [AV.int .i64 ((lW x.1).getD i 0)] =
 [AV.int .i64 (x_2.2.1.getD i 0)]) ∧ True) ∧ (Ints x_2.2.1 ∧ x_2.2.1.length ≤ x_2.1 ∧ x_2.1 ≤ 9223372036854775807 ∧ I64 x_2.2.2.1 ∧ I64 x_2.2.2.2 ∧ List.Pairwise
 (fun x1 x2 => x1 < x2) x_2.2.1) ∧ (x_2.2.2.2 < (0 : Int) ∨ x_2.2.2.1 ≤ x_2.2.2.2 ∨ x_2.2.2.2 ∈ x_2.2.1 → ∀ (y : Unit), True → ((0 : Int) ≤ (0 : Int) ∧ (0 : Int)
 < (↑(freeL x_1).length : Int)) ∧ 0 + Int.toNat 0 < (freeL x_1).length ∧ Exx Unit fun y => Exx (Subtype (RCap (takeS x.1 x.2) false false false)) fun g_1 => Tr 1
 (((38 : TypeId) = 38 ∧ Tr 1 ((↑x.1.n : Int) = (↑(takeS x.1 x.2).n : Int)) ∧ Tr 1 (x.1.r = (takeS x.1 x.2).r) ∧ (true = true ∧ NilNil ∧ (0 : Nat) = 0 ∧ (1 : Nat)
 = 1 ∧ (0 : Nat) = 0 ∧ (lC x.1).length = (lC (takeS x.1 x.2)).length ∧ g.val.1 = g_1.val.1) ∧ (true = true ∧ NilNil ∧ (0 : Nat) = 0 ∧ (1 : Nat) = 1 ∧ (0 : Nat) =
 0 ∧ (lE x.1).length = (lE (takeS x.1 x.2)).length ∧ g.val.2.1 = g_1.val.2.1) ∧ (true = true ∧ NilNil ∧ (0 : Nat) = 0 ∧ (1 : Nat) = 1 ∧ (0 : Nat) = 0 ∧ (lM
 x.1).length = (lM (takeS x.1 x.2)).length ∧ g.val.2.2.1 = g_1.val.2.2.1) ∧ (true = true ∧ NilNil ∧ (0 : Nat) = 0 ∧ (1 : Nat) = 1 ∧ (0 : Nat) = 0 ∧
 x_2.2.1.length = (lW (takeS x.1 x.2)).length ∧ x_2.1 = g_1.val.2.2.2) ∧ True) ∧ ((3 : TypeId) = 3 ∧ (1 : Nat) = 1 ∧ g.val.1 = g_1.val.1 ∧ (lC (takeS x.1
 x.2)).length ≤ (lC x.1).length ∧ ∀ (i : Nat), i < (lC (takeS x.1 x.2)).length → [AV.int .i64 ((lC x.1).getD i 0)] = [AV.int .i64 ((lC (takeS x.1 x.2)).getD i
 0)]) ∧ ((3 : TypeId) = 3 ∧ (1 : Nat) = 1 ∧ g.val.2.1 = g_1.val.2.1 ∧ (lE (takeS x.1 x.2)).length ≤ (lE x.1).length ∧ ∀ (i : Nat), i < (lE (takeS x.1
 x.2)).length → [AV.int .i64 ((lE x.1).getD i 0)] = [AV.int .i64 ((lE (takeS x.1 x.2)).getD i 0)]) ∧ ((3 : TypeId) = 3 ∧ (1 : Nat) = 1 ∧ g.val.2.2.1 =
 g_1.val.2.2.1 ∧ (lM (takeS x.1 x.2)).length ≤ (lM x.1).length ∧ ∀ (i : Nat), i < (lM (takeS x.1 x.2)).length → [AV.int .i64 ((lM x.1).getD i 0)] = [AV.int .i64
 ((lM (takeS x.1 x.2)).getD i 0)]) ∧ ((3 : TypeId) = 3 ∧ (1 : Nat) = 1 ∧ x_2.1 = g_1.val.2.2.2 ∧ (lW (takeS x.1 x.2)).length ≤ x_2.2.1.length ∧ ∀ (i : Nat), i <
 (lW (takeS x.1 x.2)).length → [AV.int .i64 (x_2.2.1.getD i 0)] = [AV.int .i64 ((lW (takeS x.1 x.2)).getD i 0)]) ∧ True) ∧ (((Tr 1 ((freeL x_1).getD (0 +
 Int.toNat 0) 0 = takeAt x.1 x.2) ∧ Tr 1 ((0 : Int) = takeErr x.1 x.2) ∧ True) ∧ True) ∧ refB (takeS x.1 x.2) = refB (takeS x.1 x.2) ∧ true = true ∧ True) ∧
 True) ∧ (¬refAddI.p x_2 → ∀ (y : Nat), x_2.2.1.length + 1 ≤ y ∧ y ≤ 9223372036854775807 → ((0 : Int) ≤ (0 : Int) ∧ (0 : Int) < (↑(freeL x_1).length : Int)) ∧ 0
 + Int.toNat 0 < (freeL x_1).length ∧ Exx Unit fun y_1 => Exx (Subtype (RCap (takeS x.1 x.2) false false false)) fun g_1 => Tr 1 (((38 : TypeId) = 38 ∧ Tr 1
 ((↑x.1.n : Int) = (↑(takeS x.1 x.2).n : Int)) ∧ Tr 1 (x.1.r = (takeS x.1 x.2).r) ∧ (true = true ∧ NilNil ∧ (0 : Nat) = 0 ∧ (1 : Nat) = 1 ∧ (0 : Nat) = 0 ∧ (lC
 x.1).length = (lC (takeS x.1 x.2)).length ∧ g.val.1 = g_1.val.1) ∧ (true = true ∧ NilNil ∧ (0 : Nat) = 0 ∧ (1 : Nat) = 1 ∧ (0 : Nat) = 0 ∧ (lE x.1).length = (lE
 (takeS x.1 x.2)).length ∧ g.val.2.1 = g_1.val.2.1) ∧ (true = true ∧ NilNil ∧ (0 : Nat) = 0 ∧ (1 : Nat) = 1 ∧ (0 : Nat) = 0 ∧ (lM x.1).length = (lM (takeS x.1
 x.2)).length ∧ g.val.2.2.1 = g_1.val.2.2.1) ∧ (true = true ∧ NilNil ∧ (0 : Nat) = 0 ∧ (1 : Nat) = 1 ∧ (0 : Nat) = 0 ∧ x_2.2.1.length + 1 = (lW (takeS x.1
 x.2)).length ∧ y = g_1.val.2.2.2) ∧ True) ∧ ((3 : TypeId) = 3 ∧ (1 : Nat) = 1 ∧ g.val.1 = g_1.val.1 ∧ (lC (takeS x.1 x.2)).length ≤ (lC x.1).length ∧ ∀ (i :
 Nat), i < (lC (takeS x.1 x.2)).length → [AV.int .i64 ((lC x.1).getD i 0)] = [AV.int .i64 ((lC (takeS x.1 x.2)).getD i 0)]) ∧ ((3 : TypeId) = 3 ∧ (1 : Nat) = 1 ∧
 g.val.2.1 = g_1.val.2.1 ∧ (lE (takeS x.1 x.2)).length ≤ (lE x.1).length ∧ ∀ (i : Nat), i < (lE (takeS x.1 x.2)).length → [AV.int .i64 ((lE x.1).getD i 0)] =
 [AV.int .i64 ((lE (takeS x.1 x.2)).getD i 0)]) ∧ ((3 : TypeId) = 3 ∧ (1 : Nat) = 1 ∧ g.val.2.2.1 = g_1.val.2.2.1 ∧ (lM (takeS x.1 x.2)).length ≤ (lM x.1).length
 ∧ ∀ (i : Nat), i < (lM (takeS x.1 x.2)).length → [AV.int .i64 ((lM x.1).getD i 0)] = [AV.int .i64 ((lM (takeS x.1 x.2)).getD i 0)]) ∧ ((3 : TypeId) = 3 ∧ (1 :
 Nat) = 1 ∧ y = g_1.val.2.2.2 ∧ (lW (takeS x.1 x.2)).length ≤ x_2.2.1.length + 1 ∧ ∀ (i : Nat), i < (lW (takeS x.1 x.2)).length → [AV.int .i64 ((insI x_2.2.1
 x_2.2.2.2).getD i 0)] = [AV.int .i64 ((lW (takeS x.1 x.2)).getD i 0)]) ∧ True) ∧ (((Tr 1 ((freeL x_1).getD (0 + Int.toNat 0) 0 = takeAt x.1 x.2) ∧ Tr 1 ((0 :
 Int) = takeErr x.1 x.2) ∧ True) ∧ True) ∧ refB (takeS x.1 x.2) = refB (takeS x.1 x.2) ∧ true = true ∧ True) ∧ True)) ∧ 0 + Int.toNat 0 < (freeL x_1).length ∧
 Exx (Nat × List Int × Int × Int) fun x_2 => (((true = true ∧ NilNil ∧ (0 : Nat) = 0 ∧ (1 : Nat) = 1 ∧ (0 : Nat) = 0 ∧ (lW x.1).length = x_2.2.1.length ∧
 g.val.2.2.2 = x_2.1) ∧ Tr 1 ((↑x.1.n : Int) = x_2.2.2.1) ∧ Tr 1 ((freeL x_1).getD (0 + Int.toNat 0) 0 = x_2.2.2.2) ∧ True) ∧ true = true ∧ ((3 : TypeId) = 3 ∧
 (1 : Nat) = 1 ∧ g.val.2.2.2 = x_2.1 ∧ x_2.2.1.length ≤ (lW x.1).length ∧ ∀ (i : Nat), i < x_2.2.1.length → [AV.int .i64 ((lW x.1).getD i 0)] = [AV.int .i64
 (x_2.2.1.getD i 0)]) ∧ True) ∧ (Ints x_2.2.1 ∧ x_2.2.1.length ≤ x_2.1 ∧ x_2.1 ≤ 9223372036854775807 ∧ I64 x_2.2.2.1 ∧ I64 x_2.2.2.2 ∧ List.Pairwise (fun x1 x2
 => x1 < x2) x_2.2.1) ∧ (x_2.2.2.2 < (0 : Int) ∨ x_2.2.2.1 ≤ x_2.2.2.2 ∨ x_2.2.2.2 ∈ x_2.2.1 → ∀ (y : Unit), True → ((0 : Int) ≤ (0 : Int) ∧ (0 : Int) < (↑(freeL
 x_1).length : Int)) ∧ 0 + Int.toNat 0 < (freeL x_1).length ∧ Exx Unit fun y => Exx (Subtype (RCap (takeS x.1 x.2) false false false)) fun g_1 => Tr 1 (((38 :
 TypeId) = 38 ∧ Tr 1 ((↑x.1.n : Int) = (↑(takeS x.1 x.2).n : Int)) ∧ Tr 1 (x.1.r = (takeS x.1 x.2).r) ∧ (true = true ∧ NilNil ∧ (0 : Nat) = 0 ∧ (1 : Nat) = 1 ∧
 (0 : Nat) = 0 ∧ (lC x.1).length = (lC (takeS x.1 x.2)).length ∧ g.val.1 = g_1.val.1) ∧ (true = true ∧ NilNil ∧ (0 : Nat) = 0 ∧ (1 : Nat) = 1 ∧ (0 : Nat) = 0 ∧
 (lE x.1).length = (lE (takeS x.1 x.2)).length ∧ g.val.2.1 = g_1.val.2.1) ∧ (true = true ∧ NilNil ∧ (0 : Nat) = 0 ∧ (1 : Nat) = 1 ∧ (0 : Nat) = 0 ∧ (lM
 x.1).length = (lM (takeS x.1 x.2)).length ∧ g.val.2.2.1 = g_1.val.2.2.1) ∧ (true = true ∧ NilNil ∧ (0 : Nat) = 0 ∧ (1 : Nat) = 1 ∧ (0 : Nat) = 0 ∧
 x_2.2.1.length = (lW (takeS x.1 x.2)).length ∧ x_2.1 = g_1.val.2.2.2) ∧ True) ∧ ((3 : TypeId) = 3 ∧ (1 : Nat) = 1 ∧ g.val.1 = g_1.val.1 ∧ (lC (takeS x.1
 x.2)).length ≤ (lC x.1).length ∧ ∀ (i : Nat), i < (lC (takeS x.1 x.2)).length → [AV.int .i64 ((lC x.1).getD i 0)] = [AV.int .i64 ((lC (takeS x.1 x.2)).getD i
 0)]) ∧ ((3 : TypeId) = 3 ∧ (1 : Nat) = 1 ∧ g.val.2.1 = g_1.val.2.1 ∧ (lE (takeS x.1 x.2)).length ≤ (lE x.1).length ∧ ∀ (i : Nat), i < (lE (takeS x.1
 x.2)).length → [AV.int .i64 ((lE x.1).getD i 0)] = [AV.int .i64 ((lE (takeS x.1 x.2)).getD i 0)]) ∧ ((3 : TypeId) = 3 ∧ (1 : Nat) = 1 ∧ g.val.2.2.1 =
 g_1.val.2.2.1 ∧ (lM (takeS x.1 x.2)).length ≤ (lM x.1).length ∧ ∀ (i : Nat), i < (lM (takeS x.1 x.2)).length → [AV.int .i64 ((lM x.1).getD i 0)] = [AV.int .i64
 ((lM (takeS x.1 x.2)).getD i 0)]) ∧ ((3 : TypeId) = 3 ∧ (1 : Nat) = 1 ∧ x_2.1 = g_1.val.2.2.2 ∧ (lW (takeS x.1 x.2)).length ≤ x_2.2.1.length ∧ ∀ (i : Nat), i <
 (lW (takeS x.1 x.2)).length → [AV.int .i64 (x_2.2.1.getD i 0)] = [AV.int .i64 ((lW (takeS x.1 x.2)).getD i 0)]) ∧ True) ∧ (((Tr 1 ((freeL x_1).getD (0 +
 Int.toNat 0) 0 = takeAt x.1 x.2) ∧ Tr 1 ((0 : Int) = takeErr x.1 x.2) ∧ True) ∧ True) ∧ refB (takeS x.1 x.2) = refB (takeS x.1 x.2) ∧ true = true ∧ True) ∧
 True) ∧ (¬refAddI.p x_2 → ∀ (y : Nat), x_2.2.1.length + 1 ≤ y ∧ y ≤ 9223372036854775807 → ((0 : Int) ≤ (0 : Int) ∧ (0 : Int) < (↑(freeL x_1).length : Int)) ∧ 0
 + Int.toNat 0 < (freeL x_1).length ∧ Exx Unit fun y_1 => Exx (Subtype (RCap (takeS x.1 x.2) false false false)) fun g_1 => Tr 1 (((38 : TypeId) = 38 ∧ Tr 1
 ((↑x.1.n : Int) = (↑(takeS x.1 x.2).n : Int)) ∧ Tr 1 (x.1.r = (takeS x.1 x.2).r) ∧ (true = true ∧ NilNil ∧ (0 : Nat) = 0 ∧ (1 : Nat) = 1 ∧ (0 : Nat) = 0 ∧ (lC
 x.1).length = (lC (takeS x.1 x.2)).length ∧ g.val.1 = g_1.val.1) ∧ (true = true ∧ NilNil ∧ (0 : Nat) = 0 ∧ (1 : Nat) = 1 ∧ (0 : Nat) = 0 ∧ (lE x.1).length = (lE
 (takeS x.1 x.2)).length ∧ g.val.2.1 = g_1.val.2.1) ∧ (true = true ∧ NilNil ∧ (0 : Nat) = 0 ∧ (1 : Nat) = 1 ∧ (0 : Nat) = 0 ∧ (lM x.1).length = (lM (takeS x.1
 x.2)).length ∧ g.val.2.2.1 = g_1.val.2.2.1) ∧ (true = true ∧ NilNil ∧ (0 : Nat) = 0 ∧ (1 : Nat) = 1 ∧ (0 : Nat) = 0 ∧ x_2.2.1.length + 1 = (lW (takeS x.1
 x.2)).length ∧ y = g_1.val.2.2.2) ∧ True) ∧ ((3 : TypeId) = 3 ∧ (1 : Nat) = 1 ∧ g.val.1 = g_1.val.1 ∧ (lC (takeS x.1 x.2)).length ≤ (lC x.1).length ∧ ∀ (i :
 Nat), i < (lC (takeS x.1 x.2)).length → [AV.int .i64 ((lC x.1).getD i 0)] = [AV.int .i64 ((lC (takeS x.1 x.2)).getD i 0)]) ∧ ((3 : TypeId) = 3 ∧ (1 : Nat) = 1 ∧
 g.val.2.1 = g_1.val.2.1 ∧ (lE (takeS x.1 x.2)).length ≤ (lE x.1).length ∧ ∀ (i : Nat), i < (lE (takeS x.1 x.2)).length → [AV.int .i64 ((lE x.1).getD i 0)] =
 [AV.int .i64 ((lE (takeS x.1 x.2)).getD i 0)]) ∧ ((3 : TypeId) = 3 ∧ (1 : Nat) = 1 ∧ g.val.2.2.1 = g_1.val.2.2.1 ∧ (lM (takeS x.1 x.2)).length ≤ (lM x.1).length
 ∧ ∀ (i : Nat), i < (lM (takeS x.1 x.2)).length → [AV.int .i64 ((lM x.1).getD i 0)] = [AV.int .i64 ((lM (takeS x.1 x.2)).getD i 0)]) ∧ ((3 : TypeId) = 3 ∧ (1 :
 Nat) = 1 ∧ y = g_1.val.2.2.2 ∧ (lW (takeS x.1 x.2)).length ≤ x_2.2.1.length + 1 ∧ ∀ (i : Nat), i < (lW (takeS x.1 x.2)).length → [AV.int .i64 ((insI x_2.2.1
 x_2.2.2.2).getD i 0)] = [AV.int .i64 ((lW (takeS x.1 x.2)).getD i 0)]) ∧ True) ∧ (((Tr 1 ((freeL x_1).getD (0 + Int.toNat 0) 0 = takeAt x.1 x.2) ∧ Tr 1 ((0 :
 Int) = takeErr x.1 x.2) ∧ True) ∧ True) ∧ refB (takeS x.1 x.2) = refB (takeS x.1 x.2) ∧ true = true ∧ True) ∧ True)) ∧ ((0 + Int.toNat 0 < (freeL x_1).length ∧
 Exx (Nat × List Int × Int × Int) fun x_2 => (((true = true ∧ NilNil ∧ (0 : Nat) = 0 ∧ (1 : Nat) = 1 ∧ (0 : Nat) = 0 ∧ (lW x.1).length = x_2.2.1.length ∧
 g.val.2.2.2 = x_2.1) ∧ Tr 1 ((↑x.1.n : Int) = x_2.2.2.1) ∧ Tr 1 ((freeL x_1).getD (0 + Int.toNat 0) 0 = x_2.2.2.2) ∧ True) ∧ true = true ∧ ((3 : TypeId) = 3 ∧
 (1 : Nat) = 1 ∧ g.val.2.2.2 = x_2.1 ∧ x_2.2.1.length ≤ (lW x.1).length ∧ ∀ (i : Nat), i < x_2.2.1.length → [AV.int .i64 ((lW x.1).getD i 0)] = [AV.int .i64
 (x_2.2.1.getD i 0)]) ∧ True) ∧ (Ints x_2.2.1 ∧ x_2.2.1.length ≤ x_2.1 ∧ x_2.1 ≤ 9223372036854775807 ∧ I64 x_2.2.2.1 ∧ I64 x_2.2.2.2 ∧ List.Pairwise (fun x1 x2
 => x1 < x2) x_2.2.1) ∧ (x_2.2.2.2 < (0 : Int) ∨ x_2.2.2.1 ≤ x_2.2.2.2 ∨ x_2.2.2.2 ∈ x_2.2.1 → ∀ (y : Unit), True → ((0 : Int) ≤ (0 : Int) ∧ (0 : Int) < (↑(freeL
 x_1).length : Int)) ∧ 0 + Int.toNat 0 < (freeL x_1).length ∧ Exx Unit fun y => Exx (Subtype (RCap (takeS x.1 x.2) false false false)) fun g_1 => Tr 1 (((38 :
 TypeId) = 38 ∧ Tr 1 ((↑x.1.n : Int) = (↑(takeS x.1 x.2).n : Int)) ∧ Tr 1 (x.1.r = (takeS x.1 x.2).r) ∧ (true = true ∧ NilNil ∧ (0 : Nat) = 0 ∧ (1 : Nat) = 1 ∧
 (0 : Nat) = 0 ∧ (lC x.1).length = (lC (takeS x.1 x.2)).length ∧ g.val.1 = g_1.val.1) ∧ (true = true ∧ NilNil ∧ (0 : Nat) = 0 ∧ (1 : Nat) = 1 ∧ (0 : Nat) = 0 ∧
 (lE x.1).length = (lE (takeS x.1 x.2)).length ∧ g.val.2.1 = g_1.val.2.1) ∧ (true = true ∧ NilNil ∧ (0 : Nat) = 0 ∧ (1 : Nat) = 1 ∧ (0 : Nat) = 0 ∧ (lM
 x.1).length = (lM (takeS x.1 x.2)).length ∧ g.val.2.2.1 = g_1.val.2.2.1) ∧ (true = true ∧ NilNil ∧ (0 : Nat) = 0 ∧ (1 : Nat) = 1 ∧ (0 : Nat) = 0 ∧
 x_2.2.1.length = (lW (takeS x.1 x.2)).length ∧ x_2.1 = g_1.val.2.2.2) ∧ True) ∧ ((3 : TypeId) = 3 ∧ (1 : Nat) = 1 ∧ g.val.1 = g_1.val.1 ∧ (lC (takeS x.1
 x.2)).length ≤ (lC x.1).length ∧ ∀ (i : Nat), i < (lC (takeS x.1 x.2)).length → [AV.int .i64 ((lC x.1).getD i 0)] = [AV.int .i64 ((lC (takeS x.1 x.2)).getD i
 0)]) ∧ ((3 : TypeId) = 3 ∧ (1 : Nat) = 1 ∧ g.val.2.1 = g_1.val.2.1 ∧ (lE (takeS x.1 x.2)).length ≤ (lE x.1).length ∧ ∀ (i : Nat), i < (lE (takeS x.1
 x.2)).length → [AV.int .i64 ((lE x.1).getD i 0)] = [AV.int .i64 ((lE (takeS x.1 x.2)).getD i 0)]) ∧ ((3 : TypeId) = 3 ∧ (1 : Nat) = 1 ∧ g.val.2.2.1 =
 g_1.val.2.2.1 ∧ (lM (takeS x.1 x.2)).length ≤ (lM x.1).length ∧ ∀ (i : Nat), i < (lM (takeS x.1 x.2)).length → [AV.int .i64 ((lM x.1).getD i 0)] = [AV.int .i64
 ((lM (takeS x.1 x.2)).getD i 0)]) ∧ ((3 : TypeId) = 3 ∧ (1 : Nat) = 1 ∧ x_2.1 = g_1.val.2.2.2 ∧ (lW (takeS x.1 x.2)).length ≤ x_2.2.1.length ∧ ∀ (i : Nat), i <
 (lW (takeS x.1 x.2)).length → [AV.int .i64 (x_2.2.1.getD i 0)] = [AV.int .i64 ((lW (takeS x.1 x.2)).getD i 0)]) ∧ True) ∧ (((Tr 1 ((freeL x_1).getD (0 +
 Int.toNat 0) 0 = takeAt x.1 x.2) ∧ Tr 1 ((0 : Int) = takeErr x.1 x.2) ∧ True) ∧ True) ∧ refB (takeS x.1 x.2) = refB (takeS x.1 x.2) ∧ true = true ∧ True) ∧
 True) ∧ (¬refAddI.p x_2 → ∀ (y : Nat), x_2.2.1.length + 1 ≤ y ∧ y ≤ 9223372036854775807 → ((0 : Int) ≤ (0 : Int) ∧ (0 : Int) < (↑(freeL x_1).length : Int)) ∧ 0
 + Int.toNat 0 < (freeL x_1).length ∧ Exx Unit fun y_1 => Exx (Subtype (RCap (takeS x.1 x.2) false false false)) fun g_1 => Tr 1 (((38 : TypeId) = 38 ∧ Tr 1
 ((↑x.1.n : Int) = (↑(takeS x.1 x.2).n : Int)) ∧ Tr 1 (x.1.r = (takeS x.1 x.2).r) ∧ (true = true ∧ NilNil ∧ (0 : Nat) = 0 ∧ (1 : Nat) = 1 ∧ (0 : Nat) = 0 ∧ (lC
 x.1).length = (lC (takeS x.1 x.2)).length ∧ g.val.1 = g_1.val.1) ∧ (true = true ∧ NilNil ∧ (0 : Nat) = 0 ∧ (1 : Nat) = 1 ∧ (0 : Nat) = 0 ∧ (lE x.1).length = (lE
 (takeS x.1 x.2)).length ∧ g.val.2.1 = g_1.val.2.1) ∧ (true = true ∧ NilNil ∧ (0 : Nat) = 0 ∧ (1 : Nat) = 1 ∧ (0 : Nat) = 0 ∧ (lM x.1).length = (lM (takeS x.1
 x.2)).length ∧ g.val.2.2.1 = g_1.val.2.2.1) ∧ (true = true ∧ NilNil ∧ (0 : Nat) = 0 ∧ (1 : Nat) = 1 ∧ (0 : Nat) = 0 ∧ x_2.2.1.length + 1 = (lW (takeS x.1
 x.2)).length ∧ y = g_1.val.2.2.2) ∧ True) ∧ ((3 : TypeId) = 3 ∧ (1 : Nat) = 1 ∧ g.val.1 = g_1.val.1 ∧ (lC (takeS x.1 x.2)).length ≤ (lC x.1).length ∧ ∀ (i :
 Nat), i < (lC (takeS x.1 x.2)).length → [AV.int .i64 ((lC x.1).getD i 0)] = [AV.int .i64 ((lC (takeS x.1 x.2)).getD i 0)]) ∧ ((3 : TypeId) = 3 ∧ (1 : Nat) = 1 ∧
 g.val.2.1 = g_1.val.2.1 ∧ (lE (takeS x.1 x.2)).length ≤ (lE x.1).length ∧ ∀ (i : Nat), i < (lE (takeS x.1 x.2)).length → [AV.int .i64 ((lE x.1).getD i 0)] =
 [AV.int .i64 ((lE (takeS x.1 x.2)).getD i 0)]) ∧ ((3 : TypeId) = 3 ∧ (1 : Nat) = 1 ∧ g.val.2.2.1 = g_1.val.2.2.1 ∧ (lM (takeS x.1 x.2)).length ≤ (lM x.1).length
 ∧ ∀ (i : Nat), i < (lM (takeS x.1 x.2)).length → [AV.int .i64 ((lM x.1).getD i 0)] = [AV.int .i64 ((lM (takeS x.1 x.2)).getD i 0)]) ∧ ((3 : TypeId) = 3 ∧ (1 :
 Nat) = 1 ∧ y = g_1.val.2.2.2 ∧ (lW (takeS x.1 x.2)).length ≤ x_2.2.1.length + 1 ∧ ∀ (i : Nat), i < (lW (takeS x.1 x.2)).length → [AV.int .i64 ((insI x_2.2.1
 x_2.2.2.2).getD i 0)] = [AV.int .i64 ((lW (takeS x.1 x.2)).getD i 0)]) ∧ True) ∧ (((Tr 1 ((freeL x_1).getD (0 + Int.toNat 0) 0 = takeAt x.1 x.2) ∧ Tr 1 ((0 :
 Int) = takeErr x.1 x.2) ∧ True) ∧ True) ∧ refB (takeS x.1 x.2) = refB (takeS x.1 x.2) ∧ true = true ∧ True) ∧ True)) ∧ 0 + Int.toNat 0 < (freeL x_1).length ∧
 Exx (Nat × List Int × Int × Int) fun x_2 => (((true = true ∧ NilNil ∧ (0 : Nat) = 0 ∧ (1 : Nat) = 1 ∧ (0 : Nat) = 0 ∧ (lW x.1).length = x_2.2.1.length ∧
 g.val.2.2.2 = x_2.1) ∧ Tr 1 ((↑x.1.n : Int) = x_2.2.2.1) ∧ Tr 1 ((freeL x_1).getD (0 + Int.toNat 0) 0 = x_2.2.2.2) ∧ True) ∧ true = true ∧ ((3 : TypeId) = 3 ∧
 (1 : Nat) = 1 ∧ g.val.2.2.2 = x_2.1 ∧ x_2.2.1.length ≤ (lW x.1).length ∧ ∀ (i : Nat), i < x_2.2.1.length → [AV.int .i64 ((lW x.1).getD i 0)] = [AV.int .i64
 (x_2.2.1.getD i 0)]) ∧ True) ∧ (Ints x_2.2.1 ∧ x_2.2.1.length ≤ x_2.1 ∧ x_2.1 ≤ 9223372036854775807 ∧ I64 x_2.2.2.1 ∧ I64 x_2.2.2.2 ∧ List.Pairwise (fun x1 x2
 => x1 < x2) x_2.2.1) ∧ (x_2.2.2.2 < (0 : Int) ∨ x_2.2.2.1 ≤ x_2.2.2.2 ∨ x_2.2.2.2 ∈ x_2.2.1 → ∀ (y : Unit), True → ((0 : Int) ≤ (0 : Int) ∧ (0 : Int) < (↑(freeL
 x_1).length : Int)) ∧ 0 + Int.toNat 0 < (freeL x_1).length ∧ Exx Unit fun y => Exx (Subtype (RCap (takeS x.1 x.2) false false false)) fun g_1 => Tr 1 (((38 :
 TypeId) = 38 ∧ Tr 1 ((↑x.1.n : Int) = (↑(takeS x.1 x.2).n : Int)) ∧ Tr 1 (x.1.r = (takeS x.1 x.2).r) ∧ (true = true ∧ NilNil ∧ (0 : Nat) = 0 ∧ (1 : Nat) = 1 ∧
 (0 : Nat) = 0 ∧ (lC x.1).length = (lC (takeS x.1 x.2)).length ∧ g.val.1 = g_1.val.1) ∧ (true = true ∧ NilNil ∧ (0 : Nat) = 0 ∧ (1 : Nat) = 1 ∧ (0 : Nat) = 0 ∧
 (lE x.1).length = (lE (takeS x.1 x.2)).length ∧ g.val.2.1 = g_1.val.2.1) ∧ (true = true ∧ NilNil ∧ (0 : Nat) = 0 ∧ (1 : Nat) = 1 ∧ (0 : Nat) = 0 ∧ (lM
 x.1).length = (lM (takeS x.1 x.2)).length ∧ g.val.2.2.1 = g_1.val.2.2.1) ∧ (true = true ∧ NilNil ∧ (0 : Nat) = 0 ∧ (1 : Nat) = 1 ∧ (0 : Nat) = 0 ∧
 x_2.2.1.length = (lW (takeS x.1 x.2)).length ∧ x_2.1 = g_1.val.2.2.2) ∧ True) ∧ ((3 : TypeId) = 3 ∧ (1 : Nat) = 1 ∧ g.val.1 = g_1.val.1 ∧ (lC (takeS x.1
 x.2)).length ≤ (lC x.1).length ∧ ∀ (i : Nat), i < (lC (takeS x.1 x.2)).length → [AV.int .i64 ((lC x.1).getD i 0)] = [AV.int .i64 ((lC (takeS x.1 x.2)).getD i
 0)]) ∧ ((3 : TypeId) = 3 ∧ (1 : Nat) = 1 ∧ g.val.2.1 = g_1.val.2.1 ∧ (lE (takeS x.1 x.2)).length ≤ (lE x.1).length ∧ ∀ (i : Nat), i < (lE (takeS x.1
 x.2)).length → [AV.int .i64 ((lE x.1).getD i 0)] = [AV.int .i64 ((lE (takeS x.1 x.2)).getD i 0)]) ∧ ((3 : TypeId) = 3 ∧ (1 : Nat) = 1 ∧ g.val.2.2.1 =
 g_1.val.2.2.1 ∧ (lM (takeS x.1 x.2)).length ≤ (lM x.1).length ∧ ∀ (i : Nat), i < (lM (takeS x.1 x.2)).length → [AV.int .i64 ((lM x.1).getD i 0)] = [AV.int .i64
 ((lM (takeS x.1 x.2)).getD i 0)]) ∧ ((3 : TypeId) = 3 ∧ (1 : Nat) = 1 ∧ x_2.1 = g_1.val.2.2.2 ∧ (lW (takeS x.1 x.2)).length ≤ x_2.2.1.length ∧ ∀ (i : Nat), i <
 (lW (takeS x.1 x.2)).length → [AV.int .i64 (x_2.2.1.getD i 0)] = [AV.int .i64 ((lW (takeS x.1 x.2)).getD i 0)]) ∧ True) ∧ (((Tr 1 ((freeL x_1).getD (0 +
 Int.toNat 0) 0 = takeAt x.1 x.2) ∧ Tr 1 ((0 : Int) = takeErr x.1 x.2) ∧ True) ∧ True) ∧ refB (takeS x.1 x.2) = refB (takeS x.1 x.2) ∧ true = true ∧ True) ∧
 True) ∧ (¬refAddI.p x_2 → ∀ (y : Nat), x_2.2.1.length + 1 ≤ y ∧ y ≤ 9223372036854775807 → ((0 : Int) ≤ (0 : Int) ∧ (0 : Int) < (↑(freeL x_1).length : Int)) ∧ 0
 + Int.toNat 0 < (freeL x_1).length ∧ Exx Unit fun y_1 => Exx (Subtype (RCap (takeS x.1 x.2) false false false)) fun g_1 => Tr 1 (((38 : TypeId) = 38 ∧ Tr 1
 ((↑x.1.n : Int) = (↑(takeS x.1 x.2).n : Int)) ∧ Tr 1 (x.1.r = (takeS x.1 x.2).r) ∧ (true = true ∧ NilNil ∧ (0 : Nat) = 0 ∧ (1 : Nat) = 1 ∧ (0 : Nat) = 0 ∧ (lC
 x.1).length = (lC (takeS x.1 x.2)).length ∧ g.val.1 = g_1.val.1) ∧ (true = true ∧ NilNil ∧ (0 : Nat) = 0 ∧ (1 : Nat) = 1 ∧ (0 : Nat) = 0 ∧ (lE x.1).length = (lE
 (takeS x.1 x.2)).length ∧ g.val.2.1 = g_1.val.2.1) ∧ (true = true ∧ NilNil ∧ (0 : Nat) = 0 ∧ (1 : Nat) = 1 ∧ (0 : Nat) = 0 ∧ (lM x.1).length = (lM (takeS x.1
 x.2)).length ∧ g.val.2.2.1 = g_1.val.2.2.1) ∧ (true = true ∧ NilNil ∧ (0 : Nat) = 0 ∧ (1 : Nat) = 1 ∧ (0 : Nat) = 0 ∧ x_2.2.1.length + 1 = (lW (takeS x.1
 x.2)).length ∧ y = g_1.val.2.2.2) ∧ True) ∧ ((3 : TypeId) = 3 ∧ (1 : Nat) = 1 ∧ g.val.1 = g_1.val.1 ∧ (lC (takeS x.1 x.2)).length ≤ (lC x.1).length ∧ ∀ (i :
 Nat), i < (lC (takeS x.1 x.2)).length → [AV.int .i64 ((lC x.1).getD i 0)] = [AV.int .i64 ((lC (takeS x.1 x.2)).getD i 0)]) ∧ ((3 : TypeId) = 3 ∧ (1 : Nat) = 1 ∧
 g.val.2.1 = g_1.val.2.1 ∧ (lE (takeS x.1 x.2)).length ≤ (lE x.1).length ∧ ∀ (i : Nat), i < (lE (takeS x.1 x.2)).length → [AV.int .i64 ((lE x.1).getD i 0)] =
 [AV.int .i64 ((lE (takeS x.1 x.2)).getD i 0)]) ∧ ((3 : TypeId) = 3 ∧ (1 : Nat) = 1 ∧ g.val.2.2.1 = g_1.val.2.2.1 ∧ (lM (takeS x.1 x.2)).length ≤ (lM x.1).length
 ∧ ∀ (i : Nat), i < (lM (takeS x.1 x.2)).length → [AV.int .i64 ((lM x.1).getD i 0)] = [AV.int .i64 ((lM (takeS x.1 x.2)).getD i 0)]) ∧ ((3 : TypeId) = 3 ∧ (1 :
 Nat) = 1 ∧ y = g_1.val.2.2.2 ∧ (lW (takeS x.1 x.2)).length ≤ x_2.2.1.length + 1 ∧ ∀ (i : Nat), i < (lW (takeS x.1 x.2)).length → [AV.int .i64 ((insI x_2.2.1
 x_2.2.2.2).getD i 0)] = [AV.int .i64 ((lW (takeS x.1 x.2)).getD i 0)]) ∧ True) ∧ (((Tr 1 ((freeL x_1).getD (0 + Int.toNat 0) 0 = takeAt x.1 x.2) ∧ Tr 1 ((0 :
 Int) = takeErr x.1 x.2) ∧ True) ∧ True) ∧ refB (takeS x.1 x.2) = refB (takeS x.1 x.2) ∧ true = true ∧ True) ∧ True)) ∧ 0 + Int.toNat 0 < (freeL x_1).length ∧
 (Exx (Nat × List Int × Int × Int) fun x_2 => (((true = true ∧ NilNil ∧ (0 : Nat) = 0 ∧ (1 : Nat) = 1 ∧ (0 : Nat) = 0 ∧ (lW x.1).length = x_2.2.1.length ∧
 g.val.2.2.2 = x_2.1) ∧ Tr 1 ((↑x.1.n : Int) = x_2.2.2.1) ∧ Tr 1 ((freeL x_1).getD (0 + Int.toNat 0) 0 = x_2.2.2.2) ∧ True) ∧ true = true ∧ ((3 : TypeId) = 3 ∧
 (1 : Nat) = 1 ∧ g.val.2.2.2 = x_2.1 ∧ x_2.2.1.length ≤ (lW x.1).length ∧ ∀ (i : Nat), i < x_2.2.1.length → [AV.int .i64 ((lW x.1).getD i 0)] = [AV.int .i64
 (x_2.2.1.getD i 0)]) ∧ True) ∧ (Ints x_2.2.1 ∧ x_2.2.1.length ≤ x_2.1 ∧ x_2.1 ≤ 9223372036854775807 ∧ I64 x_2.2.2.1 ∧ I64 x_2.2.2.2 ∧ List.Pairwise (fun x1 x2
 => x1 < x2) x_2.2.1) ∧ (x_2.2.2.2 < (0 : Int) ∨ x_2.2.2.1 ≤ x_2.2.2.2 ∨ x_2.2.2.2 ∈ x_2.2.1 → ∀ (y : Unit), True → ((0 : Int) ≤ (0 : Int) ∧ (0 : Int) < (↑(freeL
 x_1).length : Int)) ∧ 0 + Int.toNat 0 < (freeL x_1).length ∧ Exx Unit fun y => Exx (Subtype (RCap (takeS x.1 x.2) false false false)) fun g_1 => Tr 1 (((38 :
 TypeId) = 38 ∧ Tr 1 ((↑x.1.n : Int) = (↑(takeS x.1 x.2).n : Int)) ∧ Tr 1 (x.1.r = (takeS x.1 x.2).r) ∧ (true = true ∧ NilNil ∧ (0 : Nat) = 0 ∧ (1 : Nat) = 1 ∧
 (0 : Nat) = 0 ∧ (lC x.1).length = (lC (takeS x.1 x.2)).length ∧ g.val.1 = g_1.val.1) ∧ (true = true ∧ NilNil ∧ (0 : Nat) = 0 ∧ (1 : Nat) = 1 ∧ (0 : Nat) = 0 ∧
 (lE x.1).length = (lE (takeS x.1 x.2)).length ∧ g.val.2.1 = g_1.val.2.1) ∧ (true = true ∧ NilNil ∧ (0 : Nat) = 0 ∧ (1 : Nat) = 1 ∧ (0 : Nat) = 0 ∧ (lM
 x.1).length = (lM (takeS x.1 x.2)).length ∧ g.val.2.2.1 = g_1.val.2.2.1) ∧ (true = true ∧ NilNil ∧ (0 : Nat) = 0 ∧ (1 : Nat) = 1 ∧ (0 : Nat) = 0 ∧
 x_2.2.1.length = (lW (takeS x.1 x.2)).length ∧ x_2.1 = g_1.val.2.2.2) ∧ True) ∧ ((3 : TypeId) = 3 ∧ (1 : Nat) = 1 ∧ g.val.1 = g_1.val.1 ∧ (lC (takeS x.1
 x.2)).length ≤ (lC x.1).length ∧ ∀ (i : Nat), i < (lC (takeS x.1 x.2)).length → [AV.int .i64 ((lC x.1).getD i 0)] = [AV.int .i64 ((lC (takeS x.1 x.2)).getD i
 0)]) ∧ ((3 : TypeId) = 3 ∧ (1 : Nat) = 1 ∧ g.val.2.1 = g_1.val.2.1 ∧ (lE (takeS x.1 x.2)).length ≤ (lE x.1).length ∧ ∀ (i : Nat), i < (lE (takeS x.1
 x.2)).length → [AV.int .i64 ((lE x.1).getD i 0)] = [AV.int .i64 ((lE (takeS x.1 x.2)).getD i 0)]) ∧ ((3 : TypeId) = 3 ∧ (1 : Nat) = 1 ∧ g.val.2.2.1 =
 g_1.val.2.2.1 ∧ (lM (takeS x.1 x.2)).length ≤ (lM x.1).length ∧ ∀ (i : Nat), i < (lM (takeS x.1 x.2)).length → [AV.int .i64 ((lM x.1).getD i 0)] = [AV.int .i64
 ((lM (takeS x.1 x.2)).getD i 0)]) ∧ ((3 : TypeId) = 3 ∧ (1 : Nat) = 1 ∧ x_2.1 = g_1.val.2.2.2 ∧ (lW (takeS x.1 x.2)).length ≤ x_2.2.1.length ∧ ∀ (i : Nat), i <
 (lW (takeS x.1 x.2)).length → [AV.int .i64 (x_2.2.1.getD i 0)] = [AV.int .i64 ((lW (takeS x.1 x.2)).getD i 0)]) ∧ True) ∧ (((Tr 1 ((freeL x_1).getD (0 +
 Int.toNat 0) 0 = takeAt x.1 x.2) ∧ Tr 1 ((0 : Int) = takeErr x.1 x.2) ∧ True) ∧ True) ∧ refB (takeS x.1 x.2) = refB (takeS x.1 x.2) ∧ true = true ∧ True) ∧
 True) ∧ (¬refAddI.p x_2 → ∀ (y : Nat), x_2.2.1.length + 1 ≤ y ∧ y ≤ 9223372036854775807 → ((0 : Int) ≤ (0 : Int) ∧ (0 : Int) < (↑(freeL x_1).length : Int)) ∧ 0
 + Int.toNat 0 < (freeL x_1).length ∧ Exx Unit fun y_1 => Exx (Subtype (RCap (takeS x.1 x.2) false false false)) fun g_1 => Tr 1 (((38 : TypeId) = 38 ∧ Tr 1
 ((↑x.1.n : Int) = (↑(takeS x.1 x.2).n : Int)) ∧ Tr 1 (x.1.r = (takeS x.1 x.2).r) ∧ (true = true ∧ NilNil ∧ (0 : Nat) = 0 ∧ (1 : Nat) = 1 ∧ (0 : Nat) = 0 ∧ (lC
 x.1).length = (lC (takeS x.1 x.2)).length ∧ g.val.1 = g_1.val.1) ∧ (true = true ∧ NilNil ∧ (0 : Nat) = 0 ∧ (1 : Nat) = 1 ∧ (0 : Nat) = 0 ∧ (lE x.1).length = (lE
 (takeS x.1 x.2)).length ∧ g.val.2.1 = g_1.val.2.1) ∧ (true = true ∧ NilNil ∧ (0 : Nat) = 0 ∧ (1 : Nat) = 1 ∧ (0 : Nat) = 0 ∧ (lM x.1).length = (lM (takeS x.1
 x.2)).length ∧ g.val.2.2.1 = g_1.val.2.2.1) ∧ (true = true ∧ NilNil ∧ (0 : Nat) = 0 ∧ (1 : Nat) = 1 ∧ (0 : Nat) = 0 ∧ x_2.2.1.length + 1 = (lW (takeS x.1
 x.2)).length ∧ y = g_1.val.2.2.2) ∧ True) ∧ ((3 : TypeId) = 3 ∧ (1 : Nat) = 1 ∧ g.val.1 = g_1.val.1 ∧ (lC (takeS x.1 x.2)).length ≤ (lC x.1).length ∧ ∀ (i :
 Nat), i < (lC (takeS x.1 x.2)).length → [AV.int .i64 ((lC x.1).getD i 0)] = [AV.int .i64 ((lC (takeS x.1 x.2)).getD i 0)]) ∧ ((3 : TypeId) = 3 ∧ (1 : Nat) = 1 ∧
 g.val.2.1 = g_1.val.2.1 ∧ (lE (takeS x.1 x.2)).length ≤ (lE x.1).length ∧ ∀ (i : Nat), i < (lE (takeS x.1 x.2)).length → [AV.int .i64 ((lE x.1).getD i 0)] =
 [AV.int .i64 ((lE (takeS x.1 x.2)).getD i 0)]) ∧ ((3 : TypeId) = 3 ∧ (1 : Nat) = 1 ∧ g.val.2.2.1 = g_1.val.2.2.1 ∧ (lM (takeS x.1 x.2)).length ≤ (lM x.1).length
 ∧ ∀ (i : Nat), i < (lM (takeS x.1 x.2)).length → [AV.int .i64 ((lM x.1).getD i 0)] = [AV.int .i64 ((lM (takeS x.1 x.2)).getD i 0)]) ∧ ((3 : TypeId) = 3 ∧ (1 :
 Nat) = 1 ∧ y = g_1.val.2.2.2 ∧ (lW (takeS x.1 x.2)).length ≤ x_2.2.1.length + 1 ∧ ∀ (i : Nat), i < (lW (takeS x.1 x.2)).length → [AV.int .i64 ((insI x_2.2.1
 x_2.2.2.2).getD i 0)] = [AV.int .i64 ((lW (takeS x.1 x.2)).getD i 0)]) ∧ True) ∧ (((Tr 1 ((freeL x_1).getD (0 + Int.toNat 0) 0 = takeAt x.1 x.2) ∧ Tr 1 ((0 :
 Int) = takeErr x.1 x.2) ∧ True) ∧ True) ∧ refB (takeS x.1 x.2) = refB (takeS x.1 x.2) ∧ true = true ∧ True) ∧ True)) ∧ Exx (Nat × List Int × Int × Int) fun x_2
 => (((true = true ∧ NilNil ∧ (0 : Nat) = 0 ∧ (1 : Nat) = 1 ∧ (0 : Nat) = 0 ∧ (lW x.1).length = x_2.2.1.length ∧ g.val.2.2.2 = x_2.1) ∧ Tr 1 ((↑x.1.n : Int) =
 x_2.2.2.1) ∧ Tr 1 ((freeL x_1).getD (0 + Int.toNat 0) 0 = x_2.2.2.2) ∧ True) ∧ true = true ∧ ((3 : TypeId) = 3 ∧ (1 : Nat) = 1 ∧ g.val.2.2.2 = x_2.1 ∧
 x_2.2.1.length ≤ (lW x.1).length ∧ ∀ (i : Nat), i < x_2.2.1.length → [AV.int .i64 ((lW x.1).getD i 0)] = [AV.int .i64 (x_2.2.1.getD i 0)]) ∧ True) ∧ (Ints
 x_2.2.1 ∧ x_2.2.1.length ≤ x_2.1 ∧ x_2.1 ≤ 9223372036854775807 ∧ I64 x_2.2.2.1 ∧ I64 x_2.2.2.2 ∧ List.Pairwise (fun x1 x2 => x1 < x2) x_2.2.1) ∧ (x_2.2.2.2 < (0
 : Int) ∨ x_2.2.2.1 ≤ x_2.2.2.2 ∨ x_2.2.2.2 ∈ x_2.2.1 → ∀ (y : Unit), True → ((0 : Int) ≤ (0 : Int) ∧ (0 : Int) < (↑(freeL x_1).length : Int)) ∧ 0 + Int.toNat 0
 < (freeL x_1).length ∧ Exx Unit fun y => Exx (Subtype (RCap (takeS x.1 x.2) false false false)) fun g_1 => Tr 1 (((38 : TypeId) = 38 ∧ Tr 1 ((↑x.1.n : Int) =
 (↑(takeS x.1 x.2).n : Int)) ∧ Tr 1 (x.1.r = (takeS x.1 x.2).r) ∧ (true = true ∧ NilNil ∧ (0 : Nat) = 0 ∧ (1 : Nat) = 1 ∧ (0 : Nat) = 0 ∧ (lC x.1).length = (lC
 (takeS x.1 x.2)).length ∧ g.val.1 = g_1.val.1) ∧ (true = true ∧ NilNil ∧ (0 : Nat) = 0 ∧ (1 : Nat) = 1 ∧ (0 : Nat) = 0 ∧ (lE x.1).length = (lE (takeS x.1
 x.2)).length ∧ g.val.2.1 = g_1.val.2.1) ∧ (true = true ∧ NilNil ∧ (0 : Nat) = 0 ∧ (1 : Nat) = 1 ∧ (0 : Nat) = 0 ∧ (lM x.1).length = (lM (takeS x.1 x.2)).length
 ∧ g.val.2.2.1 = g_1.val.2.2.1) ∧ (true = true ∧ NilNil ∧ (0 : Nat) = 0 ∧ (1 : Nat) = 1 ∧ (0 : Nat) = 0 ∧ x_2.2.1.length = (lW (takeS x.1 x.2)).length ∧ x_2.1 =
 g_1.val.2.2.2) ∧ True) ∧ ((3 : TypeId) = 3 ∧ (1 : Nat) = 1 ∧ g.val.1 = g_1.val.1 ∧ (lC (takeS x.1 x.2)).length ≤ (lC x.1).length ∧ ∀ (i : Nat), i < (lC (takeS
 x.1 x.2)).length → [AV.int .i64 ((lC x.1).getD i 0)] = [AV.int .i64 ((lC (takeS x.1 x.2)).getD i 0)]) ∧ ((3 : TypeId) = 3 ∧ (1 : Nat) = 1 ∧ g.val.2.1 =
 g_1.val.2.1 ∧ (lE (takeS x.1 x.2)).length ≤ (lE x.1).length ∧ ∀ (i : Nat), i < (lE (takeS x.1 x.2)).length → [AV.int .i64 ((lE x.1).getD i 0)] = [AV.int .i64
 ((lE (takeS x.1 x.2)).getD i 0)]) ∧ ((3 : TypeId) = 3 ∧ (1 : Nat) = 1 ∧ g.val.2.2.1 = g_1.val.2.2.1 ∧ (lM (takeS x.1 x.2)).length ≤ (lM x.1).length ∧ ∀ (i :
 Nat), i < (lM (takeS x.1 x.2)).length → [AV.int .i64 ((lM x.1).getD i 0)] = [AV.int .i64 ((lM (takeS x.1 x.2)).getD i 0)]) ∧ ((3 : TypeId) = 3 ∧ (1 : Nat) = 1 ∧
 x_2.1 = g_1.val.2.2.2 ∧ (lW (takeS x.1 x.2)).length ≤ x_2.2.1.length ∧ ∀ (i : Nat), i < (lW (takeS x.1 x.2)).length → [AV.int .i64 (x_2.2.1.getD i 0)] = [AV.int
 .i64 ((lW (takeS x.1 x.2)).getD i 0)]) ∧ True) ∧ (((Tr 1 ((freeL x_1).getD (0 + Int.toNat 0) 0 = takeAt x.1 x.2) ∧ Tr 1 ((0 : Int) = takeErr x.1 x.2) ∧ True) ∧
 True) ∧ refB (takeS x.1 x.2) = refB (takeS x.1 x.2) ∧ true = true ∧ True) ∧ True) ∧ (¬refAddI.p x_2 → ∀ (y : Nat), x_2.2.1.length + 1 ≤ y ∧ y ≤
 9223372036854775807 → ((0 : Int) ≤ (0 : Int) ∧ (0 : Int) < (↑(freeL x_1).length : Int)) ∧ 0 + Int.toNat 0 < (freeL x_1).length ∧ Exx Unit fun y_1 => Exx
 (Subtype (RCap (takeS x.1 x.2) false false false)) fun g_1 => Tr 1 (((38 : TypeId) = 38 ∧ Tr 1 ((↑x.1.n : Int) = (↑(takeS x.1 x.2).n : Int)) ∧ Tr 1 (x.1.r =
 (takeS x.1 x.2).r) ∧ (true = true ∧ NilNil ∧ (0 : Nat) = 0 ∧ (1 : Nat) = 1 ∧ (0 : Nat) = 0 ∧ (lC x.1).length = (lC (takeS x.1 x.2)).length ∧ g.val.1 =
 g_1.val.1) ∧ (true = true ∧ NilNil ∧ (0 : Nat) = 0 ∧ (1 : Nat) = 1 ∧ (0 : Nat) = 0 ∧ (lE x.1).length = (lE (takeS x.1 x.2)).length ∧ g.val.2.1 = g_1.val.2.1) ∧
 (true = true ∧ NilNil ∧ (0 : Nat) = 0 ∧ (1 : Nat) = 1 ∧ (0 : Nat) = 0 ∧ (lM x.1).length = (lM (takeS x.1 x.2)).length ∧ g.val.2.2.1 = g_1.val.2.2.1) ∧ (true =
 true ∧ NilNil ∧ (0 : Nat) = 0 ∧ (1 : Nat) = 1 ∧ (0 : Nat) = 0 ∧ x_2.2.1.length + 1 = (lW (takeS x.1 x.2)).length ∧ y = g_1.val.2.2.2) ∧ True) ∧ ((3 : TypeId) =
 3 ∧ (1 : Nat) = 1 ∧ g.val.1 = g_1.val.1 ∧ (lC (takeS x.1 x.2)).length ≤ (lC x.1).length ∧ ∀ (i : Nat), i < (lC (takeS x.1 x.2)).length → [AV.int .i64 ((lC
 x.1).getD i 0)] = [AV.int .i64 ((lC (takeS x.1 x.2)).getD i 0)]) ∧ ((3 : TypeId) = 3 ∧ (1 : Nat) = 1 ∧ g.val.2.1 = g_1.val.2.1 ∧ (lE (takeS x.1 x.2)).length ≤
 (lE x.1).length ∧ ∀ (i : Nat), i < (lE (takeS x.1 x.2)).length → [AV.int .i64 ((lE x.1).getD i 0)] = [AV.int .i64 ((lE (takeS x.1 x.2)).getD i 0)]) ∧ ((3 :
 TypeId) = 3 ∧ (1 : Nat) = 1 ∧ g.val.2.2.1 = g_1.val.2.2.1 ∧ (lM (takeS x.1 x.2)).length ≤ (lM x.1).length ∧ ∀ (i : Nat), i < (lM (takeS x.1 x.2)).length →
 [AV.int .i64 ((lM x.1).getD i 0)] = [AV.int .i64 ((lM (takeS x.1 x.2)).getD i 0)]) ∧ ((3 : TypeId) = 3 ∧ (1 : Nat) = 1 ∧ y = g_1.val.2.2.2 ∧ (lW (takeS x.1
 x.2)).length ≤ x_2.2.1.length + 1 ∧ ∀ (i : Nat), i < (lW (takeS x.1 x.2)).length → [AV.int .i64 ((insI x_2.2.1 x_2.2.2.2).getD i 0)] = [AV.int .i64 ((lW (takeS
 x.1 x.2)).getD i 0)]) ∧ True) ∧ (((Tr 1 ((freeL x_1).getD (0 + Int.toNat 0) 0 = takeAt x.1 x.2) ∧ Tr 1 ((0 : Int) = takeErr x.1 x.2) ∧ True) ∧ True) ∧ refB
 (takeS x.1 x.2) = refB (takeS x.1 x.2) ∧ true = true ∧ True) ∧ True)) ∧ True)) = (fnVCo tb [(9, specOf refFreeC), (43, specIf refAddI)] Tryd.f39 refTakeC (fun x => { loose := [(4, [0, 2, 3, 4, 5, 6])], opensA := [(4, [opR 0 x.1])] }) (fun _ _ _ => none) (fun _ => []) (fun x y av H => clR 0 H (takeS x.1 x.2))) := by kernel_rfl 

theorem refTake_ok : SpecOk Tryd.prog 39 (specOf refTakeC) := by
  refine specOko mixed tb_ok (SPok.cons refFree_ok (SPok.cons (specIf_ok refAddA_ok refAddB_ok) SPok.nil)) Tryd.func39 (by decide) (refSetC_ok fun _ => ⟨rfl, rfl, trivial⟩) (an := (fun x => { loose := [(4, [0, 2, 3, 4, 5, 6])], opensA := [(4, [opR 0 x.1])] })) (σ := (fun _ _ _ => none)) (op := (fun _ => [])) (cl := (fun x y av H => clR 0 H (takeS x.1 x.2))) ?_
  rw [← refTakeV]
  simp (maxSteps := 10000000) only [and_false, false_and, false_or, or_false, bOf_true, bOf_false, true_bOf, false_bOf, Exx, int_ite, merge_o, Tr_eq, true_and, and_true, exists_const, forall_const, implies_true, forall_eq, exists_eq, exists_eq', exists_eq_left, exists_eq_left', exists_eq_right, Prod.exists, Prod.forall, and_assoc, exists_and_left, BC_iff, Bool.not_eq_true', Bool.not_eq_false', decide_eq_true_eq, decide_eq_false_iff_not, I64, nat_cast_inj, Int.toNat_natCast, nats_iff, nats_iff', ints_iff, ints_iff', natss_iff, natss_iff', nilnil, litL_eq, str_inj, str_append, str_length, str_getD, str_take, lit1_iff, one_iff, two_iff, one_get, Nat.zero_add, Nat.sub_zero, Nat.reduceMul, Nat.reduceDiv, Nat.reduceAdd, Int.reduceToNat, Nat.not_lt_zero, if_false, if_true, Nat.le_refl, List.length_singleton, List.length_cons, List.length_nil, Bool.false_eq_true, not_true_eq_false, false_implies, not_false_eq_true, Prod.mk.injEq, refB_inj, refB_open, Subtype.forall, Subtype.exists, exists_prop, RCap, RC1_t, RC1_f]
  rintro ⟨n, r, c, e, m, w⟩ b ⟨h, hb1, hb2, hb0⟩
  have hn := h.n
  simp only at hn
  have hJ : ∀ k, Ints (listN (n, k)) := fun k => listN_Ints (s := (n, k)) (by show n ≤ 3072; omega)
  have hS : ∀ k, (listN (n, k)).Pairwise (· < ·) := fun k => listN_sorted (n, k)
  refine ⟨h, fun y hy => ⟨fun hle => ?_, fun hgt => ?_⟩⟩
  · obtain ⟨e1, e2, e3⟩ := take_no h hle
    rw [e1, e2, e3]; exact ⟨rfl, rfl, rfl⟩
  obtain ⟨⟨f0, f1⟩, f2, f3, f4, f5, f6⟩ := take_yes h hgt hb1 (.inl hb0)
  have hfI : I64 ((freeL ⟨n, r, c, e, m, w⟩).getD 0 0) := ⟨by omega, by simp only at f1; omega⟩
  have ei := ref_add_in f0 f1 f2
  simp only at f0 f1 f2 ei
  have hnp : ∀ w', w' = w → ¬ ((freeL ⟨n, r, c, e, m, w⟩).getD 0 0 < 0 ∨ ((n : Nat) : Int) ≤ (freeL ⟨n, r, c, e, m, w⟩).getD 0 0 ∨ (freeL ⟨n, r, c, e, m, w⟩).getD 0 0 ∈ listN (n, w')) := fun w' e k => by
    subst e; exact k.elim (fun k => absurd k (by omega)) fun k => k.elim (fun k => absurd k (by omega)) f2
  rw [f3, f4, f5]
  generalize (freeL ⟨n, r, c, e, m, w⟩).getD 0 0 = f at *
  generalize (freeL ⟨n, r, c, e, m, w⟩).length = fl at *
  simp only [lC, lE, lM, lW]
  have hil := fun w => insI_length (listN (n, w)) f
  have hel : (listN (n, add1 n w f)).length = (listN (n, w)).length + 1 := by rw [← ei]; exact insI_length _ _
  refine ⟨?_, ?_, ?_, ?_, ?_, ?_, ?_, ?_⟩
  · rintro c1 ⟨h1, h2, rfl, rfl, rfl⟩
    repeat' first
      | omega
      | apply And.intro
    all_goals
      refine ⟨c1, listN (n, w), ?_⟩
      and_intros
      all_goals first
        | rfl
        | omega
        | exact hJ _
        | exact hS _
        | exact (hJ _).1
        | exact (hJ _).2
        | exact fun _ _ => rfl
        | (intro hp; exact absurd hp (hnp _ rfl))
        | (intro _ y hy'; and_intros; all_goals first
            | rfl
            | trivial
            | omega
            | exact fun _ _ => rfl
            | exact fun _ _ => trivial
            | (intro i hi; rw [ei]))
  · rintro c1 c4 ⟨h1, h2, rfl, rfl, h7, h8⟩
    repeat' first
      | omega
      | apply And.intro
    all_goals
      refine ⟨c4, listN (n, w), ?_⟩
      and_intros
      all_goals first
        | rfl
        | omega
        | exact hJ _
        | exact hS _
        | exact (hJ _).1
        | exact (hJ _).2
        | exact fun _ _ => rfl
        | (intro hp; exact absurd hp (hnp _ rfl))
        | (intro _ y hy'; and_intros; all_goals first
            | rfl
            | trivial
            | omega
            | exact fun _ _ => rfl
            | exact fun _ _ => trivial
            | (intro i hi; rw [ei]))
  · rintro c1 c3 ⟨h1, h2, rfl, h5, h6, rfl⟩
    repeat' first
      | omega
      | apply And.intro
    all_goals
      refine ⟨c3, listN (n, w), ?_⟩
      and_intros
      all_goals first
        | rfl
        | omega
        | exact hJ _
        | exact hS _
        | exact (hJ _).1
        | exact (hJ _).2
        | exact fun _ _ => rfl
        | (intro hp; exact absurd hp (hnp _ rfl))
        | (intro _ y hy'; and_intros; all_goals first
            | rfl
            | trivial
            | omega
            | exact fun _ _ => rfl
            | exact fun _ _ => trivial
            | (intro i hi; rw [ei]))
  · rintro c1 c3 c4 ⟨h1, h2, rfl, h5, h6, h7, h8⟩
    repeat' first
      | omega
      | apply And.intro
    all_goals
      refine ⟨c4, listN (n, w), ?_⟩
      and_intros
      all_goals first
        | rfl
        | omega
        | exact hJ _
        | exact hS _
        | exact (hJ _).1
        | exact (hJ _).2
        | exact fun _ _ => rfl
        | (intro hp; exact absurd hp (hnp _ rfl))
        | (intro _ y hy'; and_intros; all_goals first
            | rfl
            | trivial
            | omega
            | exact fun _ _ => rfl
            | exact fun _ _ => trivial
            | (intro i hi; rw [ei]))
  · rintro c1 c2 ⟨h1, h2, h3, h4, rfl, rfl⟩
    repeat' first
      | omega
      | apply And.intro
    all_goals
      refine ⟨c1, listN (n, w), ?_⟩
      and_intros
      all_goals first
        | rfl
        | omega
        | exact hJ _
        | exact hS _
        | exact (hJ _).1
        | exact (hJ _).2
        | exact fun _ _ => rfl
        | (intro hp; exact absurd hp (hnp _ rfl))
        | (intro _ y hy'; and_intros; all_goals first
            | rfl
            | trivial
            | omega
            | exact fun _ _ => rfl
            | exact fun _ _ => trivial
            | (intro i hi; rw [ei]))
  · rintro c1 c2 c4 ⟨h1, h2, h3, h4, rfl, h7, h8⟩
    repeat' first
      | omega
      | apply And.intro
    all_goals
      refine ⟨c4, listN (n, w), ?_⟩
      and_intros
      all_goals first
        | rfl
        | omega
        | exact hJ _
        | exact hS _
        | exact (hJ _).1
        | exact (hJ _).2
        | exact fun _ _ => rfl
        | (intro hp; exact absurd hp (hnp _ rfl))
        | (intro _ y hy'; and_intros; all_goals first
            | rfl
            | trivial
            | omega
            | exact fun _ _ => rfl
            | exact fun _ _ => trivial
            | (intro i hi; rw [ei]))
  · rintro c1 c2 c3 ⟨h1, h2, h3, h4, h5, h6, rfl⟩
    repeat' first
      | omega
      | apply And.intro
    all_goals
      refine ⟨c3, listN (n, w), ?_⟩
      and_intros
      all_goals first
        | rfl
        | omega
        | exact hJ _
        | exact hS _
        | exact (hJ _).1
        | exact (hJ _).2
        | exact fun _ _ => rfl
        | (intro hp; exact absurd hp (hnp _ rfl))
        | (intro _ y hy'; and_intros; all_goals first
            | rfl
            | trivial
            | omega
            | exact fun _ _ => rfl
            | exact fun _ _ => trivial
            | (intro i hi; rw [ei]))
  · rintro c1 c2 c3 c4 ⟨h1, h2, h3, h4, h5, h6, h7, h8⟩
    repeat' first
      | omega
      | apply And.intro
    all_goals
      refine ⟨c4, listN (n, w), ?_⟩
      and_intros
      all_goals first
        | rfl
        | omega
        | exact hJ _
        | exact hS _
        | exact (hJ _).1
        | exact (hJ _).2
        | exact fun _ _ => rfl
        | (intro hp; exact absurd hp (hnp _ rfl))
        | (intro _ y hy'; and_intros; all_goals first
            | rfl
            | trivial
            | omega
            | exact fun _ _ => rfl
            | exact fun _ _ => trivial
            | (intro i hi; rw [ei]))

end Yard
