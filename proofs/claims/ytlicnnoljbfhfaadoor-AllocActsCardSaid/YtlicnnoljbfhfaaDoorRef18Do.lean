import Derived.Test.YtlicnnoljbfhfaaDoorRef18

namespace Yard
open Go Go.Sx Go.Proofs
set_option linter.unusedVariables false
set_option linter.unusedSimpArgs false
set_option maxRecDepth 4000
set_option maxHeartbeats 4000000

theorem refGiveV : (∀ (x : AllocT × Int), RefW x.1 ∧ I64 x.2 → Exx Unit fun y => refB x.1 = ((opR 0 x.1).o y).ob ∧ (∀ (g : Subtype (RCap x.1 true true true)),
 Exx (List Int × Int) fun x_1 => (((0 + (lC x.1).length ≤ (lC x.1).length ∧ (lC x.1).length = x_1.1.length ∧ ∀ (i : Nat), i < x_1.1.length → [AV.int .i64 ((lC
 x.1).getD (0 + i) 0)] = [AV.int .i64 (x_1.1.getD i 0)]) ∧ Tr 1 (x.2 = x_1.2) ∧ True) ∧ true = true ∧ True) ∧ (IntL x_1.1 ∧ I64 x_1.2) ∧ ∀ (y : Unit), True → BC
 (!decide (x_1.2 ∈ x_1.1)) (Exx Unit fun y => Exx (Subtype (RCap (giveS x.1 x.2) true true true)) fun g_1 => Tr 1 (((38 : TypeId) = 38 ∧ Tr 1 ((↑x.1.n : Int) =
 (↑(giveS x.1 x.2).n : Int)) ∧ Tr 1 (x.1.r = (giveS x.1 x.2).r) ∧ (true = true ∧ NilNil ∧ (0 : Nat) = 0 ∧ (1 : Nat) = 1 ∧ (0 : Nat) = 0 ∧ (lC x.1).length = (lC
 (giveS x.1 x.2)).length ∧ g.val.1 = g_1.val.1) ∧ (true = true ∧ NilNil ∧ (0 : Nat) = 0 ∧ (1 : Nat) = 1 ∧ (0 : Nat) = 0 ∧ (lC x.1).length = (lC (giveS x.1
 x.2)).length ∧ g.val.1 = g_1.val.1) ∧ (true = true ∧ NilNil ∧ (0 : Nat) = 0 ∧ (1 : Nat) = 1 ∧ (0 : Nat) = 0 ∧ (lC x.1).length = (lC (giveS x.1 x.2)).length ∧
 g.val.1 = g_1.val.1) ∧ (true = true ∧ NilNil ∧ (0 : Nat) = 0 ∧ (1 : Nat) = 1 ∧ (0 : Nat) = 0 ∧ (lC x.1).length = (lC (giveS x.1 x.2)).length ∧ g.val.1 =
 g_1.val.1) ∧ True) ∧ ((3 : TypeId) = 3 ∧ (1 : Nat) = 1 ∧ g.val.1 = g_1.val.1 ∧ (lC (giveS x.1 x.2)).length ≤ (lC x.1).length ∧ ∀ (i : Nat), i < (lC (giveS x.1
 x.2)).length → [AV.int .i64 ((lC x.1).getD i 0)] = [AV.int .i64 ((lC (giveS x.1 x.2)).getD i 0)]) ∧ True) ∧ ((Tr 1 ((2 : Int) = giveErr x.1 x.2) ∧ True) ∧ refB
 (giveS x.1 x.2) = refB (giveS x.1 x.2) ∧ true = true ∧ True) ∧ True) (Exx (List Int × Int) fun x_2 => (((0 + (lC x.1).length ≤ (lC x.1).length ∧ (lC x.1).length
 = x_2.1.length ∧ ∀ (i : Nat), i < x_2.1.length → [AV.int .i64 ((lC x.1).getD (0 + i) 0)] = [AV.int .i64 (x_2.1.getD i 0)]) ∧ Tr 1 (x.2 = x_2.2) ∧ True) ∧ true =
 true ∧ True) ∧ (Ints x_2.1 ∧ I64 x_2.2) ∧ ∀ (y : Nat), (List.filter (fun y => y != x_2.2) x_2.1).length ≤ y ∧ y ≤ 9223372036854775807 → Exx Unit fun y_1 => Exx
 (Subtype (RCap (giveS x.1 x.2) true true false)) fun g_1 => Tr 1 (((38 : TypeId) = 38 ∧ Tr 1 ((↑x.1.n : Int) = (↑(giveS x.1 x.2).n : Int)) ∧ Tr 1 (x.1.r =
 (giveS x.1 x.2).r) ∧ (true = true ∧ NilNil ∧ (0 : Nat) = 0 ∧ (1 : Nat) = 1 ∧ (0 : Nat) = 0 ∧ (lC x.1).length = (lC (giveS x.1 x.2)).length ∧ g.val.1 =
 g_1.val.1) ∧ (true = true ∧ NilNil ∧ (0 : Nat) = 0 ∧ (1 : Nat) = 1 ∧ (0 : Nat) = 0 ∧ (lC x.1).length = (lC (giveS x.1 x.2)).length ∧ g.val.1 = g_1.val.1) ∧
 (true = true ∧ NilNil ∧ (0 : Nat) = 0 ∧ (1 : Nat) = 1 ∧ (0 : Nat) = 0 ∧ (lC x.1).length = (lC (giveS x.1 x.2)).length ∧ g.val.1 = g_1.val.1) ∧ (true = true ∧
 NilNil ∧ (0 : Nat) = 0 ∧ (1 : Nat) = 1 ∧ (0 : Nat) = 0 ∧ (List.filter (fun y => y != x_2.2) x_2.1).length = (lW (giveS x.1 x.2)).length ∧ y = g_1.val.2.2.2) ∧
 True) ∧ ((3 : TypeId) = 3 ∧ (1 : Nat) = 1 ∧ g.val.1 = g_1.val.1 ∧ (lC (giveS x.1 x.2)).length ≤ (lC x.1).length ∧ ∀ (i : Nat), i < (lC (giveS x.1 x.2)).length →
 [AV.int .i64 ((lC x.1).getD i 0)] = [AV.int .i64 ((lC (giveS x.1 x.2)).getD i 0)]) ∧ ((3 : TypeId) = 3 ∧ (1 : Nat) = 1 ∧ y = g_1.val.2.2.2 ∧ (lW (giveS x.1
 x.2)).length ≤ (List.filter (fun y => y != x_2.2) x_2.1).length ∧ ∀ (i : Nat), i < (lW (giveS x.1 x.2)).length → [AV.int .i64 ((List.filter (fun y => y !=
 x_2.2) x_2.1).getD i 0)] = [AV.int .i64 ((lW (giveS x.1 x.2)).getD i 0)]) ∧ True) ∧ ((Tr 1 ((0 : Int) = giveErr x.1 x.2) ∧ True) ∧ refB (giveS x.1 x.2) = refB
 (giveS x.1 x.2) ∧ true = true ∧ True) ∧ True)) ∧ (∀ (g : Subtype (RCap x.1 true true false)), Exx (List Int × Int) fun x_1 => (((0 + (lW x.1).length ≤ (lW
 x.1).length ∧ (lW x.1).length = x_1.1.length ∧ ∀ (i : Nat), i < x_1.1.length → [AV.int .i64 ((lW x.1).getD (0 + i) 0)] = [AV.int .i64 (x_1.1.getD i 0)]) ∧ Tr 1
 (x.2 = x_1.2) ∧ True) ∧ true = true ∧ True) ∧ (IntL x_1.1 ∧ I64 x_1.2) ∧ ∀ (y : Unit), True → BC (!decide (x_1.2 ∈ x_1.1)) (Exx Unit fun y => Exx (Subtype (RCap
 (giveS x.1 x.2) true true false)) fun g_1 => Tr 1 (((38 : TypeId) = 38 ∧ Tr 1 ((↑x.1.n : Int) = (↑(giveS x.1 x.2).n : Int)) ∧ Tr 1 (x.1.r = (giveS x.1 x.2).r) ∧
 (true = true ∧ NilNil ∧ (0 : Nat) = 0 ∧ (1 : Nat) = 1 ∧ (0 : Nat) = 0 ∧ (lC x.1).length = (lC (giveS x.1 x.2)).length ∧ g.val.1 = g_1.val.1) ∧ (true = true ∧
 NilNil ∧ (0 : Nat) = 0 ∧ (1 : Nat) = 1 ∧ (0 : Nat) = 0 ∧ (lC x.1).length = (lC (giveS x.1 x.2)).length ∧ g.val.1 = g_1.val.1) ∧ (true = true ∧ NilNil ∧ (0 :
 Nat) = 0 ∧ (1 : Nat) = 1 ∧ (0 : Nat) = 0 ∧ (lC x.1).length = (lC (giveS x.1 x.2)).length ∧ g.val.1 = g_1.val.1) ∧ (true = true ∧ NilNil ∧ (0 : Nat) = 0 ∧ (1 :
 Nat) = 1 ∧ (0 : Nat) = 0 ∧ (lW x.1).length = (lW (giveS x.1 x.2)).length ∧ g.val.2.2.2 = g_1.val.2.2.2) ∧ True) ∧ ((3 : TypeId) = 3 ∧ (1 : Nat) = 1 ∧ g.val.1 =
 g_1.val.1 ∧ (lC (giveS x.1 x.2)).length ≤ (lC x.1).length ∧ ∀ (i : Nat), i < (lC (giveS x.1 x.2)).length → [AV.int .i64 ((lC x.1).getD i 0)] = [AV.int .i64 ((lC
 (giveS x.1 x.2)).getD i 0)]) ∧ ((3 : TypeId) = 3 ∧ (1 : Nat) = 1 ∧ g.val.2.2.2 = g_1.val.2.2.2 ∧ (lW (giveS x.1 x.2)).length ≤ (lW x.1).length ∧ ∀ (i : Nat), i
 < (lW (giveS x.1 x.2)).length → [AV.int .i64 ((lW x.1).getD i 0)] = [AV.int .i64 ((lW (giveS x.1 x.2)).getD i 0)]) ∧ True) ∧ ((Tr 1 ((2 : Int) = giveErr x.1
 x.2) ∧ True) ∧ refB (giveS x.1 x.2) = refB (giveS x.1 x.2) ∧ true = true ∧ True) ∧ True) (Exx (List Int × Int) fun x_2 => (((0 + (lW x.1).length ≤ (lW
 x.1).length ∧ (lW x.1).length = x_2.1.length ∧ ∀ (i : Nat), i < x_2.1.length → [AV.int .i64 ((lW x.1).getD (0 + i) 0)] = [AV.int .i64 (x_2.1.getD i 0)]) ∧ Tr 1
 (x.2 = x_2.2) ∧ True) ∧ true = true ∧ True) ∧ (Ints x_2.1 ∧ I64 x_2.2) ∧ ∀ (y : Nat), (List.filter (fun y => y != x_2.2) x_2.1).length ≤ y ∧ y ≤
 9223372036854775807 → Exx Unit fun y_1 => Exx (Subtype (RCap (giveS x.1 x.2) true true false)) fun g_1 => Tr 1 (((38 : TypeId) = 38 ∧ Tr 1 ((↑x.1.n : Int) =
 (↑(giveS x.1 x.2).n : Int)) ∧ Tr 1 (x.1.r = (giveS x.1 x.2).r) ∧ (true = true ∧ NilNil ∧ (0 : Nat) = 0 ∧ (1 : Nat) = 1 ∧ (0 : Nat) = 0 ∧ (lC x.1).length = (lC
 (giveS x.1 x.2)).length ∧ g.val.1 = g_1.val.1) ∧ (true = true ∧ NilNil ∧ (0 : Nat) = 0 ∧ (1 : Nat) = 1 ∧ (0 : Nat) = 0 ∧ (lC x.1).length = (lC (giveS x.1
 x.2)).length ∧ g.val.1 = g_1.val.1) ∧ (true = true ∧ NilNil ∧ (0 : Nat) = 0 ∧ (1 : Nat) = 1 ∧ (0 : Nat) = 0 ∧ (lC x.1).length = (lC (giveS x.1 x.2)).length ∧
 g.val.1 = g_1.val.1) ∧ (true = true ∧ NilNil ∧ (0 : Nat) = 0 ∧ (1 : Nat) = 1 ∧ (0 : Nat) = 0 ∧ (List.filter (fun y => y != x_2.2) x_2.1).length = (lW (giveS x.1
 x.2)).length ∧ y = g_1.val.2.2.2) ∧ True) ∧ ((3 : TypeId) = 3 ∧ (1 : Nat) = 1 ∧ g.val.1 = g_1.val.1 ∧ (lC (giveS x.1 x.2)).length ≤ (lC x.1).length ∧ ∀ (i :
 Nat), i < (lC (giveS x.1 x.2)).length → [AV.int .i64 ((lC x.1).getD i 0)] = [AV.int .i64 ((lC (giveS x.1 x.2)).getD i 0)]) ∧ ((3 : TypeId) = 3 ∧ (1 : Nat) = 1 ∧
 y = g_1.val.2.2.2 ∧ (lW (giveS x.1 x.2)).length ≤ (List.filter (fun y => y != x_2.2) x_2.1).length ∧ ∀ (i : Nat), i < (lW (giveS x.1 x.2)).length → [AV.int .i64
 ((List.filter (fun y => y != x_2.2) x_2.1).getD i 0)] = [AV.int .i64 ((lW (giveS x.1 x.2)).getD i 0)]) ∧ True) ∧ ((Tr 1 ((0 : Int) = giveErr x.1 x.2) ∧ True) ∧
 refB (giveS x.1 x.2) = refB (giveS x.1 x.2) ∧ true = true ∧ True) ∧ True)) ∧ (∀ (g : Subtype (RCap x.1 true false true)), Exx (List Int × Int) fun x_1 => (((0 +
 (lM x.1).length ≤ (lM x.1).length ∧ (lM x.1).length = x_1.1.length ∧ ∀ (i : Nat), i < x_1.1.length → [AV.int .i64 ((lM x.1).getD (0 + i) 0)] = [AV.int .i64
 (x_1.1.getD i 0)]) ∧ Tr 1 (x.2 = x_1.2) ∧ True) ∧ true = true ∧ True) ∧ (IntL x_1.1 ∧ I64 x_1.2) ∧ ∀ (y : Unit), True → BC (!decide (x_1.2 ∈ x_1.1)) (Exx Unit
 fun y => Exx (Subtype (RCap (giveS x.1 x.2) true false true)) fun g_1 => Tr 1 (((38 : TypeId) = 38 ∧ Tr 1 ((↑x.1.n : Int) = (↑(giveS x.1 x.2).n : Int)) ∧ Tr 1
 (x.1.r = (giveS x.1 x.2).r) ∧ (true = true ∧ NilNil ∧ (0 : Nat) = 0 ∧ (1 : Nat) = 1 ∧ (0 : Nat) = 0 ∧ (lC x.1).length = (lC (giveS x.1 x.2)).length ∧ g.val.1 =
 g_1.val.1) ∧ (true = true ∧ NilNil ∧ (0 : Nat) = 0 ∧ (1 : Nat) = 1 ∧ (0 : Nat) = 0 ∧ (lC x.1).length = (lC (giveS x.1 x.2)).length ∧ g.val.1 = g_1.val.1) ∧
 (true = true ∧ NilNil ∧ (0 : Nat) = 0 ∧ (1 : Nat) = 1 ∧ (0 : Nat) = 0 ∧ (lM x.1).length = (lM (giveS x.1 x.2)).length ∧ g.val.2.2.1 = g_1.val.2.2.1) ∧ (true =
 true ∧ NilNil ∧ (0 : Nat) = 0 ∧ (1 : Nat) = 1 ∧ (0 : Nat) = 0 ∧ (lM x.1).length = (lM (giveS x.1 x.2)).length ∧ g.val.2.2.1 = g_1.val.2.2.1) ∧ True) ∧ ((3 :
 TypeId) = 3 ∧ (1 : Nat) = 1 ∧ g.val.1 = g_1.val.1 ∧ (lC (giveS x.1 x.2)).length ≤ (lC x.1).length ∧ ∀ (i : Nat), i < (lC (giveS x.1 x.2)).length → [AV.int .i64
 ((lC x.1).getD i 0)] = [AV.int .i64 ((lC (giveS x.1 x.2)).getD i 0)]) ∧ ((3 : TypeId) = 3 ∧ (1 : Nat) = 1 ∧ g.val.2.2.1 = g_1.val.2.2.1 ∧ (lM (giveS x.1
 x.2)).length ≤ (lM x.1).length ∧ ∀ (i : Nat), i < (lM (giveS x.1 x.2)).length → [AV.int .i64 ((lM x.1).getD i 0)] = [AV.int .i64 ((lM (giveS x.1 x.2)).getD i
 0)]) ∧ True) ∧ ((Tr 1 ((2 : Int) = giveErr x.1 x.2) ∧ True) ∧ refB (giveS x.1 x.2) = refB (giveS x.1 x.2) ∧ true = true ∧ True) ∧ True) (Exx (List Int × Int)
 fun x_2 => (((0 + (lM x.1).length ≤ (lM x.1).length ∧ (lM x.1).length = x_2.1.length ∧ ∀ (i : Nat), i < x_2.1.length → [AV.int .i64 ((lM x.1).getD (0 + i) 0)] =
 [AV.int .i64 (x_2.1.getD i 0)]) ∧ Tr 1 (x.2 = x_2.2) ∧ True) ∧ true = true ∧ True) ∧ (Ints x_2.1 ∧ I64 x_2.2) ∧ ∀ (y : Nat), (List.filter (fun y => y != x_2.2)
 x_2.1).length ≤ y ∧ y ≤ 9223372036854775807 → Exx Unit fun y_1 => Exx (Subtype (RCap (giveS x.1 x.2) true false false)) fun g_1 => Tr 1 (((38 : TypeId) = 38 ∧
 Tr 1 ((↑x.1.n : Int) = (↑(giveS x.1 x.2).n : Int)) ∧ Tr 1 (x.1.r = (giveS x.1 x.2).r) ∧ (true = true ∧ NilNil ∧ (0 : Nat) = 0 ∧ (1 : Nat) = 1 ∧ (0 : Nat) = 0 ∧
 (lC x.1).length = (lC (giveS x.1 x.2)).length ∧ g.val.1 = g_1.val.1) ∧ (true = true ∧ NilNil ∧ (0 : Nat) = 0 ∧ (1 : Nat) = 1 ∧ (0 : Nat) = 0 ∧ (lC x.1).length =
 (lC (giveS x.1 x.2)).length ∧ g.val.1 = g_1.val.1) ∧ (true = true ∧ NilNil ∧ (0 : Nat) = 0 ∧ (1 : Nat) = 1 ∧ (0 : Nat) = 0 ∧ (lM x.1).length = (lM (giveS x.1
 x.2)).length ∧ g.val.2.2.1 = g_1.val.2.2.1) ∧ (true = true ∧ NilNil ∧ (0 : Nat) = 0 ∧ (1 : Nat) = 1 ∧ (0 : Nat) = 0 ∧ (List.filter (fun y => y != x_2.2)
 x_2.1).length = (lW (giveS x.1 x.2)).length ∧ y = g_1.val.2.2.2) ∧ True) ∧ ((3 : TypeId) = 3 ∧ (1 : Nat) = 1 ∧ g.val.1 = g_1.val.1 ∧ (lC (giveS x.1 x.2)).length
 ≤ (lC x.1).length ∧ ∀ (i : Nat), i < (lC (giveS x.1 x.2)).length → [AV.int .i64 ((lC x.1).getD i 0)] = [AV.int .i64 ((lC (giveS x.1 x.2)).getD i 0)]) ∧ ((3 :
 TypeId) = 3 ∧ (1 : Nat) = 1 ∧ g.val.2.2.1 = g_1.val.2.2.1 ∧ (lM (giveS x.1 x.2)).length ≤ (lM x.1).length ∧ ∀ (i : Nat), i < (lM (giveS x.1 x.2)).length →
 [AV.int .i64 ((lM x.1).getD i 0)] = [AV.int .i64 ((lM (giveS x.1 x.2)).getD i 0)]) ∧ ((3 : TypeId) = 3 ∧ (1 : Nat) = 1 ∧ y = g_1.val.2.2.2 ∧ (lW (giveS x.1
 x.2)).length ≤ (List.filter (fun y => y != x_2.2) x_2.1).length ∧ ∀ (i : Nat), i < (lW (giveS x.1 x.2)).length → [AV.int .i64 ((List.filter (fun y => y !=
 x_2.2) x_2.1).getD i 0)] = [AV.int .i64 ((lW (giveS x.1 x.2)).getD i 0)]) ∧ True) ∧ ((Tr 1 ((0 : Int) = giveErr x.1 x.2) ∧ True) ∧ refB (giveS x.1 x.2) = refB
 (giveS x.1 x.2) ∧ true = true ∧ True) ∧ True)) ∧ (∀ (g : Subtype (RCap x.1 true false false)), Exx (List Int × Int) fun x_1 => (((0 + (lW x.1).length ≤ (lW
 x.1).length ∧ (lW x.1).length = x_1.1.length ∧ ∀ (i : Nat), i < x_1.1.length → [AV.int .i64 ((lW x.1).getD (0 + i) 0)] = [AV.int .i64 (x_1.1.getD i 0)]) ∧ Tr 1
 (x.2 = x_1.2) ∧ True) ∧ true = true ∧ True) ∧ (IntL x_1.1 ∧ I64 x_1.2) ∧ ∀ (y : Unit), True → BC (!decide (x_1.2 ∈ x_1.1)) (Exx Unit fun y => Exx (Subtype (RCap
 (giveS x.1 x.2) true false false)) fun g_1 => Tr 1 (((38 : TypeId) = 38 ∧ Tr 1 ((↑x.1.n : Int) = (↑(giveS x.1 x.2).n : Int)) ∧ Tr 1 (x.1.r = (giveS x.1 x.2).r)
 ∧ (true = true ∧ NilNil ∧ (0 : Nat) = 0 ∧ (1 : Nat) = 1 ∧ (0 : Nat) = 0 ∧ (lC x.1).length = (lC (giveS x.1 x.2)).length ∧ g.val.1 = g_1.val.1) ∧ (true = true ∧
 NilNil ∧ (0 : Nat) = 0 ∧ (1 : Nat) = 1 ∧ (0 : Nat) = 0 ∧ (lC x.1).length = (lC (giveS x.1 x.2)).length ∧ g.val.1 = g_1.val.1) ∧ (true = true ∧ NilNil ∧ (0 :
 Nat) = 0 ∧ (1 : Nat) = 1 ∧ (0 : Nat) = 0 ∧ (lM x.1).length = (lM (giveS x.1 x.2)).length ∧ g.val.2.2.1 = g_1.val.2.2.1) ∧ (true = true ∧ NilNil ∧ (0 : Nat) = 0
 ∧ (1 : Nat) = 1 ∧ (0 : Nat) = 0 ∧ (lW x.1).length = (lW (giveS x.1 x.2)).length ∧ g.val.2.2.2 = g_1.val.2.2.2) ∧ True) ∧ ((3 : TypeId) = 3 ∧ (1 : Nat) = 1 ∧
 g.val.1 = g_1.val.1 ∧ (lC (giveS x.1 x.2)).length ≤ (lC x.1).length ∧ ∀ (i : Nat), i < (lC (giveS x.1 x.2)).length → [AV.int .i64 ((lC x.1).getD i 0)] = [AV.int
 .i64 ((lC (giveS x.1 x.2)).getD i 0)]) ∧ ((3 : TypeId) = 3 ∧ (1 : Nat) = 1 ∧ g.val.2.2.1 = g_1.val.2.2.1 ∧ (lM (giveS x.1 x.2)).length ≤ (lM x.1).length ∧ ∀ (i
 : Nat), i < (lM (giveS x.1 x.2)).length → [AV.int .i64 ((lM x.1).getD i 0)] = [AV.int .i64 ((lM (giveS x.1 x.2)).getD i 0)]) ∧ ((3 : TypeId) = 3 ∧ (1 : Nat) = 1
 ∧ g.val.2.2.2 = g_1.val.2.2.2 ∧ (lW (giveS x.1 x.2)).length ≤ (lW x.1).length ∧ ∀ (i : Nat), i < (lW (giveS x.1 x.2)).length → [AV.int .i64 ((lW x.1).getD i 0)]
 = [AV.int .i64 ((lW (giveS x.1 x.2)).getD i 0)]) ∧ True) ∧ ((Tr 1 ((2 : Int) = giveErr x.1 x.2) ∧ True) ∧ refB (giveS x.1 x.2) = refB (giveS x.1 x.2) ∧ true =
 true ∧ True) ∧ True) (Exx (List Int × Int) fun x_2 => (((0 + (lW x.1).length ≤ (lW x.1).length ∧ (lW x.1).length = x_2.1.length ∧ ∀ (i : Nat), i < x_2.1.length
 → [AV.int .i64 ((lW x.1).getD (0 + i) 0)] = [AV.int .i64 (x_2.1.getD i 0)]) ∧ Tr 1 (x.2 = x_2.2) ∧ True) ∧ true = true ∧ True) ∧ (Ints x_2.1 ∧ I64 x_2.2) ∧ ∀ (y
 : Nat), (List.filter (fun y => y != x_2.2) x_2.1).length ≤ y ∧ y ≤ 9223372036854775807 → Exx Unit fun y_1 => Exx (Subtype (RCap (giveS x.1 x.2) true false
 false)) fun g_1 => Tr 1 (((38 : TypeId) = 38 ∧ Tr 1 ((↑x.1.n : Int) = (↑(giveS x.1 x.2).n : Int)) ∧ Tr 1 (x.1.r = (giveS x.1 x.2).r) ∧ (true = true ∧ NilNil ∧
 (0 : Nat) = 0 ∧ (1 : Nat) = 1 ∧ (0 : Nat) = 0 ∧ (lC x.1).length = (lC (giveS x.1 x.2)).length ∧ g.val.1 = g_1.val.1) ∧ (true = true ∧ NilNil ∧ (0 : Nat) = 0 ∧
 (1 : Nat) = 1 ∧ (0 : Nat) = 0 ∧ (lC x.1).length = (lC (giveS x.1 x.2)).length ∧ g.val.1 = g_1.val.1) ∧ (true = true ∧ NilNil ∧ (0 : Nat) = 0 ∧ (1 : Nat) = 1 ∧
 (0 : Nat) = 0 ∧ (lM x.1).length = (lM (giveS x.1 x.2)).length ∧ g.val.2.2.1 = g_1.val.2.2.1) ∧ (true = true ∧ NilNil ∧ (0 : Nat) = 0 ∧ (1 : Nat) = 1 ∧ (0 : Nat)
 = 0 ∧ (List.filter (fun y => y != x_2.2) x_2.1).length = (lW (giveS x.1 x.2)).length ∧ y = g_1.val.2.2.2) ∧ True) ∧ ((3 : TypeId) = 3 ∧ (1 : Nat) = 1 ∧ g.val.1
 = g_1.val.1 ∧ (lC (giveS x.1 x.2)).length ≤ (lC x.1).length ∧ ∀ (i : Nat), i < (lC (giveS x.1 x.2)).length → [AV.int .i64 ((lC x.1).getD i 0)] = [AV.int .i64
 ((lC (giveS x.1 x.2)).getD i 0)]) ∧ ((3 : TypeId) = 3 ∧ (1 : Nat) = 1 ∧ g.val.2.2.1 = g_1.val.2.2.1 ∧ (lM (giveS x.1 x.2)).length ≤ (lM x.1).length ∧ ∀ (i :
 Nat), i < (lM (giveS x.1 x.2)).length → [AV.int .i64 ((lM x.1).getD i 0)] = [AV.int .i64 ((lM (giveS x.1 x.2)).getD i 0)]) ∧ ((3 : TypeId) = 3 ∧ (1 : Nat) = 1 ∧
 y = g_1.val.2.2.2 ∧ (lW (giveS x.1 x.2)).length ≤ (List.filter (fun y => y != x_2.2) x_2.1).length ∧ ∀ (i : Nat), i < (lW (giveS x.1 x.2)).length → [AV.int .i64
 ((List.filter (fun y => y != x_2.2) x_2.1).getD i 0)] = [AV.int .i64 ((lW (giveS x.1 x.2)).getD i 0)]) ∧ True) ∧ ((Tr 1 ((0 : Int) = giveErr x.1 x.2) ∧ True) ∧
 refB (giveS x.1 x.2) = refB (giveS x.1 x.2) ∧ true = true ∧ True) ∧ True)) ∧ (∀ (g : Subtype (RCap x.1 false true true)), Exx (List Int × Int) fun x_1 => (((0 +
 (lC x.1).length ≤ (lC x.1).length ∧ (lC x.1).length = x_1.1.length ∧ ∀ (i : Nat), i < x_1.1.length → [AV.int .i64 ((lC x.1).getD (0 + i) 0)] = [AV.int .i64
 (x_1.1.getD i 0)]) ∧ Tr 1 (x.2 = x_1.2) ∧ True) ∧ true = true ∧ True) ∧ (IntL x_1.1 ∧ I64 x_1.2) ∧ ∀ (y : Unit), True → BC (!decide (x_1.2 ∈ x_1.1)) (Exx Unit
 fun y => Exx (Subtype (RCap (giveS x.1 x.2) false true true)) fun g_1 => Tr 1 (((38 : TypeId) = 38 ∧ Tr 1 ((↑x.1.n : Int) = (↑(giveS x.1 x.2).n : Int)) ∧ Tr 1
 (x.1.r = (giveS x.1 x.2).r) ∧ (true = true ∧ NilNil ∧ (0 : Nat) = 0 ∧ (1 : Nat) = 1 ∧ (0 : Nat) = 0 ∧ (lC x.1).length = (lC (giveS x.1 x.2)).length ∧ g.val.1 =
 g_1.val.1) ∧ (true = true ∧ NilNil ∧ (0 : Nat) = 0 ∧ (1 : Nat) = 1 ∧ (0 : Nat) = 0 ∧ (lE x.1).length = (lE (giveS x.1 x.2)).length ∧ g.val.2.1 = g_1.val.2.1) ∧
 (true = true ∧ NilNil ∧ (0 : Nat) = 0 ∧ (1 : Nat) = 1 ∧ (0 : Nat) = 0 ∧ (lC x.1).length = (lC (giveS x.1 x.2)).length ∧ g.val.1 = g_1.val.1) ∧ (true = true ∧
 NilNil ∧ (0 : Nat) = 0 ∧ (1 : Nat) = 1 ∧ (0 : Nat) = 0 ∧ (lC x.1).length = (lC (giveS x.1 x.2)).length ∧ g.val.1 = g_1.val.1) ∧ True) ∧ ((3 : TypeId) = 3 ∧ (1 :
 Nat) = 1 ∧ g.val.1 = g_1.val.1 ∧ (lC (giveS x.1 x.2)).length ≤ (lC x.1).length ∧ ∀ (i : Nat), i < (lC (giveS x.1 x.2)).length → [AV.int .i64 ((lC x.1).getD i
 0)] = [AV.int .i64 ((lC (giveS x.1 x.2)).getD i 0)]) ∧ ((3 : TypeId) = 3 ∧ (1 : Nat) = 1 ∧ g.val.2.1 = g_1.val.2.1 ∧ (lE (giveS x.1 x.2)).length ≤ (lE
 x.1).length ∧ ∀ (i : Nat), i < (lE (giveS x.1 x.2)).length → [AV.int .i64 ((lE x.1).getD i 0)] = [AV.int .i64 ((lE (giveS x.1 x.2)).getD i 0)]) ∧ True) ∧ ((Tr 1
 ((2 : Int) = giveErr x.1 x.2) ∧ True) ∧ refB (giveS x.1 x.2) = refB (giveS x.1 x.2) ∧ true = true ∧ True) ∧ True) (Exx (List Int × Int) fun x_2 => (((0 + (lC
 x.1).length ≤ (lC x.1).length ∧ (lC x.1).length = x_2.1.length ∧ ∀ (i : Nat), i < x_2.1.length → [AV.int .i64 ((lC x.1).getD (0 + i) 0)] = [AV.int .i64
 (x_2.1.getD i 0)]) ∧ Tr 1 (x.2 = x_2.2) ∧ True) ∧ true = true ∧ True) ∧ (Ints x_2.1 ∧ I64 x_2.2) ∧ ∀ (y : Nat), (List.filter (fun y => y != x_2.2) x_2.1).length
 ≤ y ∧ y ≤ 9223372036854775807 → Exx Unit fun y_1 => Exx (Subtype (RCap (giveS x.1 x.2) false true false)) fun g_1 => Tr 1 (((38 : TypeId) = 38 ∧ Tr 1 ((↑x.1.n :
 Int) = (↑(giveS x.1 x.2).n : Int)) ∧ Tr 1 (x.1.r = (giveS x.1 x.2).r) ∧ (true = true ∧ NilNil ∧ (0 : Nat) = 0 ∧ (1 : Nat) = 1 ∧ (0 : Nat) = 0 ∧ (lC x.1).length
 = (lC (giveS x.1 x.2)).length ∧ g.val.1 = g_1.val.1) ∧ (true = true ∧ NilNil ∧ (0 : Nat) = 0 ∧ (1 : Nat) = 1 ∧ (0 : Nat) = 0 ∧ (lE x.1).length = (lE (giveS x.1
 x.2)).length ∧ g.val.2.1 = g_1.val.2.1) ∧ (true = true ∧ NilNil ∧ (0 : Nat) = 0 ∧ (1 : Nat) = 1 ∧ (0 : Nat) = 0 ∧ (lC x.1).length = (lC (giveS x.1 x.2)).length
 ∧ g.val.1 = g_1.val.1) ∧ (true = true ∧ NilNil ∧ (0 : Nat) = 0 ∧ (1 : Nat) = 1 ∧ (0 : Nat) = 0 ∧ (List.filter (fun y => y != x_2.2) x_2.1).length = (lW (giveS
 x.1 x.2)).length ∧ y = g_1.val.2.2.2) ∧ True) ∧ ((3 : TypeId) = 3 ∧ (1 : Nat) = 1 ∧ g.val.1 = g_1.val.1 ∧ (lC (giveS x.1 x.2)).length ≤ (lC x.1).length ∧ ∀ (i :
 Nat), i < (lC (giveS x.1 x.2)).length → [AV.int .i64 ((lC x.1).getD i 0)] = [AV.int .i64 ((lC (giveS x.1 x.2)).getD i 0)]) ∧ ((3 : TypeId) = 3 ∧ (1 : Nat) = 1 ∧
 g.val.2.1 = g_1.val.2.1 ∧ (lE (giveS x.1 x.2)).length ≤ (lE x.1).length ∧ ∀ (i : Nat), i < (lE (giveS x.1 x.2)).length → [AV.int .i64 ((lE x.1).getD i 0)] =
 [AV.int .i64 ((lE (giveS x.1 x.2)).getD i 0)]) ∧ ((3 : TypeId) = 3 ∧ (1 : Nat) = 1 ∧ y = g_1.val.2.2.2 ∧ (lW (giveS x.1 x.2)).length ≤ (List.filter (fun y => y
 != x_2.2) x_2.1).length ∧ ∀ (i : Nat), i < (lW (giveS x.1 x.2)).length → [AV.int .i64 ((List.filter (fun y => y != x_2.2) x_2.1).getD i 0)] = [AV.int .i64 ((lW
 (giveS x.1 x.2)).getD i 0)]) ∧ True) ∧ ((Tr 1 ((0 : Int) = giveErr x.1 x.2) ∧ True) ∧ refB (giveS x.1 x.2) = refB (giveS x.1 x.2) ∧ true = true ∧ True) ∧ True))
 ∧ (∀ (g : Subtype (RCap x.1 false true false)), Exx (List Int × Int) fun x_1 => (((0 + (lW x.1).length ≤ (lW x.1).length ∧ (lW x.1).length = x_1.1.length ∧ ∀ (i
 : Nat), i < x_1.1.length → [AV.int .i64 ((lW x.1).getD (0 + i) 0)] = [AV.int .i64 (x_1.1.getD i 0)]) ∧ Tr 1 (x.2 = x_1.2) ∧ True) ∧ true = true ∧ True) ∧ (IntL
 x_1.1 ∧ I64 x_1.2) ∧ ∀ (y : Unit), True → BC (!decide (x_1.2 ∈ x_1.1)) (Exx Unit fun y => Exx (Subtype (RCap (giveS x.1 x.2) false true false)) fun g_1 => Tr 1
 (((38 : TypeId) = 38 ∧ Tr 1 ((↑x.1.n : Int) = (↑(giveS x.1 x.2).n : Int)) ∧ Tr 1 (x.1.r = (giveS x.1 x.2).r) ∧ (true = true ∧ NilNil ∧ (0 : Nat) = 0 ∧ (1 : Nat)
 = 1 ∧ (0 : Nat) = 0 ∧ (lC x.1).length = (lC (giveS x.1 x.2)).length ∧ g.val.1 = g_1.val.1) ∧ (true = true ∧ NilNil ∧ (0 : Nat) = 0 ∧ (1 : Nat) = 1 ∧ (0 : Nat) =
 0 ∧ (lE x.1).length = (lE (giveS x.1 x.2)).length ∧ g.val.2.1 = g_1.val.2.1) ∧ (true = true ∧ NilNil ∧ (0 : Nat) = 0 ∧ (1 : Nat) = 1 ∧ (0 : Nat) = 0 ∧ (lC
 x.1).length = (lC (giveS x.1 x.2)).length ∧ g.val.1 = g_1.val.1) ∧ (true = true ∧ NilNil ∧ (0 : Nat) = 0 ∧ (1 : Nat) = 1 ∧ (0 : Nat) = 0 ∧ (lW x.1).length = (lW
 (giveS x.1 x.2)).length ∧ g.val.2.2.2 = g_1.val.2.2.2) ∧ True) ∧ ((3 : TypeId) = 3 ∧ (1 : Nat) = 1 ∧ g.val.1 = g_1.val.1 ∧ (lC (giveS x.1 x.2)).length ≤ (lC
 x.1).length ∧ ∀ (i : Nat), i < (lC (giveS x.1 x.2)).length → [AV.int .i64 ((lC x.1).getD i 0)] = [AV.int .i64 ((lC (giveS x.1 x.2)).getD i 0)]) ∧ ((3 : TypeId)
 = 3 ∧ (1 : Nat) = 1 ∧ g.val.2.1 = g_1.val.2.1 ∧ (lE (giveS x.1 x.2)).length ≤ (lE x.1).length ∧ ∀ (i : Nat), i < (lE (giveS x.1 x.2)).length → [AV.int .i64 ((lE
 x.1).getD i 0)] = [AV.int .i64 ((lE (giveS x.1 x.2)).getD i 0)]) ∧ ((3 : TypeId) = 3 ∧ (1 : Nat) = 1 ∧ g.val.2.2.2 = g_1.val.2.2.2 ∧ (lW (giveS x.1 x.2)).length
 ≤ (lW x.1).length ∧ ∀ (i : Nat), i < (lW (giveS x.1 x.2)).length → [AV.int .i64 ((lW x.1).getD i 0)] = [AV.int .i64 ((lW (giveS x.1 x.2)).getD i 0)]) ∧ True) ∧
 ((Tr 1 ((2 : Int) = giveErr x.1 x.2) ∧ True) ∧ refB (giveS x.1 x.2) = refB (giveS x.1 x.2) ∧ true = true ∧ True) ∧ True) (Exx (List Int × Int) fun x_2 => (((0 +
 (lW x.1).length ≤ (lW x.1).length ∧ (lW x.1).length = x_2.1.length ∧ ∀ (i : Nat), i < x_2.1.length → [AV.int .i64 ((lW x.1).getD (0 + i) 0)] = [AV.int .i64
 (x_2.1.getD i 0)]) ∧ Tr 1 (x.2 = x_2.2) ∧ True) ∧ true = true ∧ True) ∧ (Ints x_2.1 ∧ I64 x_2.2) ∧ ∀ (y : Nat), (List.filter (fun y => y != x_2.2) x_2.1).length
 ≤ y ∧ y ≤ 9223372036854775807 → Exx Unit fun y_1 => Exx (Subtype (RCap (giveS x.1 x.2) false true false)) fun g_1 => Tr 1 (((38 : TypeId) = 38 ∧ Tr 1 ((↑x.1.n :
 Int) = (↑(giveS x.1 x.2).n : Int)) ∧ Tr 1 (x.1.r = (giveS x.1 x.2).r) ∧ (true = true ∧ NilNil ∧ (0 : Nat) = 0 ∧ (1 : Nat) = 1 ∧ (0 : Nat) = 0 ∧ (lC x.1).length
 = (lC (giveS x.1 x.2)).length ∧ g.val.1 = g_1.val.1) ∧ (true = true ∧ NilNil ∧ (0 : Nat) = 0 ∧ (1 : Nat) = 1 ∧ (0 : Nat) = 0 ∧ (lE x.1).length = (lE (giveS x.1
 x.2)).length ∧ g.val.2.1 = g_1.val.2.1) ∧ (true = true ∧ NilNil ∧ (0 : Nat) = 0 ∧ (1 : Nat) = 1 ∧ (0 : Nat) = 0 ∧ (lC x.1).length = (lC (giveS x.1 x.2)).length
 ∧ g.val.1 = g_1.val.1) ∧ (true = true ∧ NilNil ∧ (0 : Nat) = 0 ∧ (1 : Nat) = 1 ∧ (0 : Nat) = 0 ∧ (List.filter (fun y => y != x_2.2) x_2.1).length = (lW (giveS
 x.1 x.2)).length ∧ y = g_1.val.2.2.2) ∧ True) ∧ ((3 : TypeId) = 3 ∧ (1 : Nat) = 1 ∧ g.val.1 = g_1.val.1 ∧ (lC (giveS x.1 x.2)).length ≤ (lC x.1).length ∧ ∀ (i :
 Nat), i < (lC (giveS x.1 x.2)).length → [AV.int .i64 ((lC x.1).getD i 0)] = [AV.int .i64 ((lC (giveS x.1 x.2)).getD i 0)]) ∧ ((3 : TypeId) = 3 ∧ (1 : Nat) = 1 ∧
 g.val.2.1 = g_1.val.2.1 ∧ (lE (giveS x.1 x.2)).length ≤ (lE x.1).length ∧ ∀ (i : Nat), i < (lE (giveS x.1 x.2)).length → [AV.int .i64 ((lE x.1).getD i 0)] =
 [AV.int .i64 ((lE (giveS x.1 x.2)).getD i 0)]) ∧ ((3 : TypeId) = 3 ∧ (1 : Nat) = 1 ∧ y = g_1.val.2.2.2 ∧ (lW (giveS x.1 x.2)).length ≤ (List.filter (fun y => y
 != x_2.2) x_2.1).length ∧ ∀ (i : Nat), i < (lW (giveS x.1 x.2)).length → [AV.int .i64 ((List.filter (fun y => y != x_2.2) x_2.1).getD i 0)] = [AV.int .i64 ((lW
 (giveS x.1 x.2)).getD i 0)]) ∧ True) ∧ ((Tr 1 ((0 : Int) = giveErr x.1 x.2) ∧ True) ∧ refB (giveS x.1 x.2) = refB (giveS x.1 x.2) ∧ true = true ∧ True) ∧ True))
 ∧ (∀ (g : Subtype (RCap x.1 false false true)), Exx (List Int × Int) fun x_1 => (((0 + (lM x.1).length ≤ (lM x.1).length ∧ (lM x.1).length = x_1.1.length ∧ ∀ (i
 : Nat), i < x_1.1.length → [AV.int .i64 ((lM x.1).getD (0 + i) 0)] = [AV.int .i64 (x_1.1.getD i 0)]) ∧ Tr 1 (x.2 = x_1.2) ∧ True) ∧ true = true ∧ True) ∧ (IntL
 x_1.1 ∧ I64 x_1.2) ∧ ∀ (y : Unit), True → BC (!decide (x_1.2 ∈ x_1.1)) (Exx Unit fun y => Exx (Subtype (RCap (giveS x.1 x.2) false false true)) fun g_1 => Tr 1
 (((38 : TypeId) = 38 ∧ Tr 1 ((↑x.1.n : Int) = (↑(giveS x.1 x.2).n : Int)) ∧ Tr 1 (x.1.r = (giveS x.1 x.2).r) ∧ (true = true ∧ NilNil ∧ (0 : Nat) = 0 ∧ (1 : Nat)
 = 1 ∧ (0 : Nat) = 0 ∧ (lC x.1).length = (lC (giveS x.1 x.2)).length ∧ g.val.1 = g_1.val.1) ∧ (true = true ∧ NilNil ∧ (0 : Nat) = 0 ∧ (1 : Nat) = 1 ∧ (0 : Nat) =
 0 ∧ (lE x.1).length = (lE (giveS x.1 x.2)).length ∧ g.val.2.1 = g_1.val.2.1) ∧ (true = true ∧ NilNil ∧ (0 : Nat) = 0 ∧ (1 : Nat) = 1 ∧ (0 : Nat) = 0 ∧ (lM
 x.1).length = (lM (giveS x.1 x.2)).length ∧ g.val.2.2.1 = g_1.val.2.2.1) ∧ (true = true ∧ NilNil ∧ (0 : Nat) = 0 ∧ (1 : Nat) = 1 ∧ (0 : Nat) = 0 ∧ (lM
 x.1).length = (lM (giveS x.1 x.2)).length ∧ g.val.2.2.1 = g_1.val.2.2.1) ∧ True) ∧ ((3 : TypeId) = 3 ∧ (1 : Nat) = 1 ∧ g.val.1 = g_1.val.1 ∧ (lC (giveS x.1
 x.2)).length ≤ (lC x.1).length ∧ ∀ (i : Nat), i < (lC (giveS x.1 x.2)).length → [AV.int .i64 ((lC x.1).getD i 0)] = [AV.int .i64 ((lC (giveS x.1 x.2)).getD i
 0)]) ∧ ((3 : TypeId) = 3 ∧ (1 : Nat) = 1 ∧ g.val.2.1 = g_1.val.2.1 ∧ (lE (giveS x.1 x.2)).length ≤ (lE x.1).length ∧ ∀ (i : Nat), i < (lE (giveS x.1
 x.2)).length → [AV.int .i64 ((lE x.1).getD i 0)] = [AV.int .i64 ((lE (giveS x.1 x.2)).getD i 0)]) ∧ ((3 : TypeId) = 3 ∧ (1 : Nat) = 1 ∧ g.val.2.2.1 =
 g_1.val.2.2.1 ∧ (lM (giveS x.1 x.2)).length ≤ (lM x.1).length ∧ ∀ (i : Nat), i < (lM (giveS x.1 x.2)).length → [AV.int .i64 ((lM x.1).getD i 0)] = [AV.int .i64
 ((lM (giveS x.1 x.2)).getD i 0)]) ∧ True) ∧ ((Tr 1 ((2 : Int) = giveErr x.1 x.2) ∧ True) ∧ refB (giveS x.1 x.2) = refB (giveS x.1 x.2) ∧ true = true ∧ True) ∧
 True) (Exx (List Int × Int) fun x_2 => (((0 + (lM x.1).length ≤ (lM x.1).length ∧ (lM x.1).length = x_2.1.length ∧ ∀ (i : Nat), i < x_2.1.length → [AV.int .i64
 ((lM x.1).getD (0 + i) 0)] = [AV.int .i64 (x_2.1.getD i 0)]) ∧ Tr 1 (x.2 = x_2.2) ∧ True) ∧ true = true ∧ True) ∧ (Ints x_2.1 ∧ I64 x_2.2) ∧ ∀ (y : Nat),
 (List.filter (fun y => y != x_2.2) x_2.1).length ≤ y ∧ y ≤ 9223372036854775807 → Exx Unit fun y_1 => Exx (Subtype (RCap (giveS x.1 x.2) false false false)) fun
 g_1 => Tr 1 (((38 : TypeId) = 38 ∧ Tr 1 ((↑x.1.n : Int) = (↑(giveS x.1 x.2).n : Int)) ∧ Tr 1 (x.1.r = (giveS x.1 x.2).r) ∧ (true = true ∧ NilNil ∧ (0 : Nat) = 0
 ∧ (1 : Nat) = 1 ∧ (0 : Nat) = 0 ∧ (lC x.1).length = (lC (giveS x.1 x.2)).length ∧ g.val.1 = g_1.val.1) ∧ (true = true ∧ NilNil ∧ (0 : Nat) = 0 ∧ (1 : Nat) = 1 ∧
 (0 : Nat) = 0 ∧ (lE x.1).length = (lE (giveS x.1 x.2)).length ∧ g.val.2.1 = g_1.val.2.1) ∧ (true = true ∧ NilNil ∧ (0 : Nat) = 0 ∧ (1 : Nat) = 1 ∧ (0 : Nat) = 0
 ∧ (lM x.1).length = (lM (giveS x.1 x.2)).length ∧ g.val.2.2.1 = g_1.val.2.2.1) ∧ (true = true ∧ NilNil ∧ (0 : Nat) = 0 ∧ (1 : Nat) = 1 ∧ (0 : Nat) = 0 ∧
 (List.filter (fun y => y != x_2.2) x_2.1).length = (lW (giveS x.1 x.2)).length ∧ y = g_1.val.2.2.2) ∧ True) ∧ ((3 : TypeId) = 3 ∧ (1 : Nat) = 1 ∧ g.val.1 =
 g_1.val.1 ∧ (lC (giveS x.1 x.2)).length ≤ (lC x.1).length ∧ ∀ (i : Nat), i < (lC (giveS x.1 x.2)).length → [AV.int .i64 ((lC x.1).getD i 0)] = [AV.int .i64 ((lC
 (giveS x.1 x.2)).getD i 0)]) ∧ ((3 : TypeId) = 3 ∧ (1 : Nat) = 1 ∧ g.val.2.1 = g_1.val.2.1 ∧ (lE (giveS x.1 x.2)).length ≤ (lE x.1).length ∧ ∀ (i : Nat), i <
 (lE (giveS x.1 x.2)).length → [AV.int .i64 ((lE x.1).getD i 0)] = [AV.int .i64 ((lE (giveS x.1 x.2)).getD i 0)]) ∧ ((3 : TypeId) = 3 ∧ (1 : Nat) = 1 ∧
 g.val.2.2.1 = g_1.val.2.2.1 ∧ (lM (giveS x.1 x.2)).length ≤ (lM x.1).length ∧ ∀ (i : Nat), i < (lM (giveS x.1 x.2)).length → [AV.int .i64 ((lM x.1).getD i 0)] =
 [AV.int .i64 ((lM (giveS x.1 x.2)).getD i 0)]) ∧ ((3 : TypeId) = 3 ∧ (1 : Nat) = 1 ∧ y = g_1.val.2.2.2 ∧ (lW (giveS x.1 x.2)).length ≤ (List.filter (fun y => y
 != x_2.2) x_2.1).length ∧ ∀ (i : Nat), i < (lW (giveS x.1 x.2)).length → [AV.int .i64 ((List.filter (fun y => y != x_2.2) x_2.1).getD i 0)] = [AV.int .i64 ((lW
 (giveS x.1 x.2)).getD i 0)]) ∧ True) ∧ ((Tr 1 ((0 : Int) = giveErr x.1 x.2) ∧ True) ∧ refB (giveS x.1 x.2) = refB (giveS x.1 x.2) ∧ true = true ∧ True) ∧ True))
 ∧ (∀ (g : Subtype (RCap x.1 false false false)), Exx (List Int × Int) fun x_1 => (((0 + (lW x.1).length ≤ (lW x.1).length ∧ (lW x.1).length = x_1.1.length ∧ ∀
 (i : Nat), i < x_1.1.length → [AV.int .i64 ((lW x.1).getD (0 + i) 0)] = [AV.int .i64 (x_1.1.getD i 0)]) ∧ Tr 1 (x.2 = x_1.2) ∧ True) ∧ true = true ∧ True) ∧
 (IntL x_1.1 ∧ I64 x_1.2) ∧ ∀ (y : Unit), True → BC (!decide (x_1.2 ∈ x_1.1)) (Exx Unit fun y => Exx (Subtype (RCap (giveS x.1 x.2) false false false)) fun g_1
 => Tr 1 (((38 : TypeId) = 38 ∧ Tr 1 ((↑x.1.n : Int) = (↑(giveS x.1 x.2).n : Int)) ∧ Tr 1 (x.1.r = (giveS x.1 x.2).r) ∧ (true = true ∧ NilNil ∧ (0 : Nat) = 0 ∧
 (1 : Nat) = 1 ∧ (0 : Nat) = 0 ∧ (lC x.1).length = (lC (giveS x.1 x.2)).length ∧ g.val.1 = g_1.val.1) ∧ (true = true ∧ NilNil ∧ (0 : Nat) = 0 ∧ (1 : Nat) = 1 ∧
 (0 : Nat) = 0 ∧ (lE x.1).length = (lE (giveS x.1 x.2)).length ∧ g.val.2.1 = g_1.val.2.1) ∧ (true = true ∧ NilNil ∧ (0 : Nat) = 0 ∧ (1 : Nat) = 1 ∧ (0 : Nat) = 0
 ∧ (lM x.1).length = (lM (giveS x.1 x.2)).length ∧ g.val.2.2.1 = g_1.val.2.2.1) ∧ (true = true ∧ NilNil ∧ (0 : Nat) = 0 ∧ (1 : Nat) = 1 ∧ (0 : Nat) = 0 ∧ (lW
 x.1).length = (lW (giveS x.1 x.2)).length ∧ g.val.2.2.2 = g_1.val.2.2.2) ∧ True) ∧ ((3 : TypeId) = 3 ∧ (1 : Nat) = 1 ∧ g.val.1 = g_1.val.1 ∧ (lC (giveS x.1
 x.2)).length ≤ (lC x.1).length ∧ ∀ (i : Nat), i < (lC (giveS x.1 x.2)).length → [AV.int .i64 ((lC x.1).getD i 0)] = [AV.int .i64 ((lC (giveS x.1 x.2)).getD i
 0)]) ∧ ((3 : TypeId) = 3 ∧ (1 : Nat) = 1 ∧ g.val.2.1 = g_1.val.2.1 ∧ (lE (giveS x.1 x.2)).length ≤ (lE x.1).length ∧ ∀ (i : Nat), i < (lE (giveS x.1
 x.2)).length → [AV.int .i64 ((lE x.1).getD i 0)] = [AV.int .i64 ((lE (giveS x.1 x.2)).getD i 0)]) ∧ ((3 : TypeId) = 3 ∧ (1 : Nat) = 1 ∧ g.val.2.2.1 =
 g_1.val.2.2.1 ∧ (lM (giveS x.1 x.2)).length ≤ (lM x.1).length ∧ ∀ (i : Nat), i < (lM (giveS x.1 x.2)).length → [AV.int .i64 ((lM x.1).getD i 0)] = [AV.int .i64
 ((lM (giveS x.1 x.2)).getD i 0)]) ∧ ((3 : TypeId) = 3 ∧ (1 : Nat) = 1 ∧ g.val.2.2.2 = g_1.val.2.2.2 ∧ (lW (giveS x.1 x.2)).length ≤ (lW x.1).length ∧ ∀ (i :
 Nat), i < (lW (giveS x.1 x.2)).length → [AV.int .i64 ((lW x.1).getD i 0)] = [AV.int .i64 ((lW (giveS x.1 x.2)).getD i 0)]) ∧ True) ∧ ((Tr 1 ((2 : Int) = giveErr
 x.1 x.2) ∧ True) ∧ refB (giveS x.1 x.2) = refB (giveS x.1 x.2) ∧ true = true ∧ True) ∧ True) (Exx (List Int × Int) fun x_2 => (((0 + (lW x.1).length ≤ (lW
 x.1).length ∧ (lW x.1).length = x_2.1.length ∧ ∀ (i : Nat), i < x_2.1.length → [AV.int .i64 ((lW x.1).getD (0 + i) 0)] = [AV.int .i64 (x_2.1.getD i 0)]) ∧ Tr 1
 (x.2 = x_2.2) ∧ True) ∧ true = true ∧ True) ∧ (Ints x_2.1 ∧ I64 x_2.2) ∧ ∀ (y : Nat), (List.filter (fun y => y != x_2.2) x_2.1).length ≤ y ∧ y ≤
 9223372036854775807 → Exx Unit fun y_1 => Exx (Subtype (RCap (giveS x.1 x.2) false false false)) fun g_1 => Tr 1 (((38 : TypeId) = 38 ∧ Tr 1 ((↑x.1.n : Int) =
 (↑(giveS x.1 x.2).n : Int)) ∧ Tr 1 (x.1.r = (giveS x.1 x.2).r) ∧ (true = true ∧ NilNil ∧ (0 : Nat) = 0 ∧ (1 : Nat) = 1 ∧ (0 : Nat) = 0 ∧ (lC x.1).length = (lC
 (giveS x.1 x.2)).length ∧ g.val.1 = g_1.val.1) ∧ (true = true ∧ NilNil ∧ (0 : Nat) = 0 ∧ (1 : Nat) = 1 ∧ (0 : Nat) = 0 ∧ (lE x.1).length = (lE (giveS x.1
 x.2)).length ∧ g.val.2.1 = g_1.val.2.1) ∧ (true = true ∧ NilNil ∧ (0 : Nat) = 0 ∧ (1 : Nat) = 1 ∧ (0 : Nat) = 0 ∧ (lM x.1).length = (lM (giveS x.1 x.2)).length
 ∧ g.val.2.2.1 = g_1.val.2.2.1) ∧ (true = true ∧ NilNil ∧ (0 : Nat) = 0 ∧ (1 : Nat) = 1 ∧ (0 : Nat) = 0 ∧ (List.filter (fun y => y != x_2.2) x_2.1).length = (lW
 (giveS x.1 x.2)).length ∧ y = g_1.val.2.2.2) ∧ True) ∧ ((3 : TypeId) = 3 ∧ (1 : Nat) = 1 ∧ g.val.1 = g_1.val.1 ∧ (lC (giveS x.1 x.2)).length ≤ (lC x.1).length ∧
 ∀ (i : Nat), i < (lC (giveS x.1 x.2)).length → [AV.int .i64 ((lC x.1).getD i 0)] = [AV.int .i64 ((lC (giveS x.1 x.2)).getD i 0)]) ∧ ((3 : TypeId) = 3 ∧ (1 :
 Nat) = 1 ∧ g.val.2.1 = g_1.val.2.1 ∧ (lE (giveS x.1 x.2)).length ≤ (lE x.1).length ∧ ∀ (i : Nat), i < (lE (giveS x.1 x.2)).length → [AV.int .i64 ((lE x.1).getD
 i 0)] = [AV.int .i64 ((lE (giveS x.1 x.2)).getD i 0)]) ∧ ((3 : TypeId) = 3 ∧ (1 : Nat) = 1 ∧ g.val.2.2.1 = g_1.val.2.2.1 ∧ (lM (giveS x.1 x.2)).length ≤ (lM
 x.1).length ∧ ∀ (i : Nat), i < (lM (giveS x.1 x.2)).length → [AV.int .i64 ((lM x.1).getD i 0)] = [AV.int .i64 ((lM (giveS x.1 x.2)).getD i 0)]) ∧ ((3 : TypeId)
 = 3 ∧ (1 : Nat) = 1 ∧ y = g_1.val.2.2.2 ∧ (lW (giveS x.1 x.2)).length ≤ (List.filter (fun y => y != x_2.2) x_2.1).length ∧ ∀ (i : Nat), i < (lW (giveS x.1
 x.2)).length → [AV.int .i64 ((List.filter (fun y => y != x_2.2) x_2.1).getD i 0)] = [AV.int .i64 ((lW (giveS x.1 x.2)).getD i 0)]) ∧ True) ∧ ((Tr 1 ((0 : Int) =
 giveErr x.1 x.2) ∧ True) ∧ refB (giveS x.1 x.2) = refB (giveS x.1 x.2) ∧ true = true ∧ True) ∧ True)) ∧ True) = (fnVCo tb [(14, specOf refHasC), (48, specOf
 refDropC)] Tryd.f40 refGiveC (fun x => { opensA := [(1, [opR 0 x.1])] }) (fun _ _ _ => none) (fun _ => []) (fun x y av H => clR 0 H (giveS x.1 x.2))) := by
 kernel_rfl

theorem refGive_ok : SpecOk Tryd.prog 40 (specOf refGiveC) := by
  refine specOko mixed tb_ok (SPok.cons refHas_ok (SPok.cons refDrop_ok SPok.nil)) Tryd.func40 (by decide) (refSetC_ok fun _ => rfl) (an := (fun x => { opensA := [(1, [opR 0 x.1])] })) (σ := (fun _ _ _ => none)) (op := (fun _ => [])) (cl := (fun x y av H => clR 0 H (giveS x.1 x.2))) ?_
  rw [← refGiveV]
  simp (maxSteps := 10000000) only [and_false, false_and, false_or, or_false, bOf_true, bOf_false, true_bOf, false_bOf, Exx, int_ite, merge_o, Tr_eq, true_and, and_true, exists_const, forall_const, implies_true, forall_eq, exists_eq, exists_eq', exists_eq_left, exists_eq_left', exists_eq_right, Prod.exists, Prod.forall, and_assoc, exists_and_left, BC_iff, Bool.not_eq_true', Bool.not_eq_false', decide_eq_true_eq, decide_eq_false_iff_not, I64, nat_cast_inj, Int.toNat_natCast, nats_iff, nats_iff', ints_iff, ints_iff', natss_iff, natss_iff', nilnil, litL_eq, str_inj, str_append, str_length, str_getD, str_take, lit1_iff, one_iff, two_iff, one_get, Nat.zero_add, Nat.sub_zero, Nat.reduceMul, Nat.reduceDiv, Nat.reduceAdd, Int.reduceToNat, Nat.not_lt_zero, if_false, if_true, Nat.le_refl, List.length_singleton, List.length_cons, List.length_nil, Bool.false_eq_true, not_true_eq_false, false_implies, not_false_eq_true, Prod.mk.injEq, refB_inj, refB_open, Subtype.forall, Subtype.exists, exists_prop, RCap, RC1_t, RC1_f]
  rintro ⟨n, r, c, e, m, w⟩ b ⟨hw, hb1, hb2⟩
  have hI : ∀ k, IntL (listN (n, k)) := hw.I
  have hJ : ∀ k, Ints (listN (n, k)) := fun k => listN_Ints (s := (n, k)) (by have := hw.n; simp only at this ⊢; omega)
  have hg : ∀ c e m w, giveS ⟨n, r, c, e, m, w⟩ b = ⟨n, r, c, e, m, drop1 n w b⟩ := fun _ _ _ _ => rfl
  have he : ∀ c e m w, giveErr ⟨n, r, c, e, m, w⟩ b = if b ∈ listN (n, w) then 0 else 2 := fun c e m w => by rw [giveErr, hasN_mem]; simp
  have hd : ∀ w, (listN (n, w)).filter (fun y => y != b) = listN (n, drop1 n w b) := fun w => ref_drop
  have hn : ∀ w, b ∉ listN (n, w) → drop1 n w b = w := fun w h => drop_no h
  simp only [hg, lC, lE, lM, lW, he, hd, hI, hJ, true_and]
  simp +contextual [hb1, hb2, hn]

theorem refDoV : (∀ (x : AllocT × Int), RefW x.1 ∧ I64 x.2 → Exx Unit fun y => refB x.1 = ((opR 0 x.1).o y).ob ∧ (∀ (g : Subtype (RCap x.1 true true true)), BC
 (decide (x.2 = (0 : Int))) (Exx Unit fun y => Exx (Subtype (RCap (doS x.1 x.2) true true true)) fun g_1 => Tr 1 (((38 : TypeId) = 38 ∧ Tr 1 ((↑x.1.n : Int) =
 (↑(doS x.1 x.2).n : Int)) ∧ Tr 1 (x.1.r = (doS x.1 x.2).r) ∧ (true = true ∧ NilNil ∧ (0 : Nat) = 0 ∧ (1 : Nat) = 1 ∧ (0 : Nat) = 0 ∧ (lC x.1).length = (lC (doS
 x.1 x.2)).length ∧ g.val.1 = g_1.val.1) ∧ (true = true ∧ NilNil ∧ (0 : Nat) = 0 ∧ (1 : Nat) = 1 ∧ (0 : Nat) = 0 ∧ (lC x.1).length = (lC (doS x.1 x.2)).length ∧
 g.val.1 = g_1.val.1) ∧ (true = true ∧ NilNil ∧ (0 : Nat) = 0 ∧ (1 : Nat) = 1 ∧ (0 : Nat) = 0 ∧ (lC x.1).length = (lC (doS x.1 x.2)).length ∧ g.val.1 =
 g_1.val.1) ∧ (true = true ∧ NilNil ∧ (0 : Nat) = 0 ∧ (1 : Nat) = 1 ∧ (0 : Nat) = 0 ∧ (lC x.1).length = (lC (doS x.1 x.2)).length ∧ g.val.1 = g_1.val.1) ∧ True)
 ∧ ((3 : TypeId) = 3 ∧ (1 : Nat) = 1 ∧ g.val.1 = g_1.val.1 ∧ (lC (doS x.1 x.2)).length ≤ (lC x.1).length ∧ ∀ (i : Nat), i < (lC (doS x.1 x.2)).length → [AV.int
 .i64 ((lC x.1).getD i 0)] = [AV.int .i64 ((lC (doS x.1 x.2)).getD i 0)]) ∧ True) ∧ (Tr 1 True ∧ refB (doS x.1 x.2) = refB (doS x.1 x.2) ∧ true = true ∧ True) ∧
 True) (BC (decide (x.2 = (1 : Int))) (Exx Unit fun y => Exx (Subtype (RCap (doS x.1 x.2) true true true)) fun g_1 => Tr 1 (((38 : TypeId) = 38 ∧ Tr 1 ((↑x.1.n :
 Int) = (↑(doS x.1 x.2).n : Int)) ∧ Tr 1 (x.1.r = (doS x.1 x.2).r) ∧ (true = true ∧ NilNil ∧ (0 : Nat) = 0 ∧ (1 : Nat) = 1 ∧ (0 : Nat) = 0 ∧ (lC x.1).length =
 (lC (doS x.1 x.2)).length ∧ g.val.1 = g_1.val.1) ∧ (true = true ∧ NilNil ∧ (0 : Nat) = 0 ∧ (1 : Nat) = 1 ∧ (0 : Nat) = 0 ∧ (lC x.1).length = (lC (doS x.1
 x.2)).length ∧ g.val.1 = g_1.val.1) ∧ (true = true ∧ NilNil ∧ (0 : Nat) = 0 ∧ (1 : Nat) = 1 ∧ (0 : Nat) = 0 ∧ (lC x.1).length = (lC (doS x.1 x.2)).length ∧
 g.val.1 = g_1.val.1) ∧ (true = true ∧ NilNil ∧ (0 : Nat) = 0 ∧ (1 : Nat) = 1 ∧ (0 : Nat) = 0 ∧ (lC x.1).length = (lC (doS x.1 x.2)).length ∧ g.val.1 =
 g_1.val.1) ∧ True) ∧ ((3 : TypeId) = 3 ∧ (1 : Nat) = 1 ∧ g.val.1 = g_1.val.1 ∧ (lC (doS x.1 x.2)).length ≤ (lC x.1).length ∧ ∀ (i : Nat), i < (lC (doS x.1
 x.2)).length → [AV.int .i64 ((lC x.1).getD i 0)] = [AV.int .i64 ((lC (doS x.1 x.2)).getD i 0)]) ∧ True) ∧ (Tr 1 True ∧ refB (doS x.1 x.2) = refB (doS x.1 x.2) ∧
 true = true ∧ True) ∧ True) (BC (decide (x.2 = (2 : Int))) (Exx Unit fun y => Exx (Subtype (RCap (doS x.1 x.2) true true true)) fun g_1 => Tr 1 (((38 : TypeId)
 = 38 ∧ Tr 1 ((↑x.1.n : Int) = (↑(doS x.1 x.2).n : Int)) ∧ Tr 1 (x.1.r = (doS x.1 x.2).r) ∧ (true = true ∧ NilNil ∧ (0 : Nat) = 0 ∧ (1 : Nat) = 1 ∧ (0 : Nat) = 0
 ∧ (lC x.1).length = (lC (doS x.1 x.2)).length ∧ g.val.1 = g_1.val.1) ∧ (true = true ∧ NilNil ∧ (0 : Nat) = 0 ∧ (1 : Nat) = 1 ∧ (0 : Nat) = 0 ∧ (lC x.1).length =
 (lC (doS x.1 x.2)).length ∧ g.val.1 = g_1.val.1) ∧ (true = true ∧ NilNil ∧ (0 : Nat) = 0 ∧ (1 : Nat) = 1 ∧ (0 : Nat) = 0 ∧ (lC x.1).length = (lC (doS x.1
 x.2)).length ∧ g.val.1 = g_1.val.1) ∧ (true = true ∧ NilNil ∧ (0 : Nat) = 0 ∧ (1 : Nat) = 1 ∧ (0 : Nat) = 0 ∧ (lC x.1).length = (lC (doS x.1 x.2)).length ∧
 g.val.1 = g_1.val.1) ∧ True) ∧ ((3 : TypeId) = 3 ∧ (1 : Nat) = 1 ∧ g.val.1 = g_1.val.1 ∧ (lC (doS x.1 x.2)).length ≤ (lC x.1).length ∧ ∀ (i : Nat), i < (lC (doS
 x.1 x.2)).length → [AV.int .i64 ((lC x.1).getD i 0)] = [AV.int .i64 ((lC (doS x.1 x.2)).getD i 0)]) ∧ True) ∧ (Tr 1 True ∧ refB (doS x.1 x.2) = refB (doS x.1
 x.2) ∧ true = true ∧ True) ∧ True) (BC (decide (x.2 = (3 : Int))) (Exx Unit fun y => Exx (Subtype (RCap (doS x.1 x.2) true true true)) fun g_1 => Tr 1 (((38 :
 TypeId) = 38 ∧ Tr 1 ((↑x.1.n : Int) = (↑(doS x.1 x.2).n : Int)) ∧ Tr 1 (x.1.r = (doS x.1 x.2).r) ∧ (true = true ∧ NilNil ∧ (0 : Nat) = 0 ∧ (1 : Nat) = 1 ∧ (0 :
 Nat) = 0 ∧ (lC x.1).length = (lC (doS x.1 x.2)).length ∧ g.val.1 = g_1.val.1) ∧ (true = true ∧ NilNil ∧ (0 : Nat) = 0 ∧ (1 : Nat) = 1 ∧ (0 : Nat) = 0 ∧ (lC
 x.1).length = (lC (doS x.1 x.2)).length ∧ g.val.1 = g_1.val.1) ∧ (true = true ∧ NilNil ∧ (0 : Nat) = 0 ∧ (1 : Nat) = 1 ∧ (0 : Nat) = 0 ∧ (lC x.1).length = (lC
 (doS x.1 x.2)).length ∧ g.val.1 = g_1.val.1) ∧ (true = true ∧ NilNil ∧ (0 : Nat) = 0 ∧ (1 : Nat) = 1 ∧ (0 : Nat) = 0 ∧ (lC x.1).length = (lC (doS x.1
 x.2)).length ∧ g.val.1 = g_1.val.1) ∧ True) ∧ ((3 : TypeId) = 3 ∧ (1 : Nat) = 1 ∧ g.val.1 = g_1.val.1 ∧ (lC (doS x.1 x.2)).length ≤ (lC x.1).length ∧ ∀ (i :
 Nat), i < (lC (doS x.1 x.2)).length → [AV.int .i64 ((lC x.1).getD i 0)] = [AV.int .i64 ((lC (doS x.1 x.2)).getD i 0)]) ∧ True) ∧ (Tr 1 True ∧ refB (doS x.1 x.2)
 = refB (doS x.1 x.2) ∧ true = true ∧ True) ∧ True) (Exx Unit fun y => Exx (Subtype (RCap (doS x.1 x.2) true true true)) fun g_1 => Tr 1 (((38 : TypeId) = 38 ∧
 Tr 1 ((↑x.1.n : Int) = (↑(doS x.1 x.2).n : Int)) ∧ Tr 1 (x.1.r = (doS x.1 x.2).r) ∧ (true = true ∧ NilNil ∧ (0 : Nat) = 0 ∧ (1 : Nat) = 1 ∧ (0 : Nat) = 0 ∧ (lC
 x.1).length = (lC (doS x.1 x.2)).length ∧ g.val.1 = g_1.val.1) ∧ (true = true ∧ NilNil ∧ (0 : Nat) = 0 ∧ (1 : Nat) = 1 ∧ (0 : Nat) = 0 ∧ (lC x.1).length = (lC
 (doS x.1 x.2)).length ∧ g.val.1 = g_1.val.1) ∧ (true = true ∧ NilNil ∧ (0 : Nat) = 0 ∧ (1 : Nat) = 1 ∧ (0 : Nat) = 0 ∧ (lC x.1).length = (lC (doS x.1
 x.2)).length ∧ g.val.1 = g_1.val.1) ∧ (true = true ∧ NilNil ∧ (0 : Nat) = 0 ∧ (1 : Nat) = 1 ∧ (0 : Nat) = 0 ∧ (lC x.1).length = (lC (doS x.1 x.2)).length ∧
 g.val.1 = g_1.val.1) ∧ True) ∧ ((3 : TypeId) = 3 ∧ (1 : Nat) = 1 ∧ g.val.1 = g_1.val.1 ∧ (lC (doS x.1 x.2)).length ≤ (lC x.1).length ∧ ∀ (i : Nat), i < (lC (doS
 x.1 x.2)).length → [AV.int .i64 ((lC x.1).getD i 0)] = [AV.int .i64 ((lC (doS x.1 x.2)).getD i 0)]) ∧ True) ∧ (Tr 1 True ∧ refB (doS x.1 x.2) = refB (doS x.1
 x.2) ∧ true = true ∧ True) ∧ True))))) ∧ (∀ (g : Subtype (RCap x.1 true true false)), BC (decide (x.2 = (0 : Int))) (Exx Unit fun y => Exx (Subtype (RCap (doS
 x.1 x.2) true false true)) fun g_1 => Tr 1 (((38 : TypeId) = 38 ∧ Tr 1 ((↑x.1.n : Int) = (↑(doS x.1 x.2).n : Int)) ∧ Tr 1 (x.1.r = (doS x.1 x.2).r) ∧ (true =
 true ∧ NilNil ∧ (0 : Nat) = 0 ∧ (1 : Nat) = 1 ∧ (0 : Nat) = 0 ∧ (lC x.1).length = (lC (doS x.1 x.2)).length ∧ g.val.1 = g_1.val.1) ∧ (true = true ∧ NilNil ∧ (0
 : Nat) = 0 ∧ (1 : Nat) = 1 ∧ (0 : Nat) = 0 ∧ (lC x.1).length = (lC (doS x.1 x.2)).length ∧ g.val.1 = g_1.val.1) ∧ (true = true ∧ NilNil ∧ (0 : Nat) = 0 ∧ (1 :
 Nat) = 1 ∧ (0 : Nat) = 0 ∧ (lW x.1).length = (lM (doS x.1 x.2)).length ∧ g.val.2.2.2 = g_1.val.2.2.1) ∧ (true = true ∧ NilNil ∧ (0 : Nat) = 0 ∧ (1 : Nat) = 1 ∧
 (0 : Nat) = 0 ∧ (lW x.1).length = (lM (doS x.1 x.2)).length ∧ g.val.2.2.2 = g_1.val.2.2.1) ∧ True) ∧ ((3 : TypeId) = 3 ∧ (1 : Nat) = 1 ∧ g.val.1 = g_1.val.1 ∧
 (lC (doS x.1 x.2)).length ≤ (lC x.1).length ∧ ∀ (i : Nat), i < (lC (doS x.1 x.2)).length → [AV.int .i64 ((lC x.1).getD i 0)] = [AV.int .i64 ((lC (doS x.1
 x.2)).getD i 0)]) ∧ ((3 : TypeId) = 3 ∧ (1 : Nat) = 1 ∧ g.val.2.2.2 = g_1.val.2.2.1 ∧ (lM (doS x.1 x.2)).length ≤ (lW x.1).length ∧ ∀ (i : Nat), i < (lM (doS
 x.1 x.2)).length → [AV.int .i64 ((lW x.1).getD i 0)] = [AV.int .i64 ((lM (doS x.1 x.2)).getD i 0)]) ∧ True) ∧ (Tr 1 True ∧ refB (doS x.1 x.2) = refB (doS x.1
 x.2) ∧ true = true ∧ True) ∧ True) (BC (decide (x.2 = (1 : Int))) (Exx Unit fun y => Exx (Subtype (RCap (doS x.1 x.2) true true true)) fun g_1 => Tr 1 (((38 :
 TypeId) = 38 ∧ Tr 1 ((↑x.1.n : Int) = (↑(doS x.1 x.2).n : Int)) ∧ Tr 1 (x.1.r = (doS x.1 x.2).r) ∧ (true = true ∧ NilNil ∧ (0 : Nat) = 0 ∧ (1 : Nat) = 1 ∧ (0 :
 Nat) = 0 ∧ (lC x.1).length = (lC (doS x.1 x.2)).length ∧ g.val.1 = g_1.val.1) ∧ (true = true ∧ NilNil ∧ (0 : Nat) = 0 ∧ (1 : Nat) = 1 ∧ (0 : Nat) = 0 ∧ (lC
 x.1).length = (lC (doS x.1 x.2)).length ∧ g.val.1 = g_1.val.1) ∧ (true = true ∧ NilNil ∧ (0 : Nat) = 0 ∧ (1 : Nat) = 1 ∧ (0 : Nat) = 0 ∧ (lC x.1).length = (lC
 (doS x.1 x.2)).length ∧ g.val.1 = g_1.val.1) ∧ (true = true ∧ NilNil ∧ (0 : Nat) = 0 ∧ (1 : Nat) = 1 ∧ (0 : Nat) = 0 ∧ (lC x.1).length = (lC (doS x.1
 x.2)).length ∧ g.val.1 = g_1.val.1) ∧ True) ∧ ((3 : TypeId) = 3 ∧ (1 : Nat) = 1 ∧ g.val.1 = g_1.val.1 ∧ (lC (doS x.1 x.2)).length ≤ (lC x.1).length ∧ ∀ (i :
 Nat), i < (lC (doS x.1 x.2)).length → [AV.int .i64 ((lC x.1).getD i 0)] = [AV.int .i64 ((lC (doS x.1 x.2)).getD i 0)]) ∧ True) ∧ (Tr 1 True ∧ refB (doS x.1 x.2)
 = refB (doS x.1 x.2) ∧ true = true ∧ True) ∧ True) (BC (decide (x.2 = (2 : Int))) (Exx Unit fun y => Exx (Subtype (RCap (doS x.1 x.2) false true true)) fun g_1
 => Tr 1 (((38 : TypeId) = 38 ∧ Tr 1 ((↑x.1.n : Int) = (↑(doS x.1 x.2).n : Int)) ∧ Tr 1 (x.1.r = (doS x.1 x.2).r) ∧ (true = true ∧ NilNil ∧ (0 : Nat) = 0 ∧ (1 :
 Nat) = 1 ∧ (0 : Nat) = 0 ∧ (lW x.1).length = (lC (doS x.1 x.2)).length ∧ g.val.2.2.2 = g_1.val.1) ∧ (true = true ∧ NilNil ∧ (0 : Nat) = 0 ∧ (1 : Nat) = 1 ∧ (0 :
 Nat) = 0 ∧ (lC x.1).length = (lE (doS x.1 x.2)).length ∧ g.val.1 = g_1.val.2.1) ∧ (true = true ∧ NilNil ∧ (0 : Nat) = 0 ∧ (1 : Nat) = 1 ∧ (0 : Nat) = 0 ∧ (lW
 x.1).length = (lC (doS x.1 x.2)).length ∧ g.val.2.2.2 = g_1.val.1) ∧ (true = true ∧ NilNil ∧ (0 : Nat) = 0 ∧ (1 : Nat) = 1 ∧ (0 : Nat) = 0 ∧ (lW x.1).length =
 (lC (doS x.1 x.2)).length ∧ g.val.2.2.2 = g_1.val.1) ∧ True) ∧ ((3 : TypeId) = 3 ∧ (1 : Nat) = 1 ∧ g.val.2.2.2 = g_1.val.1 ∧ (lC (doS x.1 x.2)).length ≤ (lW
 x.1).length ∧ ∀ (i : Nat), i < (lC (doS x.1 x.2)).length → [AV.int .i64 ((lW x.1).getD i 0)] = [AV.int .i64 ((lC (doS x.1 x.2)).getD i 0)]) ∧ ((3 : TypeId) = 3
 ∧ (1 : Nat) = 1 ∧ g.val.1 = g_1.val.2.1 ∧ (lE (doS x.1 x.2)).length ≤ (lC x.1).length ∧ ∀ (i : Nat), i < (lE (doS x.1 x.2)).length → [AV.int .i64 ((lC x.1).getD
 i 0)] = [AV.int .i64 ((lE (doS x.1 x.2)).getD i 0)]) ∧ True) ∧ (Tr 1 True ∧ refB (doS x.1 x.2) = refB (doS x.1 x.2) ∧ true = true ∧ True) ∧ True) (BC (decide
 (x.2 = (3 : Int))) (Exx Unit fun y => Exx (Subtype (RCap (doS x.1 x.2) true true true)) fun g_1 => Tr 1 (((38 : TypeId) = 38 ∧ Tr 1 ((↑x.1.n : Int) = (↑(doS x.1
 x.2).n : Int)) ∧ Tr 1 (x.1.r = (doS x.1 x.2).r) ∧ (true = true ∧ NilNil ∧ (0 : Nat) = 0 ∧ (1 : Nat) = 1 ∧ (0 : Nat) = 0 ∧ (lC x.1).length = (lC (doS x.1
 x.2)).length ∧ g.val.1 = g_1.val.1) ∧ (true = true ∧ NilNil ∧ (0 : Nat) = 0 ∧ (1 : Nat) = 1 ∧ (0 : Nat) = 0 ∧ (lC x.1).length = (lC (doS x.1 x.2)).length ∧
 g.val.1 = g_1.val.1) ∧ (true = true ∧ NilNil ∧ (0 : Nat) = 0 ∧ (1 : Nat) = 1 ∧ (0 : Nat) = 0 ∧ (lC x.1).length = (lC (doS x.1 x.2)).length ∧ g.val.1 =
 g_1.val.1) ∧ (true = true ∧ NilNil ∧ (0 : Nat) = 0 ∧ (1 : Nat) = 1 ∧ (0 : Nat) = 0 ∧ (lC x.1).length = (lC (doS x.1 x.2)).length ∧ g.val.1 = g_1.val.1) ∧ True)
 ∧ ((3 : TypeId) = 3 ∧ (1 : Nat) = 1 ∧ g.val.1 = g_1.val.1 ∧ (lC (doS x.1 x.2)).length ≤ (lC x.1).length ∧ ∀ (i : Nat), i < (lC (doS x.1 x.2)).length → [AV.int
 .i64 ((lC x.1).getD i 0)] = [AV.int .i64 ((lC (doS x.1 x.2)).getD i 0)]) ∧ True) ∧ (Tr 1 True ∧ refB (doS x.1 x.2) = refB (doS x.1 x.2) ∧ true = true ∧ True) ∧
 True) (Exx Unit fun y => Exx (Subtype (RCap (doS x.1 x.2) true true false)) fun g_1 => Tr 1 (((38 : TypeId) = 38 ∧ Tr 1 ((↑x.1.n : Int) = (↑(doS x.1 x.2).n :
 Int)) ∧ Tr 1 (x.1.r = (doS x.1 x.2).r) ∧ (true = true ∧ NilNil ∧ (0 : Nat) = 0 ∧ (1 : Nat) = 1 ∧ (0 : Nat) = 0 ∧ (lC x.1).length = (lC (doS x.1 x.2)).length ∧
 g.val.1 = g_1.val.1) ∧ (true = true ∧ NilNil ∧ (0 : Nat) = 0 ∧ (1 : Nat) = 1 ∧ (0 : Nat) = 0 ∧ (lC x.1).length = (lC (doS x.1 x.2)).length ∧ g.val.1 =
 g_1.val.1) ∧ (true = true ∧ NilNil ∧ (0 : Nat) = 0 ∧ (1 : Nat) = 1 ∧ (0 : Nat) = 0 ∧ (lC x.1).length = (lC (doS x.1 x.2)).length ∧ g.val.1 = g_1.val.1) ∧ (true
 = true ∧ NilNil ∧ (0 : Nat) = 0 ∧ (1 : Nat) = 1 ∧ (0 : Nat) = 0 ∧ (lW x.1).length = (lW (doS x.1 x.2)).length ∧ g.val.2.2.2 = g_1.val.2.2.2) ∧ True) ∧ ((3 :
 TypeId) = 3 ∧ (1 : Nat) = 1 ∧ g.val.1 = g_1.val.1 ∧ (lC (doS x.1 x.2)).length ≤ (lC x.1).length ∧ ∀ (i : Nat), i < (lC (doS x.1 x.2)).length → [AV.int .i64 ((lC
 x.1).getD i 0)] = [AV.int .i64 ((lC (doS x.1 x.2)).getD i 0)]) ∧ ((3 : TypeId) = 3 ∧ (1 : Nat) = 1 ∧ g.val.2.2.2 = g_1.val.2.2.2 ∧ (lW (doS x.1 x.2)).length ≤
 (lW x.1).length ∧ ∀ (i : Nat), i < (lW (doS x.1 x.2)).length → [AV.int .i64 ((lW x.1).getD i 0)] = [AV.int .i64 ((lW (doS x.1 x.2)).getD i 0)]) ∧ True) ∧ (Tr 1
 True ∧ refB (doS x.1 x.2) = refB (doS x.1 x.2) ∧ true = true ∧ True) ∧ True))))) ∧ (∀ (g : Subtype (RCap x.1 true false true)), BC (decide (x.2 = (0 : Int)))
 (Exx Unit fun y => Exx (Subtype (RCap (doS x.1 x.2) true false true)) fun g_1 => Tr 1 (((38 : TypeId) = 38 ∧ Tr 1 ((↑x.1.n : Int) = (↑(doS x.1 x.2).n : Int)) ∧
 Tr 1 (x.1.r = (doS x.1 x.2).r) ∧ (true = true ∧ NilNil ∧ (0 : Nat) = 0 ∧ (1 : Nat) = 1 ∧ (0 : Nat) = 0 ∧ (lC x.1).length = (lC (doS x.1 x.2)).length ∧ g.val.1 =
 g_1.val.1) ∧ (true = true ∧ NilNil ∧ (0 : Nat) = 0 ∧ (1 : Nat) = 1 ∧ (0 : Nat) = 0 ∧ (lC x.1).length = (lC (doS x.1 x.2)).length ∧ g.val.1 = g_1.val.1) ∧ (true
 = true ∧ NilNil ∧ (0 : Nat) = 0 ∧ (1 : Nat) = 1 ∧ (0 : Nat) = 0 ∧ (lM x.1).length = (lM (doS x.1 x.2)).length ∧ g.val.2.2.1 = g_1.val.2.2.1) ∧ (true = true ∧
 NilNil ∧ (0 : Nat) = 0 ∧ (1 : Nat) = 1 ∧ (0 : Nat) = 0 ∧ (lM x.1).length = (lM (doS x.1 x.2)).length ∧ g.val.2.2.1 = g_1.val.2.2.1) ∧ True) ∧ ((3 : TypeId) = 3
 ∧ (1 : Nat) = 1 ∧ g.val.1 = g_1.val.1 ∧ (lC (doS x.1 x.2)).length ≤ (lC x.1).length ∧ ∀ (i : Nat), i < (lC (doS x.1 x.2)).length → [AV.int .i64 ((lC x.1).getD i
 0)] = [AV.int .i64 ((lC (doS x.1 x.2)).getD i 0)]) ∧ ((3 : TypeId) = 3 ∧ (1 : Nat) = 1 ∧ g.val.2.2.1 = g_1.val.2.2.1 ∧ (lM (doS x.1 x.2)).length ≤ (lM
 x.1).length ∧ ∀ (i : Nat), i < (lM (doS x.1 x.2)).length → [AV.int .i64 ((lM x.1).getD i 0)] = [AV.int .i64 ((lM (doS x.1 x.2)).getD i 0)]) ∧ True) ∧ (Tr 1 True
 ∧ refB (doS x.1 x.2) = refB (doS x.1 x.2) ∧ true = true ∧ True) ∧ True) (BC (decide (x.2 = (1 : Int))) (Exx Unit fun y => Exx (Subtype (RCap (doS x.1 x.2) true
 false true)) fun g_1 => Tr 1 (((38 : TypeId) = 38 ∧ Tr 1 ((↑x.1.n : Int) = (↑(doS x.1 x.2).n : Int)) ∧ Tr 1 (x.1.r = (doS x.1 x.2).r) ∧ (true = true ∧ NilNil ∧
 (0 : Nat) = 0 ∧ (1 : Nat) = 1 ∧ (0 : Nat) = 0 ∧ (lC x.1).length = (lC (doS x.1 x.2)).length ∧ g.val.1 = g_1.val.1) ∧ (true = true ∧ NilNil ∧ (0 : Nat) = 0 ∧ (1
 : Nat) = 1 ∧ (0 : Nat) = 0 ∧ (lC x.1).length = (lC (doS x.1 x.2)).length ∧ g.val.1 = g_1.val.1) ∧ (true = true ∧ NilNil ∧ (0 : Nat) = 0 ∧ (1 : Nat) = 1 ∧ (0 :
 Nat) = 0 ∧ (lM x.1).length = (lM (doS x.1 x.2)).length ∧ g.val.2.2.1 = g_1.val.2.2.1) ∧ (true = true ∧ NilNil ∧ (0 : Nat) = 0 ∧ (1 : Nat) = 1 ∧ (0 : Nat) = 0 ∧
 (lM x.1).length = (lM (doS x.1 x.2)).length ∧ g.val.2.2.1 = g_1.val.2.2.1) ∧ True) ∧ ((3 : TypeId) = 3 ∧ (1 : Nat) = 1 ∧ g.val.1 = g_1.val.1 ∧ (lC (doS x.1
 x.2)).length ≤ (lC x.1).length ∧ ∀ (i : Nat), i < (lC (doS x.1 x.2)).length → [AV.int .i64 ((lC x.1).getD i 0)] = [AV.int .i64 ((lC (doS x.1 x.2)).getD i 0)]) ∧
 ((3 : TypeId) = 3 ∧ (1 : Nat) = 1 ∧ g.val.2.2.1 = g_1.val.2.2.1 ∧ (lM (doS x.1 x.2)).length ≤ (lM x.1).length ∧ ∀ (i : Nat), i < (lM (doS x.1 x.2)).length →
 [AV.int .i64 ((lM x.1).getD i 0)] = [AV.int .i64 ((lM (doS x.1 x.2)).getD i 0)]) ∧ True) ∧ (Tr 1 True ∧ refB (doS x.1 x.2) = refB (doS x.1 x.2) ∧ true = true ∧
 True) ∧ True) (BC (decide (x.2 = (2 : Int))) (Exx Unit fun y => Exx (Subtype (RCap (doS x.1 x.2) false true true)) fun g_1 => Tr 1 (((38 : TypeId) = 38 ∧ Tr 1
 ((↑x.1.n : Int) = (↑(doS x.1 x.2).n : Int)) ∧ Tr 1 (x.1.r = (doS x.1 x.2).r) ∧ (true = true ∧ NilNil ∧ (0 : Nat) = 0 ∧ (1 : Nat) = 1 ∧ (0 : Nat) = 0 ∧ (lM
 x.1).length = (lC (doS x.1 x.2)).length ∧ g.val.2.2.1 = g_1.val.1) ∧ (true = true ∧ NilNil ∧ (0 : Nat) = 0 ∧ (1 : Nat) = 1 ∧ (0 : Nat) = 0 ∧ (lC x.1).length =
 (lE (doS x.1 x.2)).length ∧ g.val.1 = g_1.val.2.1) ∧ (true = true ∧ NilNil ∧ (0 : Nat) = 0 ∧ (1 : Nat) = 1 ∧ (0 : Nat) = 0 ∧ (lM x.1).length = (lC (doS x.1
 x.2)).length ∧ g.val.2.2.1 = g_1.val.1) ∧ (true = true ∧ NilNil ∧ (0 : Nat) = 0 ∧ (1 : Nat) = 1 ∧ (0 : Nat) = 0 ∧ (lM x.1).length = (lC (doS x.1 x.2)).length ∧
 g.val.2.2.1 = g_1.val.1) ∧ True) ∧ ((3 : TypeId) = 3 ∧ (1 : Nat) = 1 ∧ g.val.2.2.1 = g_1.val.1 ∧ (lC (doS x.1 x.2)).length ≤ (lM x.1).length ∧ ∀ (i : Nat), i <
 (lC (doS x.1 x.2)).length → [AV.int .i64 ((lM x.1).getD i 0)] = [AV.int .i64 ((lC (doS x.1 x.2)).getD i 0)]) ∧ ((3 : TypeId) = 3 ∧ (1 : Nat) = 1 ∧ g.val.1 =
 g_1.val.2.1 ∧ (lE (doS x.1 x.2)).length ≤ (lC x.1).length ∧ ∀ (i : Nat), i < (lE (doS x.1 x.2)).length → [AV.int .i64 ((lC x.1).getD i 0)] = [AV.int .i64 ((lE
 (doS x.1 x.2)).getD i 0)]) ∧ True) ∧ (Tr 1 True ∧ refB (doS x.1 x.2) = refB (doS x.1 x.2) ∧ true = true ∧ True) ∧ True) (BC (decide (x.2 = (3 : Int))) (Exx Unit
 fun y => Exx (Subtype (RCap (doS x.1 x.2) true true true)) fun g_1 => Tr 1 (((38 : TypeId) = 38 ∧ Tr 1 ((↑x.1.n : Int) = (↑(doS x.1 x.2).n : Int)) ∧ Tr 1 (x.1.r
 = (doS x.1 x.2).r) ∧ (true = true ∧ NilNil ∧ (0 : Nat) = 0 ∧ (1 : Nat) = 1 ∧ (0 : Nat) = 0 ∧ (lC x.1).length = (lC (doS x.1 x.2)).length ∧ g.val.1 = g_1.val.1)
 ∧ (true = true ∧ NilNil ∧ (0 : Nat) = 0 ∧ (1 : Nat) = 1 ∧ (0 : Nat) = 0 ∧ (lC x.1).length = (lC (doS x.1 x.2)).length ∧ g.val.1 = g_1.val.1) ∧ (true = true ∧
 NilNil ∧ (0 : Nat) = 0 ∧ (1 : Nat) = 1 ∧ (0 : Nat) = 0 ∧ (lC x.1).length = (lC (doS x.1 x.2)).length ∧ g.val.1 = g_1.val.1) ∧ (true = true ∧ NilNil ∧ (0 : Nat)
 = 0 ∧ (1 : Nat) = 1 ∧ (0 : Nat) = 0 ∧ (lC x.1).length = (lC (doS x.1 x.2)).length ∧ g.val.1 = g_1.val.1) ∧ True) ∧ ((3 : TypeId) = 3 ∧ (1 : Nat) = 1 ∧ g.val.1 =
 g_1.val.1 ∧ (lC (doS x.1 x.2)).length ≤ (lC x.1).length ∧ ∀ (i : Nat), i < (lC (doS x.1 x.2)).length → [AV.int .i64 ((lC x.1).getD i 0)] = [AV.int .i64 ((lC
 (doS x.1 x.2)).getD i 0)]) ∧ True) ∧ (Tr 1 True ∧ refB (doS x.1 x.2) = refB (doS x.1 x.2) ∧ true = true ∧ True) ∧ True) (Exx Unit fun y => Exx (Subtype (RCap
 (doS x.1 x.2) true false true)) fun g_1 => Tr 1 (((38 : TypeId) = 38 ∧ Tr 1 ((↑x.1.n : Int) = (↑(doS x.1 x.2).n : Int)) ∧ Tr 1 (x.1.r = (doS x.1 x.2).r) ∧ (true
 = true ∧ NilNil ∧ (0 : Nat) = 0 ∧ (1 : Nat) = 1 ∧ (0 : Nat) = 0 ∧ (lC x.1).length = (lC (doS x.1 x.2)).length ∧ g.val.1 = g_1.val.1) ∧ (true = true ∧ NilNil ∧
 (0 : Nat) = 0 ∧ (1 : Nat) = 1 ∧ (0 : Nat) = 0 ∧ (lC x.1).length = (lC (doS x.1 x.2)).length ∧ g.val.1 = g_1.val.1) ∧ (true = true ∧ NilNil ∧ (0 : Nat) = 0 ∧ (1
 : Nat) = 1 ∧ (0 : Nat) = 0 ∧ (lM x.1).length = (lM (doS x.1 x.2)).length ∧ g.val.2.2.1 = g_1.val.2.2.1) ∧ (true = true ∧ NilNil ∧ (0 : Nat) = 0 ∧ (1 : Nat) = 1
 ∧ (0 : Nat) = 0 ∧ (lM x.1).length = (lM (doS x.1 x.2)).length ∧ g.val.2.2.1 = g_1.val.2.2.1) ∧ True) ∧ ((3 : TypeId) = 3 ∧ (1 : Nat) = 1 ∧ g.val.1 = g_1.val.1 ∧
 (lC (doS x.1 x.2)).length ≤ (lC x.1).length ∧ ∀ (i : Nat), i < (lC (doS x.1 x.2)).length → [AV.int .i64 ((lC x.1).getD i 0)] = [AV.int .i64 ((lC (doS x.1
 x.2)).getD i 0)]) ∧ ((3 : TypeId) = 3 ∧ (1 : Nat) = 1 ∧ g.val.2.2.1 = g_1.val.2.2.1 ∧ (lM (doS x.1 x.2)).length ≤ (lM x.1).length ∧ ∀ (i : Nat), i < (lM (doS
 x.1 x.2)).length → [AV.int .i64 ((lM x.1).getD i 0)] = [AV.int .i64 ((lM (doS x.1 x.2)).getD i 0)]) ∧ True) ∧ (Tr 1 True ∧ refB (doS x.1 x.2) = refB (doS x.1
 x.2) ∧ true = true ∧ True) ∧ True))))) ∧ (∀ (g : Subtype (RCap x.1 true false false)), BC (decide (x.2 = (0 : Int))) (Exx Unit fun y => Exx (Subtype (RCap (doS
 x.1 x.2) true false true)) fun g_1 => Tr 1 (((38 : TypeId) = 38 ∧ Tr 1 ((↑x.1.n : Int) = (↑(doS x.1 x.2).n : Int)) ∧ Tr 1 (x.1.r = (doS x.1 x.2).r) ∧ (true =
 true ∧ NilNil ∧ (0 : Nat) = 0 ∧ (1 : Nat) = 1 ∧ (0 : Nat) = 0 ∧ (lC x.1).length = (lC (doS x.1 x.2)).length ∧ g.val.1 = g_1.val.1) ∧ (true = true ∧ NilNil ∧ (0
 : Nat) = 0 ∧ (1 : Nat) = 1 ∧ (0 : Nat) = 0 ∧ (lC x.1).length = (lC (doS x.1 x.2)).length ∧ g.val.1 = g_1.val.1) ∧ (true = true ∧ NilNil ∧ (0 : Nat) = 0 ∧ (1 :
 Nat) = 1 ∧ (0 : Nat) = 0 ∧ (lW x.1).length = (lM (doS x.1 x.2)).length ∧ g.val.2.2.2 = g_1.val.2.2.1) ∧ (true = true ∧ NilNil ∧ (0 : Nat) = 0 ∧ (1 : Nat) = 1 ∧
 (0 : Nat) = 0 ∧ (lW x.1).length = (lM (doS x.1 x.2)).length ∧ g.val.2.2.2 = g_1.val.2.2.1) ∧ True) ∧ ((3 : TypeId) = 3 ∧ (1 : Nat) = 1 ∧ g.val.1 = g_1.val.1 ∧
 (lC (doS x.1 x.2)).length ≤ (lC x.1).length ∧ ∀ (i : Nat), i < (lC (doS x.1 x.2)).length → [AV.int .i64 ((lC x.1).getD i 0)] = [AV.int .i64 ((lC (doS x.1
 x.2)).getD i 0)]) ∧ ((3 : TypeId) = 3 ∧ (1 : Nat) = 1 ∧ g.val.2.2.2 = g_1.val.2.2.1 ∧ (lM (doS x.1 x.2)).length ≤ (lW x.1).length ∧ ∀ (i : Nat), i < (lM (doS
 x.1 x.2)).length → [AV.int .i64 ((lW x.1).getD i 0)] = [AV.int .i64 ((lM (doS x.1 x.2)).getD i 0)]) ∧ True) ∧ (Tr 1 True ∧ refB (doS x.1 x.2) = refB (doS x.1
 x.2) ∧ true = true ∧ True) ∧ True) (BC (decide (x.2 = (1 : Int))) (Exx Unit fun y => Exx (Subtype (RCap (doS x.1 x.2) true false true)) fun g_1 => Tr 1 (((38 :
 TypeId) = 38 ∧ Tr 1 ((↑x.1.n : Int) = (↑(doS x.1 x.2).n : Int)) ∧ Tr 1 (x.1.r = (doS x.1 x.2).r) ∧ (true = true ∧ NilNil ∧ (0 : Nat) = 0 ∧ (1 : Nat) = 1 ∧ (0 :
 Nat) = 0 ∧ (lC x.1).length = (lC (doS x.1 x.2)).length ∧ g.val.1 = g_1.val.1) ∧ (true = true ∧ NilNil ∧ (0 : Nat) = 0 ∧ (1 : Nat) = 1 ∧ (0 : Nat) = 0 ∧ (lC
 x.1).length = (lC (doS x.1 x.2)).length ∧ g.val.1 = g_1.val.1) ∧ (true = true ∧ NilNil ∧ (0 : Nat) = 0 ∧ (1 : Nat) = 1 ∧ (0 : Nat) = 0 ∧ (lM x.1).length = (lM
 (doS x.1 x.2)).length ∧ g.val.2.2.1 = g_1.val.2.2.1) ∧ (true = true ∧ NilNil ∧ (0 : Nat) = 0 ∧ (1 : Nat) = 1 ∧ (0 : Nat) = 0 ∧ (lM x.1).length = (lM (doS x.1
 x.2)).length ∧ g.val.2.2.1 = g_1.val.2.2.1) ∧ True) ∧ ((3 : TypeId) = 3 ∧ (1 : Nat) = 1 ∧ g.val.1 = g_1.val.1 ∧ (lC (doS x.1 x.2)).length ≤ (lC x.1).length ∧ ∀
 (i : Nat), i < (lC (doS x.1 x.2)).length → [AV.int .i64 ((lC x.1).getD i 0)] = [AV.int .i64 ((lC (doS x.1 x.2)).getD i 0)]) ∧ ((3 : TypeId) = 3 ∧ (1 : Nat) = 1
 ∧ g.val.2.2.1 = g_1.val.2.2.1 ∧ (lM (doS x.1 x.2)).length ≤ (lM x.1).length ∧ ∀ (i : Nat), i < (lM (doS x.1 x.2)).length → [AV.int .i64 ((lM x.1).getD i 0)] =
 [AV.int .i64 ((lM (doS x.1 x.2)).getD i 0)]) ∧ True) ∧ (Tr 1 True ∧ refB (doS x.1 x.2) = refB (doS x.1 x.2) ∧ true = true ∧ True) ∧ True) (BC (decide (x.2 = (2
 : Int))) (Exx Unit fun y => Exx (Subtype (RCap (doS x.1 x.2) false true true)) fun g_1 => Tr 1 (((38 : TypeId) = 38 ∧ Tr 1 ((↑x.1.n : Int) = (↑(doS x.1 x.2).n :
 Int)) ∧ Tr 1 (x.1.r = (doS x.1 x.2).r) ∧ (true = true ∧ NilNil ∧ (0 : Nat) = 0 ∧ (1 : Nat) = 1 ∧ (0 : Nat) = 0 ∧ (lW x.1).length = (lC (doS x.1 x.2)).length ∧
 g.val.2.2.2 = g_1.val.1) ∧ (true = true ∧ NilNil ∧ (0 : Nat) = 0 ∧ (1 : Nat) = 1 ∧ (0 : Nat) = 0 ∧ (lC x.1).length = (lE (doS x.1 x.2)).length ∧ g.val.1 =
 g_1.val.2.1) ∧ (true = true ∧ NilNil ∧ (0 : Nat) = 0 ∧ (1 : Nat) = 1 ∧ (0 : Nat) = 0 ∧ (lW x.1).length = (lC (doS x.1 x.2)).length ∧ g.val.2.2.2 = g_1.val.1) ∧
 (true = true ∧ NilNil ∧ (0 : Nat) = 0 ∧ (1 : Nat) = 1 ∧ (0 : Nat) = 0 ∧ (lW x.1).length = (lC (doS x.1 x.2)).length ∧ g.val.2.2.2 = g_1.val.1) ∧ True) ∧ ((3 :
 TypeId) = 3 ∧ (1 : Nat) = 1 ∧ g.val.2.2.2 = g_1.val.1 ∧ (lC (doS x.1 x.2)).length ≤ (lW x.1).length ∧ ∀ (i : Nat), i < (lC (doS x.1 x.2)).length → [AV.int .i64
 ((lW x.1).getD i 0)] = [AV.int .i64 ((lC (doS x.1 x.2)).getD i 0)]) ∧ ((3 : TypeId) = 3 ∧ (1 : Nat) = 1 ∧ g.val.1 = g_1.val.2.1 ∧ (lE (doS x.1 x.2)).length ≤
 (lC x.1).length ∧ ∀ (i : Nat), i < (lE (doS x.1 x.2)).length → [AV.int .i64 ((lC x.1).getD i 0)] = [AV.int .i64 ((lE (doS x.1 x.2)).getD i 0)]) ∧ True) ∧ (Tr 1
 True ∧ refB (doS x.1 x.2) = refB (doS x.1 x.2) ∧ true = true ∧ True) ∧ True) (BC (decide (x.2 = (3 : Int))) (Exx Unit fun y => Exx (Subtype (RCap (doS x.1 x.2)
 true true true)) fun g_1 => Tr 1 (((38 : TypeId) = 38 ∧ Tr 1 ((↑x.1.n : Int) = (↑(doS x.1 x.2).n : Int)) ∧ Tr 1 (x.1.r = (doS x.1 x.2).r) ∧ (true = true ∧
 NilNil ∧ (0 : Nat) = 0 ∧ (1 : Nat) = 1 ∧ (0 : Nat) = 0 ∧ (lC x.1).length = (lC (doS x.1 x.2)).length ∧ g.val.1 = g_1.val.1) ∧ (true = true ∧ NilNil ∧ (0 : Nat)
 = 0 ∧ (1 : Nat) = 1 ∧ (0 : Nat) = 0 ∧ (lC x.1).length = (lC (doS x.1 x.2)).length ∧ g.val.1 = g_1.val.1) ∧ (true = true ∧ NilNil ∧ (0 : Nat) = 0 ∧ (1 : Nat) = 1
 ∧ (0 : Nat) = 0 ∧ (lC x.1).length = (lC (doS x.1 x.2)).length ∧ g.val.1 = g_1.val.1) ∧ (true = true ∧ NilNil ∧ (0 : Nat) = 0 ∧ (1 : Nat) = 1 ∧ (0 : Nat) = 0 ∧
 (lC x.1).length = (lC (doS x.1 x.2)).length ∧ g.val.1 = g_1.val.1) ∧ True) ∧ ((3 : TypeId) = 3 ∧ (1 : Nat) = 1 ∧ g.val.1 = g_1.val.1 ∧ (lC (doS x.1 x.2)).length
 ≤ (lC x.1).length ∧ ∀ (i : Nat), i < (lC (doS x.1 x.2)).length → [AV.int .i64 ((lC x.1).getD i 0)] = [AV.int .i64 ((lC (doS x.1 x.2)).getD i 0)]) ∧ True) ∧ (Tr
 1 True ∧ refB (doS x.1 x.2) = refB (doS x.1 x.2) ∧ true = true ∧ True) ∧ True) (Exx Unit fun y => Exx (Subtype (RCap (doS x.1 x.2) true false false)) fun g_1 =>
 Tr 1 (((38 : TypeId) = 38 ∧ Tr 1 ((↑x.1.n : Int) = (↑(doS x.1 x.2).n : Int)) ∧ Tr 1 (x.1.r = (doS x.1 x.2).r) ∧ (true = true ∧ NilNil ∧ (0 : Nat) = 0 ∧ (1 :
 Nat) = 1 ∧ (0 : Nat) = 0 ∧ (lC x.1).length = (lC (doS x.1 x.2)).length ∧ g.val.1 = g_1.val.1) ∧ (true = true ∧ NilNil ∧ (0 : Nat) = 0 ∧ (1 : Nat) = 1 ∧ (0 :
 Nat) = 0 ∧ (lC x.1).length = (lC (doS x.1 x.2)).length ∧ g.val.1 = g_1.val.1) ∧ (true = true ∧ NilNil ∧ (0 : Nat) = 0 ∧ (1 : Nat) = 1 ∧ (0 : Nat) = 0 ∧ (lM
 x.1).length = (lM (doS x.1 x.2)).length ∧ g.val.2.2.1 = g_1.val.2.2.1) ∧ (true = true ∧ NilNil ∧ (0 : Nat) = 0 ∧ (1 : Nat) = 1 ∧ (0 : Nat) = 0 ∧ (lW x.1).length
 = (lW (doS x.1 x.2)).length ∧ g.val.2.2.2 = g_1.val.2.2.2) ∧ True) ∧ ((3 : TypeId) = 3 ∧ (1 : Nat) = 1 ∧ g.val.1 = g_1.val.1 ∧ (lC (doS x.1 x.2)).length ≤ (lC
 x.1).length ∧ ∀ (i : Nat), i < (lC (doS x.1 x.2)).length → [AV.int .i64 ((lC x.1).getD i 0)] = [AV.int .i64 ((lC (doS x.1 x.2)).getD i 0)]) ∧ ((3 : TypeId) = 3
 ∧ (1 : Nat) = 1 ∧ g.val.2.2.1 = g_1.val.2.2.1 ∧ (lM (doS x.1 x.2)).length ≤ (lM x.1).length ∧ ∀ (i : Nat), i < (lM (doS x.1 x.2)).length → [AV.int .i64 ((lM
 x.1).getD i 0)] = [AV.int .i64 ((lM (doS x.1 x.2)).getD i 0)]) ∧ ((3 : TypeId) = 3 ∧ (1 : Nat) = 1 ∧ g.val.2.2.2 = g_1.val.2.2.2 ∧ (lW (doS x.1 x.2)).length ≤
 (lW x.1).length ∧ ∀ (i : Nat), i < (lW (doS x.1 x.2)).length → [AV.int .i64 ((lW x.1).getD i 0)] = [AV.int .i64 ((lW (doS x.1 x.2)).getD i 0)]) ∧ True) ∧ (Tr 1
 True ∧ refB (doS x.1 x.2) = refB (doS x.1 x.2) ∧ true = true ∧ True) ∧ True))))) ∧ (∀ (g : Subtype (RCap x.1 false true true)), BC (decide (x.2 = (0 : Int)))
 (Exx Unit fun y => Exx (Subtype (RCap (doS x.1 x.2) false true true)) fun g_1 => Tr 1 (((38 : TypeId) = 38 ∧ Tr 1 ((↑x.1.n : Int) = (↑(doS x.1 x.2).n : Int)) ∧
 Tr 1 (x.1.r = (doS x.1 x.2).r) ∧ (true = true ∧ NilNil ∧ (0 : Nat) = 0 ∧ (1 : Nat) = 1 ∧ (0 : Nat) = 0 ∧ (lC x.1).length = (lC (doS x.1 x.2)).length ∧ g.val.1 =
 g_1.val.1) ∧ (true = true ∧ NilNil ∧ (0 : Nat) = 0 ∧ (1 : Nat) = 1 ∧ (0 : Nat) = 0 ∧ (lE x.1).length = (lE (doS x.1 x.2)).length ∧ g.val.2.1 = g_1.val.2.1) ∧
 (true = true ∧ NilNil ∧ (0 : Nat) = 0 ∧ (1 : Nat) = 1 ∧ (0 : Nat) = 0 ∧ (lC x.1).length = (lC (doS x.1 x.2)).length ∧ g.val.1 = g_1.val.1) ∧ (true = true ∧
 NilNil ∧ (0 : Nat) = 0 ∧ (1 : Nat) = 1 ∧ (0 : Nat) = 0 ∧ (lC x.1).length = (lC (doS x.1 x.2)).length ∧ g.val.1 = g_1.val.1) ∧ True) ∧ ((3 : TypeId) = 3 ∧ (1 :
 Nat) = 1 ∧ g.val.1 = g_1.val.1 ∧ (lC (doS x.1 x.2)).length ≤ (lC x.1).length ∧ ∀ (i : Nat), i < (lC (doS x.1 x.2)).length → [AV.int .i64 ((lC x.1).getD i 0)] =
 [AV.int .i64 ((lC (doS x.1 x.2)).getD i 0)]) ∧ ((3 : TypeId) = 3 ∧ (1 : Nat) = 1 ∧ g.val.2.1 = g_1.val.2.1 ∧ (lE (doS x.1 x.2)).length ≤ (lE x.1).length ∧ ∀ (i
 : Nat), i < (lE (doS x.1 x.2)).length → [AV.int .i64 ((lE x.1).getD i 0)] = [AV.int .i64 ((lE (doS x.1 x.2)).getD i 0)]) ∧ True) ∧ (Tr 1 True ∧ refB (doS x.1
 x.2) = refB (doS x.1 x.2) ∧ true = true ∧ True) ∧ True) (BC (decide (x.2 = (1 : Int))) (Exx Unit fun y => Exx (Subtype (RCap (doS x.1 x.2) false true true)) fun
 g_1 => Tr 1 (((38 : TypeId) = 38 ∧ Tr 1 ((↑x.1.n : Int) = (↑(doS x.1 x.2).n : Int)) ∧ Tr 1 (x.1.r = (doS x.1 x.2).r) ∧ (true = true ∧ NilNil ∧ (0 : Nat) = 0 ∧
 (1 : Nat) = 1 ∧ (0 : Nat) = 0 ∧ (lC x.1).length = (lC (doS x.1 x.2)).length ∧ g.val.1 = g_1.val.1) ∧ (true = true ∧ NilNil ∧ (0 : Nat) = 0 ∧ (1 : Nat) = 1 ∧ (0
 : Nat) = 0 ∧ (lE x.1).length = (lE (doS x.1 x.2)).length ∧ g.val.2.1 = g_1.val.2.1) ∧ (true = true ∧ NilNil ∧ (0 : Nat) = 0 ∧ (1 : Nat) = 1 ∧ (0 : Nat) = 0 ∧
 (lC x.1).length = (lC (doS x.1 x.2)).length ∧ g.val.1 = g_1.val.1) ∧ (true = true ∧ NilNil ∧ (0 : Nat) = 0 ∧ (1 : Nat) = 1 ∧ (0 : Nat) = 0 ∧ (lC x.1).length =
 (lC (doS x.1 x.2)).length ∧ g.val.1 = g_1.val.1) ∧ True) ∧ ((3 : TypeId) = 3 ∧ (1 : Nat) = 1 ∧ g.val.1 = g_1.val.1 ∧ (lC (doS x.1 x.2)).length ≤ (lC x.1).length
 ∧ ∀ (i : Nat), i < (lC (doS x.1 x.2)).length → [AV.int .i64 ((lC x.1).getD i 0)] = [AV.int .i64 ((lC (doS x.1 x.2)).getD i 0)]) ∧ ((3 : TypeId) = 3 ∧ (1 : Nat)
 = 1 ∧ g.val.2.1 = g_1.val.2.1 ∧ (lE (doS x.1 x.2)).length ≤ (lE x.1).length ∧ ∀ (i : Nat), i < (lE (doS x.1 x.2)).length → [AV.int .i64 ((lE x.1).getD i 0)] =
 [AV.int .i64 ((lE (doS x.1 x.2)).getD i 0)]) ∧ True) ∧ (Tr 1 True ∧ refB (doS x.1 x.2) = refB (doS x.1 x.2) ∧ true = true ∧ True) ∧ True) (BC (decide (x.2 = (2
 : Int))) (Exx Unit fun y => Exx (Subtype (RCap (doS x.1 x.2) true true true)) fun g_1 => Tr 1 (((38 : TypeId) = 38 ∧ Tr 1 ((↑x.1.n : Int) = (↑(doS x.1 x.2).n :
 Int)) ∧ Tr 1 (x.1.r = (doS x.1 x.2).r) ∧ (true = true ∧ NilNil ∧ (0 : Nat) = 0 ∧ (1 : Nat) = 1 ∧ (0 : Nat) = 0 ∧ (lC x.1).length = (lC (doS x.1 x.2)).length ∧
 g.val.1 = g_1.val.1) ∧ (true = true ∧ NilNil ∧ (0 : Nat) = 0 ∧ (1 : Nat) = 1 ∧ (0 : Nat) = 0 ∧ (lC x.1).length = (lC (doS x.1 x.2)).length ∧ g.val.1 =
 g_1.val.1) ∧ (true = true ∧ NilNil ∧ (0 : Nat) = 0 ∧ (1 : Nat) = 1 ∧ (0 : Nat) = 0 ∧ (lC x.1).length = (lC (doS x.1 x.2)).length ∧ g.val.1 = g_1.val.1) ∧ (true
 = true ∧ NilNil ∧ (0 : Nat) = 0 ∧ (1 : Nat) = 1 ∧ (0 : Nat) = 0 ∧ (lC x.1).length = (lC (doS x.1 x.2)).length ∧ g.val.1 = g_1.val.1) ∧ True) ∧ ((3 : TypeId) = 3
 ∧ (1 : Nat) = 1 ∧ g.val.1 = g_1.val.1 ∧ (lC (doS x.1 x.2)).length ≤ (lC x.1).length ∧ ∀ (i : Nat), i < (lC (doS x.1 x.2)).length → [AV.int .i64 ((lC x.1).getD i
 0)] = [AV.int .i64 ((lC (doS x.1 x.2)).getD i 0)]) ∧ True) ∧ (Tr 1 True ∧ refB (doS x.1 x.2) = refB (doS x.1 x.2) ∧ true = true ∧ True) ∧ True) (BC (decide (x.2
 = (3 : Int))) (Exx Unit fun y => Exx (Subtype (RCap (doS x.1 x.2) false true true)) fun g_1 => Tr 1 (((38 : TypeId) = 38 ∧ Tr 1 ((↑x.1.n : Int) = (↑(doS x.1
 x.2).n : Int)) ∧ Tr 1 (x.1.r = (doS x.1 x.2).r) ∧ (true = true ∧ NilNil ∧ (0 : Nat) = 0 ∧ (1 : Nat) = 1 ∧ (0 : Nat) = 0 ∧ (lC x.1).length = (lC (doS x.1
 x.2)).length ∧ g.val.1 = g_1.val.1) ∧ (true = true ∧ NilNil ∧ (0 : Nat) = 0 ∧ (1 : Nat) = 1 ∧ (0 : Nat) = 0 ∧ (lE x.1).length = (lE (doS x.1 x.2)).length ∧
 g.val.2.1 = g_1.val.2.1) ∧ (true = true ∧ NilNil ∧ (0 : Nat) = 0 ∧ (1 : Nat) = 1 ∧ (0 : Nat) = 0 ∧ (lC x.1).length = (lC (doS x.1 x.2)).length ∧ g.val.1 =
 g_1.val.1) ∧ (true = true ∧ NilNil ∧ (0 : Nat) = 0 ∧ (1 : Nat) = 1 ∧ (0 : Nat) = 0 ∧ (lC x.1).length = (lC (doS x.1 x.2)).length ∧ g.val.1 = g_1.val.1) ∧ True)
 ∧ ((3 : TypeId) = 3 ∧ (1 : Nat) = 1 ∧ g.val.1 = g_1.val.1 ∧ (lC (doS x.1 x.2)).length ≤ (lC x.1).length ∧ ∀ (i : Nat), i < (lC (doS x.1 x.2)).length → [AV.int
 .i64 ((lC x.1).getD i 0)] = [AV.int .i64 ((lC (doS x.1 x.2)).getD i 0)]) ∧ ((3 : TypeId) = 3 ∧ (1 : Nat) = 1 ∧ g.val.2.1 = g_1.val.2.1 ∧ (lE (doS x.1
 x.2)).length ≤ (lE x.1).length ∧ ∀ (i : Nat), i < (lE (doS x.1 x.2)).length → [AV.int .i64 ((lE x.1).getD i 0)] = [AV.int .i64 ((lE (doS x.1 x.2)).getD i 0)]) ∧
 True) ∧ (Tr 1 True ∧ refB (doS x.1 x.2) = refB (doS x.1 x.2) ∧ true = true ∧ True) ∧ True) (Exx Unit fun y => Exx (Subtype (RCap (doS x.1 x.2) false true true))
 fun g_1 => Tr 1 (((38 : TypeId) = 38 ∧ Tr 1 ((↑x.1.n : Int) = (↑(doS x.1 x.2).n : Int)) ∧ Tr 1 (x.1.r = (doS x.1 x.2).r) ∧ (true = true ∧ NilNil ∧ (0 : Nat) = 0
 ∧ (1 : Nat) = 1 ∧ (0 : Nat) = 0 ∧ (lC x.1).length = (lC (doS x.1 x.2)).length ∧ g.val.1 = g_1.val.1) ∧ (true = true ∧ NilNil ∧ (0 : Nat) = 0 ∧ (1 : Nat) = 1 ∧
 (0 : Nat) = 0 ∧ (lE x.1).length = (lE (doS x.1 x.2)).length ∧ g.val.2.1 = g_1.val.2.1) ∧ (true = true ∧ NilNil ∧ (0 : Nat) = 0 ∧ (1 : Nat) = 1 ∧ (0 : Nat) = 0 ∧
 (lC x.1).length = (lC (doS x.1 x.2)).length ∧ g.val.1 = g_1.val.1) ∧ (true = true ∧ NilNil ∧ (0 : Nat) = 0 ∧ (1 : Nat) = 1 ∧ (0 : Nat) = 0 ∧ (lC x.1).length =
 (lC (doS x.1 x.2)).length ∧ g.val.1 = g_1.val.1) ∧ True) ∧ ((3 : TypeId) = 3 ∧ (1 : Nat) = 1 ∧ g.val.1 = g_1.val.1 ∧ (lC (doS x.1 x.2)).length ≤ (lC x.1).length
 ∧ ∀ (i : Nat), i < (lC (doS x.1 x.2)).length → [AV.int .i64 ((lC x.1).getD i 0)] = [AV.int .i64 ((lC (doS x.1 x.2)).getD i 0)]) ∧ ((3 : TypeId) = 3 ∧ (1 : Nat)
 = 1 ∧ g.val.2.1 = g_1.val.2.1 ∧ (lE (doS x.1 x.2)).length ≤ (lE x.1).length ∧ ∀ (i : Nat), i < (lE (doS x.1 x.2)).length → [AV.int .i64 ((lE x.1).getD i 0)] =
 [AV.int .i64 ((lE (doS x.1 x.2)).getD i 0)]) ∧ True) ∧ (Tr 1 True ∧ refB (doS x.1 x.2) = refB (doS x.1 x.2) ∧ true = true ∧ True) ∧ True))))) ∧ (∀ (g : Subtype
 (RCap x.1 false true false)), BC (decide (x.2 = (0 : Int))) (Exx Unit fun y => Exx (Subtype (RCap (doS x.1 x.2) false false true)) fun g_1 => Tr 1 (((38 :
 TypeId) = 38 ∧ Tr 1 ((↑x.1.n : Int) = (↑(doS x.1 x.2).n : Int)) ∧ Tr 1 (x.1.r = (doS x.1 x.2).r) ∧ (true = true ∧ NilNil ∧ (0 : Nat) = 0 ∧ (1 : Nat) = 1 ∧ (0 :
 Nat) = 0 ∧ (lC x.1).length = (lC (doS x.1 x.2)).length ∧ g.val.1 = g_1.val.1) ∧ (true = true ∧ NilNil ∧ (0 : Nat) = 0 ∧ (1 : Nat) = 1 ∧ (0 : Nat) = 0 ∧ (lE
 x.1).length = (lE (doS x.1 x.2)).length ∧ g.val.2.1 = g_1.val.2.1) ∧ (true = true ∧ NilNil ∧ (0 : Nat) = 0 ∧ (1 : Nat) = 1 ∧ (0 : Nat) = 0 ∧ (lW x.1).length =
 (lM (doS x.1 x.2)).length ∧ g.val.2.2.2 = g_1.val.2.2.1) ∧ (true = true ∧ NilNil ∧ (0 : Nat) = 0 ∧ (1 : Nat) = 1 ∧ (0 : Nat) = 0 ∧ (lW x.1).length = (lM (doS
 x.1 x.2)).length ∧ g.val.2.2.2 = g_1.val.2.2.1) ∧ True) ∧ ((3 : TypeId) = 3 ∧ (1 : Nat) = 1 ∧ g.val.1 = g_1.val.1 ∧ (lC (doS x.1 x.2)).length ≤ (lC x.1).length
 ∧ ∀ (i : Nat), i < (lC (doS x.1 x.2)).length → [AV.int .i64 ((lC x.1).getD i 0)] = [AV.int .i64 ((lC (doS x.1 x.2)).getD i 0)]) ∧ ((3 : TypeId) = 3 ∧ (1 : Nat)
 = 1 ∧ g.val.2.1 = g_1.val.2.1 ∧ (lE (doS x.1 x.2)).length ≤ (lE x.1).length ∧ ∀ (i : Nat), i < (lE (doS x.1 x.2)).length → [AV.int .i64 ((lE x.1).getD i 0)] =
 [AV.int .i64 ((lE (doS x.1 x.2)).getD i 0)]) ∧ ((3 : TypeId) = 3 ∧ (1 : Nat) = 1 ∧ g.val.2.2.2 = g_1.val.2.2.1 ∧ (lM (doS x.1 x.2)).length ≤ (lW x.1).length ∧ ∀
 (i : Nat), i < (lM (doS x.1 x.2)).length → [AV.int .i64 ((lW x.1).getD i 0)] = [AV.int .i64 ((lM (doS x.1 x.2)).getD i 0)]) ∧ True) ∧ (Tr 1 True ∧ refB (doS x.1
 x.2) = refB (doS x.1 x.2) ∧ true = true ∧ True) ∧ True) (BC (decide (x.2 = (1 : Int))) (Exx Unit fun y => Exx (Subtype (RCap (doS x.1 x.2) false true true)) fun
 g_1 => Tr 1 (((38 : TypeId) = 38 ∧ Tr 1 ((↑x.1.n : Int) = (↑(doS x.1 x.2).n : Int)) ∧ Tr 1 (x.1.r = (doS x.1 x.2).r) ∧ (true = true ∧ NilNil ∧ (0 : Nat) = 0 ∧
 (1 : Nat) = 1 ∧ (0 : Nat) = 0 ∧ (lC x.1).length = (lC (doS x.1 x.2)).length ∧ g.val.1 = g_1.val.1) ∧ (true = true ∧ NilNil ∧ (0 : Nat) = 0 ∧ (1 : Nat) = 1 ∧ (0
 : Nat) = 0 ∧ (lE x.1).length = (lE (doS x.1 x.2)).length ∧ g.val.2.1 = g_1.val.2.1) ∧ (true = true ∧ NilNil ∧ (0 : Nat) = 0 ∧ (1 : Nat) = 1 ∧ (0 : Nat) = 0 ∧
 (lC x.1).length = (lC (doS x.1 x.2)).length ∧ g.val.1 = g_1.val.1) ∧ (true = true ∧ NilNil ∧ (0 : Nat) = 0 ∧ (1 : Nat) = 1 ∧ (0 : Nat) = 0 ∧ (lC x.1).length =
 (lC (doS x.1 x.2)).length ∧ g.val.1 = g_1.val.1) ∧ True) ∧ ((3 : TypeId) = 3 ∧ (1 : Nat) = 1 ∧ g.val.1 = g_1.val.1 ∧ (lC (doS x.1 x.2)).length ≤ (lC x.1).length
 ∧ ∀ (i : Nat), i < (lC (doS x.1 x.2)).length → [AV.int .i64 ((lC x.1).getD i 0)] = [AV.int .i64 ((lC (doS x.1 x.2)).getD i 0)]) ∧ ((3 : TypeId) = 3 ∧ (1 : Nat)
 = 1 ∧ g.val.2.1 = g_1.val.2.1 ∧ (lE (doS x.1 x.2)).length ≤ (lE x.1).length ∧ ∀ (i : Nat), i < (lE (doS x.1 x.2)).length → [AV.int .i64 ((lE x.1).getD i 0)] =
 [AV.int .i64 ((lE (doS x.1 x.2)).getD i 0)]) ∧ True) ∧ (Tr 1 True ∧ refB (doS x.1 x.2) = refB (doS x.1 x.2) ∧ true = true ∧ True) ∧ True) (BC (decide (x.2 = (2
 : Int))) (Exx Unit fun y => Exx (Subtype (RCap (doS x.1 x.2) false true true)) fun g_1 => Tr 1 (((38 : TypeId) = 38 ∧ Tr 1 ((↑x.1.n : Int) = (↑(doS x.1 x.2).n :
 Int)) ∧ Tr 1 (x.1.r = (doS x.1 x.2).r) ∧ (true = true ∧ NilNil ∧ (0 : Nat) = 0 ∧ (1 : Nat) = 1 ∧ (0 : Nat) = 0 ∧ (lW x.1).length = (lC (doS x.1 x.2)).length ∧
 g.val.2.2.2 = g_1.val.1) ∧ (true = true ∧ NilNil ∧ (0 : Nat) = 0 ∧ (1 : Nat) = 1 ∧ (0 : Nat) = 0 ∧ (lC x.1).length = (lE (doS x.1 x.2)).length ∧ g.val.1 =
 g_1.val.2.1) ∧ (true = true ∧ NilNil ∧ (0 : Nat) = 0 ∧ (1 : Nat) = 1 ∧ (0 : Nat) = 0 ∧ (lW x.1).length = (lC (doS x.1 x.2)).length ∧ g.val.2.2.2 = g_1.val.1) ∧
 (true = true ∧ NilNil ∧ (0 : Nat) = 0 ∧ (1 : Nat) = 1 ∧ (0 : Nat) = 0 ∧ (lW x.1).length = (lC (doS x.1 x.2)).length ∧ g.val.2.2.2 = g_1.val.1) ∧ True) ∧ ((3 :
 TypeId) = 3 ∧ (1 : Nat) = 1 ∧ g.val.2.2.2 = g_1.val.1 ∧ (lC (doS x.1 x.2)).length ≤ (lW x.1).length ∧ ∀ (i : Nat), i < (lC (doS x.1 x.2)).length → [AV.int .i64
 ((lW x.1).getD i 0)] = [AV.int .i64 ((lC (doS x.1 x.2)).getD i 0)]) ∧ ((3 : TypeId) = 3 ∧ (1 : Nat) = 1 ∧ g.val.1 = g_1.val.2.1 ∧ (lE (doS x.1 x.2)).length ≤
 (lC x.1).length ∧ ∀ (i : Nat), i < (lE (doS x.1 x.2)).length → [AV.int .i64 ((lC x.1).getD i 0)] = [AV.int .i64 ((lE (doS x.1 x.2)).getD i 0)]) ∧ True) ∧ (Tr 1
 True ∧ refB (doS x.1 x.2) = refB (doS x.1 x.2) ∧ true = true ∧ True) ∧ True) (BC (decide (x.2 = (3 : Int))) (Exx Unit fun y => Exx (Subtype (RCap (doS x.1 x.2)
 false true true)) fun g_1 => Tr 1 (((38 : TypeId) = 38 ∧ Tr 1 ((↑x.1.n : Int) = (↑(doS x.1 x.2).n : Int)) ∧ Tr 1 (x.1.r = (doS x.1 x.2).r) ∧ (true = true ∧
 NilNil ∧ (0 : Nat) = 0 ∧ (1 : Nat) = 1 ∧ (0 : Nat) = 0 ∧ (lC x.1).length = (lC (doS x.1 x.2)).length ∧ g.val.1 = g_1.val.1) ∧ (true = true ∧ NilNil ∧ (0 : Nat)
 = 0 ∧ (1 : Nat) = 1 ∧ (0 : Nat) = 0 ∧ (lE x.1).length = (lE (doS x.1 x.2)).length ∧ g.val.2.1 = g_1.val.2.1) ∧ (true = true ∧ NilNil ∧ (0 : Nat) = 0 ∧ (1 : Nat)
 = 1 ∧ (0 : Nat) = 0 ∧ (lC x.1).length = (lC (doS x.1 x.2)).length ∧ g.val.1 = g_1.val.1) ∧ (true = true ∧ NilNil ∧ (0 : Nat) = 0 ∧ (1 : Nat) = 1 ∧ (0 : Nat) = 0
 ∧ (lC x.1).length = (lC (doS x.1 x.2)).length ∧ g.val.1 = g_1.val.1) ∧ True) ∧ ((3 : TypeId) = 3 ∧ (1 : Nat) = 1 ∧ g.val.1 = g_1.val.1 ∧ (lC (doS x.1
 x.2)).length ≤ (lC x.1).length ∧ ∀ (i : Nat), i < (lC (doS x.1 x.2)).length → [AV.int .i64 ((lC x.1).getD i 0)] = [AV.int .i64 ((lC (doS x.1 x.2)).getD i 0)]) ∧
 ((3 : TypeId) = 3 ∧ (1 : Nat) = 1 ∧ g.val.2.1 = g_1.val.2.1 ∧ (lE (doS x.1 x.2)).length ≤ (lE x.1).length ∧ ∀ (i : Nat), i < (lE (doS x.1 x.2)).length → [AV.int
 .i64 ((lE x.1).getD i 0)] = [AV.int .i64 ((lE (doS x.1 x.2)).getD i 0)]) ∧ True) ∧ (Tr 1 True ∧ refB (doS x.1 x.2) = refB (doS x.1 x.2) ∧ true = true ∧ True) ∧
 True) (Exx Unit fun y => Exx (Subtype (RCap (doS x.1 x.2) false true false)) fun g_1 => Tr 1 (((38 : TypeId) = 38 ∧ Tr 1 ((↑x.1.n : Int) = (↑(doS x.1 x.2).n :
 Int)) ∧ Tr 1 (x.1.r = (doS x.1 x.2).r) ∧ (true = true ∧ NilNil ∧ (0 : Nat) = 0 ∧ (1 : Nat) = 1 ∧ (0 : Nat) = 0 ∧ (lC x.1).length = (lC (doS x.1 x.2)).length ∧
 g.val.1 = g_1.val.1) ∧ (true = true ∧ NilNil ∧ (0 : Nat) = 0 ∧ (1 : Nat) = 1 ∧ (0 : Nat) = 0 ∧ (lE x.1).length = (lE (doS x.1 x.2)).length ∧ g.val.2.1 =
 g_1.val.2.1) ∧ (true = true ∧ NilNil ∧ (0 : Nat) = 0 ∧ (1 : Nat) = 1 ∧ (0 : Nat) = 0 ∧ (lC x.1).length = (lC (doS x.1 x.2)).length ∧ g.val.1 = g_1.val.1) ∧
 (true = true ∧ NilNil ∧ (0 : Nat) = 0 ∧ (1 : Nat) = 1 ∧ (0 : Nat) = 0 ∧ (lW x.1).length = (lW (doS x.1 x.2)).length ∧ g.val.2.2.2 = g_1.val.2.2.2) ∧ True) ∧ ((3
 : TypeId) = 3 ∧ (1 : Nat) = 1 ∧ g.val.1 = g_1.val.1 ∧ (lC (doS x.1 x.2)).length ≤ (lC x.1).length ∧ ∀ (i : Nat), i < (lC (doS x.1 x.2)).length → [AV.int .i64
 ((lC x.1).getD i 0)] = [AV.int .i64 ((lC (doS x.1 x.2)).getD i 0)]) ∧ ((3 : TypeId) = 3 ∧ (1 : Nat) = 1 ∧ g.val.2.1 = g_1.val.2.1 ∧ (lE (doS x.1 x.2)).length ≤
 (lE x.1).length ∧ ∀ (i : Nat), i < (lE (doS x.1 x.2)).length → [AV.int .i64 ((lE x.1).getD i 0)] = [AV.int .i64 ((lE (doS x.1 x.2)).getD i 0)]) ∧ ((3 : TypeId)
 = 3 ∧ (1 : Nat) = 1 ∧ g.val.2.2.2 = g_1.val.2.2.2 ∧ (lW (doS x.1 x.2)).length ≤ (lW x.1).length ∧ ∀ (i : Nat), i < (lW (doS x.1 x.2)).length → [AV.int .i64 ((lW
 x.1).getD i 0)] = [AV.int .i64 ((lW (doS x.1 x.2)).getD i 0)]) ∧ True) ∧ (Tr 1 True ∧ refB (doS x.1 x.2) = refB (doS x.1 x.2) ∧ true = true ∧ True) ∧ True)))))
 ∧ (∀ (g : Subtype (RCap x.1 false false true)), BC (decide (x.2 = (0 : Int))) (Exx Unit fun y => Exx (Subtype (RCap (doS x.1 x.2) false false true)) fun g_1 =>
 Tr 1 (((38 : TypeId) = 38 ∧ Tr 1 ((↑x.1.n : Int) = (↑(doS x.1 x.2).n : Int)) ∧ Tr 1 (x.1.r = (doS x.1 x.2).r) ∧ (true = true ∧ NilNil ∧ (0 : Nat) = 0 ∧ (1 :
 Nat) = 1 ∧ (0 : Nat) = 0 ∧ (lC x.1).length = (lC (doS x.1 x.2)).length ∧ g.val.1 = g_1.val.1) ∧ (true = true ∧ NilNil ∧ (0 : Nat) = 0 ∧ (1 : Nat) = 1 ∧ (0 :
 Nat) = 0 ∧ (lE x.1).length = (lE (doS x.1 x.2)).length ∧ g.val.2.1 = g_1.val.2.1) ∧ (true = true ∧ NilNil ∧ (0 : Nat) = 0 ∧ (1 : Nat) = 1 ∧ (0 : Nat) = 0 ∧ (lM
 x.1).length = (lM (doS x.1 x.2)).length ∧ g.val.2.2.1 = g_1.val.2.2.1) ∧ (true = true ∧ NilNil ∧ (0 : Nat) = 0 ∧ (1 : Nat) = 1 ∧ (0 : Nat) = 0 ∧ (lM x.1).length
 = (lM (doS x.1 x.2)).length ∧ g.val.2.2.1 = g_1.val.2.2.1) ∧ True) ∧ ((3 : TypeId) = 3 ∧ (1 : Nat) = 1 ∧ g.val.1 = g_1.val.1 ∧ (lC (doS x.1 x.2)).length ≤ (lC
 x.1).length ∧ ∀ (i : Nat), i < (lC (doS x.1 x.2)).length → [AV.int .i64 ((lC x.1).getD i 0)] = [AV.int .i64 ((lC (doS x.1 x.2)).getD i 0)]) ∧ ((3 : TypeId) = 3
 ∧ (1 : Nat) = 1 ∧ g.val.2.1 = g_1.val.2.1 ∧ (lE (doS x.1 x.2)).length ≤ (lE x.1).length ∧ ∀ (i : Nat), i < (lE (doS x.1 x.2)).length → [AV.int .i64 ((lE
 x.1).getD i 0)] = [AV.int .i64 ((lE (doS x.1 x.2)).getD i 0)]) ∧ ((3 : TypeId) = 3 ∧ (1 : Nat) = 1 ∧ g.val.2.2.1 = g_1.val.2.2.1 ∧ (lM (doS x.1 x.2)).length ≤
 (lM x.1).length ∧ ∀ (i : Nat), i < (lM (doS x.1 x.2)).length → [AV.int .i64 ((lM x.1).getD i 0)] = [AV.int .i64 ((lM (doS x.1 x.2)).getD i 0)]) ∧ True) ∧ (Tr 1
 True ∧ refB (doS x.1 x.2) = refB (doS x.1 x.2) ∧ true = true ∧ True) ∧ True) (BC (decide (x.2 = (1 : Int))) (Exx Unit fun y => Exx (Subtype (RCap (doS x.1 x.2)
 false false true)) fun g_1 => Tr 1 (((38 : TypeId) = 38 ∧ Tr 1 ((↑x.1.n : Int) = (↑(doS x.1 x.2).n : Int)) ∧ Tr 1 (x.1.r = (doS x.1 x.2).r) ∧ (true = true ∧
 NilNil ∧ (0 : Nat) = 0 ∧ (1 : Nat) = 1 ∧ (0 : Nat) = 0 ∧ (lC x.1).length = (lC (doS x.1 x.2)).length ∧ g.val.1 = g_1.val.1) ∧ (true = true ∧ NilNil ∧ (0 : Nat)
 = 0 ∧ (1 : Nat) = 1 ∧ (0 : Nat) = 0 ∧ (lE x.1).length = (lE (doS x.1 x.2)).length ∧ g.val.2.1 = g_1.val.2.1) ∧ (true = true ∧ NilNil ∧ (0 : Nat) = 0 ∧ (1 : Nat)
 = 1 ∧ (0 : Nat) = 0 ∧ (lM x.1).length = (lM (doS x.1 x.2)).length ∧ g.val.2.2.1 = g_1.val.2.2.1) ∧ (true = true ∧ NilNil ∧ (0 : Nat) = 0 ∧ (1 : Nat) = 1 ∧ (0 :
 Nat) = 0 ∧ (lM x.1).length = (lM (doS x.1 x.2)).length ∧ g.val.2.2.1 = g_1.val.2.2.1) ∧ True) ∧ ((3 : TypeId) = 3 ∧ (1 : Nat) = 1 ∧ g.val.1 = g_1.val.1 ∧ (lC
 (doS x.1 x.2)).length ≤ (lC x.1).length ∧ ∀ (i : Nat), i < (lC (doS x.1 x.2)).length → [AV.int .i64 ((lC x.1).getD i 0)] = [AV.int .i64 ((lC (doS x.1 x.2)).getD
 i 0)]) ∧ ((3 : TypeId) = 3 ∧ (1 : Nat) = 1 ∧ g.val.2.1 = g_1.val.2.1 ∧ (lE (doS x.1 x.2)).length ≤ (lE x.1).length ∧ ∀ (i : Nat), i < (lE (doS x.1 x.2)).length
 → [AV.int .i64 ((lE x.1).getD i 0)] = [AV.int .i64 ((lE (doS x.1 x.2)).getD i 0)]) ∧ ((3 : TypeId) = 3 ∧ (1 : Nat) = 1 ∧ g.val.2.2.1 = g_1.val.2.2.1 ∧ (lM (doS
 x.1 x.2)).length ≤ (lM x.1).length ∧ ∀ (i : Nat), i < (lM (doS x.1 x.2)).length → [AV.int .i64 ((lM x.1).getD i 0)] = [AV.int .i64 ((lM (doS x.1 x.2)).getD i
 0)]) ∧ True) ∧ (Tr 1 True ∧ refB (doS x.1 x.2) = refB (doS x.1 x.2) ∧ true = true ∧ True) ∧ True) (BC (decide (x.2 = (2 : Int))) (Exx Unit fun y => Exx (Subtype
 (RCap (doS x.1 x.2) false true true)) fun g_1 => Tr 1 (((38 : TypeId) = 38 ∧ Tr 1 ((↑x.1.n : Int) = (↑(doS x.1 x.2).n : Int)) ∧ Tr 1 (x.1.r = (doS x.1 x.2).r) ∧
 (true = true ∧ NilNil ∧ (0 : Nat) = 0 ∧ (1 : Nat) = 1 ∧ (0 : Nat) = 0 ∧ (lM x.1).length = (lC (doS x.1 x.2)).length ∧ g.val.2.2.1 = g_1.val.1) ∧ (true = true ∧
 NilNil ∧ (0 : Nat) = 0 ∧ (1 : Nat) = 1 ∧ (0 : Nat) = 0 ∧ (lC x.1).length = (lE (doS x.1 x.2)).length ∧ g.val.1 = g_1.val.2.1) ∧ (true = true ∧ NilNil ∧ (0 :
 Nat) = 0 ∧ (1 : Nat) = 1 ∧ (0 : Nat) = 0 ∧ (lM x.1).length = (lC (doS x.1 x.2)).length ∧ g.val.2.2.1 = g_1.val.1) ∧ (true = true ∧ NilNil ∧ (0 : Nat) = 0 ∧ (1 :
 Nat) = 1 ∧ (0 : Nat) = 0 ∧ (lM x.1).length = (lC (doS x.1 x.2)).length ∧ g.val.2.2.1 = g_1.val.1) ∧ True) ∧ ((3 : TypeId) = 3 ∧ (1 : Nat) = 1 ∧ g.val.2.2.1 =
 g_1.val.1 ∧ (lC (doS x.1 x.2)).length ≤ (lM x.1).length ∧ ∀ (i : Nat), i < (lC (doS x.1 x.2)).length → [AV.int .i64 ((lM x.1).getD i 0)] = [AV.int .i64 ((lC
 (doS x.1 x.2)).getD i 0)]) ∧ ((3 : TypeId) = 3 ∧ (1 : Nat) = 1 ∧ g.val.1 = g_1.val.2.1 ∧ (lE (doS x.1 x.2)).length ≤ (lC x.1).length ∧ ∀ (i : Nat), i < (lE (doS
 x.1 x.2)).length → [AV.int .i64 ((lC x.1).getD i 0)] = [AV.int .i64 ((lE (doS x.1 x.2)).getD i 0)]) ∧ True) ∧ (Tr 1 True ∧ refB (doS x.1 x.2) = refB (doS x.1
 x.2) ∧ true = true ∧ True) ∧ True) (BC (decide (x.2 = (3 : Int))) (Exx Unit fun y => Exx (Subtype (RCap (doS x.1 x.2) false true true)) fun g_1 => Tr 1 (((38 :
 TypeId) = 38 ∧ Tr 1 ((↑x.1.n : Int) = (↑(doS x.1 x.2).n : Int)) ∧ Tr 1 (x.1.r = (doS x.1 x.2).r) ∧ (true = true ∧ NilNil ∧ (0 : Nat) = 0 ∧ (1 : Nat) = 1 ∧ (0 :
 Nat) = 0 ∧ (lC x.1).length = (lC (doS x.1 x.2)).length ∧ g.val.1 = g_1.val.1) ∧ (true = true ∧ NilNil ∧ (0 : Nat) = 0 ∧ (1 : Nat) = 1 ∧ (0 : Nat) = 0 ∧ (lE
 x.1).length = (lE (doS x.1 x.2)).length ∧ g.val.2.1 = g_1.val.2.1) ∧ (true = true ∧ NilNil ∧ (0 : Nat) = 0 ∧ (1 : Nat) = 1 ∧ (0 : Nat) = 0 ∧ (lC x.1).length =
 (lC (doS x.1 x.2)).length ∧ g.val.1 = g_1.val.1) ∧ (true = true ∧ NilNil ∧ (0 : Nat) = 0 ∧ (1 : Nat) = 1 ∧ (0 : Nat) = 0 ∧ (lC x.1).length = (lC (doS x.1
 x.2)).length ∧ g.val.1 = g_1.val.1) ∧ True) ∧ ((3 : TypeId) = 3 ∧ (1 : Nat) = 1 ∧ g.val.1 = g_1.val.1 ∧ (lC (doS x.1 x.2)).length ≤ (lC x.1).length ∧ ∀ (i :
 Nat), i < (lC (doS x.1 x.2)).length → [AV.int .i64 ((lC x.1).getD i 0)] = [AV.int .i64 ((lC (doS x.1 x.2)).getD i 0)]) ∧ ((3 : TypeId) = 3 ∧ (1 : Nat) = 1 ∧
 g.val.2.1 = g_1.val.2.1 ∧ (lE (doS x.1 x.2)).length ≤ (lE x.1).length ∧ ∀ (i : Nat), i < (lE (doS x.1 x.2)).length → [AV.int .i64 ((lE x.1).getD i 0)] = [AV.int
 .i64 ((lE (doS x.1 x.2)).getD i 0)]) ∧ True) ∧ (Tr 1 True ∧ refB (doS x.1 x.2) = refB (doS x.1 x.2) ∧ true = true ∧ True) ∧ True) (Exx Unit fun y => Exx
 (Subtype (RCap (doS x.1 x.2) false false true)) fun g_1 => Tr 1 (((38 : TypeId) = 38 ∧ Tr 1 ((↑x.1.n : Int) = (↑(doS x.1 x.2).n : Int)) ∧ Tr 1 (x.1.r = (doS x.1
 x.2).r) ∧ (true = true ∧ NilNil ∧ (0 : Nat) = 0 ∧ (1 : Nat) = 1 ∧ (0 : Nat) = 0 ∧ (lC x.1).length = (lC (doS x.1 x.2)).length ∧ g.val.1 = g_1.val.1) ∧ (true =
 true ∧ NilNil ∧ (0 : Nat) = 0 ∧ (1 : Nat) = 1 ∧ (0 : Nat) = 0 ∧ (lE x.1).length = (lE (doS x.1 x.2)).length ∧ g.val.2.1 = g_1.val.2.1) ∧ (true = true ∧ NilNil ∧
 (0 : Nat) = 0 ∧ (1 : Nat) = 1 ∧ (0 : Nat) = 0 ∧ (lM x.1).length = (lM (doS x.1 x.2)).length ∧ g.val.2.2.1 = g_1.val.2.2.1) ∧ (true = true ∧ NilNil ∧ (0 : Nat) =
 0 ∧ (1 : Nat) = 1 ∧ (0 : Nat) = 0 ∧ (lM x.1).length = (lM (doS x.1 x.2)).length ∧ g.val.2.2.1 = g_1.val.2.2.1) ∧ True) ∧ ((3 : TypeId) = 3 ∧ (1 : Nat) = 1 ∧
 g.val.1 = g_1.val.1 ∧ (lC (doS x.1 x.2)).length ≤ (lC x.1).length ∧ ∀ (i : Nat), i < (lC (doS x.1 x.2)).length → [AV.int .i64 ((lC x.1).getD i 0)] = [AV.int
 .i64 ((lC (doS x.1 x.2)).getD i 0)]) ∧ ((3 : TypeId) = 3 ∧ (1 : Nat) = 1 ∧ g.val.2.1 = g_1.val.2.1 ∧ (lE (doS x.1 x.2)).length ≤ (lE x.1).length ∧ ∀ (i : Nat),
 i < (lE (doS x.1 x.2)).length → [AV.int .i64 ((lE x.1).getD i 0)] = [AV.int .i64 ((lE (doS x.1 x.2)).getD i 0)]) ∧ ((3 : TypeId) = 3 ∧ (1 : Nat) = 1 ∧
 g.val.2.2.1 = g_1.val.2.2.1 ∧ (lM (doS x.1 x.2)).length ≤ (lM x.1).length ∧ ∀ (i : Nat), i < (lM (doS x.1 x.2)).length → [AV.int .i64 ((lM x.1).getD i 0)] =
 [AV.int .i64 ((lM (doS x.1 x.2)).getD i 0)]) ∧ True) ∧ (Tr 1 True ∧ refB (doS x.1 x.2) = refB (doS x.1 x.2) ∧ true = true ∧ True) ∧ True))))) ∧ (∀ (g : Subtype
 (RCap x.1 false false false)), BC (decide (x.2 = (0 : Int))) (Exx Unit fun y => Exx (Subtype (RCap (doS x.1 x.2) false false true)) fun g_1 => Tr 1 (((38 :
 TypeId) = 38 ∧ Tr 1 ((↑x.1.n : Int) = (↑(doS x.1 x.2).n : Int)) ∧ Tr 1 (x.1.r = (doS x.1 x.2).r) ∧ (true = true ∧ NilNil ∧ (0 : Nat) = 0 ∧ (1 : Nat) = 1 ∧ (0 :
 Nat) = 0 ∧ (lC x.1).length = (lC (doS x.1 x.2)).length ∧ g.val.1 = g_1.val.1) ∧ (true = true ∧ NilNil ∧ (0 : Nat) = 0 ∧ (1 : Nat) = 1 ∧ (0 : Nat) = 0 ∧ (lE
 x.1).length = (lE (doS x.1 x.2)).length ∧ g.val.2.1 = g_1.val.2.1) ∧ (true = true ∧ NilNil ∧ (0 : Nat) = 0 ∧ (1 : Nat) = 1 ∧ (0 : Nat) = 0 ∧ (lW x.1).length =
 (lM (doS x.1 x.2)).length ∧ g.val.2.2.2 = g_1.val.2.2.1) ∧ (true = true ∧ NilNil ∧ (0 : Nat) = 0 ∧ (1 : Nat) = 1 ∧ (0 : Nat) = 0 ∧ (lW x.1).length = (lM (doS
 x.1 x.2)).length ∧ g.val.2.2.2 = g_1.val.2.2.1) ∧ True) ∧ ((3 : TypeId) = 3 ∧ (1 : Nat) = 1 ∧ g.val.1 = g_1.val.1 ∧ (lC (doS x.1 x.2)).length ≤ (lC x.1).length
 ∧ ∀ (i : Nat), i < (lC (doS x.1 x.2)).length → [AV.int .i64 ((lC x.1).getD i 0)] = [AV.int .i64 ((lC (doS x.1 x.2)).getD i 0)]) ∧ ((3 : TypeId) = 3 ∧ (1 : Nat)
 = 1 ∧ g.val.2.1 = g_1.val.2.1 ∧ (lE (doS x.1 x.2)).length ≤ (lE x.1).length ∧ ∀ (i : Nat), i < (lE (doS x.1 x.2)).length → [AV.int .i64 ((lE x.1).getD i 0)] =
 [AV.int .i64 ((lE (doS x.1 x.2)).getD i 0)]) ∧ ((3 : TypeId) = 3 ∧ (1 : Nat) = 1 ∧ g.val.2.2.2 = g_1.val.2.2.1 ∧ (lM (doS x.1 x.2)).length ≤ (lW x.1).length ∧ ∀
 (i : Nat), i < (lM (doS x.1 x.2)).length → [AV.int .i64 ((lW x.1).getD i 0)] = [AV.int .i64 ((lM (doS x.1 x.2)).getD i 0)]) ∧ True) ∧ (Tr 1 True ∧ refB (doS x.1
 x.2) = refB (doS x.1 x.2) ∧ true = true ∧ True) ∧ True) (BC (decide (x.2 = (1 : Int))) (Exx Unit fun y => Exx (Subtype (RCap (doS x.1 x.2) false false true))
 fun g_1 => Tr 1 (((38 : TypeId) = 38 ∧ Tr 1 ((↑x.1.n : Int) = (↑(doS x.1 x.2).n : Int)) ∧ Tr 1 (x.1.r = (doS x.1 x.2).r) ∧ (true = true ∧ NilNil ∧ (0 : Nat) = 0
 ∧ (1 : Nat) = 1 ∧ (0 : Nat) = 0 ∧ (lC x.1).length = (lC (doS x.1 x.2)).length ∧ g.val.1 = g_1.val.1) ∧ (true = true ∧ NilNil ∧ (0 : Nat) = 0 ∧ (1 : Nat) = 1 ∧
 (0 : Nat) = 0 ∧ (lE x.1).length = (lE (doS x.1 x.2)).length ∧ g.val.2.1 = g_1.val.2.1) ∧ (true = true ∧ NilNil ∧ (0 : Nat) = 0 ∧ (1 : Nat) = 1 ∧ (0 : Nat) = 0 ∧
 (lM x.1).length = (lM (doS x.1 x.2)).length ∧ g.val.2.2.1 = g_1.val.2.2.1) ∧ (true = true ∧ NilNil ∧ (0 : Nat) = 0 ∧ (1 : Nat) = 1 ∧ (0 : Nat) = 0 ∧ (lM
 x.1).length = (lM (doS x.1 x.2)).length ∧ g.val.2.2.1 = g_1.val.2.2.1) ∧ True) ∧ ((3 : TypeId) = 3 ∧ (1 : Nat) = 1 ∧ g.val.1 = g_1.val.1 ∧ (lC (doS x.1
 x.2)).length ≤ (lC x.1).length ∧ ∀ (i : Nat), i < (lC (doS x.1 x.2)).length → [AV.int .i64 ((lC x.1).getD i 0)] = [AV.int .i64 ((lC (doS x.1 x.2)).getD i 0)]) ∧
 ((3 : TypeId) = 3 ∧ (1 : Nat) = 1 ∧ g.val.2.1 = g_1.val.2.1 ∧ (lE (doS x.1 x.2)).length ≤ (lE x.1).length ∧ ∀ (i : Nat), i < (lE (doS x.1 x.2)).length → [AV.int
 .i64 ((lE x.1).getD i 0)] = [AV.int .i64 ((lE (doS x.1 x.2)).getD i 0)]) ∧ ((3 : TypeId) = 3 ∧ (1 : Nat) = 1 ∧ g.val.2.2.1 = g_1.val.2.2.1 ∧ (lM (doS x.1
 x.2)).length ≤ (lM x.1).length ∧ ∀ (i : Nat), i < (lM (doS x.1 x.2)).length → [AV.int .i64 ((lM x.1).getD i 0)] = [AV.int .i64 ((lM (doS x.1 x.2)).getD i 0)]) ∧
 True) ∧ (Tr 1 True ∧ refB (doS x.1 x.2) = refB (doS x.1 x.2) ∧ true = true ∧ True) ∧ True) (BC (decide (x.2 = (2 : Int))) (Exx Unit fun y => Exx (Subtype (RCap
 (doS x.1 x.2) false true true)) fun g_1 => Tr 1 (((38 : TypeId) = 38 ∧ Tr 1 ((↑x.1.n : Int) = (↑(doS x.1 x.2).n : Int)) ∧ Tr 1 (x.1.r = (doS x.1 x.2).r) ∧ (true
 = true ∧ NilNil ∧ (0 : Nat) = 0 ∧ (1 : Nat) = 1 ∧ (0 : Nat) = 0 ∧ (lW x.1).length = (lC (doS x.1 x.2)).length ∧ g.val.2.2.2 = g_1.val.1) ∧ (true = true ∧ NilNil
 ∧ (0 : Nat) = 0 ∧ (1 : Nat) = 1 ∧ (0 : Nat) = 0 ∧ (lC x.1).length = (lE (doS x.1 x.2)).length ∧ g.val.1 = g_1.val.2.1) ∧ (true = true ∧ NilNil ∧ (0 : Nat) = 0 ∧
 (1 : Nat) = 1 ∧ (0 : Nat) = 0 ∧ (lW x.1).length = (lC (doS x.1 x.2)).length ∧ g.val.2.2.2 = g_1.val.1) ∧ (true = true ∧ NilNil ∧ (0 : Nat) = 0 ∧ (1 : Nat) = 1 ∧
 (0 : Nat) = 0 ∧ (lW x.1).length = (lC (doS x.1 x.2)).length ∧ g.val.2.2.2 = g_1.val.1) ∧ True) ∧ ((3 : TypeId) = 3 ∧ (1 : Nat) = 1 ∧ g.val.2.2.2 = g_1.val.1 ∧
 (lC (doS x.1 x.2)).length ≤ (lW x.1).length ∧ ∀ (i : Nat), i < (lC (doS x.1 x.2)).length → [AV.int .i64 ((lW x.1).getD i 0)] = [AV.int .i64 ((lC (doS x.1
 x.2)).getD i 0)]) ∧ ((3 : TypeId) = 3 ∧ (1 : Nat) = 1 ∧ g.val.1 = g_1.val.2.1 ∧ (lE (doS x.1 x.2)).length ≤ (lC x.1).length ∧ ∀ (i : Nat), i < (lE (doS x.1
 x.2)).length → [AV.int .i64 ((lC x.1).getD i 0)] = [AV.int .i64 ((lE (doS x.1 x.2)).getD i 0)]) ∧ True) ∧ (Tr 1 True ∧ refB (doS x.1 x.2) = refB (doS x.1 x.2) ∧
 true = true ∧ True) ∧ True) (BC (decide (x.2 = (3 : Int))) (Exx Unit fun y => Exx (Subtype (RCap (doS x.1 x.2) false true true)) fun g_1 => Tr 1 (((38 : TypeId)
 = 38 ∧ Tr 1 ((↑x.1.n : Int) = (↑(doS x.1 x.2).n : Int)) ∧ Tr 1 (x.1.r = (doS x.1 x.2).r) ∧ (true = true ∧ NilNil ∧ (0 : Nat) = 0 ∧ (1 : Nat) = 1 ∧ (0 : Nat) = 0
 ∧ (lC x.1).length = (lC (doS x.1 x.2)).length ∧ g.val.1 = g_1.val.1) ∧ (true = true ∧ NilNil ∧ (0 : Nat) = 0 ∧ (1 : Nat) = 1 ∧ (0 : Nat) = 0 ∧ (lE x.1).length =
 (lE (doS x.1 x.2)).length ∧ g.val.2.1 = g_1.val.2.1) ∧ (true = true ∧ NilNil ∧ (0 : Nat) = 0 ∧ (1 : Nat) = 1 ∧ (0 : Nat) = 0 ∧ (lC x.1).length = (lC (doS x.1
 x.2)).length ∧ g.val.1 = g_1.val.1) ∧ (true = true ∧ NilNil ∧ (0 : Nat) = 0 ∧ (1 : Nat) = 1 ∧ (0 : Nat) = 0 ∧ (lC x.1).length = (lC (doS x.1 x.2)).length ∧
 g.val.1 = g_1.val.1) ∧ True) ∧ ((3 : TypeId) = 3 ∧ (1 : Nat) = 1 ∧ g.val.1 = g_1.val.1 ∧ (lC (doS x.1 x.2)).length ≤ (lC x.1).length ∧ ∀ (i : Nat), i < (lC (doS
 x.1 x.2)).length → [AV.int .i64 ((lC x.1).getD i 0)] = [AV.int .i64 ((lC (doS x.1 x.2)).getD i 0)]) ∧ ((3 : TypeId) = 3 ∧ (1 : Nat) = 1 ∧ g.val.2.1 =
 g_1.val.2.1 ∧ (lE (doS x.1 x.2)).length ≤ (lE x.1).length ∧ ∀ (i : Nat), i < (lE (doS x.1 x.2)).length → [AV.int .i64 ((lE x.1).getD i 0)] = [AV.int .i64 ((lE
 (doS x.1 x.2)).getD i 0)]) ∧ True) ∧ (Tr 1 True ∧ refB (doS x.1 x.2) = refB (doS x.1 x.2) ∧ true = true ∧ True) ∧ True) (Exx Unit fun y => Exx (Subtype (RCap
 (doS x.1 x.2) false false false)) fun g_1 => Tr 1 (((38 : TypeId) = 38 ∧ Tr 1 ((↑x.1.n : Int) = (↑(doS x.1 x.2).n : Int)) ∧ Tr 1 (x.1.r = (doS x.1 x.2).r) ∧
 (true = true ∧ NilNil ∧ (0 : Nat) = 0 ∧ (1 : Nat) = 1 ∧ (0 : Nat) = 0 ∧ (lC x.1).length = (lC (doS x.1 x.2)).length ∧ g.val.1 = g_1.val.1) ∧ (true = true ∧
 NilNil ∧ (0 : Nat) = 0 ∧ (1 : Nat) = 1 ∧ (0 : Nat) = 0 ∧ (lE x.1).length = (lE (doS x.1 x.2)).length ∧ g.val.2.1 = g_1.val.2.1) ∧ (true = true ∧ NilNil ∧ (0 :
 Nat) = 0 ∧ (1 : Nat) = 1 ∧ (0 : Nat) = 0 ∧ (lM x.1).length = (lM (doS x.1 x.2)).length ∧ g.val.2.2.1 = g_1.val.2.2.1) ∧ (true = true ∧ NilNil ∧ (0 : Nat) = 0 ∧
 (1 : Nat) = 1 ∧ (0 : Nat) = 0 ∧ (lW x.1).length = (lW (doS x.1 x.2)).length ∧ g.val.2.2.2 = g_1.val.2.2.2) ∧ True) ∧ ((3 : TypeId) = 3 ∧ (1 : Nat) = 1 ∧ g.val.1
 = g_1.val.1 ∧ (lC (doS x.1 x.2)).length ≤ (lC x.1).length ∧ ∀ (i : Nat), i < (lC (doS x.1 x.2)).length → [AV.int .i64 ((lC x.1).getD i 0)] = [AV.int .i64 ((lC
 (doS x.1 x.2)).getD i 0)]) ∧ ((3 : TypeId) = 3 ∧ (1 : Nat) = 1 ∧ g.val.2.1 = g_1.val.2.1 ∧ (lE (doS x.1 x.2)).length ≤ (lE x.1).length ∧ ∀ (i : Nat), i < (lE
 (doS x.1 x.2)).length → [AV.int .i64 ((lE x.1).getD i 0)] = [AV.int .i64 ((lE (doS x.1 x.2)).getD i 0)]) ∧ ((3 : TypeId) = 3 ∧ (1 : Nat) = 1 ∧ g.val.2.2.1 =
 g_1.val.2.2.1 ∧ (lM (doS x.1 x.2)).length ≤ (lM x.1).length ∧ ∀ (i : Nat), i < (lM (doS x.1 x.2)).length → [AV.int .i64 ((lM x.1).getD i 0)] = [AV.int .i64 ((lM
 (doS x.1 x.2)).getD i 0)]) ∧ ((3 : TypeId) = 3 ∧ (1 : Nat) = 1 ∧ g.val.2.2.2 = g_1.val.2.2.2 ∧ (lW (doS x.1 x.2)).length ≤ (lW x.1).length ∧ ∀ (i : Nat), i <
 (lW (doS x.1 x.2)).length → [AV.int .i64 ((lW x.1).getD i 0)] = [AV.int .i64 ((lW (doS x.1 x.2)).getD i 0)]) ∧ True) ∧ (Tr 1 True ∧ refB (doS x.1 x.2) = refB
 (doS x.1 x.2) ∧ true = true ∧ True) ∧ True))))) ∧ True) = (fnVCo tb [] Tryd.f41 refDoC (fun x => { opensA := [(1, [opR 0 x.1])] }) (fun _ _ _ => none) (fun _ =>
 []) (fun x y av H => clR 0 H (doS x.1 x.2))) := by kernel_rfl

theorem refDo_ok : SpecOk Tryd.prog 41 (specOf refDoC) := by
  refine specOko mixed tb_ok SPok.nil Tryd.func41 (by decide) (refSetC_ok fun _ => trivial) (an := (fun x => { opensA := [(1, [opR 0 x.1])] })) (σ := (fun _ _ _ => none)) (op := (fun _ => [])) (cl := (fun x y av H => clR 0 H (doS x.1 x.2))) ?_
  rw [← refDoV]
  simp (maxSteps := 10000000) only [and_false, false_and, false_or, or_false, bOf_true, bOf_false, true_bOf, false_bOf, Exx, int_ite, merge_o, Tr_eq, true_and, and_true, exists_const, forall_const, implies_true, forall_eq, exists_eq, exists_eq', exists_eq_left, exists_eq_left', exists_eq_right, Prod.exists, Prod.forall, and_assoc, exists_and_left, BC_iff, Bool.not_eq_true', Bool.not_eq_false', decide_eq_true_eq, decide_eq_false_iff_not, I64, nat_cast_inj, Int.toNat_natCast, nats_iff, nats_iff', ints_iff, ints_iff', natss_iff, natss_iff', nilnil, litL_eq, str_inj, str_append, str_length, str_getD, str_take, lit1_iff, one_iff, two_iff, one_get, Nat.zero_add, Nat.sub_zero, Nat.reduceMul, Nat.reduceDiv, Nat.reduceAdd, Int.reduceToNat, Nat.not_lt_zero, if_false, if_true, Nat.le_refl, List.length_singleton, List.length_cons, List.length_nil, Bool.false_eq_true, not_true_eq_false, false_implies, not_false_eq_true, Prod.mk.injEq, refB_inj, refB_open, Subtype.forall, Subtype.exists, exists_prop, RCap, RC1_t, RC1_f]
  rintro ⟨n, r, c, e, m, w⟩ b ⟨hw, hb1, hb2⟩
  simp +contextual [doS, markS, backS, commitS, abortS, becomeS, maskSet, maskAt]

end Yard
