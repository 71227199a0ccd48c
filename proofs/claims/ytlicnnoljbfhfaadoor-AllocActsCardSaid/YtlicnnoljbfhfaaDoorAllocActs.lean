import Derived.Test.YtlicnnoljbfhfaaDoorDo18
import Derived.Test.YtlicnnoljbfhfaaDoorRef18Own

namespace Yard
open Go Go.Sx Go.Proofs
set_option linter.unusedVariables false
set_option linter.unusedSimpArgs false
set_option maxRecDepth 4000
set_option maxHeartbeats 4000000

def ownL (args : List AV) (y : AllocT) : List (Nat × OpA) := match args with
  | .ptr p _ _ :: _ => [(p, refO y)]
  | _ => []
def ownOpenP : Sx.Spec := specOpens AllocT ownL (specOf refOwnC)
theorem ownOpen_ok : SpecOk Tryd.prog 25 ownOpenP := specOpens_ok refOwn_ok

def allocActsC : Ctr := pureC (StartX × List Act18) (fun x => StartI x.1 ∧ Acts18 x.2) (fun x => [startA x.1, acts18A x.2]) (fun _ => .bool true)
def acts18LA (x : StartX × List Act18) : LA := { T := Nat × AllocT, F := fun t => frm 75 [(1, acts18A x.2), (5, .ptr 2 [] 0), (6, .ptr 3 [] 0), (7, i64 (t.1 : Nat))], H := fun t => [.fence, .cells 24 [.int .u8 (x.1.1 : Nat), intA x.1.2.1, intA x.1.2.2.1, i64 x.1.2.2.2], allocI t.2, refI t.2] }

theorem allocActsV : (∀ (x : StartX × List Act18), StartI x.1 ∧ Acts18 x.2 → Exx Unit fun x_1 => Tr 1 (true = true ∧ True) ∧ Tr 1 (∀ (y : Unit), True → BC
 (decide ((40 : Int) < (↑x.2.length : Int))) (Exx Unit fun x => Tr 1 (true = true ∧ True) ∧ Tr 1 (∀ (y : Unit), True → Exx Unit fun y => ((true = true ∧ True) ∧
 true = true ∧ True) ∧ True)) (Exx (Nat × List Int × List Int × Int) fun x_2 => (((Tr 1 ((↑x.1.1 : Int) = (↑x_2.1 : Int)) ∧ (x.1.2.1.length = x_2.2.1.length ∧ ∀
 (i : Nat), i < x_2.2.1.length → [AV.int .i64 (x.1.2.1.getD i 0)] = [AV.int .i64 (x_2.2.1.getD i 0)]) ∧ (x.1.2.2.1.length = x_2.2.2.1.length ∧ ∀ (i : Nat), i <
 x_2.2.2.1.length → [AV.int .i64 (x.1.2.2.1.getD i 0)] = [AV.int .i64 (x_2.2.2.1.getD i 0)]) ∧ Tr 1 (x.1.2.2.2 = x_2.2.2.2) ∧ True) ∧ True) ∧ true = true ∧ True)
 ∧ (x_2.1 < 256 ∧ IntL x_2.2.1 ∧ IntL x_2.2.2.1 ∧ I64 x_2.2.2.2) ∧ (x_2.2.1.length ≤ 40 ∧ x_2.2.2.1.length ≤ 40 ∧ (0 : Int) ≤ x_2.2.2.2 → ∀ (y : Unit), True →
 Exx (Nat × AllocT → Prop) fun I => Exx (Nat × AllocT → Nat) fun m => (Exx (Nat × AllocT) fun t => I t ∧ Tr 1 (((2 : Nat) = 2 ∧ x.2.length = x.2.length ∧ ∀ (i :
 Nat), i < x.2.length → [AV.int .i64 (x.2.getD i act18Z).kind, AV.int .i64 (x.2.getD i act18Z).at_] = [AV.int .i64 (x.2.getD i act18Z).kind, AV.int .i64
 (x.2.getD i act18Z).at_]) ∧ Tr 3 ((true = true ∧ NilNil ∧ (0 : Nat) = 0) ∧ (true = true ∧ NilNil ∧ (0 : Nat) = 0) ∧ Tr 1 ((0 : Int) = (↑t.1 : Int)) ∧ Tr 67
 True)) ∧ true = true ∧ ((24 : Nat) = (24 : TypeId) ∧ Tr 1 ((↑x.1.1 : Int) = (↑x.1.1 : Int)) ∧ ((1 : Nat) = 1 ∧ x.1.2.1.length = x.1.2.1.length ∧ ∀ (i : Nat), i
 < x.1.2.1.length → [AV.int .i64 (x.1.2.1.getD i 0)] = [AV.int .i64 (x.1.2.1.getD i 0)]) ∧ ((1 : Nat) = 1 ∧ x.1.2.2.1.length = x.1.2.2.1.length ∧ ∀ (i : Nat), i
 < x.1.2.2.1.length → [AV.int .i64 (x.1.2.2.1.getD i 0)] = [AV.int .i64 (x.1.2.2.1.getD i 0)]) ∧ Tr 1 (x.1.2.2.2 = x.1.2.2.2) ∧ True) ∧ allocB (startS x_2) =
 allocB t.2 ∧ refB (startS x_2) = refB t.2 ∧ True) ∧ ∀ (t : Nat × AllocT), I t → BC (decide ((↑t.1 : Int) < (↑x.2.length : Int))) (((0 : Int) ≤ (↑t.1 : Int) ∧
 (↑t.1 : Int) < (↑x.2.length : Int)) ∧ Exx (AllocT × Act18) fun x_3 => (((true = true ∧ NilNil ∧ (0 : Nat) = 0) ∧ (true = true ∧ NilNil ∧ (0 : Nat) = 0) ∧ (Tr 1
 ((x.2.getD (↑t.1 : Int).toNat act18Z).kind = x_3.2.kind) ∧ Tr 1 ((x.2.getD (↑t.1 : Int).toNat act18Z).at_ = x_3.2.at_) ∧ True) ∧ True) ∧ true = true ∧ allocB
 t.2 = allocB x_3.1 ∧ refB t.2 = refB x_3.1 ∧ True) ∧ (RefR x_3.1 ∧ Act18I x_3.2) ∧ ∀ (y : Unit), True → Exx (AllocT × Unit) fun x_4 => (((true = true ∧ NilNil ∧
 (0 : Nat) = 0) ∧ True) ∧ true = true ∧ allocB (stepS x_3.1 (x_3.2.kind % 7) x_3.2.at_) = allocB x_4.1 ∧ True) ∧ (AllocW x_4.1 ∧ True) ∧ ∀ (y : Unit), True → Exx
 AllocT fun x_5 => (((true = true ∧ NilNil ∧ (0 : Nat) = 0) ∧ True) ∧ true = true ∧ refB (stepS x_3.1 (x_3.2.kind % 7) x_3.2.at_) = refB x_5 ∧ True) ∧ RefW x_5 ∧
 ∀ (y : Nat), (freeL x_5).length ≤ y ∧ y ≤ 9223372036854775807 → BC (!decide (freeN x_4.1 = (↑(freeL x_5).length : Int))) (Exx Unit fun y => ((false = true ∧
 True) ∧ true = true ∧ True) ∧ True) (((0 : Int) ≤ (↑t.1 : Int) ∧ (↑t.1 : Int) < (↑x.2.length : Int)) ∧ ((0 : Int) ≤ (↑t.1 : Int) ∧ (↑t.1 : Int) < (↑x.2.length :
 Int)) ∧ Exx (AllocT × Int) fun x_6 => (((true = true ∧ NilNil ∧ (0 : Nat) = 0) ∧ Tr 1 ((x.2.getD (↑t.1 : Int).toNat act18Z).at_ = x_6.2) ∧ True) ∧ true = true ∧
 allocB x_4.1 = allocB x_6.1 ∧ True) ∧ (AllocW x_6.1 ∧ I64 x_6.2) ∧ ∀ (y : Unit), True → Exx (AllocT × Int) fun x_7 => (((true = true ∧ NilNil ∧ (0 : Nat) = 0) ∧
 Tr 1 ((x.2.getD (↑t.1 : Int).toNat act18Z).at_ = x_7.2) ∧ True) ∧ true = true ∧ refB x_5 = refB x_7.1 ∧ True) ∧ (RefW x_7.1 ∧ I64 x_7.2) ∧ ∀ (y : Unit), True →
 Exx AllocT fun y => refB x_7.1 = (refO y).ob ∧ (∀ (g : Subtype (RCap y true true true)), BC (!(hasN (x_6.1.n, x_6.1.w) x_6.2 && !hasN (x_6.1.n, x_6.1.m) x_6.2)
 == (hasN (x_7.1.n, x_7.1.w) x_7.2 && !hasN (x_7.1.n, x_7.1.m) x_7.2)) (Exx Unit fun y => ((false = true ∧ True) ∧ true = true ∧ True) ∧ True) ((Exx AllocT fun
 x_8 => (((true = true ∧ NilNil ∧ (0 : Nat) = 0) ∧ True) ∧ true = true ∧ allocB x_6.1 = allocB x_8 ∧ True) ∧ AllocW x_8 ∧ ∀ (y_1 : Unit), True → (Exx (Nat × Nat)
 fun x_9 => (((true = true ∧ NilNil ∧ (0 : Nat) = 0) ∧ True) ∧ true = true ∧ setB (x_8.n, x_8.w) = setB x_9 ∧ True) ∧ SetW x_9 ∧ ∀ (y_2 : Nat), (listN
 x_9).length ≤ y_2 → Exx (List Int × List Int) fun x_10 => (((0 + (listN x_9).length ≤ (listN x_9).length ∧ (listN x_9).length = x_10.1.length ∧ ∀ (i : Nat), i <
 x_10.1.length → [AV.int .i64 ((listN x_9).getD (0 + i) 0)] = [AV.int .i64 (x_10.1.getD i 0)]) ∧ (0 + (lC y).length ≤ (lC y).length ∧ (lC y).length =
 x_10.2.length ∧ ∀ (i : Nat), i < x_10.2.length → [AV.int .i64 ((lC y).getD (0 + i) 0)] = [AV.int .i64 (x_10.2.getD i 0)]) ∧ True) ∧ true = true ∧ True) ∧ (IntL
 x_10.1 ∧ IntL x_10.2) ∧ ∀ (y_3 : Unit), True → BC (!decide (x_10.1 = x_10.2)) (Exx Unit fun y => ((false = true ∧ True) ∧ true = true ∧ True) ∧ True) (Exx
 AllocT fun y_4 => Exx (Subtype (RCap y_4 true true true)) fun g_1 => Tr 1 (((38 : TypeId) = 38 ∧ Tr 1 ((↑y.n : Int) = (↑y_4.n : Int)) ∧ Tr 1 (y.r = y_4.r) ∧
 (true = true ∧ NilNil ∧ (0 : Nat) = 0 ∧ (1 : Nat) = 1 ∧ (0 : Nat) = 0 ∧ (lC y).length = (lC y_4).length ∧ g.val.1 = g_1.val.1) ∧ (true = true ∧ NilNil ∧ (0 :
 Nat) = 0 ∧ (1 : Nat) = 1 ∧ (0 : Nat) = 0 ∧ (lC y).length = (lC y_4).length ∧ g.val.1 = g_1.val.1) ∧ (true = true ∧ NilNil ∧ (0 : Nat) = 0 ∧ (1 : Nat) = 1 ∧ (0 :
 Nat) = 0 ∧ (lC y).length = (lC y_4).length ∧ g.val.1 = g_1.val.1) ∧ (true = true ∧ NilNil ∧ (0 : Nat) = 0 ∧ (1 : Nat) = 1 ∧ (0 : Nat) = 0 ∧ (lC y).length = (lC
 y_4).length ∧ g.val.1 = g_1.val.1) ∧ True) ∧ ((3 : TypeId) = 3 ∧ (1 : Nat) = 1 ∧ g.val.1 = g_1.val.1 ∧ (lC y_4).length ≤ (lC y).length ∧ ∀ (i : Nat), i < (lC
 y_4).length → [AV.int .i64 ((lC y).getD i 0)] = [AV.int .i64 ((lC y_4).getD i 0)]) ∧ True) ∧ I64 ((↑t.1 : Int) + 1) ∧ Exx (Nat × AllocT) fun t' => (I t' ∧ m t'
 < m t) ∧ Tr 1 (((2 : Nat) = 2 ∧ x.2.length = x.2.length ∧ ∀ (i : Nat), i < x.2.length → [AV.int .i64 (x.2.getD i act18Z).kind, AV.int .i64 (x.2.getD i
 act18Z).at_] = [AV.int .i64 (x.2.getD i act18Z).kind, AV.int .i64 (x.2.getD i act18Z).at_]) ∧ Tr 3 ((true = true ∧ NilNil ∧ (0 : Nat) = 0) ∧ (true = true ∧
 NilNil ∧ (0 : Nat) = 0) ∧ Tr 1 ((↑t.1 : Int) + 1 = (↑t'.fst : Int)) ∧ Tr 67 True)) ∧ true = true ∧ ((24 : TypeId) = 24 ∧ Tr 1 ((↑x.1.1 : Int) = (↑x.1.1 : Int))
 ∧ ((1 : Nat) = 1 ∧ x.1.2.1.length = x.1.2.1.length ∧ ∀ (i : Nat), i < x.1.2.1.length → [AV.int .i64 (x.1.2.1.getD i 0)] = [AV.int .i64 (x.1.2.1.getD i 0)]) ∧
 ((1 : Nat) = 1 ∧ x.1.2.2.1.length = x.1.2.2.1.length ∧ ∀ (i : Nat), i < x.1.2.2.1.length → [AV.int .i64 (x.1.2.2.1.getD i 0)] = [AV.int .i64 (x.1.2.2.1.getD i
 0)]) ∧ Tr 1 (x.1.2.2.2 = x.1.2.2.2) ∧ True) ∧ allocB x_8 = allocB t'.snd ∧ refB y_4 = refB t'.snd ∧ True)) ∧ Exx (Nat × Nat) fun x_9 => (((true = true ∧ NilNil
 ∧ (0 : Nat) = 0) ∧ True) ∧ true = true ∧ setB (x_8.n, x_8.w) = setB x_9 ∧ True) ∧ SetW x_9 ∧ ∀ (y_2 : Nat), (listN x_9).length ≤ y_2 → Exx (List Int × List Int)
 fun x_10 => (((0 + (listN x_9).length ≤ (listN x_9).length ∧ (listN x_9).length = x_10.1.length ∧ ∀ (i : Nat), i < x_10.1.length → [AV.int .i64 ((listN
 x_9).getD (0 + i) 0)] = [AV.int .i64 (x_10.1.getD i 0)]) ∧ (0 + (lC y).length ≤ (lC y).length ∧ (lC y).length = x_10.2.length ∧ ∀ (i : Nat), i < x_10.2.length →
 [AV.int .i64 ((lC y).getD (0 + i) 0)] = [AV.int .i64 (x_10.2.getD i 0)]) ∧ True) ∧ true = true ∧ True) ∧ (IntL x_10.1 ∧ IntL x_10.2) ∧ ∀ (y_3 : Unit), True → BC
 (!decide (x_10.1 = x_10.2)) (Exx Unit fun y => ((false = true ∧ True) ∧ true = true ∧ True) ∧ True) (Exx AllocT fun y_4 => Exx (Subtype (RCap y_4 true true
 true)) fun g_1 => Tr 1 (((38 : TypeId) = 38 ∧ Tr 1 ((↑y.n : Int) = (↑y_4.n : Int)) ∧ Tr 1 (y.r = y_4.r) ∧ (true = true ∧ NilNil ∧ (0 : Nat) = 0 ∧ (1 : Nat) = 1
 ∧ (0 : Nat) = 0 ∧ (lC y).length = (lC y_4).length ∧ g.val.1 = g_1.val.1) ∧ (true = true ∧ NilNil ∧ (0 : Nat) = 0 ∧ (1 : Nat) = 1 ∧ (0 : Nat) = 0 ∧ (lC y).length
 = (lC y_4).length ∧ g.val.1 = g_1.val.1) ∧ (true = true ∧ NilNil ∧ (0 : Nat) = 0 ∧ (1 : Nat) = 1 ∧ (0 : Nat) = 0 ∧ (lC y).length = (lC y_4).length ∧ g.val.1 =
 g_1.val.1) ∧ (true = true ∧ NilNil ∧ (0 : Nat) = 0 ∧ (1 : Nat) = 1 ∧ (0 : Nat) = 0 ∧ (lC y).length = (lC y_4).length ∧ g.val.1 = g_1.val.1) ∧ True) ∧ ((3 :
 TypeId) = 3 ∧ (1 : Nat) = 1 ∧ g.val.1 = g_1.val.1 ∧ (lC y_4).length ≤ (lC y).length ∧ ∀ (i : Nat), i < (lC y_4).length → [AV.int .i64 ((lC y).getD i 0)] =
 [AV.int .i64 ((lC y_4).getD i 0)]) ∧ True) ∧ I64 ((↑t.1 : Int) + 1) ∧ Exx (Nat × AllocT) fun t' => (I t' ∧ m t' < m t) ∧ Tr 1 (((2 : Nat) = 2 ∧ x.2.length =
 x.2.length ∧ ∀ (i : Nat), i < x.2.length → [AV.int .i64 (x.2.getD i act18Z).kind, AV.int .i64 (x.2.getD i act18Z).at_] = [AV.int .i64 (x.2.getD i act18Z).kind,
 AV.int .i64 (x.2.getD i act18Z).at_]) ∧ Tr 3 ((true = true ∧ NilNil ∧ (0 : Nat) = 0) ∧ (true = true ∧ NilNil ∧ (0 : Nat) = 0) ∧ Tr 1 ((↑t.1 : Int) + 1 =
 (↑t'.fst : Int)) ∧ Tr 67 True)) ∧ true = true ∧ ((24 : TypeId) = 24 ∧ Tr 1 ((↑x.1.1 : Int) = (↑x.1.1 : Int)) ∧ ((1 : Nat) = 1 ∧ x.1.2.1.length = x.1.2.1.length
 ∧ ∀ (i : Nat), i < x.1.2.1.length → [AV.int .i64 (x.1.2.1.getD i 0)] = [AV.int .i64 (x.1.2.1.getD i 0)]) ∧ ((1 : Nat) = 1 ∧ x.1.2.2.1.length = x.1.2.2.1.length
 ∧ ∀ (i : Nat), i < x.1.2.2.1.length → [AV.int .i64 (x.1.2.2.1.getD i 0)] = [AV.int .i64 (x.1.2.2.1.getD i 0)]) ∧ Tr 1 (x.1.2.2.2 = x.1.2.2.2) ∧ True) ∧ allocB
 x_8 = allocB t'.snd ∧ refB y_4 = refB t'.snd ∧ True)) ∧ Exx AllocT fun x_8 => (((true = true ∧ NilNil ∧ (0 : Nat) = 0) ∧ True) ∧ true = true ∧ allocB x_6.1 =
 allocB x_8 ∧ True) ∧ AllocW x_8 ∧ ∀ (y_1 : Unit), True → Exx (Nat × Nat) fun x_9 => (((true = true ∧ NilNil ∧ (0 : Nat) = 0) ∧ True) ∧ true = true ∧ setB
 (x_8.n, x_8.w) = setB x_9 ∧ True) ∧ SetW x_9 ∧ ∀ (y_2 : Nat), (listN x_9).length ≤ y_2 → Exx (List Int × List Int) fun x_10 => (((0 + (listN x_9).length ≤
 (listN x_9).length ∧ (listN x_9).length = x_10.1.length ∧ ∀ (i : Nat), i < x_10.1.length → [AV.int .i64 ((listN x_9).getD (0 + i) 0)] = [AV.int .i64
 (x_10.1.getD i 0)]) ∧ (0 + (lC y).length ≤ (lC y).length ∧ (lC y).length = x_10.2.length ∧ ∀ (i : Nat), i < x_10.2.length → [AV.int .i64 ((lC y).getD (0 + i)
 0)] = [AV.int .i64 (x_10.2.getD i 0)]) ∧ True) ∧ true = true ∧ True) ∧ (IntL x_10.1 ∧ IntL x_10.2) ∧ ∀ (y_3 : Unit), True → BC (!decide (x_10.1 = x_10.2)) (Exx
 Unit fun y => ((false = true ∧ True) ∧ true = true ∧ True) ∧ True) (Exx AllocT fun y_4 => Exx (Subtype (RCap y_4 true true true)) fun g_1 => Tr 1 (((38 :
 TypeId) = 38 ∧ Tr 1 ((↑y.n : Int) = (↑y_4.n : Int)) ∧ Tr 1 (y.r = y_4.r) ∧ (true = true ∧ NilNil ∧ (0 : Nat) = 0 ∧ (1 : Nat) = 1 ∧ (0 : Nat) = 0 ∧ (lC y).length
 = (lC y_4).length ∧ g.val.1 = g_1.val.1) ∧ (true = true ∧ NilNil ∧ (0 : Nat) = 0 ∧ (1 : Nat) = 1 ∧ (0 : Nat) = 0 ∧ (lC y).length = (lC y_4).length ∧ g.val.1 =
 g_1.val.1) ∧ (true = true ∧ NilNil ∧ (0 : Nat) = 0 ∧ (1 : Nat) = 1 ∧ (0 : Nat) = 0 ∧ (lC y).length = (lC y_4).length ∧ g.val.1 = g_1.val.1) ∧ (true = true ∧
 NilNil ∧ (0 : Nat) = 0 ∧ (1 : Nat) = 1 ∧ (0 : Nat) = 0 ∧ (lC y).length = (lC y_4).length ∧ g.val.1 = g_1.val.1) ∧ True) ∧ ((3 : TypeId) = 3 ∧ (1 : Nat) = 1 ∧
 g.val.1 = g_1.val.1 ∧ (lC y_4).length ≤ (lC y).length ∧ ∀ (i : Nat), i < (lC y_4).length → [AV.int .i64 ((lC y).getD i 0)] = [AV.int .i64 ((lC y_4).getD i 0)])
 ∧ True) ∧ I64 ((↑t.1 : Int) + 1) ∧ Exx (Nat × AllocT) fun t' => (I t' ∧ m t' < m t) ∧ Tr 1 (((2 : Nat) = 2 ∧ x.2.length = x.2.length ∧ ∀ (i : Nat), i <
 x.2.length → [AV.int .i64 (x.2.getD i act18Z).kind, AV.int .i64 (x.2.getD i act18Z).at_] = [AV.int .i64 (x.2.getD i act18Z).kind, AV.int .i64 (x.2.getD i
 act18Z).at_]) ∧ Tr 3 ((true = true ∧ NilNil ∧ (0 : Nat) = 0) ∧ (true = true ∧ NilNil ∧ (0 : Nat) = 0) ∧ Tr 1 ((↑t.1 : Int) + 1 = (↑t'.fst : Int)) ∧ Tr 67 True))
 ∧ true = true ∧ ((24 : TypeId) = 24 ∧ Tr 1 ((↑x.1.1 : Int) = (↑x.1.1 : Int)) ∧ ((1 : Nat) = 1 ∧ x.1.2.1.length = x.1.2.1.length ∧ ∀ (i : Nat), i <
 x.1.2.1.length → [AV.int .i64 (x.1.2.1.getD i 0)] = [AV.int .i64 (x.1.2.1.getD i 0)]) ∧ ((1 : Nat) = 1 ∧ x.1.2.2.1.length = x.1.2.2.1.length ∧ ∀ (i : Nat), i <
 x.1.2.2.1.length → [AV.int .i64 (x.1.2.2.1.getD i 0)] = [AV.int .i64 (x.1.2.2.1.getD i 0)]) ∧ Tr 1 (x.1.2.2.2 = x.1.2.2.2) ∧ True) ∧ allocB x_8 = allocB t'.snd
 ∧ refB y_4 = refB t'.snd ∧ True))) ∧ (∀ (g : Subtype (RCap y true true false)), BC (!(hasN (x_6.1.n, x_6.1.w) x_6.2 && !hasN (x_6.1.n, x_6.1.m) x_6.2) == (hasN
 (x_7.1.n, x_7.1.w) x_7.2 && !hasN (x_7.1.n, x_7.1.m) x_7.2)) (Exx Unit fun y => ((false = true ∧ True) ∧ true = true ∧ True) ∧ True) ((Exx AllocT fun x_8 =>
 (((true = true ∧ NilNil ∧ (0 : Nat) = 0) ∧ True) ∧ true = true ∧ allocB x_6.1 = allocB x_8 ∧ True) ∧ AllocW x_8 ∧ ∀ (y_1 : Unit), True → (Exx (Nat × Nat) fun
 x_9 => (((true = true ∧ NilNil ∧ (0 : Nat) = 0) ∧ True) ∧ true = true ∧ setB (x_8.n, x_8.w) = setB x_9 ∧ True) ∧ SetW x_9 ∧ ∀ (y_2 : Nat), (listN x_9).length ≤
 y_2 → Exx (List Int × List Int) fun x_10 => (((0 + (listN x_9).length ≤ (listN x_9).length ∧ (listN x_9).length = x_10.1.length ∧ ∀ (i : Nat), i < x_10.1.length
 → [AV.int .i64 ((listN x_9).getD (0 + i) 0)] = [AV.int .i64 (x_10.1.getD i 0)]) ∧ (0 + (lW y).length ≤ (lW y).length ∧ (lW y).length = x_10.2.length ∧ ∀ (i :
 Nat), i < x_10.2.length → [AV.int .i64 ((lW y).getD (0 + i) 0)] = [AV.int .i64 (x_10.2.getD i 0)]) ∧ True) ∧ true = true ∧ True) ∧ (IntL x_10.1 ∧ IntL x_10.2) ∧
 ∀ (y_3 : Unit), True → BC (!decide (x_10.1 = x_10.2)) (Exx Unit fun y => ((false = true ∧ True) ∧ true = true ∧ True) ∧ True) (Exx AllocT fun y_4 => Exx
 (Subtype (RCap y_4 true true false)) fun g_1 => Tr 1 (((38 : TypeId) = 38 ∧ Tr 1 ((↑y.n : Int) = (↑y_4.n : Int)) ∧ Tr 1 (y.r = y_4.r) ∧ (true = true ∧ NilNil ∧
 (0 : Nat) = 0 ∧ (1 : Nat) = 1 ∧ (0 : Nat) = 0 ∧ (lC y).length = (lC y_4).length ∧ g.val.1 = g_1.val.1) ∧ (true = true ∧ NilNil ∧ (0 : Nat) = 0 ∧ (1 : Nat) = 1 ∧
 (0 : Nat) = 0 ∧ (lC y).length = (lC y_4).length ∧ g.val.1 = g_1.val.1) ∧ (true = true ∧ NilNil ∧ (0 : Nat) = 0 ∧ (1 : Nat) = 1 ∧ (0 : Nat) = 0 ∧ (lC y).length =
 (lC y_4).length ∧ g.val.1 = g_1.val.1) ∧ (true = true ∧ NilNil ∧ (0 : Nat) = 0 ∧ (1 : Nat) = 1 ∧ (0 : Nat) = 0 ∧ (lW y).length = (lW y_4).length ∧ g.val.2.2.2 =
 g_1.val.2.2.2) ∧ True) ∧ ((3 : TypeId) = 3 ∧ (1 : Nat) = 1 ∧ g.val.1 = g_1.val.1 ∧ (lC y_4).length ≤ (lC y).length ∧ ∀ (i : Nat), i < (lC y_4).length → [AV.int
 .i64 ((lC y).getD i 0)] = [AV.int .i64 ((lC y_4).getD i 0)]) ∧ ((3 : TypeId) = 3 ∧ (1 : Nat) = 1 ∧ g.val.2.2.2 = g_1.val.2.2.2 ∧ (lW y_4).length ≤ (lW y).length
 ∧ ∀ (i : Nat), i < (lW y_4).length → [AV.int .i64 ((lW y).getD i 0)] = [AV.int .i64 ((lW y_4).getD i 0)]) ∧ True) ∧ I64 ((↑t.1 : Int) + 1) ∧ Exx (Nat × AllocT)
 fun t' => (I t' ∧ m t' < m t) ∧ Tr 1 (((2 : Nat) = 2 ∧ x.2.length = x.2.length ∧ ∀ (i : Nat), i < x.2.length → [AV.int .i64 (x.2.getD i act18Z).kind, AV.int
 .i64 (x.2.getD i act18Z).at_] = [AV.int .i64 (x.2.getD i act18Z).kind, AV.int .i64 (x.2.getD i act18Z).at_]) ∧ Tr 3 ((true = true ∧ NilNil ∧ (0 : Nat) = 0) ∧
 (true = true ∧ NilNil ∧ (0 : Nat) = 0) ∧ Tr 1 ((↑t.1 : Int) + 1 = (↑t'.fst : Int)) ∧ Tr 67 True)) ∧ true = true ∧ ((24 : TypeId) = 24 ∧ Tr 1 ((↑x.1.1 : Int) =
 (↑x.1.1 : Int)) ∧ ((1 : Nat) = 1 ∧ x.1.2.1.length = x.1.2.1.length ∧ ∀ (i : Nat), i < x.1.2.1.length → [AV.int .i64 (x.1.2.1.getD i 0)] = [AV.int .i64
 (x.1.2.1.getD i 0)]) ∧ ((1 : Nat) = 1 ∧ x.1.2.2.1.length = x.1.2.2.1.length ∧ ∀ (i : Nat), i < x.1.2.2.1.length → [AV.int .i64 (x.1.2.2.1.getD i 0)] = [AV.int
 .i64 (x.1.2.2.1.getD i 0)]) ∧ Tr 1 (x.1.2.2.2 = x.1.2.2.2) ∧ True) ∧ allocB x_8 = allocB t'.snd ∧ refB y_4 = refB t'.snd ∧ True)) ∧ Exx (Nat × Nat) fun x_9 =>
 (((true = true ∧ NilNil ∧ (0 : Nat) = 0) ∧ True) ∧ true = true ∧ setB (x_8.n, x_8.w) = setB x_9 ∧ True) ∧ SetW x_9 ∧ ∀ (y_2 : Nat), (listN x_9).length ≤ y_2 →
 Exx (List Int × List Int) fun x_10 => (((0 + (listN x_9).length ≤ (listN x_9).length ∧ (listN x_9).length = x_10.1.length ∧ ∀ (i : Nat), i < x_10.1.length →
 [AV.int .i64 ((listN x_9).getD (0 + i) 0)] = [AV.int .i64 (x_10.1.getD i 0)]) ∧ (0 + (lW y).length ≤ (lW y).length ∧ (lW y).length = x_10.2.length ∧ ∀ (i :
 Nat), i < x_10.2.length → [AV.int .i64 ((lW y).getD (0 + i) 0)] = [AV.int .i64 (x_10.2.getD i 0)]) ∧ True) ∧ true = true ∧ True) ∧ (IntL x_10.1 ∧ IntL x_10.2) ∧
 ∀ (y_3 : Unit), True → BC (!decide (x_10.1 = x_10.2)) (Exx Unit fun y => ((false = true ∧ True) ∧ true = true ∧ True) ∧ True) (Exx AllocT fun y_4 => Exx
 (Subtype (RCap y_4 true true false)) fun g_1 => Tr 1 (((38 : TypeId) = 38 ∧ Tr 1 ((↑y.n : Int) = (↑y_4.n : Int)) ∧ Tr 1 (y.r = y_4.r) ∧ (true = true ∧ NilNil ∧
 (0 : Nat) = 0 ∧ (1 : Nat) = 1 ∧ (0 : Nat) = 0 ∧ (lC y).length = (lC y_4).length ∧ g.val.1 = g_1.val.1) ∧ (true = true ∧ NilNil ∧ (0 : Nat) = 0 ∧ (1 : Nat) = 1 ∧
 (0 : Nat) = 0 ∧ (lC y).length = (lC y_4).length ∧ g.val.1 = g_1.val.1) ∧ (true = true ∧ NilNil ∧ (0 : Nat) = 0 ∧ (1 : Nat) = 1 ∧ (0 : Nat) = 0 ∧ (lC y).length =
 (lC y_4).length ∧ g.val.1 = g_1.val.1) ∧ (true = true ∧ NilNil ∧ (0 : Nat) = 0 ∧ (1 : Nat) = 1 ∧ (0 : Nat) = 0 ∧ (lW y).length = (lW y_4).length ∧ g.val.2.2.2 =
 g_1.val.2.2.2) ∧ True) ∧ ((3 : TypeId) = 3 ∧ (1 : Nat) = 1 ∧ g.val.1 = g_1.val.1 ∧ (lC y_4).length ≤ (lC y).length ∧ ∀ (i : Nat), i < (lC y_4).length → [AV.int
 .i64 ((lC y).getD i 0)] = [AV.int .i64 ((lC y_4).getD i 0)]) ∧ ((3 : TypeId) = 3 ∧ (1 : Nat) = 1 ∧ g.val.2.2.2 = g_1.val.2.2.2 ∧ (lW y_4).length ≤ (lW y).length
 ∧ ∀ (i : Nat), i < (lW y_4).length → [AV.int .i64 ((lW y).getD i 0)] = [AV.int .i64 ((lW y_4).getD i 0)]) ∧ True) ∧ I64 ((↑t.1 : Int) + 1) ∧ Exx (Nat × AllocT)
 fun t' => (I t' ∧ m t' < m t) ∧ Tr 1 (((2 : Nat) = 2 ∧ x.2.length = x.2.length ∧ ∀ (i : Nat), i < x.2.length → [AV.int .i64 (x.2.getD i act18Z).kind, AV.int
 .i64 (x.2.getD i act18Z).at_] = [AV.int .i64 (x.2.getD i act18Z).kind, AV.int .i64 (x.2.getD i act18Z).at_]) ∧ Tr 3 ((true = true ∧ NilNil ∧ (0 : Nat) = 0) ∧
 (true = true ∧ NilNil ∧ (0 : Nat) = 0) ∧ Tr 1 ((↑t.1 : Int) + 1 = (↑t'.fst : Int)) ∧ Tr 67 True)) ∧ true = true ∧ ((24 : TypeId) = 24 ∧ Tr 1 ((↑x.1.1 : Int) =
 (↑x.1.1 : Int)) ∧ ((1 : Nat) = 1 ∧ x.1.2.1.length = x.1.2.1.length ∧ ∀ (i : Nat), i < x.1.2.1.length → [AV.int .i64 (x.1.2.1.getD i 0)] = [AV.int .i64
 (x.1.2.1.getD i 0)]) ∧ ((1 : Nat) = 1 ∧ x.1.2.2.1.length = x.1.2.2.1.length ∧ ∀ (i : Nat), i < x.1.2.2.1.length → [AV.int .i64 (x.1.2.2.1.getD i 0)] = [AV.int
 .i64 (x.1.2.2.1.getD i 0)]) ∧ Tr 1 (x.1.2.2.2 = x.1.2.2.2) ∧ True) ∧ allocB x_8 = allocB t'.snd ∧ refB y_4 = refB t'.snd ∧ True)) ∧ Exx AllocT fun x_8 =>
 (((true = true ∧ NilNil ∧ (0 : Nat) = 0) ∧ True) ∧ true = true ∧ allocB x_6.1 = allocB x_8 ∧ True) ∧ AllocW x_8 ∧ ∀ (y_1 : Unit), True → Exx (Nat × Nat) fun x_9
 => (((true = true ∧ NilNil ∧ (0 : Nat) = 0) ∧ True) ∧ true = true ∧ setB (x_8.n, x_8.w) = setB x_9 ∧ True) ∧ SetW x_9 ∧ ∀ (y_2 : Nat), (listN x_9).length ≤ y_2
 → Exx (List Int × List Int) fun x_10 => (((0 + (listN x_9).length ≤ (listN x_9).length ∧ (listN x_9).length = x_10.1.length ∧ ∀ (i : Nat), i < x_10.1.length →
 [AV.int .i64 ((listN x_9).getD (0 + i) 0)] = [AV.int .i64 (x_10.1.getD i 0)]) ∧ (0 + (lW y).length ≤ (lW y).length ∧ (lW y).length = x_10.2.length ∧ ∀ (i :
 Nat), i < x_10.2.length → [AV.int .i64 ((lW y).getD (0 + i) 0)] = [AV.int .i64 (x_10.2.getD i 0)]) ∧ True) ∧ true = true ∧ True) ∧ (IntL x_10.1 ∧ IntL x_10.2) ∧
 ∀ (y_3 : Unit), True → BC (!decide (x_10.1 = x_10.2)) (Exx Unit fun y => ((false = true ∧ True) ∧ true = true ∧ True) ∧ True) (Exx AllocT fun y_4 => Exx
 (Subtype (RCap y_4 true true false)) fun g_1 => Tr 1 (((38 : TypeId) = 38 ∧ Tr 1 ((↑y.n : Int) = (↑y_4.n : Int)) ∧ Tr 1 (y.r = y_4.r) ∧ (true = true ∧ NilNil ∧
 (0 : Nat) = 0 ∧ (1 : Nat) = 1 ∧ (0 : Nat) = 0 ∧ (lC y).length = (lC y_4).length ∧ g.val.1 = g_1.val.1) ∧ (true = true ∧ NilNil ∧ (0 : Nat) = 0 ∧ (1 : Nat) = 1 ∧
 (0 : Nat) = 0 ∧ (lC y).length = (lC y_4).length ∧ g.val.1 = g_1.val.1) ∧ (true = true ∧ NilNil ∧ (0 : Nat) = 0 ∧ (1 : Nat) = 1 ∧ (0 : Nat) = 0 ∧ (lC y).length =
 (lC y_4).length ∧ g.val.1 = g_1.val.1) ∧ (true = true ∧ NilNil ∧ (0 : Nat) = 0 ∧ (1 : Nat) = 1 ∧ (0 : Nat) = 0 ∧ (lW y).length = (lW y_4).length ∧ g.val.2.2.2 =
 g_1.val.2.2.2) ∧ True) ∧ ((3 : TypeId) = 3 ∧ (1 : Nat) = 1 ∧ g.val.1 = g_1.val.1 ∧ (lC y_4).length ≤ (lC y).length ∧ ∀ (i : Nat), i < (lC y_4).length → [AV.int
 .i64 ((lC y).getD i 0)] = [AV.int .i64 ((lC y_4).getD i 0)]) ∧ ((3 : TypeId) = 3 ∧ (1 : Nat) = 1 ∧ g.val.2.2.2 = g_1.val.2.2.2 ∧ (lW y_4).length ≤ (lW y).length
 ∧ ∀ (i : Nat), i < (lW y_4).length → [AV.int .i64 ((lW y).getD i 0)] = [AV.int .i64 ((lW y_4).getD i 0)]) ∧ True) ∧ I64 ((↑t.1 : Int) + 1) ∧ Exx (Nat × AllocT)
 fun t' => (I t' ∧ m t' < m t) ∧ Tr 1 (((2 : Nat) = 2 ∧ x.2.length = x.2.length ∧ ∀ (i : Nat), i < x.2.length → [AV.int .i64 (x.2.getD i act18Z).kind, AV.int
 .i64 (x.2.getD i act18Z).at_] = [AV.int .i64 (x.2.getD i act18Z).kind, AV.int .i64 (x.2.getD i act18Z).at_]) ∧ Tr 3 ((true = true ∧ NilNil ∧ (0 : Nat) = 0) ∧
 (true = true ∧ NilNil ∧ (0 : Nat) = 0) ∧ Tr 1 ((↑t.1 : Int) + 1 = (↑t'.fst : Int)) ∧ Tr 67 True)) ∧ true = true ∧ ((24 : TypeId) = 24 ∧ Tr 1 ((↑x.1.1 : Int) =
 (↑x.1.1 : Int)) ∧ ((1 : Nat) = 1 ∧ x.1.2.1.length = x.1.2.1.length ∧ ∀ (i : Nat), i < x.1.2.1.length → [AV.int .i64 (x.1.2.1.getD i 0)] = [AV.int .i64
 (x.1.2.1.getD i 0)]) ∧ ((1 : Nat) = 1 ∧ x.1.2.2.1.length = x.1.2.2.1.length ∧ ∀ (i : Nat), i < x.1.2.2.1.length → [AV.int .i64 (x.1.2.2.1.getD i 0)] = [AV.int
 .i64 (x.1.2.2.1.getD i 0)]) ∧ Tr 1 (x.1.2.2.2 = x.1.2.2.2) ∧ True) ∧ allocB x_8 = allocB t'.snd ∧ refB y_4 = refB t'.snd ∧ True))) ∧ (∀ (g : Subtype (RCap y
 true false true)), BC (!(hasN (x_6.1.n, x_6.1.w) x_6.2 && !hasN (x_6.1.n, x_6.1.m) x_6.2) == (hasN (x_7.1.n, x_7.1.w) x_7.2 && !hasN (x_7.1.n, x_7.1.m) x_7.2))
 (Exx Unit fun y => ((false = true ∧ True) ∧ true = true ∧ True) ∧ True) ((Exx AllocT fun x_8 => (((true = true ∧ NilNil ∧ (0 : Nat) = 0) ∧ True) ∧ true = true ∧
 allocB x_6.1 = allocB x_8 ∧ True) ∧ AllocW x_8 ∧ ∀ (y_1 : Unit), True → (Exx (Nat × Nat) fun x_9 => (((true = true ∧ NilNil ∧ (0 : Nat) = 0) ∧ True) ∧ true =
 true ∧ setB (x_8.n, x_8.w) = setB x_9 ∧ True) ∧ SetW x_9 ∧ ∀ (y_2 : Nat), (listN x_9).length ≤ y_2 → Exx (List Int × List Int) fun x_10 => (((0 + (listN
 x_9).length ≤ (listN x_9).length ∧ (listN x_9).length = x_10.1.length ∧ ∀ (i : Nat), i < x_10.1.length → [AV.int .i64 ((listN x_9).getD (0 + i) 0)] = [AV.int
 .i64 (x_10.1.getD i 0)]) ∧ (0 + (lM y).length ≤ (lM y).length ∧ (lM y).length = x_10.2.length ∧ ∀ (i : Nat), i < x_10.2.length → [AV.int .i64 ((lM y).getD (0 +
 i) 0)] = [AV.int .i64 (x_10.2.getD i 0)]) ∧ True) ∧ true = true ∧ True) ∧ (IntL x_10.1 ∧ IntL x_10.2) ∧ ∀ (y_3 : Unit), True → BC (!decide (x_10.1 = x_10.2))
 (Exx Unit fun y => ((false = true ∧ True) ∧ true = true ∧ True) ∧ True) (Exx AllocT fun y_4 => Exx (Subtype (RCap y_4 true false true)) fun g_1 => Tr 1 (((38 :
 TypeId) = 38 ∧ Tr 1 ((↑y.n : Int) = (↑y_4.n : Int)) ∧ Tr 1 (y.r = y_4.r) ∧ (true = true ∧ NilNil ∧ (0 : Nat) = 0 ∧ (1 : Nat) = 1 ∧ (0 : Nat) = 0 ∧ (lC y).length
 = (lC y_4).length ∧ g.val.1 = g_1.val.1) ∧ (true = true ∧ NilNil ∧ (0 : Nat) = 0 ∧ (1 : Nat) = 1 ∧ (0 : Nat) = 0 ∧ (lC y).length = (lC y_4).length ∧ g.val.1 =
 g_1.val.1) ∧ (true = true ∧ NilNil ∧ (0 : Nat) = 0 ∧ (1 : Nat) = 1 ∧ (0 : Nat) = 0 ∧ (lM y).length = (lM y_4).length ∧ g.val.2.2.1 = g_1.val.2.2.1) ∧ (true =
 true ∧ NilNil ∧ (0 : Nat) = 0 ∧ (1 : Nat) = 1 ∧ (0 : Nat) = 0 ∧ (lM y).length = (lM y_4).length ∧ g.val.2.2.1 = g_1.val.2.2.1) ∧ True) ∧ ((3 : TypeId) = 3 ∧ (1
 : Nat) = 1 ∧ g.val.1 = g_1.val.1 ∧ (lC y_4).length ≤ (lC y).length ∧ ∀ (i : Nat), i < (lC y_4).length → [AV.int .i64 ((lC y).getD i 0)] = [AV.int .i64 ((lC
 y_4).getD i 0)]) ∧ ((3 : TypeId) = 3 ∧ (1 : Nat) = 1 ∧ g.val.2.2.1 = g_1.val.2.2.1 ∧ (lM y_4).length ≤ (lM y).length ∧ ∀ (i : Nat), i < (lM y_4).length →
 [AV.int .i64 ((lM y).getD i 0)] = [AV.int .i64 ((lM y_4).getD i 0)]) ∧ True) ∧ I64 ((↑t.1 : Int) + 1) ∧ Exx (Nat × AllocT) fun t' => (I t' ∧ m t' < m t) ∧ Tr 1
 (((2 : Nat) = 2 ∧ x.2.length = x.2.length ∧ ∀ (i : Nat), i < x.2.length → [AV.int .i64 (x.2.getD i act18Z).kind, AV.int .i64 (x.2.getD i act18Z).at_] = [AV.int
 .i64 (x.2.getD i act18Z).kind, AV.int .i64 (x.2.getD i act18Z).at_]) ∧ Tr 3 ((true = true ∧ NilNil ∧ (0 : Nat) = 0) ∧ (true = true ∧ NilNil ∧ (0 : Nat) = 0) ∧
 Tr 1 ((↑t.1 : Int) + 1 = (↑t'.fst : Int)) ∧ Tr 67 True)) ∧ true = true ∧ ((24 : TypeId) = 24 ∧ Tr 1 ((↑x.1.1 : Int) = (↑x.1.1 : Int)) ∧ ((1 : Nat) = 1 ∧
 x.1.2.1.length = x.1.2.1.length ∧ ∀ (i : Nat), i < x.1.2.1.length → [AV.int .i64 (x.1.2.1.getD i 0)] = [AV.int .i64 (x.1.2.1.getD i 0)]) ∧ ((1 : Nat) = 1 ∧
 x.1.2.2.1.length = x.1.2.2.1.length ∧ ∀ (i : Nat), i < x.1.2.2.1.length → [AV.int .i64 (x.1.2.2.1.getD i 0)] = [AV.int .i64 (x.1.2.2.1.getD i 0)]) ∧ Tr 1
 (x.1.2.2.2 = x.1.2.2.2) ∧ True) ∧ allocB x_8 = allocB t'.snd ∧ refB y_4 = refB t'.snd ∧ True)) ∧ Exx (Nat × Nat) fun x_9 => (((true = true ∧ NilNil ∧ (0 : Nat)
 = 0) ∧ True) ∧ true = true ∧ setB (x_8.n, x_8.w) = setB x_9 ∧ True) ∧ SetW x_9 ∧ ∀ (y_2 : Nat), (listN x_9).length ≤ y_2 → Exx (List Int × List Int) fun x_10 =>
 (((0 + (listN x_9).length ≤ (listN x_9).length ∧ (listN x_9).length = x_10.1.length ∧ ∀ (i : Nat), i < x_10.1.length → [AV.int .i64 ((listN x_9).getD (0 + i)
 0)] = [AV.int .i64 (x_10.1.getD i 0)]) ∧ (0 + (lM y).length ≤ (lM y).length ∧ (lM y).length = x_10.2.length ∧ ∀ (i : Nat), i < x_10.2.length → [AV.int .i64 ((lM
 y).getD (0 + i) 0)] = [AV.int .i64 (x_10.2.getD i 0)]) ∧ True) ∧ true = true ∧ True) ∧ (IntL x_10.1 ∧ IntL x_10.2) ∧ ∀ (y_3 : Unit), True → BC (!decide (x_10.1
 = x_10.2)) (Exx Unit fun y => ((false = true ∧ True) ∧ true = true ∧ True) ∧ True) (Exx AllocT fun y_4 => Exx (Subtype (RCap y_4 true false true)) fun g_1 => Tr
 1 (((38 : TypeId) = 38 ∧ Tr 1 ((↑y.n : Int) = (↑y_4.n : Int)) ∧ Tr 1 (y.r = y_4.r) ∧ (true = true ∧ NilNil ∧ (0 : Nat) = 0 ∧ (1 : Nat) = 1 ∧ (0 : Nat) = 0 ∧ (lC
 y).length = (lC y_4).length ∧ g.val.1 = g_1.val.1) ∧ (true = true ∧ NilNil ∧ (0 : Nat) = 0 ∧ (1 : Nat) = 1 ∧ (0 : Nat) = 0 ∧ (lC y).length = (lC y_4).length ∧
 g.val.1 = g_1.val.1) ∧ (true = true ∧ NilNil ∧ (0 : Nat) = 0 ∧ (1 : Nat) = 1 ∧ (0 : Nat) = 0 ∧ (lM y).length = (lM y_4).length ∧ g.val.2.2.1 = g_1.val.2.2.1) ∧
 (true = true ∧ NilNil ∧ (0 : Nat) = 0 ∧ (1 : Nat) = 1 ∧ (0 : Nat) = 0 ∧ (lM y).length = (lM y_4).length ∧ g.val.2.2.1 = g_1.val.2.2.1) ∧ True) ∧ ((3 : TypeId) =
 3 ∧ (1 : Nat) = 1 ∧ g.val.1 = g_1.val.1 ∧ (lC y_4).length ≤ (lC y).length ∧ ∀ (i : Nat), i < (lC y_4).length → [AV.int .i64 ((lC y).getD i 0)] = [AV.int .i64
 ((lC y_4).getD i 0)]) ∧ ((3 : TypeId) = 3 ∧ (1 : Nat) = 1 ∧ g.val.2.2.1 = g_1.val.2.2.1 ∧ (lM y_4).length ≤ (lM y).length ∧ ∀ (i : Nat), i < (lM y_4).length →
 [AV.int .i64 ((lM y).getD i 0)] = [AV.int .i64 ((lM y_4).getD i 0)]) ∧ True) ∧ I64 ((↑t.1 : Int) + 1) ∧ Exx (Nat × AllocT) fun t' => (I t' ∧ m t' < m t) ∧ Tr 1
 (((2 : Nat) = 2 ∧ x.2.length = x.2.length ∧ ∀ (i : Nat), i < x.2.length → [AV.int .i64 (x.2.getD i act18Z).kind, AV.int .i64 (x.2.getD i act18Z).at_] = [AV.int
 .i64 (x.2.getD i act18Z).kind, AV.int .i64 (x.2.getD i act18Z).at_]) ∧ Tr 3 ((true = true ∧ NilNil ∧ (0 : Nat) = 0) ∧ (true = true ∧ NilNil ∧ (0 : Nat) = 0) ∧
 Tr 1 ((↑t.1 : Int) + 1 = (↑t'.fst : Int)) ∧ Tr 67 True)) ∧ true = true ∧ ((24 : TypeId) = 24 ∧ Tr 1 ((↑x.1.1 : Int) = (↑x.1.1 : Int)) ∧ ((1 : Nat) = 1 ∧
 x.1.2.1.length = x.1.2.1.length ∧ ∀ (i : Nat), i < x.1.2.1.length → [AV.int .i64 (x.1.2.1.getD i 0)] = [AV.int .i64 (x.1.2.1.getD i 0)]) ∧ ((1 : Nat) = 1 ∧
 x.1.2.2.1.length = x.1.2.2.1.length ∧ ∀ (i : Nat), i < x.1.2.2.1.length → [AV.int .i64 (x.1.2.2.1.getD i 0)] = [AV.int .i64 (x.1.2.2.1.getD i 0)]) ∧ Tr 1
 (x.1.2.2.2 = x.1.2.2.2) ∧ True) ∧ allocB x_8 = allocB t'.snd ∧ refB y_4 = refB t'.snd ∧ True)) ∧ Exx AllocT fun x_8 => (((true = true ∧ NilNil ∧ (0 : Nat) = 0)
 ∧ True) ∧ true = true ∧ allocB x_6.1 = allocB x_8 ∧ True) ∧ AllocW x_8 ∧ ∀ (y_1 : Unit), True → Exx (Nat × Nat) fun x_9 => (((true = true ∧ NilNil ∧ (0 : Nat) =
 0) ∧ True) ∧ true = true ∧ setB (x_8.n, x_8.w) = setB x_9 ∧ True) ∧ SetW x_9 ∧ ∀ (y_2 : Nat), (listN x_9).length ≤ y_2 → Exx (List Int × List Int) fun x_10 =>
 (((0 + (listN x_9).length ≤ (listN x_9).length ∧ (listN x_9).length = x_10.1.length ∧ ∀ (i : Nat), i < x_10.1.length → [AV.int .i64 ((listN x_9).getD (0 + i)
 0)] = [AV.int .i64 (x_10.1.getD i 0)]) ∧ (0 + (lM y).length ≤ (lM y).length ∧ (lM y).length = x_10.2.length ∧ ∀ (i : Nat), i < x_10.2.length → [AV.int .i64 ((lM
 y).getD (0 + i) 0)] = [AV.int .i64 (x_10.2.getD i 0)]) ∧ True) ∧ true = true ∧ True) ∧ (IntL x_10.1 ∧ IntL x_10.2) ∧ ∀ (y_3 : Unit), True → BC (!decide (x_10.1
 = x_10.2)) (Exx Unit fun y => ((false = true ∧ True) ∧ true = true ∧ True) ∧ True) (Exx AllocT fun y_4 => Exx (Subtype (RCap y_4 true false true)) fun g_1 => Tr
 1 (((38 : TypeId) = 38 ∧ Tr 1 ((↑y.n : Int) = (↑y_4.n : Int)) ∧ Tr 1 (y.r = y_4.r) ∧ (true = true ∧ NilNil ∧ (0 : Nat) = 0 ∧ (1 : Nat) = 1 ∧ (0 : Nat) = 0 ∧ (lC
 y).length = (lC y_4).length ∧ g.val.1 = g_1.val.1) ∧ (true = true ∧ NilNil ∧ (0 : Nat) = 0 ∧ (1 : Nat) = 1 ∧ (0 : Nat) = 0 ∧ (lC y).length = (lC y_4).length ∧
 g.val.1 = g_1.val.1) ∧ (true = true ∧ NilNil ∧ (0 : Nat) = 0 ∧ (1 : Nat) = 1 ∧ (0 : Nat) = 0 ∧ (lM y).length = (lM y_4).length ∧ g.val.2.2.1 = g_1.val.2.2.1) ∧
 (true = true ∧ NilNil ∧ (0 : Nat) = 0 ∧ (1 : Nat) = 1 ∧ (0 : Nat) = 0 ∧ (lM y).length = (lM y_4).length ∧ g.val.2.2.1 = g_1.val.2.2.1) ∧ True) ∧ ((3 : TypeId) =
 3 ∧ (1 : Nat) = 1 ∧ g.val.1 = g_1.val.1 ∧ (lC y_4).length ≤ (lC y).length ∧ ∀ (i : Nat), i < (lC y_4).length → [AV.int .i64 ((lC y).getD i 0)] = [AV.int .i64
 ((lC y_4).getD i 0)]) ∧ ((3 : TypeId) = 3 ∧ (1 : Nat) = 1 ∧ g.val.2.2.1 = g_1.val.2.2.1 ∧ (lM y_4).length ≤ (lM y).length ∧ ∀ (i : Nat), i < (lM y_4).length →
 [AV.int .i64 ((lM y).getD i 0)] = [AV.int .i64 ((lM y_4).getD i 0)]) ∧ True) ∧ I64 ((↑t.1 : Int) + 1) ∧ Exx (Nat × AllocT) fun t' => (I t' ∧ m t' < m t) ∧ Tr 1
 (((2 : Nat) = 2 ∧ x.2.length = x.2.length ∧ ∀ (i : Nat), i < x.2.length → [AV.int .i64 (x.2.getD i act18Z).kind, AV.int .i64 (x.2.getD i act18Z).at_] = [AV.int
 .i64 (x.2.getD i act18Z).kind, AV.int .i64 (x.2.getD i act18Z).at_]) ∧ Tr 3 ((true = true ∧ NilNil ∧ (0 : Nat) = 0) ∧ (true = true ∧ NilNil ∧ (0 : Nat) = 0) ∧
 Tr 1 ((↑t.1 : Int) + 1 = (↑t'.fst : Int)) ∧ Tr 67 True)) ∧ true = true ∧ ((24 : TypeId) = 24 ∧ Tr 1 ((↑x.1.1 : Int) = (↑x.1.1 : Int)) ∧ ((1 : Nat) = 1 ∧
 x.1.2.1.length = x.1.2.1.length ∧ ∀ (i : Nat), i < x.1.2.1.length → [AV.int .i64 (x.1.2.1.getD i 0)] = [AV.int .i64 (x.1.2.1.getD i 0)]) ∧ ((1 : Nat) = 1 ∧
 x.1.2.2.1.length = x.1.2.2.1.length ∧ ∀ (i : Nat), i < x.1.2.2.1.length → [AV.int .i64 (x.1.2.2.1.getD i 0)] = [AV.int .i64 (x.1.2.2.1.getD i 0)]) ∧ Tr 1
 (x.1.2.2.2 = x.1.2.2.2) ∧ True) ∧ allocB x_8 = allocB t'.snd ∧ refB y_4 = refB t'.snd ∧ True))) ∧ (∀ (g : Subtype (RCap y true false false)), BC (!(hasN
 (x_6.1.n, x_6.1.w) x_6.2 && !hasN (x_6.1.n, x_6.1.m) x_6.2) == (hasN (x_7.1.n, x_7.1.w) x_7.2 && !hasN (x_7.1.n, x_7.1.m) x_7.2)) (Exx Unit fun y => ((false =
 true ∧ True) ∧ true = true ∧ True) ∧ True) ((Exx AllocT fun x_8 => (((true = true ∧ NilNil ∧ (0 : Nat) = 0) ∧ True) ∧ true = true ∧ allocB x_6.1 = allocB x_8 ∧
 True) ∧ AllocW x_8 ∧ ∀ (y_1 : Unit), True → (Exx (Nat × Nat) fun x_9 => (((true = true ∧ NilNil ∧ (0 : Nat) = 0) ∧ True) ∧ true = true ∧ setB (x_8.n, x_8.w) =
 setB x_9 ∧ True) ∧ SetW x_9 ∧ ∀ (y_2 : Nat), (listN x_9).length ≤ y_2 → Exx (List Int × List Int) fun x_10 => (((0 + (listN x_9).length ≤ (listN x_9).length ∧
 (listN x_9).length = x_10.1.length ∧ ∀ (i : Nat), i < x_10.1.length → [AV.int .i64 ((listN x_9).getD (0 + i) 0)] = [AV.int .i64 (x_10.1.getD i 0)]) ∧ (0 + (lW
 y).length ≤ (lW y).length ∧ (lW y).length = x_10.2.length ∧ ∀ (i : Nat), i < x_10.2.length → [AV.int .i64 ((lW y).getD (0 + i) 0)] = [AV.int .i64 (x_10.2.getD i
 0)]) ∧ True) ∧ true = true ∧ True) ∧ (IntL x_10.1 ∧ IntL x_10.2) ∧ ∀ (y_3 : Unit), True → BC (!decide (x_10.1 = x_10.2)) (Exx Unit fun y => ((false = true ∧
 True) ∧ true = true ∧ True) ∧ True) (Exx AllocT fun y_4 => Exx (Subtype (RCap y_4 true false false)) fun g_1 => Tr 1 (((38 : TypeId) = 38 ∧ Tr 1 ((↑y.n : Int) =
 (↑y_4.n : Int)) ∧ Tr 1 (y.r = y_4.r) ∧ (true = true ∧ NilNil ∧ (0 : Nat) = 0 ∧ (1 : Nat) = 1 ∧ (0 : Nat) = 0 ∧ (lC y).length = (lC y_4).length ∧ g.val.1 =
 g_1.val.1) ∧ (true = true ∧ NilNil ∧ (0 : Nat) = 0 ∧ (1 : Nat) = 1 ∧ (0 : Nat) = 0 ∧ (lC y).length = (lC y_4).length ∧ g.val.1 = g_1.val.1) ∧ (true = true ∧
 NilNil ∧ (0 : Nat) = 0 ∧ (1 : Nat) = 1 ∧ (0 : Nat) = 0 ∧ (lM y).length = (lM y_4).length ∧ g.val.2.2.1 = g_1.val.2.2.1) ∧ (true = true ∧ NilNil ∧ (0 : Nat) = 0
 ∧ (1 : Nat) = 1 ∧ (0 : Nat) = 0 ∧ (lW y).length = (lW y_4).length ∧ g.val.2.2.2 = g_1.val.2.2.2) ∧ True) ∧ ((3 : TypeId) = 3 ∧ (1 : Nat) = 1 ∧ g.val.1 =
 g_1.val.1 ∧ (lC y_4).length ≤ (lC y).length ∧ ∀ (i : Nat), i < (lC y_4).length → [AV.int .i64 ((lC y).getD i 0)] = [AV.int .i64 ((lC y_4).getD i 0)]) ∧ ((3 :
 TypeId) = 3 ∧ (1 : Nat) = 1 ∧ g.val.2.2.1 = g_1.val.2.2.1 ∧ (lM y_4).length ≤ (lM y).length ∧ ∀ (i : Nat), i < (lM y_4).length → [AV.int .i64 ((lM y).getD i 0)]
 = [AV.int .i64 ((lM y_4).getD i 0)]) ∧ ((3 : TypeId) = 3 ∧ (1 : Nat) = 1 ∧ g.val.2.2.2 = g_1.val.2.2.2 ∧ (lW y_4).length ≤ (lW y).length ∧ ∀ (i : Nat), i < (lW
 y_4).length → [AV.int .i64 ((lW y).getD i 0)] = [AV.int .i64 ((lW y_4).getD i 0)]) ∧ True) ∧ I64 ((↑t.1 : Int) + 1) ∧ Exx (Nat × AllocT) fun t' => (I t' ∧ m t'
 < m t) ∧ Tr 1 (((2 : Nat) = 2 ∧ x.2.length = x.2.length ∧ ∀ (i : Nat), i < x.2.length → [AV.int .i64 (x.2.getD i act18Z).kind, AV.int .i64 (x.2.getD i
 act18Z).at_] = [AV.int .i64 (x.2.getD i act18Z).kind, AV.int .i64 (x.2.getD i act18Z).at_]) ∧ Tr 3 ((true = true ∧ NilNil ∧ (0 : Nat) = 0) ∧ (true = true ∧
 NilNil ∧ (0 : Nat) = 0) ∧ Tr 1 ((↑t.1 : Int) + 1 = (↑t'.fst : Int)) ∧ Tr 67 True)) ∧ true = true ∧ ((24 : TypeId) = 24 ∧ Tr 1 ((↑x.1.1 : Int) = (↑x.1.1 : Int))
 ∧ ((1 : Nat) = 1 ∧ x.1.2.1.length = x.1.2.1.length ∧ ∀ (i : Nat), i < x.1.2.1.length → [AV.int .i64 (x.1.2.1.getD i 0)] = [AV.int .i64 (x.1.2.1.getD i 0)]) ∧
 ((1 : Nat) = 1 ∧ x.1.2.2.1.length = x.1.2.2.1.length ∧ ∀ (i : Nat), i < x.1.2.2.1.length → [AV.int .i64 (x.1.2.2.1.getD i 0)] = [AV.int .i64 (x.1.2.2.1.getD i
 0)]) ∧ Tr 1 (x.1.2.2.2 = x.1.2.2.2) ∧ True) ∧ allocB x_8 = allocB t'.snd ∧ refB y_4 = refB t'.snd ∧ True)) ∧ Exx (Nat × Nat) fun x_9 => (((true = true ∧ NilNil
 ∧ (0 : Nat) = 0) ∧ True) ∧ true = true ∧ setB (x_8.n, x_8.w) = setB x_9 ∧ True) ∧ SetW x_9 ∧ ∀ (y_2 : Nat), (listN x_9).length ≤ y_2 → Exx (List Int × List Int)
 fun x_10 => (((0 + (listN x_9).length ≤ (listN x_9).length ∧ (listN x_9).length = x_10.1.length ∧ ∀ (i : Nat), i < x_10.1.length → [AV.int .i64 ((listN
 x_9).getD (0 + i) 0)] = [AV.int .i64 (x_10.1.getD i 0)]) ∧ (0 + (lW y).length ≤ (lW y).length ∧ (lW y).length = x_10.2.length ∧ ∀ (i : Nat), i < x_10.2.length →
 [AV.int .i64 ((lW y).getD (0 + i) 0)] = [AV.int .i64 (x_10.2.getD i 0)]) ∧ True) ∧ true = true ∧ True) ∧ (IntL x_10.1 ∧ IntL x_10.2) ∧ ∀ (y_3 : Unit), True → BC
 (!decide (x_10.1 = x_10.2)) (Exx Unit fun y => ((false = true ∧ True) ∧ true = true ∧ True) ∧ True) (Exx AllocT fun y_4 => Exx (Subtype (RCap y_4 true false
 false)) fun g_1 => Tr 1 (((38 : TypeId) = 38 ∧ Tr 1 ((↑y.n : Int) = (↑y_4.n : Int)) ∧ Tr 1 (y.r = y_4.r) ∧ (true = true ∧ NilNil ∧ (0 : Nat) = 0 ∧ (1 : Nat) = 1
 ∧ (0 : Nat) = 0 ∧ (lC y).length = (lC y_4).length ∧ g.val.1 = g_1.val.1) ∧ (true = true ∧ NilNil ∧ (0 : Nat) = 0 ∧ (1 : Nat) = 1 ∧ (0 : Nat) = 0 ∧ (lC y).length
 = (lC y_4).length ∧ g.val.1 = g_1.val.1) ∧ (true = true ∧ NilNil ∧ (0 : Nat) = 0 ∧ (1 : Nat) = 1 ∧ (0 : Nat) = 0 ∧ (lM y).length = (lM y_4).length ∧ g.val.2.2.1
 = g_1.val.2.2.1) ∧ (true = true ∧ NilNil ∧ (0 : Nat) = 0 ∧ (1 : Nat) = 1 ∧ (0 : Nat) = 0 ∧ (lW y).length = (lW y_4).length ∧ g.val.2.2.2 = g_1.val.2.2.2) ∧
 True) ∧ ((3 : TypeId) = 3 ∧ (1 : Nat) = 1 ∧ g.val.1 = g_1.val.1 ∧ (lC y_4).length ≤ (lC y).length ∧ ∀ (i : Nat), i < (lC y_4).length → [AV.int .i64 ((lC y).getD
 i 0)] = [AV.int .i64 ((lC y_4).getD i 0)]) ∧ ((3 : TypeId) = 3 ∧ (1 : Nat) = 1 ∧ g.val.2.2.1 = g_1.val.2.2.1 ∧ (lM y_4).length ≤ (lM y).length ∧ ∀ (i : Nat), i
 < (lM y_4).length → [AV.int .i64 ((lM y).getD i 0)] = [AV.int .i64 ((lM y_4).getD i 0)]) ∧ ((3 : TypeId) = 3 ∧ (1 : Nat) = 1 ∧ g.val.2.2.2 = g_1.val.2.2.2 ∧ (lW
 y_4).length ≤ (lW y).length ∧ ∀ (i : Nat), i < (lW y_4).length → [AV.int .i64 ((lW y).getD i 0)] = [AV.int .i64 ((lW y_4).getD i 0)]) ∧ True) ∧ I64 ((↑t.1 :
 Int) + 1) ∧ Exx (Nat × AllocT) fun t' => (I t' ∧ m t' < m t) ∧ Tr 1 (((2 : Nat) = 2 ∧ x.2.length = x.2.length ∧ ∀ (i : Nat), i < x.2.length → [AV.int .i64
 (x.2.getD i act18Z).kind, AV.int .i64 (x.2.getD i act18Z).at_] = [AV.int .i64 (x.2.getD i act18Z).kind, AV.int .i64 (x.2.getD i act18Z).at_]) ∧ Tr 3 ((true =
 true ∧ NilNil ∧ (0 : Nat) = 0) ∧ (true = true ∧ NilNil ∧ (0 : Nat) = 0) ∧ Tr 1 ((↑t.1 : Int) + 1 = (↑t'.fst : Int)) ∧ Tr 67 True)) ∧ true = true ∧ ((24 :
 TypeId) = 24 ∧ Tr 1 ((↑x.1.1 : Int) = (↑x.1.1 : Int)) ∧ ((1 : Nat) = 1 ∧ x.1.2.1.length = x.1.2.1.length ∧ ∀ (i : Nat), i < x.1.2.1.length → [AV.int .i64
 (x.1.2.1.getD i 0)] = [AV.int .i64 (x.1.2.1.getD i 0)]) ∧ ((1 : Nat) = 1 ∧ x.1.2.2.1.length = x.1.2.2.1.length ∧ ∀ (i : Nat), i < x.1.2.2.1.length → [AV.int
 .i64 (x.1.2.2.1.getD i 0)] = [AV.int .i64 (x.1.2.2.1.getD i 0)]) ∧ Tr 1 (x.1.2.2.2 = x.1.2.2.2) ∧ True) ∧ allocB x_8 = allocB t'.snd ∧ refB y_4 = refB t'.snd ∧
 True)) ∧ Exx AllocT fun x_8 => (((true = true ∧ NilNil ∧ (0 : Nat) = 0) ∧ True) ∧ true = true ∧ allocB x_6.1 = allocB x_8 ∧ True) ∧ AllocW x_8 ∧ ∀ (y_1 : Unit),
 True → Exx (Nat × Nat) fun x_9 => (((true = true ∧ NilNil ∧ (0 : Nat) = 0) ∧ True) ∧ true = true ∧ setB (x_8.n, x_8.w) = setB x_9 ∧ True) ∧ SetW x_9 ∧ ∀ (y_2 :
 Nat), (listN x_9).length ≤ y_2 → Exx (List Int × List Int) fun x_10 => (((0 + (listN x_9).length ≤ (listN x_9).length ∧ (listN x_9).length = x_10.1.length ∧ ∀
 (i : Nat), i < x_10.1.length → [AV.int .i64 ((listN x_9).getD (0 + i) 0)] = [AV.int .i64 (x_10.1.getD i 0)]) ∧ (0 + (lW y).length ≤ (lW y).length ∧ (lW
 y).length = x_10.2.length ∧ ∀ (i : Nat), i < x_10.2.length → [AV.int .i64 ((lW y).getD (0 + i) 0)] = [AV.int .i64 (x_10.2.getD i 0)]) ∧ True) ∧ true = true ∧
 True) ∧ (IntL x_10.1 ∧ IntL x_10.2) ∧ ∀ (y_3 : Unit), True → BC (!decide (x_10.1 = x_10.2)) (Exx Unit fun y => ((false = true ∧ True) ∧ true = true ∧ True) ∧
 True) (Exx AllocT fun y_4 => Exx (Subtype (RCap y_4 true false false)) fun g_1 => Tr 1 (((38 : TypeId) = 38 ∧ Tr 1 ((↑y.n : Int) = (↑y_4.n : Int)) ∧ Tr 1 (y.r =
 y_4.r) ∧ (true = true ∧ NilNil ∧ (0 : Nat) = 0 ∧ (1 : Nat) = 1 ∧ (0 : Nat) = 0 ∧ (lC y).length = (lC y_4).length ∧ g.val.1 = g_1.val.1) ∧ (true = true ∧ NilNil
 ∧ (0 : Nat) = 0 ∧ (1 : Nat) = 1 ∧ (0 : Nat) = 0 ∧ (lC y).length = (lC y_4).length ∧ g.val.1 = g_1.val.1) ∧ (true = true ∧ NilNil ∧ (0 : Nat) = 0 ∧ (1 : Nat) = 1
 ∧ (0 : Nat) = 0 ∧ (lM y).length = (lM y_4).length ∧ g.val.2.2.1 = g_1.val.2.2.1) ∧ (true = true ∧ NilNil ∧ (0 : Nat) = 0 ∧ (1 : Nat) = 1 ∧ (0 : Nat) = 0 ∧ (lW
 y).length = (lW y_4).length ∧ g.val.2.2.2 = g_1.val.2.2.2) ∧ True) ∧ ((3 : TypeId) = 3 ∧ (1 : Nat) = 1 ∧ g.val.1 = g_1.val.1 ∧ (lC y_4).length ≤ (lC y).length ∧
 ∀ (i : Nat), i < (lC y_4).length → [AV.int .i64 ((lC y).getD i 0)] = [AV.int .i64 ((lC y_4).getD i 0)]) ∧ ((3 : TypeId) = 3 ∧ (1 : Nat) = 1 ∧ g.val.2.2.1 =
 g_1.val.2.2.1 ∧ (lM y_4).length ≤ (lM y).length ∧ ∀ (i : Nat), i < (lM y_4).length → [AV.int .i64 ((lM y).getD i 0)] = [AV.int .i64 ((lM y_4).getD i 0)]) ∧ ((3
 : TypeId) = 3 ∧ (1 : Nat) = 1 ∧ g.val.2.2.2 = g_1.val.2.2.2 ∧ (lW y_4).length ≤ (lW y).length ∧ ∀ (i : Nat), i < (lW y_4).length → [AV.int .i64 ((lW y).getD i
 0)] = [AV.int .i64 ((lW y_4).getD i 0)]) ∧ True) ∧ I64 ((↑t.1 : Int) + 1) ∧ Exx (Nat × AllocT) fun t' => (I t' ∧ m t' < m t) ∧ Tr 1 (((2 : Nat) = 2 ∧ x.2.length
 = x.2.length ∧ ∀ (i : Nat), i < x.2.length → [AV.int .i64 (x.2.getD i act18Z).kind, AV.int .i64 (x.2.getD i act18Z).at_] = [AV.int .i64 (x.2.getD i
 act18Z).kind, AV.int .i64 (x.2.getD i act18Z).at_]) ∧ Tr 3 ((true = true ∧ NilNil ∧ (0 : Nat) = 0) ∧ (true = true ∧ NilNil ∧ (0 : Nat) = 0) ∧ Tr 1 ((↑t.1 : Int)
 + 1 = (↑t'.fst : Int)) ∧ Tr 67 True)) ∧ true = true ∧ ((24 : TypeId) = 24 ∧ Tr 1 ((↑x.1.1 : Int) = (↑x.1.1 : Int)) ∧ ((1 : Nat) = 1 ∧ x.1.2.1.length =
 x.1.2.1.length ∧ ∀ (i : Nat), i < x.1.2.1.length → [AV.int .i64 (x.1.2.1.getD i 0)] = [AV.int .i64 (x.1.2.1.getD i 0)]) ∧ ((1 : Nat) = 1 ∧ x.1.2.2.1.length =
 x.1.2.2.1.length ∧ ∀ (i : Nat), i < x.1.2.2.1.length → [AV.int .i64 (x.1.2.2.1.getD i 0)] = [AV.int .i64 (x.1.2.2.1.getD i 0)]) ∧ Tr 1 (x.1.2.2.2 = x.1.2.2.2) ∧
 True) ∧ allocB x_8 = allocB t'.snd ∧ refB y_4 = refB t'.snd ∧ True))) ∧ (∀ (g : Subtype (RCap y false true true)), BC (!(hasN (x_6.1.n, x_6.1.w) x_6.2 && !hasN
 (x_6.1.n, x_6.1.m) x_6.2) == (hasN (x_7.1.n, x_7.1.w) x_7.2 && !hasN (x_7.1.n, x_7.1.m) x_7.2)) (Exx Unit fun y => ((false = true ∧ True) ∧ true = true ∧ True)
 ∧ True) ((Exx AllocT fun x_8 => (((true = true ∧ NilNil ∧ (0 : Nat) = 0) ∧ True) ∧ true = true ∧ allocB x_6.1 = allocB x_8 ∧ True) ∧ AllocW x_8 ∧ ∀ (y_1 :
 Unit), True → (Exx (Nat × Nat) fun x_9 => (((true = true ∧ NilNil ∧ (0 : Nat) = 0) ∧ True) ∧ true = true ∧ setB (x_8.n, x_8.w) = setB x_9 ∧ True) ∧ SetW x_9 ∧ ∀
 (y_2 : Nat), (listN x_9).length ≤ y_2 → Exx (List Int × List Int) fun x_10 => (((0 + (listN x_9).length ≤ (listN x_9).length ∧ (listN x_9).length =
 x_10.1.length ∧ ∀ (i : Nat), i < x_10.1.length → [AV.int .i64 ((listN x_9).getD (0 + i) 0)] = [AV.int .i64 (x_10.1.getD i 0)]) ∧ (0 + (lC y).length ≤ (lC
 y).length ∧ (lC y).length = x_10.2.length ∧ ∀ (i : Nat), i < x_10.2.length → [AV.int .i64 ((lC y).getD (0 + i) 0)] = [AV.int .i64 (x_10.2.getD i 0)]) ∧ True) ∧
 true = true ∧ True) ∧ (IntL x_10.1 ∧ IntL x_10.2) ∧ ∀ (y_3 : Unit), True → BC (!decide (x_10.1 = x_10.2)) (Exx Unit fun y => ((false = true ∧ True) ∧ true =
 true ∧ True) ∧ True) (Exx AllocT fun y_4 => Exx (Subtype (RCap y_4 false true true)) fun g_1 => Tr 1 (((38 : TypeId) = 38 ∧ Tr 1 ((↑y.n : Int) = (↑y_4.n : Int))
 ∧ Tr 1 (y.r = y_4.r) ∧ (true = true ∧ NilNil ∧ (0 : Nat) = 0 ∧ (1 : Nat) = 1 ∧ (0 : Nat) = 0 ∧ (lC y).length = (lC y_4).length ∧ g.val.1 = g_1.val.1) ∧ (true =
 true ∧ NilNil ∧ (0 : Nat) = 0 ∧ (1 : Nat) = 1 ∧ (0 : Nat) = 0 ∧ (lE y).length = (lE y_4).length ∧ g.val.2.1 = g_1.val.2.1) ∧ (true = true ∧ NilNil ∧ (0 : Nat) =
 0 ∧ (1 : Nat) = 1 ∧ (0 : Nat) = 0 ∧ (lC y).length = (lC y_4).length ∧ g.val.1 = g_1.val.1) ∧ (true = true ∧ NilNil ∧ (0 : Nat) = 0 ∧ (1 : Nat) = 1 ∧ (0 : Nat) =
 0 ∧ (lC y).length = (lC y_4).length ∧ g.val.1 = g_1.val.1) ∧ True) ∧ ((3 : TypeId) = 3 ∧ (1 : Nat) = 1 ∧ g.val.1 = g_1.val.1 ∧ (lC y_4).length ≤ (lC y).length ∧
 ∀ (i : Nat), i < (lC y_4).length → [AV.int .i64 ((lC y).getD i 0)] = [AV.int .i64 ((lC y_4).getD i 0)]) ∧ ((3 : TypeId) = 3 ∧ (1 : Nat) = 1 ∧ g.val.2.1 =
 g_1.val.2.1 ∧ (lE y_4).length ≤ (lE y).length ∧ ∀ (i : Nat), i < (lE y_4).length → [AV.int .i64 ((lE y).getD i 0)] = [AV.int .i64 ((lE y_4).getD i 0)]) ∧ True)
 ∧ I64 ((↑t.1 : Int) + 1) ∧ Exx (Nat × AllocT) fun t' => (I t' ∧ m t' < m t) ∧ Tr 1 (((2 : Nat) = 2 ∧ x.2.length = x.2.length ∧ ∀ (i : Nat), i < x.2.length →
 [AV.int .i64 (x.2.getD i act18Z).kind, AV.int .i64 (x.2.getD i act18Z).at_] = [AV.int .i64 (x.2.getD i act18Z).kind, AV.int .i64 (x.2.getD i act18Z).at_]) ∧ Tr
 3 ((true = true ∧ NilNil ∧ (0 : Nat) = 0) ∧ (true = true ∧ NilNil ∧ (0 : Nat) = 0) ∧ Tr 1 ((↑t.1 : Int) + 1 = (↑t'.fst : Int)) ∧ Tr 67 True)) ∧ true = true ∧
 ((24 : TypeId) = 24 ∧ Tr 1 ((↑x.1.1 : Int) = (↑x.1.1 : Int)) ∧ ((1 : Nat) = 1 ∧ x.1.2.1.length = x.1.2.1.length ∧ ∀ (i : Nat), i < x.1.2.1.length → [AV.int .i64
 (x.1.2.1.getD i 0)] = [AV.int .i64 (x.1.2.1.getD i 0)]) ∧ ((1 : Nat) = 1 ∧ x.1.2.2.1.length = x.1.2.2.1.length ∧ ∀ (i : Nat), i < x.1.2.2.1.length → [AV.int
 .i64 (x.1.2.2.1.getD i 0)] = [AV.int .i64 (x.1.2.2.1.getD i 0)]) ∧ Tr 1 (x.1.2.2.2 = x.1.2.2.2) ∧ True) ∧ allocB x_8 = allocB t'.snd ∧ refB y_4 = refB t'.snd ∧
 True)) ∧ Exx (Nat × Nat) fun x_9 => (((true = true ∧ NilNil ∧ (0 : Nat) = 0) ∧ True) ∧ true = true ∧ setB (x_8.n, x_8.w) = setB x_9 ∧ True) ∧ SetW x_9 ∧ ∀ (y_2
 : Nat), (listN x_9).length ≤ y_2 → Exx (List Int × List Int) fun x_10 => (((0 + (listN x_9).length ≤ (listN x_9).length ∧ (listN x_9).length = x_10.1.length ∧ ∀
 (i : Nat), i < x_10.1.length → [AV.int .i64 ((listN x_9).getD (0 + i) 0)] = [AV.int .i64 (x_10.1.getD i 0)]) ∧ (0 + (lC y).length ≤ (lC y).length ∧ (lC
 y).length = x_10.2.length ∧ ∀ (i : Nat), i < x_10.2.length → [AV.int .i64 ((lC y).getD (0 + i) 0)] = [AV.int .i64 (x_10.2.getD i 0)]) ∧ True) ∧ true = true ∧
 True) ∧ (IntL x_10.1 ∧ IntL x_10.2) ∧ ∀ (y_3 : Unit), True → BC (!decide (x_10.1 = x_10.2)) (Exx Unit fun y => ((false = true ∧ True) ∧ true = true ∧ True) ∧
 True) (Exx AllocT fun y_4 => Exx (Subtype (RCap y_4 false true true)) fun g_1 => Tr 1 (((38 : TypeId) = 38 ∧ Tr 1 ((↑y.n : Int) = (↑y_4.n : Int)) ∧ Tr 1 (y.r =
 y_4.r) ∧ (true = true ∧ NilNil ∧ (0 : Nat) = 0 ∧ (1 : Nat) = 1 ∧ (0 : Nat) = 0 ∧ (lC y).length = (lC y_4).length ∧ g.val.1 = g_1.val.1) ∧ (true = true ∧ NilNil
 ∧ (0 : Nat) = 0 ∧ (1 : Nat) = 1 ∧ (0 : Nat) = 0 ∧ (lE y).length = (lE y_4).length ∧ g.val.2.1 = g_1.val.2.1) ∧ (true = true ∧ NilNil ∧ (0 : Nat) = 0 ∧ (1 : Nat)
 = 1 ∧ (0 : Nat) = 0 ∧ (lC y).length = (lC y_4).length ∧ g.val.1 = g_1.val.1) ∧ (true = true ∧ NilNil ∧ (0 : Nat) = 0 ∧ (1 : Nat) = 1 ∧ (0 : Nat) = 0 ∧ (lC
 y).length = (lC y_4).length ∧ g.val.1 = g_1.val.1) ∧ True) ∧ ((3 : TypeId) = 3 ∧ (1 : Nat) = 1 ∧ g.val.1 = g_1.val.1 ∧ (lC y_4).length ≤ (lC y).length ∧ ∀ (i :
 Nat), i < (lC y_4).length → [AV.int .i64 ((lC y).getD i 0)] = [AV.int .i64 ((lC y_4).getD i 0)]) ∧ ((3 : TypeId) = 3 ∧ (1 : Nat) = 1 ∧ g.val.2.1 = g_1.val.2.1 ∧
 (lE y_4).length ≤ (lE y).length ∧ ∀ (i : Nat), i < (lE y_4).length → [AV.int .i64 ((lE y).getD i 0)] = [AV.int .i64 ((lE y_4).getD i 0)]) ∧ True) ∧ I64 ((↑t.1 :
 Int) + 1) ∧ Exx (Nat × AllocT) fun t' => (I t' ∧ m t' < m t) ∧ Tr 1 (((2 : Nat) = 2 ∧ x.2.length = x.2.length ∧ ∀ (i : Nat), i < x.2.length → [AV.int .i64
 (x.2.getD i act18Z).kind, AV.int .i64 (x.2.getD i act18Z).at_] = [AV.int .i64 (x.2.getD i act18Z).kind, AV.int .i64 (x.2.getD i act18Z).at_]) ∧ Tr 3 ((true =
 true ∧ NilNil ∧ (0 : Nat) = 0) ∧ (true = true ∧ NilNil ∧ (0 : Nat) = 0) ∧ Tr 1 ((↑t.1 : Int) + 1 = (↑t'.fst : Int)) ∧ Tr 67 True)) ∧ true = true ∧ ((24 :
 TypeId) = 24 ∧ Tr 1 ((↑x.1.1 : Int) = (↑x.1.1 : Int)) ∧ ((1 : Nat) = 1 ∧ x.1.2.1.length = x.1.2.1.length ∧ ∀ (i : Nat), i < x.1.2.1.length → [AV.int .i64
 (x.1.2.1.getD i 0)] = [AV.int .i64 (x.1.2.1.getD i 0)]) ∧ ((1 : Nat) = 1 ∧ x.1.2.2.1.length = x.1.2.2.1.length ∧ ∀ (i : Nat), i < x.1.2.2.1.length → [AV.int
 .i64 (x.1.2.2.1.getD i 0)] = [AV.int .i64 (x.1.2.2.1.getD i 0)]) ∧ Tr 1 (x.1.2.2.2 = x.1.2.2.2) ∧ True) ∧ allocB x_8 = allocB t'.snd ∧ refB y_4 = refB t'.snd ∧
 True)) ∧ Exx AllocT fun x_8 => (((true = true ∧ NilNil ∧ (0 : Nat) = 0) ∧ True) ∧ true = true ∧ allocB x_6.1 = allocB x_8 ∧ True) ∧ AllocW x_8 ∧ ∀ (y_1 : Unit),
 True → Exx (Nat × Nat) fun x_9 => (((true = true ∧ NilNil ∧ (0 : Nat) = 0) ∧ True) ∧ true = true ∧ setB (x_8.n, x_8.w) = setB x_9 ∧ True) ∧ SetW x_9 ∧ ∀ (y_2 :
 Nat), (listN x_9).length ≤ y_2 → Exx (List Int × List Int) fun x_10 => (((0 + (listN x_9).length ≤ (listN x_9).length ∧ (listN x_9).length = x_10.1.length ∧ ∀
 (i : Nat), i < x_10.1.length → [AV.int .i64 ((listN x_9).getD (0 + i) 0)] = [AV.int .i64 (x_10.1.getD i 0)]) ∧ (0 + (lC y).length ≤ (lC y).length ∧ (lC
 y).length = x_10.2.length ∧ ∀ (i : Nat), i < x_10.2.length → [AV.int .i64 ((lC y).getD (0 + i) 0)] = [AV.int .i64 (x_10.2.getD i 0)]) ∧ True) ∧ true = true ∧
 True) ∧ (IntL x_10.1 ∧ IntL x_10.2) ∧ ∀ (y_3 : Unit), True → BC (!decide (x_10.1 = x_10.2)) (Exx Unit fun y => ((false = true ∧ True) ∧ true = true ∧ True) ∧
 True) (Exx AllocT fun y_4 => Exx (Subtype (RCap y_4 false true true)) fun g_1 => Tr 1 (((38 : TypeId) = 38 ∧ Tr 1 ((↑y.n : Int) = (↑y_4.n : Int)) ∧ Tr 1 (y.r =
 y_4.r) ∧ (true = true ∧ NilNil ∧ (0 : Nat) = 0 ∧ (1 : Nat) = 1 ∧ (0 : Nat) = 0 ∧ (lC y).length = (lC y_4).length ∧ g.val.1 = g_1.val.1) ∧ (true = true ∧ NilNil
 ∧ (0 : Nat) = 0 ∧ (1 : Nat) = 1 ∧ (0 : Nat) = 0 ∧ (lE y).length = (lE y_4).length ∧ g.val.2.1 = g_1.val.2.1) ∧ (true = true ∧ NilNil ∧ (0 : Nat) = 0 ∧ (1 : Nat)
 = 1 ∧ (0 : Nat) = 0 ∧ (lC y).length = (lC y_4).length ∧ g.val.1 = g_1.val.1) ∧ (true = true ∧ NilNil ∧ (0 : Nat) = 0 ∧ (1 : Nat) = 1 ∧ (0 : Nat) = 0 ∧ (lC
 y).length = (lC y_4).length ∧ g.val.1 = g_1.val.1) ∧ True) ∧ ((3 : TypeId) = 3 ∧ (1 : Nat) = 1 ∧ g.val.1 = g_1.val.1 ∧ (lC y_4).length ≤ (lC y).length ∧ ∀ (i :
 Nat), i < (lC y_4).length → [AV.int .i64 ((lC y).getD i 0)] = [AV.int .i64 ((lC y_4).getD i 0)]) ∧ ((3 : TypeId) = 3 ∧ (1 : Nat) = 1 ∧ g.val.2.1 = g_1.val.2.1 ∧
 (lE y_4).length ≤ (lE y).length ∧ ∀ (i : Nat), i < (lE y_4).length → [AV.int .i64 ((lE y).getD i 0)] = [AV.int .i64 ((lE y_4).getD i 0)]) ∧ True) ∧ I64 ((↑t.1 :
 Int) + 1) ∧ Exx (Nat × AllocT) fun t' => (I t' ∧ m t' < m t) ∧ Tr 1 (((2 : Nat) = 2 ∧ x.2.length = x.2.length ∧ ∀ (i : Nat), i < x.2.length → [AV.int .i64
 (x.2.getD i act18Z).kind, AV.int .i64 (x.2.getD i act18Z).at_] = [AV.int .i64 (x.2.getD i act18Z).kind, AV.int .i64 (x.2.getD i act18Z).at_]) ∧ Tr 3 ((true =
 true ∧ NilNil ∧ (0 : Nat) = 0) ∧ (true = true ∧ NilNil ∧ (0 : Nat) = 0) ∧ Tr 1 ((↑t.1 : Int) + 1 = (↑t'.fst : Int)) ∧ Tr 67 True)) ∧ true = true ∧ ((24 :
 TypeId) = 24 ∧ Tr 1 ((↑x.1.1 : Int) = (↑x.1.1 : Int)) ∧ ((1 : Nat) = 1 ∧ x.1.2.1.length = x.1.2.1.length ∧ ∀ (i : Nat), i < x.1.2.1.length → [AV.int .i64
 (x.1.2.1.getD i 0)] = [AV.int .i64 (x.1.2.1.getD i 0)]) ∧ ((1 : Nat) = 1 ∧ x.1.2.2.1.length = x.1.2.2.1.length ∧ ∀ (i : Nat), i < x.1.2.2.1.length → [AV.int
 .i64 (x.1.2.2.1.getD i 0)] = [AV.int .i64 (x.1.2.2.1.getD i 0)]) ∧ Tr 1 (x.1.2.2.2 = x.1.2.2.2) ∧ True) ∧ allocB x_8 = allocB t'.snd ∧ refB y_4 = refB t'.snd ∧
 True))) ∧ (∀ (g : Subtype (RCap y false true false)), BC (!(hasN (x_6.1.n, x_6.1.w) x_6.2 && !hasN (x_6.1.n, x_6.1.m) x_6.2) == (hasN (x_7.1.n, x_7.1.w) x_7.2
 && !hasN (x_7.1.n, x_7.1.m) x_7.2)) (Exx Unit fun y => ((false = true ∧ True) ∧ true = true ∧ True) ∧ True) ((Exx AllocT fun x_8 => (((true = true ∧ NilNil ∧ (0
 : Nat) = 0) ∧ True) ∧ true = true ∧ allocB x_6.1 = allocB x_8 ∧ True) ∧ AllocW x_8 ∧ ∀ (y_1 : Unit), True → (Exx (Nat × Nat) fun x_9 => (((true = true ∧ NilNil
 ∧ (0 : Nat) = 0) ∧ True) ∧ true = true ∧ setB (x_8.n, x_8.w) = setB x_9 ∧ True) ∧ SetW x_9 ∧ ∀ (y_2 : Nat), (listN x_9).length ≤ y_2 → Exx (List Int × List Int)
 fun x_10 => (((0 + (listN x_9).length ≤ (listN x_9).length ∧ (listN x_9).length = x_10.1.length ∧ ∀ (i : Nat), i < x_10.1.length → [AV.int .i64 ((listN
 x_9).getD (0 + i) 0)] = [AV.int .i64 (x_10.1.getD i 0)]) ∧ (0 + (lW y).length ≤ (lW y).length ∧ (lW y).length = x_10.2.length ∧ ∀ (i : Nat), i < x_10.2.length →
 [AV.int .i64 ((lW y).getD (0 + i) 0)] = [AV.int .i64 (x_10.2.getD i 0)]) ∧ True) ∧ true = true ∧ True) ∧ (IntL x_10.1 ∧ IntL x_10.2) ∧ ∀ (y_3 : Unit), True → BC
 (!decide (x_10.1 = x_10.2)) (Exx Unit fun y => ((false = true ∧ True) ∧ true = true ∧ True) ∧ True) (Exx AllocT fun y_4 => Exx (Subtype (RCap y_4 false true
 false)) fun g_1 => Tr 1 (((38 : TypeId) = 38 ∧ Tr 1 ((↑y.n : Int) = (↑y_4.n : Int)) ∧ Tr 1 (y.r = y_4.r) ∧ (true = true ∧ NilNil ∧ (0 : Nat) = 0 ∧ (1 : Nat) = 1
 ∧ (0 : Nat) = 0 ∧ (lC y).length = (lC y_4).length ∧ g.val.1 = g_1.val.1) ∧ (true = true ∧ NilNil ∧ (0 : Nat) = 0 ∧ (1 : Nat) = 1 ∧ (0 : Nat) = 0 ∧ (lE y).length
 = (lE y_4).length ∧ g.val.2.1 = g_1.val.2.1) ∧ (true = true ∧ NilNil ∧ (0 : Nat) = 0 ∧ (1 : Nat) = 1 ∧ (0 : Nat) = 0 ∧ (lC y).length = (lC y_4).length ∧ g.val.1
 = g_1.val.1) ∧ (true = true ∧ NilNil ∧ (0 : Nat) = 0 ∧ (1 : Nat) = 1 ∧ (0 : Nat) = 0 ∧ (lW y).length = (lW y_4).length ∧ g.val.2.2.2 = g_1.val.2.2.2) ∧ True) ∧
 ((3 : TypeId) = 3 ∧ (1 : Nat) = 1 ∧ g.val.1 = g_1.val.1 ∧ (lC y_4).length ≤ (lC y).length ∧ ∀ (i : Nat), i < (lC y_4).length → [AV.int .i64 ((lC y).getD i 0)] =
 [AV.int .i64 ((lC y_4).getD i 0)]) ∧ ((3 : TypeId) = 3 ∧ (1 : Nat) = 1 ∧ g.val.2.1 = g_1.val.2.1 ∧ (lE y_4).length ≤ (lE y).length ∧ ∀ (i : Nat), i < (lE
 y_4).length → [AV.int .i64 ((lE y).getD i 0)] = [AV.int .i64 ((lE y_4).getD i 0)]) ∧ ((3 : TypeId) = 3 ∧ (1 : Nat) = 1 ∧ g.val.2.2.2 = g_1.val.2.2.2 ∧ (lW
 y_4).length ≤ (lW y).length ∧ ∀ (i : Nat), i < (lW y_4).length → [AV.int .i64 ((lW y).getD i 0)] = [AV.int .i64 ((lW y_4).getD i 0)]) ∧ True) ∧ I64 ((↑t.1 :
 Int) + 1) ∧ Exx (Nat × AllocT) fun t' => (I t' ∧ m t' < m t) ∧ Tr 1 (((2 : Nat) = 2 ∧ x.2.length = x.2.length ∧ ∀ (i : Nat), i < x.2.length → [AV.int .i64
 (x.2.getD i act18Z).kind, AV.int .i64 (x.2.getD i act18Z).at_] = [AV.int .i64 (x.2.getD i act18Z).kind, AV.int .i64 (x.2.getD i act18Z).at_]) ∧ Tr 3 ((true =
 true ∧ NilNil ∧ (0 : Nat) = 0) ∧ (true = true ∧ NilNil ∧ (0 : Nat) = 0) ∧ Tr 1 ((↑t.1 : Int) + 1 = (↑t'.fst : Int)) ∧ Tr 67 True)) ∧ true = true ∧ ((24 :
 TypeId) = 24 ∧ Tr 1 ((↑x.1.1 : Int) = (↑x.1.1 : Int)) ∧ ((1 : Nat) = 1 ∧ x.1.2.1.length = x.1.2.1.length ∧ ∀ (i : Nat), i < x.1.2.1.length → [AV.int .i64
 (x.1.2.1.getD i 0)] = [AV.int .i64 (x.1.2.1.getD i 0)]) ∧ ((1 : Nat) = 1 ∧ x.1.2.2.1.length = x.1.2.2.1.length ∧ ∀ (i : Nat), i < x.1.2.2.1.length → [AV.int
 .i64 (x.1.2.2.1.getD i 0)] = [AV.int .i64 (x.1.2.2.1.getD i 0)]) ∧ Tr 1 (x.1.2.2.2 = x.1.2.2.2) ∧ True) ∧ allocB x_8 = allocB t'.snd ∧ refB y_4 = refB t'.snd ∧
 True)) ∧ Exx (Nat × Nat) fun x_9 => (((true = true ∧ NilNil ∧ (0 : Nat) = 0) ∧ True) ∧ true = true ∧ setB (x_8.n, x_8.w) = setB x_9 ∧ True) ∧ SetW x_9 ∧ ∀ (y_2
 : Nat), (listN x_9).length ≤ y_2 → Exx (List Int × List Int) fun x_10 => (((0 + (listN x_9).length ≤ (listN x_9).length ∧ (listN x_9).length = x_10.1.length ∧ ∀
 (i : Nat), i < x_10.1.length → [AV.int .i64 ((listN x_9).getD (0 + i) 0)] = [AV.int .i64 (x_10.1.getD i 0)]) ∧ (0 + (lW y).length ≤ (lW y).length ∧ (lW
 y).length = x_10.2.length ∧ ∀ (i : Nat), i < x_10.2.length → [AV.int .i64 ((lW y).getD (0 + i) 0)] = [AV.int .i64 (x_10.2.getD i 0)]) ∧ True) ∧ true = true ∧
 True) ∧ (IntL x_10.1 ∧ IntL x_10.2) ∧ ∀ (y_3 : Unit), True → BC (!decide (x_10.1 = x_10.2)) (Exx Unit fun y => ((false = true ∧ True) ∧ true = true ∧ True) ∧
 True) (Exx AllocT fun y_4 => Exx (Subtype (RCap y_4 false true false)) fun g_1 => Tr 1 (((38 : TypeId) = 38 ∧ Tr 1 ((↑y.n : Int) = (↑y_4.n : Int)) ∧ Tr 1 (y.r =
 y_4.r) ∧ (true = true ∧ NilNil ∧ (0 : Nat) = 0 ∧ (1 : Nat) = 1 ∧ (0 : Nat) = 0 ∧ (lC y).length = (lC y_4).length ∧ g.val.1 = g_1.val.1) ∧ (true = true ∧ NilNil
 ∧ (0 : Nat) = 0 ∧ (1 : Nat) = 1 ∧ (0 : Nat) = 0 ∧ (lE y).length = (lE y_4).length ∧ g.val.2.1 = g_1.val.2.1) ∧ (true = true ∧ NilNil ∧ (0 : Nat) = 0 ∧ (1 : Nat)
 = 1 ∧ (0 : Nat) = 0 ∧ (lC y).length = (lC y_4).length ∧ g.val.1 = g_1.val.1) ∧ (true = true ∧ NilNil ∧ (0 : Nat) = 0 ∧ (1 : Nat) = 1 ∧ (0 : Nat) = 0 ∧ (lW
 y).length = (lW y_4).length ∧ g.val.2.2.2 = g_1.val.2.2.2) ∧ True) ∧ ((3 : TypeId) = 3 ∧ (1 : Nat) = 1 ∧ g.val.1 = g_1.val.1 ∧ (lC y_4).length ≤ (lC y).length ∧
 ∀ (i : Nat), i < (lC y_4).length → [AV.int .i64 ((lC y).getD i 0)] = [AV.int .i64 ((lC y_4).getD i 0)]) ∧ ((3 : TypeId) = 3 ∧ (1 : Nat) = 1 ∧ g.val.2.1 =
 g_1.val.2.1 ∧ (lE y_4).length ≤ (lE y).length ∧ ∀ (i : Nat), i < (lE y_4).length → [AV.int .i64 ((lE y).getD i 0)] = [AV.int .i64 ((lE y_4).getD i 0)]) ∧ ((3 :
 TypeId) = 3 ∧ (1 : Nat) = 1 ∧ g.val.2.2.2 = g_1.val.2.2.2 ∧ (lW y_4).length ≤ (lW y).length ∧ ∀ (i : Nat), i < (lW y_4).length → [AV.int .i64 ((lW y).getD i 0)]
 = [AV.int .i64 ((lW y_4).getD i 0)]) ∧ True) ∧ I64 ((↑t.1 : Int) + 1) ∧ Exx (Nat × AllocT) fun t' => (I t' ∧ m t' < m t) ∧ Tr 1 (((2 : Nat) = 2 ∧ x.2.length =
 x.2.length ∧ ∀ (i : Nat), i < x.2.length → [AV.int .i64 (x.2.getD i act18Z).kind, AV.int .i64 (x.2.getD i act18Z).at_] = [AV.int .i64 (x.2.getD i act18Z).kind,
 AV.int .i64 (x.2.getD i act18Z).at_]) ∧ Tr 3 ((true = true ∧ NilNil ∧ (0 : Nat) = 0) ∧ (true = true ∧ NilNil ∧ (0 : Nat) = 0) ∧ Tr 1 ((↑t.1 : Int) + 1 =
 (↑t'.fst : Int)) ∧ Tr 67 True)) ∧ true = true ∧ ((24 : TypeId) = 24 ∧ Tr 1 ((↑x.1.1 : Int) = (↑x.1.1 : Int)) ∧ ((1 : Nat) = 1 ∧ x.1.2.1.length = x.1.2.1.length
 ∧ ∀ (i : Nat), i < x.1.2.1.length → [AV.int .i64 (x.1.2.1.getD i 0)] = [AV.int .i64 (x.1.2.1.getD i 0)]) ∧ ((1 : Nat) = 1 ∧ x.1.2.2.1.length = x.1.2.2.1.length
 ∧ ∀ (i : Nat), i < x.1.2.2.1.length → [AV.int .i64 (x.1.2.2.1.getD i 0)] = [AV.int .i64 (x.1.2.2.1.getD i 0)]) ∧ Tr 1 (x.1.2.2.2 = x.1.2.2.2) ∧ True) ∧ allocB
 x_8 = allocB t'.snd ∧ refB y_4 = refB t'.snd ∧ True)) ∧ Exx AllocT fun x_8 => (((true = true ∧ NilNil ∧ (0 : Nat) = 0) ∧ True) ∧ true = true ∧ allocB x_6.1 =
 allocB x_8 ∧ True) ∧ AllocW x_8 ∧ ∀ (y_1 : Unit), True → Exx (Nat × Nat) fun x_9 => (((true = true ∧ NilNil ∧ (0 : Nat) = 0) ∧ True) ∧ true = true ∧ setB
 (x_8.n, x_8.w) = setB x_9 ∧ True) ∧ SetW x_9 ∧ ∀ (y_2 : Nat), (listN x_9).length ≤ y_2 → Exx (List Int × List Int) fun x_10 => (((0 + (listN x_9).length ≤
 (listN x_9).length ∧ (listN x_9).length = x_10.1.length ∧ ∀ (i : Nat), i < x_10.1.length → [AV.int .i64 ((listN x_9).getD (0 + i) 0)] = [AV.int .i64
 (x_10.1.getD i 0)]) ∧ (0 + (lW y).length ≤ (lW y).length ∧ (lW y).length = x_10.2.length ∧ ∀ (i : Nat), i < x_10.2.length → [AV.int .i64 ((lW y).getD (0 + i)
 0)] = [AV.int .i64 (x_10.2.getD i 0)]) ∧ True) ∧ true = true ∧ True) ∧ (IntL x_10.1 ∧ IntL x_10.2) ∧ ∀ (y_3 : Unit), True → BC (!decide (x_10.1 = x_10.2)) (Exx
 Unit fun y => ((false = true ∧ True) ∧ true = true ∧ True) ∧ True) (Exx AllocT fun y_4 => Exx (Subtype (RCap y_4 false true false)) fun g_1 => Tr 1 (((38 :
 TypeId) = 38 ∧ Tr 1 ((↑y.n : Int) = (↑y_4.n : Int)) ∧ Tr 1 (y.r = y_4.r) ∧ (true = true ∧ NilNil ∧ (0 : Nat) = 0 ∧ (1 : Nat) = 1 ∧ (0 : Nat) = 0 ∧ (lC y).length
 = (lC y_4).length ∧ g.val.1 = g_1.val.1) ∧ (true = true ∧ NilNil ∧ (0 : Nat) = 0 ∧ (1 : Nat) = 1 ∧ (0 : Nat) = 0 ∧ (lE y).length = (lE y_4).length ∧ g.val.2.1 =
 g_1.val.2.1) ∧ (true = true ∧ NilNil ∧ (0 : Nat) = 0 ∧ (1 : Nat) = 1 ∧ (0 : Nat) = 0 ∧ (lC y).length = (lC y_4).length ∧ g.val.1 = g_1.val.1) ∧ (true = true ∧
 NilNil ∧ (0 : Nat) = 0 ∧ (1 : Nat) = 1 ∧ (0 : Nat) = 0 ∧ (lW y).length = (lW y_4).length ∧ g.val.2.2.2 = g_1.val.2.2.2) ∧ True) ∧ ((3 : TypeId) = 3 ∧ (1 : Nat)
 = 1 ∧ g.val.1 = g_1.val.1 ∧ (lC y_4).length ≤ (lC y).length ∧ ∀ (i : Nat), i < (lC y_4).length → [AV.int .i64 ((lC y).getD i 0)] = [AV.int .i64 ((lC y_4).getD i
 0)]) ∧ ((3 : TypeId) = 3 ∧ (1 : Nat) = 1 ∧ g.val.2.1 = g_1.val.2.1 ∧ (lE y_4).length ≤ (lE y).length ∧ ∀ (i : Nat), i < (lE y_4).length → [AV.int .i64 ((lE
 y).getD i 0)] = [AV.int .i64 ((lE y_4).getD i 0)]) ∧ ((3 : TypeId) = 3 ∧ (1 : Nat) = 1 ∧ g.val.2.2.2 = g_1.val.2.2.2 ∧ (lW y_4).length ≤ (lW y).length ∧ ∀ (i :
 Nat), i < (lW y_4).length → [AV.int .i64 ((lW y).getD i 0)] = [AV.int .i64 ((lW y_4).getD i 0)]) ∧ True) ∧ I64 ((↑t.1 : Int) + 1) ∧ Exx (Nat × AllocT) fun t' =>
 (I t' ∧ m t' < m t) ∧ Tr 1 (((2 : Nat) = 2 ∧ x.2.length = x.2.length ∧ ∀ (i : Nat), i < x.2.length → [AV.int .i64 (x.2.getD i act18Z).kind, AV.int .i64
 (x.2.getD i act18Z).at_] = [AV.int .i64 (x.2.getD i act18Z).kind, AV.int .i64 (x.2.getD i act18Z).at_]) ∧ Tr 3 ((true = true ∧ NilNil ∧ (0 : Nat) = 0) ∧ (true =
 true ∧ NilNil ∧ (0 : Nat) = 0) ∧ Tr 1 ((↑t.1 : Int) + 1 = (↑t'.fst : Int)) ∧ Tr 67 True)) ∧ true = true ∧ ((24 : TypeId) = 24 ∧ Tr 1 ((↑x.1.1 : Int) = (↑x.1.1 :
 Int)) ∧ ((1 : Nat) = 1 ∧ x.1.2.1.length = x.1.2.1.length ∧ ∀ (i : Nat), i < x.1.2.1.length → [AV.int .i64 (x.1.2.1.getD i 0)] = [AV.int .i64 (x.1.2.1.getD i
 0)]) ∧ ((1 : Nat) = 1 ∧ x.1.2.2.1.length = x.1.2.2.1.length ∧ ∀ (i : Nat), i < x.1.2.2.1.length → [AV.int .i64 (x.1.2.2.1.getD i 0)] = [AV.int .i64
 (x.1.2.2.1.getD i 0)]) ∧ Tr 1 (x.1.2.2.2 = x.1.2.2.2) ∧ True) ∧ allocB x_8 = allocB t'.snd ∧ refB y_4 = refB t'.snd ∧ True))) ∧ (∀ (g : Subtype (RCap y false
 false true)), BC (!(hasN (x_6.1.n, x_6.1.w) x_6.2 && !hasN (x_6.1.n, x_6.1.m) x_6.2) == (hasN (x_7.1.n, x_7.1.w) x_7.2 && !hasN (x_7.1.n, x_7.1.m) x_7.2)) (Exx
 Unit fun y => ((false = true ∧ True) ∧ true = true ∧ True) ∧ True) ((Exx AllocT fun x_8 => (((true = true ∧ NilNil ∧ (0 : Nat) = 0) ∧ True) ∧ true = true ∧
 allocB x_6.1 = allocB x_8 ∧ True) ∧ AllocW x_8 ∧ ∀ (y_1 : Unit), True → (Exx (Nat × Nat) fun x_9 => (((true = true ∧ NilNil ∧ (0 : Nat) = 0) ∧ True) ∧ true =
 true ∧ setB (x_8.n, x_8.w) = setB x_9 ∧ True) ∧ SetW x_9 ∧ ∀ (y_2 : Nat), (listN x_9).length ≤ y_2 → Exx (List Int × List Int) fun x_10 => (((0 + (listN
 x_9).length ≤ (listN x_9).length ∧ (listN x_9).length = x_10.1.length ∧ ∀ (i : Nat), i < x_10.1.length → [AV.int .i64 ((listN x_9).getD (0 + i) 0)] = [AV.int
 .i64 (x_10.1.getD i 0)]) ∧ (0 + (lM y).length ≤ (lM y).length ∧ (lM y).length = x_10.2.length ∧ ∀ (i : Nat), i < x_10.2.length → [AV.int .i64 ((lM y).getD (0 +
 i) 0)] = [AV.int .i64 (x_10.2.getD i 0)]) ∧ True) ∧ true = true ∧ True) ∧ (IntL x_10.1 ∧ IntL x_10.2) ∧ ∀ (y_3 : Unit), True → BC (!decide (x_10.1 = x_10.2))
 (Exx Unit fun y => ((false = true ∧ True) ∧ true = true ∧ True) ∧ True) (Exx AllocT fun y_4 => Exx (Subtype (RCap y_4 false false true)) fun g_1 => Tr 1 (((38 :
 TypeId) = 38 ∧ Tr 1 ((↑y.n : Int) = (↑y_4.n : Int)) ∧ Tr 1 (y.r = y_4.r) ∧ (true = true ∧ NilNil ∧ (0 : Nat) = 0 ∧ (1 : Nat) = 1 ∧ (0 : Nat) = 0 ∧ (lC y).length
 = (lC y_4).length ∧ g.val.1 = g_1.val.1) ∧ (true = true ∧ NilNil ∧ (0 : Nat) = 0 ∧ (1 : Nat) = 1 ∧ (0 : Nat) = 0 ∧ (lE y).length = (lE y_4).length ∧ g.val.2.1 =
 g_1.val.2.1) ∧ (true = true ∧ NilNil ∧ (0 : Nat) = 0 ∧ (1 : Nat) = 1 ∧ (0 : Nat) = 0 ∧ (lM y).length = (lM y_4).length ∧ g.val.2.2.1 = g_1.val.2.2.1) ∧ (true =
 true ∧ NilNil ∧ (0 : Nat) = 0 ∧ (1 : Nat) = 1 ∧ (0 : Nat) = 0 ∧ (lM y).length = (lM y_4).length ∧ g.val.2.2.1 = g_1.val.2.2.1) ∧ True) ∧ ((3 : TypeId) = 3 ∧ (1
 : Nat) = 1 ∧ g.val.1 = g_1.val.1 ∧ (lC y_4).length ≤ (lC y).length ∧ ∀ (i : Nat), i < (lC y_4).length → [AV.int .i64 ((lC y).getD i 0)] = [AV.int .i64 ((lC
 y_4).getD i 0)]) ∧ ((3 : TypeId) = 3 ∧ (1 : Nat) = 1 ∧ g.val.2.1 = g_1.val.2.1 ∧ (lE y_4).length ≤ (lE y).length ∧ ∀ (i : Nat), i < (lE y_4).length → [AV.int
 .i64 ((lE y).getD i 0)] = [AV.int .i64 ((lE y_4).getD i 0)]) ∧ ((3 : TypeId) = 3 ∧ (1 : Nat) = 1 ∧ g.val.2.2.1 = g_1.val.2.2.1 ∧ (lM y_4).length ≤ (lM y).length
 ∧ ∀ (i : Nat), i < (lM y_4).length → [AV.int .i64 ((lM y).getD i 0)] = [AV.int .i64 ((lM y_4).getD i 0)]) ∧ True) ∧ I64 ((↑t.1 : Int) + 1) ∧ Exx (Nat × AllocT)
 fun t' => (I t' ∧ m t' < m t) ∧ Tr 1 (((2 : Nat) = 2 ∧ x.2.length = x.2.length ∧ ∀ (i : Nat), i < x.2.length → [AV.int .i64 (x.2.getD i act18Z).kind, AV.int
 .i64 (x.2.getD i act18Z).at_] = [AV.int .i64 (x.2.getD i act18Z).kind, AV.int .i64 (x.2.getD i act18Z).at_]) ∧ Tr 3 ((true = true ∧ NilNil ∧ (0 : Nat) = 0) ∧
 (true = true ∧ NilNil ∧ (0 : Nat) = 0) ∧ Tr 1 ((↑t.1 : Int) + 1 = (↑t'.fst : Int)) ∧ Tr 67 True)) ∧ true = true ∧ ((24 : TypeId) = 24 ∧ Tr 1 ((↑x.1.1 : Int) =
 (↑x.1.1 : Int)) ∧ ((1 : Nat) = 1 ∧ x.1.2.1.length = x.1.2.1.length ∧ ∀ (i : Nat), i < x.1.2.1.length → [AV.int .i64 (x.1.2.1.getD i 0)] = [AV.int .i64
 (x.1.2.1.getD i 0)]) ∧ ((1 : Nat) = 1 ∧ x.1.2.2.1.length = x.1.2.2.1.length ∧ ∀ (i : Nat), i < x.1.2.2.1.length → [AV.int .i64 (x.1.2.2.1.getD i 0)] = [AV.int
 .i64 (x.1.2.2.1.getD i 0)]) ∧ Tr 1 (x.1.2.2.2 = x.1.2.2.2) ∧ True) ∧ allocB x_8 = allocB t'.snd ∧ refB y_4 = refB t'.snd ∧ True)) ∧ Exx (Nat × Nat) fun x_9 =>
 (((true = true ∧ NilNil ∧ (0 : Nat) = 0) ∧ True) ∧ true = true ∧ setB (x_8.n, x_8.w) = setB x_9 ∧ True) ∧ SetW x_9 ∧ ∀ (y_2 : Nat), (listN x_9).length ≤ y_2 →
 Exx (List Int × List Int) fun x_10 => (((0 + (listN x_9).length ≤ (listN x_9).length ∧ (listN x_9).length = x_10.1.length ∧ ∀ (i : Nat), i < x_10.1.length →
 [AV.int .i64 ((listN x_9).getD (0 + i) 0)] = [AV.int .i64 (x_10.1.getD i 0)]) ∧ (0 + (lM y).length ≤ (lM y).length ∧ (lM y).length = x_10.2.length ∧ ∀ (i :
 Nat), i < x_10.2.length → [AV.int .i64 ((lM y).getD (0 + i) 0)] = [AV.int .i64 (x_10.2.getD i 0)]) ∧ True) ∧ true = true ∧ True) ∧ (IntL x_10.1 ∧ IntL x_10.2) ∧
 ∀ (y_3 : Unit), True → BC (!decide (x_10.1 = x_10.2)) (Exx Unit fun y => ((false = true ∧ True) ∧ true = true ∧ True) ∧ True) (Exx AllocT fun y_4 => Exx
 (Subtype (RCap y_4 false false true)) fun g_1 => Tr 1 (((38 : TypeId) = 38 ∧ Tr 1 ((↑y.n : Int) = (↑y_4.n : Int)) ∧ Tr 1 (y.r = y_4.r) ∧ (true = true ∧ NilNil ∧
 (0 : Nat) = 0 ∧ (1 : Nat) = 1 ∧ (0 : Nat) = 0 ∧ (lC y).length = (lC y_4).length ∧ g.val.1 = g_1.val.1) ∧ (true = true ∧ NilNil ∧ (0 : Nat) = 0 ∧ (1 : Nat) = 1 ∧
 (0 : Nat) = 0 ∧ (lE y).length = (lE y_4).length ∧ g.val.2.1 = g_1.val.2.1) ∧ (true = true ∧ NilNil ∧ (0 : Nat) = 0 ∧ (1 : Nat) = 1 ∧ (0 : Nat) = 0 ∧ (lM
 y).length = (lM y_4).length ∧ g.val.2.2.1 = g_1.val.2.2.1) ∧ (true = true ∧ NilNil ∧ (0 : Nat) = 0 ∧ (1 : Nat) = 1 ∧ (0 : Nat) = 0 ∧ (lM y).length = (lM
 y_4).length ∧ g.val.2.2.1 = g_1.val.2.2.1) ∧ True) ∧ ((3 : TypeId) = 3 ∧ (1 : Nat) = 1 ∧ g.val.1 = g_1.val.1 ∧ (lC y_4).length ≤ (lC y).length ∧ ∀ (i : Nat), i
 < (lC y_4).length → [AV.int .i64 ((lC y).getD i 0)] = [AV.int .i64 ((lC y_4).getD i 0)]) ∧ ((3 : TypeId) = 3 ∧ (1 : Nat) = 1 ∧ g.val.2.1 = g_1.val.2.1 ∧ (lE
 y_4).length ≤ (lE y).length ∧ ∀ (i : Nat), i < (lE y_4).length → [AV.int .i64 ((lE y).getD i 0)] = [AV.int .i64 ((lE y_4).getD i 0)]) ∧ ((3 : TypeId) = 3 ∧ (1 :
 Nat) = 1 ∧ g.val.2.2.1 = g_1.val.2.2.1 ∧ (lM y_4).length ≤ (lM y).length ∧ ∀ (i : Nat), i < (lM y_4).length → [AV.int .i64 ((lM y).getD i 0)] = [AV.int .i64
 ((lM y_4).getD i 0)]) ∧ True) ∧ I64 ((↑t.1 : Int) + 1) ∧ Exx (Nat × AllocT) fun t' => (I t' ∧ m t' < m t) ∧ Tr 1 (((2 : Nat) = 2 ∧ x.2.length = x.2.length ∧ ∀
 (i : Nat), i < x.2.length → [AV.int .i64 (x.2.getD i act18Z).kind, AV.int .i64 (x.2.getD i act18Z).at_] = [AV.int .i64 (x.2.getD i act18Z).kind, AV.int .i64
 (x.2.getD i act18Z).at_]) ∧ Tr 3 ((true = true ∧ NilNil ∧ (0 : Nat) = 0) ∧ (true = true ∧ NilNil ∧ (0 : Nat) = 0) ∧ Tr 1 ((↑t.1 : Int) + 1 = (↑t'.fst : Int)) ∧
 Tr 67 True)) ∧ true = true ∧ ((24 : TypeId) = 24 ∧ Tr 1 ((↑x.1.1 : Int) = (↑x.1.1 : Int)) ∧ ((1 : Nat) = 1 ∧ x.1.2.1.length = x.1.2.1.length ∧ ∀ (i : Nat), i <
 x.1.2.1.length → [AV.int .i64 (x.1.2.1.getD i 0)] = [AV.int .i64 (x.1.2.1.getD i 0)]) ∧ ((1 : Nat) = 1 ∧ x.1.2.2.1.length = x.1.2.2.1.length ∧ ∀ (i : Nat), i <
 x.1.2.2.1.length → [AV.int .i64 (x.1.2.2.1.getD i 0)] = [AV.int .i64 (x.1.2.2.1.getD i 0)]) ∧ Tr 1 (x.1.2.2.2 = x.1.2.2.2) ∧ True) ∧ allocB x_8 = allocB t'.snd
 ∧ refB y_4 = refB t'.snd ∧ True)) ∧ Exx AllocT fun x_8 => (((true = true ∧ NilNil ∧ (0 : Nat) = 0) ∧ True) ∧ true = true ∧ allocB x_6.1 = allocB x_8 ∧ True) ∧
 AllocW x_8 ∧ ∀ (y_1 : Unit), True → Exx (Nat × Nat) fun x_9 => (((true = true ∧ NilNil ∧ (0 : Nat) = 0) ∧ True) ∧ true = true ∧ setB (x_8.n, x_8.w) = setB x_9 ∧
 True) ∧ SetW x_9 ∧ ∀ (y_2 : Nat), (listN x_9).length ≤ y_2 → Exx (List Int × List Int) fun x_10 => (((0 + (listN x_9).length ≤ (listN x_9).length ∧ (listN
 x_9).length = x_10.1.length ∧ ∀ (i : Nat), i < x_10.1.length → [AV.int .i64 ((listN x_9).getD (0 + i) 0)] = [AV.int .i64 (x_10.1.getD i 0)]) ∧ (0 + (lM
 y).length ≤ (lM y).length ∧ (lM y).length = x_10.2.length ∧ ∀ (i : Nat), i < x_10.2.length → [AV.int .i64 ((lM y).getD (0 + i) 0)] = [AV.int .i64 (x_10.2.getD i
 0)]) ∧ True) ∧ true = true ∧ True) ∧ (IntL x_10.1 ∧ IntL x_10.2) ∧ ∀ (y_3 : Unit), True → BC (!decide (x_10.1 = x_10.2)) (Exx Unit fun y => ((false = true ∧
 True) ∧ true = true ∧ True) ∧ True) (Exx AllocT fun y_4 => Exx (Subtype (RCap y_4 false false true)) fun g_1 => Tr 1 (((38 : TypeId) = 38 ∧ Tr 1 ((↑y.n : Int) =
 (↑y_4.n : Int)) ∧ Tr 1 (y.r = y_4.r) ∧ (true = true ∧ NilNil ∧ (0 : Nat) = 0 ∧ (1 : Nat) = 1 ∧ (0 : Nat) = 0 ∧ (lC y).length = (lC y_4).length ∧ g.val.1 =
 g_1.val.1) ∧ (true = true ∧ NilNil ∧ (0 : Nat) = 0 ∧ (1 : Nat) = 1 ∧ (0 : Nat) = 0 ∧ (lE y).length = (lE y_4).length ∧ g.val.2.1 = g_1.val.2.1) ∧ (true = true ∧
 NilNil ∧ (0 : Nat) = 0 ∧ (1 : Nat) = 1 ∧ (0 : Nat) = 0 ∧ (lM y).length = (lM y_4).length ∧ g.val.2.2.1 = g_1.val.2.2.1) ∧ (true = true ∧ NilNil ∧ (0 : Nat) = 0
 ∧ (1 : Nat) = 1 ∧ (0 : Nat) = 0 ∧ (lM y).length = (lM y_4).length ∧ g.val.2.2.1 = g_1.val.2.2.1) ∧ True) ∧ ((3 : TypeId) = 3 ∧ (1 : Nat) = 1 ∧ g.val.1 =
 g_1.val.1 ∧ (lC y_4).length ≤ (lC y).length ∧ ∀ (i : Nat), i < (lC y_4).length → [AV.int .i64 ((lC y).getD i 0)] = [AV.int .i64 ((lC y_4).getD i 0)]) ∧ ((3 :
 TypeId) = 3 ∧ (1 : Nat) = 1 ∧ g.val.2.1 = g_1.val.2.1 ∧ (lE y_4).length ≤ (lE y).length ∧ ∀ (i : Nat), i < (lE y_4).length → [AV.int .i64 ((lE y).getD i 0)] =
 [AV.int .i64 ((lE y_4).getD i 0)]) ∧ ((3 : TypeId) = 3 ∧ (1 : Nat) = 1 ∧ g.val.2.2.1 = g_1.val.2.2.1 ∧ (lM y_4).length ≤ (lM y).length ∧ ∀ (i : Nat), i < (lM
 y_4).length → [AV.int .i64 ((lM y).getD i 0)] = [AV.int .i64 ((lM y_4).getD i 0)]) ∧ True) ∧ I64 ((↑t.1 : Int) + 1) ∧ Exx (Nat × AllocT) fun t' => (I t' ∧ m t'
 < m t) ∧ Tr 1 (((2 : Nat) = 2 ∧ x.2.length = x.2.length ∧ ∀ (i : Nat), i < x.2.length → [AV.int .i64 (x.2.getD i act18Z).kind, AV.int .i64 (x.2.getD i
 act18Z).at_] = [AV.int .i64 (x.2.getD i act18Z).kind, AV.int .i64 (x.2.getD i act18Z).at_]) ∧ Tr 3 ((true = true ∧ NilNil ∧ (0 : Nat) = 0) ∧ (true = true ∧
 NilNil ∧ (0 : Nat) = 0) ∧ Tr 1 ((↑t.1 : Int) + 1 = (↑t'.fst : Int)) ∧ Tr 67 True)) ∧ true = true ∧ ((24 : TypeId) = 24 ∧ Tr 1 ((↑x.1.1 : Int) = (↑x.1.1 : Int))
 ∧ ((1 : Nat) = 1 ∧ x.1.2.1.length = x.1.2.1.length ∧ ∀ (i : Nat), i < x.1.2.1.length → [AV.int .i64 (x.1.2.1.getD i 0)] = [AV.int .i64 (x.1.2.1.getD i 0)]) ∧
 ((1 : Nat) = 1 ∧ x.1.2.2.1.length = x.1.2.2.1.length ∧ ∀ (i : Nat), i < x.1.2.2.1.length → [AV.int .i64 (x.1.2.2.1.getD i 0)] = [AV.int .i64 (x.1.2.2.1.getD i
 0)]) ∧ Tr 1 (x.1.2.2.2 = x.1.2.2.2) ∧ True) ∧ allocB x_8 = allocB t'.snd ∧ refB y_4 = refB t'.snd ∧ True))) ∧ (∀ (g : Subtype (RCap y false false false)), BC
 (!(hasN (x_6.1.n, x_6.1.w) x_6.2 && !hasN (x_6.1.n, x_6.1.m) x_6.2) == (hasN (x_7.1.n, x_7.1.w) x_7.2 && !hasN (x_7.1.n, x_7.1.m) x_7.2)) (Exx Unit fun y =>
 ((false = true ∧ True) ∧ true = true ∧ True) ∧ True) ((Exx AllocT fun x_8 => (((true = true ∧ NilNil ∧ (0 : Nat) = 0) ∧ True) ∧ true = true ∧ allocB x_6.1 =
 allocB x_8 ∧ True) ∧ AllocW x_8 ∧ ∀ (y_1 : Unit), True → (Exx (Nat × Nat) fun x_9 => (((true = true ∧ NilNil ∧ (0 : Nat) = 0) ∧ True) ∧ true = true ∧ setB
 (x_8.n, x_8.w) = setB x_9 ∧ True) ∧ SetW x_9 ∧ ∀ (y_2 : Nat), (listN x_9).length ≤ y_2 → Exx (List Int × List Int) fun x_10 => (((0 + (listN x_9).length ≤
 (listN x_9).length ∧ (listN x_9).length = x_10.1.length ∧ ∀ (i : Nat), i < x_10.1.length → [AV.int .i64 ((listN x_9).getD (0 + i) 0)] = [AV.int .i64
 (x_10.1.getD i 0)]) ∧ (0 + (lW y).length ≤ (lW y).length ∧ (lW y).length = x_10.2.length ∧ ∀ (i : Nat), i < x_10.2.length → [AV.int .i64 ((lW y).getD (0 + i)
 0)] = [AV.int .i64 (x_10.2.getD i 0)]) ∧ True) ∧ true = true ∧ True) ∧ (IntL x_10.1 ∧ IntL x_10.2) ∧ ∀ (y_3 : Unit), True → BC (!decide (x_10.1 = x_10.2)) (Exx
 Unit fun y => ((false = true ∧ True) ∧ true = true ∧ True) ∧ True) (Exx AllocT fun y_4 => Exx (Subtype (RCap y_4 false false false)) fun g_1 => Tr 1 (((38 :
 TypeId) = 38 ∧ Tr 1 ((↑y.n : Int) = (↑y_4.n : Int)) ∧ Tr 1 (y.r = y_4.r) ∧ (true = true ∧ NilNil ∧ (0 : Nat) = 0 ∧ (1 : Nat) = 1 ∧ (0 : Nat) = 0 ∧ (lC y).length
 = (lC y_4).length ∧ g.val.1 = g_1.val.1) ∧ (true = true ∧ NilNil ∧ (0 : Nat) = 0 ∧ (1 : Nat) = 1 ∧ (0 : Nat) = 0 ∧ (lE y).length = (lE y_4).length ∧ g.val.2.1 =
 g_1.val.2.1) ∧ (true = true ∧ NilNil ∧ (0 : Nat) = 0 ∧ (1 : Nat) = 1 ∧ (0 : Nat) = 0 ∧ (lM y).length = (lM y_4).length ∧ g.val.2.2.1 = g_1.val.2.2.1) ∧ (true =
 true ∧ NilNil ∧ (0 : Nat) = 0 ∧ (1 : Nat) = 1 ∧ (0 : Nat) = 0 ∧ (lW y).length = (lW y_4).length ∧ g.val.2.2.2 = g_1.val.2.2.2) ∧ True) ∧ ((3 : TypeId) = 3 ∧ (1
 : Nat) = 1 ∧ g.val.1 = g_1.val.1 ∧ (lC y_4).length ≤ (lC y).length ∧ ∀ (i : Nat), i < (lC y_4).length → [AV.int .i64 ((lC y).getD i 0)] = [AV.int .i64 ((lC
 y_4).getD i 0)]) ∧ ((3 : TypeId) = 3 ∧ (1 : Nat) = 1 ∧ g.val.2.1 = g_1.val.2.1 ∧ (lE y_4).length ≤ (lE y).length ∧ ∀ (i : Nat), i < (lE y_4).length → [AV.int
 .i64 ((lE y).getD i 0)] = [AV.int .i64 ((lE y_4).getD i 0)]) ∧ ((3 : TypeId) = 3 ∧ (1 : Nat) = 1 ∧ g.val.2.2.1 = g_1.val.2.2.1 ∧ (lM y_4).length ≤ (lM y).length
 ∧ ∀ (i : Nat), i < (lM y_4).length → [AV.int .i64 ((lM y).getD i 0)] = [AV.int .i64 ((lM y_4).getD i 0)]) ∧ ((3 : TypeId) = 3 ∧ (1 : Nat) = 1 ∧ g.val.2.2.2 =
 g_1.val.2.2.2 ∧ (lW y_4).length ≤ (lW y).length ∧ ∀ (i : Nat), i < (lW y_4).length → [AV.int .i64 ((lW y).getD i 0)] = [AV.int .i64 ((lW y_4).getD i 0)]) ∧
 True) ∧ I64 ((↑t.1 : Int) + 1) ∧ Exx (Nat × AllocT) fun t' => (I t' ∧ m t' < m t) ∧ Tr 1 (((2 : Nat) = 2 ∧ x.2.length = x.2.length ∧ ∀ (i : Nat), i < x.2.length
 → [AV.int .i64 (x.2.getD i act18Z).kind, AV.int .i64 (x.2.getD i act18Z).at_] = [AV.int .i64 (x.2.getD i act18Z).kind, AV.int .i64 (x.2.getD i act18Z).at_]) ∧
 Tr 3 ((true = true ∧ NilNil ∧ (0 : Nat) = 0) ∧ (true = true ∧ NilNil ∧ (0 : Nat) = 0) ∧ Tr 1 ((↑t.1 : Int) + 1 = (↑t'.fst : Int)) ∧ Tr 67 True)) ∧ true = true ∧
 ((24 : TypeId) = 24 ∧ Tr 1 ((↑x.1.1 : Int) = (↑x.1.1 : Int)) ∧ ((1 : Nat) = 1 ∧ x.1.2.1.length = x.1.2.1.length ∧ ∀ (i : Nat), i < x.1.2.1.length → [AV.int .i64
 (x.1.2.1.getD i 0)] = [AV.int .i64 (x.1.2.1.getD i 0)]) ∧ ((1 : Nat) = 1 ∧ x.1.2.2.1.length = x.1.2.2.1.length ∧ ∀ (i : Nat), i < x.1.2.2.1.length → [AV.int
 .i64 (x.1.2.2.1.getD i 0)] = [AV.int .i64 (x.1.2.2.1.getD i 0)]) ∧ Tr 1 (x.1.2.2.2 = x.1.2.2.2) ∧ True) ∧ allocB x_8 = allocB t'.snd ∧ refB y_4 = refB t'.snd ∧
 True)) ∧ Exx (Nat × Nat) fun x_9 => (((true = true ∧ NilNil ∧ (0 : Nat) = 0) ∧ True) ∧ true = true ∧ setB (x_8.n, x_8.w) = setB x_9 ∧ True) ∧ SetW x_9 ∧ ∀ (y_2
 : Nat), (listN x_9).length ≤ y_2 → Exx (List Int × List Int) fun x_10 => (((0 + (listN x_9).length ≤ (listN x_9).length ∧ (listN x_9).length = x_10.1.length ∧ ∀
 (i : Nat), i < x_10.1.length → [AV.int .i64 ((listN x_9).getD (0 + i) 0)] = [AV.int .i64 (x_10.1.getD i 0)]) ∧ (0 + (lW y).length ≤ (lW y).length ∧ (lW
 y).length = x_10.2.length ∧ ∀ (i : Nat), i < x_10.2.length → [AV.int .i64 ((lW y).getD (0 + i) 0)] = [AV.int .i64 (x_10.2.getD i 0)]) ∧ True) ∧ true = true ∧
 True) ∧ (IntL x_10.1 ∧ IntL x_10.2) ∧ ∀ (y_3 : Unit), True → BC (!decide (x_10.1 = x_10.2)) (Exx Unit fun y => ((false = true ∧ True) ∧ true = true ∧ True) ∧
 True) (Exx AllocT fun y_4 => Exx (Subtype (RCap y_4 false false false)) fun g_1 => Tr 1 (((38 : TypeId) = 38 ∧ Tr 1 ((↑y.n : Int) = (↑y_4.n : Int)) ∧ Tr 1 (y.r
 = y_4.r) ∧ (true = true ∧ NilNil ∧ (0 : Nat) = 0 ∧ (1 : Nat) = 1 ∧ (0 : Nat) = 0 ∧ (lC y).length = (lC y_4).length ∧ g.val.1 = g_1.val.1) ∧ (true = true ∧
 NilNil ∧ (0 : Nat) = 0 ∧ (1 : Nat) = 1 ∧ (0 : Nat) = 0 ∧ (lE y).length = (lE y_4).length ∧ g.val.2.1 = g_1.val.2.1) ∧ (true = true ∧ NilNil ∧ (0 : Nat) = 0 ∧ (1
 : Nat) = 1 ∧ (0 : Nat) = 0 ∧ (lM y).length = (lM y_4).length ∧ g.val.2.2.1 = g_1.val.2.2.1) ∧ (true = true ∧ NilNil ∧ (0 : Nat) = 0 ∧ (1 : Nat) = 1 ∧ (0 : Nat)
 = 0 ∧ (lW y).length = (lW y_4).length ∧ g.val.2.2.2 = g_1.val.2.2.2) ∧ True) ∧ ((3 : TypeId) = 3 ∧ (1 : Nat) = 1 ∧ g.val.1 = g_1.val.1 ∧ (lC y_4).length ≤ (lC
 y).length ∧ ∀ (i : Nat), i < (lC y_4).length → [AV.int .i64 ((lC y).getD i 0)] = [AV.int .i64 ((lC y_4).getD i 0)]) ∧ ((3 : TypeId) = 3 ∧ (1 : Nat) = 1 ∧
 g.val.2.1 = g_1.val.2.1 ∧ (lE y_4).length ≤ (lE y).length ∧ ∀ (i : Nat), i < (lE y_4).length → [AV.int .i64 ((lE y).getD i 0)] = [AV.int .i64 ((lE y_4).getD i
 0)]) ∧ ((3 : TypeId) = 3 ∧ (1 : Nat) = 1 ∧ g.val.2.2.1 = g_1.val.2.2.1 ∧ (lM y_4).length ≤ (lM y).length ∧ ∀ (i : Nat), i < (lM y_4).length → [AV.int .i64 ((lM
 y).getD i 0)] = [AV.int .i64 ((lM y_4).getD i 0)]) ∧ ((3 : TypeId) = 3 ∧ (1 : Nat) = 1 ∧ g.val.2.2.2 = g_1.val.2.2.2 ∧ (lW y_4).length ≤ (lW y).length ∧ ∀ (i :
 Nat), i < (lW y_4).length → [AV.int .i64 ((lW y).getD i 0)] = [AV.int .i64 ((lW y_4).getD i 0)]) ∧ True) ∧ I64 ((↑t.1 : Int) + 1) ∧ Exx (Nat × AllocT) fun t' =>
 (I t' ∧ m t' < m t) ∧ Tr 1 (((2 : Nat) = 2 ∧ x.2.length = x.2.length ∧ ∀ (i : Nat), i < x.2.length → [AV.int .i64 (x.2.getD i act18Z).kind, AV.int .i64
 (x.2.getD i act18Z).at_] = [AV.int .i64 (x.2.getD i act18Z).kind, AV.int .i64 (x.2.getD i act18Z).at_]) ∧ Tr 3 ((true = true ∧ NilNil ∧ (0 : Nat) = 0) ∧ (true =
 true ∧ NilNil ∧ (0 : Nat) = 0) ∧ Tr 1 ((↑t.1 : Int) + 1 = (↑t'.fst : Int)) ∧ Tr 67 True)) ∧ true = true ∧ ((24 : TypeId) = 24 ∧ Tr 1 ((↑x.1.1 : Int) = (↑x.1.1 :
 Int)) ∧ ((1 : Nat) = 1 ∧ x.1.2.1.length = x.1.2.1.length ∧ ∀ (i : Nat), i < x.1.2.1.length → [AV.int .i64 (x.1.2.1.getD i 0)] = [AV.int .i64 (x.1.2.1.getD i
 0)]) ∧ ((1 : Nat) = 1 ∧ x.1.2.2.1.length = x.1.2.2.1.length ∧ ∀ (i : Nat), i < x.1.2.2.1.length → [AV.int .i64 (x.1.2.2.1.getD i 0)] = [AV.int .i64
 (x.1.2.2.1.getD i 0)]) ∧ Tr 1 (x.1.2.2.2 = x.1.2.2.2) ∧ True) ∧ allocB x_8 = allocB t'.snd ∧ refB y_4 = refB t'.snd ∧ True)) ∧ Exx AllocT fun x_8 => (((true =
 true ∧ NilNil ∧ (0 : Nat) = 0) ∧ True) ∧ true = true ∧ allocB x_6.1 = allocB x_8 ∧ True) ∧ AllocW x_8 ∧ ∀ (y_1 : Unit), True → Exx (Nat × Nat) fun x_9 =>
 (((true = true ∧ NilNil ∧ (0 : Nat) = 0) ∧ True) ∧ true = true ∧ setB (x_8.n, x_8.w) = setB x_9 ∧ True) ∧ SetW x_9 ∧ ∀ (y_2 : Nat), (listN x_9).length ≤ y_2 →
 Exx (List Int × List Int) fun x_10 => (((0 + (listN x_9).length ≤ (listN x_9).length ∧ (listN x_9).length = x_10.1.length ∧ ∀ (i : Nat), i < x_10.1.length →
 [AV.int .i64 ((listN x_9).getD (0 + i) 0)] = [AV.int .i64 (x_10.1.getD i 0)]) ∧ (0 + (lW y).length ≤ (lW y).length ∧ (lW y).length = x_10.2.length ∧ ∀ (i :
 Nat), i < x_10.2.length → [AV.int .i64 ((lW y).getD (0 + i) 0)] = [AV.int .i64 (x_10.2.getD i 0)]) ∧ True) ∧ true = true ∧ True) ∧ (IntL x_10.1 ∧ IntL x_10.2) ∧
 ∀ (y_3 : Unit), True → BC (!decide (x_10.1 = x_10.2)) (Exx Unit fun y => ((false = true ∧ True) ∧ true = true ∧ True) ∧ True) (Exx AllocT fun y_4 => Exx
 (Subtype (RCap y_4 false false false)) fun g_1 => Tr 1 (((38 : TypeId) = 38 ∧ Tr 1 ((↑y.n : Int) = (↑y_4.n : Int)) ∧ Tr 1 (y.r = y_4.r) ∧ (true = true ∧ NilNil
 ∧ (0 : Nat) = 0 ∧ (1 : Nat) = 1 ∧ (0 : Nat) = 0 ∧ (lC y).length = (lC y_4).length ∧ g.val.1 = g_1.val.1) ∧ (true = true ∧ NilNil ∧ (0 : Nat) = 0 ∧ (1 : Nat) = 1
 ∧ (0 : Nat) = 0 ∧ (lE y).length = (lE y_4).length ∧ g.val.2.1 = g_1.val.2.1) ∧ (true = true ∧ NilNil ∧ (0 : Nat) = 0 ∧ (1 : Nat) = 1 ∧ (0 : Nat) = 0 ∧ (lM
 y).length = (lM y_4).length ∧ g.val.2.2.1 = g_1.val.2.2.1) ∧ (true = true ∧ NilNil ∧ (0 : Nat) = 0 ∧ (1 : Nat) = 1 ∧ (0 : Nat) = 0 ∧ (lW y).length = (lW
 y_4).length ∧ g.val.2.2.2 = g_1.val.2.2.2) ∧ True) ∧ ((3 : TypeId) = 3 ∧ (1 : Nat) = 1 ∧ g.val.1 = g_1.val.1 ∧ (lC y_4).length ≤ (lC y).length ∧ ∀ (i : Nat), i
 < (lC y_4).length → [AV.int .i64 ((lC y).getD i 0)] = [AV.int .i64 ((lC y_4).getD i 0)]) ∧ ((3 : TypeId) = 3 ∧ (1 : Nat) = 1 ∧ g.val.2.1 = g_1.val.2.1 ∧ (lE
 y_4).length ≤ (lE y).length ∧ ∀ (i : Nat), i < (lE y_4).length → [AV.int .i64 ((lE y).getD i 0)] = [AV.int .i64 ((lE y_4).getD i 0)]) ∧ ((3 : TypeId) = 3 ∧ (1 :
 Nat) = 1 ∧ g.val.2.2.1 = g_1.val.2.2.1 ∧ (lM y_4).length ≤ (lM y).length ∧ ∀ (i : Nat), i < (lM y_4).length → [AV.int .i64 ((lM y).getD i 0)] = [AV.int .i64
 ((lM y_4).getD i 0)]) ∧ ((3 : TypeId) = 3 ∧ (1 : Nat) = 1 ∧ g.val.2.2.2 = g_1.val.2.2.2 ∧ (lW y_4).length ≤ (lW y).length ∧ ∀ (i : Nat), i < (lW y_4).length →
 [AV.int .i64 ((lW y).getD i 0)] = [AV.int .i64 ((lW y_4).getD i 0)]) ∧ True) ∧ I64 ((↑t.1 : Int) + 1) ∧ Exx (Nat × AllocT) fun t' => (I t' ∧ m t' < m t) ∧ Tr 1
 (((2 : Nat) = 2 ∧ x.2.length = x.2.length ∧ ∀ (i : Nat), i < x.2.length → [AV.int .i64 (x.2.getD i act18Z).kind, AV.int .i64 (x.2.getD i act18Z).at_] = [AV.int
 .i64 (x.2.getD i act18Z).kind, AV.int .i64 (x.2.getD i act18Z).at_]) ∧ Tr 3 ((true = true ∧ NilNil ∧ (0 : Nat) = 0) ∧ (true = true ∧ NilNil ∧ (0 : Nat) = 0) ∧
 Tr 1 ((↑t.1 : Int) + 1 = (↑t'.fst : Int)) ∧ Tr 67 True)) ∧ true = true ∧ ((24 : TypeId) = 24 ∧ Tr 1 ((↑x.1.1 : Int) = (↑x.1.1 : Int)) ∧ ((1 : Nat) = 1 ∧
 x.1.2.1.length = x.1.2.1.length ∧ ∀ (i : Nat), i < x.1.2.1.length → [AV.int .i64 (x.1.2.1.getD i 0)] = [AV.int .i64 (x.1.2.1.getD i 0)]) ∧ ((1 : Nat) = 1 ∧
 x.1.2.2.1.length = x.1.2.2.1.length ∧ ∀ (i : Nat), i < x.1.2.2.1.length → [AV.int .i64 (x.1.2.2.1.getD i 0)] = [AV.int .i64 (x.1.2.2.1.getD i 0)]) ∧ Tr 1
 (x.1.2.2.2 = x.1.2.2.2) ∧ True) ∧ allocB x_8 = allocB t'.snd ∧ refB y_4 = refB t'.snd ∧ True))) ∧ True)) (Exx Unit fun y => ((true = true ∧ True) ∧ true = true
 ∧ True) ∧ True)) ∧ (¬made18I.p x_2 → ∀ (y : Unit), True → Exx Unit fun y => ((true = true ∧ True) ∧ true = true ∧ True) ∧ True)))) = (fnVC tb [(7, specOf awake18C), (8, specIf made18I), (9, specOf refFreeC), (12, specOf allocFreeC), (19, specOf worksC), (20, specOf setListC), (22, specOf refIntsC), (23, specOf do18C), (24, specOf allocOwnC), (25, ownOpenP)] Tryd.f6 allocActsC (fun x => { loops := [(9, acts18LA x)], loose := [(11, [2, 3])], closesH := [(10, [{ Y := AllocT, f := fun y H => clR 3 H y }])] }) (fun _ => none)) := by kernel_rfl 

theorem allocActs_ok : SpecOk Tryd.prog 6 (specOf allocActsC) := by
  refine specOk mixed tb_ok (SPok.cons awake18_ok (SPok.cons made18_ok (SPok.cons refFree_ok (SPok.cons allocFree_ok (SPok.cons works_ok (SPok.cons setList_ok (SPok.cons refInts_ok (SPok.cons do18_ok (SPok.cons allocOwn_ok (SPok.cons ownOpen_ok SPok.nil)))))))))) Tryd.func6 (by decide) (pureC_ok fun _ => rfl) (an := (fun x => { loops := [(9, acts18LA x)], loose := [(11, [2, 3])], closesH := [(10, [{ Y := AllocT, f := fun y H => clR 3 H y }])] })) (σ := (fun _ => none)) ?_
  rw [← allocActsV]
  simp (maxSteps := 10000000) only [and_false, false_and, false_or, or_false, bOf_true, bOf_false, true_bOf, false_bOf, Exx, int_ite, merge_o, Tr_eq, true_and, and_true, exists_const, forall_const, implies_true, forall_eq, exists_eq, exists_eq', exists_eq_left, exists_eq_left', exists_eq_right, Prod.exists, Prod.forall, and_assoc, exists_and_left, BC_iff, Bool.not_eq_true', Bool.not_eq_false', decide_eq_true_eq, decide_eq_false_iff_not, I64, nat_cast_inj, Int.toNat_natCast, nats_iff, nats_iff', ints_iff, ints_iff', natss_iff, natss_iff', nilnil, litL_eq, str_inj, str_append, str_length, str_getD, str_take, lit1_iff, one_iff, two_iff, one_get, Nat.zero_add, Nat.sub_zero, Nat.reduceMul, Nat.reduceDiv, Nat.reduceAdd, Int.reduceToNat, Nat.not_lt_zero, if_false, if_true, Nat.le_refl, List.length_singleton, List.length_cons, List.length_nil, Bool.false_eq_true, not_true_eq_false, false_implies, not_false_eq_true, Prod.mk.injEq, allocB_inj, refB_inj, setB_inj, refB_open, Subtype.forall, Subtype.exists, exists_prop, RCap, RC1_t, RC1_f]
  rintro n u e r ls ⟨hS, ha⟩ hl
  have hS' := hS
  obtain ⟨s1, s2, s3, s4, s5⟩ := hS
  refine ⟨s1, s2, s3, s4, s5, fun hp => ?_⟩
  have hR := startS_R hS' hp
  generalize startS (n, u, e, r) = b at *
  refine ⟨fun t => RefR t.2 ∧ t.1 ≤ ls.length, ⟨0, b, ⟨hR, Nat.zero_le _⟩, rfl, rfl, rfl⟩, fun t => ls.length - t.1, fun i x hI hlt => ?_⟩
  obtain ⟨hX, hi⟩ := hI
  simp only at hX hi
  have hlt' : i < ls.length := by omega
  have hA := act18_get ha i
  generalize ls.getD i act18Z = a at *
  have b1 : (-9223372036854775808 : Int) ≤ (i : Int) + 1 := by omega
  have b2 : (i : Int) + 1 ≤ 9223372036854775807 := by omega
  have b3 : (0 : Int) ≤ (i : Int) := by omega
  have hA' := hA
  obtain ⟨⟨hk1, hk2⟩, hk3, hk4⟩ := hA
  have hy := stepS_R hX (a.kind % 7) a.at_
  have hfl := freeL_len hy.W.W
  refine ⟨b3, hlt, x, a, rfl, rfl, rfl, rfl, hX, hA', ?_⟩
  have back : ∃ (p : Nat) (z : AllocT), (RefR z ∧ p ≤ ls.length) ∧ ls.length - p < ls.length - i ∧ (i : Int) + 1 = (p : Int) ∧ stepS x (a.kind % 7) a.at_ = z ∧ stepS x (a.kind % 7) a.at_ = z := ⟨i + 1, _, ⟨hy, by omega⟩, by omega, by omega, rfl, rfl⟩
  generalize stepS x (a.kind % 7) a.at_ = y at *
  have hil : ∀ m, IntL (listN (y.n, m)) := hy.W.I
  have hyR := hy.W
  have hyW := hy.W.W
  have hSW : SetW (y.n, y.w) := ⟨hyW.1, hyW.2.2.2.2.2⟩
  simp only [← hfl, not_true_eq_false, false_implies, true_implies, and_true, true_and, beq_self_eq_true, Bool.true_eq_false]
  repeat' first
    | with_reducible assumption
    | with_reducible exact back
    | with_reducible rfl
    | with_reducible exact hil _
    | (intro _)
    | with_reducible apply And.intro
    | with_reducible exact Nat.le_refl _
    | with_reducible refine Exists.intro y ?_
  all_goals first
    | omega
    | (simp_all; done)

def allocActsLC : Ctr := pureC (StartX × List (Int × Int)) (fun x => StartI x.1 ∧ A18I x.2) (fun x => [startA x.1, a18A x.2]) (fun _ => .bool true)
theorem allocActsL_ok : SpecOk Tryd.prog 6 (specOf allocActsLC) :=
  law_map allocActs_ok (fun x => (x.1, x.2.map a18)) (fun x => by show [_, acts18A _] = _; rw [a18_args]) (fun x h => ⟨h.1, a18_acts h.2⟩)

end Yard
