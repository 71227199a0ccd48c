import Derived.Test.YtlicnnoljbfhfaaDoorRef18

namespace Yard
open Go Go.Sx Go.Proofs
set_option linter.unusedVariables false
set_option linter.unusedSimpArgs false
set_option maxRecDepth 4000
set_option maxHeartbeats 4000000

def refFreeC : Ctr where
  X := AllocT
  Y := Nat
  conv := true
  tau := ptrTau
  pre := RefW
  args := fun _ => [.ptr 0 [] 0]
  heap := fun x => [refI x]
  Q := fun x cap => (freeL x).length ≤ cap ∧ cap ≤ 9223372036854775807
  res := fun x cap => .sl 2 [] 0 1 0 (freeL x).length cap
  its := fun x _ => [refI x]
  new := fun x cap => [rowI 3 .i64 cap (freeL x)]
theorem refFreeC_ok : CtrOk refFreeC :=
  ⟨fun _ _ _ _ => (rfl : 1 = 1), fun _ _ _ _ => ⟨rfl, rfl⟩, fun x _ _ _ _ => ⟨⟨⟨trivial, trivial⟩, ⟨⟨fun _ _ => ⟨rfl, trivial⟩, trivial⟩, trivial⟩⟩, rfl⟩⟩
def slRenR (av : AV) : Option Ren := match av with
  | .sl q _ _ _ _ _ _ => some [some 0, some 1, some q]
  | _ => some [some 0, some 1, none]
def refFreeLA (x : AllocT) : LA := { T := Nat × Nat, F := fun t => frm 52 [(0, .ptr 0 [] 0), (3, .sl 2 [] 0 1 0 (freeP x t.1).length t.2), (4, i64 (t.1 : Nat))], H := fun t => [refI x, .fence, rowI 3 .i64 t.2 (freeP x t.1)], ρ₁ := rowRenR 3 2, ρ₂ := rowRenR 3 2 }

theorem refFreeV : (∀ (x : AllocT), RefW x → Exx (Nat × Nat → Prop) fun I => Exx (Nat × Nat → Nat) fun m => (Exx (Nat × Nat) fun t => I t ∧ ((true = true ∧
 NilNil ∧ (0 : Nat) = 0) ∧ Tr 2 (((freeP x t.1).length = 0 ∧ t.2 = 0) ∧ Tr 1 ((0 : Int) = (↑t.1 : Int)) ∧ Tr 47 True)) ∧ refB x = refB x ∧ true = true ∧ (t.2 = 0
 ∧ (freeP x t.1).length = 0) ∧ True) ∧ ∀ (t : Nat × Nat), I t → BC (decide ((↑t.1 : Int) < (↑x.n : Int))) (Exx Unit fun y => refB x = ((opR 0 x).o y).ob ∧ (∀ (g
 : Subtype (RCap x true true true)), Exx (List Int × Int) fun x_1 => (((0 + (lC x).length ≤ (lC x).length ∧ (lC x).length = x_1.1.length ∧ ∀ (i : Nat), i <
 x_1.1.length → [AV.int .i64 ((lC x).getD (0 + i) 0)] = [AV.int .i64 (x_1.1.getD i 0)]) ∧ Tr 1 ((↑t.1 : Int) = x_1.2) ∧ True) ∧ true = true ∧ True) ∧ (IntL x_1.1
 ∧ I64 x_1.2) ∧ ∀ (y : Unit), True → BC (!decide (x_1.2 ∈ x_1.1)) (Exx (List Int × Int) fun x_2 => (((0 + (lC x).length ≤ (lC x).length ∧ (lC x).length =
 x_2.1.length ∧ ∀ (i : Nat), i < x_2.1.length → [AV.int .i64 ((lC x).getD (0 + i) 0)] = [AV.int .i64 (x_2.1.getD i 0)]) ∧ Tr 1 ((↑t.1 : Int) = x_2.2) ∧ True) ∧
 true = true ∧ True) ∧ (IntL x_2.1 ∧ I64 x_2.2) ∧ ∀ (y : Unit), True → BC (!decide (x_2.2 ∈ x_2.1)) (Exx (List Int × Int) fun x_3 => (((0 + (lC x).length ≤ (lC
 x).length ∧ (lC x).length = x_3.1.length ∧ ∀ (i : Nat), i < x_3.1.length → [AV.int .i64 ((lC x).getD (0 + i) 0)] = [AV.int .i64 (x_3.1.getD i 0)]) ∧ Tr 1 ((↑t.1
 : Int) = x_3.2) ∧ True) ∧ true = true ∧ True) ∧ (IntL x_3.1 ∧ I64 x_3.2) ∧ ∀ (y : Unit), True → BC (!decide (x_3.2 ∈ x_3.1)) (Exx (List Int × Int) fun x_4 =>
 (((0 + (lC x).length ≤ (lC x).length ∧ (lC x).length = x_4.1.length ∧ ∀ (i : Nat), i < x_4.1.length → [AV.int .i64 ((lC x).getD (0 + i) 0)] = [AV.int .i64
 (x_4.1.getD i 0)]) ∧ Tr 1 ((↑t.1 : Int) = x_4.2) ∧ True) ∧ true = true ∧ True) ∧ (IntL x_4.1 ∧ I64 x_4.2) ∧ ∀ (y : Unit), True → BC (!decide (x_4.2 ∈ x_4.1))
 (Exx Unit fun y => Exx (Subtype (RCap x true true true)) fun g_1 => Tr 1 (((38 : TypeId) = 38 ∧ Tr 1 ((↑x.n : Int) = (↑x.n : Int)) ∧ Tr 1 (x.r = x.r) ∧ (true =
 true ∧ NilNil ∧ (0 : Nat) = 0 ∧ (1 : Nat) = 1 ∧ (0 : Nat) = 0 ∧ (lC x).length = (lC x).length ∧ g.val.1 = g_1.val.1) ∧ (true = true ∧ NilNil ∧ (0 : Nat) = 0 ∧
 (1 : Nat) = 1 ∧ (0 : Nat) = 0 ∧ (lC x).length = (lC x).length ∧ g.val.1 = g_1.val.1) ∧ (true = true ∧ NilNil ∧ (0 : Nat) = 0 ∧ (1 : Nat) = 1 ∧ (0 : Nat) = 0 ∧
 (lC x).length = (lC x).length ∧ g.val.1 = g_1.val.1) ∧ (true = true ∧ NilNil ∧ (0 : Nat) = 0 ∧ (1 : Nat) = 1 ∧ (0 : Nat) = 0 ∧ (lC x).length = (lC x).length ∧
 g.val.1 = g_1.val.1) ∧ True) ∧ ((3 : TypeId) = 3 ∧ (1 : Nat) = 1 ∧ g.val.1 = g_1.val.1 ∧ (lC x).length ≤ (lC x).length ∧ ∀ (i : Nat), i < (lC x).length →
 [AV.int .i64 ((lC x).getD i 0)] = [AV.int .i64 ((lC x).getD i 0)]) ∧ True) ∧ (0 : Nat) + (1 : Nat) ≤ (1 : Nat) ∧ true = true ∧ ((freeP x t.1).length ≤ (freeP x
 t.1).length ∧ t.2 = t.2) ∧ ((freeP x t.1).length + 1 ≤ 9223372036854775807 ∧ ((freeP x t.1).length + 1) * 8 ≤ 140737488355328) ∧ ∀ (cap : Nat), (freeP x
 t.1).length + 1 ≤ cap ∧ cap ≤ 9223372036854775807 → Exx Unit fun y => I64 ((↑t.1 : Int) + 1) ∧ Exx (Nat × Nat) fun t' => (I t' ∧ m t' < m t) ∧ ((true = true ∧
 NilNil ∧ (0 : Nat) = 0) ∧ Tr 2 ((true = true ∧ NilNil ∧ (0 : Nat) = 0 ∧ (1 : Nat) = 1 ∧ (0 : Nat) = 0 ∧ (freeP x t.1).length + 1 = (freeP x t'.fst).length ∧ cap
 = t'.snd) ∧ Tr 1 ((↑t.1 : Int) + 1 = (↑t'.fst : Int)) ∧ Tr 47 True)) ∧ refB x = refB x ∧ true = true ∧ ((3 : TypeId) = 3 ∧ (1 : Nat) = 1 ∧ cap = t'.snd ∧ (freeP
 x t'.fst).length ≤ (freeP x t.1).length + 1 ∧ ∀ (i : Nat), i < (freeP x t'.fst).length → (if i < (freeP x t.1).length then [AV.int .i64 ((freeP x t.1).getD i
 0)] else [AV.int .i64 (if 0 + (i - (freeP x t.1).length) = 0 * 1 / 1 then (↑t.1 : Int) else 0)]) = [AV.int .i64 ((freeP x t'.fst).getD i 0)]) ∧ True) (Exx Unit
 fun y => Exx (Subtype (RCap x true true true)) fun g_1 => Tr 1 (((38 : TypeId) = 38 ∧ Tr 1 ((↑x.n : Int) = (↑x.n : Int)) ∧ Tr 1 (x.r = x.r) ∧ (true = true ∧
 NilNil ∧ (0 : Nat) = 0 ∧ (1 : Nat) = 1 ∧ (0 : Nat) = 0 ∧ (lC x).length = (lC x).length ∧ g.val.1 = g_1.val.1) ∧ (true = true ∧ NilNil ∧ (0 : Nat) = 0 ∧ (1 :
 Nat) = 1 ∧ (0 : Nat) = 0 ∧ (lC x).length = (lC x).length ∧ g.val.1 = g_1.val.1) ∧ (true = true ∧ NilNil ∧ (0 : Nat) = 0 ∧ (1 : Nat) = 1 ∧ (0 : Nat) = 0 ∧ (lC
 x).length = (lC x).length ∧ g.val.1 = g_1.val.1) ∧ (true = true ∧ NilNil ∧ (0 : Nat) = 0 ∧ (1 : Nat) = 1 ∧ (0 : Nat) = 0 ∧ (lC x).length = (lC x).length ∧
 g.val.1 = g_1.val.1) ∧ True) ∧ ((3 : TypeId) = 3 ∧ (1 : Nat) = 1 ∧ g.val.1 = g_1.val.1 ∧ (lC x).length ≤ (lC x).length ∧ ∀ (i : Nat), i < (lC x).length →
 [AV.int .i64 ((lC x).getD i 0)] = [AV.int .i64 ((lC x).getD i 0)]) ∧ True) ∧ I64 ((↑t.1 : Int) + 1) ∧ Exx (Nat × Nat) fun t' => (I t' ∧ m t' < m t) ∧ ((true =
 true ∧ NilNil ∧ (0 : Nat) = 0) ∧ Tr 2 ((true = true ∧ NilNil ∧ (0 : Nat) = 0 ∧ (1 : Nat) = 1 ∧ (0 : Nat) = 0 ∧ (freeP x t.1).length = (freeP x t'.fst).length ∧
 t.2 = t'.snd) ∧ Tr 1 ((↑t.1 : Int) + 1 = (↑t'.fst : Int)) ∧ Tr 47 True)) ∧ refB x = refB x ∧ true = true ∧ ((3 : TypeId) = 3 ∧ (1 : Nat) = 1 ∧ t.2 = t'.snd ∧
 (freeP x t'.fst).length ≤ (freeP x t.1).length ∧ ∀ (i : Nat), i < (freeP x t'.fst).length → [AV.int .i64 ((freeP x t.1).getD i 0)] = [AV.int .i64 ((freeP x
 t'.fst).getD i 0)]) ∧ True)) (Exx Unit fun y => Exx (Subtype (RCap x true true true)) fun g_1 => Tr 1 (((38 : TypeId) = 38 ∧ Tr 1 ((↑x.n : Int) = (↑x.n : Int))
 ∧ Tr 1 (x.r = x.r) ∧ (true = true ∧ NilNil ∧ (0 : Nat) = 0 ∧ (1 : Nat) = 1 ∧ (0 : Nat) = 0 ∧ (lC x).length = (lC x).length ∧ g.val.1 = g_1.val.1) ∧ (true = true
 ∧ NilNil ∧ (0 : Nat) = 0 ∧ (1 : Nat) = 1 ∧ (0 : Nat) = 0 ∧ (lC x).length = (lC x).length ∧ g.val.1 = g_1.val.1) ∧ (true = true ∧ NilNil ∧ (0 : Nat) = 0 ∧ (1 :
 Nat) = 1 ∧ (0 : Nat) = 0 ∧ (lC x).length = (lC x).length ∧ g.val.1 = g_1.val.1) ∧ (true = true ∧ NilNil ∧ (0 : Nat) = 0 ∧ (1 : Nat) = 1 ∧ (0 : Nat) = 0 ∧ (lC
 x).length = (lC x).length ∧ g.val.1 = g_1.val.1) ∧ True) ∧ ((3 : TypeId) = 3 ∧ (1 : Nat) = 1 ∧ g.val.1 = g_1.val.1 ∧ (lC x).length ≤ (lC x).length ∧ ∀ (i :
 Nat), i < (lC x).length → [AV.int .i64 ((lC x).getD i 0)] = [AV.int .i64 ((lC x).getD i 0)]) ∧ True) ∧ I64 ((↑t.1 : Int) + 1) ∧ Exx (Nat × Nat) fun t' => (I t'
 ∧ m t' < m t) ∧ ((true = true ∧ NilNil ∧ (0 : Nat) = 0) ∧ Tr 2 ((true = true ∧ NilNil ∧ (0 : Nat) = 0 ∧ (1 : Nat) = 1 ∧ (0 : Nat) = 0 ∧ (freeP x t.1).length =
 (freeP x t'.fst).length ∧ t.2 = t'.snd) ∧ Tr 1 ((↑t.1 : Int) + 1 = (↑t'.fst : Int)) ∧ Tr 47 True)) ∧ refB x = refB x ∧ true = true ∧ ((3 : TypeId) = 3 ∧ (1 :
 Nat) = 1 ∧ t.2 = t'.snd ∧ (freeP x t'.fst).length ≤ (freeP x t.1).length ∧ ∀ (i : Nat), i < (freeP x t'.fst).length → [AV.int .i64 ((freeP x t.1).getD i 0)] =
 [AV.int .i64 ((freeP x t'.fst).getD i 0)]) ∧ True)) (Exx Unit fun y => Exx (Subtype (RCap x true true true)) fun g_1 => Tr 1 (((38 : TypeId) = 38 ∧ Tr 1 ((↑x.n
 : Int) = (↑x.n : Int)) ∧ Tr 1 (x.r = x.r) ∧ (true = true ∧ NilNil ∧ (0 : Nat) = 0 ∧ (1 : Nat) = 1 ∧ (0 : Nat) = 0 ∧ (lC x).length = (lC x).length ∧ g.val.1 =
 g_1.val.1) ∧ (true = true ∧ NilNil ∧ (0 : Nat) = 0 ∧ (1 : Nat) = 1 ∧ (0 : Nat) = 0 ∧ (lC x).length = (lC x).length ∧ g.val.1 = g_1.val.1) ∧ (true = true ∧
 NilNil ∧ (0 : Nat) = 0 ∧ (1 : Nat) = 1 ∧ (0 : Nat) = 0 ∧ (lC x).length = (lC x).length ∧ g.val.1 = g_1.val.1) ∧ (true = true ∧ NilNil ∧ (0 : Nat) = 0 ∧ (1 :
 Nat) = 1 ∧ (0 : Nat) = 0 ∧ (lC x).length = (lC x).length ∧ g.val.1 = g_1.val.1) ∧ True) ∧ ((3 : TypeId) = 3 ∧ (1 : Nat) = 1 ∧ g.val.1 = g_1.val.1 ∧ (lC
 x).length ≤ (lC x).length ∧ ∀ (i : Nat), i < (lC x).length → [AV.int .i64 ((lC x).getD i 0)] = [AV.int .i64 ((lC x).getD i 0)]) ∧ True) ∧ I64 ((↑t.1 : Int) + 1)
 ∧ Exx (Nat × Nat) fun t' => (I t' ∧ m t' < m t) ∧ ((true = true ∧ NilNil ∧ (0 : Nat) = 0) ∧ Tr 2 ((true = true ∧ NilNil ∧ (0 : Nat) = 0 ∧ (1 : Nat) = 1 ∧ (0 :
 Nat) = 0 ∧ (freeP x t.1).length = (freeP x t'.fst).length ∧ t.2 = t'.snd) ∧ Tr 1 ((↑t.1 : Int) + 1 = (↑t'.fst : Int)) ∧ Tr 47 True)) ∧ refB x = refB x ∧ true =
 true ∧ ((3 : TypeId) = 3 ∧ (1 : Nat) = 1 ∧ t.2 = t'.snd ∧ (freeP x t'.fst).length ≤ (freeP x t.1).length ∧ ∀ (i : Nat), i < (freeP x t'.fst).length → [AV.int
 .i64 ((freeP x t.1).getD i 0)] = [AV.int .i64 ((freeP x t'.fst).getD i 0)]) ∧ True)) (Exx Unit fun y => Exx (Subtype (RCap x true true true)) fun g_1 => Tr 1
 (((38 : TypeId) = 38 ∧ Tr 1 ((↑x.n : Int) = (↑x.n : Int)) ∧ Tr 1 (x.r = x.r) ∧ (true = true ∧ NilNil ∧ (0 : Nat) = 0 ∧ (1 : Nat) = 1 ∧ (0 : Nat) = 0 ∧ (lC
 x).length = (lC x).length ∧ g.val.1 = g_1.val.1) ∧ (true = true ∧ NilNil ∧ (0 : Nat) = 0 ∧ (1 : Nat) = 1 ∧ (0 : Nat) = 0 ∧ (lC x).length = (lC x).length ∧
 g.val.1 = g_1.val.1) ∧ (true = true ∧ NilNil ∧ (0 : Nat) = 0 ∧ (1 : Nat) = 1 ∧ (0 : Nat) = 0 ∧ (lC x).length = (lC x).length ∧ g.val.1 = g_1.val.1) ∧ (true =
 true ∧ NilNil ∧ (0 : Nat) = 0 ∧ (1 : Nat) = 1 ∧ (0 : Nat) = 0 ∧ (lC x).length = (lC x).length ∧ g.val.1 = g_1.val.1) ∧ True) ∧ ((3 : TypeId) = 3 ∧ (1 : Nat) = 1
 ∧ g.val.1 = g_1.val.1 ∧ (lC x).length ≤ (lC x).length ∧ ∀ (i : Nat), i < (lC x).length → [AV.int .i64 ((lC x).getD i 0)] = [AV.int .i64 ((lC x).getD i 0)]) ∧
 True) ∧ I64 ((↑t.1 : Int) + 1) ∧ Exx (Nat × Nat) fun t' => (I t' ∧ m t' < m t) ∧ ((true = true ∧ NilNil ∧ (0 : Nat) = 0) ∧ Tr 2 ((true = true ∧ NilNil ∧ (0 :
 Nat) = 0 ∧ (1 : Nat) = 1 ∧ (0 : Nat) = 0 ∧ (freeP x t.1).length = (freeP x t'.fst).length ∧ t.2 = t'.snd) ∧ Tr 1 ((↑t.1 : Int) + 1 = (↑t'.fst : Int)) ∧ Tr 47
 True)) ∧ refB x = refB x ∧ true = true ∧ ((3 : TypeId) = 3 ∧ (1 : Nat) = 1 ∧ t.2 = t'.snd ∧ (freeP x t'.fst).length ≤ (freeP x t.1).length ∧ ∀ (i : Nat), i <
 (freeP x t'.fst).length → [AV.int .i64 ((freeP x t.1).getD i 0)] = [AV.int .i64 ((freeP x t'.fst).getD i 0)]) ∧ True)) ∧ (∀ (g : Subtype (RCap x true true
 false)), Exx (List Int × Int) fun x_1 => (((0 + (lC x).length ≤ (lC x).length ∧ (lC x).length = x_1.1.length ∧ ∀ (i : Nat), i < x_1.1.length → [AV.int .i64 ((lC
 x).getD (0 + i) 0)] = [AV.int .i64 (x_1.1.getD i 0)]) ∧ Tr 1 ((↑t.1 : Int) = x_1.2) ∧ True) ∧ true = true ∧ True) ∧ (IntL x_1.1 ∧ I64 x_1.2) ∧ ∀ (y : Unit),
 True → BC (!decide (x_1.2 ∈ x_1.1)) (Exx (List Int × Int) fun x_2 => (((0 + (lC x).length ≤ (lC x).length ∧ (lC x).length = x_2.1.length ∧ ∀ (i : Nat), i <
 x_2.1.length → [AV.int .i64 ((lC x).getD (0 + i) 0)] = [AV.int .i64 (x_2.1.getD i 0)]) ∧ Tr 1 ((↑t.1 : Int) = x_2.2) ∧ True) ∧ true = true ∧ True) ∧ (IntL x_2.1
 ∧ I64 x_2.2) ∧ ∀ (y : Unit), True → BC (!decide (x_2.2 ∈ x_2.1)) (Exx (List Int × Int) fun x_3 => (((0 + (lC x).length ≤ (lC x).length ∧ (lC x).length =
 x_3.1.length ∧ ∀ (i : Nat), i < x_3.1.length → [AV.int .i64 ((lC x).getD (0 + i) 0)] = [AV.int .i64 (x_3.1.getD i 0)]) ∧ Tr 1 ((↑t.1 : Int) = x_3.2) ∧ True) ∧
 true = true ∧ True) ∧ (IntL x_3.1 ∧ I64 x_3.2) ∧ ∀ (y : Unit), True → BC (!decide (x_3.2 ∈ x_3.1)) (Exx (List Int × Int) fun x_4 => (((0 + (lW x).length ≤ (lW
 x).length ∧ (lW x).length = x_4.1.length ∧ ∀ (i : Nat), i < x_4.1.length → [AV.int .i64 ((lW x).getD (0 + i) 0)] = [AV.int .i64 (x_4.1.getD i 0)]) ∧ Tr 1 ((↑t.1
 : Int) = x_4.2) ∧ True) ∧ true = true ∧ True) ∧ (IntL x_4.1 ∧ I64 x_4.2) ∧ ∀ (y : Unit), True → BC (!decide (x_4.2 ∈ x_4.1)) (Exx Unit fun y => Exx (Subtype
 (RCap x true true false)) fun g_1 => Tr 1 (((38 : TypeId) = 38 ∧ Tr 1 ((↑x.n : Int) = (↑x.n : Int)) ∧ Tr 1 (x.r = x.r) ∧ (true = true ∧ NilNil ∧ (0 : Nat) = 0 ∧
 (1 : Nat) = 1 ∧ (0 : Nat) = 0 ∧ (lC x).length = (lC x).length ∧ g.val.1 = g_1.val.1) ∧ (true = true ∧ NilNil ∧ (0 : Nat) = 0 ∧ (1 : Nat) = 1 ∧ (0 : Nat) = 0 ∧
 (lC x).length = (lC x).length ∧ g.val.1 = g_1.val.1) ∧ (true = true ∧ NilNil ∧ (0 : Nat) = 0 ∧ (1 : Nat) = 1 ∧ (0 : Nat) = 0 ∧ (lC x).length = (lC x).length ∧
 g.val.1 = g_1.val.1) ∧ (true = true ∧ NilNil ∧ (0 : Nat) = 0 ∧ (1 : Nat) = 1 ∧ (0 : Nat) = 0 ∧ (lW x).length = (lW x).length ∧ g.val.2.2.2 = g_1.val.2.2.2) ∧
 True) ∧ ((3 : TypeId) = 3 ∧ (1 : Nat) = 1 ∧ g.val.1 = g_1.val.1 ∧ (lC x).length ≤ (lC x).length ∧ ∀ (i : Nat), i < (lC x).length → [AV.int .i64 ((lC x).getD i
 0)] = [AV.int .i64 ((lC x).getD i 0)]) ∧ ((3 : TypeId) = 3 ∧ (1 : Nat) = 1 ∧ g.val.2.2.2 = g_1.val.2.2.2 ∧ (lW x).length ≤ (lW x).length ∧ ∀ (i : Nat), i < (lW
 x).length → [AV.int .i64 ((lW x).getD i 0)] = [AV.int .i64 ((lW x).getD i 0)]) ∧ True) ∧ (0 : Nat) + (1 : Nat) ≤ (1 : Nat) ∧ true = true ∧ ((freeP x t.1).length
 ≤ (freeP x t.1).length ∧ t.2 = t.2) ∧ ((freeP x t.1).length + 1 ≤ 9223372036854775807 ∧ ((freeP x t.1).length + 1) * 8 ≤ 140737488355328) ∧ ∀ (cap : Nat),
 (freeP x t.1).length + 1 ≤ cap ∧ cap ≤ 9223372036854775807 → Exx Unit fun y => I64 ((↑t.1 : Int) + 1) ∧ Exx (Nat × Nat) fun t' => (I t' ∧ m t' < m t) ∧ ((true =
 true ∧ NilNil ∧ (0 : Nat) = 0) ∧ Tr 2 ((true = true ∧ NilNil ∧ (0 : Nat) = 0 ∧ (1 : Nat) = 1 ∧ (0 : Nat) = 0 ∧ (freeP x t.1).length + 1 = (freeP x
 t'.fst).length ∧ cap = t'.snd) ∧ Tr 1 ((↑t.1 : Int) + 1 = (↑t'.fst : Int)) ∧ Tr 47 True)) ∧ refB x = refB x ∧ true = true ∧ ((3 : TypeId) = 3 ∧ (1 : Nat) = 1 ∧
 cap = t'.snd ∧ (freeP x t'.fst).length ≤ (freeP x t.1).length + 1 ∧ ∀ (i : Nat), i < (freeP x t'.fst).length → (if i < (freeP x t.1).length then [AV.int .i64
 ((freeP x t.1).getD i 0)] else [AV.int .i64 (if 0 + (i - (freeP x t.1).length) = 0 * 1 / 1 then (↑t.1 : Int) else 0)]) = [AV.int .i64 ((freeP x t'.fst).getD i
 0)]) ∧ True) (Exx Unit fun y => Exx (Subtype (RCap x true true false)) fun g_1 => Tr 1 (((38 : TypeId) = 38 ∧ Tr 1 ((↑x.n : Int) = (↑x.n : Int)) ∧ Tr 1 (x.r =
 x.r) ∧ (true = true ∧ NilNil ∧ (0 : Nat) = 0 ∧ (1 : Nat) = 1 ∧ (0 : Nat) = 0 ∧ (lC x).length = (lC x).length ∧ g.val.1 = g_1.val.1) ∧ (true = true ∧ NilNil ∧ (0
 : Nat) = 0 ∧ (1 : Nat) = 1 ∧ (0 : Nat) = 0 ∧ (lC x).length = (lC x).length ∧ g.val.1 = g_1.val.1) ∧ (true = true ∧ NilNil ∧ (0 : Nat) = 0 ∧ (1 : Nat) = 1 ∧ (0 :
 Nat) = 0 ∧ (lC x).length = (lC x).length ∧ g.val.1 = g_1.val.1) ∧ (true = true ∧ NilNil ∧ (0 : Nat) = 0 ∧ (1 : Nat) = 1 ∧ (0 : Nat) = 0 ∧ (lW x).length = (lW
 x).length ∧ g.val.2.2.2 = g_1.val.2.2.2) ∧ True) ∧ ((3 : TypeId) = 3 ∧ (1 : Nat) = 1 ∧ g.val.1 = g_1.val.1 ∧ (lC x).length ≤ (lC x).length ∧ ∀ (i : Nat), i <
 (lC x).length → [AV.int .i64 ((lC x).getD i 0)] = [AV.int .i64 ((lC x).getD i 0)]) ∧ ((3 : TypeId) = 3 ∧ (1 : Nat) = 1 ∧ g.val.2.2.2 = g_1.val.2.2.2 ∧ (lW
 x).length ≤ (lW x).length ∧ ∀ (i : Nat), i < (lW x).length → [AV.int .i64 ((lW x).getD i 0)] = [AV.int .i64 ((lW x).getD i 0)]) ∧ True) ∧ I64 ((↑t.1 : Int) + 1)
 ∧ Exx (Nat × Nat) fun t' => (I t' ∧ m t' < m t) ∧ ((true = true ∧ NilNil ∧ (0 : Nat) = 0) ∧ Tr 2 ((true = true ∧ NilNil ∧ (0 : Nat) = 0 ∧ (1 : Nat) = 1 ∧ (0 :
 Nat) = 0 ∧ (freeP x t.1).length = (freeP x t'.fst).length ∧ t.2 = t'.snd) ∧ Tr 1 ((↑t.1 : Int) + 1 = (↑t'.fst : Int)) ∧ Tr 47 True)) ∧ refB x = refB x ∧ true =
 true ∧ ((3 : TypeId) = 3 ∧ (1 : Nat) = 1 ∧ t.2 = t'.snd ∧ (freeP x t'.fst).length ≤ (freeP x t.1).length ∧ ∀ (i : Nat), i < (freeP x t'.fst).length → [AV.int
 .i64 ((freeP x t.1).getD i 0)] = [AV.int .i64 ((freeP x t'.fst).getD i 0)]) ∧ True)) (Exx Unit fun y => Exx (Subtype (RCap x true true false)) fun g_1 => Tr 1
 (((38 : TypeId) = 38 ∧ Tr 1 ((↑x.n : Int) = (↑x.n : Int)) ∧ Tr 1 (x.r = x.r) ∧ (true = true ∧ NilNil ∧ (0 : Nat) = 0 ∧ (1 : Nat) = 1 ∧ (0 : Nat) = 0 ∧ (lC
 x).length = (lC x).length ∧ g.val.1 = g_1.val.1) ∧ (true = true ∧ NilNil ∧ (0 : Nat) = 0 ∧ (1 : Nat) = 1 ∧ (0 : Nat) = 0 ∧ (lC x).length = (lC x).length ∧
 g.val.1 = g_1.val.1) ∧ (true = true ∧ NilNil ∧ (0 : Nat) = 0 ∧ (1 : Nat) = 1 ∧ (0 : Nat) = 0 ∧ (lC x).length = (lC x).length ∧ g.val.1 = g_1.val.1) ∧ (true =
 true ∧ NilNil ∧ (0 : Nat) = 0 ∧ (1 : Nat) = 1 ∧ (0 : Nat) = 0 ∧ (lW x).length = (lW x).length ∧ g.val.2.2.2 = g_1.val.2.2.2) ∧ True) ∧ ((3 : TypeId) = 3 ∧ (1 :
 Nat) = 1 ∧ g.val.1 = g_1.val.1 ∧ (lC x).length ≤ (lC x).length ∧ ∀ (i : Nat), i < (lC x).length → [AV.int .i64 ((lC x).getD i 0)] = [AV.int .i64 ((lC x).getD i
 0)]) ∧ ((3 : TypeId) = 3 ∧ (1 : Nat) = 1 ∧ g.val.2.2.2 = g_1.val.2.2.2 ∧ (lW x).length ≤ (lW x).length ∧ ∀ (i : Nat), i < (lW x).length → [AV.int .i64 ((lW
 x).getD i 0)] = [AV.int .i64 ((lW x).getD i 0)]) ∧ True) ∧ I64 ((↑t.1 : Int) + 1) ∧ Exx (Nat × Nat) fun t' => (I t' ∧ m t' < m t) ∧ ((true = true ∧ NilNil ∧ (0
 : Nat) = 0) ∧ Tr 2 ((true = true ∧ NilNil ∧ (0 : Nat) = 0 ∧ (1 : Nat) = 1 ∧ (0 : Nat) = 0 ∧ (freeP x t.1).length = (freeP x t'.fst).length ∧ t.2 = t'.snd) ∧ Tr
 1 ((↑t.1 : Int) + 1 = (↑t'.fst : Int)) ∧ Tr 47 True)) ∧ refB x = refB x ∧ true = true ∧ ((3 : TypeId) = 3 ∧ (1 : Nat) = 1 ∧ t.2 = t'.snd ∧ (freeP x
 t'.fst).length ≤ (freeP x t.1).length ∧ ∀ (i : Nat), i < (freeP x t'.fst).length → [AV.int .i64 ((freeP x t.1).getD i 0)] = [AV.int .i64 ((freeP x t'.fst).getD
 i 0)]) ∧ True)) (Exx Unit fun y => Exx (Subtype (RCap x true true false)) fun g_1 => Tr 1 (((38 : TypeId) = 38 ∧ Tr 1 ((↑x.n : Int) = (↑x.n : Int)) ∧ Tr 1 (x.r
 = x.r) ∧ (true = true ∧ NilNil ∧ (0 : Nat) = 0 ∧ (1 : Nat) = 1 ∧ (0 : Nat) = 0 ∧ (lC x).length = (lC x).length ∧ g.val.1 = g_1.val.1) ∧ (true = true ∧ NilNil ∧
 (0 : Nat) = 0 ∧ (1 : Nat) = 1 ∧ (0 : Nat) = 0 ∧ (lC x).length = (lC x).length ∧ g.val.1 = g_1.val.1) ∧ (true = true ∧ NilNil ∧ (0 : Nat) = 0 ∧ (1 : Nat) = 1 ∧
 (0 : Nat) = 0 ∧ (lC x).length = (lC x).length ∧ g.val.1 = g_1.val.1) ∧ (true = true ∧ NilNil ∧ (0 : Nat) = 0 ∧ (1 : Nat) = 1 ∧ (0 : Nat) = 0 ∧ (lW x).length =
 (lW x).length ∧ g.val.2.2.2 = g_1.val.2.2.2) ∧ True) ∧ ((3 : TypeId) = 3 ∧ (1 : Nat) = 1 ∧ g.val.1 = g_1.val.1 ∧ (lC x).length ≤ (lC x).length ∧ ∀ (i : Nat), i
 < (lC x).length → [AV.int .i64 ((lC x).getD i 0)] = [AV.int .i64 ((lC x).getD i 0)]) ∧ ((3 : TypeId) = 3 ∧ (1 : Nat) = 1 ∧ g.val.2.2.2 = g_1.val.2.2.2 ∧ (lW
 x).length ≤ (lW x).length ∧ ∀ (i : Nat), i < (lW x).length → [AV.int .i64 ((lW x).getD i 0)] = [AV.int .i64 ((lW x).getD i 0)]) ∧ True) ∧ I64 ((↑t.1 : Int) + 1)
 ∧ Exx (Nat × Nat) fun t' => (I t' ∧ m t' < m t) ∧ ((true = true ∧ NilNil ∧ (0 : Nat) = 0) ∧ Tr 2 ((true = true ∧ NilNil ∧ (0 : Nat) = 0 ∧ (1 : Nat) = 1 ∧ (0 :
 Nat) = 0 ∧ (freeP x t.1).length = (freeP x t'.fst).length ∧ t.2 = t'.snd) ∧ Tr 1 ((↑t.1 : Int) + 1 = (↑t'.fst : Int)) ∧ Tr 47 True)) ∧ refB x = refB x ∧ true =
 true ∧ ((3 : TypeId) = 3 ∧ (1 : Nat) = 1 ∧ t.2 = t'.snd ∧ (freeP x t'.fst).length ≤ (freeP x t.1).length ∧ ∀ (i : Nat), i < (freeP x t'.fst).length → [AV.int
 .i64 ((freeP x t.1).getD i 0)] = [AV.int .i64 ((freeP x t'.fst).getD i 0)]) ∧ True)) (Exx Unit fun y => Exx (Subtype (RCap x true true false)) fun g_1 => Tr 1
 (((38 : TypeId) = 38 ∧ Tr 1 ((↑x.n : Int) = (↑x.n : Int)) ∧ Tr 1 (x.r = x.r) ∧ (true = true ∧ NilNil ∧ (0 : Nat) = 0 ∧ (1 : Nat) = 1 ∧ (0 : Nat) = 0 ∧ (lC
 x).length = (lC x).length ∧ g.val.1 = g_1.val.1) ∧ (true = true ∧ NilNil ∧ (0 : Nat) = 0 ∧ (1 : Nat) = 1 ∧ (0 : Nat) = 0 ∧ (lC x).length = (lC x).length ∧
 g.val.1 = g_1.val.1) ∧ (true = true ∧ NilNil ∧ (0 : Nat) = 0 ∧ (1 : Nat) = 1 ∧ (0 : Nat) = 0 ∧ (lC x).length = (lC x).length ∧ g.val.1 = g_1.val.1) ∧ (true =
 true ∧ NilNil ∧ (0 : Nat) = 0 ∧ (1 : Nat) = 1 ∧ (0 : Nat) = 0 ∧ (lW x).length = (lW x).length ∧ g.val.2.2.2 = g_1.val.2.2.2) ∧ True) ∧ ((3 : TypeId) = 3 ∧ (1 :
 Nat) = 1 ∧ g.val.1 = g_1.val.1 ∧ (lC x).length ≤ (lC x).length ∧ ∀ (i : Nat), i < (lC x).length → [AV.int .i64 ((lC x).getD i 0)] = [AV.int .i64 ((lC x).getD i
 0)]) ∧ ((3 : TypeId) = 3 ∧ (1 : Nat) = 1 ∧ g.val.2.2.2 = g_1.val.2.2.2 ∧ (lW x).length ≤ (lW x).length ∧ ∀ (i : Nat), i < (lW x).length → [AV.int .i64 ((lW
 x).getD i 0)] = [AV.int .i64 ((lW x).getD i 0)]) ∧ True) ∧ I64 ((↑t.1 : Int) + 1) ∧ Exx (Nat × Nat) fun t' => (I t' ∧ m t' < m t) ∧ ((true = true ∧ NilNil ∧ (0
 : Nat) = 0) ∧ Tr 2 ((true = true ∧ NilNil ∧ (0 : Nat) = 0 ∧ (1 : Nat) = 1 ∧ (0 : Nat) = 0 ∧ (freeP x t.1).length = (freeP x t'.fst).length ∧ t.2 = t'.snd) ∧ Tr
 1 ((↑t.1 : Int) + 1 = (↑t'.fst : Int)) ∧ Tr 47 True)) ∧ refB x = refB x ∧ true = true ∧ ((3 : TypeId) = 3 ∧ (1 : Nat) = 1 ∧ t.2 = t'.snd ∧ (freeP x
 t'.fst).length ≤ (freeP x t.1).length ∧ ∀ (i : Nat), i < (freeP x t'.fst).length → [AV.int .i64 ((freeP x t.1).getD i 0)] = [AV.int .i64 ((freeP x t'.fst).getD
 i 0)]) ∧ True)) ∧ (∀ (g : Subtype (RCap x true false true)), Exx (List Int × Int) fun x_1 => (((0 + (lC x).length ≤ (lC x).length ∧ (lC x).length = x_1.1.length
 ∧ ∀ (i : Nat), i < x_1.1.length → [AV.int .i64 ((lC x).getD (0 + i) 0)] = [AV.int .i64 (x_1.1.getD i 0)]) ∧ Tr 1 ((↑t.1 : Int) = x_1.2) ∧ True) ∧ true = true ∧
 True) ∧ (IntL x_1.1 ∧ I64 x_1.2) ∧ ∀ (y : Unit), True → BC (!decide (x_1.2 ∈ x_1.1)) (Exx (List Int × Int) fun x_2 => (((0 + (lC x).length ≤ (lC x).length ∧ (lC
 x).length = x_2.1.length ∧ ∀ (i : Nat), i < x_2.1.length → [AV.int .i64 ((lC x).getD (0 + i) 0)] = [AV.int .i64 (x_2.1.getD i 0)]) ∧ Tr 1 ((↑t.1 : Int) = x_2.2)
 ∧ True) ∧ true = true ∧ True) ∧ (IntL x_2.1 ∧ I64 x_2.2) ∧ ∀ (y : Unit), True → BC (!decide (x_2.2 ∈ x_2.1)) (Exx (List Int × Int) fun x_3 => (((0 + (lM
 x).length ≤ (lM x).length ∧ (lM x).length = x_3.1.length ∧ ∀ (i : Nat), i < x_3.1.length → [AV.int .i64 ((lM x).getD (0 + i) 0)] = [AV.int .i64 (x_3.1.getD i
 0)]) ∧ Tr 1 ((↑t.1 : Int) = x_3.2) ∧ True) ∧ true = true ∧ True) ∧ (IntL x_3.1 ∧ I64 x_3.2) ∧ ∀ (y : Unit), True → BC (!decide (x_3.2 ∈ x_3.1)) (Exx (List Int ×
 Int) fun x_4 => (((0 + (lM x).length ≤ (lM x).length ∧ (lM x).length = x_4.1.length ∧ ∀ (i : Nat), i < x_4.1.length → [AV.int .i64 ((lM x).getD (0 + i) 0)] =
 [AV.int .i64 (x_4.1.getD i 0)]) ∧ Tr 1 ((↑t.1 : Int) = x_4.2) ∧ True) ∧ true = true ∧ True) ∧ (IntL x_4.1 ∧ I64 x_4.2) ∧ ∀ (y : Unit), True → BC (!decide (x_4.2
 ∈ x_4.1)) (Exx Unit fun y => Exx (Subtype (RCap x true false true)) fun g_1 => Tr 1 (((38 : TypeId) = 38 ∧ Tr 1 ((↑x.n : Int) = (↑x.n : Int)) ∧ Tr 1 (x.r = x.r)
 ∧ (true = true ∧ NilNil ∧ (0 : Nat) = 0 ∧ (1 : Nat) = 1 ∧ (0 : Nat) = 0 ∧ (lC x).length = (lC x).length ∧ g.val.1 = g_1.val.1) ∧ (true = true ∧ NilNil ∧ (0 :
 Nat) = 0 ∧ (1 : Nat) = 1 ∧ (0 : Nat) = 0 ∧ (lC x).length = (lC x).length ∧ g.val.1 = g_1.val.1) ∧ (true = true ∧ NilNil ∧ (0 : Nat) = 0 ∧ (1 : Nat) = 1 ∧ (0 :
 Nat) = 0 ∧ (lM x).length = (lM x).length ∧ g.val.2.2.1 = g_1.val.2.2.1) ∧ (true = true ∧ NilNil ∧ (0 : Nat) = 0 ∧ (1 : Nat) = 1 ∧ (0 : Nat) = 0 ∧ (lM x).length
 = (lM x).length ∧ g.val.2.2.1 = g_1.val.2.2.1) ∧ True) ∧ ((3 : TypeId) = 3 ∧ (1 : Nat) = 1 ∧ g.val.1 = g_1.val.1 ∧ (lC x).length ≤ (lC x).length ∧ ∀ (i : Nat),
 i < (lC x).length → [AV.int .i64 ((lC x).getD i 0)] = [AV.int .i64 ((lC x).getD i 0)]) ∧ ((3 : TypeId) = 3 ∧ (1 : Nat) = 1 ∧ g.val.2.2.1 = g_1.val.2.2.1 ∧ (lM
 x).length ≤ (lM x).length ∧ ∀ (i : Nat), i < (lM x).length → [AV.int .i64 ((lM x).getD i 0)] = [AV.int .i64 ((lM x).getD i 0)]) ∧ True) ∧ (0 : Nat) + (1 : Nat)
 ≤ (1 : Nat) ∧ true = true ∧ ((freeP x t.1).length ≤ (freeP x t.1).length ∧ t.2 = t.2) ∧ ((freeP x t.1).length + 1 ≤ 9223372036854775807 ∧ ((freeP x t.1).length
 + 1) * 8 ≤ 140737488355328) ∧ ∀ (cap : Nat), (freeP x t.1).length + 1 ≤ cap ∧ cap ≤ 9223372036854775807 → Exx Unit fun y => I64 ((↑t.1 : Int) + 1) ∧ Exx (Nat ×
 Nat) fun t' => (I t' ∧ m t' < m t) ∧ ((true = true ∧ NilNil ∧ (0 : Nat) = 0) ∧ Tr 2 ((true = true ∧ NilNil ∧ (0 : Nat) = 0 ∧ (1 : Nat) = 1 ∧ (0 : Nat) = 0 ∧
 (freeP x t.1).length + 1 = (freeP x t'.fst).length ∧ cap = t'.snd) ∧ Tr 1 ((↑t.1 : Int) + 1 = (↑t'.fst : Int)) ∧ Tr 47 True)) ∧ refB x = refB x ∧ true = true ∧
 ((3 : TypeId) = 3 ∧ (1 : Nat) = 1 ∧ cap = t'.snd ∧ (freeP x t'.fst).length ≤ (freeP x t.1).length + 1 ∧ ∀ (i : Nat), i < (freeP x t'.fst).length → (if i <
 (freeP x t.1).length then [AV.int .i64 ((freeP x t.1).getD i 0)] else [AV.int .i64 (if 0 + (i - (freeP x t.1).length) = 0 * 1 / 1 then (↑t.1 : Int) else 0)]) =
 [AV.int .i64 ((freeP x t'.fst).getD i 0)]) ∧ True) (Exx Unit fun y => Exx (Subtype (RCap x true false true)) fun g_1 => Tr 1 (((38 : TypeId) = 38 ∧ Tr 1 ((↑x.n
 : Int) = (↑x.n : Int)) ∧ Tr 1 (x.r = x.r) ∧ (true = true ∧ NilNil ∧ (0 : Nat) = 0 ∧ (1 : Nat) = 1 ∧ (0 : Nat) = 0 ∧ (lC x).length = (lC x).length ∧ g.val.1 =
 g_1.val.1) ∧ (true = true ∧ NilNil ∧ (0 : Nat) = 0 ∧ (1 : Nat) = 1 ∧ (0 : Nat) = 0 ∧ (lC x).length = (lC x).length ∧ g.val.1 = g_1.val.1) ∧ (true = true ∧
 NilNil ∧ (0 : Nat) = 0 ∧ (1 : Nat) = 1 ∧ (0 : Nat) = 0 ∧ (lM x).length = (lM x).length ∧ g.val.2.2.1 = g_1.val.2.2.1) ∧ (true = true ∧ NilNil ∧ (0 : Nat) = 0 ∧
 (1 : Nat) = 1 ∧ (0 : Nat) = 0 ∧ (lM x).length = (lM x).length ∧ g.val.2.2.1 = g_1.val.2.2.1) ∧ True) ∧ ((3 : TypeId) = 3 ∧ (1 : Nat) = 1 ∧ g.val.1 = g_1.val.1 ∧
 (lC x).length ≤ (lC x).length ∧ ∀ (i : Nat), i < (lC x).length → [AV.int .i64 ((lC x).getD i 0)] = [AV.int .i64 ((lC x).getD i 0)]) ∧ ((3 : TypeId) = 3 ∧ (1 :
 Nat) = 1 ∧ g.val.2.2.1 = g_1.val.2.2.1 ∧ (lM x).length ≤ (lM x).length ∧ ∀ (i : Nat), i < (lM x).length → [AV.int .i64 ((lM x).getD i 0)] = [AV.int .i64 ((lM
 x).getD i 0)]) ∧ True) ∧ I64 ((↑t.1 : Int) + 1) ∧ Exx (Nat × Nat) fun t' => (I t' ∧ m t' < m t) ∧ ((true = true ∧ NilNil ∧ (0 : Nat) = 0) ∧ Tr 2 ((true = true ∧
 NilNil ∧ (0 : Nat) = 0 ∧ (1 : Nat) = 1 ∧ (0 : Nat) = 0 ∧ (freeP x t.1).length = (freeP x t'.fst).length ∧ t.2 = t'.snd) ∧ Tr 1 ((↑t.1 : Int) + 1 = (↑t'.fst :
 Int)) ∧ Tr 47 True)) ∧ refB x = refB x ∧ true = true ∧ ((3 : TypeId) = 3 ∧ (1 : Nat) = 1 ∧ t.2 = t'.snd ∧ (freeP x t'.fst).length ≤ (freeP x t.1).length ∧ ∀ (i
 : Nat), i < (freeP x t'.fst).length → [AV.int .i64 ((freeP x t.1).getD i 0)] = [AV.int .i64 ((freeP x t'.fst).getD i 0)]) ∧ True)) (Exx Unit fun y => Exx
 (Subtype (RCap x true false true)) fun g_1 => Tr 1 (((38 : TypeId) = 38 ∧ Tr 1 ((↑x.n : Int) = (↑x.n : Int)) ∧ Tr 1 (x.r = x.r) ∧ (true = true ∧ NilNil ∧ (0 :
 Nat) = 0 ∧ (1 : Nat) = 1 ∧ (0 : Nat) = 0 ∧ (lC x).length = (lC x).length ∧ g.val.1 = g_1.val.1) ∧ (true = true ∧ NilNil ∧ (0 : Nat) = 0 ∧ (1 : Nat) = 1 ∧ (0 :
 Nat) = 0 ∧ (lC x).length = (lC x).length ∧ g.val.1 = g_1.val.1) ∧ (true = true ∧ NilNil ∧ (0 : Nat) = 0 ∧ (1 : Nat) = 1 ∧ (0 : Nat) = 0 ∧ (lM x).length = (lM
 x).length ∧ g.val.2.2.1 = g_1.val.2.2.1) ∧ (true = true ∧ NilNil ∧ (0 : Nat) = 0 ∧ (1 : Nat) = 1 ∧ (0 : Nat) = 0 ∧ (lM x).length = (lM x).length ∧ g.val.2.2.1 =
 g_1.val.2.2.1) ∧ True) ∧ ((3 : TypeId) = 3 ∧ (1 : Nat) = 1 ∧ g.val.1 = g_1.val.1 ∧ (lC x).length ≤ (lC x).length ∧ ∀ (i : Nat), i < (lC x).length → [AV.int .i64
 ((lC x).getD i 0)] = [AV.int .i64 ((lC x).getD i 0)]) ∧ ((3 : TypeId) = 3 ∧ (1 : Nat) = 1 ∧ g.val.2.2.1 = g_1.val.2.2.1 ∧ (lM x).length ≤ (lM x).length ∧ ∀ (i :
 Nat), i < (lM x).length → [AV.int .i64 ((lM x).getD i 0)] = [AV.int .i64 ((lM x).getD i 0)]) ∧ True) ∧ I64 ((↑t.1 : Int) + 1) ∧ Exx (Nat × Nat) fun t' => (I t'
 ∧ m t' < m t) ∧ ((true = true ∧ NilNil ∧ (0 : Nat) = 0) ∧ Tr 2 ((true = true ∧ NilNil ∧ (0 : Nat) = 0 ∧ (1 : Nat) = 1 ∧ (0 : Nat) = 0 ∧ (freeP x t.1).length =
 (freeP x t'.fst).length ∧ t.2 = t'.snd) ∧ Tr 1 ((↑t.1 : Int) + 1 = (↑t'.fst : Int)) ∧ Tr 47 True)) ∧ refB x = refB x ∧ true = true ∧ ((3 : TypeId) = 3 ∧ (1 :
 Nat) = 1 ∧ t.2 = t'.snd ∧ (freeP x t'.fst).length ≤ (freeP x t.1).length ∧ ∀ (i : Nat), i < (freeP x t'.fst).length → [AV.int .i64 ((freeP x t.1).getD i 0)] =
 [AV.int .i64 ((freeP x t'.fst).getD i 0)]) ∧ True)) (Exx Unit fun y => Exx (Subtype (RCap x true false true)) fun g_1 => Tr 1 (((38 : TypeId) = 38 ∧ Tr 1 ((↑x.n
 : Int) = (↑x.n : Int)) ∧ Tr 1 (x.r = x.r) ∧ (true = true ∧ NilNil ∧ (0 : Nat) = 0 ∧ (1 : Nat) = 1 ∧ (0 : Nat) = 0 ∧ (lC x).length = (lC x).length ∧ g.val.1 =
 g_1.val.1) ∧ (true = true ∧ NilNil ∧ (0 : Nat) = 0 ∧ (1 : Nat) = 1 ∧ (0 : Nat) = 0 ∧ (lC x).length = (lC x).length ∧ g.val.1 = g_1.val.1) ∧ (true = true ∧
 NilNil ∧ (0 : Nat) = 0 ∧ (1 : Nat) = 1 ∧ (0 : Nat) = 0 ∧ (lM x).length = (lM x).length ∧ g.val.2.2.1 = g_1.val.2.2.1) ∧ (true = true ∧ NilNil ∧ (0 : Nat) = 0 ∧
 (1 : Nat) = 1 ∧ (0 : Nat) = 0 ∧ (lM x).length = (lM x).length ∧ g.val.2.2.1 = g_1.val.2.2.1) ∧ True) ∧ ((3 : TypeId) = 3 ∧ (1 : Nat) = 1 ∧ g.val.1 = g_1.val.1 ∧
 (lC x).length ≤ (lC x).length ∧ ∀ (i : Nat), i < (lC x).length → [AV.int .i64 ((lC x).getD i 0)] = [AV.int .i64 ((lC x).getD i 0)]) ∧ ((3 : TypeId) = 3 ∧ (1 :
 Nat) = 1 ∧ g.val.2.2.1 = g_1.val.2.2.1 ∧ (lM x).length ≤ (lM x).length ∧ ∀ (i : Nat), i < (lM x).length → [AV.int .i64 ((lM x).getD i 0)] = [AV.int .i64 ((lM
 x).getD i 0)]) ∧ True) ∧ I64 ((↑t.1 : Int) + 1) ∧ Exx (Nat × Nat) fun t' => (I t' ∧ m t' < m t) ∧ ((true = true ∧ NilNil ∧ (0 : Nat) = 0) ∧ Tr 2 ((true = true ∧
 NilNil ∧ (0 : Nat) = 0 ∧ (1 : Nat) = 1 ∧ (0 : Nat) = 0 ∧ (freeP x t.1).length = (freeP x t'.fst).length ∧ t.2 = t'.snd) ∧ Tr 1 ((↑t.1 : Int) + 1 = (↑t'.fst :
 Int)) ∧ Tr 47 True)) ∧ refB x = refB x ∧ true = true ∧ ((3 : TypeId) = 3 ∧ (1 : Nat) = 1 ∧ t.2 = t'.snd ∧ (freeP x t'.fst).length ≤ (freeP x t.1).length ∧ ∀ (i
 : Nat), i < (freeP x t'.fst).length → [AV.int .i64 ((freeP x t.1).getD i 0)] = [AV.int .i64 ((freeP x t'.fst).getD i 0)]) ∧ True)) (Exx Unit fun y => Exx
 (Subtype (RCap x true false true)) fun g_1 => Tr 1 (((38 : TypeId) = 38 ∧ Tr 1 ((↑x.n : Int) = (↑x.n : Int)) ∧ Tr 1 (x.r = x.r) ∧ (true = true ∧ NilNil ∧ (0 :
 Nat) = 0 ∧ (1 : Nat) = 1 ∧ (0 : Nat) = 0 ∧ (lC x).length = (lC x).length ∧ g.val.1 = g_1.val.1) ∧ (true = true ∧ NilNil ∧ (0 : Nat) = 0 ∧ (1 : Nat) = 1 ∧ (0 :
 Nat) = 0 ∧ (lC x).length = (lC x).length ∧ g.val.1 = g_1.val.1) ∧ (true = true ∧ NilNil ∧ (0 : Nat) = 0 ∧ (1 : Nat) = 1 ∧ (0 : Nat) = 0 ∧ (lM x).length = (lM
 x).length ∧ g.val.2.2.1 = g_1.val.2.2.1) ∧ (true = true ∧ NilNil ∧ (0 : Nat) = 0 ∧ (1 : Nat) = 1 ∧ (0 : Nat) = 0 ∧ (lM x).length = (lM x).length ∧ g.val.2.2.1 =
 g_1.val.2.2.1) ∧ True) ∧ ((3 : TypeId) = 3 ∧ (1 : Nat) = 1 ∧ g.val.1 = g_1.val.1 ∧ (lC x).length ≤ (lC x).length ∧ ∀ (i : Nat), i < (lC x).length → [AV.int .i64
 ((lC x).getD i 0)] = [AV.int .i64 ((lC x).getD i 0)]) ∧ ((3 : TypeId) = 3 ∧ (1 : Nat) = 1 ∧ g.val.2.2.1 = g_1.val.2.2.1 ∧ (lM x).length ≤ (lM x).length ∧ ∀ (i :
 Nat), i < (lM x).length → [AV.int .i64 ((lM x).getD i 0)] = [AV.int .i64 ((lM x).getD i 0)]) ∧ True) ∧ I64 ((↑t.1 : Int) + 1) ∧ Exx (Nat × Nat) fun t' => (I t'
 ∧ m t' < m t) ∧ ((true = true ∧ NilNil ∧ (0 : Nat) = 0) ∧ Tr 2 ((true = true ∧ NilNil ∧ (0 : Nat) = 0 ∧ (1 : Nat) = 1 ∧ (0 : Nat) = 0 ∧ (freeP x t.1).length =
 (freeP x t'.fst).length ∧ t.2 = t'.snd) ∧ Tr 1 ((↑t.1 : Int) + 1 = (↑t'.fst : Int)) ∧ Tr 47 True)) ∧ refB x = refB x ∧ true = true ∧ ((3 : TypeId) = 3 ∧ (1 :
 Nat) = 1 ∧ t.2 = t'.snd ∧ (freeP x t'.fst).length ≤ (freeP x t.1).length ∧ ∀ (i : Nat), i < (freeP x t'.fst).length → [AV.int .i64 ((freeP x t.1).getD i 0)] =
 [AV.int .i64 ((freeP x t'.fst).getD i 0)]) ∧ True)) ∧ (∀ (g : Subtype (RCap x true false false)), Exx (List Int × Int) fun x_1 => (((0 + (lC x).length ≤ (lC
 x).length ∧ (lC x).length = x_1.1.length ∧ ∀ (i : Nat), i < x_1.1.length → [AV.int .i64 ((lC x).getD (0 + i) 0)] = [AV.int .i64 (x_1.1.getD i 0)]) ∧ Tr 1 ((↑t.1
 : Int) = x_1.2) ∧ True) ∧ true = true ∧ True) ∧ (IntL x_1.1 ∧ I64 x_1.2) ∧ ∀ (y : Unit), True → BC (!decide (x_1.2 ∈ x_1.1)) (Exx (List Int × Int) fun x_2 =>
 (((0 + (lC x).length ≤ (lC x).length ∧ (lC x).length = x_2.1.length ∧ ∀ (i : Nat), i < x_2.1.length → [AV.int .i64 ((lC x).getD (0 + i) 0)] = [AV.int .i64
 (x_2.1.getD i 0)]) ∧ Tr 1 ((↑t.1 : Int) = x_2.2) ∧ True) ∧ true = true ∧ True) ∧ (IntL x_2.1 ∧ I64 x_2.2) ∧ ∀ (y : Unit), True → BC (!decide (x_2.2 ∈ x_2.1))
 (Exx (List Int × Int) fun x_3 => (((0 + (lM x).length ≤ (lM x).length ∧ (lM x).length = x_3.1.length ∧ ∀ (i : Nat), i < x_3.1.length → [AV.int .i64 ((lM x).getD
 (0 + i) 0)] = [AV.int .i64 (x_3.1.getD i 0)]) ∧ Tr 1 ((↑t.1 : Int) = x_3.2) ∧ True) ∧ true = true ∧ True) ∧ (IntL x_3.1 ∧ I64 x_3.2) ∧ ∀ (y : Unit), True → BC
 (!decide (x_3.2 ∈ x_3.1)) (Exx (List Int × Int) fun x_4 => (((0 + (lW x).length ≤ (lW x).length ∧ (lW x).length = x_4.1.length ∧ ∀ (i : Nat), i < x_4.1.length →
 [AV.int .i64 ((lW x).getD (0 + i) 0)] = [AV.int .i64 (x_4.1.getD i 0)]) ∧ Tr 1 ((↑t.1 : Int) = x_4.2) ∧ True) ∧ true = true ∧ True) ∧ (IntL x_4.1 ∧ I64 x_4.2) ∧
 ∀ (y : Unit), True → BC (!decide (x_4.2 ∈ x_4.1)) (Exx Unit fun y => Exx (Subtype (RCap x true false false)) fun g_1 => Tr 1 (((38 : TypeId) = 38 ∧ Tr 1 ((↑x.n
 : Int) = (↑x.n : Int)) ∧ Tr 1 (x.r = x.r) ∧ (true = true ∧ NilNil ∧ (0 : Nat) = 0 ∧ (1 : Nat) = 1 ∧ (0 : Nat) = 0 ∧ (lC x).length = (lC x).length ∧ g.val.1 =
 g_1.val.1) ∧ (true = true ∧ NilNil ∧ (0 : Nat) = 0 ∧ (1 : Nat) = 1 ∧ (0 : Nat) = 0 ∧ (lC x).length = (lC x).length ∧ g.val.1 = g_1.val.1) ∧ (true = true ∧
 NilNil ∧ (0 : Nat) = 0 ∧ (1 : Nat) = 1 ∧ (0 : Nat) = 0 ∧ (lM x).length = (lM x).length ∧ g.val.2.2.1 = g_1.val.2.2.1) ∧ (true = true ∧ NilNil ∧ (0 : Nat) = 0 ∧
 (1 : Nat) = 1 ∧ (0 : Nat) = 0 ∧ (lW x).length = (lW x).length ∧ g.val.2.2.2 = g_1.val.2.2.2) ∧ True) ∧ ((3 : TypeId) = 3 ∧ (1 : Nat) = 1 ∧ g.val.1 = g_1.val.1 ∧
 (lC x).length ≤ (lC x).length ∧ ∀ (i : Nat), i < (lC x).length → [AV.int .i64 ((lC x).getD i 0)] = [AV.int .i64 ((lC x).getD i 0)]) ∧ ((3 : TypeId) = 3 ∧ (1 :
 Nat) = 1 ∧ g.val.2.2.1 = g_1.val.2.2.1 ∧ (lM x).length ≤ (lM x).length ∧ ∀ (i : Nat), i < (lM x).length → [AV.int .i64 ((lM x).getD i 0)] = [AV.int .i64 ((lM
 x).getD i 0)]) ∧ ((3 : TypeId) = 3 ∧ (1 : Nat) = 1 ∧ g.val.2.2.2 = g_1.val.2.2.2 ∧ (lW x).length ≤ (lW x).length ∧ ∀ (i : Nat), i < (lW x).length → [AV.int .i64
 ((lW x).getD i 0)] = [AV.int .i64 ((lW x).getD i 0)]) ∧ True) ∧ (0 : Nat) + (1 : Nat) ≤ (1 : Nat) ∧ true = true ∧ ((freeP x t.1).length ≤ (freeP x t.1).length ∧
 t.2 = t.2) ∧ ((freeP x t.1).length + 1 ≤ 9223372036854775807 ∧ ((freeP x t.1).length + 1) * 8 ≤ 140737488355328) ∧ ∀ (cap : Nat), (freeP x t.1).length + 1 ≤ cap
 ∧ cap ≤ 9223372036854775807 → Exx Unit fun y => I64 ((↑t.1 : Int) + 1) ∧ Exx (Nat × Nat) fun t' => (I t' ∧ m t' < m t) ∧ ((true = true ∧ NilNil ∧ (0 : Nat) = 0)
 ∧ Tr 2 ((true = true ∧ NilNil ∧ (0 : Nat) = 0 ∧ (1 : Nat) = 1 ∧ (0 : Nat) = 0 ∧ (freeP x t.1).length + 1 = (freeP x t'.fst).length ∧ cap = t'.snd) ∧ Tr 1 ((↑t.1
 : Int) + 1 = (↑t'.fst : Int)) ∧ Tr 47 True)) ∧ refB x = refB x ∧ true = true ∧ ((3 : TypeId) = 3 ∧ (1 : Nat) = 1 ∧ cap = t'.snd ∧ (freeP x t'.fst).length ≤
 (freeP x t.1).length + 1 ∧ ∀ (i : Nat), i < (freeP x t'.fst).length → (if i < (freeP x t.1).length then [AV.int .i64 ((freeP x t.1).getD i 0)] else [AV.int .i64
 (if 0 + (i - (freeP x t.1).length) = 0 * 1 / 1 then (↑t.1 : Int) else 0)]) = [AV.int .i64 ((freeP x t'.fst).getD i 0)]) ∧ True) (Exx Unit fun y => Exx (Subtype
 (RCap x true false false)) fun g_1 => Tr 1 (((38 : TypeId) = 38 ∧ Tr 1 ((↑x.n : Int) = (↑x.n : Int)) ∧ Tr 1 (x.r = x.r) ∧ (true = true ∧ NilNil ∧ (0 : Nat) = 0
 ∧ (1 : Nat) = 1 ∧ (0 : Nat) = 0 ∧ (lC x).length = (lC x).length ∧ g.val.1 = g_1.val.1) ∧ (true = true ∧ NilNil ∧ (0 : Nat) = 0 ∧ (1 : Nat) = 1 ∧ (0 : Nat) = 0 ∧
 (lC x).length = (lC x).length ∧ g.val.1 = g_1.val.1) ∧ (true = true ∧ NilNil ∧ (0 : Nat) = 0 ∧ (1 : Nat) = 1 ∧ (0 : Nat) = 0 ∧ (lM x).length = (lM x).length ∧
 g.val.2.2.1 = g_1.val.2.2.1) ∧ (true = true ∧ NilNil ∧ (0 : Nat) = 0 ∧ (1 : Nat) = 1 ∧ (0 : Nat) = 0 ∧ (lW x).length = (lW x).length ∧ g.val.2.2.2 =
 g_1.val.2.2.2) ∧ True) ∧ ((3 : TypeId) = 3 ∧ (1 : Nat) = 1 ∧ g.val.1 = g_1.val.1 ∧ (lC x).length ≤ (lC x).length ∧ ∀ (i : Nat), i < (lC x).length → [AV.int .i64
 ((lC x).getD i 0)] = [AV.int .i64 ((lC x).getD i 0)]) ∧ ((3 : TypeId) = 3 ∧ (1 : Nat) = 1 ∧ g.val.2.2.1 = g_1.val.2.2.1 ∧ (lM x).length ≤ (lM x).length ∧ ∀ (i :
 Nat), i < (lM x).length → [AV.int .i64 ((lM x).getD i 0)] = [AV.int .i64 ((lM x).getD i 0)]) ∧ ((3 : TypeId) = 3 ∧ (1 : Nat) = 1 ∧ g.val.2.2.2 = g_1.val.2.2.2 ∧
 (lW x).length ≤ (lW x).length ∧ ∀ (i : Nat), i < (lW x).length → [AV.int .i64 ((lW x).getD i 0)] = [AV.int .i64 ((lW x).getD i 0)]) ∧ True) ∧ I64 ((↑t.1 : Int)
 + 1) ∧ Exx (Nat × Nat) fun t' => (I t' ∧ m t' < m t) ∧ ((true = true ∧ NilNil ∧ (0 : Nat) = 0) ∧ Tr 2 ((true = true ∧ NilNil ∧ (0 : Nat) = 0 ∧ (1 : Nat) = 1 ∧
 (0 : Nat) = 0 ∧ (freeP x t.1).length = (freeP x t'.fst).length ∧ t.2 = t'.snd) ∧ Tr 1 ((↑t.1 : Int) + 1 = (↑t'.fst : Int)) ∧ Tr 47 True)) ∧ refB x = refB x ∧
 true = true ∧ ((3 : TypeId) = 3 ∧ (1 : Nat) = 1 ∧ t.2 = t'.snd ∧ (freeP x t'.fst).length ≤ (freeP x t.1).length ∧ ∀ (i : Nat), i < (freeP x t'.fst).length →
 [AV.int .i64 ((freeP x t.1).getD i 0)] = [AV.int .i64 ((freeP x t'.fst).getD i 0)]) ∧ True)) (Exx Unit fun y => Exx (Subtype (RCap x true false false)) fun g_1
 => Tr 1 (((38 : TypeId) = 38 ∧ Tr 1 ((↑x.n : Int) = (↑x.n : Int)) ∧ Tr 1 (x.r = x.r) ∧ (true = true ∧ NilNil ∧ (0 : Nat) = 0 ∧ (1 : Nat) = 1 ∧ (0 : Nat) = 0 ∧
 (lC x).length = (lC x).length ∧ g.val.1 = g_1.val.1) ∧ (true = true ∧ NilNil ∧ (0 : Nat) = 0 ∧ (1 : Nat) = 1 ∧ (0 : Nat) = 0 ∧ (lC x).length = (lC x).length ∧
 g.val.1 = g_1.val.1) ∧ (true = true ∧ NilNil ∧ (0 : Nat) = 0 ∧ (1 : Nat) = 1 ∧ (0 : Nat) = 0 ∧ (lM x).length = (lM x).length ∧ g.val.2.2.1 = g_1.val.2.2.1) ∧
 (true = true ∧ NilNil ∧ (0 : Nat) = 0 ∧ (1 : Nat) = 1 ∧ (0 : Nat) = 0 ∧ (lW x).length = (lW x).length ∧ g.val.2.2.2 = g_1.val.2.2.2) ∧ True) ∧ ((3 : TypeId) = 3
 ∧ (1 : Nat) = 1 ∧ g.val.1 = g_1.val.1 ∧ (lC x).length ≤ (lC x).length ∧ ∀ (i : Nat), i < (lC x).length → [AV.int .i64 ((lC x).getD i 0)] = [AV.int .i64 ((lC
 x).getD i 0)]) ∧ ((3 : TypeId) = 3 ∧ (1 : Nat) = 1 ∧ g.val.2.2.1 = g_1.val.2.2.1 ∧ (lM x).length ≤ (lM x).length ∧ ∀ (i : Nat), i < (lM x).length → [AV.int .i64
 ((lM x).getD i 0)] = [AV.int .i64 ((lM x).getD i 0)]) ∧ ((3 : TypeId) = 3 ∧ (1 : Nat) = 1 ∧ g.val.2.2.2 = g_1.val.2.2.2 ∧ (lW x).length ≤ (lW x).length ∧ ∀ (i :
 Nat), i < (lW x).length → [AV.int .i64 ((lW x).getD i 0)] = [AV.int .i64 ((lW x).getD i 0)]) ∧ True) ∧ I64 ((↑t.1 : Int) + 1) ∧ Exx (Nat × Nat) fun t' => (I t'
 ∧ m t' < m t) ∧ ((true = true ∧ NilNil ∧ (0 : Nat) = 0) ∧ Tr 2 ((true = true ∧ NilNil ∧ (0 : Nat) = 0 ∧ (1 : Nat) = 1 ∧ (0 : Nat) = 0 ∧ (freeP x t.1).length =
 (freeP x t'.fst).length ∧ t.2 = t'.snd) ∧ Tr 1 ((↑t.1 : Int) + 1 = (↑t'.fst : Int)) ∧ Tr 47 True)) ∧ refB x = refB x ∧ true = true ∧ ((3 : TypeId) = 3 ∧ (1 :
 Nat) = 1 ∧ t.2 = t'.snd ∧ (freeP x t'.fst).length ≤ (freeP x t.1).length ∧ ∀ (i : Nat), i < (freeP x t'.fst).length → [AV.int .i64 ((freeP x t.1).getD i 0)] =
 [AV.int .i64 ((freeP x t'.fst).getD i 0)]) ∧ True)) (Exx Unit fun y => Exx (Subtype (RCap x true false false)) fun g_1 => Tr 1 (((38 : TypeId) = 38 ∧ Tr 1
 ((↑x.n : Int) = (↑x.n : Int)) ∧ Tr 1 (x.r = x.r) ∧ (true = true ∧ NilNil ∧ (0 : Nat) = 0 ∧ (1 : Nat) = 1 ∧ (0 : Nat) = 0 ∧ (lC x).length = (lC x).length ∧
 g.val.1 = g_1.val.1) ∧ (true = true ∧ NilNil ∧ (0 : Nat) = 0 ∧ (1 : Nat) = 1 ∧ (0 : Nat) = 0 ∧ (lC x).length = (lC x).length ∧ g.val.1 = g_1.val.1) ∧ (true =
 true ∧ NilNil ∧ (0 : Nat) = 0 ∧ (1 : Nat) = 1 ∧ (0 : Nat) = 0 ∧ (lM x).length = (lM x).length ∧ g.val.2.2.1 = g_1.val.2.2.1) ∧ (true = true ∧ NilNil ∧ (0 : Nat)
 = 0 ∧ (1 : Nat) = 1 ∧ (0 : Nat) = 0 ∧ (lW x).length = (lW x).length ∧ g.val.2.2.2 = g_1.val.2.2.2) ∧ True) ∧ ((3 : TypeId) = 3 ∧ (1 : Nat) = 1 ∧ g.val.1 =
 g_1.val.1 ∧ (lC x).length ≤ (lC x).length ∧ ∀ (i : Nat), i < (lC x).length → [AV.int .i64 ((lC x).getD i 0)] = [AV.int .i64 ((lC x).getD i 0)]) ∧ ((3 : TypeId)
 = 3 ∧ (1 : Nat) = 1 ∧ g.val.2.2.1 = g_1.val.2.2.1 ∧ (lM x).length ≤ (lM x).length ∧ ∀ (i : Nat), i < (lM x).length → [AV.int .i64 ((lM x).getD i 0)] = [AV.int
 .i64 ((lM x).getD i 0)]) ∧ ((3 : TypeId) = 3 ∧ (1 : Nat) = 1 ∧ g.val.2.2.2 = g_1.val.2.2.2 ∧ (lW x).length ≤ (lW x).length ∧ ∀ (i : Nat), i < (lW x).length →
 [AV.int .i64 ((lW x).getD i 0)] = [AV.int .i64 ((lW x).getD i 0)]) ∧ True) ∧ I64 ((↑t.1 : Int) + 1) ∧ Exx (Nat × Nat) fun t' => (I t' ∧ m t' < m t) ∧ ((true =
 true ∧ NilNil ∧ (0 : Nat) = 0) ∧ Tr 2 ((true = true ∧ NilNil ∧ (0 : Nat) = 0 ∧ (1 : Nat) = 1 ∧ (0 : Nat) = 0 ∧ (freeP x t.1).length = (freeP x t'.fst).length ∧
 t.2 = t'.snd) ∧ Tr 1 ((↑t.1 : Int) + 1 = (↑t'.fst : Int)) ∧ Tr 47 True)) ∧ refB x = refB x ∧ true = true ∧ ((3 : TypeId) = 3 ∧ (1 : Nat) = 1 ∧ t.2 = t'.snd ∧
 (freeP x t'.fst).length ≤ (freeP x t.1).length ∧ ∀ (i : Nat), i < (freeP x t'.fst).length → [AV.int .i64 ((freeP x t.1).getD i 0)] = [AV.int .i64 ((freeP x
 t'.fst).getD i 0)]) ∧ True)) (Exx Unit fun y => Exx (Subtype (RCap x true false false)) fun g_1 => Tr 1 (((38 : TypeId) = 38 ∧ Tr 1 ((↑x.n : Int) = (↑x.n :
 Int)) ∧ Tr 1 (x.r = x.r) ∧ (true = true ∧ NilNil ∧ (0 : Nat) = 0 ∧ (1 : Nat) = 1 ∧ (0 : Nat) = 0 ∧ (lC x).length = (lC x).length ∧ g.val.1 = g_1.val.1) ∧ (true
 = true ∧ NilNil ∧ (0 : Nat) = 0 ∧ (1 : Nat) = 1 ∧ (0 : Nat) = 0 ∧ (lC x).length = (lC x).length ∧ g.val.1 = g_1.val.1) ∧ (true = true ∧ NilNil ∧ (0 : Nat) = 0 ∧
 (1 : Nat) = 1 ∧ (0 : Nat) = 0 ∧ (lM x).length = (lM x).length ∧ g.val.2.2.1 = g_1.val.2.2.1) ∧ (true = true ∧ NilNil ∧ (0 : Nat) = 0 ∧ (1 : Nat) = 1 ∧ (0 : Nat)
 = 0 ∧ (lW x).length = (lW x).length ∧ g.val.2.2.2 = g_1.val.2.2.2) ∧ True) ∧ ((3 : TypeId) = 3 ∧ (1 : Nat) = 1 ∧ g.val.1 = g_1.val.1 ∧ (lC x).length ≤ (lC
 x).length ∧ ∀ (i : Nat), i < (lC x).length → [AV.int .i64 ((lC x).getD i 0)] = [AV.int .i64 ((lC x).getD i 0)]) ∧ ((3 : TypeId) = 3 ∧ (1 : Nat) = 1 ∧
 g.val.2.2.1 = g_1.val.2.2.1 ∧ (lM x).length ≤ (lM x).length ∧ ∀ (i : Nat), i < (lM x).length → [AV.int .i64 ((lM x).getD i 0)] = [AV.int .i64 ((lM x).getD i
 0)]) ∧ ((3 : TypeId) = 3 ∧ (1 : Nat) = 1 ∧ g.val.2.2.2 = g_1.val.2.2.2 ∧ (lW x).length ≤ (lW x).length ∧ ∀ (i : Nat), i < (lW x).length → [AV.int .i64 ((lW
 x).getD i 0)] = [AV.int .i64 ((lW x).getD i 0)]) ∧ True) ∧ I64 ((↑t.1 : Int) + 1) ∧ Exx (Nat × Nat) fun t' => (I t' ∧ m t' < m t) ∧ ((true = true ∧ NilNil ∧ (0
 : Nat) = 0) ∧ Tr 2 ((true = true ∧ NilNil ∧ (0 : Nat) = 0 ∧ (1 : Nat) = 1 ∧ (0 : Nat) = 0 ∧ (freeP x t.1).length = (freeP x t'.fst).length ∧ t.2 = t'.snd) ∧ Tr
 1 ((↑t.1 : Int) + 1 = (↑t'.fst : Int)) ∧ Tr 47 True)) ∧ refB x = refB x ∧ true = true ∧ ((3 : TypeId) = 3 ∧ (1 : Nat) = 1 ∧ t.2 = t'.snd ∧ (freeP x
 t'.fst).length ≤ (freeP x t.1).length ∧ ∀ (i : Nat), i < (freeP x t'.fst).length → [AV.int .i64 ((freeP x t.1).getD i 0)] = [AV.int .i64 ((freeP x t'.fst).getD
 i 0)]) ∧ True)) ∧ (∀ (g : Subtype (RCap x false true true)), Exx (List Int × Int) fun x_1 => (((0 + (lC x).length ≤ (lC x).length ∧ (lC x).length = x_1.1.length
 ∧ ∀ (i : Nat), i < x_1.1.length → [AV.int .i64 ((lC x).getD (0 + i) 0)] = [AV.int .i64 (x_1.1.getD i 0)]) ∧ Tr 1 ((↑t.1 : Int) = x_1.2) ∧ True) ∧ true = true ∧
 True) ∧ (IntL x_1.1 ∧ I64 x_1.2) ∧ ∀ (y : Unit), True → BC (!decide (x_1.2 ∈ x_1.1)) (Exx (List Int × Int) fun x_2 => (((0 + (lE x).length ≤ (lE x).length ∧ (lE
 x).length = x_2.1.length ∧ ∀ (i : Nat), i < x_2.1.length → [AV.int .i64 ((lE x).getD (0 + i) 0)] = [AV.int .i64 (x_2.1.getD i 0)]) ∧ Tr 1 ((↑t.1 : Int) = x_2.2)
 ∧ True) ∧ true = true ∧ True) ∧ (IntL x_2.1 ∧ I64 x_2.2) ∧ ∀ (y : Unit), True → BC (!decide (x_2.2 ∈ x_2.1)) (Exx (List Int × Int) fun x_3 => (((0 + (lC
 x).length ≤ (lC x).length ∧ (lC x).length = x_3.1.length ∧ ∀ (i : Nat), i < x_3.1.length → [AV.int .i64 ((lC x).getD (0 + i) 0)] = [AV.int .i64 (x_3.1.getD i
 0)]) ∧ Tr 1 ((↑t.1 : Int) = x_3.2) ∧ True) ∧ true = true ∧ True) ∧ (IntL x_3.1 ∧ I64 x_3.2) ∧ ∀ (y : Unit), True → BC (!decide (x_3.2 ∈ x_3.1)) (Exx (List Int ×
 Int) fun x_4 => (((0 + (lC x).length ≤ (lC x).length ∧ (lC x).length = x_4.1.length ∧ ∀ (i : Nat), i < x_4.1.length → [AV.int .i64 ((lC x).getD (0 + i) 0)] =
 [AV.int .i64 (x_4.1.getD i 0)]) ∧ Tr 1 ((↑t.1 : Int) = x_4.2) ∧ True) ∧ true = true ∧ True) ∧ (IntL x_4.1 ∧ I64 x_4.2) ∧ ∀ (y : Unit), True → BC (!decide (x_4.2
 ∈ x_4.1)) (Exx Unit fun y => Exx (Subtype (RCap x false true true)) fun g_1 => Tr 1 (((38 : TypeId) = 38 ∧ Tr 1 ((↑x.n : Int) = (↑x.n : Int)) ∧ Tr 1 (x.r = x.r)
 ∧ (true = true ∧ NilNil ∧ (0 : Nat) = 0 ∧ (1 : Nat) = 1 ∧ (0 : Nat) = 0 ∧ (lC x).length = (lC x).length ∧ g.val.1 = g_1.val.1) ∧ (true = true ∧ NilNil ∧ (0 :
 Nat) = 0 ∧ (1 : Nat) = 1 ∧ (0 : Nat) = 0 ∧ (lE x).length = (lE x).length ∧ g.val.2.1 = g_1.val.2.1) ∧ (true = true ∧ NilNil ∧ (0 : Nat) = 0 ∧ (1 : Nat) = 1 ∧ (0
 : Nat) = 0 ∧ (lC x).length = (lC x).length ∧ g.val.1 = g_1.val.1) ∧ (true = true ∧ NilNil ∧ (0 : Nat) = 0 ∧ (1 : Nat) = 1 ∧ (0 : Nat) = 0 ∧ (lC x).length = (lC
 x).length ∧ g.val.1 = g_1.val.1) ∧ True) ∧ ((3 : TypeId) = 3 ∧ (1 : Nat) = 1 ∧ g.val.1 = g_1.val.1 ∧ (lC x).length ≤ (lC x).length ∧ ∀ (i : Nat), i < (lC
 x).length → [AV.int .i64 ((lC x).getD i 0)] = [AV.int .i64 ((lC x).getD i 0)]) ∧ ((3 : TypeId) = 3 ∧ (1 : Nat) = 1 ∧ g.val.2.1 = g_1.val.2.1 ∧ (lE x).length ≤
 (lE x).length ∧ ∀ (i : Nat), i < (lE x).length → [AV.int .i64 ((lE x).getD i 0)] = [AV.int .i64 ((lE x).getD i 0)]) ∧ True) ∧ (0 : Nat) + (1 : Nat) ≤ (1 : Nat)
 ∧ true = true ∧ ((freeP x t.1).length ≤ (freeP x t.1).length ∧ t.2 = t.2) ∧ ((freeP x t.1).length + 1 ≤ 9223372036854775807 ∧ ((freeP x t.1).length + 1) * 8 ≤
 140737488355328) ∧ ∀ (cap : Nat), (freeP x t.1).length + 1 ≤ cap ∧ cap ≤ 9223372036854775807 → Exx Unit fun y => I64 ((↑t.1 : Int) + 1) ∧ Exx (Nat × Nat) fun t'
 => (I t' ∧ m t' < m t) ∧ ((true = true ∧ NilNil ∧ (0 : Nat) = 0) ∧ Tr 2 ((true = true ∧ NilNil ∧ (0 : Nat) = 0 ∧ (1 : Nat) = 1 ∧ (0 : Nat) = 0 ∧ (freeP x
 t.1).length + 1 = (freeP x t'.fst).length ∧ cap = t'.snd) ∧ Tr 1 ((↑t.1 : Int) + 1 = (↑t'.fst : Int)) ∧ Tr 47 True)) ∧ refB x = refB x ∧ true = true ∧ ((3 :
 TypeId) = 3 ∧ (1 : Nat) = 1 ∧ cap = t'.snd ∧ (freeP x t'.fst).length ≤ (freeP x t.1).length + 1 ∧ ∀ (i : Nat), i < (freeP x t'.fst).length → (if i < (freeP x
 t.1).length then [AV.int .i64 ((freeP x t.1).getD i 0)] else [AV.int .i64 (if 0 + (i - (freeP x t.1).length) = 0 * 1 / 1 then (↑t.1 : Int) else 0)]) = [AV.int
 .i64 ((freeP x t'.fst).getD i 0)]) ∧ True) (Exx Unit fun y => Exx (Subtype (RCap x false true true)) fun g_1 => Tr 1 (((38 : TypeId) = 38 ∧ Tr 1 ((↑x.n : Int) =
 (↑x.n : Int)) ∧ Tr 1 (x.r = x.r) ∧ (true = true ∧ NilNil ∧ (0 : Nat) = 0 ∧ (1 : Nat) = 1 ∧ (0 : Nat) = 0 ∧ (lC x).length = (lC x).length ∧ g.val.1 = g_1.val.1)
 ∧ (true = true ∧ NilNil ∧ (0 : Nat) = 0 ∧ (1 : Nat) = 1 ∧ (0 : Nat) = 0 ∧ (lE x).length = (lE x).length ∧ g.val.2.1 = g_1.val.2.1) ∧ (true = true ∧ NilNil ∧ (0
 : Nat) = 0 ∧ (1 : Nat) = 1 ∧ (0 : Nat) = 0 ∧ (lC x).length = (lC x).length ∧ g.val.1 = g_1.val.1) ∧ (true = true ∧ NilNil ∧ (0 : Nat) = 0 ∧ (1 : Nat) = 1 ∧ (0 :
 Nat) = 0 ∧ (lC x).length = (lC x).length ∧ g.val.1 = g_1.val.1) ∧ True) ∧ ((3 : TypeId) = 3 ∧ (1 : Nat) = 1 ∧ g.val.1 = g_1.val.1 ∧ (lC x).length ≤ (lC
 x).length ∧ ∀ (i : Nat), i < (lC x).length → [AV.int .i64 ((lC x).getD i 0)] = [AV.int .i64 ((lC x).getD i 0)]) ∧ ((3 : TypeId) = 3 ∧ (1 : Nat) = 1 ∧ g.val.2.1
 = g_1.val.2.1 ∧ (lE x).length ≤ (lE x).length ∧ ∀ (i : Nat), i < (lE x).length → [AV.int .i64 ((lE x).getD i 0)] = [AV.int .i64 ((lE x).getD i 0)]) ∧ True) ∧
 I64 ((↑t.1 : Int) + 1) ∧ Exx (Nat × Nat) fun t' => (I t' ∧ m t' < m t) ∧ ((true = true ∧ NilNil ∧ (0 : Nat) = 0) ∧ Tr 2 ((true = true ∧ NilNil ∧ (0 : Nat) = 0 ∧
 (1 : Nat) = 1 ∧ (0 : Nat) = 0 ∧ (freeP x t.1).length = (freeP x t'.fst).length ∧ t.2 = t'.snd) ∧ Tr 1 ((↑t.1 : Int) + 1 = (↑t'.fst : Int)) ∧ Tr 47 True)) ∧ refB
 x = refB x ∧ true = true ∧ ((3 : TypeId) = 3 ∧ (1 : Nat) = 1 ∧ t.2 = t'.snd ∧ (freeP x t'.fst).length ≤ (freeP x t.1).length ∧ ∀ (i : Nat), i < (freeP x
 t'.fst).length → [AV.int .i64 ((freeP x t.1).getD i 0)] = [AV.int .i64 ((freeP x t'.fst).getD i 0)]) ∧ True)) (Exx Unit fun y => Exx (Subtype (RCap x false true
 true)) fun g_1 => Tr 1 (((38 : TypeId) = 38 ∧ Tr 1 ((↑x.n : Int) = (↑x.n : Int)) ∧ Tr 1 (x.r = x.r) ∧ (true = true ∧ NilNil ∧ (0 : Nat) = 0 ∧ (1 : Nat) = 1 ∧ (0
 : Nat) = 0 ∧ (lC x).length = (lC x).length ∧ g.val.1 = g_1.val.1) ∧ (true = true ∧ NilNil ∧ (0 : Nat) = 0 ∧ (1 : Nat) = 1 ∧ (0 : Nat) = 0 ∧ (lE x).length = (lE
 x).length ∧ g.val.2.1 = g_1.val.2.1) ∧ (true = true ∧ NilNil ∧ (0 : Nat) = 0 ∧ (1 : Nat) = 1 ∧ (0 : Nat) = 0 ∧ (lC x).length = (lC x).length ∧ g.val.1 =
 g_1.val.1) ∧ (true = true ∧ NilNil ∧ (0 : Nat) = 0 ∧ (1 : Nat) = 1 ∧ (0 : Nat) = 0 ∧ (lC x).length = (lC x).length ∧ g.val.1 = g_1.val.1) ∧ True) ∧ ((3 :
 TypeId) = 3 ∧ (1 : Nat) = 1 ∧ g.val.1 = g_1.val.1 ∧ (lC x).length ≤ (lC x).length ∧ ∀ (i : Nat), i < (lC x).length → [AV.int .i64 ((lC x).getD i 0)] = [AV.int
 .i64 ((lC x).getD i 0)]) ∧ ((3 : TypeId) = 3 ∧ (1 : Nat) = 1 ∧ g.val.2.1 = g_1.val.2.1 ∧ (lE x).length ≤ (lE x).length ∧ ∀ (i : Nat), i < (lE x).length →
 [AV.int .i64 ((lE x).getD i 0)] = [AV.int .i64 ((lE x).getD i 0)]) ∧ True) ∧ I64 ((↑t.1 : Int) + 1) ∧ Exx (Nat × Nat) fun t' => (I t' ∧ m t' < m t) ∧ ((true =
 true ∧ NilNil ∧ (0 : Nat) = 0) ∧ Tr 2 ((true = true ∧ NilNil ∧ (0 : Nat) = 0 ∧ (1 : Nat) = 1 ∧ (0 : Nat) = 0 ∧ (freeP x t.1).length = (freeP x t'.fst).length ∧
 t.2 = t'.snd) ∧ Tr 1 ((↑t.1 : Int) + 1 = (↑t'.fst : Int)) ∧ Tr 47 True)) ∧ refB x = refB x ∧ true = true ∧ ((3 : TypeId) = 3 ∧ (1 : Nat) = 1 ∧ t.2 = t'.snd ∧
 (freeP x t'.fst).length ≤ (freeP x t.1).length ∧ ∀ (i : Nat), i < (freeP x t'.fst).length → [AV.int .i64 ((freeP x t.1).getD i 0)] = [AV.int .i64 ((freeP x
 t'.fst).getD i 0)]) ∧ True)) (Exx Unit fun y => Exx (Subtype (RCap x false true true)) fun g_1 => Tr 1 (((38 : TypeId) = 38 ∧ Tr 1 ((↑x.n : Int) = (↑x.n : Int))
 ∧ Tr 1 (x.r = x.r) ∧ (true = true ∧ NilNil ∧ (0 : Nat) = 0 ∧ (1 : Nat) = 1 ∧ (0 : Nat) = 0 ∧ (lC x).length = (lC x).length ∧ g.val.1 = g_1.val.1) ∧ (true = true
 ∧ NilNil ∧ (0 : Nat) = 0 ∧ (1 : Nat) = 1 ∧ (0 : Nat) = 0 ∧ (lE x).length = (lE x).length ∧ g.val.2.1 = g_1.val.2.1) ∧ (true = true ∧ NilNil ∧ (0 : Nat) = 0 ∧ (1
 : Nat) = 1 ∧ (0 : Nat) = 0 ∧ (lC x).length = (lC x).length ∧ g.val.1 = g_1.val.1) ∧ (true = true ∧ NilNil ∧ (0 : Nat) = 0 ∧ (1 : Nat) = 1 ∧ (0 : Nat) = 0 ∧ (lC
 x).length = (lC x).length ∧ g.val.1 = g_1.val.1) ∧ True) ∧ ((3 : TypeId) = 3 ∧ (1 : Nat) = 1 ∧ g.val.1 = g_1.val.1 ∧ (lC x).length ≤ (lC x).length ∧ ∀ (i :
 Nat), i < (lC x).length → [AV.int .i64 ((lC x).getD i 0)] = [AV.int .i64 ((lC x).getD i 0)]) ∧ ((3 : TypeId) = 3 ∧ (1 : Nat) = 1 ∧ g.val.2.1 = g_1.val.2.1 ∧ (lE
 x).length ≤ (lE x).length ∧ ∀ (i : Nat), i < (lE x).length → [AV.int .i64 ((lE x).getD i 0)] = [AV.int .i64 ((lE x).getD i 0)]) ∧ True) ∧ I64 ((↑t.1 : Int) + 1)
 ∧ Exx (Nat × Nat) fun t' => (I t' ∧ m t' < m t) ∧ ((true = true ∧ NilNil ∧ (0 : Nat) = 0) ∧ Tr 2 ((true = true ∧ NilNil ∧ (0 : Nat) = 0 ∧ (1 : Nat) = 1 ∧ (0 :
 Nat) = 0 ∧ (freeP x t.1).length = (freeP x t'.fst).length ∧ t.2 = t'.snd) ∧ Tr 1 ((↑t.1 : Int) + 1 = (↑t'.fst : Int)) ∧ Tr 47 True)) ∧ refB x = refB x ∧ true =
 true ∧ ((3 : TypeId) = 3 ∧ (1 : Nat) = 1 ∧ t.2 = t'.snd ∧ (freeP x t'.fst).length ≤ (freeP x t.1).length ∧ ∀ (i : Nat), i < (freeP x t'.fst).length → [AV.int
 .i64 ((freeP x t.1).getD i 0)] = [AV.int .i64 ((freeP x t'.fst).getD i 0)]) ∧ True)) (Exx Unit fun y => Exx (Subtype (RCap x false true true)) fun g_1 => Tr 1
 (((38 : TypeId) = 38 ∧ Tr 1 ((↑x.n : Int) = (↑x.n : Int)) ∧ Tr 1 (x.r = x.r) ∧ (true = true ∧ NilNil ∧ (0 : Nat) = 0 ∧ (1 : Nat) = 1 ∧ (0 : Nat) = 0 ∧ (lC
 x).length = (lC x).length ∧ g.val.1 = g_1.val.1) ∧ (true = true ∧ NilNil ∧ (0 : Nat) = 0 ∧ (1 : Nat) = 1 ∧ (0 : Nat) = 0 ∧ (lE x).length = (lE x).length ∧
 g.val.2.1 = g_1.val.2.1) ∧ (true = true ∧ NilNil ∧ (0 : Nat) = 0 ∧ (1 : Nat) = 1 ∧ (0 : Nat) = 0 ∧ (lC x).length = (lC x).length ∧ g.val.1 = g_1.val.1) ∧ (true
 = true ∧ NilNil ∧ (0 : Nat) = 0 ∧ (1 : Nat) = 1 ∧ (0 : Nat) = 0 ∧ (lC x).length = (lC x).length ∧ g.val.1 = g_1.val.1) ∧ True) ∧ ((3 : TypeId) = 3 ∧ (1 : Nat) =
 1 ∧ g.val.1 = g_1.val.1 ∧ (lC x).length ≤ (lC x).length ∧ ∀ (i : Nat), i < (lC x).length → [AV.int .i64 ((lC x).getD i 0)] = [AV.int .i64 ((lC x).getD i 0)]) ∧
 ((3 : TypeId) = 3 ∧ (1 : Nat) = 1 ∧ g.val.2.1 = g_1.val.2.1 ∧ (lE x).length ≤ (lE x).length ∧ ∀ (i : Nat), i < (lE x).length → [AV.int .i64 ((lE x).getD i 0)] =
 [AV.int .i64 ((lE x).getD i 0)]) ∧ True) ∧ I64 ((↑t.1 : Int) + 1) ∧ Exx (Nat × Nat) fun t' => (I t' ∧ m t' < m t) ∧ ((true = true ∧ NilNil ∧ (0 : Nat) = 0) ∧ Tr
 2 ((true = true ∧ NilNil ∧ (0 : Nat) = 0 ∧ (1 : Nat) = 1 ∧ (0 : Nat) = 0 ∧ (freeP x t.1).length = (freeP x t'.fst).length ∧ t.2 = t'.snd) ∧ Tr 1 ((↑t.1 : Int) +
 1 = (↑t'.fst : Int)) ∧ Tr 47 True)) ∧ refB x = refB x ∧ true = true ∧ ((3 : TypeId) = 3 ∧ (1 : Nat) = 1 ∧ t.2 = t'.snd ∧ (freeP x t'.fst).length ≤ (freeP x
 t.1).length ∧ ∀ (i : Nat), i < (freeP x t'.fst).length → [AV.int .i64 ((freeP x t.1).getD i 0)] = [AV.int .i64 ((freeP x t'.fst).getD i 0)]) ∧ True)) ∧ (∀ (g :
 Subtype (RCap x false true false)), Exx (List Int × Int) fun x_1 => (((0 + (lC x).length ≤ (lC x).length ∧ (lC x).length = x_1.1.length ∧ ∀ (i : Nat), i <
 x_1.1.length → [AV.int .i64 ((lC x).getD (0 + i) 0)] = [AV.int .i64 (x_1.1.getD i 0)]) ∧ Tr 1 ((↑t.1 : Int) = x_1.2) ∧ True) ∧ true = true ∧ True) ∧ (IntL x_1.1
 ∧ I64 x_1.2) ∧ ∀ (y : Unit), True → BC (!decide (x_1.2 ∈ x_1.1)) (Exx (List Int × Int) fun x_2 => (((0 + (lE x).length ≤ (lE x).length ∧ (lE x).length =
 x_2.1.length ∧ ∀ (i : Nat), i < x_2.1.length → [AV.int .i64 ((lE x).getD (0 + i) 0)] = [AV.int .i64 (x_2.1.getD i 0)]) ∧ Tr 1 ((↑t.1 : Int) = x_2.2) ∧ True) ∧
 true = true ∧ True) ∧ (IntL x_2.1 ∧ I64 x_2.2) ∧ ∀ (y : Unit), True → BC (!decide (x_2.2 ∈ x_2.1)) (Exx (List Int × Int) fun x_3 => (((0 + (lC x).length ≤ (lC
 x).length ∧ (lC x).length = x_3.1.length ∧ ∀ (i : Nat), i < x_3.1.length → [AV.int .i64 ((lC x).getD (0 + i) 0)] = [AV.int .i64 (x_3.1.getD i 0)]) ∧ Tr 1 ((↑t.1
 : Int) = x_3.2) ∧ True) ∧ true = true ∧ True) ∧ (IntL x_3.1 ∧ I64 x_3.2) ∧ ∀ (y : Unit), True → BC (!decide (x_3.2 ∈ x_3.1)) (Exx (List Int × Int) fun x_4 =>
 (((0 + (lW x).length ≤ (lW x).length ∧ (lW x).length = x_4.1.length ∧ ∀ (i : Nat), i < x_4.1.length → [AV.int .i64 ((lW x).getD (0 + i) 0)] = [AV.int .i64
 (x_4.1.getD i 0)]) ∧ Tr 1 ((↑t.1 : Int) = x_4.2) ∧ True) ∧ true = true ∧ True) ∧ (IntL x_4.1 ∧ I64 x_4.2) ∧ ∀ (y : Unit), True → BC (!decide (x_4.2 ∈ x_4.1))
 (Exx Unit fun y => Exx (Subtype (RCap x false true false)) fun g_1 => Tr 1 (((38 : TypeId) = 38 ∧ Tr 1 ((↑x.n : Int) = (↑x.n : Int)) ∧ Tr 1 (x.r = x.r) ∧ (true
 = true ∧ NilNil ∧ (0 : Nat) = 0 ∧ (1 : Nat) = 1 ∧ (0 : Nat) = 0 ∧ (lC x).length = (lC x).length ∧ g.val.1 = g_1.val.1) ∧ (true = true ∧ NilNil ∧ (0 : Nat) = 0 ∧
 (1 : Nat) = 1 ∧ (0 : Nat) = 0 ∧ (lE x).length = (lE x).length ∧ g.val.2.1 = g_1.val.2.1) ∧ (true = true ∧ NilNil ∧ (0 : Nat) = 0 ∧ (1 : Nat) = 1 ∧ (0 : Nat) = 0
 ∧ (lC x).length = (lC x).length ∧ g.val.1 = g_1.val.1) ∧ (true = true ∧ NilNil ∧ (0 : Nat) = 0 ∧ (1 : Nat) = 1 ∧ (0 : Nat) = 0 ∧ (lW x).length = (lW x).length ∧
 g.val.2.2.2 = g_1.val.2.2.2) ∧ True) ∧ ((3 : TypeId) = 3 ∧ (1 : Nat) = 1 ∧ g.val.1 = g_1.val.1 ∧ (lC x).length ≤ (lC x).length ∧ ∀ (i : Nat), i < (lC x).length
 → [AV.int .i64 ((lC x).getD i 0)] = [AV.int .i64 ((lC x).getD i 0)]) ∧ ((3 : TypeId) = 3 ∧ (1 : Nat) = 1 ∧ g.val.2.1 = g_1.val.2.1 ∧ (lE x).length ≤ (lE
 x).length ∧ ∀ (i : Nat), i < (lE x).length → [AV.int .i64 ((lE x).getD i 0)] = [AV.int .i64 ((lE x).getD i 0)]) ∧ ((3 : TypeId) = 3 ∧ (1 : Nat) = 1 ∧
 g.val.2.2.2 = g_1.val.2.2.2 ∧ (lW x).length ≤ (lW x).length ∧ ∀ (i : Nat), i < (lW x).length → [AV.int .i64 ((lW x).getD i 0)] = [AV.int .i64 ((lW x).getD i
 0)]) ∧ True) ∧ (0 : Nat) + (1 : Nat) ≤ (1 : Nat) ∧ true = true ∧ ((freeP x t.1).length ≤ (freeP x t.1).length ∧ t.2 = t.2) ∧ ((freeP x t.1).length + 1 ≤
 9223372036854775807 ∧ ((freeP x t.1).length + 1) * 8 ≤ 140737488355328) ∧ ∀ (cap : Nat), (freeP x t.1).length + 1 ≤ cap ∧ cap ≤ 9223372036854775807 → Exx Unit
 fun y => I64 ((↑t.1 : Int) + 1) ∧ Exx (Nat × Nat) fun t' => (I t' ∧ m t' < m t) ∧ ((true = true ∧ NilNil ∧ (0 : Nat) = 0) ∧ Tr 2 ((true = true ∧ NilNil ∧ (0 :
 Nat) = 0 ∧ (1 : Nat) = 1 ∧ (0 : Nat) = 0 ∧ (freeP x t.1).length + 1 = (freeP x t'.fst).length ∧ cap = t'.snd) ∧ Tr 1 ((↑t.1 : Int) + 1 = (↑t'.fst : Int)) ∧ Tr
 47 True)) ∧ refB x = refB x ∧ true = true ∧ ((3 : TypeId) = 3 ∧ (1 : Nat) = 1 ∧ cap = t'.snd ∧ (freeP x t'.fst).length ≤ (freeP x t.1).length + 1 ∧ ∀ (i : Nat),
 i < (freeP x t'.fst).length → (if i < (freeP x t.1).length then [AV.int .i64 ((freeP x t.1).getD i 0)] else [AV.int .i64 (if 0 + (i - (freeP x t.1).length) = 0
 * 1 / 1 then (↑t.1 : Int) else 0)]) = [AV.int .i64 ((freeP x t'.fst).getD i 0)]) ∧ True) (Exx Unit fun y => Exx (Subtype (RCap x false true false)) fun g_1 =>
 Tr 1 (((38 : TypeId) = 38 ∧ Tr 1 ((↑x.n : Int) = (↑x.n : Int)) ∧ Tr 1 (x.r = x.r) ∧ (true = true ∧ NilNil ∧ (0 : Nat) = 0 ∧ (1 : Nat) = 1 ∧ (0 : Nat) = 0 ∧ (lC
 x).length = (lC x).length ∧ g.val.1 = g_1.val.1) ∧ (true = true ∧ NilNil ∧ (0 : Nat) = 0 ∧ (1 : Nat) = 1 ∧ (0 : Nat) = 0 ∧ (lE x).length = (lE x).length ∧
 g.val.2.1 = g_1.val.2.1) ∧ (true = true ∧ NilNil ∧ (0 : Nat) = 0 ∧ (1 : Nat) = 1 ∧ (0 : Nat) = 0 ∧ (lC x).length = (lC x).length ∧ g.val.1 = g_1.val.1) ∧ (true
 = true ∧ NilNil ∧ (0 : Nat) = 0 ∧ (1 : Nat) = 1 ∧ (0 : Nat) = 0 ∧ (lW x).length = (lW x).length ∧ g.val.2.2.2 = g_1.val.2.2.2) ∧ True) ∧ ((3 : TypeId) = 3 ∧ (1
 : Nat) = 1 ∧ g.val.1 = g_1.val.1 ∧ (lC x).length ≤ (lC x).length ∧ ∀ (i : Nat), i < (lC x).length → [AV.int .i64 ((lC x).getD i 0)] = [AV.int .i64 ((lC x).getD
 i 0)]) ∧ ((3 : TypeId) = 3 ∧ (1 : Nat) = 1 ∧ g.val.2.1 = g_1.val.2.1 ∧ (lE x).length ≤ (lE x).length ∧ ∀ (i : Nat), i < (lE x).length → [AV.int .i64 ((lE
 x).getD i 0)] = [AV.int .i64 ((lE x).getD i 0)]) ∧ ((3 : TypeId) = 3 ∧ (1 : Nat) = 1 ∧ g.val.2.2.2 = g_1.val.2.2.2 ∧ (lW x).length ≤ (lW x).length ∧ ∀ (i :
 Nat), i < (lW x).length → [AV.int .i64 ((lW x).getD i 0)] = [AV.int .i64 ((lW x).getD i 0)]) ∧ True) ∧ I64 ((↑t.1 : Int) + 1) ∧ Exx (Nat × Nat) fun t' => (I t'
 ∧ m t' < m t) ∧ ((true = true ∧ NilNil ∧ (0 : Nat) = 0) ∧ Tr 2 ((true = true ∧ NilNil ∧ (0 : Nat) = 0 ∧ (1 : Nat) = 1 ∧ (0 : Nat) = 0 ∧ (freeP x t.1).length =
 (freeP x t'.fst).length ∧ t.2 = t'.snd) ∧ Tr 1 ((↑t.1 : Int) + 1 = (↑t'.fst : Int)) ∧ Tr 47 True)) ∧ refB x = refB x ∧ true = true ∧ ((3 : TypeId) = 3 ∧ (1 :
 Nat) = 1 ∧ t.2 = t'.snd ∧ (freeP x t'.fst).length ≤ (freeP x t.1).length ∧ ∀ (i : Nat), i < (freeP x t'.fst).length → [AV.int .i64 ((freeP x t.1).getD i 0)] =
 [AV.int .i64 ((freeP x t'.fst).getD i 0)]) ∧ True)) (Exx Unit fun y => Exx (Subtype (RCap x false true false)) fun g_1 => Tr 1 (((38 : TypeId) = 38 ∧ Tr 1
 ((↑x.n : Int) = (↑x.n : Int)) ∧ Tr 1 (x.r = x.r) ∧ (true = true ∧ NilNil ∧ (0 : Nat) = 0 ∧ (1 : Nat) = 1 ∧ (0 : Nat) = 0 ∧ (lC x).length = (lC x).length ∧
 g.val.1 = g_1.val.1) ∧ (true = true ∧ NilNil ∧ (0 : Nat) = 0 ∧ (1 : Nat) = 1 ∧ (0 : Nat) = 0 ∧ (lE x).length = (lE x).length ∧ g.val.2.1 = g_1.val.2.1) ∧ (true
 = true ∧ NilNil ∧ (0 : Nat) = 0 ∧ (1 : Nat) = 1 ∧ (0 : Nat) = 0 ∧ (lC x).length = (lC x).length ∧ g.val.1 = g_1.val.1) ∧ (true = true ∧ NilNil ∧ (0 : Nat) = 0 ∧
 (1 : Nat) = 1 ∧ (0 : Nat) = 0 ∧ (lW x).length = (lW x).length ∧ g.val.2.2.2 = g_1.val.2.2.2) ∧ True) ∧ ((3 : TypeId) = 3 ∧ (1 : Nat) = 1 ∧ g.val.1 = g_1.val.1 ∧
 (lC x).length ≤ (lC x).length ∧ ∀ (i : Nat), i < (lC x).length → [AV.int .i64 ((lC x).getD i 0)] = [AV.int .i64 ((lC x).getD i 0)]) ∧ ((3 : TypeId) = 3 ∧ (1 :
 Nat) = 1 ∧ g.val.2.1 = g_1.val.2.1 ∧ (lE x).length ≤ (lE x).length ∧ ∀ (i : Nat), i < (lE x).length → [AV.int .i64 ((lE x).getD i 0)] = [AV.int .i64 ((lE
 x).getD i 0)]) ∧ ((3 : TypeId) = 3 ∧ (1 : Nat) = 1 ∧ g.val.2.2.2 = g_1.val.2.2.2 ∧ (lW x).length ≤ (lW x).length ∧ ∀ (i : Nat), i < (lW x).length → [AV.int .i64
 ((lW x).getD i 0)] = [AV.int .i64 ((lW x).getD i 0)]) ∧ True) ∧ I64 ((↑t.1 : Int) + 1) ∧ Exx (Nat × Nat) fun t' => (I t' ∧ m t' < m t) ∧ ((true = true ∧ NilNil
 ∧ (0 : Nat) = 0) ∧ Tr 2 ((true = true ∧ NilNil ∧ (0 : Nat) = 0 ∧ (1 : Nat) = 1 ∧ (0 : Nat) = 0 ∧ (freeP x t.1).length = (freeP x t'.fst).length ∧ t.2 = t'.snd)
 ∧ Tr 1 ((↑t.1 : Int) + 1 = (↑t'.fst : Int)) ∧ Tr 47 True)) ∧ refB x = refB x ∧ true = true ∧ ((3 : TypeId) = 3 ∧ (1 : Nat) = 1 ∧ t.2 = t'.snd ∧ (freeP x
 t'.fst).length ≤ (freeP x t.1).length ∧ ∀ (i : Nat), i < (freeP x t'.fst).length → [AV.int .i64 ((freeP x t.1).getD i 0)] = [AV.int .i64 ((freeP x t'.fst).getD
 i 0)]) ∧ True)) (Exx Unit fun y => Exx (Subtype (RCap x false true false)) fun g_1 => Tr 1 (((38 : TypeId) = 38 ∧ Tr 1 ((↑x.n : Int) = (↑x.n : Int)) ∧ Tr 1 (x.r
 = x.r) ∧ (true = true ∧ NilNil ∧ (0 : Nat) = 0 ∧ (1 : Nat) = 1 ∧ (0 : Nat) = 0 ∧ (lC x).length = (lC x).length ∧ g.val.1 = g_1.val.1) ∧ (true = true ∧ NilNil ∧
 (0 : Nat) = 0 ∧ (1 : Nat) = 1 ∧ (0 : Nat) = 0 ∧ (lE x).length = (lE x).length ∧ g.val.2.1 = g_1.val.2.1) ∧ (true = true ∧ NilNil ∧ (0 : Nat) = 0 ∧ (1 : Nat) = 1
 ∧ (0 : Nat) = 0 ∧ (lC x).length = (lC x).length ∧ g.val.1 = g_1.val.1) ∧ (true = true ∧ NilNil ∧ (0 : Nat) = 0 ∧ (1 : Nat) = 1 ∧ (0 : Nat) = 0 ∧ (lW x).length =
 (lW x).length ∧ g.val.2.2.2 = g_1.val.2.2.2) ∧ True) ∧ ((3 : TypeId) = 3 ∧ (1 : Nat) = 1 ∧ g.val.1 = g_1.val.1 ∧ (lC x).length ≤ (lC x).length ∧ ∀ (i : Nat), i
 < (lC x).length → [AV.int .i64 ((lC x).getD i 0)] = [AV.int .i64 ((lC x).getD i 0)]) ∧ ((3 : TypeId) = 3 ∧ (1 : Nat) = 1 ∧ g.val.2.1 = g_1.val.2.1 ∧ (lE
 x).length ≤ (lE x).length ∧ ∀ (i : Nat), i < (lE x).length → [AV.int .i64 ((lE x).getD i 0)] = [AV.int .i64 ((lE x).getD i 0)]) ∧ ((3 : TypeId) = 3 ∧ (1 : Nat)
 = 1 ∧ g.val.2.2.2 = g_1.val.2.2.2 ∧ (lW x).length ≤ (lW x).length ∧ ∀ (i : Nat), i < (lW x).length → [AV.int .i64 ((lW x).getD i 0)] = [AV.int .i64 ((lW x).getD
 i 0)]) ∧ True) ∧ I64 ((↑t.1 : Int) + 1) ∧ Exx (Nat × Nat) fun t' => (I t' ∧ m t' < m t) ∧ ((true = true ∧ NilNil ∧ (0 : Nat) = 0) ∧ Tr 2 ((true = true ∧ NilNil
 ∧ (0 : Nat) = 0 ∧ (1 : Nat) = 1 ∧ (0 : Nat) = 0 ∧ (freeP x t.1).length = (freeP x t'.fst).length ∧ t.2 = t'.snd) ∧ Tr 1 ((↑t.1 : Int) + 1 = (↑t'.fst : Int)) ∧
 Tr 47 True)) ∧ refB x = refB x ∧ true = true ∧ ((3 : TypeId) = 3 ∧ (1 : Nat) = 1 ∧ t.2 = t'.snd ∧ (freeP x t'.fst).length ≤ (freeP x t.1).length ∧ ∀ (i : Nat),
 i < (freeP x t'.fst).length → [AV.int .i64 ((freeP x t.1).getD i 0)] = [AV.int .i64 ((freeP x t'.fst).getD i 0)]) ∧ True)) (Exx Unit fun y => Exx (Subtype (RCap
 x false true false)) fun g_1 => Tr 1 (((38 : TypeId) = 38 ∧ Tr 1 ((↑x.n : Int) = (↑x.n : Int)) ∧ Tr 1 (x.r = x.r) ∧ (true = true ∧ NilNil ∧ (0 : Nat) = 0 ∧ (1 :
 Nat) = 1 ∧ (0 : Nat) = 0 ∧ (lC x).length = (lC x).length ∧ g.val.1 = g_1.val.1) ∧ (true = true ∧ NilNil ∧ (0 : Nat) = 0 ∧ (1 : Nat) = 1 ∧ (0 : Nat) = 0 ∧ (lE
 x).length = (lE x).length ∧ g.val.2.1 = g_1.val.2.1) ∧ (true = true ∧ NilNil ∧ (0 : Nat) = 0 ∧ (1 : Nat) = 1 ∧ (0 : Nat) = 0 ∧ (lC x).length = (lC x).length ∧
 g.val.1 = g_1.val.1) ∧ (true = true ∧ NilNil ∧ (0 : Nat) = 0 ∧ (1 : Nat) = 1 ∧ (0 : Nat) = 0 ∧ (lW x).length = (lW x).length ∧ g.val.2.2.2 = g_1.val.2.2.2) ∧
 True) ∧ ((3 : TypeId) = 3 ∧ (1 : Nat) = 1 ∧ g.val.1 = g_1.val.1 ∧ (lC x).length ≤ (lC x).length ∧ ∀ (i : Nat), i < (lC x).length → [AV.int .i64 ((lC x).getD i
 0)] = [AV.int .i64 ((lC x).getD i 0)]) ∧ ((3 : TypeId) = 3 ∧ (1 : Nat) = 1 ∧ g.val.2.1 = g_1.val.2.1 ∧ (lE x).length ≤ (lE x).length ∧ ∀ (i : Nat), i < (lE
 x).length → [AV.int .i64 ((lE x).getD i 0)] = [AV.int .i64 ((lE x).getD i 0)]) ∧ ((3 : TypeId) = 3 ∧ (1 : Nat) = 1 ∧ g.val.2.2.2 = g_1.val.2.2.2 ∧ (lW x).length
 ≤ (lW x).length ∧ ∀ (i : Nat), i < (lW x).length → [AV.int .i64 ((lW x).getD i 0)] = [AV.int .i64 ((lW x).getD i 0)]) ∧ True) ∧ I64 ((↑t.1 : Int) + 1) ∧ Exx
 (Nat × Nat) fun t' => (I t' ∧ m t' < m t) ∧ ((true = true ∧ NilNil ∧ (0 : Nat) = 0) ∧ Tr 2 ((true = true ∧ NilNil ∧ (0 : Nat) = 0 ∧ (1 : Nat) = 1 ∧ (0 : Nat) =
 0 ∧ (freeP x t.1).length = (freeP x t'.fst).length ∧ t.2 = t'.snd) ∧ Tr 1 ((↑t.1 : Int) + 1 = (↑t'.fst : Int)) ∧ Tr 47 True)) ∧ refB x = refB x ∧ true = true ∧
 ((3 : TypeId) = 3 ∧ (1 : Nat) = 1 ∧ t.2 = t'.snd ∧ (freeP x t'.fst).length ≤ (freeP x t.1).length ∧ ∀ (i : Nat), i < (freeP x t'.fst).length → [AV.int .i64
 ((freeP x t.1).getD i 0)] = [AV.int .i64 ((freeP x t'.fst).getD i 0)]) ∧ True)) ∧ (∀ (g : Subtype (RCap x false false true)), Exx (List Int × Int) fun x_1 =>
 (((0 + (lC x).length ≤ (lC x).length ∧ (lC x).length = x_1.1.length ∧ ∀ (i : Nat), i < x_1.1.length → [AV.int .i64 ((lC x).getD (0 + i) 0)] = [AV.int .i64
 (x_1.1.getD i 0)]) ∧ Tr 1 ((↑t.1 : Int) = x_1.2) ∧ True) ∧ true = true ∧ True) ∧ (IntL x_1.1 ∧ I64 x_1.2) ∧ ∀ (y : Unit), True → BC (!decide (x_1.2 ∈ x_1.1))
 (Exx (List Int × Int) fun x_2 => (((0 + (lE x).length ≤ (lE x).length ∧ (lE x).length = x_2.1.length ∧ ∀ (i : Nat), i < x_2.1.length → [AV.int .i64 ((lE x).getD
 (0 + i) 0)] = [AV.int .i64 (x_2.1.getD i 0)]) ∧ Tr 1 ((↑t.1 : Int) = x_2.2) ∧ True) ∧ true = true ∧ True) ∧ (IntL x_2.1 ∧ I64 x_2.2) ∧ ∀ (y : Unit), True → BC
 (!decide (x_2.2 ∈ x_2.1)) (Exx (List Int × Int) fun x_3 => (((0 + (lM x).length ≤ (lM x).length ∧ (lM x).length = x_3.1.length ∧ ∀ (i : Nat), i < x_3.1.length →
 [AV.int .i64 ((lM x).getD (0 + i) 0)] = [AV.int .i64 (x_3.1.getD i 0)]) ∧ Tr 1 ((↑t.1 : Int) = x_3.2) ∧ True) ∧ true = true ∧ True) ∧ (IntL x_3.1 ∧ I64 x_3.2) ∧
 ∀ (y : Unit), True → BC (!decide (x_3.2 ∈ x_3.1)) (Exx (List Int × Int) fun x_4 => (((0 + (lM x).length ≤ (lM x).length ∧ (lM x).length = x_4.1.length ∧ ∀ (i :
 Nat), i < x_4.1.length → [AV.int .i64 ((lM x).getD (0 + i) 0)] = [AV.int .i64 (x_4.1.getD i 0)]) ∧ Tr 1 ((↑t.1 : Int) = x_4.2) ∧ True) ∧ true = true ∧ True) ∧
 (IntL x_4.1 ∧ I64 x_4.2) ∧ ∀ (y : Unit), True → BC (!decide (x_4.2 ∈ x_4.1)) (Exx Unit fun y => Exx (Subtype (RCap x false false true)) fun g_1 => Tr 1 (((38 :
 TypeId) = 38 ∧ Tr 1 ((↑x.n : Int) = (↑x.n : Int)) ∧ Tr 1 (x.r = x.r) ∧ (true = true ∧ NilNil ∧ (0 : Nat) = 0 ∧ (1 : Nat) = 1 ∧ (0 : Nat) = 0 ∧ (lC x).length =
 (lC x).length ∧ g.val.1 = g_1.val.1) ∧ (true = true ∧ NilNil ∧ (0 : Nat) = 0 ∧ (1 : Nat) = 1 ∧ (0 : Nat) = 0 ∧ (lE x).length = (lE x).length ∧ g.val.2.1 =
 g_1.val.2.1) ∧ (true = true ∧ NilNil ∧ (0 : Nat) = 0 ∧ (1 : Nat) = 1 ∧ (0 : Nat) = 0 ∧ (lM x).length = (lM x).length ∧ g.val.2.2.1 = g_1.val.2.2.1) ∧ (true =
 true ∧ NilNil ∧ (0 : Nat) = 0 ∧ (1 : Nat) = 1 ∧ (0 : Nat) = 0 ∧ (lM x).length = (lM x).length ∧ g.val.2.2.1 = g_1.val.2.2.1) ∧ True) ∧ ((3 : TypeId) = 3 ∧ (1 :
 Nat) = 1 ∧ g.val.1 = g_1.val.1 ∧ (lC x).length ≤ (lC x).length ∧ ∀ (i : Nat), i < (lC x).length → [AV.int .i64 ((lC x).getD i 0)] = [AV.int .i64 ((lC x).getD i
 0)]) ∧ ((3 : TypeId) = 3 ∧ (1 : Nat) = 1 ∧ g.val.2.1 = g_1.val.2.1 ∧ (lE x).length ≤ (lE x).length ∧ ∀ (i : Nat), i < (lE x).length → [AV.int .i64 ((lE x).getD
 i 0)] = [AV.int .i64 ((lE x).getD i 0)]) ∧ ((3 : TypeId) = 3 ∧ (1 : Nat) = 1 ∧ g.val.2.2.1 = g_1.val.2.2.1 ∧ (lM x).length ≤ (lM x).length ∧ ∀ (i : Nat), i <
 (lM x).length → [AV.int .i64 ((lM x).getD i 0)] = [AV.int .i64 ((lM x).getD i 0)]) ∧ True) ∧ (0 : Nat) + (1 : Nat) ≤ (1 : Nat) ∧ true = true ∧ ((freeP x
 t.1).length ≤ (freeP x t.1).length ∧ t.2 = t.2) ∧ ((freeP x t.1).length + 1 ≤ 9223372036854775807 ∧ ((freeP x t.1).length + 1) * 8 ≤ 140737488355328) ∧ ∀ (cap :
 Nat), (freeP x t.1).length + 1 ≤ cap ∧ cap ≤ 9223372036854775807 → Exx Unit fun y => I64 ((↑t.1 : Int) + 1) ∧ Exx (Nat × Nat) fun t' => (I t' ∧ m t' < m t) ∧
 ((true = true ∧ NilNil ∧ (0 : Nat) = 0) ∧ Tr 2 ((true = true ∧ NilNil ∧ (0 : Nat) = 0 ∧ (1 : Nat) = 1 ∧ (0 : Nat) = 0 ∧ (freeP x t.1).length + 1 = (freeP x
 t'.fst).length ∧ cap = t'.snd) ∧ Tr 1 ((↑t.1 : Int) + 1 = (↑t'.fst : Int)) ∧ Tr 47 True)) ∧ refB x = refB x ∧ true = true ∧ ((3 : TypeId) = 3 ∧ (1 : Nat) = 1 ∧
 cap = t'.snd ∧ (freeP x t'.fst).length ≤ (freeP x t.1).length + 1 ∧ ∀ (i : Nat), i < (freeP x t'.fst).length → (if i < (freeP x t.1).length then [AV.int .i64
 ((freeP x t.1).getD i 0)] else [AV.int .i64 (if 0 + (i - (freeP x t.1).length) = 0 * 1 / 1 then (↑t.1 : Int) else 0)]) = [AV.int .i64 ((freeP x t'.fst).getD i
 0)]) ∧ True) (Exx Unit fun y => Exx (Subtype (RCap x false false true)) fun g_1 => Tr 1 (((38 : TypeId) = 38 ∧ Tr 1 ((↑x.n : Int) = (↑x.n : Int)) ∧ Tr 1 (x.r =
 x.r) ∧ (true = true ∧ NilNil ∧ (0 : Nat) = 0 ∧ (1 : Nat) = 1 ∧ (0 : Nat) = 0 ∧ (lC x).length = (lC x).length ∧ g.val.1 = g_1.val.1) ∧ (true = true ∧ NilNil ∧ (0
 : Nat) = 0 ∧ (1 : Nat) = 1 ∧ (0 : Nat) = 0 ∧ (lE x).length = (lE x).length ∧ g.val.2.1 = g_1.val.2.1) ∧ (true = true ∧ NilNil ∧ (0 : Nat) = 0 ∧ (1 : Nat) = 1 ∧
 (0 : Nat) = 0 ∧ (lM x).length = (lM x).length ∧ g.val.2.2.1 = g_1.val.2.2.1) ∧ (true = true ∧ NilNil ∧ (0 : Nat) = 0 ∧ (1 : Nat) = 1 ∧ (0 : Nat) = 0 ∧ (lM
 x).length = (lM x).length ∧ g.val.2.2.1 = g_1.val.2.2.1) ∧ True) ∧ ((3 : TypeId) = 3 ∧ (1 : Nat) = 1 ∧ g.val.1 = g_1.val.1 ∧ (lC x).length ≤ (lC x).length ∧ ∀
 (i : Nat), i < (lC x).length → [AV.int .i64 ((lC x).getD i 0)] = [AV.int .i64 ((lC x).getD i 0)]) ∧ ((3 : TypeId) = 3 ∧ (1 : Nat) = 1 ∧ g.val.2.1 = g_1.val.2.1
 ∧ (lE x).length ≤ (lE x).length ∧ ∀ (i : Nat), i < (lE x).length → [AV.int .i64 ((lE x).getD i 0)] = [AV.int .i64 ((lE x).getD i 0)]) ∧ ((3 : TypeId) = 3 ∧ (1 :
 Nat) = 1 ∧ g.val.2.2.1 = g_1.val.2.2.1 ∧ (lM x).length ≤ (lM x).length ∧ ∀ (i : Nat), i < (lM x).length → [AV.int .i64 ((lM x).getD i 0)] = [AV.int .i64 ((lM
 x).getD i 0)]) ∧ True) ∧ I64 ((↑t.1 : Int) + 1) ∧ Exx (Nat × Nat) fun t' => (I t' ∧ m t' < m t) ∧ ((true = true ∧ NilNil ∧ (0 : Nat) = 0) ∧ Tr 2 ((true = true ∧
 NilNil ∧ (0 : Nat) = 0 ∧ (1 : Nat) = 1 ∧ (0 : Nat) = 0 ∧ (freeP x t.1).length = (freeP x t'.fst).length ∧ t.2 = t'.snd) ∧ Tr 1 ((↑t.1 : Int) + 1 = (↑t'.fst :
 Int)) ∧ Tr 47 True)) ∧ refB x = refB x ∧ true = true ∧ ((3 : TypeId) = 3 ∧ (1 : Nat) = 1 ∧ t.2 = t'.snd ∧ (freeP x t'.fst).length ≤ (freeP x t.1).length ∧ ∀ (i
 : Nat), i < (freeP x t'.fst).length → [AV.int .i64 ((freeP x t.1).getD i 0)] = [AV.int .i64 ((freeP x t'.fst).getD i 0)]) ∧ True)) (Exx Unit fun y => Exx
 (Subtype (RCap x false false true)) fun g_1 => Tr 1 (((38 : TypeId) = 38 ∧ Tr 1 ((↑x.n : Int) = (↑x.n : Int)) ∧ Tr 1 (x.r = x.r) ∧ (true = true ∧ NilNil ∧ (0 :
 Nat) = 0 ∧ (1 : Nat) = 1 ∧ (0 : Nat) = 0 ∧ (lC x).length = (lC x).length ∧ g.val.1 = g_1.val.1) ∧ (true = true ∧ NilNil ∧ (0 : Nat) = 0 ∧ (1 : Nat) = 1 ∧ (0 :
 Nat) = 0 ∧ (lE x).length = (lE x).length ∧ g.val.2.1 = g_1.val.2.1) ∧ (true = true ∧ NilNil ∧ (0 : Nat) = 0 ∧ (1 : Nat) = 1 ∧ (0 : Nat) = 0 ∧ (lM x).length =
 (lM x).length ∧ g.val.2.2.1 = g_1.val.2.2.1) ∧ (true = true ∧ NilNil ∧ (0 : Nat) = 0 ∧ (1 : Nat) = 1 ∧ (0 : Nat) = 0 ∧ (lM x).length = (lM x).length ∧
 g.val.2.2.1 = g_1.val.2.2.1) ∧ True) ∧ ((3 : TypeId) = 3 ∧ (1 : Nat) = 1 ∧ g.val.1 = g_1.val.1 ∧ (lC x).length ≤ (lC x).length ∧ ∀ (i : Nat), i < (lC x).length
 → [AV.int .i64 ((lC x).getD i 0)] = [AV.int .i64 ((lC x).getD i 0)]) ∧ ((3 : TypeId) = 3 ∧ (1 : Nat) = 1 ∧ g.val.2.1 = g_1.val.2.1 ∧ (lE x).length ≤ (lE
 x).length ∧ ∀ (i : Nat), i < (lE x).length → [AV.int .i64 ((lE x).getD i 0)] = [AV.int .i64 ((lE x).getD i 0)]) ∧ ((3 : TypeId) = 3 ∧ (1 : Nat) = 1 ∧
 g.val.2.2.1 = g_1.val.2.2.1 ∧ (lM x).length ≤ (lM x).length ∧ ∀ (i : Nat), i < (lM x).length → [AV.int .i64 ((lM x).getD i 0)] = [AV.int .i64 ((lM x).getD i
 0)]) ∧ True) ∧ I64 ((↑t.1 : Int) + 1) ∧ Exx (Nat × Nat) fun t' => (I t' ∧ m t' < m t) ∧ ((true = true ∧ NilNil ∧ (0 : Nat) = 0) ∧ Tr 2 ((true = true ∧ NilNil ∧
 (0 : Nat) = 0 ∧ (1 : Nat) = 1 ∧ (0 : Nat) = 0 ∧ (freeP x t.1).length = (freeP x t'.fst).length ∧ t.2 = t'.snd) ∧ Tr 1 ((↑t.1 : Int) + 1 = (↑t'.fst : Int)) ∧ Tr
 47 True)) ∧ refB x = refB x ∧ true = true ∧ ((3 : TypeId) = 3 ∧ (1 : Nat) = 1 ∧ t.2 = t'.snd ∧ (freeP x t'.fst).length ≤ (freeP x t.1).length ∧ ∀ (i : Nat), i <
 (freeP x t'.fst).length → [AV.int .i64 ((freeP x t.1).getD i 0)] = [AV.int .i64 ((freeP x t'.fst).getD i 0)]) ∧ True)) (Exx Unit fun y => Exx (Subtype (RCap x
 false false true)) fun g_1 => Tr 1 (((38 : TypeId) = 38 ∧ Tr 1 ((↑x.n : Int) = (↑x.n : Int)) ∧ Tr 1 (x.r = x.r) ∧ (true = true ∧ NilNil ∧ (0 : Nat) = 0 ∧ (1 :
 Nat) = 1 ∧ (0 : Nat) = 0 ∧ (lC x).length = (lC x).length ∧ g.val.1 = g_1.val.1) ∧ (true = true ∧ NilNil ∧ (0 : Nat) = 0 ∧ (1 : Nat) = 1 ∧ (0 : Nat) = 0 ∧ (lE
 x).length = (lE x).length ∧ g.val.2.1 = g_1.val.2.1) ∧ (true = true ∧ NilNil ∧ (0 : Nat) = 0 ∧ (1 : Nat) = 1 ∧ (0 : Nat) = 0 ∧ (lM x).length = (lM x).length ∧
 g.val.2.2.1 = g_1.val.2.2.1) ∧ (true = true ∧ NilNil ∧ (0 : Nat) = 0 ∧ (1 : Nat) = 1 ∧ (0 : Nat) = 0 ∧ (lM x).length = (lM x).length ∧ g.val.2.2.1 =
 g_1.val.2.2.1) ∧ True) ∧ ((3 : TypeId) = 3 ∧ (1 : Nat) = 1 ∧ g.val.1 = g_1.val.1 ∧ (lC x).length ≤ (lC x).length ∧ ∀ (i : Nat), i < (lC x).length → [AV.int .i64
 ((lC x).getD i 0)] = [AV.int .i64 ((lC x).getD i 0)]) ∧ ((3 : TypeId) = 3 ∧ (1 : Nat) = 1 ∧ g.val.2.1 = g_1.val.2.1 ∧ (lE x).length ≤ (lE x).length ∧ ∀ (i :
 Nat), i < (lE x).length → [AV.int .i64 ((lE x).getD i 0)] = [AV.int .i64 ((lE x).getD i 0)]) ∧ ((3 : TypeId) = 3 ∧ (1 : Nat) = 1 ∧ g.val.2.2.1 = g_1.val.2.2.1 ∧
 (lM x).length ≤ (lM x).length ∧ ∀ (i : Nat), i < (lM x).length → [AV.int .i64 ((lM x).getD i 0)] = [AV.int .i64 ((lM x).getD i 0)]) ∧ True) ∧ I64 ((↑t.1 : Int)
 + 1) ∧ Exx (Nat × Nat) fun t' => (I t' ∧ m t' < m t) ∧ ((true = true ∧ NilNil ∧ (0 : Nat) = 0) ∧ Tr 2 ((true = true ∧ NilNil ∧ (0 : Nat) = 0 ∧ (1 : Nat) = 1 ∧
 (0 : Nat) = 0 ∧ (freeP x t.1).length = (freeP x t'.fst).length ∧ t.2 = t'.snd) ∧ Tr 1 ((↑t.1 : Int) + 1 = (↑t'.fst : Int)) ∧ Tr 47 True)) ∧ refB x = refB x ∧
 true = true ∧ ((3 : TypeId) = 3 ∧ (1 : Nat) = 1 ∧ t.2 = t'.snd ∧ (freeP x t'.fst).length ≤ (freeP x t.1).length ∧ ∀ (i : Nat), i < (freeP x t'.fst).length →
 [AV.int .i64 ((freeP x t.1).getD i 0)] = [AV.int .i64 ((freeP x t'.fst).getD i 0)]) ∧ True)) (Exx Unit fun y => Exx (Subtype (RCap x false false true)) fun g_1
 => Tr 1 (((38 : TypeId) = 38 ∧ Tr 1 ((↑x.n : Int) = (↑x.n : Int)) ∧ Tr 1 (x.r = x.r) ∧ (true = true ∧ NilNil ∧ (0 : Nat) = 0 ∧ (1 : Nat) = 1 ∧ (0 : Nat) = 0 ∧
 (lC x).length = (lC x).length ∧ g.val.1 = g_1.val.1) ∧ (true = true ∧ NilNil ∧ (0 : Nat) = 0 ∧ (1 : Nat) = 1 ∧ (0 : Nat) = 0 ∧ (lE x).length = (lE x).length ∧
 g.val.2.1 = g_1.val.2.1) ∧ (true = true ∧ NilNil ∧ (0 : Nat) = 0 ∧ (1 : Nat) = 1 ∧ (0 : Nat) = 0 ∧ (lM x).length = (lM x).length ∧ g.val.2.2.1 = g_1.val.2.2.1)
 ∧ (true = true ∧ NilNil ∧ (0 : Nat) = 0 ∧ (1 : Nat) = 1 ∧ (0 : Nat) = 0 ∧ (lM x).length = (lM x).length ∧ g.val.2.2.1 = g_1.val.2.2.1) ∧ True) ∧ ((3 : TypeId) =
 3 ∧ (1 : Nat) = 1 ∧ g.val.1 = g_1.val.1 ∧ (lC x).length ≤ (lC x).length ∧ ∀ (i : Nat), i < (lC x).length → [AV.int .i64 ((lC x).getD i 0)] = [AV.int .i64 ((lC
 x).getD i 0)]) ∧ ((3 : TypeId) = 3 ∧ (1 : Nat) = 1 ∧ g.val.2.1 = g_1.val.2.1 ∧ (lE x).length ≤ (lE x).length ∧ ∀ (i : Nat), i < (lE x).length → [AV.int .i64
 ((lE x).getD i 0)] = [AV.int .i64 ((lE x).getD i 0)]) ∧ ((3 : TypeId) = 3 ∧ (1 : Nat) = 1 ∧ g.val.2.2.1 = g_1.val.2.2.1 ∧ (lM x).length ≤ (lM x).length ∧ ∀ (i :
 Nat), i < (lM x).length → [AV.int .i64 ((lM x).getD i 0)] = [AV.int .i64 ((lM x).getD i 0)]) ∧ True) ∧ I64 ((↑t.1 : Int) + 1) ∧ Exx (Nat × Nat) fun t' => (I t'
 ∧ m t' < m t) ∧ ((true = true ∧ NilNil ∧ (0 : Nat) = 0) ∧ Tr 2 ((true = true ∧ NilNil ∧ (0 : Nat) = 0 ∧ (1 : Nat) = 1 ∧ (0 : Nat) = 0 ∧ (freeP x t.1).length =
 (freeP x t'.fst).length ∧ t.2 = t'.snd) ∧ Tr 1 ((↑t.1 : Int) + 1 = (↑t'.fst : Int)) ∧ Tr 47 True)) ∧ refB x = refB x ∧ true = true ∧ ((3 : TypeId) = 3 ∧ (1 :
 Nat) = 1 ∧ t.2 = t'.snd ∧ (freeP x t'.fst).length ≤ (freeP x t.1).length ∧ ∀ (i : Nat), i < (freeP x t'.fst).length → [AV.int .i64 ((freeP x t.1).getD i 0)] =
 [AV.int .i64 ((freeP x t'.fst).getD i 0)]) ∧ True)) ∧ (∀ (g : Subtype (RCap x false false false)), Exx (List Int × Int) fun x_1 => (((0 + (lC x).length ≤ (lC
 x).length ∧ (lC x).length = x_1.1.length ∧ ∀ (i : Nat), i < x_1.1.length → [AV.int .i64 ((lC x).getD (0 + i) 0)] = [AV.int .i64 (x_1.1.getD i 0)]) ∧ Tr 1 ((↑t.1
 : Int) = x_1.2) ∧ True) ∧ true = true ∧ True) ∧ (IntL x_1.1 ∧ I64 x_1.2) ∧ ∀ (y : Unit), True → BC (!decide (x_1.2 ∈ x_1.1)) (Exx (List Int × Int) fun x_2 =>
 (((0 + (lE x).length ≤ (lE x).length ∧ (lE x).length = x_2.1.length ∧ ∀ (i : Nat), i < x_2.1.length → [AV.int .i64 ((lE x).getD (0 + i) 0)] = [AV.int .i64
 (x_2.1.getD i 0)]) ∧ Tr 1 ((↑t.1 : Int) = x_2.2) ∧ True) ∧ true = true ∧ True) ∧ (IntL x_2.1 ∧ I64 x_2.2) ∧ ∀ (y : Unit), True → BC (!decide (x_2.2 ∈ x_2.1))
 (Exx (List Int × Int) fun x_3 => (((0 + (lM x).length ≤ (lM x).length ∧ (lM x).length = x_3.1.length ∧ ∀ (i : Nat), i < x_3.1.length → [AV.int .i64 ((lM x).getD
 (0 + i) 0)] = [AV.int .i64 (x_3.1.getD i 0)]) ∧ Tr 1 ((↑t.1 : Int) = x_3.2) ∧ True) ∧ true = true ∧ True) ∧ (IntL x_3.1 ∧ I64 x_3.2) ∧ ∀ (y : Unit), True → BC
 (!decide (x_3.2 ∈ x_3.1)) (Exx (List Int × Int) fun x_4 => (((0 + (lW x).length ≤ (lW x).length ∧ (lW x).length = x_4.1.length ∧ ∀ (i : Nat), i < x_4.1.length →
 [AV.int .i64 ((lW x).getD (0 + i) 0)] = [AV.int .i64 (x_4.1.getD i 0)]) ∧ Tr 1 ((↑t.1 : Int) = x_4.2) ∧ True) ∧ true = true ∧ True) ∧ (IntL x_4.1 ∧ I64 x_4.2) ∧
 ∀ (y : Unit), True → BC (!decide (x_4.2 ∈ x_4.1)) (Exx Unit fun y => Exx (Subtype (RCap x false false false)) fun g_1 => Tr 1 (((38 : TypeId) = 38 ∧ Tr 1 ((↑x.n
 : Int) = (↑x.n : Int)) ∧ Tr 1 (x.r = x.r) ∧ (true = true ∧ NilNil ∧ (0 : Nat) = 0 ∧ (1 : Nat) = 1 ∧ (0 : Nat) = 0 ∧ (lC x).length = (lC x).length ∧ g.val.1 =
 g_1.val.1) ∧ (true = true ∧ NilNil ∧ (0 : Nat) = 0 ∧ (1 : Nat) = 1 ∧ (0 : Nat) = 0 ∧ (lE x).length = (lE x).length ∧ g.val.2.1 = g_1.val.2.1) ∧ (true = true ∧
 NilNil ∧ (0 : Nat) = 0 ∧ (1 : Nat) = 1 ∧ (0 : Nat) = 0 ∧ (lM x).length = (lM x).length ∧ g.val.2.2.1 = g_1.val.2.2.1) ∧ (true = true ∧ NilNil ∧ (0 : Nat) = 0 ∧
 (1 : Nat) = 1 ∧ (0 : Nat) = 0 ∧ (lW x).length = (lW x).length ∧ g.val.2.2.2 = g_1.val.2.2.2) ∧ True) ∧ ((3 : TypeId) = 3 ∧ (1 : Nat) = 1 ∧ g.val.1 = g_1.val.1 ∧
 (lC x).length ≤ (lC x).length ∧ ∀ (i : Nat), i < (lC x).length → [AV.int .i64 ((lC x).getD i 0)] = [AV.int .i64 ((lC x).getD i 0)]) ∧ ((3 : TypeId) = 3 ∧ (1 :
 Nat) = 1 ∧ g.val.2.1 = g_1.val.2.1 ∧ (lE x).length ≤ (lE x).length ∧ ∀ (i : Nat), i < (lE x).length → [AV.int .i64 ((lE x).getD i 0)] = [AV.int .i64 ((lE
 x).getD i 0)]) ∧ ((3 : TypeId) = 3 ∧ (1 : Nat) = 1 ∧ g.val.2.2.1 = g_1.val.2.2.1 ∧ (lM x).length ≤ (lM x).length ∧ ∀ (i : Nat), i < (lM x).length → [AV.int .i64
 ((lM x).getD i 0)] = [AV.int .i64 ((lM x).getD i 0)]) ∧ ((3 : TypeId) = 3 ∧ (1 : Nat) = 1 ∧ g.val.2.2.2 = g_1.val.2.2.2 ∧ (lW x).length ≤ (lW x).length ∧ ∀ (i :
 Nat), i < (lW x).length → [AV.int .i64 ((lW x).getD i 0)] = [AV.int .i64 ((lW x).getD i 0)]) ∧ True) ∧ (0 : Nat) + (1 : Nat) ≤ (1 : Nat) ∧ true = true ∧ ((freeP
 x t.1).length ≤ (freeP x t.1).length ∧ t.2 = t.2) ∧ ((freeP x t.1).length + 1 ≤ 9223372036854775807 ∧ ((freeP x t.1).length + 1) * 8 ≤ 140737488355328) ∧ ∀ (cap
 : Nat), (freeP x t.1).length + 1 ≤ cap ∧ cap ≤ 9223372036854775807 → Exx Unit fun y => I64 ((↑t.1 : Int) + 1) ∧ Exx (Nat × Nat) fun t' => (I t' ∧ m t' < m t) ∧
 ((true = true ∧ NilNil ∧ (0 : Nat) = 0) ∧ Tr 2 ((true = true ∧ NilNil ∧ (0 : Nat) = 0 ∧ (1 : Nat) = 1 ∧ (0 : Nat) = 0 ∧ (freeP x t.1).length + 1 = (freeP x
 t'.fst).length ∧ cap = t'.snd) ∧ Tr 1 ((↑t.1 : Int) + 1 = (↑t'.fst : Int)) ∧ Tr 47 True)) ∧ refB x = refB x ∧ true = true ∧ ((3 : TypeId) = 3 ∧ (1 : Nat) = 1 ∧
 cap = t'.snd ∧ (freeP x t'.fst).length ≤ (freeP x t.1).length + 1 ∧ ∀ (i : Nat), i < (freeP x t'.fst).length → (if i < (freeP x t.1).length then [AV.int .i64
 ((freeP x t.1).getD i 0)] else [AV.int .i64 (if 0 + (i - (freeP x t.1).length) = 0 * 1 / 1 then (↑t.1 : Int) else 0)]) = [AV.int .i64 ((freeP x t'.fst).getD i
 0)]) ∧ True) (Exx Unit fun y => Exx (Subtype (RCap x false false false)) fun g_1 => Tr 1 (((38 : TypeId) = 38 ∧ Tr 1 ((↑x.n : Int) = (↑x.n : Int)) ∧ Tr 1 (x.r =
 x.r) ∧ (true = true ∧ NilNil ∧ (0 : Nat) = 0 ∧ (1 : Nat) = 1 ∧ (0 : Nat) = 0 ∧ (lC x).length = (lC x).length ∧ g.val.1 = g_1.val.1) ∧ (true = true ∧ NilNil ∧ (0
 : Nat) = 0 ∧ (1 : Nat) = 1 ∧ (0 : Nat) = 0 ∧ (lE x).length = (lE x).length ∧ g.val.2.1 = g_1.val.2.1) ∧ (true = true ∧ NilNil ∧ (0 : Nat) = 0 ∧ (1 : Nat) = 1 ∧
 (0 : Nat) = 0 ∧ (lM x).length = (lM x).length ∧ g.val.2.2.1 = g_1.val.2.2.1) ∧ (true = true ∧ NilNil ∧ (0 : Nat) = 0 ∧ (1 : Nat) = 1 ∧ (0 : Nat) = 0 ∧ (lW
 x).length = (lW x).length ∧ g.val.2.2.2 = g_1.val.2.2.2) ∧ True) ∧ ((3 : TypeId) = 3 ∧ (1 : Nat) = 1 ∧ g.val.1 = g_1.val.1 ∧ (lC x).length ≤ (lC x).length ∧ ∀
 (i : Nat), i < (lC x).length → [AV.int .i64 ((lC x).getD i 0)] = [AV.int .i64 ((lC x).getD i 0)]) ∧ ((3 : TypeId) = 3 ∧ (1 : Nat) = 1 ∧ g.val.2.1 = g_1.val.2.1
 ∧ (lE x).length ≤ (lE x).length ∧ ∀ (i : Nat), i < (lE x).length → [AV.int .i64 ((lE x).getD i 0)] = [AV.int .i64 ((lE x).getD i 0)]) ∧ ((3 : TypeId) = 3 ∧ (1 :
 Nat) = 1 ∧ g.val.2.2.1 = g_1.val.2.2.1 ∧ (lM x).length ≤ (lM x).length ∧ ∀ (i : Nat), i < (lM x).length → [AV.int .i64 ((lM x).getD i 0)] = [AV.int .i64 ((lM
 x).getD i 0)]) ∧ ((3 : TypeId) = 3 ∧ (1 : Nat) = 1 ∧ g.val.2.2.2 = g_1.val.2.2.2 ∧ (lW x).length ≤ (lW x).length ∧ ∀ (i : Nat), i < (lW x).length → [AV.int .i64
 ((lW x).getD i 0)] = [AV.int .i64 ((lW x).getD i 0)]) ∧ True) ∧ I64 ((↑t.1 : Int) + 1) ∧ Exx (Nat × Nat) fun t' => (I t' ∧ m t' < m t) ∧ ((true = true ∧ NilNil
 ∧ (0 : Nat) = 0) ∧ Tr 2 ((true = true ∧ NilNil ∧ (0 : Nat) = 0 ∧ (1 : Nat) = 1 ∧ (0 : Nat) = 0 ∧ (freeP x t.1).length = (freeP x t'.fst).length ∧ t.2 = t'.snd)
 ∧ Tr 1 ((↑t.1 : Int) + 1 = (↑t'.fst : Int)) ∧ Tr 47 True)) ∧ refB x = refB x ∧ true = true ∧ ((3 : TypeId) = 3 ∧ (1 : Nat) = 1 ∧ t.2 = t'.snd ∧ (freeP x
 t'.fst).length ≤ (freeP x t.1).length ∧ ∀ (i : Nat), i < (freeP x t'.fst).length → [AV.int .i64 ((freeP x t.1).getD i 0)] = [AV.int .i64 ((freeP x t'.fst).getD
 i 0)]) ∧ True)) (Exx Unit fun y => Exx (Subtype (RCap x false false false)) fun g_1 => Tr 1 (((38 : TypeId) = 38 ∧ Tr 1 ((↑x.n : Int) = (↑x.n : Int)) ∧ Tr 1
 (x.r = x.r) ∧ (true = true ∧ NilNil ∧ (0 : Nat) = 0 ∧ (1 : Nat) = 1 ∧ (0 : Nat) = 0 ∧ (lC x).length = (lC x).length ∧ g.val.1 = g_1.val.1) ∧ (true = true ∧
 NilNil ∧ (0 : Nat) = 0 ∧ (1 : Nat) = 1 ∧ (0 : Nat) = 0 ∧ (lE x).length = (lE x).length ∧ g.val.2.1 = g_1.val.2.1) ∧ (true = true ∧ NilNil ∧ (0 : Nat) = 0 ∧ (1 :
 Nat) = 1 ∧ (0 : Nat) = 0 ∧ (lM x).length = (lM x).length ∧ g.val.2.2.1 = g_1.val.2.2.1) ∧ (true = true ∧ NilNil ∧ (0 : Nat) = 0 ∧ (1 : Nat) = 1 ∧ (0 : Nat) = 0
 ∧ (lW x).length = (lW x).length ∧ g.val.2.2.2 = g_1.val.2.2.2) ∧ True) ∧ ((3 : TypeId) = 3 ∧ (1 : Nat) = 1 ∧ g.val.1 = g_1.val.1 ∧ (lC x).length ≤ (lC x).length
 ∧ ∀ (i : Nat), i < (lC x).length → [AV.int .i64 ((lC x).getD i 0)] = [AV.int .i64 ((lC x).getD i 0)]) ∧ ((3 : TypeId) = 3 ∧ (1 : Nat) = 1 ∧ g.val.2.1 =
 g_1.val.2.1 ∧ (lE x).length ≤ (lE x).length ∧ ∀ (i : Nat), i < (lE x).length → [AV.int .i64 ((lE x).getD i 0)] = [AV.int .i64 ((lE x).getD i 0)]) ∧ ((3 :
 TypeId) = 3 ∧ (1 : Nat) = 1 ∧ g.val.2.2.1 = g_1.val.2.2.1 ∧ (lM x).length ≤ (lM x).length ∧ ∀ (i : Nat), i < (lM x).length → [AV.int .i64 ((lM x).getD i 0)] =
 [AV.int .i64 ((lM x).getD i 0)]) ∧ ((3 : TypeId) = 3 ∧ (1 : Nat) = 1 ∧ g.val.2.2.2 = g_1.val.2.2.2 ∧ (lW x).length ≤ (lW x).length ∧ ∀ (i : Nat), i < (lW
 x).length → [AV.int .i64 ((lW x).getD i 0)] = [AV.int .i64 ((lW x).getD i 0)]) ∧ True) ∧ I64 ((↑t.1 : Int) + 1) ∧ Exx (Nat × Nat) fun t' => (I t' ∧ m t' < m t)
 ∧ ((true = true ∧ NilNil ∧ (0 : Nat) = 0) ∧ Tr 2 ((true = true ∧ NilNil ∧ (0 : Nat) = 0 ∧ (1 : Nat) = 1 ∧ (0 : Nat) = 0 ∧ (freeP x t.1).length = (freeP x
 t'.fst).length ∧ t.2 = t'.snd) ∧ Tr 1 ((↑t.1 : Int) + 1 = (↑t'.fst : Int)) ∧ Tr 47 True)) ∧ refB x = refB x ∧ true = true ∧ ((3 : TypeId) = 3 ∧ (1 : Nat) = 1 ∧
 t.2 = t'.snd ∧ (freeP x t'.fst).length ≤ (freeP x t.1).length ∧ ∀ (i : Nat), i < (freeP x t'.fst).length → [AV.int .i64 ((freeP x t.1).getD i 0)] = [AV.int .i64
 ((freeP x t'.fst).getD i 0)]) ∧ True)) (Exx Unit fun y => Exx (Subtype (RCap x false false false)) fun g_1 => Tr 1 (((38 : TypeId) = 38 ∧ Tr 1 ((↑x.n : Int) =
 (↑x.n : Int)) ∧ Tr 1 (x.r = x.r) ∧ (true = true ∧ NilNil ∧ (0 : Nat) = 0 ∧ (1 : Nat) = 1 ∧ (0 : Nat) = 0 ∧ (lC x).length = (lC x).length ∧ g.val.1 = g_1.val.1)
 ∧ (true = true ∧ NilNil ∧ (0 : Nat) = 0 ∧ (1 : Nat) = 1 ∧ (0 : Nat) = 0 ∧ (lE x).length = (lE x).length ∧ g.val.2.1 = g_1.val.2.1) ∧ (true = true ∧ NilNil ∧ (0
 : Nat) = 0 ∧ (1 : Nat) = 1 ∧ (0 : Nat) = 0 ∧ (lM x).length = (lM x).length ∧ g.val.2.2.1 = g_1.val.2.2.1) ∧ (true = true ∧ NilNil ∧ (0 : Nat) = 0 ∧ (1 : Nat) =
 1 ∧ (0 : Nat) = 0 ∧ (lW x).length = (lW x).length ∧ g.val.2.2.2 = g_1.val.2.2.2) ∧ True) ∧ ((3 : TypeId) = 3 ∧ (1 : Nat) = 1 ∧ g.val.1 = g_1.val.1 ∧ (lC
 x).length ≤ (lC x).length ∧ ∀ (i : Nat), i < (lC x).length → [AV.int .i64 ((lC x).getD i 0)] = [AV.int .i64 ((lC x).getD i 0)]) ∧ ((3 : TypeId) = 3 ∧ (1 : Nat)
 = 1 ∧ g.val.2.1 = g_1.val.2.1 ∧ (lE x).length ≤ (lE x).length ∧ ∀ (i : Nat), i < (lE x).length → [AV.int .i64 ((lE x).getD i 0)] = [AV.int .i64 ((lE x).getD i
 0)]) ∧ ((3 : TypeId) = 3 ∧ (1 : Nat) = 1 ∧ g.val.2.2.1 = g_1.val.2.2.1 ∧ (lM x).length ≤ (lM x).length ∧ ∀ (i : Nat), i < (lM x).length → [AV.int .i64 ((lM
 x).getD i 0)] = [AV.int .i64 ((lM x).getD i 0)]) ∧ ((3 : TypeId) = 3 ∧ (1 : Nat) = 1 ∧ g.val.2.2.2 = g_1.val.2.2.2 ∧ (lW x).length ≤ (lW x).length ∧ ∀ (i :
 Nat), i < (lW x).length → [AV.int .i64 ((lW x).getD i 0)] = [AV.int .i64 ((lW x).getD i 0)]) ∧ True) ∧ I64 ((↑t.1 : Int) + 1) ∧ Exx (Nat × Nat) fun t' => (I t'
 ∧ m t' < m t) ∧ ((true = true ∧ NilNil ∧ (0 : Nat) = 0) ∧ Tr 2 ((true = true ∧ NilNil ∧ (0 : Nat) = 0 ∧ (1 : Nat) = 1 ∧ (0 : Nat) = 0 ∧ (freeP x t.1).length =
 (freeP x t'.fst).length ∧ t.2 = t'.snd) ∧ Tr 1 ((↑t.1 : Int) + 1 = (↑t'.fst : Int)) ∧ Tr 47 True)) ∧ refB x = refB x ∧ true = true ∧ ((3 : TypeId) = 3 ∧ (1 :
 Nat) = 1 ∧ t.2 = t'.snd ∧ (freeP x t'.fst).length ≤ (freeP x t.1).length ∧ ∀ (i : Nat), i < (freeP x t'.fst).length → [AV.int .i64 ((freeP x t.1).getD i 0)] =
 [AV.int .i64 ((freeP x t'.fst).getD i 0)]) ∧ True)) (Exx Unit fun y => Exx (Subtype (RCap x false false false)) fun g_1 => Tr 1 (((38 : TypeId) = 38 ∧ Tr 1
 ((↑x.n : Int) = (↑x.n : Int)) ∧ Tr 1 (x.r = x.r) ∧ (true = true ∧ NilNil ∧ (0 : Nat) = 0 ∧ (1 : Nat) = 1 ∧ (0 : Nat) = 0 ∧ (lC x).length = (lC x).length ∧
 g.val.1 = g_1.val.1) ∧ (true = true ∧ NilNil ∧ (0 : Nat) = 0 ∧ (1 : Nat) = 1 ∧ (0 : Nat) = 0 ∧ (lE x).length = (lE x).length ∧ g.val.2.1 = g_1.val.2.1) ∧ (true
 = true ∧ NilNil ∧ (0 : Nat) = 0 ∧ (1 : Nat) = 1 ∧ (0 : Nat) = 0 ∧ (lM x).length = (lM x).length ∧ g.val.2.2.1 = g_1.val.2.2.1) ∧ (true = true ∧ NilNil ∧ (0 :
 Nat) = 0 ∧ (1 : Nat) = 1 ∧ (0 : Nat) = 0 ∧ (lW x).length = (lW x).length ∧ g.val.2.2.2 = g_1.val.2.2.2) ∧ True) ∧ ((3 : TypeId) = 3 ∧ (1 : Nat) = 1 ∧ g.val.1 =
 g_1.val.1 ∧ (lC x).length ≤ (lC x).length ∧ ∀ (i : Nat), i < (lC x).length → [AV.int .i64 ((lC x).getD i 0)] = [AV.int .i64 ((lC x).getD i 0)]) ∧ ((3 : TypeId)
 = 3 ∧ (1 : Nat) = 1 ∧ g.val.2.1 = g_1.val.2.1 ∧ (lE x).length ≤ (lE x).length ∧ ∀ (i : Nat), i < (lE x).length → [AV.int .i64 ((lE x).getD i 0)] = [AV.int .i64
 ((lE x).getD i 0)]) ∧ ((3 : TypeId) = 3 ∧ (1 : Nat) = 1 ∧ g.val.2.2.1 = g_1.val.2.2.1 ∧ (lM x).length ≤ (lM x).length ∧ ∀ (i : Nat), i < (lM x).length → [AV.int
 .i64 ((lM x).getD i 0)] = [AV.int .i64 ((lM x).getD i 0)]) ∧ ((3 : TypeId) = 3 ∧ (1 : Nat) = 1 ∧ g.val.2.2.2 = g_1.val.2.2.2 ∧ (lW x).length ≤ (lW x).length ∧ ∀
 (i : Nat), i < (lW x).length → [AV.int .i64 ((lW x).getD i 0)] = [AV.int .i64 ((lW x).getD i 0)]) ∧ True) ∧ I64 ((↑t.1 : Int) + 1) ∧ Exx (Nat × Nat) fun t' =>
 (I t' ∧ m t' < m t) ∧ ((true = true ∧ NilNil ∧ (0 : Nat) = 0) ∧ Tr 2 ((true = true ∧ NilNil ∧ (0 : Nat) = 0 ∧ (1 : Nat) = 1 ∧ (0 : Nat) = 0 ∧ (freeP x
 t.1).length = (freeP x t'.fst).length ∧ t.2 = t'.snd) ∧ Tr 1 ((↑t.1 : Int) + 1 = (↑t'.fst : Int)) ∧ Tr 47 True)) ∧ refB x = refB x ∧ true = true ∧ ((3 : TypeId)
 = 3 ∧ (1 : Nat) = 1 ∧ t.2 = t'.snd ∧ (freeP x t'.fst).length ≤ (freeP x t.1).length ∧ ∀ (i : Nat), i < (freeP x t'.fst).length → [AV.int .i64 ((freeP x
 t.1).getD i 0)] = [AV.int .i64 ((freeP x t'.fst).getD i 0)]) ∧ True)) ∧ True) (Exx Nat fun y => (((true = true ∧ NilNil ∧ (0 : Nat) = 0 ∧ (1 : Nat) = 1 ∧ (0 :
 Nat) = 0 ∧ (freeP x t.1).length = (freeL x).length ∧ t.2 = y) ∧ True) ∧ refB x = refB x ∧ true = true ∧ ((3 : TypeId) = 3 ∧ (1 : Nat) = 1 ∧ t.2 = y ∧ (freeL
 x).length ≤ (freeP x t.1).length ∧ ∀ (i : Nat), i < (freeL x).length → [AV.int .i64 ((freeP x t.1).getD i 0)] = [AV.int .i64 ((freeL x).getD i 0)]) ∧ True) ∧
 (freeL x).length ≤ y ∧ y ≤ 9223372036854775807)) = (fnVCo tb [(14, specOf refHasC)] Tryd.f9 refFreeC (fun x => { loops := [(3, refFreeLA x)], opensA := [(5, [opR 0 x])], closesH := [(6, [{ Y := Unit, f := fun _ H => clR 0 H x }]), (4, [{ Y := Unit, f := fun _ H => clR 0 H x }])] }) (fun _ av _ => slRenR av) (fun _ => []) (fun _ _ _ _ => [])) := by kernel_rfl 

theorem refFree_ok : SpecOk Tryd.prog 9 (specOf refFreeC) := by
  refine specOko mixed tb_ok (SPok.cons refHas_ok SPok.nil) Tryd.func9 (by decide) refFreeC_ok (an := (fun x => { loops := [(3, refFreeLA x)], opensA := [(5, [opR 0 x])], closesH := [(6, [{ Y := Unit, f := fun _ H => clR 0 H x }]), (4, [{ Y := Unit, f := fun _ H => clR 0 H x }])] })) (σ := (fun _ av _ => slRenR av)) (op := (fun _ => [])) (cl := (fun _ _ _ _ => [])) ?_
  rw [← refFreeV]
  simp (maxSteps := 10000000) only [and_false, false_and, false_or, or_false, bOf_true, bOf_false, true_bOf, false_bOf, Exx, int_ite, merge_o, Tr_eq, true_and, and_true, exists_const, forall_const, implies_true, forall_eq, exists_eq, exists_eq', exists_eq_left, exists_eq_left', exists_eq_right, Prod.exists, Prod.forall, and_assoc, exists_and_left, BC_iff, Bool.not_eq_true', Bool.not_eq_false', decide_eq_true_eq, decide_eq_false_iff_not, I64, nat_cast_inj, Int.toNat_natCast, nats_iff, nats_iff', ints_iff, ints_iff', natss_iff, natss_iff', nilnil, litL_eq, str_inj, str_append, str_length, str_getD, str_take, lit1_iff, one_iff, two_iff, one_get, Nat.zero_add, Nat.sub_zero, Nat.reduceMul, Nat.reduceDiv, Nat.reduceAdd, Int.reduceToNat, Nat.not_lt_zero, if_false, if_true, Nat.le_refl, List.length_singleton, List.length_cons, List.length_nil, Bool.false_eq_true, not_true_eq_false, false_implies, not_false_eq_true, Prod.mk.injEq, refB_inj, refB_open, Subtype.forall, Subtype.exists, exists_prop, RCap, RC1_t, RC1_f]
  intro x h
  have hn := h.n
  have hI := h.I
  have bit : ∀ m k : Nat, k < x.n → (((k : Nat) : Int) ∈ listN (x.n, m) ↔ m.testBit k = true) := fun m k hk => by
    rw [mem_listN (s := (x.n, m))]; simp only [Int.toNat_natCast]; exact ⟨fun q => q.2.2, fun q => ⟨by omega, by omega, q⟩⟩
  refine ⟨fun t => t.1 ≤ x.n ∧ (freeP x t.1).length ≤ t.2 ∧ t.2 ≤ 9223372036854775807, ⟨0, 0, ⟨Nat.zero_le _, Nat.le_refl _, by omega⟩, rfl, rfl, rfl, rfl, rfl⟩, fun t => x.n - t.1, fun k c hI0 => ⟨fun hlt => ?_, fun hge => ?_⟩⟩
  · obtain ⟨hk, hc1, hc2⟩ := hI0
    simp only at hk hc1 hc2
    have hlen := freeP_len x k
    have hlt' : k < x.n := by omega
    have hb : (heldN x).testBit k = (decide (((k : Nat) : Int) ∈ listN (x.n, x.w)) || decide (((k : Nat) : Int) ∈ listN (x.n, x.c)) || decide (((k : Nat) : Int) ∈ listN (x.n, x.e)) || decide (((k : Nat) : Int) ∈ listN (x.n, x.m))) := by
      unfold heldN
      simp only [Nat.testBit_or, bit _ _ hlt', Bool.decide_eq_true]
    have no : (heldN x).testBit k = true → ∃ a b : Nat, (a ≤ x.n ∧ (freeP x a).length ≤ b ∧ b ≤ 9223372036854775807) ∧ x.n - a < x.n - k ∧ (freeP x k).length = (freeP x a).length ∧ c = b ∧ ((k : Nat) : Int) + 1 = ((a : Nat) : Int) ∧ c = b ∧ (freeP x a).length ≤ (freeP x k).length ∧ ∀ (i : Nat), i < (freeP x a).length → [AV.int IntKind.i64 ((freeP x k).getD i 0)] = [AV.int IntKind.i64 ((freeP x a).getD i 0)] := fun hh =>
      ⟨k + 1, c, ⟨by omega, by rw [freeP_no hh]; exact hc1, hc2⟩, by omega, by rw [freeP_no hh], rfl, by omega, rfl, by rw [freeP_no hh]; exact Nat.le_refl _, fun i hi => by rw [freeP_no hh]⟩
    have yes : (heldN x).testBit k = false → ∀ (cap : Nat), (freeP x k).length + 1 ≤ cap ∧ cap ≤ 9223372036854775807 → ∃ a b : Nat, (a ≤ x.n ∧ (freeP x a).length ≤ b ∧ b ≤ 9223372036854775807) ∧ x.n - a < x.n - k ∧ (freeP x k).length + 1 = (freeP x a).length ∧ cap = b ∧ ((k : Nat) : Int) + 1 = ((a : Nat) : Int) ∧ cap = b ∧ (freeP x a).length ≤ (freeP x k).length + 1 ∧ ∀ (i : Nat), i < (freeP x a).length → (if i < (freeP x k).length then [AV.int IntKind.i64 ((freeP x k).getD i 0)] else if i - (freeP x k).length = 0 then [AV.int IntKind.i64 ((k : Nat) : Int)] else [AV.int IntKind.i64 0]) = [AV.int IntKind.i64 ((freeP x a).getD i 0)] := fun hh cap hcap => by
      have e := freeP_yes hh
      have el : (freeP x (k + 1)).length = (freeP x k).length + 1 := by rw [e]; simp
      refine ⟨k + 1, cap, ⟨by omega, by omega, hcap.2⟩, by omega, el.symm, rfl, by omega, rfl, by omega, fun i hi => ?_⟩
      rw [e, getD_append]
      by_cases h1 : i < (freeP x k).length
      · rw [if_pos h1, if_pos h1]
      · have h2 : i - (freeP x k).length = 0 := by omega
        rw [if_neg h1, if_neg h1, if_pos h2, h2]; rfl
    simp only [lC, lE, lM, lW]
    repeat' first
      | exact hI _
      | intro _
      | apply And.intro
    all_goals first
      | omega
      | assumption
      | (refine no ?_; rw [hb]; grind)
      | (refine yes ?_ _ (by assumption); rw [hb]; grind)
  · obtain ⟨hk, hc1, hc2⟩ := hI0
    have ek : k = x.n := by
      simp only at hk; omega
    subst ek
    have e : freeP x x.n = freeL x := rfl
    rw [e] at hc1 ⊢
    exact ⟨rfl, Nat.le_refl _, fun _ _ => rfl, hc1, hc2⟩

end Yard
