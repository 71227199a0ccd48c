import Derived.Test.YtlicnnoljbfhfaaDoorLaw18
import Derived.Test.YtlicnnoljbfhfaaDoorRef18Do
import Derived.Test.YtlicnnoljbfhfaaDoorRef18Take

namespace Yard
open Go Go.Sx Go.Proofs
set_option linter.unusedVariables false
set_option linter.unusedSimpArgs false
set_option maxRecDepth 4000
set_option maxHeartbeats 4000000

def do18C : Ctr where
  X := AllocT × Act18
  Y := Unit
  conv := true
  tau := tau2
  pre := fun x => RefR x.1 ∧ Act18I x.2
  args := fun x => [.ptr 0 [] 0, .ptr 1 [] 0, .agg (act18V x.2)]
  heap := fun x => [allocI x.1, refI x.1]
  Q := fun _ _ => True
  res := fun _ _ => .bool true
  its := fun x _ => [allocI (stepS x.1 (x.2.kind % 7) x.2.at_), refI (stepS x.1 (x.2.kind % 7) x.2.at_)]
  new := fun _ _ => []
theorem do18C_ok : CtrOk do18C :=
  ⟨fun _ _ _ _ => (rfl : 2 = 2), fun _ _ _ _ => ⟨rfl, rfl⟩, fun x _ _ _ _ => ⟨⟨⟨trivial, trivial, trivial⟩, trivial⟩, rfl⟩⟩

theorem do18V : (∀ (x : AllocT × Act18), RefR x.1 ∧ Act18I x.2 → Exx (Int × Int) fun x_1 => ((Tr 1 (x.2.kind = x_1.1) ∧ Tr 1 ((7 : Int) = x_1.2) ∧ True) ∧ true
 = true ∧ True) ∧ (I64 x_1.1 ∧ (1 : Int) ≤ x_1.2 ∧ x_1.2 ≤ (1000000 : Int)) ∧ ∀ (y : Unit), True → BC (decide (x_1.1 % x_1.2 = (0 : Int))) (Exx (AllocT × Unit)
 fun x_2 => (((true = true ∧ NilNil ∧ (0 : Nat) = 0) ∧ True) ∧ true = true ∧ allocB x.1 = allocB x_2.1 ∧ True) ∧ (AllocW x_2.1 ∧ True) ∧ ∀ (y : Unit), True → Exx
 (AllocT × Int) fun x_3 => (((true = true ∧ NilNil ∧ (0 : Nat) = 0) ∧ Tr 1 (x.1.r = x_3.2) ∧ True) ∧ true = true ∧ refB x.1 = refB x_3.1 ∧ True) ∧ (RefW x_3.1 ∧
 I64 x_3.2 ∧ (0 : Int) ≤ x_3.2) ∧ ∀ (y : Unit), True → BC (decide (takeAt x_2.1 x_2.1.r = takeAt x_3.1 x_3.2)) (Exx Unit fun y => ((decide (takeErr x_2.1 x_2.1.r
 = takeErr x_3.1 x_3.2) = true ∧ True) ∧ allocB (takeS x_2.1 x_2.1.r) = allocB (stepS x.1 (x.2.kind % 7) x.2.at_) ∧ refB (takeS x_3.1 x_3.2) = refB (stepS x.1
 (x.2.kind % 7) x.2.at_) ∧ true = true ∧ True) ∧ True) (Exx Unit fun y => ((false = true ∧ True) ∧ allocB (takeS x_2.1 x_2.1.r) = allocB (stepS x.1 (x.2.kind %
 7) x.2.at_) ∧ refB (takeS x_3.1 x_3.2) = refB (stepS x.1 (x.2.kind % 7) x.2.at_) ∧ true = true ∧ True) ∧ True)) (BC (decide (x_1.1 % x_1.2 = (1 : Int))) (Exx
 (AllocT × Unit) fun x_2 => (((true = true ∧ NilNil ∧ (0 : Nat) = 0) ∧ True) ∧ true = true ∧ allocB x.1 = allocB x_2.1 ∧ True) ∧ (AllocW x_2.1 ∧ True) ∧ ∀ (y :
 Unit), True → Exx (AllocT × Int) fun x_3 => (((true = true ∧ NilNil ∧ (0 : Nat) = 0) ∧ Tr 1 ((0 : Int) = x_3.2) ∧ True) ∧ true = true ∧ refB x.1 = refB x_3.1 ∧
 True) ∧ (RefW x_3.1 ∧ I64 x_3.2 ∧ (0 : Int) ≤ x_3.2) ∧ ∀ (y : Unit), True → BC (decide (takeAt x_2.1 0 = takeAt x_3.1 x_3.2)) (Exx Unit fun y => ((decide
 (takeErr x_2.1 0 = takeErr x_3.1 x_3.2) = true ∧ True) ∧ allocB (takeS x_2.1 0) = allocB (stepS x.1 (x.2.kind % 7) x.2.at_) ∧ refB (takeS x_3.1 x_3.2) = refB
 (stepS x.1 (x.2.kind % 7) x.2.at_) ∧ true = true ∧ True) ∧ True) (Exx Unit fun y => ((false = true ∧ True) ∧ allocB (takeS x_2.1 0) = allocB (stepS x.1
 (x.2.kind % 7) x.2.at_) ∧ refB (takeS x_3.1 x_3.2) = refB (stepS x.1 (x.2.kind % 7) x.2.at_) ∧ true = true ∧ True) ∧ True)) (BC (decide (x_1.1 % x_1.2 = (2 :
 Int))) (Exx (AllocT × Int) fun x_2 => (((true = true ∧ NilNil ∧ (0 : Nat) = 0) ∧ Tr 1 (x.2.at_ = x_2.2) ∧ True) ∧ true = true ∧ allocB x.1 = allocB x_2.1 ∧
 True) ∧ (AllocW x_2.1 ∧ I64 x_2.2) ∧ ∀ (y : Unit), True → Exx (AllocT × Int) fun x_3 => (((true = true ∧ NilNil ∧ (0 : Nat) = 0) ∧ Tr 1 (x.2.at_ = x_3.2) ∧
 True) ∧ true = true ∧ refB x.1 = refB x_3.1 ∧ True) ∧ (RefW x_3.1 ∧ I64 x_3.2) ∧ ∀ (y : Unit), True → Exx Unit fun y => ((decide (giveErr x_2.1 x_2.2 = giveErr
 x_3.1 x_3.2) = true ∧ True) ∧ allocB (giveS x_2.1 x_2.2) = allocB (stepS x.1 (x.2.kind % 7) x.2.at_) ∧ refB (giveS x_3.1 x_3.2) = refB (stepS x.1 (x.2.kind % 7)
 x.2.at_) ∧ true = true ∧ True) ∧ True) (BC (decide (x_1.1 % x_1.2 = (3 : Int))) (Exx (AllocT × Unit) fun x_2 => (((true = true ∧ NilNil ∧ (0 : Nat) = 0) ∧ True)
 ∧ true = true ∧ allocB x.1 = allocB x_2.1 ∧ True) ∧ (AllocW x_2.1 ∧ True) ∧ ∀ (y : Unit), True → I64 (x_1.1 % x_1.2 - 3) ∧ Exx (AllocT × Int) fun x_3 => (((true
 = true ∧ NilNil ∧ (0 : Nat) = 0) ∧ Tr 1 (x_1.1 % x_1.2 - 3 = x_3.2) ∧ True) ∧ true = true ∧ refB x.1 = refB x_3.1 ∧ True) ∧ (RefW x_3.1 ∧ I64 x_3.2) ∧ ∀ (y :
 Unit), True → Exx Unit fun y => ((true = true ∧ True) ∧ allocB (markS x_2.1) = allocB (stepS x.1 (x.2.kind % 7) x.2.at_) ∧ refB (doS x_3.1 x_3.2) = refB (stepS
 x.1 (x.2.kind % 7) x.2.at_) ∧ true = true ∧ True) ∧ True) (BC (decide (x_1.1 % x_1.2 = (4 : Int))) (Exx (AllocT × Unit) fun x_2 => (((true = true ∧ NilNil ∧ (0
 : Nat) = 0) ∧ True) ∧ true = true ∧ allocB x.1 = allocB x_2.1 ∧ True) ∧ (AllocW x_2.1 ∧ True) ∧ ∀ (y : Unit), True → I64 (x_1.1 % x_1.2 - 3) ∧ Exx (AllocT ×
 Int) fun x_3 => (((true = true ∧ NilNil ∧ (0 : Nat) = 0) ∧ Tr 1 (x_1.1 % x_1.2 - 3 = x_3.2) ∧ True) ∧ true = true ∧ refB x.1 = refB x_3.1 ∧ True) ∧ (RefW x_3.1
 ∧ I64 x_3.2) ∧ ∀ (y : Unit), True → Exx Unit fun y => ((true = true ∧ True) ∧ allocB (backS x_2.1) = allocB (stepS x.1 (x.2.kind % 7) x.2.at_) ∧ refB (doS x_3.1
 x_3.2) = refB (stepS x.1 (x.2.kind % 7) x.2.at_) ∧ true = true ∧ True) ∧ True) (BC (decide (x_1.1 % x_1.2 = (5 : Int))) (Exx (AllocT × Unit) fun x_2 => (((true
 = true ∧ NilNil ∧ (0 : Nat) = 0) ∧ True) ∧ true = true ∧ allocB x.1 = allocB x_2.1 ∧ True) ∧ (AllocW x_2.1 ∧ True) ∧ ∀ (y : Unit), True → I64 (x_1.1 % x_1.2 -
 3) ∧ Exx (AllocT × Int) fun x_3 => (((true = true ∧ NilNil ∧ (0 : Nat) = 0) ∧ Tr 1 (x_1.1 % x_1.2 - 3 = x_3.2) ∧ True) ∧ true = true ∧ refB x.1 = refB x_3.1 ∧
 True) ∧ (RefW x_3.1 ∧ I64 x_3.2) ∧ ∀ (y : Unit), True → Exx Unit fun y => ((true = true ∧ True) ∧ allocB (commitS x_2.1) = allocB (stepS x.1 (x.2.kind % 7)
 x.2.at_) ∧ refB (doS x_3.1 x_3.2) = refB (stepS x.1 (x.2.kind % 7) x.2.at_) ∧ true = true ∧ True) ∧ True) (BC (decide (x_1.1 % x_1.2 = (6 : Int))) (Exx (AllocT
 × Unit) fun x_2 => (((true = true ∧ NilNil ∧ (0 : Nat) = 0) ∧ True) ∧ true = true ∧ allocB x.1 = allocB x_2.1 ∧ True) ∧ (AllocW x_2.1 ∧ True) ∧ ∀ (y : Unit),
 True → I64 (x_1.1 % x_1.2 - 3) ∧ Exx (AllocT × Int) fun x_3 => (((true = true ∧ NilNil ∧ (0 : Nat) = 0) ∧ Tr 1 (x_1.1 % x_1.2 - 3 = x_3.2) ∧ True) ∧ true = true
 ∧ refB x.1 = refB x_3.1 ∧ True) ∧ (RefW x_3.1 ∧ I64 x_3.2) ∧ ∀ (y : Unit), True → Exx Unit fun y => ((true = true ∧ True) ∧ allocB (abortS x_2.1) = allocB
 (stepS x.1 (x.2.kind % 7) x.2.at_) ∧ refB (doS x_3.1 x_3.2) = refB (stepS x.1 (x.2.kind % 7) x.2.at_) ∧ true = true ∧ True) ∧ True) (I64 (x_1.1 % x_1.2 - 3) ∧
 Exx (AllocT × Int) fun x_2 => (((true = true ∧ NilNil ∧ (0 : Nat) = 0) ∧ Tr 1 (x_1.1 % x_1.2 - 3 = x_2.2) ∧ True) ∧ true = true ∧ refB x.1 = refB x_2.1 ∧ True)
 ∧ (RefW x_2.1 ∧ I64 x_2.2) ∧ ∀ (y : Unit), True → Exx Unit fun y => ((true = true ∧ True) ∧ allocB x.1 = allocB (stepS x.1 (x.2.kind % 7) x.2.at_) ∧ refB (doS
 x_2.1 x_2.2) = refB (stepS x.1 (x.2.kind % 7) x.2.at_) ∧ true = true ∧ True) ∧ True)))))))) = (fnVC tb [(10, specOf allocTakeC), (11, specOf allocSpareC), (13, specOf restC), (15, specOf allocGiveC), (16, specOf allocMarkC), (17, specOf allocBackC), (18, specOf allocCommitC), (21, specOf allocAbortC), (39, specOf refTakeC), (40, specOf refGiveC), (41, specOf refDoC)] Tryd.f23 do18C (fun x => { loose := [(12, [0, 1])] }) (fun _ => none)) := by kernel_rfl 

theorem do18_ok : SpecOk Tryd.prog 23 (specOf do18C) := by
  refine specOk mixed tb_ok (SPok.cons allocTake_ok (SPok.cons allocSpare_ok (SPok.cons rest_ok (SPok.cons allocGive_ok (SPok.cons allocMark_ok (SPok.cons allocBack_ok (SPok.cons allocCommit_ok (SPok.cons allocAbort_ok (SPok.cons refTake_ok (SPok.cons refGive_ok (SPok.cons refDo_ok SPok.nil))))))))))) Tryd.func23 (by decide) do18C_ok (an := (fun x => { loose := [(12, [0, 1])] })) (σ := (fun _ => none)) ?_
  rw [← do18V]
  simp (maxSteps := 10000000) only [and_false, false_and, false_or, or_false, bOf_true, bOf_false, true_bOf, false_bOf, Exx, int_ite, merge_o, Tr_eq, true_and, and_true, exists_const, forall_const, implies_true, forall_eq, exists_eq, exists_eq', exists_eq_left, exists_eq_left', exists_eq_right, Prod.exists, Prod.forall, and_assoc, exists_and_left, BC_iff, Bool.not_eq_true', Bool.not_eq_false', decide_eq_true_eq, decide_eq_false_iff_not, I64, nat_cast_inj, Int.toNat_natCast, nats_iff, nats_iff', ints_iff, ints_iff', natss_iff, natss_iff', nilnil, litL_eq, str_inj, str_append, str_length, str_getD, str_take, lit1_iff, one_iff, two_iff, one_get, Nat.zero_add, Nat.sub_zero, Nat.reduceMul, Nat.reduceDiv, Nat.reduceAdd, Int.reduceToNat, Nat.not_lt_zero, if_false, if_true, Nat.le_refl, List.length_singleton, List.length_cons, List.length_nil, Bool.false_eq_true, not_true_eq_false, false_implies, not_false_eq_true, Prod.mk.injEq, allocB_inj, refB_inj]
  rintro x a ⟨h, ha⟩
  have hW := h.W.W
  have hk := Int.emod_nonneg a.kind (show (7 : Int) ≠ 0 by decide)
  have hk2 := Int.emod_lt_of_pos a.kind (show (0 : Int) < 7 by decide)
  have hI : I64 x.r := hW.2.1
  obtain ⟨i1, i2⟩ := hI
  obtain ⟨⟨a1, a2⟩, a3, a4⟩ := ha
  refine ⟨a1, a2, by omega, by omega, fun h0 => ?_, fun h0 => ⟨fun h1 => ?_, fun h1 => ⟨fun h2 => ?_, fun h2 => ⟨fun h3 => ?_, fun h3 => ⟨fun h4 => ?_, fun h4 => ⟨fun h5 => ?_, fun h5 => ⟨fun h6 => ?_, fun h6 => by omega⟩⟩⟩⟩⟩⟩⟩
  · rw [stepS, if_pos h0]; exact ⟨hW, h.W, i1, i2, h.r, rfl, rfl⟩
  · rw [stepS, if_neg h0, if_pos h1]; exact ⟨hW, h.W, by omega, by omega, by omega, rfl, rfl⟩
  · rw [stepS, if_neg h0, if_neg h1, if_pos h2]; exact ⟨hW, a3, a4, h.W, a3, a4, rfl, rfl⟩
  all_goals
    rw [stepS, if_neg h0, if_neg h1, if_neg h2]
  · rw [h3]; exact ⟨hW, by decide, by decide, h.W, by decide, by decide, rfl, rfl⟩
  · rw [h4]; exact ⟨hW, by decide, by decide, h.W, by decide, by decide, rfl, rfl⟩
  · rw [h5]; exact ⟨hW, by decide, by decide, h.W, by decide, by decide, rfl, rfl⟩
  · rw [h6]; exact ⟨hW, by decide, by decide, h.W, by decide, by decide, rfl, rfl⟩

end Yard
