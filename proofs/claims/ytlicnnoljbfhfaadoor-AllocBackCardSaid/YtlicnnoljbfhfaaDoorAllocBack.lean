import Derived.Test.YtlicnnoljbfhfaaDoorLaw18
import Derived.Test.YtlicnnoljbfhfaaDoorRef18Do
import Derived.Test.YtlicnnoljbfhfaaDoorRef18Take

namespace Yard
open Go Go.Sx Go.Proofs
set_option linter.unusedVariables false
set_option linter.unusedSimpArgs false
set_option maxRecDepth 4000
set_option maxHeartbeats 4000000

def doTwoC : Ctr where
  X := AllocT × AllocT × Act18
  Y := Bool
  conv := true
  tau := tau2
  pre := fun x => RefR x.1 ∧ RefR x.2.1 ∧ Act18I x.2.2
  args := fun x => [.ptr 0 [] 0, .ptr 1 [] 0, .agg (act18V x.2.2)]
  heap := fun x => [allocI x.1, refI x.2.1]
  Q := fun _ _ => True
  res := fun _ b => .bool b
  its := fun x _ => [allocI (stepS x.1 (x.2.2.kind % 7) x.2.2.at_), refI (stepS x.2.1 (x.2.2.kind % 7) x.2.2.at_)]
  new := fun _ _ => []
theorem doTwoC_ok : CtrOk doTwoC :=
  ⟨fun _ _ _ _ => (rfl : 2 = 2), fun _ _ _ _ => ⟨rfl, rfl⟩, fun x _ _ _ _ => ⟨⟨⟨trivial, trivial, trivial⟩, trivial⟩, rfl⟩⟩

theorem doTwoV : (∀ (x : AllocT × AllocT × Act18), RefR x.1 ∧ RefR x.2.1 ∧ Act18I x.2.2 → Exx (Int × Int) fun x_1 => ((Tr 1 (x.2.2.kind = x_1.1) ∧ Tr 1 ((7 :
 Int) = x_1.2) ∧ True) ∧ true = true ∧ True) ∧ (I64 x_1.1 ∧ (1 : Int) ≤ x_1.2 ∧ x_1.2 ≤ (1000000 : Int)) ∧ ∀ (y : Unit), True → BC (decide (x_1.1 % x_1.2 = (0 :
 Int))) (Exx (AllocT × Unit) fun x_2 => (((true = true ∧ NilNil ∧ (0 : Nat) = 0) ∧ True) ∧ true = true ∧ allocB x.1 = allocB x_2.1 ∧ True) ∧ (AllocW x_2.1 ∧
 True) ∧ ∀ (y : Unit), True → Exx (AllocT × Int) fun x_3 => (((true = true ∧ NilNil ∧ (0 : Nat) = 0) ∧ Tr 1 (x.2.1.r = x_3.2) ∧ True) ∧ true = true ∧ refB x.2.1
 = refB x_3.1 ∧ True) ∧ (RefW x_3.1 ∧ I64 x_3.2 ∧ (0 : Int) ≤ x_3.2) ∧ ∀ (y : Unit), True → BC (decide (takeAt x_2.1 x_2.1.r = takeAt x_3.1 x_3.2)) (Exx Bool fun
 y => ((decide (takeErr x_2.1 x_2.1.r = takeErr x_3.1 x_3.2) = y ∧ True) ∧ allocB (takeS x_2.1 x_2.1.r) = allocB (stepS x.1 (x.2.2.kind % 7) x.2.2.at_) ∧ refB
 (takeS x_3.1 x_3.2) = refB (stepS x.2.1 (x.2.2.kind % 7) x.2.2.at_) ∧ true = true ∧ True) ∧ True) (Exx Bool fun y => ((false = y ∧ True) ∧ allocB (takeS x_2.1
 x_2.1.r) = allocB (stepS x.1 (x.2.2.kind % 7) x.2.2.at_) ∧ refB (takeS x_3.1 x_3.2) = refB (stepS x.2.1 (x.2.2.kind % 7) x.2.2.at_) ∧ true = true ∧ True) ∧
 True)) (BC (decide (x_1.1 % x_1.2 = (1 : Int))) (Exx (AllocT × Unit) fun x_2 => (((true = true ∧ NilNil ∧ (0 : Nat) = 0) ∧ True) ∧ true = true ∧ allocB x.1 =
 allocB x_2.1 ∧ True) ∧ (AllocW x_2.1 ∧ True) ∧ ∀ (y : Unit), True → Exx (AllocT × Int) fun x_3 => (((true = true ∧ NilNil ∧ (0 : Nat) = 0) ∧ Tr 1 ((0 : Int) =
 x_3.2) ∧ True) ∧ true = true ∧ refB x.2.1 = refB x_3.1 ∧ True) ∧ (RefW x_3.1 ∧ I64 x_3.2 ∧ (0 : Int) ≤ x_3.2) ∧ ∀ (y : Unit), True → BC (decide (takeAt x_2.1 0
 = takeAt x_3.1 x_3.2)) (Exx Bool fun y => ((decide (takeErr x_2.1 0 = takeErr x_3.1 x_3.2) = y ∧ True) ∧ allocB (takeS x_2.1 0) = allocB (stepS x.1 (x.2.2.kind
 % 7) x.2.2.at_) ∧ refB (takeS x_3.1 x_3.2) = refB (stepS x.2.1 (x.2.2.kind % 7) x.2.2.at_) ∧ true = true ∧ True) ∧ True) (Exx Bool fun y => ((false = y ∧ True)
 ∧ allocB (takeS x_2.1 0) = allocB (stepS x.1 (x.2.2.kind % 7) x.2.2.at_) ∧ refB (takeS x_3.1 x_3.2) = refB (stepS x.2.1 (x.2.2.kind % 7) x.2.2.at_) ∧ true =
 true ∧ True) ∧ True)) (BC (decide (x_1.1 % x_1.2 = (2 : Int))) (Exx (AllocT × Int) fun x_2 => (((true = true ∧ NilNil ∧ (0 : Nat) = 0) ∧ Tr 1 (x.2.2.at_ =
 x_2.2) ∧ True) ∧ true = true ∧ allocB x.1 = allocB x_2.1 ∧ True) ∧ (AllocW x_2.1 ∧ I64 x_2.2) ∧ ∀ (y : Unit), True → Exx (AllocT × Int) fun x_3 => (((true =
 true ∧ NilNil ∧ (0 : Nat) = 0) ∧ Tr 1 (x.2.2.at_ = x_3.2) ∧ True) ∧ true = true ∧ refB x.2.1 = refB x_3.1 ∧ True) ∧ (RefW x_3.1 ∧ I64 x_3.2) ∧ ∀ (y : Unit),
 True → Exx Bool fun y => ((decide (giveErr x_2.1 x_2.2 = giveErr x_3.1 x_3.2) = y ∧ True) ∧ allocB (giveS x_2.1 x_2.2) = allocB (stepS x.1 (x.2.2.kind % 7)
 x.2.2.at_) ∧ refB (giveS x_3.1 x_3.2) = refB (stepS x.2.1 (x.2.2.kind % 7) x.2.2.at_) ∧ true = true ∧ True) ∧ True) (BC (decide (x_1.1 % x_1.2 = (3 : Int)))
 (Exx (AllocT × Unit) fun x_2 => (((true = true ∧ NilNil ∧ (0 : Nat) = 0) ∧ True) ∧ true = true ∧ allocB x.1 = allocB x_2.1 ∧ True) ∧ (AllocW x_2.1 ∧ True) ∧ ∀
 (y : Unit), True → I64 (x_1.1 % x_1.2 - 3) ∧ Exx (AllocT × Int) fun x_3 => (((true = true ∧ NilNil ∧ (0 : Nat) = 0) ∧ Tr 1 (x_1.1 % x_1.2 - 3 = x_3.2) ∧ True) ∧
 true = true ∧ refB x.2.1 = refB x_3.1 ∧ True) ∧ (RefW x_3.1 ∧ I64 x_3.2) ∧ ∀ (y : Unit), True → Exx Bool fun y => ((true = y ∧ True) ∧ allocB (markS x_2.1) =
 allocB (stepS x.1 (x.2.2.kind % 7) x.2.2.at_) ∧ refB (doS x_3.1 x_3.2) = refB (stepS x.2.1 (x.2.2.kind % 7) x.2.2.at_) ∧ true = true ∧ True) ∧ True) (BC (decide
 (x_1.1 % x_1.2 = (4 : Int))) (Exx (AllocT × Unit) fun x_2 => (((true = true ∧ NilNil ∧ (0 : Nat) = 0) ∧ True) ∧ true = true ∧ allocB x.1 = allocB x_2.1 ∧ True)
 ∧ (AllocW x_2.1 ∧ True) ∧ ∀ (y : Unit), True → I64 (x_1.1 % x_1.2 - 3) ∧ Exx (AllocT × Int) fun x_3 => (((true = true ∧ NilNil ∧ (0 : Nat) = 0) ∧ Tr 1 (x_1.1 %
 x_1.2 - 3 = x_3.2) ∧ True) ∧ true = true ∧ refB x.2.1 = refB x_3.1 ∧ True) ∧ (RefW x_3.1 ∧ I64 x_3.2) ∧ ∀ (y : Unit), True → Exx Bool fun y => ((true = y ∧
 True) ∧ allocB (backS x_2.1) = allocB (stepS x.1 (x.2.2.kind % 7) x.2.2.at_) ∧ refB (doS x_3.1 x_3.2) = refB (stepS x.2.1 (x.2.2.kind % 7) x.2.2.at_) ∧ true =
 true ∧ True) ∧ True) (BC (decide (x_1.1 % x_1.2 = (5 : Int))) (Exx (AllocT × Unit) fun x_2 => (((true = true ∧ NilNil ∧ (0 : Nat) = 0) ∧ True) ∧ true = true ∧
 allocB x.1 = allocB x_2.1 ∧ True) ∧ (AllocW x_2.1 ∧ True) ∧ ∀ (y : Unit), True → I64 (x_1.1 % x_1.2 - 3) ∧ Exx (AllocT × Int) fun x_3 => (((true = true ∧ NilNil
 ∧ (0 : Nat) = 0) ∧ Tr 1 (x_1.1 % x_1.2 - 3 = x_3.2) ∧ True) ∧ true = true ∧ refB x.2.1 = refB x_3.1 ∧ True) ∧ (RefW x_3.1 ∧ I64 x_3.2) ∧ ∀ (y : Unit), True →
 Exx Bool fun y => ((true = y ∧ True) ∧ allocB (commitS x_2.1) = allocB (stepS x.1 (x.2.2.kind % 7) x.2.2.at_) ∧ refB (doS x_3.1 x_3.2) = refB (stepS x.2.1
 (x.2.2.kind % 7) x.2.2.at_) ∧ true = true ∧ True) ∧ True) (BC (decide (x_1.1 % x_1.2 = (6 : Int))) (Exx (AllocT × Unit) fun x_2 => (((true = true ∧ NilNil ∧ (0
 : Nat) = 0) ∧ True) ∧ true = true ∧ allocB x.1 = allocB x_2.1 ∧ True) ∧ (AllocW x_2.1 ∧ True) ∧ ∀ (y : Unit), True → I64 (x_1.1 % x_1.2 - 3) ∧ Exx (AllocT ×
 Int) fun x_3 => (((true = true ∧ NilNil ∧ (0 : Nat) = 0) ∧ Tr 1 (x_1.1 % x_1.2 - 3 = x_3.2) ∧ True) ∧ true = true ∧ refB x.2.1 = refB x_3.1 ∧ True) ∧ (RefW
 x_3.1 ∧ I64 x_3.2) ∧ ∀ (y : Unit), True → Exx Bool fun y => ((true = y ∧ True) ∧ allocB (abortS x_2.1) = allocB (stepS x.1 (x.2.2.kind % 7) x.2.2.at_) ∧ refB
 (doS x_3.1 x_3.2) = refB (stepS x.2.1 (x.2.2.kind % 7) x.2.2.at_) ∧ true = true ∧ True) ∧ True) (I64 (x_1.1 % x_1.2 - 3) ∧ Exx (AllocT × Int) fun x_2 => (((true
 = true ∧ NilNil ∧ (0 : Nat) = 0) ∧ Tr 1 (x_1.1 % x_1.2 - 3 = x_2.2) ∧ True) ∧ true = true ∧ refB x.2.1 = refB x_2.1 ∧ True) ∧ (RefW x_2.1 ∧ I64 x_2.2) ∧ ∀ (y :
 Unit), True → Exx Bool fun y => ((true = y ∧ True) ∧ allocB x.1 = allocB (stepS x.1 (x.2.2.kind % 7) x.2.2.at_) ∧ refB (doS x_2.1 x_2.2) = refB (stepS x.2.1
 (x.2.2.kind % 7) x.2.2.at_) ∧ true = true ∧ True) ∧ True)))))))) = (fnVC tb [(10, specOf allocTakeC), (11, specOf allocSpareC), (13, specOf restC), (15, specOf allocGiveC), (16, specOf allocMarkC), (17, specOf allocBackC), (18, specOf allocCommitC), (21, specOf allocAbortC), (39, specOf refTakeC), (40, specOf refGiveC), (41, specOf refDoC)] Tryd.f23 doTwoC (fun x => { loose := [(12, [0, 1])] }) (fun _ => none)) := by kernel_rfl 

theorem doTwo_ok : SpecOk Tryd.prog 23 (specOf doTwoC) := by
  refine specOk mixed tb_ok (SPok.cons allocTake_ok (SPok.cons allocSpare_ok (SPok.cons rest_ok (SPok.cons allocGive_ok (SPok.cons allocMark_ok (SPok.cons allocBack_ok (SPok.cons allocCommit_ok (SPok.cons allocAbort_ok (SPok.cons refTake_ok (SPok.cons refGive_ok (SPok.cons refDo_ok SPok.nil))))))))))) Tryd.func23 (by decide) doTwoC_ok (an := (fun x => { loose := [(12, [0, 1])] })) (σ := (fun _ => none)) ?_
  rw [← doTwoV]
  simp (maxSteps := 10000000) only [and_false, false_and, false_or, or_false, bOf_true, bOf_false, true_bOf, false_bOf, Exx, int_ite, merge_o, Tr_eq, true_and, and_true, exists_const, forall_const, implies_true, forall_eq, exists_eq, exists_eq', exists_eq_left, exists_eq_left', exists_eq_right, Prod.exists, Prod.forall, and_assoc, exists_and_left, BC_iff, Bool.not_eq_true', Bool.not_eq_false', decide_eq_true_eq, decide_eq_false_iff_not, I64, nat_cast_inj, Int.toNat_natCast, nats_iff, nats_iff', ints_iff, ints_iff', natss_iff, natss_iff', nilnil, litL_eq, str_inj, str_append, str_length, str_getD, str_take, lit1_iff, one_iff, two_iff, one_get, Nat.zero_add, Nat.sub_zero, Nat.reduceMul, Nat.reduceDiv, Nat.reduceAdd, Int.reduceToNat, Nat.not_lt_zero, if_false, if_true, Nat.le_refl, List.length_singleton, List.length_cons, List.length_nil, Bool.false_eq_true, not_true_eq_false, false_implies, not_false_eq_true, Prod.mk.injEq, allocB_inj, refB_inj]
  rintro x y a ⟨h, hy, ha⟩
  have hW := h.W.W
  have hY := hy.W.W
  have hk := Int.emod_nonneg a.kind (show (7 : Int) ≠ 0 by decide)
  have hk2 := Int.emod_lt_of_pos a.kind (show (0 : Int) < 7 by decide)
  have hI : I64 y.r := hY.2.1
  obtain ⟨i1, i2⟩ := hI
  obtain ⟨⟨a1, a2⟩, a3, a4⟩ := ha
  refine ⟨a1, a2, by omega, by omega, fun h0 => ?_, fun h0 => ⟨fun h1 => ?_, fun h1 => ⟨fun h2 => ?_, fun h2 => ⟨fun h3 => ?_, fun h3 => ⟨fun h4 => ?_, fun h4 => ⟨fun h5 => ?_, fun h5 => ⟨fun h6 => ?_, fun h6 => by omega⟩⟩⟩⟩⟩⟩⟩
  · rw [stepS, stepS, if_pos h0, if_pos h0]; exact ⟨hW, hy.W, i1, i2, hy.r, fun _ => ⟨rfl, rfl⟩, fun _ => ⟨rfl, rfl⟩⟩
  · rw [stepS, stepS, if_neg h0, if_neg h0, if_pos h1, if_pos h1]; exact ⟨hW, hy.W, by omega, by omega, by omega, fun _ => ⟨rfl, rfl⟩, fun _ => ⟨rfl, rfl⟩⟩
  · rw [stepS, stepS, if_neg h0, if_neg h0, if_neg h1, if_neg h1, if_pos h2, if_pos h2]; exact ⟨hW, a3, a4, hy.W, a3, a4, rfl, rfl⟩
  all_goals
    rw [stepS, stepS, if_neg h0, if_neg h0, if_neg h1, if_neg h1, if_neg h2, if_neg h2]
  · rw [h3]; exact ⟨hW, by decide, by decide, hy.W, by decide, by decide, rfl, rfl⟩
  · rw [h4]; exact ⟨hW, by decide, by decide, hy.W, by decide, by decide, rfl, rfl⟩
  · rw [h5]; exact ⟨hW, by decide, by decide, hy.W, by decide, by decide, rfl, rfl⟩
  · rw [h6]; exact ⟨hW, by decide, by decide, hy.W, by decide, by decide, rfl, rfl⟩

structure SinceMark (b x : AllocT) : Prop where
  R : RefR x
  n : x.n = b.n
  r : x.r = b.r
  c : x.c = b.c
  e : x.e = b.e
  m : x.m = b.m
theorem SinceMark.step {b x : AllocT} (h : SinceMark b x) {k : Int} (hk : k < 3) (h0 : 0 ≤ k) (a : Int) : SinceMark b (stepS x k a) := by
  have t : ∀ r, (takeS x r).n = x.n ∧ (takeS x r).r = x.r ∧ (takeS x r).c = x.c ∧ (takeS x r).e = x.e ∧ (takeS x r).m = x.m := fun r => by
    unfold takeS
    split <;> exact ⟨rfl, rfl, rfl, rfl, rfl⟩
  have hR := stepS_R h.R k a
  have e : (stepS x k a).n = x.n ∧ (stepS x k a).r = x.r ∧ (stepS x k a).c = x.c ∧ (stepS x k a).e = x.e ∧ (stepS x k a).m = x.m := by
    unfold stepS
    split
    · exact t _
    split
    · exact t _
    split
    · exact ⟨rfl, rfl, rfl, rfl, rfl⟩
    · omega
  exact ⟨hR, e.1.trans h.n, e.2.1.trans h.r, e.2.2.1.trans h.c, e.2.2.2.1.trans h.e, e.2.2.2.2.trans h.m⟩
theorem SinceMark.back {b x : AllocT} (h : SinceMark (markS b) x) : backS x = markS b := by
  obtain ⟨_, h1, h2, h3, h4, h5⟩ := h
  cases x; cases b
  simp only [markS, backS, becomeS, maskSet, maskAt] at *
  rw [h1, h2, h3, h4, h5]

def backLawC : Ctr := pureC (StartX × List Act18 × List Act18) (fun x => StartI x.1 ∧ Acts18 x.2.1 ∧ Acts18 x.2.2) (fun x => [startA x.1, acts18A x.2.1, acts18A x.2.2]) (fun _ => .bool true)
def backLA (x : StartX × List Act18 × List Act18) : LA := { T := Nat × AllocT, F := fun t => frm 88 [(1, acts18A x.2.1), (2, acts18A x.2.2), (7, .ptr 2 [] 0), (8, .ptr 3 [] 0), (9, i64 (t.1 : Nat))], H := fun t => [.fence, .cells 24 [.int .u8 (x.1.1 : Nat), intA x.1.2.1, intA x.1.2.2.1, i64 x.1.2.2.2], allocI t.2, refI t.2] }
def backLB (x : StartX × List Act18 × List Act18) : LA := { T := Nat × AllocT × AllocT × (Nat × Nat) × Int × Nat, F := fun t => frm 88 [(1, acts18A x.2.1), (2, acts18A x.2.2), (7, .ptr 2 [] 0), (8, .ptr 3 [] 0), (10, .sl 5 [] 0 1 0 (listN t.2.2.2.1).length t.2.2.2.2.2), (11, i64 t.2.2.2.2.1), (12, i64 (t.1 : Nat))], H := fun t => [.fence, .cells 24 [.int .u8 (x.1.1 : Nat), intA x.1.2.1, intA x.1.2.2.1, i64 x.1.2.2.2], allocI t.2.1, refI t.2.2.1, setI t.2.2.2.1, rowI 3 .i64 t.2.2.2.2.2 (listN t.2.2.2.1)] }

theorem backLawV : (∀ (x : StartX × List Act18 × List Act18), StartI x.1 ∧ Acts18 x.2.1 ∧ Acts18 x.2.2 → Exx Unit fun x_1 => Tr 1 (true = true ∧ True) ∧ Tr 1 (∀
 (y : Unit), True → BC (decide ((30 : Int) < (↑x.2.1.length : Int))) (Exx Unit fun x => Tr 1 (true = true ∧ True) ∧ Tr 1 (∀ (y : Unit), True → Exx Unit fun y =>
 ((true = true ∧ True) ∧ true = true ∧ True) ∧ True)) (BC (decide ((30 : Int) < (↑x.2.2.length : Int))) (Exx Unit fun x => Tr 1 (true = true ∧ True) ∧ Tr 1 (∀ (y
 : Unit), True → Exx Unit fun y => ((true = true ∧ True) ∧ true = true ∧ True) ∧ True)) (Exx (Nat × List Int × List Int × Int) fun x_2 => (((Tr 1 ((↑x.1.1 : Int)
 = (↑x_2.1 : Int)) ∧ (x.1.2.1.length = x_2.2.1.length ∧ ∀ (i : Nat), i < x_2.2.1.length → [AV.int .i64 (x.1.2.1.getD i 0)] = [AV.int .i64 (x_2.2.1.getD i 0)]) ∧
 (x.1.2.2.1.length = x_2.2.2.1.length ∧ ∀ (i : Nat), i < x_2.2.2.1.length → [AV.int .i64 (x.1.2.2.1.getD i 0)] = [AV.int .i64 (x_2.2.2.1.getD i 0)]) ∧ Tr 1
 (x.1.2.2.2 = x_2.2.2.2) ∧ True) ∧ True) ∧ true = true ∧ True) ∧ (x_2.1 < 256 ∧ IntL x_2.2.1 ∧ IntL x_2.2.2.1 ∧ I64 x_2.2.2.2) ∧ (x_2.2.1.length ≤ 40 ∧
 x_2.2.2.1.length ≤ 40 ∧ (0 : Int) ≤ x_2.2.2.2 → ∀ (y : Unit), True → Exx (Nat × AllocT → Prop) fun I => Exx (Nat × AllocT → Nat) fun m => (Exx (Nat × AllocT)
 fun t => I t ∧ Tr 1 (((2 : Nat) = 2 ∧ x.2.1.length = x.2.1.length ∧ ∀ (i : Nat), i < x.2.1.length → [AV.int .i64 (x.2.1.getD i act18Z).kind, AV.int .i64
 (x.2.1.getD i act18Z).at_] = [AV.int .i64 (x.2.1.getD i act18Z).kind, AV.int .i64 (x.2.1.getD i act18Z).at_]) ∧ ((2 : Nat) = 2 ∧ x.2.2.length = x.2.2.length ∧ ∀
 (i : Nat), i < x.2.2.length → [AV.int .i64 (x.2.2.getD i act18Z).kind, AV.int .i64 (x.2.2.getD i act18Z).at_] = [AV.int .i64 (x.2.2.getD i act18Z).kind, AV.int
 .i64 (x.2.2.getD i act18Z).at_]) ∧ Tr 4 ((true = true ∧ NilNil ∧ (0 : Nat) = 0) ∧ (true = true ∧ NilNil ∧ (0 : Nat) = 0) ∧ Tr 1 ((0 : Int) = (↑t.1 : Int)) ∧ Tr
 78 True)) ∧ true = true ∧ ((24 : Nat) = (24 : TypeId) ∧ Tr 1 ((↑x.1.1 : Int) = (↑x.1.1 : Int)) ∧ ((1 : Nat) = 1 ∧ x.1.2.1.length = x.1.2.1.length ∧ ∀ (i : Nat),
 i < x.1.2.1.length → [AV.int .i64 (x.1.2.1.getD i 0)] = [AV.int .i64 (x.1.2.1.getD i 0)]) ∧ ((1 : Nat) = 1 ∧ x.1.2.2.1.length = x.1.2.2.1.length ∧ ∀ (i : Nat),
 i < x.1.2.2.1.length → [AV.int .i64 (x.1.2.2.1.getD i 0)] = [AV.int .i64 (x.1.2.2.1.getD i 0)]) ∧ Tr 1 (x.1.2.2.2 = x.1.2.2.2) ∧ True) ∧ allocB (startS x_2) =
 allocB t.2 ∧ refB (startS x_2) = refB t.2 ∧ True) ∧ ∀ (t : Nat × AllocT), I t → BC (decide ((↑t.1 : Int) < (↑x.2.1.length : Int))) (((0 : Int) ≤ (↑t.1 : Int) ∧
 (↑t.1 : Int) < (↑x.2.1.length : Int)) ∧ Exx (AllocT × AllocT × Act18) fun x_3 => (((true = true ∧ NilNil ∧ (0 : Nat) = 0) ∧ (true = true ∧ NilNil ∧ (0 : Nat) =
 0) ∧ (Tr 1 ((x.2.1.getD (↑t.1 : Int).toNat act18Z).kind = x_3.2.2.kind) ∧ Tr 1 ((x.2.1.getD (↑t.1 : Int).toNat act18Z).at_ = x_3.2.2.at_) ∧ True) ∧ True) ∧ true
 = true ∧ allocB t.2 = allocB x_3.1 ∧ refB t.2 = refB x_3.2.1 ∧ True) ∧ (RefR x_3.1 ∧ RefR x_3.2.1 ∧ Act18I x_3.2.2) ∧ ∀ (y : Bool), True → I64 ((↑t.1 : Int) +
 1) ∧ Exx (Nat × AllocT) fun t' => (I t' ∧ m t' < m t) ∧ Tr 1 (((2 : Nat) = 2 ∧ x.2.1.length = x.2.1.length ∧ ∀ (i : Nat), i < x.2.1.length → [AV.int .i64
 (x.2.1.getD i act18Z).kind, AV.int .i64 (x.2.1.getD i act18Z).at_] = [AV.int .i64 (x.2.1.getD i act18Z).kind, AV.int .i64 (x.2.1.getD i act18Z).at_]) ∧ ((2 :
 Nat) = 2 ∧ x.2.2.length = x.2.2.length ∧ ∀ (i : Nat), i < x.2.2.length → [AV.int .i64 (x.2.2.getD i act18Z).kind, AV.int .i64 (x.2.2.getD i act18Z).at_] =
 [AV.int .i64 (x.2.2.getD i act18Z).kind, AV.int .i64 (x.2.2.getD i act18Z).at_]) ∧ Tr 4 ((true = true ∧ NilNil ∧ (0 : Nat) = 0) ∧ (true = true ∧ NilNil ∧ (0 :
 Nat) = 0) ∧ Tr 1 ((↑t.1 : Int) + 1 = (↑t'.fst : Int)) ∧ Tr 78 True)) ∧ true = true ∧ ((24 : TypeId) = 24 ∧ Tr 1 ((↑x.1.1 : Int) = (↑x.1.1 : Int)) ∧ ((1 : Nat) =
 1 ∧ x.1.2.1.length = x.1.2.1.length ∧ ∀ (i : Nat), i < x.1.2.1.length → [AV.int .i64 (x.1.2.1.getD i 0)] = [AV.int .i64 (x.1.2.1.getD i 0)]) ∧ ((1 : Nat) = 1 ∧
 x.1.2.2.1.length = x.1.2.2.1.length ∧ ∀ (i : Nat), i < x.1.2.2.1.length → [AV.int .i64 (x.1.2.2.1.getD i 0)] = [AV.int .i64 (x.1.2.2.1.getD i 0)]) ∧ Tr 1
 (x.1.2.2.2 = x.1.2.2.2) ∧ True) ∧ allocB (stepS x_3.1 (x_3.2.2.kind % 7) x_3.2.2.at_) = allocB t'.snd ∧ refB (stepS x_3.2.1 (x_3.2.2.kind % 7) x_3.2.2.at_) =
 refB t'.snd ∧ True) (Exx (AllocT × Unit) fun x_3 => (((true = true ∧ NilNil ∧ (0 : Nat) = 0) ∧ True) ∧ true = true ∧ allocB t.2 = allocB x_3.1 ∧ True) ∧ (AllocW
 x_3.1 ∧ True) ∧ ∀ (y : Unit), True → Exx AllocT fun x_4 => (((true = true ∧ NilNil ∧ (0 : Nat) = 0) ∧ True) ∧ true = true ∧ allocB (markS x_3.1) = allocB x_4 ∧
 True) ∧ AllocW x_4 ∧ ∀ (y : Unit), True → Exx (Nat × Nat) fun x_5 => (((true = true ∧ NilNil ∧ (0 : Nat) = 0) ∧ True) ∧ true = true ∧ setB (x_4.n, x_4.w) = setB
 x_5 ∧ True) ∧ SetW x_5 ∧ ∀ (y : Nat), (listN x_5).length ≤ y → Exx (AllocT × Unit) fun x_6 => (((true = true ∧ NilNil ∧ (0 : Nat) = 0) ∧ True) ∧ true = true ∧
 allocB x_4 = allocB x_6.1 ∧ True) ∧ (AllocW x_6.1 ∧ True) ∧ ∀ (y_1 : Unit), True → Exx (Nat × AllocT × AllocT × (Nat × Nat) × Int × Nat → Prop) fun I => Exx
 (Nat × AllocT × AllocT × (Nat × Nat) × Int × Nat → Nat) fun m => (Exx (Nat × AllocT × AllocT × (Nat × Nat) × Int × Nat) fun t_1 => I t_1 ∧ Tr 1 (((2 : Nat) = 2
 ∧ x.2.1.length = x.2.1.length ∧ ∀ (i : Nat), i < x.2.1.length → [AV.int .i64 (x.2.1.getD i act18Z).kind, AV.int .i64 (x.2.1.getD i act18Z).at_] = [AV.int .i64
 (x.2.1.getD i act18Z).kind, AV.int .i64 (x.2.1.getD i act18Z).at_]) ∧ ((2 : Nat) = 2 ∧ x.2.2.length = x.2.2.length ∧ ∀ (i : Nat), i < x.2.2.length → [AV.int
 .i64 (x.2.2.getD i act18Z).kind, AV.int .i64 (x.2.2.getD i act18Z).at_] = [AV.int .i64 (x.2.2.getD i act18Z).kind, AV.int .i64 (x.2.2.getD i act18Z).at_]) ∧ Tr
 4 ((true = true ∧ NilNil ∧ (0 : Nat) = 0) ∧ (true = true ∧ NilNil ∧ (0 : Nat) = 0) ∧ Tr 1 ((true = true ∧ NilNil ∧ (0 : Nat) = 0 ∧ (1 : Nat) = 1 ∧ (0 : Nat) = 0
 ∧ (listN x_5).length = (listN t_1.2.2.2.1).length ∧ y = t_1.2.2.2.2.2) ∧ Tr 1 (freeN x_6.1 = t_1.2.2.2.2.1) ∧ Tr 1 ((0 : Int) = (↑t_1.1 : Int)) ∧ Tr 75 True)))
 ∧ true = true ∧ ((24 : TypeId) = 24 ∧ Tr 1 ((↑x.1.1 : Int) = (↑x.1.1 : Int)) ∧ ((1 : Nat) = 1 ∧ x.1.2.1.length = x.1.2.1.length ∧ ∀ (i : Nat), i <
 x.1.2.1.length → [AV.int .i64 (x.1.2.1.getD i 0)] = [AV.int .i64 (x.1.2.1.getD i 0)]) ∧ ((1 : Nat) = 1 ∧ x.1.2.2.1.length = x.1.2.2.1.length ∧ ∀ (i : Nat), i <
 x.1.2.2.1.length → [AV.int .i64 (x.1.2.2.1.getD i 0)] = [AV.int .i64 (x.1.2.2.1.getD i 0)]) ∧ Tr 1 (x.1.2.2.2 = x.1.2.2.2) ∧ True) ∧ allocB x_6.1 = allocB
 t_1.2.1 ∧ refB t.2 = refB t_1.2.2.1 ∧ setB x_5 = setB t_1.2.2.2.1 ∧ ((3 : TypeId) = 3 ∧ (1 : Nat) = 1 ∧ y = t_1.2.2.2.2.2 ∧ (listN t_1.2.2.2.1).length ≤ (listN
 x_5).length ∧ ∀ (i : Nat), i < (listN t_1.2.2.2.1).length → [AV.int .i64 ((listN x_5).getD i 0)] = [AV.int .i64 ((listN t_1.2.2.2.1).getD i 0)]) ∧ True) ∧ ∀ (t
 : Nat × AllocT × AllocT × (Nat × Nat) × Int × Nat), I t → BC (decide ((↑t.1 : Int) < (↑x.2.2.length : Int))) (((0 : Int) ≤ (↑t.1 : Int) ∧ (↑t.1 : Int) <
 (↑x.2.2.length : Int)) ∧ Exx (Int × Int) fun x_7 => ((Tr 1 ((x.2.2.getD (↑t.1 : Int).toNat act18Z).kind = x_7.1) ∧ Tr 1 ((7 : Int) = x_7.2) ∧ True) ∧ true =
 true ∧ True) ∧ (I64 x_7.1 ∧ (1 : Int) ≤ x_7.2 ∧ x_7.2 ≤ (1000000 : Int)) ∧ ∀ (y : Unit), True → BC (decide (x_7.1 % x_7.2 < (3 : Int))) (((0 : Int) ≤ (↑t.1 :
 Int) ∧ (↑t.1 : Int) < (↑x.2.2.length : Int)) ∧ Exx (AllocT × AllocT × Act18) fun x_8 => (((true = true ∧ NilNil ∧ (0 : Nat) = 0) ∧ (true = true ∧ NilNil ∧ (0 :
 Nat) = 0) ∧ (Tr 1 ((x.2.2.getD (↑t.1 : Int).toNat act18Z).kind = x_8.2.2.kind) ∧ Tr 1 ((x.2.2.getD (↑t.1 : Int).toNat act18Z).at_ = x_8.2.2.at_) ∧ True) ∧ True)
 ∧ true = true ∧ allocB t.2.1 = allocB x_8.1 ∧ refB t.2.2.1 = refB x_8.2.1 ∧ True) ∧ (RefR x_8.1 ∧ RefR x_8.2.1 ∧ Act18I x_8.2.2) ∧ ∀ (y : Bool), True → I64
 ((↑t.1 : Int) + 1) ∧ Exx (Nat × AllocT × AllocT × (Nat × Nat) × Int × Nat) fun t' => (I t' ∧ m t' < m t) ∧ Tr 1 (((2 : Nat) = 2 ∧ x.2.1.length = x.2.1.length ∧
 ∀ (i : Nat), i < x.2.1.length → [AV.int .i64 (x.2.1.getD i act18Z).kind, AV.int .i64 (x.2.1.getD i act18Z).at_] = [AV.int .i64 (x.2.1.getD i act18Z).kind,
 AV.int .i64 (x.2.1.getD i act18Z).at_]) ∧ ((2 : Nat) = 2 ∧ x.2.2.length = x.2.2.length ∧ ∀ (i : Nat), i < x.2.2.length → [AV.int .i64 (x.2.2.getD i
 act18Z).kind, AV.int .i64 (x.2.2.getD i act18Z).at_] = [AV.int .i64 (x.2.2.getD i act18Z).kind, AV.int .i64 (x.2.2.getD i act18Z).at_]) ∧ Tr 4 ((true = true ∧
 NilNil ∧ (0 : Nat) = 0) ∧ (true = true ∧ NilNil ∧ (0 : Nat) = 0) ∧ Tr 1 ((true = true ∧ NilNil ∧ (0 : Nat) = 0 ∧ (1 : Nat) = 1 ∧ (0 : Nat) = 0 ∧ (listN
 t.2.2.2.1).length = (listN t'.snd.2.2.1).length ∧ t.2.2.2.2.2 = t'.snd.2.2.2.2) ∧ Tr 1 (t.2.2.2.2.1 = t'.snd.2.2.2.1) ∧ Tr 1 ((↑t.1 : Int) + 1 = (↑t'.fst :
 Int)) ∧ Tr 75 True))) ∧ true = true ∧ ((24 : TypeId) = 24 ∧ Tr 1 ((↑x.1.1 : Int) = (↑x.1.1 : Int)) ∧ ((1 : Nat) = 1 ∧ x.1.2.1.length = x.1.2.1.length ∧ ∀ (i :
 Nat), i < x.1.2.1.length → [AV.int .i64 (x.1.2.1.getD i 0)] = [AV.int .i64 (x.1.2.1.getD i 0)]) ∧ ((1 : Nat) = 1 ∧ x.1.2.2.1.length = x.1.2.2.1.length ∧ ∀ (i :
 Nat), i < x.1.2.2.1.length → [AV.int .i64 (x.1.2.2.1.getD i 0)] = [AV.int .i64 (x.1.2.2.1.getD i 0)]) ∧ Tr 1 (x.1.2.2.2 = x.1.2.2.2) ∧ True) ∧ allocB (stepS
 x_8.1 (x_8.2.2.kind % 7) x_8.2.2.at_) = allocB t'.snd.1 ∧ refB (stepS x_8.2.1 (x_8.2.2.kind % 7) x_8.2.2.at_) = refB t'.snd.2.1 ∧ setB t.2.2.2.1 = setB
 t'.snd.2.2.1 ∧ ((3 : TypeId) = 3 ∧ (1 : Nat) = 1 ∧ t.2.2.2.2.2 = t'.snd.2.2.2.2 ∧ (listN t'.snd.2.2.1).length ≤ (listN t.2.2.2.1).length ∧ ∀ (i : Nat), i <
 (listN t'.snd.2.2.1).length → [AV.int .i64 ((listN t.2.2.2.1).getD i 0)] = [AV.int .i64 ((listN t'.snd.2.2.1).getD i 0)]) ∧ True) (I64 ((↑t.1 : Int) + 1) ∧ Exx
 (Nat × AllocT × AllocT × (Nat × Nat) × Int × Nat) fun t' => (I t' ∧ m t' < m t) ∧ Tr 1 (((2 : Nat) = 2 ∧ x.2.1.length = x.2.1.length ∧ ∀ (i : Nat), i <
 x.2.1.length → [AV.int .i64 (x.2.1.getD i act18Z).kind, AV.int .i64 (x.2.1.getD i act18Z).at_] = [AV.int .i64 (x.2.1.getD i act18Z).kind, AV.int .i64
 (x.2.1.getD i act18Z).at_]) ∧ ((2 : Nat) = 2 ∧ x.2.2.length = x.2.2.length ∧ ∀ (i : Nat), i < x.2.2.length → [AV.int .i64 (x.2.2.getD i act18Z).kind, AV.int
 .i64 (x.2.2.getD i act18Z).at_] = [AV.int .i64 (x.2.2.getD i act18Z).kind, AV.int .i64 (x.2.2.getD i act18Z).at_]) ∧ Tr 4 ((true = true ∧ NilNil ∧ (0 : Nat) =
 0) ∧ (true = true ∧ NilNil ∧ (0 : Nat) = 0) ∧ Tr 1 ((true = true ∧ NilNil ∧ (0 : Nat) = 0 ∧ (1 : Nat) = 1 ∧ (0 : Nat) = 0 ∧ (listN t.2.2.2.1).length = (listN
 t'.snd.2.2.1).length ∧ t.2.2.2.2.2 = t'.snd.2.2.2.2) ∧ Tr 1 (t.2.2.2.2.1 = t'.snd.2.2.2.1) ∧ Tr 1 ((↑t.1 : Int) + 1 = (↑t'.fst : Int)) ∧ Tr 75 True))) ∧ true =
 true ∧ ((24 : TypeId) = 24 ∧ Tr 1 ((↑x.1.1 : Int) = (↑x.1.1 : Int)) ∧ ((1 : Nat) = 1 ∧ x.1.2.1.length = x.1.2.1.length ∧ ∀ (i : Nat), i < x.1.2.1.length →
 [AV.int .i64 (x.1.2.1.getD i 0)] = [AV.int .i64 (x.1.2.1.getD i 0)]) ∧ ((1 : Nat) = 1 ∧ x.1.2.2.1.length = x.1.2.2.1.length ∧ ∀ (i : Nat), i < x.1.2.2.1.length
 → [AV.int .i64 (x.1.2.2.1.getD i 0)] = [AV.int .i64 (x.1.2.2.1.getD i 0)]) ∧ Tr 1 (x.1.2.2.2 = x.1.2.2.2) ∧ True) ∧ allocB t.2.1 = allocB t'.snd.1 ∧ refB
 t.2.2.1 = refB t'.snd.2.1 ∧ setB t.2.2.2.1 = setB t'.snd.2.2.1 ∧ ((3 : TypeId) = 3 ∧ (1 : Nat) = 1 ∧ t.2.2.2.2.2 = t'.snd.2.2.2.2 ∧ (listN t'.snd.2.2.1).length
 ≤ (listN t.2.2.2.1).length ∧ ∀ (i : Nat), i < (listN t'.snd.2.2.1).length → [AV.int .i64 ((listN t.2.2.2.1).getD i 0)] = [AV.int .i64 ((listN t'.snd.2.2.1).getD
 i 0)]) ∧ True)) (Exx (AllocT × Unit) fun x => (((true = true ∧ NilNil ∧ (0 : Nat) = 0) ∧ True) ∧ true = true ∧ allocB t.2.1 = allocB x.1 ∧ True) ∧ (AllocW x.1 ∧
 True) ∧ ∀ (y : Unit), True → Exx AllocT fun x_7 => (((true = true ∧ NilNil ∧ (0 : Nat) = 0) ∧ True) ∧ true = true ∧ allocB (backS x.1) = allocB x_7 ∧ True) ∧
 AllocW x_7 ∧ ∀ (y : Unit), True → Exx (Nat × Nat) fun x => (((true = true ∧ NilNil ∧ (0 : Nat) = 0) ∧ True) ∧ true = true ∧ setB (x_7.n, x_7.w) = setB x ∧ True)
 ∧ SetW x ∧ ∀ (y : Nat), (listN x).length ≤ y → Exx (List Int × List Int) fun x_8 => (((0 + (listN x).length ≤ (listN x).length ∧ (listN x).length = x_8.1.length
 ∧ ∀ (i : Nat), i < x_8.1.length → [AV.int .i64 ((listN x).getD (0 + i) 0)] = [AV.int .i64 (x_8.1.getD i 0)]) ∧ (0 + (listN t.2.2.2.1).length ≤ (listN
 t.2.2.2.1).length ∧ (listN t.2.2.2.1).length = x_8.2.length ∧ ∀ (i : Nat), i < x_8.2.length → [AV.int .i64 ((listN t.2.2.2.1).getD (0 + i) 0)] = [AV.int .i64
 (x_8.2.getD i 0)]) ∧ True) ∧ true = true ∧ True) ∧ (IntL x_8.1 ∧ IntL x_8.2) ∧ ∀ (y : Unit), True → BC (decide (x_8.1 = x_8.2)) (Exx (AllocT × Unit) fun x =>
 (((true = true ∧ NilNil ∧ (0 : Nat) = 0) ∧ True) ∧ true = true ∧ allocB x_7 = allocB x.1 ∧ True) ∧ (AllocW x.1 ∧ True) ∧ ∀ (y : Unit), True → Exx Unit fun y =>
 ((decide (freeN x.1 = t.2.2.2.2.1) = true ∧ True) ∧ true = true ∧ True) ∧ True) (Exx Unit fun y => ((false = true ∧ True) ∧ true = true ∧ True) ∧ True)))) ∧
 (¬made18I.p x_2 → ∀ (y : Unit), True → Exx Unit fun y => ((true = true ∧ True) ∧ true = true ∧ True) ∧ True))))) = (fnVC tb [(7, specOf awake18C), (8, specIf made18I), (12, specOf allocFreeC), (13, specOf restC), (16, specOf allocMarkC), (17, specOf allocBackC), (19, specOf worksC), (20, specOf setListC), (22, specOf refIntsC), (23, specOf doTwoC)] Tryd.f5 backLawC (fun x => { loops := [(9, backLA x), (15, backLB x)], loose := [(13, [2, 4]), (20, [1, 2, 3, 4, 5, 6, 7])] }) (fun _ => none)) := by kernel_rfl 

theorem backLaw_ok : SpecOk Tryd.prog 5 (specOf backLawC) := by
  refine specOk mixed tb_ok (SPok.cons awake18_ok (SPok.cons made18_ok (SPok.cons allocFree_ok (SPok.cons rest_ok (SPok.cons allocMark_ok (SPok.cons allocBack_ok (SPok.cons works_ok (SPok.cons setList_ok (SPok.cons refInts_ok (SPok.cons doTwo_ok SPok.nil)))))))))) Tryd.func5 (by decide) (pureC_ok fun _ => rfl) (an := (fun x => { loops := [(9, backLA x), (15, backLB x)], loose := [(13, [2, 4]), (20, [1, 2, 3, 4, 5, 6, 7])] })) (σ := (fun _ => none)) ?_
  rw [← backLawV]
  simp (maxSteps := 10000000) only [and_false, false_and, false_or, or_false, bOf_true, bOf_false, true_bOf, false_bOf, Exx, int_ite, merge_o, Tr_eq, true_and, and_true, exists_const, forall_const, implies_true, forall_eq, exists_eq, exists_eq', exists_eq_left, exists_eq_left', exists_eq_right, Prod.exists, Prod.forall, and_assoc, exists_and_left, BC_iff, Bool.not_eq_true', Bool.not_eq_false', decide_eq_true_eq, decide_eq_false_iff_not, I64, nat_cast_inj, Int.toNat_natCast, nats_iff, nats_iff', ints_iff, ints_iff', natss_iff, natss_iff', nilnil, litL_eq, str_inj, str_append, str_length, str_getD, str_take, lit1_iff, one_iff, two_iff, one_get, Nat.zero_add, Nat.sub_zero, Nat.reduceMul, Nat.reduceDiv, Nat.reduceAdd, Int.reduceToNat, Nat.not_lt_zero, if_false, if_true, Nat.le_refl, List.length_singleton, List.length_cons, List.length_nil, Bool.false_eq_true, not_true_eq_false, false_implies, not_false_eq_true, Prod.mk.injEq, allocB_inj, refB_inj, setB_inj]
  rintro n u e r ls bs ⟨hS, ha, hb⟩ hl1 hl2
  have hS' := hS
  obtain ⟨s1, s2, s3, s4, s5⟩ := hS
  refine ⟨s1, s2, s3, s4, s5, fun hp => ⟨fun t => RefR t.2 ∧ t.1 ≤ ls.length, ⟨0, startS (n, u, e, r), ⟨startS_R hS' hp, Nat.zero_le _⟩, rfl, rfl, rfl⟩, fun t => ls.length - t.1, fun i x hI => ⟨fun hlt => ?_, fun hge => ?_⟩⟩⟩
  · obtain ⟨hR, hi⟩ := hI
    simp only at hR hi
    have hlt' : i < ls.length := by omega
    refine ⟨by omega, hlt, x, x, ls.getD i act18Z, rfl, rfl, rfl, rfl, hR, hR, act18_get ha i, by omega, by omega, i + 1, _, ⟨stepS_R hR _ _, by simp only; omega⟩, by simp only; omega, by omega, rfl, rfl⟩
  · obtain ⟨hR, hi⟩ := hI
    simp only at hR
    have hM : RefR (markS x) := ⟨⟨becomeS_W hR.W.W _ _, hR.W.n⟩, hR.r⟩
    have hMW := hM.W.W
    refine ⟨hR.W.W, hMW, ⟨hMW.1, hMW.2.2.2.2.2⟩, fun cap hcap => ⟨hMW, fun t => SinceMark (markS x) t.2.1 ∧ RefR t.2.2.1 ∧ t.2.2.2.1 = ((markS x).n, (markS x).w) ∧ t.2.2.2.2.1 = freeN (markS x) ∧ t.1 ≤ bs.length,
      ⟨0, markS x, x, (markS x).n, (markS x).w, _, cap, ⟨⟨hM, rfl, rfl, rfl, rfl, rfl⟩, hR, rfl, rfl, Nat.zero_le _⟩, rfl, rfl, rfl, rfl, rfl, rfl, rfl, rfl, rfl, Nat.le_refl _, fun _ _ => rfl⟩, fun t => bs.length - t.1, fun i y z q p f c hJ => ⟨fun hlt => ?_, fun hge => ?_⟩⟩⟩
    · obtain ⟨hM', hz, hq, hf, hi⟩ := hJ
      simp only at hM' hz hq hf hi
      have hlt' : i < bs.length := by omega
      have hA := act18_get hb i
      obtain ⟨hA1, hA2⟩ := hA.1
      refine ⟨by omega, hlt, hA1, hA2, by omega, by omega, fun hk => ?_, fun hk => ?_⟩
      · refine ⟨by omega, hlt, y, z, bs.getD i act18Z, rfl, rfl, rfl, rfl, hM'.R, hz, hA, by omega, by omega, i + 1, _, _, q, p, f, c, ⟨hM'.step hk (Int.emod_nonneg _ (by decide)) _, stepS_R hz _ _, hq, hf, by simp only; omega⟩, by simp only; omega, rfl, rfl, rfl, by omega, rfl, rfl, rfl, rfl, rfl, Nat.le_refl _, fun _ _ => rfl⟩
      · exact ⟨by omega, by omega, i + 1, y, z, q, p, f, c, ⟨hM', hz, hq, hf, by simp only; omega⟩, by simp only; omega, rfl, rfl, rfl, by omega, rfl, rfl, rfl, rfl, rfl, Nat.le_refl _, fun _ _ => rfl⟩
    · obtain ⟨hM', hz, hq, hf, hi⟩ := hJ
      simp only at hM' hz hq hf
      obtain ⟨hq1, hq2⟩ := Prod.mk.injEq .. ▸ hq
      rw [hM'.back]
      have hIl : IntL (listN ((markS x).n, (markS x).w)) := (listN_Ints (s := ((markS x).n, (markS x).w)) (by have := hM.W.n; simp only; omega)).intL
      rw [hq, hf]
      exact ⟨hM'.R.W.W, hMW, ⟨hMW.1, hMW.2.2.2.2.2⟩, fun cap2 hc2 => ⟨hIl, hIl, fun _ => ⟨hMW, rfl⟩, fun hne => hne rfl⟩⟩

def backLawLC : Ctr := pureC (StartX × List (Int × Int) × List (Int × Int)) (fun x => StartI x.1 ∧ A18I x.2.1 ∧ A18I x.2.2) (fun x => [startA x.1, a18A x.2.1, a18A x.2.2]) (fun _ => .bool true)
theorem backLawL_ok : SpecOk Tryd.prog 5 (specOf backLawLC) :=
  law_map backLaw_ok (fun x => (x.1, x.2.1.map a18, x.2.2.map a18)) (fun x => by show [_, acts18A _, acts18A _] = _; rw [a18_args, a18_args]) (fun x h => ⟨h.1, a18_acts h.2.1, a18_acts h.2.2⟩)

end Yard
