/- The law of what is refused. -/
import Derived.Test.YtlecpjgbmeejdaaDoorAlloc
import Derived.Test.YtlecpjgbmeejdaaDoorRef17
namespace Yard
open Go Go.Sx Go.Proofs
set_option linter.unusedVariables false
set_option linter.unusedSimpArgs false
set_option maxRecDepth 4000

def awake18C : Ctr := pureC Unit (fun _ => True) (fun _ => []) (fun _ => .bool true)

-- callees: 15=setOf_ok 32=allocTake_ok 33=allocSpare_ok 35=allocNewAll_ok
theorem awake18V : (∀ (x : Unit),
  True →
    Exx (Int × List Int) fun x =>
      ((Tr 1 ((5 : Int) = x.fst) ∧
            ((0 : Nat) + (2 : Nat) ≤ (2 : Nat) ∧
                2 = x.snd.length ∧
                  ∀ (i : Nat),
                    i < x.snd.length → [AV.int IntKind.i64 (if 0 + i = 1 * 1 / 1 then 1 else if 0 + i = 0 * 1 / 1 then 0 else 0)] = [AV.int IntKind.i64 (x.snd.getD i 0)]) ∧
              True) ∧
          true = true ∧ True) ∧
        (I64 x.fst ∧ Ints x.snd) ∧
          ∀ (y : Unit),
            True →
              Exx (Int × List Int) fun x_1 =>
                ((Tr 1 ((5 : Int) = x_1.fst) ∧ (0 = x_1.snd.length ∧ ∀ (i : Nat), i < x_1.snd.length → [] = [AV.int IntKind.i64 (x_1.snd.getD i 0)]) ∧ True) ∧ true = true ∧ True) ∧
                  (I64 x_1.fst ∧ Ints x_1.snd) ∧
                    ∀ (y : Unit),
                      True →
                        Exx ((Nat × Nat) × (Nat × Nat) × Int) fun x_2 =>
                          (((true = true ∧ NilNil ∧ (0 : Nat) = (0 : Nat)) ∧ (true = true ∧ NilNil ∧ (0 : Nat) = (0 : Nat)) ∧ Tr 1 ((1 : Int) = x_2.snd.snd) ∧ True) ∧
                              true = true ∧
                                setB (clampN x.fst, addL (clampN x.fst) 0 x.snd) = setB x_2.fst ∧
                                  setB (clampN x_1.fst, addL (clampN x_1.fst) 0 x_1.snd) = setB x_2.snd.fst ∧ True) ∧
                            (SetW x_2.fst ∧ SetW x_2.snd.fst ∧ I64 x_2.snd.snd) ∧
                              (x_2.fst.fst = x_2.snd.fst.fst ∧ (0 : Int) ≤ x_2.snd.snd →
                                  ∀ (y : Unit),
                                    True →
                                      Exx (AllocT × Unit) fun x =>
                                        (((true = true ∧ NilNil ∧ (0 : Nat) = (0 : Nat)) ∧ True) ∧ true = true ∧ allocB (newAlloc x_2) = allocB x.fst ∧ True) ∧
                                          (AllocW x.fst ∧ True) ∧
                                            ∀ (y : Unit),
                                              True →
                                                Exx (AllocT × Unit) fun x_3 =>
                                                  (((true = true ∧ NilNil ∧ (0 : Nat) = (0 : Nat)) ∧ True) ∧ true = true ∧ allocB (takeS x.fst x.fst.r) = allocB x_3.fst ∧ True) ∧
                                                    (AllocW x_3.fst ∧ True) ∧
                                                      ∀ (y : Unit),
                                                        True →
                                                          Exx (AllocT × Unit) fun x_4 =>
                                                            (((true = true ∧ NilNil ∧ (0 : Nat) = (0 : Nat)) ∧ True) ∧
                                                                true = true ∧ allocB (takeS x_3.fst x_3.fst.r) = allocB x_4.fst ∧ True) ∧
                                                              (AllocW x_4.fst ∧ True) ∧
                                                                ∀ (y : Unit),
                                                                  True →
                                                                    Exx (AllocT × Unit) fun x_5 =>
                                                                      (((true = true ∧ NilNil ∧ (0 : Nat) = (0 : Nat)) ∧ True) ∧
                                                                          true = true ∧ allocB (takeS x_4.fst x_4.fst.r) = allocB x_5.fst ∧ True) ∧
                                                                        (AllocW x_5.fst ∧ True) ∧
                                                                          ∀ (y : Unit),
                                                                            True →
                                                                              BC (decide (takeAt x.fst x.fst.r = (2 : Int)))
                                                                                (BC (decide (takeAt x_3.fst x_3.fst.r = (3 : Int)))
                                                                                  (BC (decide (takeErr x_4.fst x_4.fst.r = (10 : Int)))
                                                                                    (BC (decide (takeAt x_5.fst 0 = (4 : Int)))
                                                                                      (Exx Unit fun y =>
                                                                                        ((decide (takeErr x_5.fst 0 = (0 : Int)) = true ∧ True) ∧ true = true ∧ True) ∧ True)
                                                                                      (Exx Unit fun y => ((false = true ∧ True) ∧ true = true ∧ True) ∧ True))
                                                                                    (Exx Unit fun y => ((false = true ∧ True) ∧ true = true ∧ True) ∧ True))
                                                                                  (Exx Unit fun y => ((false = true ∧ True) ∧ true = true ∧ True) ∧ True))
                                                                                (Exx Unit fun y => ((false = true ∧ True) ∧ true = true ∧ True) ∧ True)) ∧
                                (¬allocNewI.p x_2 → ∀ (y : Unit), True → Exx Unit fun y => ((false = true ∧ True) ∧ true = true ∧ True) ∧ True)) =
    (fnVC tb [(15, specOf setOfC), (32, specOf allocTakeC), (33, specOf allocSpareC), (35, allocNewAllP)] Tryd.f29 awake18C (fun _ => {}) (fun _ => none)) := by kernel_rfl

theorem awake18_ok : SpecOk Tryd.prog 29 (specOf awake18C) := by
  refine specOk mixed tb_ok (SPok.cons setOf_ok (SPok.cons allocTake_ok (SPok.cons allocSpare_ok (SPok.cons allocNewAll_ok SPok.nil)))) Tryd.func29 (by decide) (pureC_ok fun _ => rfl) (an := (fun _ => {})) (σ := (fun _ => none)) ?_
  rw [← awake18V]
  simp (maxSteps := 10000000) only [and_false, false_and, false_or, or_false, bOf_true, bOf_false, true_bOf, false_bOf, Exx, int_ite, merge_o, Tr_eq, true_and, and_true, exists_const, forall_const, implies_true, forall_eq, exists_eq, exists_eq', exists_eq_left, exists_eq_left', exists_eq_right, Prod.exists, Prod.forall, and_assoc, exists_and_left, BC_iff, Bool.not_eq_true', Bool.not_eq_false', decide_eq_true_eq, decide_eq_false_iff_not, I64, nat_cast_inj, Int.toNat_natCast, nats_iff, nats_iff', ints_iff, ints_iff', natss_iff, natss_iff', nilnil, litL_eq, str_inj, str_append, str_length, str_getD, str_take, lit1_iff, one_iff, two_iff, one_get, Nat.zero_add, Nat.sub_zero, Nat.reduceMul, Nat.reduceDiv, Nat.reduceAdd, Int.reduceToNat, Nat.not_lt_zero, if_false, if_true, Nat.le_refl, List.length_singleton, List.length_cons, List.length_nil, Bool.false_eq_true, not_true_eq_false, false_implies, not_false_eq_true, Prod.mk.injEq, setB_inj, allocB_inj]
  have e0 : newAlloc ((clampN 5, addL (clampN 5) 0 [0, 1]), (clampN 5, addL (clampN 5) 0 []), 1) = ⟨5, 1, 3, 0, 3, 3⟩ := by kernel_rfl
  have e1 : takeS ⟨5, 1, 3, 0, 3, 3⟩ 1 = ⟨5, 1, 3, 0, 3, 7⟩ := by kernel_rfl
  have e2 : takeS ⟨5, 1, 3, 0, 3, 7⟩ 1 = ⟨5, 1, 3, 0, 3, 15⟩ := by kernel_rfl
  have e3 : takeS ⟨5, 1, 3, 0, 3, 15⟩ 1 = ⟨5, 1, 3, 0, 3, 15⟩ := by kernel_rfl
  have g1 : takeAt ⟨5, 1, 3, 0, 3, 3⟩ 1 = 2 := by kernel_rfl
  have g2 : takeAt ⟨5, 1, 3, 0, 3, 7⟩ 1 = 3 := by kernel_rfl
  have g3 : takeErr ⟨5, 1, 3, 0, 3, 15⟩ 1 = 10 := by kernel_rfl
  have g4 : takeAt ⟨5, 1, 3, 0, 3, 15⟩ 0 = 4 := by kernel_rfl
  have g5 : takeErr ⟨5, 1, 3, 0, 3, 15⟩ 0 = 0 := by kernel_rfl
  have s0 : SetW (clampN 5, addL (clampN 5) 0 [0, 1]) := ⟨by decide, by decide⟩
  have s1 : SetW (clampN 5, addL (clampN 5) 0 []) := ⟨by decide, by decide⟩
  have hp : allocNewI.p ((clampN 5, addL (clampN 5) 0 [0, 1]), (clampN 5, addL (clampN 5) 0 []), 1) := ⟨rfl, by decide⟩
  refine ⟨[0, 1], rfl, fun i hi => ?_, by omega, by omega, ⟨fun x hx => ?_, by simp⟩, [], rfl, fun i hi => by simp at hi, by omega, by omega, ⟨by simp, by simp⟩, s0, s1, by omega, by omega, fun _ => ?_, fun h => h hp⟩
  · have hi : i < 2 := hi
    have : i = 0 ∨ i = 1 := by omega
    rcases this with rfl | rfl <;> rfl
  · simp at hx
    rcases hx with rfl | rfl <;> exact ⟨by omega, by omega⟩
  · simp only [e0, e1, e2, e3, g1, g2, g3, g4, g5, not_true_eq_false, false_implies, true_implies, and_true, true_and]
    exact ⟨⟨by decide, ⟨by decide, by decide⟩, by decide, by decide, by decide, by decide⟩, ⟨by decide, ⟨by decide, by decide⟩, by decide, by decide, by decide, by decide⟩, ⟨by decide, ⟨by decide, by decide⟩, by decide, by decide, by decide, by decide⟩, ⟨by decide, ⟨by decide, by decide⟩, by decide, by decide, by decide, by decide⟩⟩

def allocNewLC : Ctr := pureC (List Int × Int) (fun x => (∀ i, I64 (x.1.getD i 0)) ∧ I64 x.2) (fun x => [.agg [.arr 1 2 (fun i => [i64 (x.1.getD i 0)])], i64 x.2]) (fun _ => .bool true)

-- callees: 15=setOf_ok 18=refSize_ok 29=awake18_ok 34=allocFree_ok 35=allocNewAll_ok
theorem allocNewLV : (∀ (x : List Int × Int),
  (∀ (i : Nat), I64 (x.fst.getD i 0)) ∧ I64 x.snd →
    Exx Unit fun x_1 =>
      Tr 1 (true = true ∧ True) ∧
        Tr 1
          (∀ (y : Unit),
            True →
              Exx (Int × List Int) fun x_2 =>
                ((Tr 1 ((3 : Int) = x_2.fst) ∧ (0 = x_2.snd.length ∧ ∀ (i : Nat), i < x_2.snd.length → [] = [AV.int IntKind.i64 (x_2.snd.getD i 0)]) ∧ True) ∧ true = true ∧ True) ∧
                  (I64 x_2.fst ∧ Ints x_2.snd) ∧
                    ∀ (y : Unit),
                      True →
                        Exx ((Nat × Nat) × Int) fun x_3 =>
                          (Tr 1 ((true = true ∧ NilNil ∧ (0 : Nat) = (0 : Nat)) ∧ Tr 1 ((0 : Int) = x_3.snd) ∧ True) ∧
                              true = true ∧ setB (clampN x_2.fst, addL (clampN x_2.fst) 0 x_2.snd) = setB x_3.fst ∧ True) ∧
                            (-9223372036854775808 ≤ x_3.snd ∧ x_3.snd ≤ (9223372036854775807 : Int)) ∧
                              ∀ (y : Unit),
                                True →
                                  Exx (Int × List Int) fun x_4 =>
                                    ((Tr 1 ((3 : Int) = x_4.fst) ∧ (0 = x_4.snd.length ∧ ∀ (i : Nat), i < x_4.snd.length → [] = [AV.int IntKind.i64 (x_4.snd.getD i 0)]) ∧ True) ∧
                                        true = true ∧ True) ∧
                                      (I64 x_4.fst ∧ Ints x_4.snd) ∧
                                        ∀ (y : Unit),
                                          True →
                                            Exx ((Nat × Nat) × Int) fun x_5 =>
                                              (((true = true ∧ NilNil ∧ (0 : Nat) = (0 : Nat)) ∧ Tr 1 (Tr 1 ((0 : Int) = x_5.snd) ∧ True)) ∧
                                                  true = true ∧ setB (clampN x_4.fst, addL (clampN x_4.fst) 0 x_4.snd) = setB x_5.fst ∧ True) ∧
                                                (-9223372036854775808 ≤ x_5.snd ∧ x_5.snd ≤ (9223372036854775807 : Int)) ∧
                                                  ∀ (y : Unit),
                                                    True →
                                                      ((0 : Int) ≤ (0 : Int) ∧ (0 : Int) < (↑(2 : Nat) : Int)) ∧
                                                        (0 : Int).toNat < (2 : Nat) ∧
                                                          ((0 : Int) ≤ (1 : Int) ∧ (1 : Int) < (↑(2 : Nat) : Int)) ∧
                                                            (1 : Int).toNat < (2 : Nat) ∧
                                                              Exx (Int × List Int) fun x_6 =>
                                                                ((Tr 1 (x.fst.getD (Int.toNat 0) 0 = x_6.fst) ∧
                                                                      (0 = x_6.snd.length ∧ ∀ (i : Nat), i < x_6.snd.length → [] = [AV.int IntKind.i64 (x_6.snd.getD i 0)]) ∧
                                                                        True) ∧
                                                                    true = true ∧ True) ∧
                                                                  (I64 x_6.fst ∧ Ints x_6.snd) ∧
                                                                    ∀ (y : Unit),
                                                                      True →
                                                                        Exx (Int × List Int) fun x_7 =>
                                                                          ((Tr 1 (x.fst.getD (Int.toNat 1) 0 = x_7.fst) ∧
                                                                                (0 = x_7.snd.length ∧
                                                                                    ∀ (i : Nat), i < x_7.snd.length → [] = [AV.int IntKind.i64 (x_7.snd.getD i 0)]) ∧
                                                                                  True) ∧
                                                                              true = true ∧ True) ∧
                                                                            (I64 x_7.fst ∧ Ints x_7.snd) ∧
                                                                              ∀ (y : Unit),
                                                                                True →
                                                                                  Exx ((Nat × Nat) × (Nat × Nat) × Int) fun x_8 =>
                                                                                    (((true = true ∧ NilNil ∧ (0 : Nat) = (0 : Nat)) ∧
                                                                                          (true = true ∧ NilNil ∧ (0 : Nat) = (0 : Nat)) ∧ Tr 1 (x.snd = x_8.snd.snd) ∧ True) ∧
                                                                                        true = true ∧
                                                                                          setB (clampN x_6.fst, addL (clampN x_6.fst) 0 x_6.snd) = setB x_8.fst ∧
                                                                                            setB (clampN x_7.fst, addL (clampN x_7.fst) 0 x_7.snd) = setB x_8.snd.fst ∧ True) ∧
                                                                                      (SetW x_8.fst ∧ SetW x_8.snd.fst ∧ I64 x_8.snd.snd) ∧
                                                                                        (x_8.fst.fst = x_8.snd.fst.fst ∧ (0 : Int) ≤ x_8.snd.snd →
                                                                                            ∀ (y : Unit),
                                                                                              True →
                                                                                                ((0 : Int) ≤ (0 : Int) ∧ (0 : Int) < (↑(2 : Nat) : Int)) ∧
                                                                                                  (0 : Int).toNat < (2 : Nat) ∧
                                                                                                    ((0 : Int) ≤ (1 : Int) ∧ (1 : Int) < (↑(2 : Nat) : Int)) ∧
                                                                                                      (1 : Int).toNat < (2 : Nat) ∧
                                                                                                        Exx Int fun x_9 =>
                                                                                                          ((Tr 1 (x.fst.getD (Int.toNat 0) 0 = x_9) ∧ True) ∧ true = true ∧ True) ∧
                                                                                                            (-9223372036854775808 ≤ x_9 ∧ x_9 ≤ (9223372036854775807 : Int)) ∧
                                                                                                              ∀ (y : Unit),
                                                                                                                True →
                                                                                                                  Exx Int fun x_10 =>
                                                                                                                    ((Tr 1 (x.fst.getD (Int.toNat 1) 0 = x_10) ∧ True) ∧
                                                                                                                        true = true ∧ True) ∧
                                                                                                                      (-9223372036854775808 ≤ x_10 ∧
                                                                                                                          x_10 ≤ (9223372036854775807 : Int)) ∧
                                                                                                                        ∀ (y : Unit),
                                                                                                                          True →
                                                                                                                            BC
                                                                                                                              (!decide
                                                                                                                                  ((↑(clampN x_9) : Int) = (↑(clampN x_10) : Int)))
                                                                                                                              (Exx Unit fun y =>
                                                                                                                                ((false = true ∧ True) ∧ true = true ∧ True) ∧ True)
                                                                                                                              (BC (decide (x.snd < (0 : Int)))
                                                                                                                                (Exx Unit fun y =>
                                                                                                                                  ((false = true ∧ True) ∧ true = true ∧ True) ∧
                                                                                                                                    True)
                                                                                                                                (((0 : Int) ≤ (0 : Int) ∧
                                                                                                                                    (0 : Int) < (↑(2 : Nat) : Int)) ∧
                                                                                                                                  (0 : Int).toNat < (2 : Nat) ∧
                                                                                                                                    Exx (AllocT × Unit) fun x_11 =>
                                                                                                                                      (((true = true ∧
                                                                                                                                              NilNil ∧ (0 : Nat) = (0 : Nat)) ∧
                                                                                                                                            True) ∧
                                                                                                                                          true = true ∧
                                                                                                                                            allocB (newAlloc x_8) =
                                                                                                                                                allocB x_11.fst ∧
                                                                                                                                              True) ∧
                                                                                                                                        (AllocW x_11.fst ∧ True) ∧
                                                                                                                                          ∀ (y : Unit),
                                                                                                                                            True →
                                                                                                                                              Exx Int fun x_12 =>
                                                                                                                                                ((Tr 1
                                                                                                                                                        (x.fst.getD (Int.toNat 0)
                                                                                                                                                            0 =
                                                                                                                                                          x_12) ∧
                                                                                                                                                      True) ∧
                                                                                                                                                    true = true ∧ True) ∧
                                                                                                                                                  (-9223372036854775808 ≤ x_12 ∧
                                                                                                                                                      x_12 ≤
                                                                                                                                                        (9223372036854775807 :
                                                                                                                                                          Int)) ∧
                                                                                                                                                    ∀ (y : Unit),
                                                                                                                                                      True →
                                                                                                                                                        Exx Unit fun y =>
                                                                                                                                                          ((decide
                                                                                                                                                                    (freeN
                                                                                                                                                                        x_11.fst =
                                                                                                                                                                      (↑(clampN
                                                                                                                                                                            x_12) :
                                                                                                                                                                        Int)) =
                                                                                                                                                                  true ∧
                                                                                                                                                                True) ∧
                                                                                                                                                              true = true ∧ True) ∧
                                                                                                                                                            True))) ∧
                                                                                          (¬allocNewI.p x_8 →
                                                                                            ∀ (y : Unit),
                                                                                              True →
                                                                                                ((0 : Int) ≤ (0 : Int) ∧ (0 : Int) < (↑(2 : Nat) : Int)) ∧
                                                                                                  (0 : Int).toNat < (2 : Nat) ∧
                                                                                                    ((0 : Int) ≤ (1 : Int) ∧ (1 : Int) < (↑(2 : Nat) : Int)) ∧
                                                                                                      (1 : Int).toNat < (2 : Nat) ∧
                                                                                                        Exx Int fun x_9 =>
                                                                                                          ((Tr 1 (x.fst.getD (Int.toNat 0) 0 = x_9) ∧ True) ∧ true = true ∧ True) ∧
                                                                                                            (-9223372036854775808 ≤ x_9 ∧ x_9 ≤ (9223372036854775807 : Int)) ∧
                                                                                                              ∀ (y : Unit),
                                                                                                                True →
                                                                                                                  Exx Int fun x_10 =>
                                                                                                                    ((Tr 1 (x.fst.getD (Int.toNat 1) 0 = x_10) ∧ True) ∧
                                                                                                                        true = true ∧ True) ∧
                                                                                                                      (-9223372036854775808 ≤ x_10 ∧
                                                                                                                          x_10 ≤ (9223372036854775807 : Int)) ∧
                                                                                                                        ∀ (y : Unit),
                                                                                                                          True →
                                                                                                                            BC
                                                                                                                              (!decide
                                                                                                                                  ((↑(clampN x_9) : Int) = (↑(clampN x_10) : Int)))
                                                                                                                              (Exx Unit fun y =>
                                                                                                                                ((true = true ∧ True) ∧ true = true ∧ True) ∧ True)
                                                                                                                              (BC (decide (x.snd < (0 : Int)))
                                                                                                                                (Exx Unit fun y =>
                                                                                                                                  ((true = true ∧ True) ∧ true = true ∧ True) ∧
                                                                                                                                    True)
                                                                                                                                (Exx Unit fun y =>
                                                                                                                                  ((false = true ∧ True) ∧ true = true ∧ True) ∧
                                                                                                                                    True))))) =
    (fnVC tb [(15, specOf setOfC), (18, specOf refSizeC), (29, specOf awake18C), (34, specOf allocFreeC), (35, allocNewAllP)] Tryd.f6 allocNewLC (fun x => { loose := [(10, [6])] }) (fun _ => none)) := by kernel_rfl

theorem allocNewL_ok : SpecOk Tryd.prog 6 (specOf allocNewLC) := by
  refine specOk mixed tb_ok (SPok.cons setOf_ok (SPok.cons refSize_ok (SPok.cons awake18_ok (SPok.cons allocFree_ok (SPok.cons allocNewAll_ok SPok.nil))))) Tryd.func6 (by decide) (pureC_ok fun _ => rfl) (an := (fun x => { loose := [(10, [6])] })) (σ := (fun _ => none)) ?_
  rw [← allocNewLV]
  simp (maxSteps := 10000000) only [and_false, false_and, false_or, or_false, bOf_true, bOf_false, true_bOf, false_bOf, Exx, int_ite, merge_o, Tr_eq, true_and, and_true, exists_const, forall_const, implies_true, forall_eq, exists_eq, exists_eq', exists_eq_left, exists_eq_left', exists_eq_right, Prod.exists, Prod.forall, and_assoc, exists_and_left, BC_iff, Bool.not_eq_true', Bool.not_eq_false', decide_eq_true_eq, decide_eq_false_iff_not, I64, nat_cast_inj, Int.toNat_natCast, nats_iff, nats_iff', ints_iff, ints_iff', natss_iff, natss_iff', nilnil, litL_eq, str_inj, str_append, str_length, str_getD, str_take, lit1_iff, one_iff, two_iff, one_get, Nat.zero_add, Nat.sub_zero, Nat.reduceMul, Nat.reduceDiv, Nat.reduceAdd, Int.reduceToNat, Nat.not_lt_zero, if_false, if_true, Nat.le_refl, List.length_singleton, List.length_cons, List.length_nil, Bool.false_eq_true, not_true_eq_false, false_implies, not_false_eq_true, Prod.mk.injEq, setB_inj, allocB_inj]
  rintro n r ⟨hn, hr1, hr2⟩
  have nil0 : ∀ {P : Nat → Prop}, ∀ i, i < ([] : List Int).length → P i := fun i hi => by simp at hi
  have hi0 : Ints [] := ⟨by simp, by simp⟩
  have hn0 := hn 0
  have hn1 := hn 1
  have hz : ∀ c : Nat, 0 < 2 ^ c := fun c => Nat.pos_of_ne_zero (by simp)
  have hc : ∀ a : Int, clampN a ≤ 3072 := fun a => by unfold clampN; omega
  have hs : ∀ a : Int, SetW (clampN a, addL (clampN a) 0 []) := fun a => ⟨hc a, hz _⟩
  refine ⟨[], rfl, nil0, by omega, by omega, hi0, by omega, by omega, [], rfl, nil0, by omega, by omega, hi0, by omega, by omega, by omega, by omega, by omega, by omega, by omega, by omega, [], rfl, nil0, hn0.1, hn0.2, hi0, [], rfl, nil0, hn1.1, hn1.2, hi0, hs _, hs _, hr1, hr2, fun hp => ?_, fun hp => ?_⟩
  · refine ⟨by omega, by omega, by omega, by omega, by omega, by omega, hn0.1, hn0.2, hn1.1, hn1.2, fun h => h hp.1, fun he => ⟨fun h => by omega, fun h => ?_⟩⟩
    have hw : AllocW (newAlloc ((clampN (n.getD 0 0), addL (clampN (n.getD 0 0)) 0 []), (clampN (n.getD 1 0), addL (clampN (n.getD 1 0)) 0 []), r)) := ⟨hc _, ⟨hr1, hr2⟩, hz _, hz _, hz _, hz _⟩
    refine ⟨by omega, by omega, by omega, hw, hn0.1, hn0.2, ?_⟩
    have h0 : heldN (newAlloc ((clampN (n.getD 0 0), addL (clampN (n.getD 0 0)) 0 []), (clampN (n.getD 1 0), addL (clampN (n.getD 1 0)) 0 []), r)) = 0 := by simp [heldN, newAlloc, addL]
    have h1 : (newAlloc ((clampN (n.getD 0 0), addL (clampN (n.getD 0 0)) 0 []), (clampN (n.getD 1 0), addL (clampN (n.getD 1 0)) 0 []), r)).n = clampN (n.getD 0 0) := rfl
    rw [freeN, h0, h1, bitsL_zero]
    simp
  · exact ⟨by omega, by omega, by omega, by omega, by omega, by omega, hn0.1, hn0.2, hn1.1, hn1.2, fun he h => hp ⟨he, by show (0 : Int) ≤ r; omega⟩⟩

end Yard
