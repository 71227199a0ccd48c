/- The layer's own example. -/
import Derived.Test.YtlecpjgbmeejdaaDoorCharts
import Derived.Test.YtlecpjgbmeejdaaDoorRef17
namespace Yard
open Go Go.Sx Go.Proofs
set_option linter.unusedVariables false
set_option linter.unusedSimpArgs false
set_option maxRecDepth 4000

def awake17C : Ctr := pureC Unit (fun _ => True) (fun _ => []) (fun _ => .bool true)

-- callees: 15=setOf_ok 16=setGap_ok 19=setCount_ok 26=setSize_ok 43=setCharts_ok
theorem awake17V : (∀ (x : Unit),
  True →
    Exx (Int × List Int) fun x =>
      ((Tr 1 ((5 : Int) = x.fst) ∧
            ((0 : Nat) + (3 : Nat) ≤ (3 : Nat) ∧
                3 = x.snd.length ∧
                  ∀ (i : Nat),
                    i < x.snd.length →
                      [AV.int IntKind.i64 (if 0 + i = 2 * 1 / 1 then 3 else if 0 + i = 1 * 1 / 1 then 9 else if 0 + i = 0 * 1 / 1 then 1 else 0)] =
                        [AV.int IntKind.i64 (x.snd.getD i 0)]) ∧
              True) ∧
          true = true ∧ True) ∧
        (I64 x.fst ∧ Ints x.snd) ∧
          ∀ (y : Unit),
            True →
              Exx ((Nat × Nat) × Unit) fun x_1 =>
                (((true = true ∧ NilNil ∧ (0 : Nat) = (0 : Nat)) ∧ True) ∧ true = true ∧ setB (clampN x.fst, addL (clampN x.fst) 0 x.snd) = setB x_1.fst ∧ True) ∧
                  (SetW x_1.fst ∧ True) ∧
                    ∀ (y : Unit),
                      True →
                        BC (!decide ((↑x_1.fst.fst : Int) = (5 : Int))) (Exx Unit fun y => ((false = true ∧ True) ∧ true = true ∧ True) ∧ True)
                          (Exx ((Nat × Nat) × Int) fun x =>
                            (((true = true ∧ NilNil ∧ (0 : Nat) = (0 : Nat)) ∧ Tr 1 ((1 : Int) = x.snd) ∧ True) ∧ true = true ∧ setB x_1.fst = setB x.fst ∧ True) ∧
                              (SetW x.fst ∧ I64 x.snd) ∧
                                ∀ (y : Unit),
                                  True →
                                    BC (!decide (gapN x.fst x.snd = (2 : Int))) (Exx Unit fun y => ((false = true ∧ True) ∧ true = true ∧ True) ∧ True)
                                      (Exx (Nat × Nat) fun x_2 =>
                                        (((true = true ∧ NilNil ∧ (0 : Nat) = (0 : Nat)) ∧ True) ∧ true = true ∧ setB x.fst = setB x_2 ∧ True) ∧
                                          SetW x_2 ∧
                                            ∀ (y : Nat),
                                              chN x_2.fst ≤ y →
                                                BC (decide ((↑(chN x_2.fst) : Int) = (1 : Int)))
                                                  (((0 : Int) ≤ (0 : Int) ∧ (0 : Int) < (↑(chN x_2.fst) : Int)) ∧
                                                    ((0 : Int) ≤ (0 : Int) ∧ (0 : Int) < (↑(48 : Nat) : Int)) ∧
                                                      0 + Int.toNat 0 < chN x_2.fst ∧
                                                        (0 : Int).toNat < (48 : Nat) ∧
                                                          BC (decide ((↑(chartF x_2.snd (0 + Int.toNat 0) (Int.toNat 0)) : Int) = (10 : Int)))
                                                            (Exx ((Nat × Nat) × Unit) fun x =>
                                                              (((true = true ∧ NilNil ∧ (0 : Nat) = (0 : Nat)) ∧ True) ∧ true = true ∧ setB x_2 = setB x.fst ∧ True) ∧
                                                                (SetW x.fst ∧ True) ∧
                                                                  ∀ (y : Unit),
                                                                    True →
                                                                      Exx Unit fun y =>
                                                                        ((decide ((↑(bitsL x.fst.fst x.fst.snd).length : Int) = (2 : Int)) = true ∧ True) ∧ true = true ∧ True) ∧
                                                                          True)
                                                            (Exx Unit fun y => ((false = true ∧ True) ∧ true = true ∧ True) ∧ True))
                                                  (Exx Unit fun y => ((false = true ∧ True) ∧ true = true ∧ True) ∧ True)))) =
    (fnVC tb [(15, specOf setOfC), (16, specOf setGapC), (19, specOf setCountC), (26, specOf setSizeC), (43, specOf setChartsC)] Tryd.f13 awake17C (fun _ => {}) (fun _ => none)) := by kernel_rfl

theorem awake17_ok : SpecOk Tryd.prog 13 (specOf awake17C) := by
  refine specOk mixed tb_ok (SPok.cons setOf_ok (SPok.cons setGap_ok (SPok.cons setCount_ok (SPok.cons setSize_ok (SPok.cons setCharts_ok SPok.nil))))) Tryd.func13 (by decide) (pureC_ok fun _ => rfl) (an := (fun _ => {})) (σ := (fun _ => none)) ?_
  rw [← awake17V]
  simp (maxSteps := 10000000) only [and_false, false_and, false_or, or_false, bOf_true, bOf_false, true_bOf, false_bOf, Exx, int_ite, merge_o, Tr_eq, true_and, and_true, exists_const, forall_const, implies_true, forall_eq, exists_eq, exists_eq', exists_eq_left, exists_eq_left', exists_eq_right, Prod.exists, Prod.forall, and_assoc, exists_and_left, BC_iff, Bool.not_eq_true', Bool.not_eq_false', decide_eq_true_eq, decide_eq_false_iff_not, I64, nat_cast_inj, Int.toNat_natCast, nats_iff, nats_iff', ints_iff, ints_iff', natss_iff, natss_iff', nilnil, litL_eq, str_inj, str_append, str_length, str_getD, str_take, lit1_iff, one_iff, two_iff, one_get, Nat.zero_add, Nat.sub_zero, Nat.reduceMul, Nat.reduceDiv, Nat.reduceAdd, Int.reduceToNat, Nat.not_lt_zero, if_false, if_true, Nat.le_refl, List.length_singleton, List.length_cons, List.length_nil, Bool.false_eq_true, not_true_eq_false, false_implies, not_false_eq_true, Prod.mk.injEq, setB_inj]
  have hw : SetW (clampN 5, addL (clampN 5) 0 [1, 9, 3]) := ⟨by decide, by decide⟩
  have h1 : ((clampN 5 : Nat) : Int) = 5 := by decide
  have h2 : gapN (clampN 5, addL (clampN 5) 0 [1, 9, 3]) 1 = 2 := by decide
  have h3 : ((chN (clampN 5) : Nat) : Int) = 1 := by decide
  have h4 : ((chartF (addL (clampN 5) 0 [1, 9, 3]) 0 0 : Nat) : Int) = 10 := by decide
  have h5 : (((bitsL (clampN 5) (addL (clampN 5) 0 [1, 9, 3])).length : Nat) : Int) = 2 := by decide
  refine ⟨[1, 9, 3], rfl, fun i hi => ?_, by omega, by omega, ⟨fun x hx => ?_, by simp⟩, hw, fun h => h h1, fun _ => ⟨hw, by omega, by omega, fun h => h h2, fun _ => ⟨hw, fun y _ => ⟨fun _ => ⟨by omega, by omega, by omega, by omega, by omega, by omega, fun _ => ⟨hw, h5⟩, fun h => h h4⟩, fun h => h h3⟩⟩⟩⟩
  · have hi : i < 3 := hi
    have : i = 0 ∨ i = 1 ∨ i = 2 := by omega
    rcases this with rfl | rfl | rfl <;> rfl
  · simp at hx
    rcases hx with rfl | rfl | rfl <;> exact ⟨by omega, by omega⟩

end Yard
