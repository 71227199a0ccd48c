/- The law of the gaps. -/
import Derived.Test.YtlecpjgbmeejdaaDoorCharts
import Derived.Test.YtlecpjgbmeejdaaDoorRef17
namespace Yard
open Go Go.Sx Go.Proofs
set_option linter.unusedVariables false
set_option linter.unusedSimpArgs false
set_option maxRecDepth 4000

def awake17C : Ctr := pureC Unit (fun _ => True) (fun _ => []) (fun _ => .bool true)

-- callees: 15=setOf_ok 16=setGap_ok 19=setCount_ok 26=setSize_ok 43=setCharts_ok
theorem awake17V : (∀ (x : Unit),
  True →
    Exx (Int × List Int) fun x =>
      ((Tr 1 ((5 : Int) = x.fst) ∧
            ((0 : Nat) + (3 : Nat) ≤ (3 : Nat) ∧
                3 = x.snd.length ∧
                  ∀ (i : Nat),
                    i < x.snd.length →
                      [AV.int IntKind.i64 (if 0 + i = 2 * 1 / 1 then 3 else if 0 + i = 1 * 1 / 1 then 9 else if 0 + i = 0 * 1 / 1 then 1 else 0)] =
                        [AV.int IntKind.i64 (x.snd.getD i 0)]) ∧
              True) ∧
          true = true ∧ True) ∧
        (I64 x.fst ∧ Ints x.snd) ∧
          ∀ (y : Unit),
            True →
              Exx ((Nat × Nat) × Unit) fun x_1 =>
                (((true = true ∧ NilNil ∧ (0 : Nat) = (0 : Nat)) ∧ True) ∧ true = true ∧ setB (clampN x.fst, addL (clampN x.fst) 0 x.snd) = setB x_1.fst ∧ True) ∧
                  (SetW x_1.fst ∧ True) ∧
                    ∀ (y : Unit),
                      True →
                        BC (!decide ((↑x_1.fst.fst : Int) = (5 : Int))) (Exx Unit fun y => ((false = true ∧ True) ∧ true = true ∧ True) ∧ True)
                          (Exx ((Nat × Nat) × Int) fun x =>
                            (((true = true ∧ NilNil ∧ (0 : Nat) = (0 : Nat)) ∧ Tr 1 ((1 : Int) = x.snd) ∧ True) ∧ true = true ∧ setB x_1.fst = setB x.fst ∧ True) ∧
                              (SetW x.fst ∧ I64 x.snd) ∧
                                ∀ (y : Unit),
                                  True →
                                    BC (!decide (gapN x.fst x.snd = (2 : Int))) (Exx Unit fun y => ((false = true ∧ True) ∧ true = true ∧ True) ∧ True)
                                      (Exx (Nat × Nat) fun x_2 =>
                                        (((true = true ∧ NilNil ∧ (0 : Nat) = (0 : Nat)) ∧ True) ∧ true = true ∧ setB x.fst = setB x_2 ∧ True) ∧
                                          SetW x_2 ∧
                                            ∀ (y : Nat),
                                              chN x_2.fst ≤ y →
                                                BC (decide ((↑(chN x_2.fst) : Int) = (1 : Int)))
                                                  (((0 : Int) ≤ (0 : Int) ∧ (0 : Int) < (↑(chN x_2.fst) : Int)) ∧
                                                    ((0 : Int) ≤ (0 : Int) ∧ (0 : Int) < (↑(48 : Nat) : Int)) ∧
                                                      0 + Int.toNat 0 < chN x_2.fst ∧
                                                        (0 : Int).toNat < (48 : Nat) ∧
                                                          BC (decide ((↑(chartF x_2.snd (0 + Int.toNat 0) (Int.toNat 0)) : Int) = (10 : Int)))
                                                            (Exx ((Nat × Nat) × Unit) fun x =>
                                                              (((true = true ∧ NilNil ∧ (0 : Nat) = (0 : Nat)) ∧ True) ∧ true = true ∧ setB x_2 = setB x.fst ∧ True) ∧
                                                                (SetW x.fst ∧ True) ∧
                                                                  ∀ (y : Unit),
                                                                    True →
                                                                      Exx Unit fun y =>
                                                                        ((decide ((↑(bitsL x.fst.fst x.fst.snd).length : Int) = (2 : Int)) = true ∧ True) ∧ true = true ∧ True) ∧
                                                                          True)
                                                            (Exx Unit fun y => ((false = true ∧ True) ∧ true = true ∧ True) ∧ True))
                                                  (Exx Unit fun y => ((false = true ∧ True) ∧ true = true ∧ True) ∧ True)))) =
    (fnVC tb [(15, specOf setOfC), (16, specOf setGapC), (19, specOf setCountC), (26, specOf setSizeC), (43, specOf setChartsC)] Tryd.f13 awake17C (fun _ => {}) (fun _ => none)) := by kernel_rfl

theorem awake17_ok : SpecOk Tryd.prog 13 (specOf awake17C) := by
  refine specOk mixed tb_ok (SPok.cons setOf_ok (SPok.cons setGap_ok (SPok.cons setCount_ok (SPok.cons setSize_ok (SPok.cons setCharts_ok SPok.nil))))) Tryd.func13 (by decide) (pureC_ok fun _ => rfl) (an := (fun _ => {})) (σ := (fun _ => none)) ?_
  rw [← awake17V]
  simp only [Exx, int_ite, merge_o, Tr_eq, true_and, and_true, exists_const, forall_const, implies_true, forall_eq, exists_eq, exists_eq', exists_eq_left, exists_eq_left', exists_eq_right, Prod.exists, Prod.forall, and_assoc, exists_and_left, BC_iff, Bool.not_eq_true', Bool.not_eq_false', decide_eq_true_eq, decide_eq_false_iff_not, I64, nat_cast_inj, Int.toNat_natCast, nats_iff, nats_iff', ints_iff, ints_iff', natss_iff, natss_iff', nilnil, litL_eq, str_inj, str_append, str_length, str_getD, str_take, lit1_iff, one_iff, two_iff, one_get, Nat.zero_add, Nat.sub_zero, Nat.reduceMul, Nat.reduceDiv, Nat.reduceAdd, Int.reduceToNat, Nat.not_lt_zero, if_false, if_true, Nat.le_refl, List.length_singleton, List.length_cons, List.length_nil, Bool.false_eq_true, not_true_eq_false, false_implies, not_false_eq_true, Prod.mk.injEq, setB_inj]
  have hw : SetW (clampN 5, addL (clampN 5) 0 [1, 9, 3]) := ⟨by decide, by decide⟩
  have h1 : ((clampN 5 : Nat) : Int) = 5 := by decide
  have h2 : gapN (clampN 5, addL (clampN 5) 0 [1, 9, 3]) 1 = 2 := by decide
  have h3 : ((chN (clampN 5) : Nat) : Int) = 1 := by decide
  have h4 : ((chartF (addL (clampN 5) 0 [1, 9, 3]) 0 0 : Nat) : Int) = 10 := by decide
  have h5 : (((bitsL (clampN 5) (addL (clampN 5) 0 [1, 9, 3])).length : Nat) : Int) = 2 := by decide
  refine ⟨[1, 9, 3], rfl, fun i hi => ?_, by omega, by omega, ⟨fun x hx => ?_, by simp⟩, hw, fun h => h h1, fun _ => ⟨hw, by omega, by omega, fun h => h h2, fun _ => ⟨hw, fun y _ => ⟨fun _ => ⟨by omega, by omega, by omega, by omega, by omega, by omega, fun _ => ⟨hw, h5⟩, fun h => h h4⟩, fun h => h h3⟩⟩⟩⟩
  · have hi : i < 3 := hi
    have : i = 0 ∨ i = 1 ∨ i = 2 := by omega
    rcases this with rfl | rfl | rfl <;> rfl
  · simp at hx
    rcases hx with rfl | rfl | rfl <;> exact ⟨by omega, by omega⟩

def cntB (m k : Nat) : Nat := (bitsL k m).length
theorem cntB_step (m k : Nat) : cntB m (k + 1) = cntB m k + if m.testBit k then 1 else 0 := by
  rw [cntB, cntB, bitsL, List.range_succ, List.filter_append, List.length_append]
  congr 1
  cases h : m.testBit k <;> simp [h]
theorem gap_spec (s : Nat × Nat) : ∀ k a : Nat, a ≤ s.1 → s.1 < a + k → (gapF s k a = -1 ∧ cntB s.2 s.1 = cntB s.2 a + (s.1 - a)) ∨ ∃ g : Nat, gapF s k a = (g : Int) ∧ a ≤ g ∧ g < s.1 ∧ s.2.testBit g = false ∧ cntB s.2 (g + 1) = cntB s.2 a + (g - a)
  | 0, a, h1, h2 => by omega
  | k + 1, a, h1, h2 => by
    rw [gapF]
    by_cases h : a < s.1
    · rw [if_pos h]
      cases hb : s.2.testBit a
      · right
        refine ⟨a, by simp, Nat.le_refl _, h, hb, ?_⟩
        rw [cntB_step, hb]; simp
      · have e := cntB_step s.2 a
        rw [hb, if_pos rfl] at e
        rw [if_pos rfl]
        rcases gap_spec s k (a + 1) (by omega) (by omega) with ⟨h3, h4⟩ | ⟨g, h3, h4, h5, h6, h7⟩
        · exact .inl ⟨h3, by omega⟩
        · exact .inr ⟨g, h3, by omega, h5, h6, by omega⟩
    · rw [if_neg h]
      exact .inl ⟨rfl, by rw [show s.1 = a by omega]; omega⟩

theorem cntB_le (m k : Nat) : cntB m k ≤ k := bitsL_len k m
def bitsGapsC : Ctr := pureC (Int × List Int) (fun x => I64 x.1 ∧ IntL x.2) (fun x => [i64 x.1, intA x.2]) (fun _ => .bool true)
def gapsLA (x : Int × List Int) : LA := { T := Int × Nat, F := fun s => frm 53 [(0, i64 x.1), (5, .ptr 1 [] 0), (6, i64 s.1), (7, i64 (s.2 : Nat))], H := fun s => [.fence, setI (clampN x.1, addL (clampN x.1) 0 x.2)] }

-- callees: 13=awake17_ok 14=small_ok 15=setOf_ok 16=setGap_ok 17=(specObj_ok setHas_ok setHasO_ok) 18=refSize_ok 19=setCount_ok
theorem bitsGapsV : (∀ (x : Int × List Int),
  I64 x.fst ∧ IntL x.snd →
    Exx Unit fun x_1 =>
      Tr 1 (true = true ∧ True) ∧
        Tr 1
          (∀ (y : Unit),
            True →
              Exx (List Int × Int) fun x_2 =>
                (((x.snd.length = x_2.fst.length ∧ ∀ (i : Nat), i < x_2.fst.length → [AV.int IntKind.i64 (x.snd.getD i 0)] = [AV.int IntKind.i64 (x_2.fst.getD i 0)]) ∧
                      Tr 1 ((60 : Int) = x_2.snd) ∧ True) ∧
                    true = true ∧ True) ∧
                  x_2.fst.length ≤ 9223372036854775807 ∧
                    ∀ (y : Unit),
                      True →
                        BC (!decide ((↑x_2.fst.length : Int) ≤ x_2.snd))
                          (Exx Unit fun x => Tr 1 (true = true ∧ True) ∧ Tr 1 (∀ (y : Unit), True → Exx Unit fun y => ((true = true ∧ True) ∧ true = true ∧ True) ∧ True))
                          (BC (decide ((500 : Int) < x.fst))
                            (Exx Unit fun x => Tr 1 (true = true ∧ True) ∧ Tr 1 (∀ (y : Unit), True → Exx Unit fun y => ((true = true ∧ True) ∧ true = true ∧ True) ∧ True))
                            (Exx (Int × List Int) fun x_3 =>
                              ((Tr 1 (x.fst = x_3.fst) ∧
                                    (x.snd.length = x_3.snd.length ∧
                                        ∀ (i : Nat), i < x_3.snd.length → [AV.int IntKind.i64 (x.snd.getD i 0)] = [AV.int IntKind.i64 (x_3.snd.getD i 0)]) ∧
                                      True) ∧
                                  true = true ∧ True) ∧
                                (I64 x_3.fst ∧ Ints x_3.snd) ∧
                                  ∀ (y : Unit),
                                    True →
                                      Exx ((Nat × Nat) × Int) fun x_4 =>
                                        (((true = true ∧ NilNil ∧ (0 : Nat) = (0 : Nat)) ∧ Tr 1 ((0 : Int) = x_4.snd) ∧ True) ∧
                                            true = true ∧ setB (clampN x_3.fst, addL (clampN x_3.fst) 0 x_3.snd) = setB x_4.fst ∧ True) ∧
                                          (SetW x_4.fst ∧ I64 x_4.snd) ∧
                                            ∀ (y : Unit),
                                              True →
                                                Exx (Int × Nat → Prop) fun I =>
                                                  Exx (Int × Nat → Nat) fun m =>
                                                    (Exx (Int × Nat) fun t =>
                                                        I t ∧
                                                          (Tr 1 (x.fst = x.fst) ∧
                                                              Tr 4
                                                                ((true = true ∧ NilNil ∧ (0 : Nat) = (0 : Nat)) ∧
                                                                  Tr 1 (gapN x_4.fst x_4.snd = t.fst) ∧ Tr 1 ((0 : Int) = (↑t.snd : Int)) ∧ Tr 45 True)) ∧
                                                            true = true ∧ setB x_4.fst = setB (clampN x.fst, addL (clampN x.fst) 0 x.snd) ∧ True) ∧
                                                      ∀ (t : Int × Nat),
                                                        I t →
                                                          BC (decide ((0 : Int) ≤ t.fst))
                                                            (BC (decide ((↑t.snd : Int) ≤ (500 : Int)))
                                                              (Exx ((Nat × Nat) × Int) fun x_5 =>
                                                                (((true = true ∧ NilNil ∧ (0 : Nat) = (0 : Nat)) ∧ Tr 1 (t.fst = x_5.snd) ∧ True) ∧
                                                                    true = true ∧ setB (clampN x.fst, addL (clampN x.fst) 0 x.snd) = setB x_5.fst ∧ True) ∧
                                                                  (SetW x_5.fst ∧ I64 x_5.snd) ∧
                                                                    ∀ (y : Unit),
                                                                      True →
                                                                        BC (hasN x_5.fst x_5.snd) (Exx Unit fun y => ((false = true ∧ True) ∧ true = true ∧ True) ∧ True)
                                                                          (Exx Int fun x_6 =>
                                                                            ((Tr 1 (x.fst = x_6) ∧ True) ∧ true = true ∧ True) ∧
                                                                              (-9223372036854775808 ≤ x_6 ∧ x_6 ≤ (9223372036854775807 : Int)) ∧
                                                                                ∀ (y : Unit),
                                                                                  True →
                                                                                    BC (decide ((↑(clampN x_6) : Int) ≤ t.fst))
                                                                                      (Exx Unit fun y => ((false = true ∧ True) ∧ true = true ∧ True) ∧ True)
                                                                                      (I64 ((↑t.snd : Int) + 1) ∧
                                                                                        I64 (t.fst + 1) ∧
                                                                                          Exx ((Nat × Nat) × Int) fun x_7 =>
                                                                                            (((true = true ∧ NilNil ∧ (0 : Nat) = (0 : Nat)) ∧ Tr 1 (t.fst + 1 = x_7.snd) ∧ True) ∧
                                                                                                true = true ∧ setB x_5.fst = setB x_7.fst ∧ True) ∧
                                                                                              (SetW x_7.fst ∧ I64 x_7.snd) ∧
                                                                                                ∀ (y : Unit),
                                                                                                  True →
                                                                                                    Exx (Int × Nat) fun t' =>
                                                                                                      (I t' ∧ m t' < m t) ∧
                                                                                                        (Tr 1 (x.fst = x.fst) ∧
                                                                                                            Tr 4
                                                                                                              ((true = true ∧ NilNil ∧ (0 : Nat) = (0 : Nat)) ∧
                                                                                                                Tr 1 (gapN x_7.fst x_7.snd = t'.fst) ∧
                                                                                                                  Tr 1 ((↑t.snd : Int) + 1 = (↑t'.snd : Int)) ∧ Tr 45 True)) ∧
                                                                                                          true = true ∧
                                                                                                            setB x_7.fst = setB (clampN x.fst, addL (clampN x.fst) 0 x.snd) ∧
                                                                                                              True)))
                                                              (Exx Int fun x_5 =>
                                                                ((Tr 1 (x.fst = x_5) ∧ True) ∧ true = true ∧ True) ∧
                                                                  (-9223372036854775808 ≤ x_5 ∧ x_5 ≤ (9223372036854775807 : Int)) ∧
                                                                    ∀ (y : Unit),
                                                                      True →
                                                                        Exx ((Nat × Nat) × Unit) fun x_6 =>
                                                                          (((true = true ∧ NilNil ∧ (0 : Nat) = (0 : Nat)) ∧ True) ∧
                                                                              true = true ∧ setB (clampN x.fst, addL (clampN x.fst) 0 x.snd) = setB x_6.fst ∧ True) ∧
                                                                            (SetW x_6.fst ∧ True) ∧
                                                                              ∀ (y : Unit),
                                                                                True →
                                                                                  I64 ((↑(clampN x_5) : Int) - (↑(bitsL x_6.fst.fst x_6.fst.snd).length : Int)) ∧
                                                                                    Exx Unit fun y =>
                                                                                      ((decide
                                                                                                ((↑t.snd : Int) =
                                                                                                  (↑(clampN x_5) : Int) - (↑(bitsL x_6.fst.fst x_6.fst.snd).length : Int)) =
                                                                                              true ∧
                                                                                            True) ∧
                                                                                          true = true ∧ True) ∧
                                                                                        True))
                                                            (Exx Int fun x_5 =>
                                                              ((Tr 1 (x.fst = x_5) ∧ True) ∧ true = true ∧ True) ∧
                                                                (-9223372036854775808 ≤ x_5 ∧ x_5 ≤ (9223372036854775807 : Int)) ∧
                                                                  ∀ (y : Unit),
                                                                    True →
                                                                      Exx ((Nat × Nat) × Unit) fun x_6 =>
                                                                        (((true = true ∧ NilNil ∧ (0 : Nat) = (0 : Nat)) ∧ True) ∧
                                                                            true = true ∧ setB (clampN x.fst, addL (clampN x.fst) 0 x.snd) = setB x_6.fst ∧ True) ∧
                                                                          (SetW x_6.fst ∧ True) ∧
                                                                            ∀ (y : Unit),
                                                                              True →
                                                                                I64 ((↑(clampN x_5) : Int) - (↑(bitsL x_6.fst.fst x_6.fst.snd).length : Int)) ∧
                                                                                  Exx Unit fun y =>
                                                                                    ((decide
                                                                                              ((↑t.snd : Int) =
                                                                                                (↑(clampN x_5) : Int) - (↑(bitsL x_6.fst.fst x_6.fst.snd).length : Int)) =
                                                                                            true ∧
                                                                                          True) ∧
                                                                                        true = true ∧ True) ∧
                                                                                      True))))) =
    (fnVC tb [(13, specOf awake17C), (14, specOf smallC), (15, specOf setOfC), (16, specOf setGapC), (17, specObj (specOf setHasC) (specOf setHasOC)), (18, specOf refSizeC), (19, specOf setCountC)] Tryd.f3 bitsGapsC (fun x => { loops := [(5, gapsLA x)] }) (fun _ => none)) := by kernel_rfl

theorem bitsGaps_ok : SpecOk Tryd.prog 3 (specOf bitsGapsC) := by
  refine specOk mixed tb_ok (SPok.cons awake17_ok (SPok.cons small_ok (SPok.cons setOf_ok (SPok.cons setGap_ok (SPok.cons (specObj_ok setHas_ok setHasO_ok) (SPok.cons refSize_ok (SPok.cons setCount_ok SPok.nil))))))) Tryd.func3 (by decide) (pureC_ok fun _ => rfl) (an := (fun x => { loops := [(5, gapsLA x)] })) (σ := (fun _ => none)) ?_
  rw [← bitsGapsV]
  simp only [Exx, int_ite, merge_o, Tr_eq, true_and, and_true, exists_const, forall_const, implies_true, forall_eq, exists_eq, exists_eq', exists_eq_left, exists_eq_left', exists_eq_right, Prod.exists, Prod.forall, and_assoc, exists_and_left, BC_iff, Bool.not_eq_true', Bool.not_eq_false', decide_eq_true_eq, decide_eq_false_iff_not, I64, nat_cast_inj, Int.toNat_natCast, nats_iff, nats_iff', ints_iff, ints_iff', natss_iff, natss_iff', nilnil, litL_eq, str_inj, str_append, str_length, str_getD, str_take, lit1_iff, one_iff, two_iff, one_get, Nat.zero_add, Nat.sub_zero, Nat.reduceMul, Nat.reduceDiv, Nat.reduceAdd, Int.reduceToNat, Nat.not_lt_zero, if_false, if_true, Nat.le_refl, List.length_singleton, List.length_cons, List.length_nil, Bool.false_eq_true, not_true_eq_false, false_implies, not_false_eq_true, Prod.mk.injEq, setB_inj]
  rintro n l ⟨h1, h2, hl⟩
  have hlen := hl.2
  refine ⟨hlen, fun hsm hn5 => ?_⟩
  have hi : Ints l := ⟨hl.1, by omega⟩
  have hcl : clampN n ≤ 500 := by unfold clampN; omega
  have hs : SetW (clampN n, addL (clampN n) 0 l) := ⟨by simp only; omega, addL_lt (Nat.pos_of_ne_zero (by simp))⟩
  have hall := cntB_le (addL (clampN n) 0 l) (clampN n)
  generalize addL (clampN n) 0 l = m at *
  generalize clampN n = c at *
  refine ⟨h1, h2, hi, hs, by omega, by omega, fun s => ∃ a : Nat, a ≤ c ∧ s.1 = gapF (c, m) (c + 1) a ∧ s.2 + cntB m a = a, ⟨gapN (c, m) 0, 0, ⟨0, by omega, rfl, by simp [cntB, bitsL]⟩, rfl, rfl⟩, fun s => c - s.2 + (if 0 ≤ s.1 then 1 else 0), ?_⟩
  rintro g k ⟨a, ha, hg, hk⟩
  simp only at hg hk
  have hca := cntB_le m a
  have hcount : ∀ (h : g = -1), cntB m c = cntB m a + (c - a) → (k : Int) = (c : Int) - ((bitsL c m).length : Nat) := fun _ h => by
    have : (bitsL c m).length = cntB m c := rfl
    omega
  have hb : (bitsL c m).length = cntB m c := rfl
  rcases gap_spec (c, m) (c + 1) a ha (by simp only; omega) with ⟨h3, h4⟩ | ⟨b, h3, h4, h5, h6, h7⟩
  · rw [h3] at hg
    subst hg
    exact ⟨fun h => absurd h (by omega), fun _ => ⟨h1, h2, hs, by omega, by omega, hcount rfl h4⟩⟩
  · rw [h3] at hg
    subst hg
    simp only at h5 h6 h7
    have hin : inSet (c, m) (b : Int) := ⟨by omega, by simp only; omega⟩
    have hh : hasN (c, m) (b : Int) = false := by rw [hasN, decide_eq_true hin, Bool.true_and]; exact h6
    refine ⟨fun _ => ⟨fun hk5 => ⟨hs, by omega, by omega, fun h => (by rw [hh] at h; cases h), fun _ => ⟨h1, h2, fun h => by omega, fun _ => ⟨by omega, by omega, by omega, by omega, hs, by omega, by omega, gapN (c, m) ((b : Int) + 1), k + 1, ⟨b + 1, by omega, ?_, by simp only; omega⟩, ?_, rfl, by omega⟩⟩⟩, fun hk5 => absurd (show (k : Int) ≤ 500 by omega) hk5⟩, fun h => absurd (show (0 : Int) ≤ (b : Int) by omega) h⟩
    · rw [gapN, show ((b : Int) + 1).toNat = b + 1 by omega]
    · simp only
      rw [if_pos (show (0 : Int) ≤ (b : Int) by omega)]
      have : k + 1 ≤ c := by omega
      split <;> omega

end Yard
