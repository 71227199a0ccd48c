/- Lists of charts: sets from them. -/
import Derived.Test.YtlecpjgbmeejdaaDoorChart2
namespace Yard
open Go Go.Sx Go.Proofs
set_option linter.unusedVariables false
set_option linter.unusedSimpArgs false
set_option maxRecDepth 4000

/-- Some charts: how many, their places, their octets. -/
abbrev Chs : Type := Nat × (Nat → Int) × (Nat → Nat → Nat)
abbrev chsA (x : Chs) : AV := .ro 49 x.1 (fun i => chartV (x.2.1 i) (x.2.2 i))
def ChsW (x : Chs) : Prop := x.1 ≤ 9223372036854775807 ∧ ∀ i, i < x.1 → ChartW (x.2.1 i, x.2.2 i)
/-- All numbers of the first k charts. -/
def chsL (x : Chs) (k : Nat) : List Int := (List.range k).flatMap fun i => chartL (x.2.1 i) (x.2.2 i)
theorem chsL_succ (x : Chs) (k : Nat) : chsL x (k + 1) = chsL x k ++ chartL (x.2.1 k) (x.2.2 k) := by
  rw [chsL, chsL, List.range_succ, List.flatMap_append]; simp
theorem chsL_len (x : Chs) : ∀ k, (chsL x k).length ≤ 384 * k
  | 0 => by simp [chsL]
  | k + 1 => by
    have := chsL_len x k
    have h2 := chartP_len (x.2.1 k) (x.2.2 k) 384
    rw [chsL_succ, List.length_append, chartL]; omega
theorem chartL_sorted (p : Int) (f : Nat → Nat) : (chartL p f).Pairwise (· < ·) := by
  unfold chartL chartP
  split
  · rw [List.pairwise_map]
    exact List.Pairwise.imp (R := (· < ·)) (fun h => by omega) (List.Pairwise.filter _ List.pairwise_lt_range)
  · exact .nil
theorem last_max {l : List Int} (hs : l.Pairwise (· < ·)) {a : Int} (ha : a ∈ l) : a ≤ l.getD (l.length - 1) 0 := by
  obtain ⟨i, hi, e⟩ := List.mem_iff_getElem.1 ha
  rw [List.getD_eq_getElem?_getD, List.getElem?_eq_getElem (by omega), ← e, Option.getD_some]
  by_cases h : i = l.length - 1
  · simp [h]
  · have := List.pairwise_iff_getElem.1 hs i (l.length - 1) hi (by omega) (by omega)
    omega
theorem chartL_ints {p : Int} {f : Nat → Nat} (h : I64 p) : Ints (chartL p f) := by
  refine ⟨fun x hx => ?_, by have := chartP_len p f 384; rw [chartL]; omega⟩
  unfold chartL chartP at hx
  split at hx
  · rename_i hr
    unfold chartRt at hr
    obtain ⟨i, hi, rfl⟩ := List.mem_map.1 hx
    have := List.mem_range.1 (List.mem_filter.1 hi).1
    exact ⟨by omega, by omega⟩
  · simp at hx
/-- Are these charts a set's? -/
def chsOk (n : Int) (x : Chs) : Prop := 0 ≤ n ∧ n ≤ 3072 ∧ x.1 = chN n.toNat ∧ ∀ i, i < x.1 → x.2.1 i = (i : Int) ∧ ∀ a ∈ chartL (x.2.1 i) (x.2.2 i), a < n
def setFromI : Ctr2 where
  X := Int × Chs
  conv := true
  tau := fun _ _ => []
  pre := fun x => I64 x.1 ∧ ChsW x.2
  args := fun x => [i64 x.1, chsA x.2]
  heap := fun _ => []
  p := fun x => chsOk x.1 x.2
  a := { Y := Unit, Q := fun _ _ => True, res := fun _ _ => .tup [.ptr 1 [] 0, .bool true], its := fun _ _ => [], new := fun x _ => [setI (x.1.toNat, addL x.1.toNat 0 (chsL x.2 x.2.1))] }
  b := { Y := Unit, Q := fun _ _ => True, res := fun _ _ => .tup [.nilp, .bool false], its := fun _ _ => [], new := fun _ _ => [] }
def setFromLA (x : Int × Chs) : LA := { T := Nat × Nat, F := fun s => frm 58 [(0, i64 x.1), (6, .ptr 1 [] 0), (25, chsA x.2), (26, i64 (x.2.1 : Nat)), (27, i64 (s.1 : Nat))], H := fun s => [.fence, setI (x.1.toNat, s.2)] }

-- callees: 15=setOf_ok 21=(specObj_ok setAdd_ok setAddO_ok) 63=chartsN_ok 64=chartList_ok
theorem setFromV : (∀ (x : Int × Chs),
  I64 x.fst ∧ ChsW x.snd →
    BC (decide (x.fst < (0 : Int)))
      ((((0 : Int) ≤ x.fst ∧
            x.fst ≤ (3072 : Int) ∧
              x.snd.fst = chN x.fst.toNat ∧ ∀ (i : Nat), i < x.snd.fst → x.snd.snd.fst i = (↑i : Int) ∧ ∀ (a : Int), a ∈ chartL (x.snd.snd.fst i) (x.snd.snd.snd i) → a < x.fst) ∧
          Exx Unit fun y => (((False ∧ false = true ∧ True) ∧ True) ∧ true = true ∧ False ∧ True) ∧ True) ∨
        ¬setFromI.p x ∧ Exx Unit fun y => ((Tr 1 (false = false ∧ True) ∧ True) ∧ true = true ∧ True) ∧ True)
      (BC (decide ((3072 : Int) < x.fst))
        ((((0 : Int) ≤ x.fst ∧
              x.fst ≤ (3072 : Int) ∧
                x.snd.fst = chN x.fst.toNat ∧ ∀ (i : Nat), i < x.snd.fst → x.snd.snd.fst i = (↑i : Int) ∧ ∀ (a : Int), a ∈ chartL (x.snd.snd.fst i) (x.snd.snd.snd i) → a < x.fst) ∧
            Exx Unit fun y => (((False ∧ false = true ∧ True) ∧ True) ∧ true = true ∧ False ∧ True) ∧ True) ∨
          ¬setFromI.p x ∧ Exx Unit fun y => ((Tr 1 (false = false ∧ True) ∧ True) ∧ true = true ∧ True) ∧ True)
        (Exx Nat fun x_1 =>
          ((Tr 1 (x.fst = (↑x_1 : Int)) ∧ True) ∧ true = true ∧ True) ∧
            x_1 ≤ 3072 ∧
              ∀ (y : Unit),
                True →
                  BC (!decide ((↑x.snd.fst : Int) = (↑(chN x_1) : Int)))
                    ((((0 : Int) ≤ x.fst ∧
                          x.fst ≤ (3072 : Int) ∧
                            x.snd.fst = chN x.fst.toNat ∧
                              ∀ (i : Nat), i < x.snd.fst → x.snd.snd.fst i = (↑i : Int) ∧ ∀ (a : Int), a ∈ chartL (x.snd.snd.fst i) (x.snd.snd.snd i) → a < x.fst) ∧
                        Exx Unit fun y => (((False ∧ false = true ∧ True) ∧ True) ∧ true = true ∧ False ∧ True) ∧ True) ∨
                      ¬setFromI.p x ∧ Exx Unit fun y => ((Tr 1 (false = false ∧ True) ∧ True) ∧ true = true ∧ True) ∧ True)
                    (Exx (Int × List Int) fun x_2 =>
                      ((Tr 1 (x.fst = x_2.fst) ∧ (0 = x_2.snd.length ∧ ∀ (i : Nat), i < x_2.snd.length → [] = [AV.int IntKind.i64 (x_2.snd.getD i 0)]) ∧ True) ∧
                          true = true ∧ True) ∧
                        (I64 x_2.fst ∧ Ints x_2.snd) ∧
                          ∀ (y : Unit),
                            True →
                              Exx (Nat × Nat → Prop) fun I =>
                                Exx (Nat × Nat → Nat) fun m =>
                                  (Exx (Nat × Nat) fun t =>
                                      I t ∧
                                        (Tr 1 (x.fst = x.fst) ∧
                                            Tr 5
                                              ((true = true ∧ NilNil ∧ (0 : Nat) = (0 : Nat)) ∧
                                                Tr 18
                                                  (((49 : Nat) = (49 : Nat) ∧
                                                      x.snd.fst = x.snd.fst ∧
                                                        ∀ (i : Nat),
                                                          i < x.snd.fst →
                                                            [AV.int IntKind.i64 (x.snd.snd.fst i), AV.arr 1 48 fun j => [AV.int IntKind.u8 (↑(x.snd.snd.snd i j) : Int)]] =
                                                              [AV.int IntKind.i64 (x.snd.snd.fst i), AV.arr 1 48 fun j => [AV.int IntKind.u8 (↑(x.snd.snd.snd i j) : Int)]]) ∧
                                                    Tr 1 ((↑x.snd.fst : Int) = (↑x.snd.fst : Int)) ∧ Tr 1 ((0 : Int) = (↑t.fst : Int)) ∧ Tr 30 True))) ∧
                                          true = true ∧ setB (clampN x_2.fst, addL (clampN x_2.fst) 0 x_2.snd) = setB (x.fst.toNat, t.snd) ∧ True) ∧
                                    ∀ (t : Nat × Nat),
                                      I t →
                                        BC (decide ((↑t.fst : Int) < (↑x.snd.fst : Int)))
                                          (((0 : Int) ≤ (↑t.fst : Int) ∧ (↑t.fst : Int) < (↑x.snd.fst : Int)) ∧
                                            Exx (Int × (Nat → Nat)) fun x_3 =>
                                              (((Tr 1 (x.snd.snd.fst (↑t.fst : Int).toNat = x_3.fst) ∧
                                                      (1 : Nat) = (1 : Nat) ∧
                                                        (48 : Nat) = (48 : Nat) ∧
                                                          (∀ (i : Nat),
                                                              i < 48 →
                                                                [AV.int IntKind.u8 (↑(x.snd.snd.snd (↑t.fst : Int).toNat i) : Int)] = [AV.int IntKind.u8 (↑(x_3.snd i) : Int)]) ∧
                                                            True) ∧
                                                    True) ∧
                                                  true = true ∧ True) ∧
                                                ChartW x_3 ∧
                                                  ∀ (y : Nat),
                                                    (chartL x_3.fst x_3.snd).length ≤ y →
                                                      BC (!decide (x.snd.snd.fst (↑t.fst : Int).toNat = (↑t.fst : Int)))
                                                        ((((0 : Int) ≤ x.fst ∧
                                                              x.fst ≤ (3072 : Int) ∧
                                                                x.snd.fst = chN x.fst.toNat ∧
                                                                  ∀ (i : Nat),
                                                                    i < x.snd.fst →
                                                                      x.snd.snd.fst i = (↑i : Int) ∧ ∀ (a : Int), a ∈ chartL (x.snd.snd.fst i) (x.snd.snd.snd i) → a < x.fst) ∧
                                                            Exx Unit fun y =>
                                                              (((False ∧ false = true ∧ True) ∧ True) ∧
                                                                  true = true ∧ setB (x.fst.toNat, t.snd) = setB (x.fst.toNat, addL x.fst.toNat 0 (chsL x.snd x.snd.fst)) ∧ True) ∧
                                                                True) ∨
                                                          ¬setFromI.p x ∧ Exx Unit fun y => ((Tr 1 (false = false ∧ True) ∧ True) ∧ true = true ∧ True) ∧ True)
                                                        (BC (decide ((0 : Int) < (↑(chartL x_3.fst x_3.snd).length : Int)))
                                                          (I64 ((↑(chartL x_3.fst x_3.snd).length : Int) - 1) ∧
                                                            ((0 : Int) ≤ (↑(chartL x_3.fst x_3.snd).length : Int) - 1 ∧
                                                                (↑(chartL x_3.fst x_3.snd).length : Int) - 1 < (↑(chartL x_3.fst x_3.snd).length : Int)) ∧
                                                              0 + ((↑(chartL x_3.fst x_3.snd).length : Int) - 1).toNat < (chartL x_3.fst x_3.snd).length ∧
                                                                BC (decide (x.fst ≤ (chartL x_3.fst x_3.snd).getD (0 + ((↑(chartL x_3.fst x_3.snd).length : Int) - 1).toNat) 0))
                                                                  ((((0 : Int) ≤ x.fst ∧
                                                                        x.fst ≤ (3072 : Int) ∧
                                                                          x.snd.fst = chN x.fst.toNat ∧
                                                                            ∀ (i : Nat),
                                                                              i < x.snd.fst →
                                                                                x.snd.snd.fst i = (↑i : Int) ∧
                                                                                  ∀ (a : Int), a ∈ chartL (x.snd.snd.fst i) (x.snd.snd.snd i) → a < x.fst) ∧
                                                                      Exx Unit fun y =>
                                                                        (((False ∧ false = true ∧ True) ∧ True) ∧
                                                                            true = true ∧
                                                                              setB (x.fst.toNat, t.snd) = setB (x.fst.toNat, addL x.fst.toNat 0 (chsL x.snd x.snd.fst)) ∧ True) ∧
                                                                          True) ∨
                                                                    ¬setFromI.p x ∧ Exx Unit fun y => ((Tr 1 (false = false ∧ True) ∧ True) ∧ true = true ∧ True) ∧ True)
                                                                  (Exx ((Nat × Nat) × List Int) fun x_4 =>
                                                                    (((true = true ∧ NilNil ∧ (0 : Nat) = (0 : Nat)) ∧
                                                                          (0 + (chartL x_3.fst x_3.snd).length ≤ (chartL x_3.fst x_3.snd).length ∧
                                                                              (chartL x_3.fst x_3.snd).length = x_4.snd.length ∧
                                                                                ∀ (i : Nat),
                                                                                  i < x_4.snd.length →
                                                                                    [AV.int IntKind.i64 ((chartL x_3.fst x_3.snd).getD (0 + i) 0)] =
                                                                                      [AV.int IntKind.i64 (x_4.snd.getD i 0)]) ∧
                                                                            True) ∧
                                                                        true = true ∧ setB (x.fst.toNat, t.snd) = setB x_4.fst ∧ True) ∧
                                                                      (SetW x_4.fst ∧ Ints x_4.snd) ∧
                                                                        ∀ (y : Unit),
                                                                          True →
                                                                            I64 ((↑t.fst : Int) + 1) ∧
                                                                              Exx (Nat × Nat) fun t' =>
                                                                                (I t' ∧ m t' < m t) ∧
                                                                                  (Tr 1 (x.fst = x.fst) ∧
                                                                                      Tr 5
                                                                                        ((true = true ∧ NilNil ∧ (0 : Nat) = (0 : Nat)) ∧
                                                                                          Tr 18
                                                                                            (((49 : Nat) = (49 : Nat) ∧
                                                                                                x.snd.fst = x.snd.fst ∧
                                                                                                  ∀ (i : Nat),
                                                                                                    i < x.snd.fst →
                                                                                                      [AV.int IntKind.i64 (x.snd.snd.fst i),
                                                                                                          AV.arr 1 48 fun j => [AV.int IntKind.u8 (↑(x.snd.snd.snd i j) : Int)]] =
                                                                                                        [AV.int IntKind.i64 (x.snd.snd.fst i),
                                                                                                          AV.arr 1 48 fun j => [AV.int IntKind.u8 (↑(x.snd.snd.snd i j) : Int)]]) ∧
                                                                                              Tr 1 ((↑x.snd.fst : Int) = (↑x.snd.fst : Int)) ∧
                                                                                                Tr 1 ((↑t.fst : Int) + 1 = (↑t'.fst : Int)) ∧ Tr 30 True))) ∧
                                                                                    true = true ∧
                                                                                      setB (x_4.fst.fst, addL x_4.fst.fst x_4.fst.snd x_4.snd) = setB (x.fst.toNat, t'.snd) ∧ True))
                                                          (Exx ((Nat × Nat) × List Int) fun x_4 =>
                                                            (((true = true ∧ NilNil ∧ (0 : Nat) = (0 : Nat)) ∧
                                                                  (0 + (chartL x_3.fst x_3.snd).length ≤ (chartL x_3.fst x_3.snd).length ∧
                                                                      (chartL x_3.fst x_3.snd).length = x_4.snd.length ∧
                                                                        ∀ (i : Nat),
                                                                          i < x_4.snd.length →
                                                                            [AV.int IntKind.i64 ((chartL x_3.fst x_3.snd).getD (0 + i) 0)] =
                                                                              [AV.int IntKind.i64 (x_4.snd.getD i 0)]) ∧
                                                                    True) ∧
                                                                true = true ∧ setB (x.fst.toNat, t.snd) = setB x_4.fst ∧ True) ∧
                                                              (SetW x_4.fst ∧ Ints x_4.snd) ∧
                                                                ∀ (y : Unit),
                                                                  True →
                                                                    I64 ((↑t.fst : Int) + 1) ∧
                                                                      Exx (Nat × Nat) fun t' =>
                                                                        (I t' ∧ m t' < m t) ∧
                                                                          (Tr 1 (x.fst = x.fst) ∧
                                                                              Tr 5
                                                                                ((true = true ∧ NilNil ∧ (0 : Nat) = (0 : Nat)) ∧
                                                                                  Tr 18
                                                                                    (((49 : Nat) = (49 : Nat) ∧
                                                                                        x.snd.fst = x.snd.fst ∧
                                                                                          ∀ (i : Nat),
                                                                                            i < x.snd.fst →
                                                                                              [AV.int IntKind.i64 (x.snd.snd.fst i),
                                                                                                  AV.arr 1 48 fun j => [AV.int IntKind.u8 (↑(x.snd.snd.snd i j) : Int)]] =
                                                                                                [AV.int IntKind.i64 (x.snd.snd.fst i),
                                                                                                  AV.arr 1 48 fun j => [AV.int IntKind.u8 (↑(x.snd.snd.snd i j) : Int)]]) ∧
                                                                                      Tr 1 ((↑x.snd.fst : Int) = (↑x.snd.fst : Int)) ∧
                                                                                        Tr 1 ((↑t.fst : Int) + 1 = (↑t'.fst : Int)) ∧ Tr 30 True))) ∧
                                                                            true = true ∧
                                                                              setB (x_4.fst.fst, addL x_4.fst.fst x_4.fst.snd x_4.snd) = setB (x.fst.toNat, t'.snd) ∧ True)))
                                          ((((0 : Int) ≤ x.fst ∧
                                                x.fst ≤ (3072 : Int) ∧
                                                  x.snd.fst = chN x.fst.toNat ∧
                                                    ∀ (i : Nat),
                                                      i < x.snd.fst → x.snd.snd.fst i = (↑i : Int) ∧ ∀ (a : Int), a ∈ chartL (x.snd.snd.fst i) (x.snd.snd.snd i) → a < x.fst) ∧
                                              Exx Unit fun y =>
                                                ((((true = true ∧ NilNil ∧ (0 : Nat) = (0 : Nat)) ∧ true = true ∧ True) ∧ True) ∧
                                                    true = true ∧ setB (x.fst.toNat, t.snd) = setB (x.fst.toNat, addL x.fst.toNat 0 (chsL x.snd x.snd.fst)) ∧ True) ∧
                                                  True) ∨
                                            ¬setFromI.p x ∧ Exx Unit fun y => (((False ∧ true = false ∧ True) ∧ True) ∧ true = true ∧ True) ∧ True))))) =
    (fnVC2 tb [(15, specOf setOfC), (21, specObj (specOf setAddC) (specOf setAddOC)), (63, specOf chartsNC), (64, specOf chartListC)] Tryd.f36 setFromI (fun x => { loops := [(5, setFromLA x)] }) (fun _ _ _ => none) (fun _ => []) (fun _ _ _ _ => []) (fun _ _ _ _ => [])) := by kernel_rfl

theorem setFrom_ok : SpecOk Tryd.prog 36 (specIf setFromI) := by
  refine specIfo mixed tb_ok (SPok.cons setOf_ok (SPok.cons (specObj_ok setAdd_ok setAddO_ok) (SPok.cons chartsN_ok (SPok.cons chartList_ok SPok.nil)))) Tryd.func36 (by decide) ⟨fun _ _ _ _ => rfl, fun _ _ _ _ => ⟨rfl, rfl⟩, fun x _ _ _ _ => ⟨⟨trivial, ⟨trivial, trivial⟩⟩, rfl, rfl, trivial⟩⟩ ⟨fun _ _ _ _ => rfl, fun _ _ _ _ => ⟨rfl, rfl⟩, fun x _ _ _ _ => ⟨⟨trivial, trivial⟩, rfl, rfl, trivial⟩⟩ (an := (fun x => { loops := [(5, setFromLA x)] })) (σ := (fun _ _ _ => none)) (op := (fun _ => [])) (clA := (fun _ _ _ _ => [])) (clB := (fun _ _ _ _ => [])) ?_
  rw [← setFromV]
  simp (maxSteps := 10000000) only [and_false, false_and, false_or, or_false, bOf_true, bOf_false, true_bOf, false_bOf, Exx, int_ite, merge_o, Tr_eq, true_and, and_true, exists_const, forall_const, implies_true, forall_eq, exists_eq, exists_eq', exists_eq_left, exists_eq_left', exists_eq_right, Prod.exists, Prod.forall, and_assoc, exists_and_left, BC_iff, Bool.not_eq_true', Bool.not_eq_false', decide_eq_true_eq, decide_eq_false_iff_not, I64, nat_cast_inj, Int.toNat_natCast, nats_iff, nats_iff', ints_iff, ints_iff', natss_iff, natss_iff', nilnil, litL_eq, str_inj, str_append, str_length, str_getD, str_take, lit1_iff, one_iff, two_iff, one_get, Nat.zero_add, Nat.sub_zero, Nat.reduceMul, Nat.reduceDiv, Nat.reduceAdd, Int.reduceToNat, Nat.not_lt_zero, if_false, if_true, Nat.le_refl, List.length_singleton, List.length_cons, List.length_nil, Bool.false_eq_true, not_true_eq_false, false_implies, not_false_eq_true, Prod.mk.injEq, setB_inj]
  rintro n c p f ⟨h1, h2, hc, hw⟩
  have hp : setFromI.p (n, c, p, f) ↔ chsOk n (c, p, f) := Iff.rfl
  rw [hp]
  refine ⟨fun h k => by have := k.1; omega, fun h0 => ⟨fun h k => by have := k.2.1; omega, fun h3 => ?_⟩⟩
  obtain ⟨m, rfl⟩ : ∃ m : Nat, n = (m : Int) := ⟨n.toNat, by omega⟩
  have hcl : clampN (m : Int) = m := by unfold clampN; omega
  refine ⟨m, rfl, by omega, fun h k => h (by have := k.2.2.1; simpa using this), fun hcm => ⟨[], rfl, fun i hi => by simp at hi, by omega, by omega, ⟨by simp, by simp⟩, ?_⟩⟩
  have hc9 : c ≤ 9 := by rw [hcm]; unfold chN; omega
  refine ⟨fun s => s.1 ≤ c ∧ s.2 = addL m 0 (chsL (c, p, f) s.1) ∧ ∀ i, i < s.1 → p i = (i : Int) ∧ ∀ a ∈ chartL (p i) (f i), a < (m : Int), ⟨0, 0, ⟨by omega, rfl, fun i hi => absurd hi (Nat.not_lt_zero _)⟩, rfl, hcl, by rw [hcl]; rfl⟩, fun s => c - s.1, ?_⟩
  rintro i q ⟨hi, hq, hall⟩
  simp only at hi hq hall
  have hm0 : 0 < 2 ^ m := Nat.pos_of_ne_zero (by simp)
  refine ⟨fun hlt => ⟨by omega, by omega, f i, fun _ _ => rfl, hw i (by omega), fun y hy => ⟨fun h k => h (k.2.2.2 i (by omega)).1, fun hpi => ?_⟩⟩, fun hge => ⟨by omega, by omega, by simpa using hcm, fun j hj => hall j (by omega), by rw [hq, show i = c by omega]; rfl⟩⟩
  have hs : SetW ((m : Int).toNat, q) := ⟨by simp only; omega, by rw [hq]; exact addL_lt hm0⟩
  have hci := chartL_ints (p := p i) (f := f i) (hw i (by omega)).1
  have hsort := chartL_sorted (p i) (f i)
  have hnext : addL (m : Int).toNat q (chartL (p i) (f i)) = addL m 0 (chsL (c, p, f) (i + 1)) := by
    rw [chsL_succ, hq]; simp [addL, List.foldl_append]
  generalize hl : chartL (p i) (f i) = l at *
  have hlen := hci.2
  refine ⟨fun hpos => ?_, fun hz => ⟨hs, hci, by omega, by omega, i + 1, _, ⟨by simp only; omega, rfl, fun j hj => ?_⟩, by simp only; omega, by omega, hnext⟩⟩
  · have e : ((l.length : Int) - 1).toNat = l.length - 1 := by omega
    rw [e]
    have hmem : l.getD (l.length - 1) 0 ∈ l := by
      rw [List.getD_eq_getElem?_getD, List.getElem?_eq_getElem (by omega)]; exact List.getElem_mem _
    refine ⟨by omega, by omega, by omega, by omega, by omega, fun h k => ?_, fun h => ⟨hs, hci, by omega, by omega, i + 1, _, ⟨by simp only; omega, rfl, fun j hj => ?_⟩, by simp only; omega, by omega, hnext⟩⟩
    · have := (k.2.2.2 i (by omega)).2
      simp only at this
      rw [hl] at this
      have := this _ hmem
      omega
    · by_cases e : j = i
      · subst e; rw [hl]; exact ⟨hpi, fun a ha => by have := last_max hsort ha; omega⟩
      · exact hall j (by simp only at hj; omega)
  · by_cases e : j = i
    · subst e; rw [hl, List.length_eq_zero_iff.1 (by omega : l.length = 0)]; exact ⟨hpi, by simp⟩
    · exact hall j (by simp only at hj; omega)

end Yard
