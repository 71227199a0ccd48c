/- A set's charts. -/
import Derived.Test.YtlecpjgbmeejdaaDoorChart
namespace Yard
open Go Go.Sx Go.Proofs
set_option linter.unusedVariables false
set_option linter.unusedSimpArgs false
set_option maxRecDepth 4000

def chN (n : Nat) : Nat := (n + 383) / 384
def chartsNC : Ctr := pureC Nat (fun n => n ≤ 3072) (fun n => [i64 (n : Nat)]) (fun n => i64 (chN n : Nat))

-- callees: 
theorem chartsNV : (∀ (x : Nat),
  x ≤ 3072 →
    I64 ((↑x : Int) + 384) ∧
      I64 ((↑x : Int) + 384 - 1) ∧
        (384 : Int) ≠ (0 : Int) ∧
          I64 (((↑x : Int) + 384 - 1).tdiv 384) ∧ Exx Unit fun y => ((Tr 1 (((↑x : Int) + 384 - 1).tdiv 384 = (↑(chN x) : Int)) ∧ True) ∧ true = true ∧ True) ∧ True) =
    (fnVC tb [] Tryd.f63 chartsNC (fun _ => {}) (fun _ => none)) := by kernel_rfl

theorem chartsN_ok : SpecOk Tryd.prog 63 (specOf chartsNC) := by
  refine specOk mixed tb_ok SPok.nil Tryd.func63 (by decide) (pureC_ok fun _ => rfl) (an := (fun _ => {})) (σ := (fun _ => none)) ?_
  rw [← chartsNV]
  simp (maxSteps := 10000000) only [and_false, false_and, false_or, or_false, bOf_true, bOf_false, true_bOf, false_bOf, Exx, int_ite, merge_o, Tr_eq, true_and, and_true, exists_const, forall_const, implies_true, forall_eq, exists_eq, exists_eq', exists_eq_left, exists_eq_left', exists_eq_right, Prod.exists, Prod.forall, and_assoc, exists_and_left, BC_iff, Bool.not_eq_true', Bool.not_eq_false', decide_eq_true_eq, decide_eq_false_iff_not, I64, nat_cast_inj, Int.toNat_natCast, nats_iff, nats_iff', ints_iff, ints_iff', natss_iff, natss_iff', nilnil, litL_eq, str_inj, str_append, str_length, str_getD, str_take, lit1_iff, one_iff, two_iff, one_get, Nat.zero_add, Nat.sub_zero, Nat.reduceMul, Nat.reduceDiv, Nat.reduceAdd, Int.reduceToNat, Nat.not_lt_zero, if_false, if_true, Nat.le_refl, List.length_singleton, List.length_cons, List.length_nil, Bool.false_eq_true, not_true_eq_false, false_implies, not_false_eq_true, Prod.mk.injEq]
  intro n hn
  have e : ((n : Int) + 384 - 1).tdiv 384 = ((chN n : Nat) : Int) := by
    rw [show (n : Int) + 384 - 1 = ((n + 383 : Nat) : Int) by omega]; rfl
  have : chN n ≤ 10 := by unfold chN; omega
  rw [e]; omega

/-- Octet k of chart j. -/
def chartF (m j k : Nat) : Nat := if k < 48 then m / 2 ^ (384 * j + 8 * k) % 256 else 0
theorem chartF_bit {m j k i : Nat} (hk : k < 48) : (chartF m j k).testBit i = (decide (i < 8) && m.testBit (384 * j + 8 * k + i)) := by
  rw [chartF, if_pos hk, show 256 = 2 ^ 8 from rfl, Nat.testBit_mod_two_pow, Nat.testBit_div_two_pow, Nat.add_comm i]
theorem chartF_lt (m j k : Nat) : chartF m j k < 256 := by
  unfold chartF; split
  · exact Nat.mod_lt _ (by decide)
  · decide
theorem chartF_or {m a j k : Nat} : chartF (m ||| 2 ^ a) j k = if j = a / 384 then markF (chartF m j) (a % 384) true k else chartF m j k := by
  by_cases hk : k < 48
  case neg =>
    have h0 : ∀ x, chartF x j k = 0 := fun x => by rw [chartF, if_neg hk]
    have hne : ¬ k = a % 384 / 8 := by omega
    rw [h0, markF, if_neg hne, h0]; simp
  apply Nat.eq_of_testBit_eq
  intro i
  rw [chartF_bit hk, Nat.testBit_or, Nat.testBit_two_pow]
  by_cases hj : j = a / 384
  · rw [if_pos hj, markF, show a % 384 % 8 = a % 8 by omega]
    by_cases hkr : k = a % 384 / 8
    · rw [if_pos hkr, if_pos rfl, Nat.testBit_or, clr_bit, chartF_bit hk, Nat.testBit_two_pow]
      by_cases hi : i < 8
      · have : (a = 384 * j + 8 * k + i) ↔ (a % 8 = i) := by omega
        simp only [hi, decide_true, Bool.true_and, this]
        by_cases e : a % 8 = i <;> simp [e]
      · have : ¬ (a % 8 = i) := by omega
        simp [hi, this]
    · rw [if_neg hkr, chartF_bit hk]
      by_cases hi : i < 8
      · have : ¬ (a = 384 * j + 8 * k + i) := by omega
        simp [this]
      · simp [hi]
  · rw [if_neg hj, chartF_bit hk]
    by_cases hi : i < 8
    · have : ¬ (a = 384 * j + 8 * k + i) := by omega
      simp [this]
    · simp [hi]
theorem chartF_zero (j k : Nat) : chartF 0 j k = 0 := by simp [chartF]

theorem add1_bit {n m : Nat} {a : Int} {i : Nat} : (add1 n m a).testBit i = (m.testBit i || decide (i < n ∧ (i : Int) = a)) := by
  unfold add1 inB
  by_cases h : 0 ≤ a ∧ a < (n : Int)
  · rw [if_pos (decide_eq_true h), Nat.testBit_or, Nat.testBit_two_pow]
    have : (a.toNat = i) ↔ (i < n ∧ (i : Int) = a) := by omega
    simp only [this]
  · rw [if_neg (by rw [decide_eq_false h]; simp)]
    have : ¬ (i < n ∧ (i : Int) = a) := by omega
    simp [this]
theorem addL_bit {n i : Nat} : ∀ {l : List Int} {m : Nat}, (addL n m l).testBit i = (m.testBit i || decide (i < n ∧ (i : Int) ∈ l))
  | [], m => by simp [addL]
  | a :: r, m => by
    have e : addL n m (a :: r) = addL n (add1 n m a) r := rfl
    rw [e, addL_bit (l := r), add1_bit, Bool.or_assoc]
    congr 1
    rw [← Bool.decide_or]
    apply decide_eq_decide.2
    rw [List.mem_cons]
    constructor
    · rintro (⟨h1, h2⟩ | ⟨h1, h2⟩)
      · exact ⟨h1, .inl h2⟩
      · exact ⟨h1, .inr h2⟩
    · rintro ⟨h1, h2 | h2⟩
      · exact .inl ⟨h1, h2⟩
      · exact .inr ⟨h1, h2⟩
theorem listN_mem {n m : Nat} {a : Int} : a ∈ listN (n, m) ↔ 0 ≤ a ∧ a < (n : Int) ∧ m.testBit a.toNat = true := by
  rw [listN, List.mem_map]
  constructor
  · rintro ⟨i, hi, rfl⟩
    obtain ⟨h1, h2⟩ := bitsL_mem.1 hi
    exact ⟨by omega, by simp only at h1; omega, h2⟩
  · rintro ⟨h1, h2, h3⟩
    exact ⟨a.toNat, bitsL_mem.2 ⟨by simp only; omega, h3⟩, by omega⟩
theorem addL_list {n m : Nat} (h : m < 2 ^ n) : addL n 0 (listN (n, m)) = m := by
  apply Nat.eq_of_testBit_eq
  intro i
  rw [addL_bit, Nat.zero_testBit, Bool.false_or]
  by_cases hi : i < n
  · cases hb : m.testBit i
    · exact decide_eq_false fun k => by have := (listN_mem.1 k.2).2.2; rw [Int.toNat_natCast, hb] at this; cases this
    · exact decide_eq_true ⟨hi, listN_mem.2 ⟨by omega, by omega, hb⟩⟩
  · rw [Nat.testBit_lt_two_pow (Nat.lt_of_lt_of_le h (Nat.pow_le_pow_right (by decide) (by omega)))]
    exact decide_eq_false fun k => hi k.1

def setChartsC : Ctr where
  X := Nat × Nat
  Y := Nat
  conv := true
  tau := ptrTau
  pre := SetW
  args := fun _ => [.ptr 0 [] 0]
  heap := fun s => [setI s]
  Q := fun s cap => chN s.1 ≤ cap
  res := fun s cap => .sl 2 [] 0 49 0 (chN s.1) cap
  its := fun s _ => [setI s]
  new := fun s cap => [.row 82 49 cap (chN s.1) (fun j => chartV (j : Nat) (chartF s.2 j))]
theorem setChartsC_ok : CtrOk setChartsC :=
  ⟨fun _ _ _ _ => (rfl : 1 = 1), fun _ _ _ _ => ⟨rfl, rfl⟩, fun x _ _ _ _ => ⟨⟨⟨trivial, trivial⟩, ⟨⟨fun _ _ => ⟨rfl, ⟨fun _ _ => ⟨rfl, trivial⟩, trivial⟩⟩, trivial⟩, trivial⟩⟩, rfl⟩⟩
def chartsLA (x : Nat × Nat) : LA := { T := Nat × Nat × Nat, F := fun s => frm 45 [(0, .ptr 0 [] 0), (3, .sl 3 [] 0 49 0 s.1 s.2.2), (12, i64 (chN x.1 : Nat)), (13, i64 (s.1 : Nat))], H := fun s => [.cells 85 [i64 (x.1 : Int), .sl 2 [] 0 1 0 (wcount x.1) s.2.1], .fence, .row 86 1 s.2.1 (wcount x.1) (fun j => [u64 (wordN x.2 j)]), .row 82 49 s.2.2 s.1 (fun j => chartV (j : Nat) (fun _ => 0))] }
def chartsLB (x : Nat × Nat) : LA := { T := Nat × Nat × Nat, F := fun s => frm 45 [(3, .sl 2 [] 0 49 0 (chN x.1) s.2.1), (23, .sl 3 [] 0 1 0 (listN x).length s.2.2), (24, i64 ((listN x).length : Nat)), (25, i64 (s.1 : Nat))], H := fun s => [setI x, .fence, .row 82 49 s.2.1 (chN x.1) (fun j => chartV (j : Nat) (chartF (addL x.1 0 ((listN x).take s.1)) j)), rowI 3 .i64 s.2.2 (listN x)], σ₁ := some [some 0, some 1, some 3, some 4] }

-- callees: 25=setList_ok 63=chartsN_ok 69=chartMark_ok
theorem setChartsV : (∀ (x : Nat × Nat),
  SetW x →
    setB x = (setO x).ob ∧
      ∀ (g : Nat),
        Exx Nat fun x_1 =>
          ((Tr 1 ((↑x.fst : Int) = (↑x_1 : Int)) ∧ True) ∧ true = true ∧ True) ∧
            x_1 ≤ 3072 ∧
              ∀ (y : Unit),
                True →
                  Exx (Nat × Nat × Nat → Prop) fun I =>
                    Exx (Nat × Nat × Nat → Nat) fun m =>
                      (Exx (Nat × Nat × Nat) fun t =>
                          I t ∧
                            ((true = true ∧ NilNil ∧ (0 : Nat) = (0 : Nat)) ∧
                                Tr 2 ((t.fst = 0 ∧ t.snd.snd = 0) ∧ Tr 8 (Tr 1 ((↑(chN x_1) : Int) = (↑(chN x.fst) : Int)) ∧ Tr 1 ((0 : Int) = (↑t.fst : Int)) ∧ Tr 31 True))) ∧
                              ((85 : TypeId) = (85 : TypeId) ∧
                                  Tr 1 ((↑x.fst : Int) = (↑x.fst : Int)) ∧
                                    (true = true ∧ NilNil ∧ (0 : Nat) = (0 : Nat) ∧ (1 : Nat) = (1 : Nat) ∧ (0 : Nat) = (0 : Nat) ∧ wcount x.fst = wcount x.fst ∧ g = t.snd.fst) ∧
                                      True) ∧
                                true = true ∧
                                  ((86 : TypeId) = (86 : TypeId) ∧
                                      (1 : Nat) = (1 : Nat) ∧
                                        g = t.snd.fst ∧
                                          wcount x.fst ≤ wcount x.fst ∧
                                            ∀ (i : Nat), i < wcount x.fst → [AV.int IntKind.u64 (↑(wordN x.snd i) : Int)] = [AV.int IntKind.u64 (↑(wordN x.snd i) : Int)]) ∧
                                    (t.snd.snd = 0 ∧ t.fst = 0) ∧ True) ∧
                        ∀ (t : Nat × Nat × Nat),
                          I t →
                            BC (decide ((↑t.fst : Int) < (↑(chN x.fst) : Int)))
                              ((0 : Nat) + (1 : Nat) ≤ (1 : Nat) ∧
                                true = true ∧
                                  (t.fst ≤ t.fst ∧ t.snd.snd = t.snd.snd) ∧
                                    (t.fst + 1 ≤ 9223372036854775807 ∧ (t.fst + 1) * 56 ≤ 140737488355328) ∧
                                      ∀ (cap : Nat),
                                        t.fst + 1 ≤ cap ∧ cap ≤ 9223372036854775807 →
                                          I64 ((↑t.fst : Int) + 1) ∧
                                            Exx (Nat × Nat × Nat) fun t' =>
                                              (I t' ∧ m t' < m t) ∧
                                                ((true = true ∧ NilNil ∧ (0 : Nat) = (0 : Nat)) ∧
                                                    Tr 2
                                                      ((true = true ∧
                                                          NilNil ∧
                                                            (0 : Nat) = (0 : Nat) ∧ (49 : Nat) = (49 : Nat) ∧ (0 : Nat) = (0 : Nat) ∧ t.fst + 1 = t'.fst ∧ cap = t'.snd.snd) ∧
                                                        Tr 8 (Tr 1 ((↑(chN x.fst) : Int) = (↑(chN x.fst) : Int)) ∧ Tr 1 ((↑t.fst : Int) + 1 = (↑t'.fst : Int)) ∧ Tr 31 True))) ∧
                                                  ((85 : TypeId) = (85 : TypeId) ∧
                                                      Tr 1 ((↑x.fst : Int) = (↑x.fst : Int)) ∧
                                                        (true = true ∧
                                                            NilNil ∧
                                                              (0 : Nat) = (0 : Nat) ∧
                                                                (1 : Nat) = (1 : Nat) ∧ (0 : Nat) = (0 : Nat) ∧ wcount x.fst = wcount x.fst ∧ t.snd.fst = t'.snd.fst) ∧
                                                          True) ∧
                                                    true = true ∧
                                                      ((86 : TypeId) = (86 : TypeId) ∧
                                                          (1 : Nat) = (1 : Nat) ∧
                                                            t.snd.fst = t'.snd.fst ∧
                                                              wcount x.fst ≤ wcount x.fst ∧
                                                                ∀ (i : Nat),
                                                                  i < wcount x.fst →
                                                                    [AV.int IntKind.u64 (↑(wordN x.snd i) : Int)] = [AV.int IntKind.u64 (↑(wordN x.snd i) : Int)]) ∧
                                                        ((82 : TypeId) = (82 : TypeId) ∧
                                                            (49 : Nat) = (49 : Nat) ∧
                                                              cap = t'.snd.snd ∧
                                                                t'.fst ≤ t.fst + 1 ∧
                                                                  ∀ (i : Nat),
                                                                    i < t'.fst →
                                                                      (if i < t.fst then [AV.int IntKind.i64 (↑i : Int), AV.arr 1 48 fun j => [AV.int IntKind.u8 (↑0 : Int)]]
                                                                        else
                                                                          mergeO (0 + (i - t.fst)) (0 * 49 / 49)
                                                                            [AV.int IntKind.i64 (↑t.fst : Int), AV.arr 1 48 fun x => [AV.int IntKind.u8 0]]
                                                                            [AV.int IntKind.i64 0, AV.arr 1 48 fun x => [AV.int IntKind.u8 0]]
                                                                            (mergeS (0 + (i - t.fst)) (0 * 49 / 49)
                                                                              [AV.int IntKind.i64 (↑t.fst : Int), AV.arr 1 48 fun x => [AV.int IntKind.u8 0]]
                                                                              [AV.int IntKind.i64 0, AV.arr 1 48 fun x => [AV.int IntKind.u8 0]])) =
                                                                        [AV.int IntKind.i64 (↑i : Int), AV.arr 1 48 fun j => [AV.int IntKind.u8 (↑0 : Int)]]) ∧
                                                          True)
                              (Exx Nat fun g =>
                                ([0, 2].length =
                                      [Item.cells 85 [AV.int IntKind.i64 (↑x.fst : Int), AV.sl 1 [] 0 1 0 (wcount x.fst) g],
                                          Item.row 86 1 g (wcount x.fst) fun j => [AV.int IntKind.u64 (↑(wordN x.snd j) : Int)]].length ∧
                                    ((85 : TypeId) = (85 : TypeId) ∧
                                        Tr 1 ((↑x.fst : Int) = (↑x.fst : Int)) ∧
                                          (true = true ∧
                                              NilNil ∧ (0 : Nat) = (0 : Nat) ∧ (1 : Nat) = (1 : Nat) ∧ (0 : Nat) = (0 : Nat) ∧ wcount x.fst = wcount x.fst ∧ t.snd.fst = g) ∧
                                            True) ∧
                                      ((86 : TypeId) = (86 : TypeId) ∧
                                          (1 : Nat) = (1 : Nat) ∧
                                            t.snd.fst = g ∧
                                              wcount x.fst ≤ wcount x.fst ∧
                                                ∀ (i : Nat), i < wcount x.fst → [AV.int IntKind.u64 (↑(wordN x.snd i) : Int)] = [AV.int IntKind.u64 (↑(wordN x.snd i) : Int)]) ∧
                                        True) ∧
                                  Exx (Nat × Nat) fun x_2 =>
                                    (((true = true ∧ NilNil ∧ (0 : Nat) = (0 : Nat)) ∧ True) ∧ true = true ∧ (setO x).ob = setB x_2 ∧ True) ∧
                                      SetW x_2 ∧
                                        ∀ (y : Nat),
                                          (listN x_2).length ≤ y →
                                            Exx (Nat × Nat × Nat → Prop) fun I =>
                                              Exx (Nat × Nat × Nat → Nat) fun m =>
                                                (Exx (Nat × Nat × Nat) fun t_1 =>
                                                    I t_1 ∧
                                                      Tr 3
                                                          ((true = true ∧
                                                              NilNil ∧
                                                                (0 : Nat) = (0 : Nat) ∧
                                                                  (49 : Nat) = (49 : Nat) ∧ (0 : Nat) = (0 : Nat) ∧ t.fst = chN x.fst ∧ t.snd.snd = t_1.snd.fst) ∧
                                                            Tr 19
                                                              ((true = true ∧
                                                                  NilNil ∧
                                                                    (0 : Nat) = (0 : Nat) ∧
                                                                      (1 : Nat) = (1 : Nat) ∧ (0 : Nat) = (0 : Nat) ∧ (listN x_2).length = (listN x).length ∧ y = t_1.snd.snd) ∧
                                                                Tr 1 ((↑(listN x_2).length : Int) = (↑(listN x).length : Int)) ∧
                                                                  Tr 1 ((0 : Int) = (↑t_1.fst : Int)) ∧ Tr 19 True)) ∧
                                                        setB x_2 = setB x ∧
                                                          true = true ∧
                                                            ((82 : TypeId) = (82 : TypeId) ∧
                                                                (49 : Nat) = (49 : Nat) ∧
                                                                  t.snd.snd = t_1.snd.fst ∧
                                                                    chN x.fst ≤ t.fst ∧
                                                                      ∀ (i : Nat),
                                                                        i < chN x.fst →
                                                                          [AV.int IntKind.i64 (↑i : Int), AV.arr 1 48 fun j => [AV.int IntKind.u8 (↑0 : Int)]] =
                                                                            [AV.int IntKind.i64 (↑i : Int),
                                                                              AV.arr 1 48 fun j =>
                                                                                [AV.int IntKind.u8 (↑(chartF (addL x.fst 0 (List.take t_1.fst (listN x))) i j) : Int)]]) ∧
                                                              ((3 : TypeId) = (3 : TypeId) ∧
                                                                  (1 : Nat) = (1 : Nat) ∧
                                                                    y = t_1.snd.snd ∧
                                                                      (listN x).length ≤ (listN x_2).length ∧
                                                                        ∀ (i : Nat),
                                                                          i < (listN x).length →
                                                                            [AV.int IntKind.i64 ((listN x_2).getD i 0)] = [AV.int IntKind.i64 ((listN x).getD i 0)]) ∧
                                                                True) ∧
                                                  ∀ (t : Nat × Nat × Nat),
                                                    I t →
                                                      BC (decide ((↑t.fst : Int) < (↑(listN x).length : Int)))
                                                        (((0 : Int) ≤ (↑t.fst : Int) ∧ (↑t.fst : Int) < (↑(listN x).length : Int)) ∧
                                                          0 + (↑t.fst : Int).toNat < (listN x).length ∧
                                                            (384 : Int) ≠ (0 : Int) ∧
                                                              I64 (((listN x).getD (0 + (↑t.fst : Int).toNat) 0).tdiv 384) ∧
                                                                ((0 : Int) ≤ ((listN x).getD (0 + (↑t.fst : Int).toNat) 0).tdiv 384 ∧
                                                                    ((listN x).getD (0 + (↑t.fst : Int).toNat) 0).tdiv 384 < (↑(chN x.fst) : Int)) ∧
                                                                  0 + (((listN x).getD (0 + (↑t.fst : Int).toNat) 0).tdiv 384).toNat < chN x.fst ∧
                                                                    Exx ((Int × (Nat → Nat)) × Int × Bool) fun x_3 =>
                                                                      (((Tr 1 ((↑(0 + (((listN x).getD (0 + (↑t.fst : Int).toNat) 0).tdiv 384).toNat) : Int) = x_3.fst.fst) ∧
                                                                              (1 : Nat) = (1 : Nat) ∧
                                                                                (48 : Nat) = (48 : Nat) ∧
                                                                                  (∀ (i : Nat),
                                                                                      i < 48 →
                                                                                        [AV.int IntKind.u8
                                                                                              (↑(chartF (addL x.fst 0 (List.take t.fst (listN x)))
                                                                                                    (0 + (((listN x).getD (0 + (↑t.fst : Int).toNat) 0).tdiv 384).toNat) i) :
                                                                                                Int)] =
                                                                                          [AV.int IntKind.u8 (↑(x_3.fst.snd i) : Int)]) ∧
                                                                                    True) ∧
                                                                            Tr 1 ((listN x).getD (0 + (↑t.fst : Int).toNat) 0 = x_3.snd.fst) ∧ true = x_3.snd.snd ∧ True) ∧
                                                                          true = true ∧ True) ∧
                                                                        (ChartW x_3.fst ∧ I64 x_3.snd.fst) ∧
                                                                          ∀ (y : Unit),
                                                                            True →
                                                                              ((0 : Int) ≤ ((listN x).getD (0 + (↑t.fst : Int).toNat) 0).tdiv 384 ∧
                                                                                  ((listN x).getD (0 + (↑t.fst : Int).toNat) 0).tdiv 384 < (↑(chN x.fst) : Int)) ∧
                                                                                0 + (((listN x).getD (0 + (↑t.fst : Int).toNat) 0).tdiv 384).toNat < chN x.fst ∧
                                                                                  chN x.fst = chN x.fst ∧
                                                                                    I64 ((↑t.fst : Int) + 1) ∧
                                                                                      Exx (Nat × Nat × Nat) fun t' =>
                                                                                        (I t' ∧ m t' < m t) ∧
                                                                                          Tr 3
                                                                                              ((true = true ∧
                                                                                                  NilNil ∧
                                                                                                    (0 : Nat) = (0 : Nat) ∧
                                                                                                      (49 : Nat) = (49 : Nat) ∧
                                                                                                        (0 : Nat) = (0 : Nat) ∧ chN x.fst = chN x.fst ∧ t.snd.fst = t'.snd.fst) ∧
                                                                                                Tr 19
                                                                                                  ((true = true ∧
                                                                                                      NilNil ∧
                                                                                                        (0 : Nat) = (0 : Nat) ∧
                                                                                                          (1 : Nat) = (1 : Nat) ∧
                                                                                                            (0 : Nat) = (0 : Nat) ∧
                                                                                                              (listN x).length = (listN x).length ∧ t.snd.snd = t'.snd.snd) ∧
                                                                                                    Tr 1 ((↑(listN x).length : Int) = (↑(listN x).length : Int)) ∧
                                                                                                      Tr 1 ((↑t.fst : Int) + 1 = (↑t'.fst : Int)) ∧ Tr 19 True)) ∧
                                                                                            setB x = setB x ∧
                                                                                              true = true ∧
                                                                                                ((82 : TypeId) = (82 : TypeId) ∧
                                                                                                    (49 : Nat) = (49 : Nat) ∧
                                                                                                      t.snd.fst = t'.snd.fst ∧
                                                                                                        chN x.fst ≤ chN x.fst ∧
                                                                                                          ∀ (i : Nat),
                                                                                                            i < chN x.fst →
                                                                                                              mergeO i
                                                                                                                  (0 +
                                                                                                                    (((listN x).getD (0 + (↑t.fst : Int).toNat) 0).tdiv 384).toNat)
                                                                                                                  [AV.int IntKind.i64
                                                                                                                      (if chartIn x_3.fst.fst x_3.snd.fst then x_3.fst.fst else 0),
                                                                                                                    AV.arr 1 48 fun j =>
                                                                                                                      [AV.int IntKind.u8
                                                                                                                          (↑(if chartIn x_3.fst.fst x_3.snd.fst then
                                                                                                                                markF x_3.fst.snd (x_3.snd.fst % 384).toNat
                                                                                                                                  x_3.snd.snd j
                                                                                                                              else 0) :
                                                                                                                            Int)]]
                                                                                                                  [AV.int IntKind.i64 (↑i : Int),
                                                                                                                    AV.arr 1 48 fun j =>
                                                                                                                      [AV.int IntKind.u8
                                                                                                                          (↑(chartF (addL x.fst 0 (List.take t.fst (listN x))) i
                                                                                                                                j) :
                                                                                                                            Int)]]
                                                                                                                  (mergeS i
                                                                                                                    (0 +
                                                                                                                      (((listN x).getD (0 + (↑t.fst : Int).toNat) 0).tdiv
                                                                                                                          384).toNat)
                                                                                                                    [AV.int IntKind.i64
                                                                                                                        (if chartIn x_3.fst.fst x_3.snd.fst then x_3.fst.fst
                                                                                                                        else 0),
                                                                                                                      AV.arr 1 48 fun j =>
                                                                                                                        [AV.int IntKind.u8
                                                                                                                            (↑(if chartIn x_3.fst.fst x_3.snd.fst then
                                                                                                                                  markF x_3.fst.snd (x_3.snd.fst % 384).toNat
                                                                                                                                    x_3.snd.snd j
                                                                                                                                else 0) :
                                                                                                                              Int)]]
                                                                                                                    [AV.int IntKind.i64 (↑i : Int),
                                                                                                                      AV.arr 1 48 fun j =>
                                                                                                                        [AV.int IntKind.u8
                                                                                                                            (↑(chartF (addL x.fst 0 (List.take t.fst (listN x))) i
                                                                                                                                  j) :
                                                                                                                              Int)]]) =
                                                                                                                [AV.int IntKind.i64 (↑i : Int),
                                                                                                                  AV.arr 1 48 fun j =>
                                                                                                                    [AV.int IntKind.u8
                                                                                                                        (↑(chartF (addL x.fst 0 (List.take t'.fst (listN x))) i j) :
                                                                                                                          Int)]]) ∧
                                                                                                  ((3 : TypeId) = (3 : TypeId) ∧
                                                                                                      (1 : Nat) = (1 : Nat) ∧
                                                                                                        t.snd.snd = t'.snd.snd ∧
                                                                                                          (listN x).length ≤ (listN x).length ∧
                                                                                                            ∀ (i : Nat),
                                                                                                              i < (listN x).length →
                                                                                                                [AV.int IntKind.i64 ((listN x).getD i 0)] =
                                                                                                                  [AV.int IntKind.i64 ((listN x).getD i 0)]) ∧
                                                                                                    True)
                                                        (Exx Nat fun y =>
                                                          (((true = true ∧
                                                                  NilNil ∧
                                                                    (0 : Nat) = (0 : Nat) ∧
                                                                      (49 : Nat) = (49 : Nat) ∧ (0 : Nat) = (0 : Nat) ∧ chN x.fst = chN x.fst ∧ t.snd.fst = y) ∧
                                                                True) ∧
                                                              setB x = setB x ∧
                                                                true = true ∧
                                                                  ((82 : TypeId) = (82 : TypeId) ∧
                                                                      (49 : Nat) = (49 : Nat) ∧
                                                                        t.snd.fst = y ∧
                                                                          chN x.fst ≤ chN x.fst ∧
                                                                            ∀ (i : Nat),
                                                                              i < chN x.fst →
                                                                                [AV.int IntKind.i64 (↑i : Int),
                                                                                    AV.arr 1 48 fun j =>
                                                                                      [AV.int IntKind.u8 (↑(chartF (addL x.fst 0 (List.take t.fst (listN x))) i j) : Int)]] =
                                                                                  [AV.int IntKind.i64 (↑i : Int),
                                                                                    AV.arr 1 48 fun j => [AV.int IntKind.u8 (↑(chartF x.snd i j) : Int)]]) ∧
                                                                    True) ∧
                                                            chN x.fst ≤ y))) =
    (fnVCo tb [(25, specOf setListC), (63, specOf chartsNC), (69, specOf chartMarkC)] Tryd.f43 setChartsC (fun x => { loops := [(3, chartsLA x), (8, chartsLB x)], closes := [(7, [(0, [2], setO x)])] }) (fun _ _ _ => some [some 0, some 1, some 2]) (fun x => [(0, setO x)]) (fun _ _ _ _ => [])) := by kernel_rfl

theorem setCharts_ok : SpecOk Tryd.prog 43 (specOf setChartsC) := by
  refine specOko mixed tb_ok (SPok.cons setList_ok (SPok.cons chartsN_ok (SPok.cons chartMark_ok SPok.nil))) Tryd.func43 (by decide) setChartsC_ok (an := (fun x => { loops := [(3, chartsLA x), (8, chartsLB x)], closes := [(7, [(0, [2], setO x)])] })) (σ := (fun _ _ _ => some [some 0, some 1, some 2])) (op := (fun x => [(0, setO x)])) (cl := (fun _ _ _ _ => [])) ?_
  rw [← setChartsV]
  simp (maxSteps := 10000000) only [and_false, false_and, false_or, or_false, bOf_true, bOf_false, true_bOf, false_bOf, Exx, int_ite, merge_o, Tr_eq, true_and, and_true, exists_const, forall_const, implies_true, forall_eq, exists_eq, exists_eq', exists_eq_left, exists_eq_left', exists_eq_right, Prod.exists, Prod.forall, and_assoc, exists_and_left, BC_iff, Bool.not_eq_true', Bool.not_eq_false', decide_eq_true_eq, decide_eq_false_iff_not, I64, nat_cast_inj, Int.toNat_natCast, nats_iff, nats_iff', ints_iff, ints_iff', natss_iff, natss_iff', nilnil, litL_eq, str_inj, str_append, str_length, str_getD, str_take, lit1_iff, one_iff, two_iff, one_get, Nat.zero_add, Nat.sub_zero, Nat.reduceMul, Nat.reduceDiv, Nat.reduceAdd, Int.reduceToNat, Nat.not_lt_zero, if_false, if_true, Nat.le_refl, List.length_singleton, List.length_cons, List.length_nil, Bool.false_eq_true, not_true_eq_false, false_implies, not_false_eq_true, Prod.mk.injEq, setB_open, setB_close, setB_inj]
  rintro n m hs cap
  have hn := hs.1
  have hm := hs.2
  simp only at hn hm
  have hch : chN n ≤ 8 := by unfold chN; omega
  have hll : (listN (n, m)).length ≤ 3072 := by
    have := bitsL_len n m
    rw [listN, List.length_map]; simp only; omega
  refine ⟨hn, fun s => s.1 ≤ chN n ∧ s.2.1 = cap ∧ s.1 ≤ s.2.2, ⟨0, cap, 0, ⟨by simp, rfl, Nat.le_refl _⟩, rfl, rfl, rfl, rfl, rfl, rfl, rfl⟩, fun s => chN n - s.1, ?_⟩
  rintro i c oc ⟨hi, hc, hoc⟩
  simp only at hi hc hoc
  subst hc
  refine ⟨fun hlt => ⟨by omega, by omega, fun cap1 hcap1 => ⟨by omega, by omega, i + 1, c, cap1, ⟨by simp only; omega, rfl, by simp only; omega⟩, by simp only; omega, rfl, rfl, by omega, rfl, rfl, rfl, Nat.le_refl _, fun j hj => ?_⟩⟩, fun hge => ⟨hs, fun y hy => ⟨fun s => s.1 ≤ (listN (n, m)).length ∧ chN n ≤ s.2.1, ⟨0, oc, y, ⟨by simp, by simp only; omega⟩, by omega, rfl, rfl, rfl, rfl, by omega, fun j hj => ?_, rfl⟩, fun s => (listN (n, m)).length - s.1, ?_⟩⟩⟩
  · by_cases e : j < i
    · rw [if_pos e]
    · rw [if_neg e, if_pos (by omega), show j = i by omega] <;> rfl
  · simp only [List.take_zero, addL, List.foldl_nil, chartF_zero] <;> rfl
  · rintro t oc2 lc ⟨ht, hoc2⟩
    simp only at ht hoc2
    refine ⟨fun hlt => ?_, fun hge2 => ⟨fun j hj => ?_, hoc2⟩⟩
    · have hmem := listN_mem.1 (show (listN (n, m)).getD t 0 ∈ listN (n, m) by
        rw [List.getD_eq_getElem?_getD, List.getElem?_eq_getElem (by omega)]; exact List.getElem_mem _)
      have hst := addL_snoc (n := n) (m := 0) (l := listN (n, m)) (i := t) (by omega)
      generalize (listN (n, m)).getD t 0 = a0 at *
      obtain ⟨a, rfl⟩ : ∃ a : Nat, a0 = (a : Int) := ⟨a0.toNat, by omega⟩
      have e1 : (a : Int).tdiv 384 = ((a / 384 : Nat) : Int) := rfl
      have ha : a / 384 < chN n := by unfold chN; omega
      rw [e1, Int.toNat_natCast]
      have hin : chartIn ((a / 384 : Nat) : Int) (a : Int) := ⟨⟨by omega, by omega⟩, by omega, by omega⟩
      refine ⟨by omega, by omega, by omega, by omega, by omega, by omega, by omega, by omega, ha, chartF (addL n 0 ((listN (n, m)).take t)) (a / 384), fun _ _ => rfl, ⟨⟨by simp only; omega, by simp only; omega⟩, fun j _ => chartF_lt _ _ _⟩, by omega, by omega, by omega, by omega, ha, by omega, by omega, t + 1, oc2, lc, ⟨by simp only; omega, hoc2⟩, by simp only; omega, rfl, rfl, by omega, rfl, fun j hj => ?_, rfl⟩
      have hadd : add1 n (addL n 0 ((listN (n, m)).take t)) (a : Int) = addL n 0 ((listN (n, m)).take t) ||| 2 ^ a := by
        rw [add1, inB, if_pos (decide_eq_true ⟨by omega, by omega⟩), Int.toNat_natCast]
      rw [hst, hadd, if_pos hin, show ((a : Int) % 384).toNat = a % 384 by omega]
      simp only [if_pos hin]
      by_cases e : j = a / 384
      · rw [if_pos e]; subst e
        simp only [chartF_or, if_pos]
      · rw [if_neg e]
        simp only [chartF_or, if_neg e]
    · rw [show t = (listN (n, m)).length by omega, List.take_length, addL_list hm]

end Yard
