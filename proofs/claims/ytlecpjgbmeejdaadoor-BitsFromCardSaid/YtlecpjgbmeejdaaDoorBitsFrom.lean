/- The laws of a set's charts. -/
import Derived.Test.YtlecpjgbmeejdaaDoorRefCharts
import Derived.Test.YtlecpjgbmeejdaaDoorAwake17
namespace Yard
open Go Go.Sx Go.Proofs
set_option linter.unusedVariables false
set_option linter.unusedSimpArgs false
set_option maxRecDepth 4000

theorem mem_chartL {p : Int} {f : Nat → Nat} {a : Int} : a ∈ chartL p f ↔ chartRt p ∧ ∃ r : Nat, r < 384 ∧ chBit f r = true ∧ a = 384 * p + (r : Int) := by
  unfold chartL chartP
  split
  · rename_i h
    rw [List.mem_map]
    constructor
    · rintro ⟨i, hi, rfl⟩
      have := List.mem_filter.1 hi
      exact ⟨h, i, List.mem_range.1 this.1, this.2, rfl⟩
    · rintro ⟨_, r, h1, h2, rfl⟩
      exact ⟨r, List.mem_filter.2 ⟨List.mem_range.2 h1, h2⟩, rfl⟩
  · rename_i h
    exact ⟨fun k => by simp at k, fun k => absurd k.1 h⟩
theorem mem_chsL {x : Chs} {k : Nat} {a : Int} : a ∈ chsL x k ↔ ∃ i, i < k ∧ a ∈ chartL (x.2.1 i) (x.2.2 i) := by
  rw [chsL, List.mem_flatMap]
  exact ⟨fun ⟨i, h1, h2⟩ => ⟨i, List.mem_range.1 h1, h2⟩, fun ⟨i, h1, h2⟩ => ⟨i, List.mem_range.2 h1, h2⟩⟩
theorem chsL_sorted {x : Chs} : ∀ {k : Nat}, (∀ i, i < k → x.2.1 i = (i : Int)) → (chsL x k).Pairwise (· < ·)
  | 0, _ => by simp [chsL]
  | k + 1, h => by
    rw [chsL_succ, List.pairwise_append]
    refine ⟨chsL_sorted fun i hi => h i (by omega), chartL_sorted _ _, fun a ha b hb => ?_⟩
    obtain ⟨i, hi, ha⟩ := mem_chsL.1 ha
    obtain ⟨_, r, h1, _, rfl⟩ := mem_chartL.1 ha
    obtain ⟨_, r', _, _, rfl⟩ := mem_chartL.1 hb
    rw [h i (by omega), h k (by omega)]; omega
theorem chartF_of {N j k : Nat} {l : List Int} (hk : k < 48) (i : Nat) : (chartF (addL N 0 l) j k).testBit i = (decide (i < 8) && decide (384 * j + 8 * k + i < N ∧ ((384 * j + 8 * k + i : Nat) : Int) ∈ l)) := by
  rw [chartF_bit hk, addL_bit, Nat.zero_testBit, Bool.false_or]
/-- The octets of right charts are made of their own numbers. -/
theorem made_own {x : Chs} {c j k : Nat} (hc : x.1 = c) (hc8 : c ≤ 8) (hw : ∀ i, i < c → ChartW (x.2.1 i, x.2.2 i)) (hp : ∀ i, i < c → x.2.1 i = (i : Int)) (hj : j < c) (hk : k < 48) : madeF j (chsL x c) k = x.2.2 j k := by
  apply Nat.eq_of_testBit_eq
  intro i
  rw [madeF, chartF_of hk]
  have h256 : x.2.2 j k < 256 := (hw j hj).2 k hk
  by_cases hi : i < 8
  · rw [decide_eq_true hi, Bool.true_and, Bool.eq_iff_iff, decide_eq_true_eq, mem_chsL]
    have e1 : (8 * k + i) / 8 = k := by omega
    have e2 : (8 * k + i) % 8 = i := by omega
    constructor
    · rintro ⟨_, q, hq, hm⟩
      obtain ⟨_, r, h1, h2, h3⟩ := mem_chartL.1 hm
      rw [hp q hq] at h3
      have eq : q = j := by omega
      have er : r = 8 * k + i := by omega
      subst eq er
      rw [chBit, e1, e2] at h2; exact h2
    · intro h
      refine ⟨by omega, j, hj, mem_chartL.2 ⟨?_, 8 * k + i, by omega, by rw [chBit, e1, e2]; exact h, ?_⟩⟩
      · rw [hp j hj]; exact ⟨by omega, by omega⟩
      · rw [hp j hj]; omega
  · rw [decide_eq_false hi, Bool.false_and]
    exact (Nat.testBit_lt_two_pow (Nat.lt_of_lt_of_le (show x.2.2 j k < 2 ^ 8 from h256) (Nat.pow_le_pow_right (by decide) (by omega)))).symm
theorem from_iff {n : Int} {x : Chs} (hw : ChsW x) : chsOk n x ↔ refFromP (n, x) := by
  constructor
  · rintro ⟨h0, h1, h2, h3⟩
    have hc8 : x.1 ≤ 8 := by rw [h2]; unfold chN; omega
    have eL : refFromL (n, x) = chsL x x.1 := by rw [refFromL, if_pos ⟨h0, h1⟩, Nat.min_eq_left hc8]
    refine ⟨h0, h1, ?_, ?_⟩
    · rw [eL]
      exact ⟨h2.symm, fun i hi => ⟨(h3 i (by simp only at hi; omega)).1.symm, fun j hj => made_own rfl hc8 hw.2 (fun i hi => (h3 i hi).1) (by simp only at hi; omega) hj⟩⟩
    · rw [eL]
      intro a ha
      obtain ⟨i, hi, hm⟩ := mem_chsL.1 ha
      exact (h3 i hi).2 a hm
  · rintro ⟨h0, h1, ⟨h2, h3⟩, h4⟩
    simp only at h0 h1 h2 h3 h4
    have hc8 : x.1 ≤ 8 := by rw [← h2]; unfold chN; omega
    have eL : refFromL (n, x) = chsL x x.1 := by rw [refFromL, if_pos ⟨h0, h1⟩, Nat.min_eq_left hc8]
    rw [eL] at h4
    exact ⟨h0, h1, h2.symm, fun i hi => ⟨(h3 i (by omega)).1.symm, fun a ha => h4 a (mem_chsL.2 ⟨i, hi, ha⟩)⟩⟩
theorem from_list {n : Int} {x : Chs} (h : chsOk n x) : listN (n.toNat, addL n.toNat 0 (chsL x x.1)) = refFromL (n, x) := by
  obtain ⟨h0, h1, h2, h3⟩ := h
  have hc8 : x.1 ≤ 8 := by rw [h2]; unfold chN; omega
  rw [refFromL, if_pos ⟨h0, h1⟩, Nat.min_eq_left hc8]
  symm
  refine listN_eq (s := (n.toNat, addL n.toNat 0 (chsL x x.1))) (chsL_sorted fun i hi => (h3 i hi).1) fun a => ?_
  simp only [addL_bit, Nat.zero_testBit, Bool.false_or, decide_eq_true_eq]
  constructor
  · intro ha
    obtain ⟨i, hi, hm⟩ := mem_chsL.1 ha
    have hlt := (h3 i hi).2 a hm
    obtain ⟨_, r, _, _, rfl⟩ := mem_chartL.1 hm
    have := (h3 i hi).1
    have e : ((384 * x.2.1 i + (r : Int)).toNat : Int) = 384 * x.2.1 i + (r : Int) := by omega
    exact ⟨by omega, by omega, by omega, by rw [e]; exact ha⟩
  · rintro ⟨g1, _, _, g4⟩
    rwa [Int.toNat_of_nonneg g1] at g4

/-- The charts of a mask. -/
theorem chs_mask {n m : Nat} (hm : m < 2 ^ n) (hn : n ≤ 3072) {a : Int} : a ∈ chsL (chN n, fun i => (i : Int), fun i => chartF m i) (chN n) ↔ a ∈ listN (n, m) := by
  rw [mem_chsL, mem_listN]
  constructor
  · rintro ⟨i, hi, h⟩
    obtain ⟨_, r, h1, h2, rfl⟩ := mem_chartL.1 h
    rw [chBit, chartF_bit (by omega), Bool.and_eq_true] at h2
    have e : 384 * i + 8 * (r / 8) + r % 8 = 384 * i + r := by omega
    rw [e] at h2
    have hlt : 384 * i + r < n := by
      rcases Nat.lt_or_ge (384 * i + r) n with h | h
      · exact h
      · rw [Nat.testBit_lt_two_pow (Nat.lt_of_lt_of_le hm (Nat.pow_le_pow_right (by decide) h))] at h2; simp at h2
    exact ⟨by simp only; omega, by simp only; omega, by simp only; rw [show (384 * (i : Int) + (r : Int)).toNat = 384 * i + r by omega]; exact h2.2⟩
  · rintro ⟨h1, h2, h3⟩
    obtain ⟨q, rfl⟩ : ∃ q : Nat, a = (q : Int) := ⟨a.toNat, by omega⟩
    simp only [Int.toNat_natCast] at h3
    simp only at h2
    refine ⟨q / 384, by unfold chN; omega, mem_chartL.2 ⟨⟨by simp only; omega, by simp only; omega⟩, q % 384, by omega, ?_, by simp only; omega⟩⟩
    rw [chBit, chartF_bit (by omega), show 384 * (q / 384) + 8 * (q % 384 / 8) + q % 384 % 8 = q by omega, h3]
    exact Bool.and_eq_true_iff.2 ⟨decide_eq_true (by omega), rfl⟩
theorem ok_mask {n m : Nat} (hm : m < 2 ^ n) (hn : n ≤ 3072) : chsOk (n : Int) (chN n, fun i => (i : Int), fun i => chartF m i) :=
  ⟨by omega, by omega, by simp, fun i hi => ⟨rfl, fun a ha => (mem_listN.1 ((chs_mask hm hn).1 (mem_chsL.2 ⟨i, hi, ha⟩))).2.1⟩⟩
theorem mask_back {n m : Nat} (hm : m < 2 ^ n) (hn : n ≤ 3072) : addL n 0 (chsL (chN n, fun i => (i : Int), fun i => chartF m i) (chN n)) = m := by
  apply Nat.eq_of_testBit_eq
  intro i
  rw [addL_bit, Nat.zero_testBit, Bool.false_or]
  by_cases hi : i < n
  · rw [Bool.eq_iff_iff, decide_eq_true_eq, chs_mask hm hn, mem_listN, Int.toNat_natCast]
    exact ⟨fun h => h.2.2.2, fun h => ⟨hi, by omega, by simp only; omega, h⟩⟩
  · rw [Nat.testBit_lt_two_pow (Nat.lt_of_lt_of_le hm (Nat.pow_le_pow_right (by decide) (by omega)))]
    exact decide_eq_false fun k => hi k.1
theorem made_mask {n m i j : Nat} (hm : m < 2 ^ n) (hj : j < 48) : chartF m i j = madeF i (listN (n, m)) j := by
  apply Nat.eq_of_testBit_eq
  intro k
  rw [madeF, chartF_of hj, chartF_bit hj]
  by_cases hk : k < 8
  · rw [decide_eq_true hk, Bool.true_and, Bool.true_and, Bool.eq_iff_iff, decide_eq_true_eq, mem_listN, Int.toNat_natCast]
    refine ⟨fun h => ⟨by omega, by omega, ?_, h⟩, fun h => h.2.2.2⟩
    rcases Nat.lt_or_ge (384 * i + 8 * j + k) n with h' | h'
    · simp only; omega
    · rw [Nat.testBit_lt_two_pow (Nat.lt_of_lt_of_le hm (Nat.pow_le_pow_right (by decide) h'))] at h; cases h
  · rw [decide_eq_false hk, Bool.false_and, Bool.false_and]

/-- Charts that came in. -/
abbrev ChT : Type := Int × List Nat
abbrev chTs (l : List ChT) : Chs := (l.length, fun i => (l.getD i (0, [])).1, fun i j => (l.getD i (0, [])).2.getD j 0)
def bitsFromC : Ctr := pureC (Int × List ChT) (fun x => I64 x.1 ∧ ChsW (chTs x.2)) (fun x => [i64 x.1, chsA (chTs x.2)]) (fun _ => .bool true)

-- callees: 13=awake17_ok 24=refInts_ok 25=setList_ok 26=setSize_ok 36=setFrom_ok 37=refFrom_ok
theorem bitsFromV : (∀ (x : Int × List ChT),
  I64 x.fst ∧ ChsW (chTs x.snd) →
    Exx Unit fun x_1 =>
      Tr 1 (true = true ∧ True) ∧
        Tr 1
          (∀ (y : Unit),
            True →
              BC (decide ((20 : Int) < (↑(chTs x.snd).fst : Int)))
                (Exx Unit fun x => Tr 1 (true = true ∧ True) ∧ Tr 1 (∀ (y : Unit), True → Exx Unit fun y => ((true = true ∧ True) ∧ true = true ∧ True) ∧ True))
                (Exx (Int × Chs) fun x_2 =>
                  ((Tr 1 (x.fst = x_2.fst) ∧
                        ((chTs x.snd).fst = x_2.snd.fst ∧
                            ∀ (i : Nat),
                              i < x_2.snd.fst →
                                [AV.int IntKind.i64 ((chTs x.snd).snd.fst i), AV.arr 1 48 fun j => [AV.int IntKind.u8 (↑((chTs x.snd).snd.snd i j) : Int)]] =
                                  [AV.int IntKind.i64 (x_2.snd.snd.fst i), AV.arr 1 48 fun j => [AV.int IntKind.u8 (↑(x_2.snd.snd.snd i j) : Int)]]) ∧
                          True) ∧
                      true = true ∧ True) ∧
                    (I64 x_2.fst ∧ ChsW x_2.snd) ∧
                      (((0 : Int) ≤ x_2.fst ∧
                            x_2.fst ≤ (3072 : Int) ∧
                              x_2.snd.fst = chN x_2.fst.toNat ∧
                                ∀ (i : Nat), i < x_2.snd.fst → x_2.snd.snd.fst i = (↑i : Int) ∧ ∀ (a : Int), a ∈ chartL (x_2.snd.snd.fst i) (x_2.snd.snd.snd i) → a < x_2.fst) →
                          ∀ (y : Unit),
                            True →
                              Exx (Int × Chs) fun x_3 =>
                                ((Tr 1 (x.fst = x_3.fst) ∧
                                      ((chTs x.snd).fst = x_3.snd.fst ∧
                                          ∀ (i : Nat),
                                            i < x_3.snd.fst →
                                              [AV.int IntKind.i64 ((chTs x.snd).snd.fst i), AV.arr 1 48 fun j => [AV.int IntKind.u8 (↑((chTs x.snd).snd.snd i j) : Int)]] =
                                                [AV.int IntKind.i64 (x_3.snd.snd.fst i), AV.arr 1 48 fun j => [AV.int IntKind.u8 (↑(x_3.snd.snd.snd i j) : Int)]]) ∧
                                        True) ∧
                                    true = true ∧ True) ∧
                                  (I64 x_3.fst ∧ ChsW x_3.snd) ∧
                                    ∀ (y : Nat),
                                      (refFromL x_3).length ≤ y →
                                        BC (!true == bOf (refFromP x_3))
                                          (BC (true == bOf (refFromP x_3)) (Exx Unit fun y => ((false = true ∧ True) ∧ true = true ∧ True) ∧ True)
                                            (Exx Unit fun y => ((false = true ∧ True) ∧ true = true ∧ True) ∧ True))
                                          (Exx ((Nat × Nat) × Unit) fun x_4 =>
                                            (((true = true ∧ NilNil ∧ (0 : Nat) = (0 : Nat)) ∧ True) ∧
                                                true = true ∧ setB (x_2.fst.toNat, addL x_2.fst.toNat 0 (chsL x_2.snd x_2.snd.fst)) = setB x_4.fst ∧ True) ∧
                                              (SetW x_4.fst ∧ True) ∧
                                                ∀ (y : Unit),
                                                  True →
                                                    BC (decide ((↑x_4.fst.fst : Int) = x.fst))
                                                      (Exx (Nat × Nat) fun x =>
                                                        (((true = true ∧ NilNil ∧ (0 : Nat) = (0 : Nat)) ∧ True) ∧ true = true ∧ setB x_4.fst = setB x ∧ True) ∧
                                                          SetW x ∧
                                                            ∀ (y : Nat),
                                                              (listN x).length ≤ y →
                                                                Exx (List Int × List Int) fun x_5 =>
                                                                  (((0 + (listN x).length ≤ (listN x).length ∧
                                                                          (listN x).length = x_5.fst.length ∧
                                                                            ∀ (i : Nat),
                                                                              i < x_5.fst.length →
                                                                                [AV.int IntKind.i64 ((listN x).getD (0 + i) 0)] = [AV.int IntKind.i64 (x_5.fst.getD i 0)]) ∧
                                                                        (0 + (refFromL x_3).length ≤ (refFromL x_3).length ∧
                                                                            (refFromL x_3).length = x_5.snd.length ∧
                                                                              ∀ (i : Nat),
                                                                                i < x_5.snd.length →
                                                                                  [AV.int IntKind.i64 ((refFromL x_3).getD (0 + i) 0)] = [AV.int IntKind.i64 (x_5.snd.getD i 0)]) ∧
                                                                          True) ∧
                                                                      true = true ∧ True) ∧
                                                                    (IntL x_5.fst ∧ IntL x_5.snd) ∧
                                                                      ∀ (y : Unit),
                                                                        True → Exx Unit fun y => ((decide (x_5.fst = x_5.snd) = true ∧ True) ∧ true = true ∧ True) ∧ True)
                                                      (Exx Unit fun y => ((false = true ∧ True) ∧ true = true ∧ True) ∧ True))) ∧
                        (¬setFromI.p x_2 →
                          ∀ (y : Unit),
                            True →
                              Exx (Int × Chs) fun x_3 =>
                                ((Tr 1 (x.fst = x_3.fst) ∧
                                      ((chTs x.snd).fst = x_3.snd.fst ∧
                                          ∀ (i : Nat),
                                            i < x_3.snd.fst →
                                              [AV.int IntKind.i64 ((chTs x.snd).snd.fst i), AV.arr 1 48 fun j => [AV.int IntKind.u8 (↑((chTs x.snd).snd.snd i j) : Int)]] =
                                                [AV.int IntKind.i64 (x_3.snd.snd.fst i), AV.arr 1 48 fun j => [AV.int IntKind.u8 (↑(x_3.snd.snd.snd i j) : Int)]]) ∧
                                        True) ∧
                                    true = true ∧ True) ∧
                                  (I64 x_3.fst ∧ ChsW x_3.snd) ∧
                                    ∀ (y : Nat),
                                      (refFromL x_3).length ≤ y →
                                        BC (!false == bOf (refFromP x_3))
                                          (BC (false == bOf (refFromP x_3)) (Exx Unit fun y => ((true = true ∧ True) ∧ true = true ∧ True) ∧ True)
                                            (Exx Unit fun y => ((false = true ∧ True) ∧ true = true ∧ True) ∧ True))
                                          (BC (false == bOf (refFromP x_3)) (Exx Unit fun y => ((true = true ∧ True) ∧ true = true ∧ True) ∧ True)
                                            (Exx Unit fun y => ((false = true ∧ True) ∧ true = true ∧ True) ∧ True)))))) =
    (fnVC tb [(13, specOf awake17C), (24, specOf refIntsC), (25, specOf setListC), (26, specOf setSizeC), (36, specIf setFromI), (37, specOf refFromC)] Tryd.f7 bitsFromC (fun _ => {}) (fun _ => none)) := by kernel_rfl

theorem bitsFrom_ok : SpecOk Tryd.prog 7 (specOf bitsFromC) := by
  refine specOk mixed tb_ok (SPok.cons awake17_ok (SPok.cons refInts_ok (SPok.cons setList_ok (SPok.cons setSize_ok (SPok.cons setFrom_ok (SPok.cons refFrom_ok SPok.nil)))))) Tryd.func7 (by decide) (pureC_ok fun _ => rfl) (an := (fun _ => {})) (σ := (fun _ => none)) ?_
  rw [← bitsFromV]
  simp (maxSteps := 10000000) only [and_false, false_and, false_or, or_false, bOf_true, bOf_false, true_bOf, false_bOf, Exx, int_ite, merge_o, Tr_eq, true_and, and_true, exists_const, forall_const, implies_true, forall_eq, exists_eq, exists_eq', exists_eq_left, exists_eq_left', exists_eq_right, Prod.exists, Prod.forall, and_assoc, exists_and_left, BC_iff, Bool.not_eq_true', Bool.not_eq_false', decide_eq_true_eq, decide_eq_false_iff_not, I64, nat_cast_inj, Int.toNat_natCast, nats_iff, nats_iff', ints_iff, ints_iff', natss_iff, natss_iff', nilnil, litL_eq, str_inj, str_append, str_length, str_getD, str_take, lit1_iff, one_iff, two_iff, one_get, Nat.zero_add, Nat.sub_zero, Nat.reduceMul, Nat.reduceDiv, Nat.reduceAdd, Int.reduceToNat, Nat.not_lt_zero, if_false, if_true, Nat.le_refl, List.length_singleton, List.length_cons, List.length_nil, Bool.false_eq_true, not_true_eq_false, false_implies, not_false_eq_true, Prod.mk.injEq, setB_inj]
  rintro n l ⟨h1, h2, hw⟩ hlen
  have hiff := from_iff (n := n) hw
  refine ⟨_, _, fun _ _ => rfl, h1, h2, hw, fun hok => ⟨_, _, fun _ _ => rfl, h1, h2, hw, fun y hy => ?_⟩, fun hno => ⟨_, _, fun _ _ => rfl, h1, h2, hw, fun y hy => ?_⟩⟩
  · have hok' : chsOk n (chTs l) := hok
    have hP : bOf (refFromP (n, chTs l)) = true := by rw [bOf_true]; exact hiff.1 hok'
    have hs : SetW (n.toNat, addL n.toNat 0 (chsL (chTs l) l.length)) := ⟨by have := hok'.2.1; simp only; omega, addL_lt (Nat.pos_of_ne_zero (by simp))⟩
    have hlist := from_list hok'
    refine ⟨fun h => (by rw [hP] at h; cases h), fun _ => ⟨hs, fun _ => ⟨hs, fun y hy => ⟨(listN_Ints hs.1).intL, ?_, hlist⟩⟩, fun h => h (by have := hok'.1; omega)⟩⟩
    have := (listN_Ints hs.1).intL
    rwa [← hlist]
  · have hP : bOf (refFromP (n, chTs l)) = false := by rw [bOf_false]; exact fun k => hno (hiff.2 k)
    exact ⟨fun h => (by rw [hP] at h; cases h), fun h => fun h' => (by rw [hP] at h'; cases h')⟩

def bitsChartsC : Ctr := pureC (Int × List Int) (fun x => I64 x.1 ∧ IntL x.2) (fun x => [i64 x.1, intA x.2]) (fun _ => .bool true)

-- callees: 13=awake17_ok 14=small_ok 15=setOf_ok 18=refSize_ok 36=setFrom_ok 38=refOf_ok 42=setSame_ok 43=setCharts_ok 44=refSame_ok 45=refCharts_ok
theorem bitsChartsV : (∀ (x : Int × List Int),
  I64 x.fst ∧ IntL x.snd →
    Exx Unit fun x_1 =>
      Tr 1 (true = true ∧ True) ∧
        Tr 1
          (∀ (y : Unit),
            True →
              Exx (List Int × Int) fun x_2 =>
                (((x.snd.length = x_2.fst.length ∧ ∀ (i : Nat), i < x_2.fst.length → [AV.int IntKind.i64 (x.snd.getD i 0)] = [AV.int IntKind.i64 (x_2.fst.getD i 0)]) ∧
                      Tr 1 ((60 : Int) = x_2.snd) ∧ True) ∧
                    true = true ∧ True) ∧
                  x_2.fst.length ≤ 9223372036854775807 ∧
                    ∀ (y : Unit),
                      True →
                        BC (!decide ((↑x_2.fst.length : Int) ≤ x_2.snd))
                          (Exx Unit fun x => Tr 1 (true = true ∧ True) ∧ Tr 1 (∀ (y : Unit), True → Exx Unit fun y => ((true = true ∧ True) ∧ true = true ∧ True) ∧ True))
                          (Exx Int fun x_3 =>
                            ((Tr 1 (x.fst = x_3) ∧ True) ∧ true = true ∧ True) ∧
                              (-9223372036854775808 ≤ x_3 ∧ x_3 ≤ (9223372036854775807 : Int)) ∧
                                ∀ (y : Unit),
                                  True →
                                    Exx (Int × List Int) fun x_4 =>
                                      ((Tr 1 (x.fst = x_4.fst) ∧
                                            (x.snd.length = x_4.snd.length ∧
                                                ∀ (i : Nat), i < x_4.snd.length → [AV.int IntKind.i64 (x.snd.getD i 0)] = [AV.int IntKind.i64 (x_4.snd.getD i 0)]) ∧
                                              True) ∧
                                          true = true ∧ True) ∧
                                        (I64 x_4.fst ∧ Ints x_4.snd) ∧
                                          ∀ (y : Unit),
                                            True →
                                              Exx (Nat × Nat) fun x_5 =>
                                                (((true = true ∧ NilNil ∧ (0 : Nat) = (0 : Nat)) ∧ True) ∧
                                                    true = true ∧ setB (clampN x_4.fst, addL (clampN x_4.fst) 0 x_4.snd) = setB x_5 ∧ True) ∧
                                                  SetW x_5 ∧
                                                    ∀ (y : Nat),
                                                      chN x_5.fst ≤ y →
                                                        Exx (Int × Chs) fun x_6 =>
                                                          ((Tr 1 ((↑(clampN x_3) : Int) = x_6.fst) ∧
                                                                (0 + chN x_5.fst ≤ chN x_5.fst ∧
                                                                    chN x_5.fst = x_6.snd.fst ∧
                                                                      ∀ (i : Nat),
                                                                        i < x_6.snd.fst →
                                                                          [AV.int IntKind.i64 (↑(0 + i) : Int),
                                                                              AV.arr 1 48 fun j => [AV.int IntKind.u8 (↑(chartF x_5.snd (0 + i) j) : Int)]] =
                                                                            [AV.int IntKind.i64 (x_6.snd.snd.fst i),
                                                                              AV.arr 1 48 fun j => [AV.int IntKind.u8 (↑(x_6.snd.snd.snd i j) : Int)]]) ∧
                                                                  True) ∧
                                                              true = true ∧ True) ∧
                                                            (I64 x_6.fst ∧ ChsW x_6.snd) ∧
                                                              (((0 : Int) ≤ x_6.fst ∧
                                                                    x_6.fst ≤ (3072 : Int) ∧
                                                                      x_6.snd.fst = chN x_6.fst.toNat ∧
                                                                        ∀ (i : Nat),
                                                                          i < x_6.snd.fst →
                                                                            x_6.snd.snd.fst i = (↑i : Int) ∧
                                                                              ∀ (a : Int), a ∈ chartL (x_6.snd.snd.fst i) (x_6.snd.snd.snd i) → a < x_6.fst) →
                                                                  ∀ (y : Unit),
                                                                    True →
                                                                      Exx (Nat × List Int) fun x_7 =>
                                                                        ((Tr 1 ((↑(clampN x_3) : Int) = (↑x_7.fst : Int)) ∧
                                                                              (x.snd.length = x_7.snd.length ∧
                                                                                  ∀ (i : Nat),
                                                                                    i < x_7.snd.length →
                                                                                      [AV.int IntKind.i64 (x.snd.getD i 0)] = [AV.int IntKind.i64 (x_7.snd.getD i 0)]) ∧
                                                                                True) ∧
                                                                            true = true ∧ True) ∧
                                                                          (x_7.fst ≤ 3072 ∧ IntL x_7.snd) ∧
                                                                            ∀ (y : Nat),
                                                                              (listN (x_7.fst, addL x_7.fst 0 x_7.snd)).length ≤ y ∧ y ≤ 9223372036854775807 →
                                                                                Exx (Nat × List Int) fun x =>
                                                                                  ((Tr 1 ((↑(clampN x_3) : Int) = (↑x.fst : Int)) ∧
                                                                                        (0 + (listN (x_7.fst, addL x_7.fst 0 x_7.snd)).length ≤
                                                                                              (listN (x_7.fst, addL x_7.fst 0 x_7.snd)).length ∧
                                                                                            (listN (x_7.fst, addL x_7.fst 0 x_7.snd)).length = x.snd.length ∧
                                                                                              ∀ (i : Nat),
                                                                                                i < x.snd.length →
                                                                                                  [AV.int IntKind.i64 ((listN (x_7.fst, addL x_7.fst 0 x_7.snd)).getD (0 + i) 0)] =
                                                                                                    [AV.int IntKind.i64 (x.snd.getD i 0)]) ∧
                                                                                          True) ∧
                                                                                      true = true ∧ True) ∧
                                                                                    (x.fst ≤ 3072 ∧ IntL x.snd) ∧
                                                                                      ∀ (y : Nat),
                                                                                        chN x.fst ≤ y →
                                                                                          Exx (Chs × Chs) fun x_8 =>
                                                                                            (((0 + chN x_5.fst ≤ chN x_5.fst ∧
                                                                                                    chN x_5.fst = x_8.fst.fst ∧
                                                                                                      ∀ (i : Nat),
                                                                                                        i < x_8.fst.fst →
                                                                                                          [AV.int IntKind.i64 (↑(0 + i) : Int),
                                                                                                              AV.arr 1 48 fun j =>
                                                                                                                [AV.int IntKind.u8 (↑(chartF x_5.snd (0 + i) j) : Int)]] =
                                                                                                            [AV.int IntKind.i64 (x_8.fst.snd.fst i),
                                                                                                              AV.arr 1 48 fun j =>
                                                                                                                [AV.int IntKind.u8 (↑(x_8.fst.snd.snd i j) : Int)]]) ∧
                                                                                                  (0 + chN x.fst ≤ chN x.fst ∧
                                                                                                      chN x.fst = x_8.snd.fst ∧
                                                                                                        ∀ (i : Nat),
                                                                                                          i < x_8.snd.fst →
                                                                                                            [AV.int IntKind.i64 (↑(0 + i) : Int),
                                                                                                                AV.arr 1 48 fun j =>
                                                                                                                  [AV.int IntKind.u8 (↑(madeF (0 + i) x.snd j) : Int)]] =
                                                                                                              [AV.int IntKind.i64 (x_8.snd.snd.fst i),
                                                                                                                AV.arr 1 48 fun j =>
                                                                                                                  [AV.int IntKind.u8 (↑(x_8.snd.snd.snd i j) : Int)]]) ∧
                                                                                                    True) ∧
                                                                                                true = true ∧ True) ∧
                                                                                              (x_8.fst.fst ≤ 9223372036854775807 ∧ x_8.snd.fst ≤ 9223372036854775807) ∧
                                                                                                ∀ (y : Unit),
                                                                                                  True →
                                                                                                    BC (bOf (sameChs x_8.fst x_8.snd))
                                                                                                      (Exx ((Nat × Nat) × Nat × Nat) fun x =>
                                                                                                        (((true = true ∧ NilNil ∧ (0 : Nat) = (0 : Nat)) ∧
                                                                                                              (true = true ∧ NilNil ∧ (0 : Nat) = (0 : Nat)) ∧ True) ∧
                                                                                                            true = true ∧
                                                                                                              setB
                                                                                                                    (x_6.fst.toNat,
                                                                                                                      addL x_6.fst.toNat 0 (chsL x_6.snd x_6.snd.fst)) =
                                                                                                                  setB x.fst ∧
                                                                                                                setB x_5 = setB x.snd ∧ True) ∧
                                                                                                          (SetW x.fst ∧ SetW x.snd) ∧
                                                                                                            ∀ (y : Unit),
                                                                                                              True →
                                                                                                                Exx Unit fun y =>
                                                                                                                  ((decide (x.fst = x.snd) = true ∧ True) ∧ true = true ∧ True) ∧
                                                                                                                    True)
                                                                                                      (Exx Unit fun y => ((false = true ∧ True) ∧ true = true ∧ True) ∧ True)) ∧
                                                                (¬setFromI.p x_6 →
                                                                  ∀ (y : Unit),
                                                                    True →
                                                                      Exx (Nat × List Int) fun x_7 =>
                                                                        ((Tr 1 ((↑(clampN x_3) : Int) = (↑x_7.fst : Int)) ∧
                                                                              (x.snd.length = x_7.snd.length ∧
                                                                                  ∀ (i : Nat),
                                                                                    i < x_7.snd.length →
                                                                                      [AV.int IntKind.i64 (x.snd.getD i 0)] = [AV.int IntKind.i64 (x_7.snd.getD i 0)]) ∧
                                                                                True) ∧
                                                                            true = true ∧ True) ∧
                                                                          (x_7.fst ≤ 3072 ∧ IntL x_7.snd) ∧
                                                                            ∀ (y : Nat),
                                                                              (listN (x_7.fst, addL x_7.fst 0 x_7.snd)).length ≤ y ∧ y ≤ 9223372036854775807 →
                                                                                Exx (Nat × List Int) fun x =>
                                                                                  ((Tr 1 ((↑(clampN x_3) : Int) = (↑x.fst : Int)) ∧
                                                                                        (0 + (listN (x_7.fst, addL x_7.fst 0 x_7.snd)).length ≤
                                                                                              (listN (x_7.fst, addL x_7.fst 0 x_7.snd)).length ∧
                                                                                            (listN (x_7.fst, addL x_7.fst 0 x_7.snd)).length = x.snd.length ∧
                                                                                              ∀ (i : Nat),
                                                                                                i < x.snd.length →
                                                                                                  [AV.int IntKind.i64 ((listN (x_7.fst, addL x_7.fst 0 x_7.snd)).getD (0 + i) 0)] =
                                                                                                    [AV.int IntKind.i64 (x.snd.getD i 0)]) ∧
                                                                                          True) ∧
                                                                                      true = true ∧ True) ∧
                                                                                    (x.fst ≤ 3072 ∧ IntL x.snd) ∧
                                                                                      ∀ (y : Nat),
                                                                                        chN x.fst ≤ y →
                                                                                          Exx (Chs × Chs) fun x_8 =>
                                                                                            (((0 + chN x_5.fst ≤ chN x_5.fst ∧
                                                                                                    chN x_5.fst = x_8.fst.fst ∧
                                                                                                      ∀ (i : Nat),
                                                                                                        i < x_8.fst.fst →
                                                                                                          [AV.int IntKind.i64 (↑(0 + i) : Int),
                                                                                                              AV.arr 1 48 fun j =>
                                                                                                                [AV.int IntKind.u8 (↑(chartF x_5.snd (0 + i) j) : Int)]] =
                                                                                                            [AV.int IntKind.i64 (x_8.fst.snd.fst i),
                                                                                                              AV.arr 1 48 fun j =>
                                                                                                                [AV.int IntKind.u8 (↑(x_8.fst.snd.snd i j) : Int)]]) ∧
                                                                                                  (0 + chN x.fst ≤ chN x.fst ∧
                                                                                                      chN x.fst = x_8.snd.fst ∧
                                                                                                        ∀ (i : Nat),
                                                                                                          i < x_8.snd.fst →
                                                                                                            [AV.int IntKind.i64 (↑(0 + i) : Int),
                                                                                                                AV.arr 1 48 fun j =>
                                                                                                                  [AV.int IntKind.u8 (↑(madeF (0 + i) x.snd j) : Int)]] =
                                                                                                              [AV.int IntKind.i64 (x_8.snd.snd.fst i),
                                                                                                                AV.arr 1 48 fun j =>
                                                                                                                  [AV.int IntKind.u8 (↑(x_8.snd.snd.snd i j) : Int)]]) ∧
                                                                                                    True) ∧
                                                                                                true = true ∧ True) ∧
                                                                                              (x_8.fst.fst ≤ 9223372036854775807 ∧ x_8.snd.fst ≤ 9223372036854775807) ∧
                                                                                                ∀ (y : Unit),
                                                                                                  True →
                                                                                                    BC (bOf (sameChs x_8.fst x_8.snd))
                                                                                                      (Exx Unit fun y => ((false = true ∧ True) ∧ true = true ∧ True) ∧ True)
                                                                                                      (Exx Unit fun y => ((false = true ∧ True) ∧ true = true ∧ True) ∧ True))))) =
    (fnVC tb [(13, specOf awake17C), (14, specOf smallC), (15, specOf setOfC), (18, specOf refSizeC), (36, specIf setFromI), (38, specOf refOfC), (42, specOf setSameC), (43, specOf setChartsC), (44, specOf refSameC), (45, specOf refChartsC)] Tryd.f9 bitsChartsC (fun _ => {}) (fun _ => none)) := by kernel_rfl

theorem bitsCharts_ok : SpecOk Tryd.prog 9 (specOf bitsChartsC) := by
  refine specOk mixed tb_ok (SPok.cons awake17_ok (SPok.cons small_ok (SPok.cons setOf_ok (SPok.cons refSize_ok (SPok.cons setFrom_ok (SPok.cons refOf_ok (SPok.cons setSame_ok (SPok.cons setCharts_ok (SPok.cons refSame_ok (SPok.cons refCharts_ok SPok.nil)))))))))) Tryd.func9 (by decide) (pureC_ok fun _ => rfl) (an := (fun _ => {})) (σ := (fun _ => none)) ?_
  rw [← bitsChartsV]
  simp (maxSteps := 10000000) only [and_false, false_and, false_or, or_false, bOf_true, bOf_false, true_bOf, false_bOf, Exx, int_ite, merge_o, Tr_eq, true_and, and_true, exists_const, forall_const, implies_true, forall_eq, exists_eq, exists_eq', exists_eq_left, exists_eq_left', exists_eq_right, Prod.exists, Prod.forall, and_assoc, exists_and_left, BC_iff, Bool.not_eq_true', Bool.not_eq_false', decide_eq_true_eq, decide_eq_false_iff_not, I64, nat_cast_inj, Int.toNat_natCast, nats_iff, nats_iff', ints_iff, ints_iff', natss_iff, natss_iff', nilnil, litL_eq, str_inj, str_append, str_length, str_getD, str_take, lit1_iff, one_iff, two_iff, one_get, Nat.zero_add, Nat.sub_zero, Nat.reduceMul, Nat.reduceDiv, Nat.reduceAdd, Int.reduceToNat, Nat.not_lt_zero, if_false, if_true, Nat.le_refl, List.length_singleton, List.length_cons, List.length_nil, Bool.false_eq_true, not_true_eq_false, false_implies, not_false_eq_true, Prod.mk.injEq, setB_inj]
  rintro n l ⟨h1, h2, hl⟩
  have hcl : clampN n ≤ 3072 := by unfold clampN; omega
  refine ⟨hl.2, fun h60 => ?_⟩
  have hm : addL (clampN n) 0 l < 2 ^ clampN n := addL_lt (Nat.pos_of_ne_zero (by simp))
  generalize addL (clampN n) 0 l = m at *
  generalize clampN n = c at *
  have hint : Ints l := ⟨hl.1, by omega⟩
  have hok := ok_mask hm hcl
  have hch : chN c ≤ 8 := by unfold chN; omega
  have hcw : ChsW (chN c, fun i => (i : Int), fun i => chartF m i) := ⟨by simp only; omega, fun i hi => ⟨⟨by simp only; omega, by simp only at hi ⊢; omega⟩, fun j _ => chartF_lt _ _ _⟩⟩
  refine ⟨h1, h2, h1, h2, hint, ⟨hcl, hm⟩, fun y hy => ⟨fun i => (i : Int), fun i => chartF m i, fun _ _ => rfl, by omega, by omega, hcw, fun _ => ⟨hcl, hl, fun y2 hy2 => ⟨hcl, (listN_Ints hcl).intL, fun y3 hy3 => ⟨fun i => (i : Int), fun i => chartF m i, fun _ _ => rfl, fun i => (i : Int), fun i => madeF i (listN (c, m)), fun _ _ => rfl, by omega, by omega, fun _ => ?_, fun h => h ⟨rfl, fun i _ => ⟨rfl, fun j hj => made_mask hm hj⟩⟩⟩⟩⟩, fun h => absurd hok h⟩⟩
  have hb := mask_back hm hcl
  exact ⟨⟨hcl, by rw [hb]; exact hm⟩, ⟨hcl, hm⟩, hb⟩

end Yard
