/- The charts' functions. -/
import Derived.Test.YtlecpjgbmeejdaaDoorBits2
namespace Yard
open Go Go.Sx Go.Proofs
set_option linter.unusedVariables false
set_option linter.unusedSimpArgs false
set_option maxRecDepth 4000

/-- A chart: its place, its octets. -/
abbrev chartV (p : Int) (f : Nat → Nat) : List AV := [i64 p, .arr 1 48 (fun j => [.int .u8 ((f j : Nat) : Int)])]
abbrev chartA (p : Int) (f : Nat → Nat) : AV := .agg (chartV p f)
def ChartW (x : Int × (Nat → Nat)) : Prop := I64 x.1 ∧ ∀ j, j < 48 → x.2 j < 256
def chartRt (p : Int) : Prop := 0 ≤ p ∧ p < 8
instance (p : Int) : Decidable (chartRt p) := by unfold chartRt; infer_instance
def chartIn (p at_ : Int) : Prop := chartRt p ∧ 0 ≤ at_ ∧ at_ / 384 = p
instance (p at_ : Int) : Decidable (chartIn p at_) := by unfold chartIn; infer_instance
def chartRightC : Ctr := pureC (Int × (Nat → Nat)) ChartW (fun x => [chartA x.1 x.2]) (fun x => .bool (decide (chartRt x.1)))
def chartBitC : Ctr := pureC ((Int × (Nat → Nat)) × Int) (fun x => ChartW x.1 ∧ I64 x.2) (fun x => [chartA x.1.1 x.1.2, i64 x.2]) (fun x => .tup [i64 (if chartIn x.1.1 x.2 then x.2 % 384 / 8 else 0), .int .u8 (if chartIn x.1.1 x.2 then 2 ^ (x.2 % 8).toNat else 0), .bool (decide (chartIn x.1.1 x.2))])

-- callees: 
theorem chartRightV : (∀ (x : Int × (Nat → Nat)),
  ChartW x →
    BC (decide ((0 : Int) ≤ x.fst)) (Exx Unit fun y => ((decide (x.fst < (8 : Int)) = decide (chartRt x.fst) ∧ True) ∧ true = true ∧ True) ∧ True)
      (Exx Unit fun y => ((false = decide (chartRt x.fst) ∧ True) ∧ true = true ∧ True) ∧ True)) =
    (fnVC tb [] Tryd.f79 chartRightC (fun _ => {}) (fun _ => none)) := by kernel_rfl

theorem chartRight_ok : SpecOk Tryd.prog 79 (specOf chartRightC) := by
  refine specOk mixed tb_ok SPok.nil Tryd.func79 (by decide) (pureC_ok fun _ => rfl) (an := (fun _ => {})) (σ := (fun _ => none)) ?_
  rw [← chartRightV]
  simp (maxSteps := 10000000) only [and_false, false_and, false_or, or_false, bOf_true, bOf_false, true_bOf, false_bOf, Exx, int_ite, merge_o, Tr_eq, true_and, and_true, exists_const, forall_const, implies_true, forall_eq, exists_eq, exists_eq', exists_eq_left, exists_eq_left', exists_eq_right, Prod.exists, Prod.forall, and_assoc, exists_and_left, BC_iff, Bool.not_eq_true', Bool.not_eq_false', decide_eq_true_eq, decide_eq_false_iff_not, I64, nat_cast_inj, Int.toNat_natCast, nats_iff, nats_iff', ints_iff, ints_iff', natss_iff, natss_iff', nilnil, litL_eq, str_inj, str_append, str_length, str_getD, str_take, lit1_iff, one_iff, two_iff, one_get, Nat.zero_add, Nat.sub_zero, Nat.reduceMul, Nat.reduceDiv, Nat.reduceAdd, Int.reduceToNat, Nat.not_lt_zero, if_false, if_true, Nat.le_refl, List.length_singleton, List.length_cons, List.length_nil, Bool.false_eq_true, not_true_eq_false, false_implies, not_false_eq_true, Prod.mk.injEq]
  exact fun a b _ => ⟨fun h => decide_eq_decide.2 ⟨fun k => ⟨h, k⟩, fun k => k.2⟩, fun h => (decide_eq_false (fun k => h k.1)).symm⟩

theorem shl8 {r : Nat} (h : r < 8) : IntKind.u8.wrap (1 * 2 ^ min r IntKind.u8.bits) = ((2 ^ r : Nat) : Int) := by
  have hp : 2 ^ r < 2 ^ 8 := Nat.pow_lt_pow_right (by decide) h
  have := shl_nat (k := .u8) rfl (a := 1) (i := r) (n := IntKind.u8.bits) (Nat.le_of_lt h) (by rw [Nat.one_mul]; exact hp)
  rw [Nat.one_mul] at this; exact this

-- callees: 79=chartRight_ok
theorem chartBitV : (∀ (x : (Int × (Nat → Nat)) × Int),
  ChartW x.fst ∧ I64 x.snd →
    Exx (Int × (Nat → Nat)) fun x_1 =>
      (((Tr 1 (x.fst.fst = x_1.fst) ∧
              (1 : Nat) = (1 : Nat) ∧
                (48 : Nat) = (48 : Nat) ∧ (∀ (i : Nat), i < 48 → [AV.int IntKind.u8 (↑(x.fst.snd i) : Int)] = [AV.int IntKind.u8 (↑(x_1.snd i) : Int)]) ∧ True) ∧
            True) ∧
          true = true ∧ True) ∧
        ChartW x_1 ∧
          ∀ (y : Unit),
            True →
              BC (!decide (chartRt x_1.fst))
                (Exx Unit fun y =>
                  (((Tr 1 ((0 : Int) = if chartIn x.fst.fst x.snd then x.snd % 384 / 8 else 0) ∧
                          Tr 1 ((0 : Int) = if chartIn x.fst.fst x.snd then 2 ^ (x.snd % 8).toNat else 0) ∧ false = decide (chartIn x.fst.fst x.snd) ∧ True) ∧
                        True) ∧
                      true = true ∧ True) ∧
                    True)
                (BC (decide (x.snd < (0 : Int)))
                  (Exx Unit fun y =>
                    (((Tr 1 ((0 : Int) = if chartIn x.fst.fst x.snd then x.snd % 384 / 8 else 0) ∧
                            Tr 1 ((0 : Int) = if chartIn x.fst.fst x.snd then 2 ^ (x.snd % 8).toNat else 0) ∧ false = decide (chartIn x.fst.fst x.snd) ∧ True) ∧
                          True) ∧
                        true = true ∧ True) ∧
                      True)
                  ((384 : Int) ≠ (0 : Int) ∧
                    I64 (x.snd.tdiv 384) ∧
                      BC (!decide (x.snd.tdiv 384 = x.fst.fst))
                        (Exx Unit fun y =>
                          (((Tr 1 ((0 : Int) = if chartIn x.fst.fst x.snd then x.snd % 384 / 8 else 0) ∧
                                  Tr 1 ((0 : Int) = if chartIn x.fst.fst x.snd then 2 ^ (x.snd % 8).toNat else 0) ∧ false = decide (chartIn x.fst.fst x.snd) ∧ True) ∧
                                True) ∧
                              true = true ∧ True) ∧
                            True)
                        ((384 : Int) ≠ (0 : Int) ∧
                          ∀ (n : Int),
                            n = x.snd.tmod 384 →
                              (8 : Int) ≠ (0 : Int) ∧
                                I64 (n.tdiv 8) ∧
                                  (8 : Int) ≠ (0 : Int) ∧
                                    ∀ (n_1 : Int),
                                      n_1 = n.tmod 8 →
                                        (0 : Int) ≤ n_1 ∧
                                          ∀ (n_2 : Int),
                                            n_2 = IntKind.u8.wrap (1 * 2 ^ min n_1.toNat IntKind.u8.bits) →
                                              Exx Unit fun y =>
                                                (((Tr 1 (n.tdiv 8 = if chartIn x.fst.fst x.snd then x.snd % 384 / 8 else 0) ∧
                                                        Tr 1 (n_2 = if chartIn x.fst.fst x.snd then 2 ^ (x.snd % 8).toNat else 0) ∧
                                                          true = decide (chartIn x.fst.fst x.snd) ∧ True) ∧
                                                      True) ∧
                                                    true = true ∧ True) ∧
                                                  True)))) =
    (fnVC tb [(79, specOf chartRightC)] Tryd.f78 chartBitC (fun _ => {}) (fun _ => none)) := by kernel_rfl

theorem chartBit_ok : SpecOk Tryd.prog 78 (specOf chartBitC) := by
  refine specOk mixed tb_ok (SPok.cons chartRight_ok SPok.nil) Tryd.func78 (by decide) (pureC_ok fun _ => ⟨rfl, rfl, rfl, trivial⟩) (an := (fun _ => {})) (σ := (fun _ => none)) ?_
  rw [← chartBitV]
  simp (maxSteps := 10000000) only [and_false, false_and, false_or, or_false, bOf_true, bOf_false, true_bOf, false_bOf, Exx, int_ite, merge_o, Tr_eq, true_and, and_true, exists_const, forall_const, implies_true, forall_eq, exists_eq, exists_eq', exists_eq_left, exists_eq_left', exists_eq_right, Prod.exists, Prod.forall, and_assoc, exists_and_left, BC_iff, Bool.not_eq_true', Bool.not_eq_false', decide_eq_true_eq, decide_eq_false_iff_not, I64, nat_cast_inj, Int.toNat_natCast, nats_iff, nats_iff', ints_iff, ints_iff', natss_iff, natss_iff', nilnil, litL_eq, str_inj, str_append, str_length, str_getD, str_take, lit1_iff, one_iff, two_iff, one_get, Nat.zero_add, Nat.sub_zero, Nat.reduceMul, Nat.reduceDiv, Nat.reduceAdd, Int.reduceToNat, Nat.not_lt_zero, if_false, if_true, Nat.le_refl, List.length_singleton, List.length_cons, List.length_nil, Bool.false_eq_true, not_true_eq_false, false_implies, not_false_eq_true, Prod.mk.injEq]
  rintro p f a ⟨hw, h1, h2⟩
  have no : ¬ chartIn p a → ((0 : Int) = if chartIn p a then a % 384 / 8 else 0) ∧ ((0 : Int) = if chartIn p a then 2 ^ (a % 8).toNat else 0) ∧ false = decide (chartIn p a) := fun h => ⟨by rw [if_neg h], by rw [if_neg h], (decide_eq_false h).symm⟩
  refine ⟨f, fun _ _ => rfl, hw, fun h => no (fun k => h k.1), fun h => ⟨fun h3 => no (fun k => by have := k.2.1; omega), fun h3 => ?_⟩⟩
  obtain ⟨n, rfl⟩ : ∃ n : Nat, a = (n : Int) := ⟨a.toNat, by omega⟩
  have e1 : (n : Int).tdiv 384 = (n : Int) / 384 := Int.tdiv_eq_ediv_of_nonneg (by omega)
  have e2 : (n : Int).tmod 384 = (n : Int) % 384 := Int.tmod_eq_emod_of_nonneg (by omega)
  have e3 : ((n : Int) % 384).tdiv 8 = (n : Int) % 384 / 8 := Int.tdiv_eq_ediv_of_nonneg (by omega)
  have e4 : ((n : Int) % 384).tmod 8 = (n : Int) % 8 := by rw [Int.tmod_eq_emod_of_nonneg (by omega)]; omega
  rw [e1, e2, e3, e4]
  refine ⟨by omega, by omega, by omega, fun h4 => no (fun k => h4 k.2.2), fun h4 => ?_⟩
  have hin : chartIn p (n : Int) := ⟨h, by omega, h4⟩
  rw [if_pos hin, if_pos hin]
  refine ⟨by omega, by omega, by omega, by omega, by omega, by omega, rfl, ?_, (decide_eq_true hin).symm⟩
  rw [shl8 (by omega)]; norm_cast

/-- What a chart's octets are when one bit is set. -/
def markF (f : Nat → Nat) (r : Nat) (on : Bool) : Nat → Nat := fun j => if j = r / 8 then (if on then clr (f j) (r % 8) ||| 2 ^ (r % 8) else clr (f j) (r % 8)) else f j
def chartMarkC : Ctr := pureC ((Int × (Nat → Nat)) × Int × Bool) (fun x => ChartW x.1 ∧ I64 x.2.1) (fun x => [chartA x.1.1 x.1.2, i64 x.2.1, .bool x.2.2]) (fun x => .tup [chartA (if chartIn x.1.1 x.2.1 then x.1.1 else 0) (fun j => if chartIn x.1.1 x.2.1 then markF x.1.2 (x.2.1 % 384).toNat x.2.2 j else 0), .bool (decide (chartIn x.1.1 x.2.1))])
def chartHasC : Ctr := pureC ((Int × (Nat → Nat)) × Int) (fun x => ChartW x.1 ∧ I64 x.2) (fun x => [chartA x.1.1 x.1.2, i64 x.2]) (fun x => .bool (decide (chartIn x.1.1 x.2) && (x.1.2 ((x.2 % 384).toNat / 8)).testBit (x.2 % 8).toNat))

theorem pow8 {r : Nat} (h : r < 8) : 2 ^ r < 256 := by
  have : 2 ^ r < 2 ^ 8 := Nat.pow_lt_pow_right (by decide) h
  exact this
theorem clr8 {w r : Nat} (hw : w < 256) (h : r < 8) : bits .andNot .u8 (w : Int) ((2 ^ r : Nat) : Int) = ((clr w r : Nat) : Int) := by
  unfold bits
  have hp : 2 ^ r < 256 := pow8 h
  have e1 : (BitVec.ofInt 8 (w : Int)).toNat = w := ofInt_nat hw
  have e2 : (BitVec.ofInt 8 ((2 ^ r : Nat) : Int)).toNat = 2 ^ r := ofInt_nat hp
  have e3 : ((BitVec.ofInt 8 (w : Int)) &&& ~~~(BitVec.ofInt 8 ((2 ^ r : Nat) : Int))).toNat = clr w r := by
    apply Nat.eq_of_testBit_eq
    intro i
    rw [BitVec.toNat_and, BitVec.toNat_not, e1, e2, Nat.testBit_and, clr_bit, show 2 ^ 8 - 1 - 2 ^ r = 2 ^ 8 - (2 ^ r + 1) by omega, Nat.testBit_two_pow_sub_succ hp, Nat.testBit_two_pow]
    by_cases hi : i < 8
    · simp [hi]
    · have : w.testBit i = false := Nat.testBit_lt_two_pow (Nat.lt_of_lt_of_le hw (Nat.pow_le_pow_right (n := 2) (by decide) (show 8 ≤ i by omega)))
      simp [this]
  have e5 := wrap_nat (k := .u8) rfl (clr_lt (n := 8) (a := r) hw)
  rw [← e3] at e5
  exact e5.trans (by rw [e3])
theorem chart_at {p a : Int} (h : chartIn p a) : ∃ r : Nat, r < 384 ∧ (a % 384).toNat = r ∧ a % 384 / 8 = ((r / 8 : Nat) : Int) ∧ (a % 8).toNat = r % 8 := by
  obtain ⟨_, h2, _⟩ := h
  exact ⟨(a % 384).toNat, by omega, rfl, by omega, by omega⟩

-- callees: 78=chartBit_ok
theorem chartMarkV : (∀ (x : (Int × (Nat → Nat)) × Int × Bool),
  ChartW x.fst ∧ I64 x.snd.fst →
    Exx ((Int × (Nat → Nat)) × Int) fun x_1 =>
      (((Tr 1 (x.fst.fst = x_1.fst.fst) ∧
              (1 : Nat) = (1 : Nat) ∧
                (48 : Nat) = (48 : Nat) ∧ (∀ (i : Nat), i < 48 → [AV.int IntKind.u8 (↑(x.fst.snd i) : Int)] = [AV.int IntKind.u8 (↑(x_1.fst.snd i) : Int)]) ∧ True) ∧
            Tr 1 (x.snd.fst = x_1.snd) ∧ True) ∧
          true = true ∧ True) ∧
        (ChartW x_1.fst ∧ I64 x_1.snd) ∧
          ∀ (y : Unit),
            True →
              BC (!decide (chartIn x_1.fst.fst x_1.snd))
                (Exx Unit fun y =>
                  ((((Tr 1 ((0 : Int) = if chartIn x.fst.fst x.snd.fst then x.fst.fst else 0) ∧
                            (1 : Nat) = (1 : Nat) ∧
                              (48 : Nat) = (48 : Nat) ∧
                                (∀ (i : Nat),
                                    i < 48 →
                                      [AV.int IntKind.u8 0] =
                                        [AV.int IntKind.u8 (↑(if chartIn x.fst.fst x.snd.fst then markF x.fst.snd (x.snd.fst % 384).toNat x.snd.snd i else 0) : Int)]) ∧
                                  True) ∧
                          false = decide (chartIn x.fst.fst x.snd.fst) ∧ True) ∧
                        True) ∧
                      true = true ∧ True) ∧
                    True)
                ((((0 : Int) ≤ if chartIn x_1.fst.fst x_1.snd then x_1.snd % 384 / 8 else 0) ∧ (if chartIn x_1.fst.fst x_1.snd then x_1.snd % 384 / 8 else 0) < (↑48 : Int)) ∧
                  (if chartIn x_1.fst.fst x_1.snd then x_1.snd % 384 / 8 else 0).toNat < 48 ∧
                    ∀ (n : Int),
                      n =
                          bits BinOp.andNot IntKind.u8 (↑(x.fst.snd (if chartIn x_1.fst.fst x_1.snd then x_1.snd % 384 / 8 else 0).toNat) : Int)
                            (if chartIn x_1.fst.fst x_1.snd then 2 ^ (x_1.snd % 8).toNat else 0) →
                        (((0 : Int) ≤ if chartIn x_1.fst.fst x_1.snd then x_1.snd % 384 / 8 else 0) ∧
                            (if chartIn x_1.fst.fst x_1.snd then x_1.snd % 384 / 8 else 0) < (↑48 : Int)) ∧
                          (if chartIn x_1.fst.fst x_1.snd then x_1.snd % 384 / 8 else 0).toNat < 48 ∧
                            BC x.snd.snd
                              ((((0 : Int) ≤ if chartIn x_1.fst.fst x_1.snd then x_1.snd % 384 / 8 else 0) ∧
                                  (if chartIn x_1.fst.fst x_1.snd then x_1.snd % 384 / 8 else 0) < (↑48 : Int)) ∧
                                (if chartIn x_1.fst.fst x_1.snd then x_1.snd % 384 / 8 else 0).toNat < 48 ∧
                                  ∀ (n_1 : Int),
                                    n_1 =
                                        bits BinOp.or IntKind.u8
                                          (if
                                              (if chartIn x_1.fst.fst x_1.snd then x_1.snd % 384 / 8 else 0).toNat =
                                                (if chartIn x_1.fst.fst x_1.snd then x_1.snd % 384 / 8 else 0).toNat then
                                            n
                                          else (↑(x.fst.snd (if chartIn x_1.fst.fst x_1.snd then x_1.snd % 384 / 8 else 0).toNat) : Int))
                                          (if chartIn x_1.fst.fst x_1.snd then 2 ^ (x_1.snd % 8).toNat else 0) →
                                      (((0 : Int) ≤ if chartIn x_1.fst.fst x_1.snd then x_1.snd % 384 / 8 else 0) ∧
                                          (if chartIn x_1.fst.fst x_1.snd then x_1.snd % 384 / 8 else 0) < (↑48 : Int)) ∧
                                        (if chartIn x_1.fst.fst x_1.snd then x_1.snd % 384 / 8 else 0).toNat < 48 ∧
                                          Exx Unit fun y =>
                                            ((((Tr 1 (x.fst.fst = if chartIn x.fst.fst x.snd.fst then x.fst.fst else 0) ∧
                                                      (1 : Nat) = (1 : Nat) ∧
                                                        (48 : Nat) = (48 : Nat) ∧
                                                          (∀ (i : Nat),
                                                              i < 48 →
                                                                [AV.int IntKind.u8
                                                                      (if i = (if chartIn x_1.fst.fst x_1.snd then x_1.snd % 384 / 8 else 0).toNat then n_1
                                                                      else
                                                                        if i = (if chartIn x_1.fst.fst x_1.snd then x_1.snd % 384 / 8 else 0).toNat then n
                                                                        else (↑(x.fst.snd i) : Int))] =
                                                                  [AV.int IntKind.u8
                                                                      (↑(if chartIn x.fst.fst x.snd.fst then markF x.fst.snd (x.snd.fst % 384).toNat x.snd.snd i else 0) : Int)]) ∧
                                                            True) ∧
                                                    true = decide (chartIn x.fst.fst x.snd.fst) ∧ True) ∧
                                                  True) ∧
                                                true = true ∧ True) ∧
                                              True)
                              (Exx Unit fun y =>
                                ((((Tr 1 (x.fst.fst = if chartIn x.fst.fst x.snd.fst then x.fst.fst else 0) ∧
                                          (1 : Nat) = (1 : Nat) ∧
                                            (48 : Nat) = (48 : Nat) ∧
                                              (∀ (i : Nat),
                                                  i < 48 →
                                                    [AV.int IntKind.u8
                                                          (if i = (if chartIn x_1.fst.fst x_1.snd then x_1.snd % 384 / 8 else 0).toNat then n else (↑(x.fst.snd i) : Int))] =
                                                      [AV.int IntKind.u8
                                                          (↑(if chartIn x.fst.fst x.snd.fst then markF x.fst.snd (x.snd.fst % 384).toNat x.snd.snd i else 0) : Int)]) ∧
                                                True) ∧
                                        true = decide (chartIn x.fst.fst x.snd.fst) ∧ True) ∧
                                      True) ∧
                                    true = true ∧ True) ∧
                                  True))) =
    (fnVC tb [(78, specOf chartBitC)] Tryd.f69 chartMarkC (fun _ => {}) (fun _ => none)) := by kernel_rfl

theorem chartMark_ok : SpecOk Tryd.prog 69 (specOf chartMarkC) := by
  refine specOk mixed tb_ok (SPok.cons chartBit_ok SPok.nil) Tryd.func69 (by decide) (pureC_ok fun _ => ⟨⟨rfl, fun _ _ => ⟨rfl, trivial⟩, trivial⟩, rfl, trivial⟩) (an := (fun _ => {})) (σ := (fun _ => none)) ?_
  rw [← chartMarkV]
  simp (maxSteps := 10000000) only [and_false, false_and, false_or, or_false, bOf_true, bOf_false, true_bOf, false_bOf, Exx, int_ite, merge_o, Tr_eq, true_and, and_true, exists_const, forall_const, implies_true, forall_eq, exists_eq, exists_eq', exists_eq_left, exists_eq_left', exists_eq_right, Prod.exists, Prod.forall, and_assoc, exists_and_left, BC_iff, Bool.not_eq_true', Bool.not_eq_false', decide_eq_true_eq, decide_eq_false_iff_not, I64, nat_cast_inj, Int.toNat_natCast, nats_iff, nats_iff', ints_iff, ints_iff', natss_iff, natss_iff', nilnil, litL_eq, str_inj, str_append, str_length, str_getD, str_take, lit1_iff, one_iff, two_iff, one_get, Nat.zero_add, Nat.sub_zero, Nat.reduceMul, Nat.reduceDiv, Nat.reduceAdd, Int.reduceToNat, Nat.not_lt_zero, if_false, if_true, Nat.le_refl, List.length_singleton, List.length_cons, List.length_nil, Bool.false_eq_true, not_true_eq_false, false_implies, not_false_eq_true, Prod.mk.injEq]
  rintro p f a on ⟨hw, h1, h2⟩
  refine ⟨f, fun _ _ => rfl, hw, h1, h2, fun h => ⟨by rw [if_neg h], fun i _ => by rw [if_neg h]; rfl, (decide_eq_false h).symm⟩, fun h => ?_⟩
  obtain ⟨r, hr, e1, e2, e3⟩ := chart_at h
  simp only [if_pos h, e1, e2, e3, Int.toNat_natCast]
  have hf : f (r / 8) < 256 := hw.2 _ (by omega)
  have hr8 : r % 8 < 8 := Nat.mod_lt _ (by decide)
  have hp : 2 ^ (r % 8) < 256 := pow8 hr8
  have ep : (2 : Int) ^ (r % 8) = ((2 ^ (r % 8) : Nat) : Int) := by norm_cast
  have hc : clr (f (r / 8)) (r % 8) < 256 := clr_lt (n := 8) hf
  rw [ep, clr8 hf hr8, bits_or (k := .u8) rfl hc hp]
  refine ⟨by omega, by omega, by omega, by omega, by omega, by omega, fun hon => ⟨by omega, by omega, by omega, by omega, by omega, by omega, trivial, fun i hi => ?_, (decide_eq_true h).symm⟩, fun hon => ⟨trivial, fun i hi => ?_, (decide_eq_true h).symm⟩⟩
  · subst hon
    by_cases e : i = r / 8
    · subst e; simp [markF]
    · simp [markF, e]
  · subst hon
    by_cases e : i = r / 8
    · subst e; simp [markF]
    · simp [markF, e]

theorem and_pow (w r : Nat) : w &&& 2 ^ r = if w.testBit r then 2 ^ r else 0 := by
  apply Nat.eq_of_testBit_eq
  intro i
  rw [Nat.testBit_and, Nat.testBit_two_pow]
  by_cases e : r = i
  · subst e
    cases hb : w.testBit r <;> simp [hb]
  · cases hb : w.testBit r <;> simp [e, Nat.testBit_two_pow]
theorem bit8 {w r : Nat} (hw : w < 256) (h : r < 8) : (!decide (bits BinOp.and IntKind.u8 (w : Int) ((2 ^ r : Nat) : Int) = 0)) = w.testBit r := by
  rw [bits_and (k := .u8) rfl hw (pow8 h), and_pow]
  cases hb : w.testBit r
  · simp
  · have : 0 < 2 ^ r := Nat.pos_of_ne_zero (by simp)
    rw [if_pos rfl]
    have h2 : ¬ ((2 ^ r : Nat) : Int) = 0 := by omega
    rw [decide_eq_false h2]; rfl

-- callees: 78=chartBit_ok
theorem chartHasV : (∀ (x : (Int × (Nat → Nat)) × Int),
  ChartW x.fst ∧ I64 x.snd →
    Exx ((Int × (Nat → Nat)) × Int) fun x_1 =>
      (((Tr 1 (x.fst.fst = x_1.fst.fst) ∧
              (1 : Nat) = (1 : Nat) ∧
                (48 : Nat) = (48 : Nat) ∧ (∀ (i : Nat), i < 48 → [AV.int IntKind.u8 (↑(x.fst.snd i) : Int)] = [AV.int IntKind.u8 (↑(x_1.fst.snd i) : Int)]) ∧ True) ∧
            Tr 1 (x.snd = x_1.snd) ∧ True) ∧
          true = true ∧ True) ∧
        (ChartW x_1.fst ∧ I64 x_1.snd) ∧
          ∀ (y : Unit),
            True →
              BC (decide (chartIn x_1.fst.fst x_1.snd))
                ((((0 : Int) ≤ if chartIn x_1.fst.fst x_1.snd then x_1.snd % 384 / 8 else 0) ∧ (if chartIn x_1.fst.fst x_1.snd then x_1.snd % 384 / 8 else 0) < (↑48 : Int)) ∧
                  (if chartIn x_1.fst.fst x_1.snd then x_1.snd % 384 / 8 else 0).toNat < 48 ∧
                    ∀ (n : Int),
                      n =
                          bits BinOp.and IntKind.u8 (↑(x.fst.snd (if chartIn x_1.fst.fst x_1.snd then x_1.snd % 384 / 8 else 0).toNat) : Int)
                            (if chartIn x_1.fst.fst x_1.snd then 2 ^ (x_1.snd % 8).toNat else 0) →
                        Exx Unit fun y =>
                          (((!decide (n = (0 : Int))) = (decide (chartIn x.fst.fst x.snd) && (x.fst.snd ((x.snd % 384).toNat / 8)).testBit (x.snd % 8).toNat) ∧ True) ∧
                              true = true ∧ True) ∧
                            True)
                (Exx Unit fun y =>
                  ((false = (decide (chartIn x.fst.fst x.snd) && (x.fst.snd ((x.snd % 384).toNat / 8)).testBit (x.snd % 8).toNat) ∧ True) ∧ true = true ∧ True) ∧ True)) =
    (fnVC tb [(78, specOf chartBitC)] Tryd.f75 chartHasC (fun _ => {}) (fun _ => none)) := by kernel_rfl

theorem chartHas_ok : SpecOk Tryd.prog 75 (specOf chartHasC) := by
  refine specOk mixed tb_ok (SPok.cons chartBit_ok SPok.nil) Tryd.func75 (by decide) (pureC_ok fun _ => rfl) (an := (fun _ => {})) (σ := (fun _ => none)) ?_
  rw [← chartHasV]
  simp (maxSteps := 10000000) only [and_false, false_and, false_or, or_false, bOf_true, bOf_false, true_bOf, false_bOf, Exx, int_ite, merge_o, Tr_eq, true_and, and_true, exists_const, forall_const, implies_true, forall_eq, exists_eq, exists_eq', exists_eq_left, exists_eq_left', exists_eq_right, Prod.exists, Prod.forall, and_assoc, exists_and_left, BC_iff, Bool.not_eq_true', Bool.not_eq_false', decide_eq_true_eq, decide_eq_false_iff_not, I64, nat_cast_inj, Int.toNat_natCast, nats_iff, nats_iff', ints_iff, ints_iff', natss_iff, natss_iff', nilnil, litL_eq, str_inj, str_append, str_length, str_getD, str_take, lit1_iff, one_iff, two_iff, one_get, Nat.zero_add, Nat.sub_zero, Nat.reduceMul, Nat.reduceDiv, Nat.reduceAdd, Int.reduceToNat, Nat.not_lt_zero, if_false, if_true, Nat.le_refl, List.length_singleton, List.length_cons, List.length_nil, Bool.false_eq_true, not_true_eq_false, false_implies, not_false_eq_true, Prod.mk.injEq]
  rintro p f a ⟨hw, h1, h2⟩
  refine ⟨f, fun _ _ => rfl, hw, h1, h2, fun h => ?_, fun h => by rw [decide_eq_false h]; rfl⟩
  obtain ⟨r, hr, e1, e2, e3⟩ := chart_at h
  simp only [if_pos h, e1, e2, e3, Int.toNat_natCast]
  have hf : f (r / 8) < 256 := hw.2 _ (by omega)
  have ep : (2 : Int) ^ (r % 8) = ((2 ^ (r % 8) : Nat) : Int) := by norm_cast
  refine ⟨by omega, by omega, by omega, ?_⟩
  rw [ep, bit8 hf (Nat.mod_lt _ (by decide)), decide_eq_true h, Bool.true_and]

end Yard
