import Derived.Test.YtlicnnoljbfhfaaDoorBits2

namespace Yard
open Go Go.Sx Go.Proofs
set_option linter.unusedVariables false
set_option linter.unusedSimpArgs false
set_option maxRecDepth 4000

abbrev chartV (p : Int) (f : Nat → Nat) : List AV := [i64 p, .arr 1 48 (fun j => [.int .u8 ((f j : Nat) : Int)])]
abbrev chartA (p : Int) (f : Nat → Nat) : AV := .agg (chartV p f)
def ChartW (x : Int × (Nat → Nat)) : Prop := I64 x.1 ∧ ∀ j, j < 48 → x.2 j < 256
def chartRt (p : Int) : Prop := 0 ≤ p ∧ p < 8
instance (p : Int) : Decidable (chartRt p) := by unfold chartRt; infer_instance
def chartIn (p at_ : Int) : Prop := chartRt p ∧ 0 ≤ at_ ∧ at_ / 384 = p
instance (p at_ : Int) : Decidable (chartIn p at_) := by unfold chartIn; infer_instance
def chartRightC : Ctr := pureC (Int × (Nat → Nat)) ChartW (fun x => [chartA x.1 x.2]) (fun x => .bool (decide (chartRt x.1)))
def chartBitC : Ctr := pureC ((Int × (Nat → Nat)) × Int) (fun x => ChartW x.1 ∧ I64 x.2) (fun x => [chartA x.1.1 x.1.2, i64 x.2]) (fun x => .tup [i64 (if chartIn x.1.1 x.2 then x.2 % 384 / 8 else 0), .int .u8 (if chartIn x.1.1 x.2 then 2 ^ (x.2 % 8).toNat else 0), .bool (decide (chartIn x.1.1 x.2))])

theorem shl8 {r : Nat} (h : r < 8) : IntKind.u8.wrap (1 * 2 ^ min r IntKind.u8.bits) = ((2 ^ r : Nat) : Int) := by
  have hp : 2 ^ r < 2 ^ 8 := Nat.pow_lt_pow_right (by decide) h
  have := shl_nat (k := .u8) rfl (a := 1) (i := r) (n := IntKind.u8.bits) (Nat.le_of_lt h) (by rw [Nat.one_mul]; exact hp)
  rw [Nat.one_mul] at this; exact this

def markF (f : Nat → Nat) (r : Nat) (on : Bool) : Nat → Nat := fun j => if j = r / 8 then (if on then clr (f j) (r % 8) ||| 2 ^ (r % 8) else clr (f j) (r % 8)) else f j
def chartMarkC : Ctr := pureC ((Int × (Nat → Nat)) × Int × Bool) (fun x => ChartW x.1 ∧ I64 x.2.1) (fun x => [chartA x.1.1 x.1.2, i64 x.2.1, .bool x.2.2]) (fun x => .tup [chartA (if chartIn x.1.1 x.2.1 then x.1.1 else 0) (fun j => if chartIn x.1.1 x.2.1 then markF x.1.2 (x.2.1 % 384).toNat x.2.2 j else 0), .bool (decide (chartIn x.1.1 x.2.1))])
def chartHasC : Ctr := pureC ((Int × (Nat → Nat)) × Int) (fun x => ChartW x.1 ∧ I64 x.2) (fun x => [chartA x.1.1 x.1.2, i64 x.2]) (fun x => .bool (decide (chartIn x.1.1 x.2) && (x.1.2 ((x.2 % 384).toNat / 8)).testBit (x.2 % 8).toNat))

theorem pow8 {r : Nat} (h : r < 8) : 2 ^ r < 256 := by
  have : 2 ^ r < 2 ^ 8 := Nat.pow_lt_pow_right (by decide) h
  exact this
theorem clr8 {w r : Nat} (hw : w < 256) (h : r < 8) : bits .andNot .u8 (w : Int) ((2 ^ r : Nat) : Int) = ((clr w r : Nat) : Int) := by
  unfold bits
  have hp : 2 ^ r < 256 := pow8 h
  have e1 : (BitVec.ofInt 8 (w : Int)).toNat = w := ofInt_nat hw
  have e2 : (BitVec.ofInt 8 ((2 ^ r : Nat) : Int)).toNat = 2 ^ r := ofInt_nat hp
  have e3 : ((BitVec.ofInt 8 (w : Int)) &&& ~~~(BitVec.ofInt 8 ((2 ^ r : Nat) : Int))).toNat = clr w r := by
    apply Nat.eq_of_testBit_eq
    intro i
    rw [BitVec.toNat_and, BitVec.toNat_not, e1, e2, Nat.testBit_and, clr_bit, show 2 ^ 8 - 1 - 2 ^ r = 2 ^ 8 - (2 ^ r + 1) by omega, Nat.testBit_two_pow_sub_succ hp, Nat.testBit_two_pow]
    by_cases hi : i < 8
    · simp [hi]
    · have : w.testBit i = false := Nat.testBit_lt_two_pow (Nat.lt_of_lt_of_le hw (Nat.pow_le_pow_right (n := 2) (by decide) (show 8 ≤ i by omega)))
      simp [this]
  have e5 := wrap_nat (k := .u8) rfl (clr_lt (n := 8) (a := r) hw)
  rw [← e3] at e5
  exact e5.trans (by rw [e3])
theorem chart_at {p a : Int} (h : chartIn p a) : ∃ r : Nat, r < 384 ∧ (a % 384).toNat = r ∧ a % 384 / 8 = ((r / 8 : Nat) : Int) ∧ (a % 8).toNat = r % 8 := by
  obtain ⟨_, h2, _⟩ := h
  exact ⟨(a % 384).toNat, by omega, rfl, by omega, by omega⟩

theorem and_pow (w r : Nat) : w &&& 2 ^ r = if w.testBit r then 2 ^ r else 0 := by
  apply Nat.eq_of_testBit_eq
  intro i
  rw [Nat.testBit_and, Nat.testBit_two_pow]
  by_cases e : r = i
  · subst e
    cases hb : w.testBit r <;> simp [hb]
  · cases hb : w.testBit r <;> simp [e, Nat.testBit_two_pow]
theorem bit8 {w r : Nat} (hw : w < 256) (h : r < 8) : (!decide (bits BinOp.and IntKind.u8 (w : Int) ((2 ^ r : Nat) : Int) = 0)) = w.testBit r := by
  rw [bits_and (k := .u8) rfl hw (pow8 h), and_pow]
  cases hb : w.testBit r
  · simp
  · have : 0 < 2 ^ r := Nat.pos_of_ne_zero (by simp)
    rw [if_pos rfl]
    have h2 : ¬ ((2 ^ r : Nat) : Int) = 0 := by omega
    rw [decide_eq_false h2]; rfl

end Yard
