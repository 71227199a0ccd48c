/- Sx: numbers: what the operations on bits are, over naturals. -/
import Derived.Test.YtlecpjgbmeejdaaDoorSxV
namespace Go.Sx

theorem wrap_nat {k : IntKind} (hs : k.signed = false) {a : Nat} (ha : a < 2 ^ k.bits) : k.wrap (a : Int) = a := by
  unfold IntKind.wrap
  simp only [hs, Bool.false_and, Bool.false_eq_true, if_false]
  have h : ((2 ^ k.bits : Nat) : Int) = (2 : Int) ^ k.bits := by norm_cast
  rw [← h]
  exact_mod_cast Nat.mod_eq_of_lt ha

theorem ofInt_nat {n a : Nat} (ha : a < 2 ^ n) : (BitVec.ofInt n (a : Int)).toNat = a := by
  rw [BitVec.ofInt_natCast, BitVec.toNat_ofNat, Nat.mod_eq_of_lt ha]

theorem bits_xor {k : IntKind} (hs : k.signed = false) {a b : Nat} (ha : a < 2 ^ k.bits) (hb : b < 2 ^ k.bits) : bits .xor k (a : Int) (b : Int) = ((a ^^^ b : Nat) : Int) := by
  unfold bits
  simp only [BitVec.toNat_xor, ofInt_nat ha, ofInt_nat hb]
  exact wrap_nat hs (Nat.xor_lt_two_pow ha hb)
theorem bits_and {k : IntKind} (hs : k.signed = false) {a b : Nat} (ha : a < 2 ^ k.bits) (hb : b < 2 ^ k.bits) : bits .and k (a : Int) (b : Int) = ((a &&& b : Nat) : Int) := by
  unfold bits
  simp only [BitVec.toNat_and, ofInt_nat ha, ofInt_nat hb]
  exact wrap_nat hs (Nat.and_lt_two_pow _ hb)
theorem bits_or {k : IntKind} (hs : k.signed = false) {a b : Nat} (ha : a < 2 ^ k.bits) (hb : b < 2 ^ k.bits) : bits .or k (a : Int) (b : Int) = ((a ||| b : Nat) : Int) := by
  unfold bits
  simp only [BitVec.toNat_or, ofInt_nat ha, ofInt_nat hb]
  exact wrap_nat hs (Nat.or_lt_two_pow ha hb)

theorem shr_nat {a i : Nat} {n : Nat} (h : i ≤ n) : (a : Int).fdiv (2 ^ min i n) = ((a / 2 ^ i : Nat) : Int) := by
  rw [Nat.min_eq_left h, Int.fdiv_eq_ediv_of_nonneg _ (by exact_mod_cast Nat.zero_le _)]
  norm_cast
theorem shl_nat {k : IntKind} (hs : k.signed = false) {a i n : Nat} (h : i ≤ n) (ha : a * 2 ^ i < 2 ^ k.bits) : k.wrap ((a : Int) * 2 ^ min i n) = ((a * 2 ^ i : Nat) : Int) := by
  rw [Nat.min_eq_left h]
  have : (a : Int) * 2 ^ i = ((a * 2 ^ i : Nat) : Int) := by norm_cast
  rw [this, wrap_nat hs ha]
theorem or_add_nat {a b i : Nat} (h : a < 2 ^ i) : a ||| b * 2 ^ i = a + b * 2 ^ i := by
  rw [Nat.or_comm, Nat.mul_comm b, ← Nat.two_pow_add_eq_or_of_lt h, Nat.add_comm]
theorem tdiv_nat (a b : Nat) : (a : Int).tdiv (b : Int) = ((a / b : Nat) : Int) := rfl
theorem tmod_nat (a b : Nat) : (a : Int).tmod (b : Int) = ((a % b : Nat) : Int) := rfl

end Go.Sx
