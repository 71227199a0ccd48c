import Derived.Test.YtlicnnoljbfhfaaDoorSxZ

namespace Yard
open Go Go.Sx

def wcount (n : Nat) : Nat := (n + 63) / 64
def wordN (m j : Nat) : Nat := m / 2 ^ (64 * j) % 2 ^ 64
theorem wordN_bit (m j i : Nat) : (wordN m j).testBit i = (decide (i < 64) && m.testBit (64 * j + i)) := by
  rw [wordN, Nat.testBit_mod_two_pow, Nat.testBit_div_two_pow, Nat.add_comm i]
theorem wordN_lt (m j : Nat) : wordN m j < 18446744073709551616 := Nat.mod_lt _ (by decide)
theorem wordN_or {m a j : Nat} : wordN (m ||| 2 ^ a) j = if j = a / 64 then wordN m j ||| 2 ^ (a % 64) else wordN m j := by
  apply Nat.eq_of_testBit_eq
  intro i
  by_cases h : j = a / 64
  · rw [if_pos h, Nat.testBit_or, wordN_bit, wordN_bit, Nat.testBit_or, Nat.testBit_two_pow, Nat.testBit_two_pow]
    by_cases hi : i < 64
    · have : (a = 64 * j + i) ↔ (a % 64 = i) := by omega
      simp only [hi, decide_true, Bool.true_and, this]
    · have : ¬ (a % 64 = i) := by omega
      simp [hi, this]
  · rw [if_neg h, wordN_bit, wordN_bit, Nat.testBit_or, Nat.testBit_two_pow]
    by_cases hi : i < 64
    · have : ¬ (a = 64 * j + i) := by omega
      simp [this]
    · simp [hi]

def clr (m a : Nat) : Nat := m ^^^ (m &&& 2 ^ a)
theorem clr_bit (m a i : Nat) : (clr m a).testBit i = (m.testBit i && !decide (a = i)) := by
  rw [clr, Nat.testBit_xor, Nat.testBit_and, Nat.testBit_two_pow]
  cases m.testBit i <;> cases decide (a = i) <;> rfl
theorem wordN_clr {m a j : Nat} : wordN (clr m a) j = if j = a / 64 then clr (wordN m j) (a % 64) else wordN m j := by
  apply Nat.eq_of_testBit_eq
  intro i
  by_cases h : j = a / 64
  · rw [if_pos h, clr_bit, wordN_bit, wordN_bit, clr_bit]
    by_cases hi : i < 64
    · have : (a = 64 * j + i) ↔ (a % 64 = i) := by omega
      simp only [hi, decide_true, Bool.true_and, this]
    · simp [hi]
  · rw [if_neg h, wordN_bit, wordN_bit, clr_bit]
    by_cases hi : i < 64
    · have : ¬ (a = 64 * j + i) := by omega
      simp [this]
    · simp [hi]
theorem bit_shift (w i : Nat) : (w / 2 ^ i % 2 = 1) ↔ w.testBit i = true := by
  rw [Nat.testBit_eq_decide_div_mod_eq, decide_eq_true_eq]
theorem or_lt {n m a : Nat} (h : m < 2 ^ n) (ha : a < n) : m ||| 2 ^ a < 2 ^ n := Nat.or_lt_two_pow h (Nat.pow_lt_pow_right (by decide) ha)
theorem clr_lt {n m a : Nat} (h : m < 2 ^ n) : clr m a < 2 ^ n := Nat.xor_lt_two_pow h (Nat.lt_of_le_of_lt Nat.and_le_left h)

def inB (n : Nat) (a : Int) : Bool := decide (0 ≤ a ∧ a < (n : Int))
def add1 (n m : Nat) (a : Int) : Nat := if inB n a then m ||| 2 ^ a.toNat else m
def drop1 (n m : Nat) (a : Int) : Nat := if inB n a then clr m a.toNat else m
def addL (n m : Nat) (l : List Int) : Nat := l.foldl (add1 n) m
def dropL (n m : Nat) (l : List Int) : Nat := l.foldl (drop1 n) m
def bitsL (n m : Nat) : List Nat := (List.range n).filter m.testBit
def listN (s : Nat × Nat) : List Int := (bitsL s.1 s.2).map fun i : Nat => (i : Int)

theorem low_exists {w : Nat} (h : w ≠ 0) : ∃ k q, w = 2 ^ k * (2 * q + 1) := by
  induction w using Nat.strongRecOn with
  | _ w ih =>
    by_cases e : w % 2 = 1
    · exact ⟨0, w / 2, by omega⟩
    · obtain ⟨k, q, hk⟩ := ih (w / 2) (by omega) (by omega)
      exact ⟨k + 1, q, by rw [Nat.pow_succ, Nat.mul_comm (2 ^ k), Nat.mul_assoc, ← hk]; omega⟩
theorem low_bit {k q i : Nat} : (2 ^ k * (2 * q + 1)).testBit i = (decide (i = k) || (decide (k < i) && q.testBit (i - k - 1))) := by
  rw [Nat.testBit_two_pow_mul]
  by_cases h : k ≤ i
  · by_cases e : i = k
    · subst e; simp
    · have : i - k = (i - k - 1) + 1 := by omega
      rw [this, Nat.testBit_succ]
      simp [e, show k < i by omega, show (2 * q + 1) / 2 = q by omega, h]
  · simp [h, show ¬ i = k by omega, show ¬ k < i by omega]

theorem tz_ok : ∀ k, k < 64 → tabList.getD (2 ^ k * 285870213051353865 % 2 ^ 64 / 2 ^ 58) 0 = k := by decide

def wordsL (n m : Nat) : List Nat := (List.range (wcount n)).map (wordN m)
theorem wordsL_length (n m : Nat) : (wordsL n m).length = wcount n := by simp [wordsL]
theorem wordsL_getD {n m i : Nat} (h : i < wcount n) : (wordsL n m).getD i 0 = wordN m i := by rw [wordsL, getD_mapRange, if_pos h]
theorem words_inj {n m m' : Nat} (h : m < 2 ^ n) (h' : m' < 2 ^ n) (e : ∀ j, j < wcount n → wordN m j = wordN m' j) : m = m' := by
  apply Nat.eq_of_testBit_eq
  intro i
  by_cases hi : i < n
  · have hj : i / 64 < wcount n := by unfold wcount; omega
    have := congrArg (fun w => w.testBit (i % 64)) (e _ hj)
    simp only [wordN_bit, show i % 64 < 64 from Nat.mod_lt _ (by decide), decide_true, Bool.true_and, show 64 * (i / 64) + i % 64 = i by omega] at this
    exact this
  · have hp : 2 ^ n ≤ 2 ^ i := Nat.pow_le_pow_right (by decide) (by omega)
    rw [Nat.testBit_lt_two_pow (Nat.lt_of_lt_of_le h hp), Nat.testBit_lt_two_pow (Nat.lt_of_lt_of_le h' hp)]
theorem wordsL_inj {n m m' : Nat} (h : m < 2 ^ n) (h' : m' < 2 ^ n) : wordsL n m = wordsL n m' ↔ m = m' := by
  constructor
  · intro e
    refine words_inj h h' fun j hj => ?_
    have := congrArg (fun l => l.getD j 0) e
    simpa only [wordsL_getD hj] using this
  · intro e; rw [e]
theorem bitsL_mem {n m i : Nat} : i ∈ bitsL n m ↔ i < n ∧ m.testBit i = true := by simp [bitsL]
theorem bitsL_zero (n : Nat) : bitsL n 0 = [] := by simp [bitsL]
theorem filter_range_split {n k : Nat} (p : Nat → Bool) (hk : k < n) (hp : p k = true) (hlow : ∀ i, i < k → p i = false) : (List.range n).filter p = k :: (List.range n).filter (fun i => p i && !decide (k = i)) := by
  have e : n = k + (1 + (n - k - 1)) := by omega
  rw [e, List.range_add, List.filter_append, List.filter_append, List.range_add, List.map_append, List.filter_append, List.filter_append]
  have h1 : (List.range k).filter p = [] := List.filter_eq_nil_iff.2 fun i hi => by rw [hlow i (List.mem_range.1 hi)]; simp
  have h2 : (List.range k).filter (fun i => p i && !decide (k = i)) = [] := List.filter_eq_nil_iff.2 fun i hi => by rw [hlow i (List.mem_range.1 hi)]; simp
  rw [h1, h2]
  simp only [List.nil_append, List.range_succ, List.range_zero, List.map_cons, List.map_nil, Nat.add_zero]
  have h3 : [k].filter p = [k] := by simp [hp]
  have h4 : [k].filter (fun i => p i && !decide (k = i)) = [] := by simp
  rw [h3, h4]
  simp only [List.singleton_append, List.nil_append]
  congr 1
  refine List.filter_congr fun i hi => ?_
  obtain ⟨j, hj, rfl⟩ := List.mem_map.1 hi
  obtain ⟨j', _, rfl⟩ := List.mem_map.1 hj
  have : ¬ k = k + (1 + j') := by omega
  simp [this]

theorem low_step {w k q : Nat} (hw : w = 2 ^ k * (2 * q + 1)) (h64 : w < 2 ^ 64) : k < 64 ∧ bitsL 64 w = k :: bitsL 64 (clr w k) ∧ w &&& (w - 1) = clr w k ∧ w &&& (2 ^ 64 - w) = 2 ^ k := by
  have hk : k < 64 := by
    rcases Nat.lt_or_ge k 64 with h | h
    · exact h
    · have h1 : 2 ^ 64 ≤ 2 ^ k := Nat.pow_le_pow_right (by decide) h
      have h2 : 2 ^ k * 1 ≤ 2 ^ k * (2 * q + 1) := Nat.mul_le_mul_left _ (by omega)
      omega
  have hb : ∀ i, w.testBit i = (decide (i = k) || (decide (k < i) && q.testBit (i - k - 1))) := fun i => by rw [hw, low_bit]
  have hp : 0 < 2 ^ k := Nat.pos_of_ne_zero (by simp)
  refine ⟨hk, ?_, ?_, ?_⟩
  · have := filter_range_split (n := 64) w.testBit hk (by rw [hb]; simp) (fun i hi => by rw [hb]; simp [show ¬ i = k by omega, show ¬ k < i by omega])
    rw [bitsL, this, bitsL]
    congr 1
    exact List.filter_congr fun i _ => (clr_bit w k i).symm
  · apply Nat.eq_of_testBit_eq
    intro i
    have e : w - 1 = 2 ^ (k + 1) * q + (2 ^ k - 1) := by
      rw [hw, Nat.pow_succ, Nat.mul_add, Nat.mul_one, Nat.mul_assoc]; omega
    rw [Nat.testBit_and, clr_bit, hb, e, Nat.testBit_two_pow_mul_add _ (Nat.lt_of_lt_of_le (Nat.sub_lt hp (by decide)) (Nat.pow_le_pow_right (by decide) (by omega)))]
    by_cases h1 : i < k + 1
    · rw [if_pos h1, Nat.testBit_two_pow_sub_one]
      by_cases h2 : i = k
      · subst h2; simp
      · simp [h2, show ¬ k < i by omega]
    · rw [if_neg h1, show i - (k + 1) = i - k - 1 by omega]
      simp [show ¬ i = k by omega, show k < i by omega, show ¬ k = i by omega]
  · apply Nat.eq_of_testBit_eq
    intro i
    have h0 : w - 1 < 2 ^ 64 := by omega
    have e : 2 ^ 64 - w = 2 ^ 64 - ((w - 1) + 1) := by
      have : 0 < w := by rw [hw]; exact Nat.mul_pos hp (by omega)
      omega
    have e2 : w - 1 = 2 ^ (k + 1) * q + (2 ^ k - 1) := by
      rw [hw, Nat.pow_succ, Nat.mul_add, Nat.mul_one, Nat.mul_assoc]; omega
    rw [Nat.testBit_and, hb, e, Nat.testBit_two_pow_sub_succ h0, e2, Nat.testBit_two_pow_mul_add _ (Nat.lt_of_lt_of_le (Nat.sub_lt hp (by decide)) (Nat.pow_le_pow_right (by decide) (by omega))), Nat.testBit_two_pow]
    by_cases h1 : i < k + 1
    · rw [if_pos h1, Nat.testBit_two_pow_sub_one]
      by_cases h2 : i = k
      · subst h2; simp [hk]
      · simp [h2, show ¬ k < i by omega, show ¬ k = i by omega]
    · rw [if_neg h1, show i - (k + 1) = i - k - 1 by omega]
      simp [show ¬ i = k by omega, show k < i by omega, show ¬ k = i by omega]
      exact fun h _ => h

theorem bitsL_step (m i : Nat) : bitsL (64 * (i + 1)) m = bitsL (64 * i) m ++ (bitsL 64 (wordN m i)).map (64 * i + ·) := by
  rw [bitsL, show 64 * (i + 1) = 64 * i + 64 by omega, List.range_add, List.filter_append, List.filter_map]
  have : (List.range 64).filter (m.testBit ∘ (64 * i + ·)) = bitsL 64 (wordN m i) := List.filter_congr fun j hj => by
    rw [wordN_bit, decide_eq_true (List.mem_range.1 hj)]; simp
  rw [this]; rfl
theorem bitsL_all {n k m : Nat} (h : m < 2 ^ n) (hk : n ≤ k) : bitsL k m = bitsL n m := by
  obtain ⟨d, rfl⟩ : ∃ d, k = n + d := ⟨k - n, by omega⟩
  rw [bitsL, List.range_add, List.filter_append, bitsL]
  have : ((List.range d).map (n + ·)).filter m.testBit = [] := List.filter_eq_nil_iff.2 fun j hj => by
    obtain ⟨i, _, rfl⟩ := List.mem_map.1 hj
    rw [Nat.testBit_lt_two_pow (Nat.lt_of_lt_of_le h (Nat.pow_le_pow_right (by decide) (by omega)))]; simp
  rw [this, List.append_nil]
theorem bitsL_words {n m : Nat} (h : m < 2 ^ n) : bitsL (64 * wcount n) m = bitsL n m := bitsL_all h (by unfold wcount; omega)
theorem bitsL_len (n m : Nat) : (bitsL n m).length ≤ n := by
  have := List.length_filter_le m.testBit (List.range n)
  simpa [bitsL] using this

end Yard
