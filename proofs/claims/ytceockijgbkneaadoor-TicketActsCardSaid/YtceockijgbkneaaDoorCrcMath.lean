

namespace Yard

def stepN (n : Nat) : Nat := if n % 2 = 1 then (n / 2) ^^^ 2197175160 else n / 2
def stepsN : Nat → Nat → Nat
  | 0, n => n
  | k + 1, n => stepN (stepsN k n)

theorem stepN_xor (a b : Nat) : stepN (a ^^^ b) = stepN a ^^^ stepN b := by
  have h1 : (a ^^^ b) / 2 = a / 2 ^^^ b / 2 := by
    have := Nat.shiftRight_xor_distrib (a := a) (b := b) (i := 1)
    simpa [Nat.shiftRight_succ] using this
  have h2 : (a ^^^ b) % 2 = (a % 2 + b % 2) % 2 := by
    have h3 : ∀ n : Nat, n % 2 = (n.testBit 0).toNat := fun n => by
      rw [Nat.testBit_zero]
      rcases Nat.mod_two_eq_zero_or_one n with h | h <;> simp [h]
    rw [h3, h3 a, h3 b, Nat.testBit_xor]
    cases a.testBit 0 <;> cases b.testBit 0 <;> rfl
  unfold stepN
  rcases Nat.mod_two_eq_zero_or_one a with ha | ha <;> rcases Nat.mod_two_eq_zero_or_one b with hb | hb <;> simp only [h1, h2, ha, hb] <;> simp
  · rw [Nat.xor_assoc]
  · rw [Nat.xor_assoc, Nat.xor_assoc, Nat.xor_comm (b / 2)]
  · rw [Nat.xor_assoc, Nat.xor_comm 2197175160 (b / 2 ^^^ 2197175160), Nat.xor_assoc, Nat.xor_self, Nat.xor_zero]

theorem stepN_zero : stepN 0 = 0 := rfl
theorem stepsN_zero : ∀ k, stepsN k 0 = 0
  | 0 => rfl
  | k + 1 => by rw [stepsN, stepsN_zero k]; rfl
theorem stepsN_xor : ∀ (k a b : Nat), stepsN k (a ^^^ b) = stepsN k a ^^^ stepsN k b
  | 0, _, _ => rfl
  | k + 1, a, b => by rw [stepsN, stepsN_xor k, stepN_xor]; rfl
theorem stepsN_add : ∀ (j k n : Nat), stepsN (j + k) n = stepsN j (stepsN k n)
  | 0, k, n => by rw [Nat.zero_add]; rfl
  | j + 1, k, n => by rw [Nat.add_right_comm, stepsN, stepsN_add j]; rfl
theorem stepsN_mul (n : Nat) : ∀ k, stepsN k (2 ^ k * n) = n
  | 0 => by simp [stepsN]
  | k + 1 => by
    rw [Nat.pow_succ, Nat.mul_assoc, stepsN, stepsN_mul (2 * n) k, stepN, if_neg (by omega)]
    omega
theorem stepN_ne {n : Nat} (h : n < 4294967296) (h0 : n ≠ 0) : stepN n ≠ 0 := by
  unfold stepN
  split
  · intro e
    have h1 : (n / 2 ^^^ 2197175160) ^^^ 2197175160 = 0 ^^^ 2197175160 := by rw [e]
    rw [Nat.xor_assoc, Nat.xor_self, Nat.xor_zero, Nat.zero_xor] at h1
    omega
  · omega
theorem stepN_lt {n : Nat} (h : n < 4294967296) : stepN n < 4294967296 := by
  unfold stepN
  split
  · exact Nat.xor_lt_two_pow (n := 32) (by omega) (by omega)
  · omega
theorem stepsN_lt {n : Nat} (h : n < 4294967296) : ∀ k, stepsN k n < 4294967296
  | 0 => h
  | k + 1 => stepN_lt (stepsN_lt h k)
theorem stepsN_ne {n : Nat} (h : n < 4294967296) (h0 : n ≠ 0) : ∀ k, stepsN k n ≠ 0
  | 0 => h0
  | k + 1 => stepN_ne (stepsN_lt h k) (stepsN_ne h h0 k)

def numN : List Nat → Nat
  | [] => 0
  | c :: r => c + 256 * numN r

theorem add_mul_xor {c n : Nat} (hc : c < 256) : c + 256 * n = c ^^^ (256 * n) := by
  apply Nat.eq_of_testBit_eq
  intro i
  rw [Nat.testBit_xor, show c + 256 * n = 2 ^ 8 * n + c by omega, Nat.testBit_two_pow_mul_add _ (by omega)]
  have e : 256 * n = 2 ^ 8 * n := rfl
  rw [e, Nat.testBit_two_pow_mul]
  by_cases h : i < 8
  · rw [if_pos h, decide_eq_false (by omega : ¬ 8 ≤ i)]; simp
  · have : c.testBit i = false := Nat.testBit_lt_two_pow (Nat.lt_of_lt_of_le hc (by
      have := Nat.pow_le_pow_right (n := 2) (by omega) (show 8 ≤ i by omega); simpa using this))
    rw [if_neg h, this, decide_eq_true (by omega)]; simp

def bitN (x : Nat) (l : List Nat) : Nat := l.foldl (fun x c => stepsN 8 (x ^^^ c)) x
theorem bitN_num : ∀ {l : List Nat} {x : Nat}, (∀ c ∈ l, c < 256) → bitN x l = stepsN (8 * l.length) (x ^^^ numN l)
  | [], x, _ => by simp [bitN, numN, stepsN]
  | c :: r, x, h => by
    have ih := bitN_num (l := r) (x := stepsN 8 (x ^^^ c)) (fun c hc => h c (List.mem_cons_of_mem _ hc))
    have e : bitN x (c :: r) = bitN (stepsN 8 (x ^^^ c)) r := rfl
    have hm := stepsN_mul (numN r) 8
    have e2 : stepsN 8 (x ^^^ (c + 256 * numN r)) = stepsN 8 (x ^^^ c) ^^^ numN r := by
      rw [add_mul_xor (h c List.mem_cons_self), ← Nat.xor_assoc, stepsN_xor 8 (x ^^^ c), show (256 : Nat) = 2 ^ 8 from rfl, hm]
    rw [e, ih, List.length_cons, Nat.mul_add, Nat.mul_one, stepsN_add, numN, e2]

def halfN (f : Nat → Nat) (x : Nat) : Nat := (x / 16) ^^^ f (x % 16)
theorem half_steps (x : Nat) : halfN (stepsN 4) x = stepsN 4 x := by
  have e : x = (16 * (x / 16)) ^^^ (x % 16) := by
    apply Nat.eq_of_testBit_eq
    intro i
    rw [Nat.testBit_xor]
    have e1 : 16 * (x / 16) = 2 ^ 4 * (x / 2 ^ 4) := rfl
    have e2 : x % 16 = x % 2 ^ 4 := rfl
    rw [e1, e2, Nat.testBit_two_pow_mul, Nat.testBit_mod_two_pow, Nat.testBit_div_two_pow]
    by_cases h : 4 ≤ i
    · rw [decide_eq_true h, decide_eq_false (by omega : ¬ i < 4), Nat.sub_add_cancel h]; simp
    · rw [decide_eq_false h, decide_eq_true (by omega : i < 4)]; simp
  conv => rhs; rw [e, stepsN_xor, show (16 : Nat) = 2 ^ 4 from rfl, stepsN_mul]
  rfl

def xorL : List Nat → List Nat → List Nat
  | a :: r, b :: s => (a ^^^ b) :: xorL r s
  | _, _ => []
theorem lt256 {a b : Nat} (ha : a < 256) (hb : b < 256) : a ^^^ b < 256 := Nat.xor_lt_two_pow (n := 8) ha hb
theorem xorL_len : ∀ {l m : List Nat}, l.length = m.length → (xorL l m).length = l.length
  | [], [], _ => rfl
  | a :: r, b :: s, h => by simp only [xorL, List.length_cons]; rw [xorL_len (l := r) (m := s) (by simpa using h)]
theorem xorL_lt : ∀ {l m : List Nat}, (∀ c ∈ l, c < 256) → (∀ c ∈ m, c < 256) → ∀ c ∈ xorL l m, c < 256
  | [], m, _, _, c, hc => by simp [xorL] at hc
  | a :: r, [], _, _, c, hc => by simp [xorL] at hc
  | a :: r, b :: s, h, k, c, hc => by
    rcases List.mem_cons.1 hc with rfl | hc
    · exact lt256 (h a List.mem_cons_self) (k b List.mem_cons_self)
    · exact xorL_lt (l := r) (m := s) (fun c hc => h c (List.mem_cons_of_mem _ hc)) (fun c hc => k c (List.mem_cons_of_mem _ hc)) c hc
theorem xor4 (a b c d : Nat) : (a ^^^ b) ^^^ (c ^^^ d) = (a ^^^ c) ^^^ (b ^^^ d) := by
  rw [Nat.xor_assoc, Nat.xor_assoc, ← Nat.xor_assoc b, Nat.xor_comm b c, Nat.xor_assoc]
theorem bitN_xor : ∀ {l m : List Nat} {x y : Nat}, l.length = m.length → bitN x l ^^^ bitN y m = bitN (x ^^^ y) (xorL l m)
  | [], [], x, y, _ => rfl
  | a :: r, b :: s, x, y, h => by
    have ih := bitN_xor (l := r) (m := s) (x := stepsN 8 (x ^^^ a)) (y := stepsN 8 (y ^^^ b)) (by simpa using h)
    have e : bitN (x ^^^ y) (xorL (a :: r) (b :: s)) = bitN (stepsN 8 ((x ^^^ y) ^^^ (a ^^^ b))) (xorL r s) := rfl
    rw [e, ← xor4, stepsN_xor, ← ih]; rfl

theorem numN_set : ∀ {l : List Nat} {j r : Nat}, j < l.length → r < 8 → (∀ c ∈ l, c < 256) → numN (l.set j (l.getD j 0 ^^^ 2 ^ r)) = numN l ^^^ 2 ^ (8 * j + r)
  | [], j, r, hj, _, _ => by simp at hj
  | a :: l, 0, r, _, hr, h => by
    have ha := h a List.mem_cons_self
    have h2 : 2 ^ r < 256 := Nat.pow_lt_pow_right (n := 8) (by omega) hr
    simp only [List.set_cons_zero, List.getD_cons_zero, numN, Nat.mul_zero, Nat.zero_add]
    rw [add_mul_xor (lt256 ha h2), add_mul_xor ha, Nat.xor_assoc, Nat.xor_comm (2 ^ r), Nat.xor_assoc]
  | a :: l, j + 1, r, hj, hr, h => by
    have ha := h a List.mem_cons_self
    have ih := numN_set (l := l) (j := j) (r := r) (by simpa using hj) hr (fun c hc => h c (List.mem_cons_of_mem _ hc))
    simp only [List.set_cons_succ, List.getD_cons_succ, numN]
    have e : 256 * (numN l ^^^ 2 ^ (8 * j + r)) = 256 * numN l ^^^ 2 ^ (8 * (j + 1) + r) := by
      have := Nat.shiftLeft_xor_distrib (a := numN l) (b := 2 ^ (8 * j + r)) (i := 8)
      simp only [Nat.shiftLeft_eq] at this
      rw [show 2 ^ (8 * (j + 1) + r) = 2 ^ (8 * j + r) * 2 ^ 8 by rw [← Nat.pow_add]; congr 1; omega, Nat.mul_comm 256, Nat.mul_comm 256]
      exact this
    rw [ih, add_mul_xor ha, e, add_mul_xor ha, Nat.xor_assoc]

theorem mod_bit (w i : Nat) : w % 2 ^ (i + 1) = (w % 2 ^ i) ^^^ ((w / 2 ^ i % 2) * 2 ^ i) := by
  apply Nat.eq_of_testBit_eq
  intro k
  have e : (w / 2 ^ i % 2) * 2 ^ i = 2 ^ i * (w / 2 ^ i % 2 ^ 1) := by rw [Nat.mul_comm]
  rw [Nat.testBit_xor, Nat.testBit_mod_two_pow, Nat.testBit_mod_two_pow, e, Nat.testBit_two_pow_mul, Nat.testBit_mod_two_pow, Nat.testBit_div_two_pow]
  by_cases h1 : k < i
  · rw [decide_eq_true h1, decide_eq_true (by omega : k < i + 1), decide_eq_false (by omega : ¬ i ≤ k)]; simp
  · by_cases h2 : k = i
    · subst h2; simp
    · rw [decide_eq_false h1, decide_eq_false (by omega : ¬ k < i + 1), decide_eq_false (by omega : ¬ k - i < 1)]; simp

theorem burst_ne {b c : List Nat} {w k : Nat} (hb : ∀ x ∈ b, x < 256) (hc : ∀ x ∈ c, x < 256) (hl : b.length = c.length) (hw : w < 4294967296) (h0 : w ≠ 0) (hk : k + 32 ≤ 8 * b.length)
    (hn : numN c = numN b ^^^ (w * 2 ^ k)) (x : Nat) : bitN x b ≠ bitN x c := by
  intro e
  rw [bitN_num hb, bitN_num hc, ← hl, hn, ← Nat.xor_assoc, stepsN_xor _ (x ^^^ numN b)] at e
  have e2 : stepsN (8 * b.length) (w * 2 ^ k) = 0 := by
    have := congrArg (stepsN (8 * b.length) (x ^^^ numN b) ^^^ ·) e
    simp only [← Nat.xor_assoc, Nat.xor_self, Nat.zero_xor] at this
    exact this.symm
  rw [show 8 * b.length = (8 * b.length - k) + k by omega, stepsN_add, Nat.mul_comm w, stepsN_mul] at e2
  exact stepsN_ne hw h0 _ e2

end Yard
