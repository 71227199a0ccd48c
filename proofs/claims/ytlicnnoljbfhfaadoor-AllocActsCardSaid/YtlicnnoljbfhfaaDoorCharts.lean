import Derived.Test.YtlicnnoljbfhfaaDoorChart

namespace Yard
open Go Go.Sx Go.Proofs
set_option linter.unusedVariables false
set_option linter.unusedSimpArgs false
set_option maxRecDepth 4000

def chN (n : Nat) : Nat := (n + 383) / 384
def chartsNC : Ctr := pureC Nat (fun n => n ≤ 3072) (fun n => [i64 (n : Nat)]) (fun n => i64 (chN n : Nat))

def chartF (m j k : Nat) : Nat := if k < 48 then m / 2 ^ (384 * j + 8 * k) % 256 else 0
theorem chartF_bit {m j k i : Nat} (hk : k < 48) : (chartF m j k).testBit i = (decide (i < 8) && m.testBit (384 * j + 8 * k + i)) := by
  rw [chartF, if_pos hk, show 256 = 2 ^ 8 from rfl, Nat.testBit_mod_two_pow, Nat.testBit_div_two_pow, Nat.add_comm i]
theorem chartF_lt (m j k : Nat) : chartF m j k < 256 := by
  unfold chartF; split
  · exact Nat.mod_lt _ (by decide)
  · decide
theorem chartF_or {m a j k : Nat} : chartF (m ||| 2 ^ a) j k = if j = a / 384 then markF (chartF m j) (a % 384) true k else chartF m j k := by
  by_cases hk : k < 48
  case neg =>
    have h0 : ∀ x, chartF x j k = 0 := fun x => by rw [chartF, if_neg hk]
    have hne : ¬ k = a % 384 / 8 := by omega
    rw [h0, markF, if_neg hne, h0]; simp
  apply Nat.eq_of_testBit_eq
  intro i
  rw [chartF_bit hk, Nat.testBit_or, Nat.testBit_two_pow]
  by_cases hj : j = a / 384
  · rw [if_pos hj, markF, show a % 384 % 8 = a % 8 by omega]
    by_cases hkr : k = a % 384 / 8
    · rw [if_pos hkr, if_pos rfl, Nat.testBit_or, clr_bit, chartF_bit hk, Nat.testBit_two_pow]
      by_cases hi : i < 8
      · have : (a = 384 * j + 8 * k + i) ↔ (a % 8 = i) := by omega
        simp only [hi, decide_true, Bool.true_and, this]
        by_cases e : a % 8 = i <;> simp [e]
      · have : ¬ (a % 8 = i) := by omega
        simp [hi, this]
    · rw [if_neg hkr, chartF_bit hk]
      by_cases hi : i < 8
      · have : ¬ (a = 384 * j + 8 * k + i) := by omega
        simp [this]
      · simp [hi]
  · rw [if_neg hj, chartF_bit hk]
    by_cases hi : i < 8
    · have : ¬ (a = 384 * j + 8 * k + i) := by omega
      simp [this]
    · simp [hi]
theorem chartF_zero (j k : Nat) : chartF 0 j k = 0 := by simp [chartF]

theorem add1_bit {n m : Nat} {a : Int} {i : Nat} : (add1 n m a).testBit i = (m.testBit i || decide (i < n ∧ (i : Int) = a)) := by
  unfold add1 inB
  by_cases h : 0 ≤ a ∧ a < (n : Int)
  · rw [if_pos (decide_eq_true h), Nat.testBit_or, Nat.testBit_two_pow]
    have : (a.toNat = i) ↔ (i < n ∧ (i : Int) = a) := by omega
    simp only [this]
  · rw [if_neg (by rw [decide_eq_false h]; simp)]
    have : ¬ (i < n ∧ (i : Int) = a) := by omega
    simp [this]
theorem addL_bit {n i : Nat} : ∀ {l : List Int} {m : Nat}, (addL n m l).testBit i = (m.testBit i || decide (i < n ∧ (i : Int) ∈ l))
  | [], m => by simp [addL]
  | a :: r, m => by
    have e : addL n m (a :: r) = addL n (add1 n m a) r := rfl
    rw [e, addL_bit (l := r), add1_bit, Bool.or_assoc]
    congr 1
    rw [← Bool.decide_or]
    apply decide_eq_decide.2
    rw [List.mem_cons]
    constructor
    · rintro (⟨h1, h2⟩ | ⟨h1, h2⟩)
      · exact ⟨h1, .inl h2⟩
      · exact ⟨h1, .inr h2⟩
    · rintro ⟨h1, h2 | h2⟩
      · exact .inl ⟨h1, h2⟩
      · exact .inr ⟨h1, h2⟩
theorem listN_mem {n m : Nat} {a : Int} : a ∈ listN (n, m) ↔ 0 ≤ a ∧ a < (n : Int) ∧ m.testBit a.toNat = true := by
  rw [listN, List.mem_map]
  constructor
  · rintro ⟨i, hi, rfl⟩
    obtain ⟨h1, h2⟩ := bitsL_mem.1 hi
    exact ⟨by omega, by simp only at h1; omega, h2⟩
  · rintro ⟨h1, h2, h3⟩
    exact ⟨a.toNat, bitsL_mem.2 ⟨by simp only; omega, h3⟩, by omega⟩
theorem addL_list {n m : Nat} (h : m < 2 ^ n) : addL n 0 (listN (n, m)) = m := by
  apply Nat.eq_of_testBit_eq
  intro i
  rw [addL_bit, Nat.zero_testBit, Bool.false_or]
  by_cases hi : i < n
  · cases hb : m.testBit i
    · exact decide_eq_false fun k => by have := (listN_mem.1 k.2).2.2; rw [Int.toNat_natCast, hb] at this; cases this
    · exact decide_eq_true ⟨hi, listN_mem.2 ⟨by omega, by omega, hb⟩⟩
  · rw [Nat.testBit_lt_two_pow (Nat.lt_of_lt_of_le h (Nat.pow_le_pow_right (by decide) (by omega)))]
    exact decide_eq_false fun k => hi k.1

def setChartsC : Ctr where
  X := Nat × Nat
  Y := Nat
  conv := true
  tau := ptrTau
  pre := SetW
  args := fun _ => [.ptr 0 [] 0]
  heap := fun s => [setI s]
  Q := fun s cap => chN s.1 ≤ cap
  res := fun s cap => .sl 2 [] 0 49 0 (chN s.1) cap
  its := fun s _ => [setI s]
  new := fun s cap => [.row 99999 49 cap (chN s.1) (fun j => chartV (j : Nat) (chartF s.2 j))]
theorem setChartsC_ok : CtrOk setChartsC :=
  ⟨fun _ _ _ _ => (rfl : 1 = 1), fun _ _ _ _ => ⟨rfl, rfl⟩, fun x _ _ _ _ => ⟨⟨⟨trivial, trivial⟩, ⟨⟨fun _ _ => ⟨rfl, ⟨fun _ _ => ⟨rfl, trivial⟩, trivial⟩⟩, trivial⟩, trivial⟩⟩, rfl⟩⟩
def chartsLA (x : Nat × Nat) : LA := { T := Nat × Nat × Nat, F := fun s => frm 45 [(0, .ptr 0 [] 0), (3, .sl 3 [] 0 49 0 s.1 s.2.2), (12, i64 (chN x.1 : Nat)), (13, i64 (s.1 : Nat))], H := fun s => [.cells 65 [i64 (x.1 : Int), .sl 2 [] 0 1 0 (wcount x.1) s.2.1], .fence, .row 66 1 s.2.1 (wcount x.1) (fun j => [u64 (wordN x.2 j)]), .row 99999 49 s.2.2 s.1 (fun j => chartV (j : Nat) (fun _ => 0))] }
def chartsLB (x : Nat × Nat) : LA := { T := Nat × Nat × Nat, F := fun s => frm 45 [(3, .sl 2 [] 0 49 0 (chN x.1) s.2.1), (23, .sl 3 [] 0 1 0 (listN x).length s.2.2), (24, i64 ((listN x).length : Nat)), (25, i64 (s.1 : Nat))], H := fun s => [setI x, .fence, .row 99999 49 s.2.1 (chN x.1) (fun j => chartV (j : Nat) (chartF (addL x.1 0 ((listN x).take s.1)) j)), rowI 3 .i64 s.2.2 (listN x)], σ₁ := some [some 0, some 1, some 3, some 4] }

end Yard
