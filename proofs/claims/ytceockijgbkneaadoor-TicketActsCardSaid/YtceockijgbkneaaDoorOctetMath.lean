import Derived.Test.YtceockijgbkneaaDoorCrcMath
import Derived.Test.YtceockijgbkneaaDoorSxZ

namespace Yard
open Go Go.Sx

def layN : Nat → Nat → List Nat
  | _, 0 => []
  | v, n + 1 => v % 256 :: layN (v / 256) n
theorem layN_length : ∀ (n v : Nat), (layN v n).length = n
  | 0, _ => rfl
  | n + 1, v => by simp [layN, layN_length n]
theorem layN_getD : ∀ (n v i : Nat), i < n → (layN v n).getD i 0 = v / 256 ^ i % 256
  | 0, _, i, h => absurd h (Nat.not_lt_zero _)
  | n + 1, v, 0, _ => by simp [layN]
  | n + 1, v, i + 1, h => by
    simp only [layN, List.getD_cons_succ]
    rw [layN_getD n (v / 256) i (by omega), Nat.pow_succ, Nat.div_div_eq_div_mul, Nat.mul_comm]
theorem layN_lt : ∀ (n v : Nat), ∀ c ∈ layN v n, c < 256
  | 0, _, c, h => by cases h
  | n + 1, v, c, h => by
    rcases List.mem_cons.1 h with rfl | h
    · exact Nat.mod_lt _ (by decide)
    · exact layN_lt n _ c h
theorem numN_lay : ∀ (n v : Nat), v < 256 ^ n → numN (layN v n) = v
  | 0, v, h => by have : v = 0 := by simpa using h
                  subst this; rfl
  | n + 1, v, h => by
    rw [layN, numN, numN_lay n (v / 256) (by rw [Nat.pow_succ] at h; exact Nat.div_lt_of_lt_mul (by omega))]
    omega
theorem numN_lt : ∀ (l : List Nat), (∀ c ∈ l, c < 256) → numN l < 256 ^ l.length
  | [], _ => by simp [numN]
  | c :: r, h => by
    have h1 := h c List.mem_cons_self
    have h2 := numN_lt r fun c hc => h c (List.mem_cons_of_mem _ hc)
    rw [List.length_cons, Nat.pow_succ, numN]; omega
theorem lay_num : ∀ (l : List Nat), (∀ c ∈ l, c < 256) → layN (numN l) l.length = l
  | [], _ => rfl
  | c :: r, h => by
    have h1 := h c List.mem_cons_self
    have h2 := lay_num r fun c hc => h c (List.mem_cons_of_mem _ hc)
    rw [List.length_cons, layN, numN, show (c + 256 * numN r) % 256 = c by omega, show (c + 256 * numN r) / 256 = numN r by omega, h2]
theorem numN_snoc : ∀ (l : List Nat) (c : Nat), numN (l ++ [c]) = numN l + 256 ^ l.length * c
  | [], c => by simp [numN]
  | a :: r, c => by
    rw [List.cons_append, numN, numN_snoc r c, numN, List.length_cons, Nat.pow_succ, Nat.mul_add, Nat.add_assoc]
    congr 2
    rw [← Nat.mul_assoc, Nat.mul_comm 256]

def layL (v : Nat) (n : Int) : List Nat := if 0 ≤ n ∧ n ≤ 8 then layN v n.toNat else []
def readN (l : List Nat) : Nat := numN (l.take 8)
def hasB (len : Nat) (at_ n : Int) : Prop := 0 ≤ at_ ∧ 0 ≤ n ∧ at_ + n ≤ (len : Int)
instance (len : Nat) (at_ n : Int) : Decidable (hasB len at_ n) := by unfold hasB; infer_instance
def cut (l : List Nat) (at_ n : Int) : List Nat := (l.drop at_.toNat).take n.toNat
def getOk (len : Nat) (at_ n : Int) : Prop := 1 ≤ n ∧ n ≤ 8 ∧ hasB len at_ n
instance (len : Nat) (at_ n : Int) : Decidable (getOk len at_ n) := by unfold getOk; infer_instance
def getN (l : List Nat) (at_ n : Int) : Nat := if getOk l.length at_ n then numN (cut l at_ n) else 0
def putL (l : List Nat) (at_ : Nat) (m : List Nat) : List Nat := l.take at_ ++ m ++ l.drop (at_ + m.length)
def putN (l : List Nat) (at_ n : Int) (v : Nat) : List Nat := if getOk l.length at_ n then putL l at_.toNat (layN v n.toNat) else []
def noughts (l : List Nat) (at_ n : Int) : Bool := decide (hasB l.length at_ n) && (cut l at_ n).all (fun c => decide (c = 0))
def wordsN (l : List Nat) : List Nat := (List.range (l.length / 8)).map fun i => numN ((l.drop (8 * i)).take 8)
def octetsN (ws : List Nat) : List Nat := ws.flatMap fun w => layN w 8

theorem putL_length {l m : List Nat} {a : Nat} (h : a + m.length ≤ l.length) : (putL l a m).length = l.length := by
  simp only [putL, List.length_append, List.length_take, List.length_drop]; omega
theorem putL_getD {l m : List Nat} {a i : Nat} (h : a + m.length ≤ l.length) : (putL l a m).getD i 0 = if a ≤ i ∧ i < a + m.length then m.getD (i - a) 0 else l.getD i 0 := by
  have e : (l.take a).length = a := by rw [List.length_take]; omega
  rw [putL, getD_append, List.length_append, e]
  by_cases h1 : i < a + m.length
  · rw [if_pos h1, getD_append, e]
    by_cases h2 : i < a
    · rw [if_pos h2, if_neg (by omega), getD_take, if_pos h2]
    · rw [if_neg h2, if_pos (by omega)]
  · rw [if_neg h1, if_neg (by omega), getD_drop]
    congr 1; omega
theorem cut_putL {l m : List Nat} {a n : Int} (hn : m.length = n.toNat) (h : a.toNat + m.length ≤ l.length) : cut (putL l a.toNat m) a n = m := by
  have e := putL_length h
  refine list_ext_getD 0 ?_ fun i hi => ?_
  · simp only [cut, List.length_take, List.length_drop, e]; omega
  · rw [cut, getD_take, if_pos (by omega), getD_drop, putL_getD h, if_pos (by omega)]
    congr 1; omega
theorem putL_comm {l m q : List Nat} {a b : Nat} (h1 : a + m.length ≤ l.length) (h2 : b + q.length ≤ l.length) (h : a + m.length ≤ b ∨ b + q.length ≤ a) : putL (putL l a m) b q = putL (putL l b q) a m := by
  have e1 := putL_length h1
  have e2 := putL_length h2
  have e3 : (putL (putL l a m) b q).length = l.length := by rw [putL_length (by omega), e1]
  have e4 : (putL (putL l b q) a m).length = l.length := by rw [putL_length (by omega), e2]
  refine list_ext_getD 0 (by omega) fun i hi => ?_
  rw [putL_getD (by omega), putL_getD (by omega), putL_getD (by omega), putL_getD (by omega)]
  by_cases c1 : b ≤ i ∧ i < b + q.length
  · rw [if_pos c1, if_neg (by omega), if_pos c1]
  · rw [if_neg c1, if_neg c1]
theorem putL_mem {l m : List Nat} {a : Nat} {p : Nat → Prop} (h1 : ∀ x ∈ l, p x) (h2 : ∀ x ∈ m, p x) : ∀ x ∈ putL l a m, p x := fun x hx => by
  simp only [putL, List.mem_append] at hx
  rcases hx with (hx | hx) | hx
  · exact h1 x (List.mem_of_mem_take hx)
  · exact h2 x hx
  · exact h1 x (List.mem_of_mem_drop hx)
theorem readN_lt {l : List Nat} (h : ∀ c ∈ l, c < 256) : readN l < 18446744073709551616 := by
  have := numN_lt (l.take 8) fun c hc => h c (List.mem_of_mem_take hc)
  have h2 : (256 : Nat) ^ (l.take 8).length ≤ 256 ^ 8 := Nat.pow_le_pow_right (by decide) (by simp; omega)
  exact Nat.lt_of_lt_of_le this h2
theorem octetsN_length : ∀ (ws : List Nat), (octetsN ws).length = 8 * ws.length
  | [] => rfl
  | w :: r => by
    have := octetsN_length r
    simp only [octetsN, List.flatMap_cons, List.length_append, layN_length, List.length_cons] at *
    omega
theorem octetsN_lt : ∀ (ws : List Nat), ∀ c ∈ octetsN ws, c < 256
  | [], c, h => by cases h
  | w :: r, c, h => by
    simp only [octetsN, List.flatMap_cons, List.mem_append] at h
    rcases h with h | h
    · exact layN_lt _ _ c h
    · exact octetsN_lt r c h
theorem octetsN_snoc (ws : List Nat) (w : Nat) : octetsN (ws ++ [w]) = octetsN ws ++ layN w 8 := by simp [octetsN]

end Yard
