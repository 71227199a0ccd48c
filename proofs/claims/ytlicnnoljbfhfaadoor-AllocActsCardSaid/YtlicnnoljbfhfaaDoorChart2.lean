import Derived.Test.YtlicnnoljbfhfaaDoorBits3

namespace Yard
open Go Go.Sx Go.Proofs
set_option linter.unusedVariables false
set_option linter.unusedSimpArgs false
set_option maxRecDepth 4000

theorem snocG {α : Type} {enc : α → List AV} {l : List α} {v d : α} {z : List AV} {i : Nat} (hi : i < (l ++ [v]).length) : (if i < l.length then enc (l.getD i d) else if i - l.length = 0 then enc v else z) = enc ((l ++ [v]).getD i d) := by
  rw [getD_append]
  by_cases e : i < l.length
  · rw [if_pos e, if_pos e]
  · have : i - l.length = 0 := by simp at hi; omega
    rw [if_neg e, if_neg e, this]; rfl
theorem wrapI (x : Int) (h : I64 x) : IntKind.i64.wrap x = x := wrap_I64 h
theorem i64_wrap (x : Int) : I64 (IntKind.i64.wrap x) := by
  rw [IntKind.wrap_i64]; unfold I64; omega
def chBit (f : Nat → Nat) (i : Nat) : Bool := (f (i / 8)).testBit (i % 8)

def chartP (p : Int) (f : Nat → Nat) (k : Nat) : List Int := if chartRt p then ((List.range k).filter (chBit f)).map (fun i : Nat => 384 * p + (i : Int)) else []
def chartL (p : Int) (f : Nat → Nat) : List Int := chartP p f 384
theorem chartP_zero (p : Int) (f : Nat → Nat) : chartP p f 0 = [] := by unfold chartP; split <;> rfl
theorem chartP_succ (p : Int) (f : Nat → Nat) (k : Nat) : chartP p f (k + 1) = chartP p f k ++ (if chartRt p ∧ chBit f k = true then [384 * p + (k : Int)] else []) := by
  unfold chartP
  by_cases h : chartRt p
  · simp only [h, if_true, List.range_succ, List.filter_append, List.map_append, true_and]
    congr 1
    cases hb : chBit f k <;> simp [hb]
  · simp [h]
theorem chartP_len (p : Int) (f : Nat → Nat) (k : Nat) : (chartP p f k).length ≤ k := by
  unfold chartP
  split
  · rw [List.length_map]; exact Nat.le_trans (List.length_filter_le _ _) (by simp)
  · simp
def chartListC : Ctr := rowIC (Int × (Nat → Nat)) ChartW (fun x => [chartA x.1 x.2]) 3 .i64 (fun x => chartL x.1 x.2) (fun _ r => r)
def chartListLA (x : Int × (Nat → Nat)) : LA := { T := Nat × Nat × List Int, F := fun s => frm 23 [(1, .ptr 1 [] 0), (3, .sl 2 [] 0 1 0 s.2.2.length s.2.1), (6, i64 (s.1 : Nat))], H := fun s => [.fence, .cells 99999 (chartV x.1 x.2), rowI 3 .i64 s.2.1 s.2.2] }

def refRightC : Ctr := pureC (Int × (Nat → Nat)) ChartW (fun x => [chartA x.1 x.2]) (fun x => .bool (decide (chartRt x.1)))

end Yard
