import Derived.Test.YtkdppdofkkakaaaGreatDoorPages

namespace Yard
open Go Go.Sx Go.Proofs
set_option linter.unusedVariables false
set_option linter.unusedSimpArgs false
set_option maxRecDepth 4000

theorem zkM {a b : Int} : a ∈ one0 b ↔ a = b/\b ≠ 0 := by
 unfold one0
 split
 ·rename_i h; simp [h]
 ·rename_i h; simp [h]
theorem kidL_mem {ws : List Nat} {g a : Int} : a ∈ kidL ws g ↔ (a = g/\g ≠ 0)\/∃ j, j < 16/\a = fanF ws g j/\fanF ws g j ≠ 0 := by
 rw [kidL, zdA, List.mem_append, zkM, List.mem_flatMap]
 constructor
 ·rintro (h | ⟨j, hj, h⟩)
  ·exact .inl h
  ·have := zkM.1 h
   exact .inr ⟨j, List.mem_range.1 hj, this.1, this.2⟩
 ·rintro (h | ⟨j, hj, h⟩)
  ·exact .inl h
  ·exact .inr ⟨j, List.mem_range.2 hj, zkM.2 h⟩
theorem pages_mem {ws : List Nat} {top a : Int} : a ∈ zc9 ws top 16 ↔ (a = top/\top ≠ 0)\/(∃ i, i < 16/\a = fanF ws top i/\fanF ws top i ≠ 0)\/∃ i j, i < 16/\j < 16/\a = tF ws top i j/\tF ws top i j ≠ 0 := by
 rw [zc9, List.mem_append, zkM, List.mem_flatMap]
 constructor
 ·rintro (h | ⟨i, hi, h⟩)
  ·exact .inl h
  ·rcases kidL_mem.1 h with k | ⟨j, hj, k⟩
   ·exact .inr (.inl ⟨i, List.mem_range.1 hi, k⟩)
   ·exact .inr (.inr ⟨i, j, List.mem_range.1 hi, hj, k⟩)
 ·rintro (h | ⟨i, hi, h⟩ | ⟨i, j, hi, hj, h⟩)
  ·exact .inl h
  ·exact .inr ⟨i, List.mem_range.2 hi, kidL_mem.2 (.inl h)⟩
  ·exact .inr ⟨i, List.mem_range.2 hi, kidL_mem.2 (.inr ⟨j, hj, h⟩)⟩
end Yard
