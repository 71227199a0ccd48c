import Derived.Test.YtkdppdofkkakaaaGreatDoorTb
import Derived.Test.YtkdppdofkkakaaaGreatDoorSxZ

namespace Yard
open Go Go.Sx Go.Proofs
set_option linter.unusedVariables false
set_option linter.unusedSimpArgs false
set_option maxRecDepth 4000

def restC : Ctr := zbT (Int × Int) (fun x => I64 x.1/\1 <= x.2/\x.2 <= 1000000) (fun x => [.int .i64 x.1, .int .i64 x.2]) (fun x => .int .i64 (x.1 % x.2))

theorem restV : (∀ (x : Int × Int), I64 x.1/\(1 : Int) <= x.2/\x.2 <= (1000000 : Int)->x.2 ≠ (0 : Int)/\∀ (n : Int), n = x.1.tmod x.2->I64 (n + x.2)/\x.2 ≠
 (0 : Int)/\∀ (n_1 : Int), n_1 = (n + x.2).tmod x.2->Exx Unit fun y => ((Tr 1 (n_1 = x.1 % x.2)/\True)/\true = true/\True)/\True) = (fnVC tb [] Tryz.f20
 restC (fun _ => {}) (fun _ => none)) := by kernel_rfl

theorem rest_ok : SpecOk Tryz.prog 20 (zaA restC) := by
 refine zaF zaH zaG SPok.nil Tryz.func20 (by decide) (zaI fun _ => rfl) (Eq.mp restV ?_)
 simp (maxSteps := 10000000) only [std, stdU, stdV, Exx, I64, Nat.reduceMul, Nat.reduceDiv, Nat.reduceAdd, Int.reduceToNat]
 rintro a n ⟨h1, h2, h3, h4⟩
 have hb := Int.tmod_lt_of_pos a (b := n) (by omega)
 have hb' : -n < a.tmod n := Int.lt_tmod_of_pos a (by omega)
 refine ⟨by omega, by omega, by omega, by omega, ?_⟩
 rw [Int.tmod_eq_emod_of_nonneg (by omega), Int.add_emod_right, Int.tmod_eq_emod]
 split
 ·simp
 ·rename_i h
  have : ((n.natAbs : Nat) : Int) = n := by omega
  rw [this]; simp

end Yard
