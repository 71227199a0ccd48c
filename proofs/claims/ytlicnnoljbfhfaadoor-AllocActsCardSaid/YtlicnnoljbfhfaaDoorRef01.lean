import Derived.Test.YtlicnnoljbfhfaaDoorTb
import Derived.Test.YtlicnnoljbfhfaaDoorSxZ

namespace Yard
open Go Go.Sx Go.Proofs
set_option linter.unusedVariables false
set_option linter.unusedSimpArgs false
set_option maxRecDepth 4000

def restC : Ctr := pureC (Int × Int) (fun x => I64 x.1 ∧ 1 ≤ x.2 ∧ x.2 ≤ 1000000) (fun x => [.int .i64 x.1, .int .i64 x.2]) (fun x => .int .i64 (x.1 % x.2))

theorem restV : (∀ (x : Int × Int), I64 x.1 ∧ (1 : Int) ≤ x.2 ∧ x.2 ≤ (1000000 : Int) → x.2 ≠ (0 : Int) ∧ ∀ (n : Int), n = x.1.tmod x.2 → I64 (n + x.2) ∧ x.2 ≠
 (0 : Int) ∧ ∀ (n_1 : Int), n_1 = (n + x.2).tmod x.2 → Exx Unit fun y => ((Tr 1 (n_1 = x.1 % x.2) ∧ True) ∧ true = true ∧ True) ∧ True) = (fnVC tb [] Tryd.f13
 restC (fun _ => {}) (fun _ => none)) := by kernel_rfl

theorem rest_ok : SpecOk Tryd.prog 13 (specOf restC) := by
  refine specOk mixed tb_ok SPok.nil Tryd.func13 (by decide) (pureC_ok fun _ => rfl) (an := (fun _ => {})) (σ := (fun _ => none)) ?_
  rw [← restV]
  simp (maxSteps := 10000000) only [and_false, false_and, false_or, or_false, bOf_true, bOf_false, true_bOf, false_bOf, Exx, int_ite, merge_o, Tr_eq, true_and, and_true, exists_const, forall_const, implies_true, forall_eq, exists_eq, exists_eq', exists_eq_left, exists_eq_left', exists_eq_right, Prod.exists, Prod.forall, and_assoc, exists_and_left, BC_iff, Bool.not_eq_true', Bool.not_eq_false', decide_eq_true_eq, decide_eq_false_iff_not, I64, nat_cast_inj, Int.toNat_natCast, nats_iff, nats_iff', ints_iff, ints_iff', natss_iff, natss_iff', nilnil, litL_eq, str_inj, str_append, str_length, str_getD, str_take, lit1_iff, one_iff, two_iff, one_get, Nat.zero_add, Nat.sub_zero, Nat.reduceMul, Nat.reduceDiv, Nat.reduceAdd, Int.reduceToNat, Nat.not_lt_zero, if_false, if_true, Nat.le_refl, List.length_singleton, List.length_cons, List.length_nil, Bool.false_eq_true, not_true_eq_false, false_implies, not_false_eq_true, Prod.mk.injEq]
  rintro a n ⟨h1, h2, h3, h4⟩
  have hb := Int.tmod_lt_of_pos a (b := n) (by omega)
  have hb' : -n < a.tmod n := Int.lt_tmod_of_pos a (by omega)
  refine ⟨by omega, by omega, by omega, by omega, ?_⟩
  rw [Int.tmod_eq_emod_of_nonneg (by omega), Int.add_emod_right, Int.tmod_eq_emod]
  split
  · simp
  · rename_i h
    have : ((n.natAbs : Nat) : Int) = n := by omega
    rw [this]; simp

end Yard
