import Derived.Test.YtkdppdofkkakaaaGreatDoorCrc
import Derived.Test.YtkdppdofkkakaaaGreatDoorNodeMath
import Derived.Test.YtkdppdofkkakaaaGreatDoorSlotInv

namespace Yard
open Go Go.Sx Go.Proofs
set_option linter.unusedVariables false
set_option linter.unusedSimpArgs false
set_option maxRecDepth 4000

end Yard


namespace Yard
open Go Go.Sx Go.Proofs
set_option linter.unusedVariables false
set_option linter.unusedSimpArgs false
set_option maxRecDepth 4000
set_option maxHeartbeats 4000000

def refRightLA (n : NodeT) (p : Bool) : LA := { T := Nat × Bool, F := fun s => frm 50 [(1, .ptr 1 [] 0), (4, .bool s.2), (5, i64 (s.1 : Nat))], H := fun s => [.fence, .cells 79 (nodeV n)] }
def refNodeRightC : Ctr := nodeRightC
theorem refNodeRightV : (
 let q1 : Prop := true = true ∧ NilNil ∧ (0 : Nat) = 0; ∀ (x : NodeT), 
 let q2 : Prop := Tr 1 (x.e.slot = x.e.slot) ∧ Tr 1 (x.e.gen = x.e.gen) ∧ Tr 1 (x.e.key = x.e.key) ∧ Tr 1 (x.e.value = x.e.value) ∧ ((1 : Nat) = 1 ∧ x.kids.length = x.kids.length ∧ ∀ (i : Nat), i < x.kids.length → [AV.int .i64 (x.kids.getD i 0)] = [AV.int .i64 (x.kids.getD i 0)]) ∧ True; 
 let q3 : Prop := true = true ∧ ((79 : Nat) = (79 : TypeId) ∧ q2) ∧ True; 
 let q7 : Prop := Exx (Nat × Bool → Prop) fun I => Exx (Nat × Bool → Nat) fun m => (Exx (Nat × Bool) fun t => I t ∧ Tr 1 (q1 ∧ Tr 2 (false = t.2 ∧ Tr 1 ((0 : Int) = (↑t.1 : Int)) ∧ Tr 44 True)) ∧ q3) ∧ ∀ (t : Nat × Bool), 
 let q4 : Prop := (↑t.1 : Int) < (↑x.kids.length : Int); 
 let q5 : Int := (↑t.1 : Int) + 1; 
 let q6 : Prop := Exx Unit fun y => ((t.2 = decide (nodeOk x) ∧ True) ∧ true = true ∧ True) ∧ True; I t → BC (decide q4) (BC t.2 (((0 : Int) ≤ (↑t.1 : Int) ∧ q4) ∧ Exx Int fun x_1 => ((Tr 1 (x.kids.getD (↑t.1 : Int).toNat 0 = x_1) ∧ True) ∧ true = true ∧ True) ∧ (-9223372036854775808 ≤ x_1 ∧ x_1 ≤ (9223372036854775807 : Int)) ∧ ∀ (y : Unit), True → I64 q5 ∧ Exx (Nat × Bool) fun t' => (I t' ∧ m t' < m t) ∧ Tr 1 (q1 ∧ Tr 2 (decide ((2 : Int) ≤ x_1 ∧ x_1 ≤ (3071 : Int)) = t'.snd ∧ Tr 1 (q5 = (↑t'.fst : Int)) ∧ Tr 44 True)) ∧ true = true ∧ ((79 : TypeId) = 79 ∧ q2) ∧ True) q6) q6; NodeI x → BC (decide ((0 : Int) ≤ x.e.slot)) (BC (decide (x.e.slot ≤ (1791 : Int))) (BC (decide ((1 : Int) ≤ x.e.gen)) (BC (decide (x.e.gen ≤ (4294967295 : Int))) (Exx (Nat × Bool → Prop) fun I => Exx (Nat × Bool → Nat) fun m => (Exx (Nat × Bool) fun t => I t ∧ Tr 1 (q1 ∧ Tr 2 (decide ((↑x.kids.length : Int) ≤ (12 : Int)) = t.2 ∧ Tr 1 ((0 : Int) = (↑t.1 : Int)) ∧ Tr 44 True)) ∧ q3) ∧ ∀ (t : Nat × Bool), 
 let q8 : Prop := (↑t.1 : Int) < (↑x.kids.length : Int); 
 let q9 : Int := (↑t.1 : Int) + 1; 
 let q10 : Prop := Exx Unit fun y => ((t.2 = decide (nodeOk x) ∧ True) ∧ true = true ∧ True) ∧ True; I t → BC (decide q8) (BC t.2 (((0 : Int) ≤ (↑t.1 : Int) ∧ q8) ∧ Exx Int fun x_1 => ((Tr 1 (x.kids.getD (↑t.1 : Int).toNat 0 = x_1) ∧ True) ∧ true = true ∧ True) ∧ (-9223372036854775808 ≤ x_1 ∧ x_1 ≤ (9223372036854775807 : Int)) ∧ ∀ (y : Unit), True → I64 q9 ∧ Exx (Nat × Bool) fun t' => (I t' ∧ m t' < m t) ∧ Tr 1 (q1 ∧ Tr 2 (decide ((2 : Int) ≤ x_1 ∧ x_1 ≤ (3071 : Int)) = t'.snd ∧ Tr 1 (q9 = (↑t'.fst : Int)) ∧ Tr 44 True)) ∧ true = true ∧ ((79 : TypeId) = 79 ∧ q2) ∧ True) q10) q10) q7) q7) q7) q7) = (fnVC tb [(70, specOf block08C)] Tryz.f29 refNodeRightC (fun x => { loops := [(4, refRightLA x true)] }) (fun _ => none)) := by kernel_rfl 

theorem refNodeRight_ok : SpecOk Tryz.prog 29 (specOf refNodeRightC) := by
  refine specOk mixed tb_ok (SPok.cons block08_ok SPok.nil) Tryz.func29 (by decide) (pureC_ok fun _ => rfl) (Eq.mp refNodeRightV ?_)
  simp (maxSteps := 10000000) only [std, stdU, stdV, Exx, I64, Nat.reduceMul, Nat.reduceDiv, Nat.reduceAdd, Int.reduceToNat]
  intro n h
  have hK := h.2.2
  have tail : ∀ b0 : Bool, (b0 = true ↔ (0 ≤ n.e.slot ∧ n.e.slot ≤ 1791 ∧ 1 ≤ n.e.gen ∧ n.e.gen ≤ 4294967295 ∧ n.kids.length ≤ 12)) → ∃ x : Nat × Bool → Prop, (∃ a b, x (a, b) ∧ b0 = b ∧ (0 : Int) = ((a : Nat) : Int)) ∧ ∃ x_1 : Nat × Bool → Nat, ∀ (a : Nat) (b : Bool), x (a, b) → ((a : Int) < (n.kids.length : Int) → (b = true → 0 ≤ (a : Int) ∧ (a : Int) < (n.kids.length : Int) ∧ -9223372036854775808 ≤ n.kids.getD a 0 ∧ n.kids.getD a 0 ≤ 9223372036854775807 ∧ -9223372036854775808 ≤ (a : Int) + 1 ∧ (a : Int) + 1 ≤ 9223372036854775807 ∧ ∃ a_4 b_1, x (a_4, b_1) ∧ x_1 (a_4, b_1) < x_1 (a, b) ∧ decide (2 ≤ n.kids.getD a 0 ∧ n.kids.getD a 0 ≤ 3071) = b_1 ∧ (a : Int) + 1 = ((a_4 : Nat) : Int)) ∧ (b = false → b = decide (nodeOk n))) ∧ (¬ (a : Int) < (n.kids.length : Int) → b = decide (nodeOk n)) := fun b0 hb0 => by
    refine ⟨fun s => s.1 ≤ n.kids.length ∧ (s.2 = true ↔ (b0 = true ∧ ∀ j, j < s.1 → ¬ kidBad (n.kids.getD j 0))), ⟨0, b0, ⟨Nat.zero_le _, ⟨fun k => ⟨k, fun j hj => absurd hj (Nat.not_lt_zero _)⟩, fun k => k.1⟩⟩, rfl, rfl⟩, fun s => n.kids.length - s.1, fun a b hab => ⟨fun hlt => ⟨fun hb => ?_, fun hb => ?_⟩, fun hge => ?_⟩⟩
    · obtain ⟨q1, q2⟩ := hab
      simp only at q1 q2
      have hg := kids_get h.2 a
      have hq := q2.1 hb
      refine ⟨by omega, hlt, hg.1, hg.2, by omega, by omega, a + 1, _, ⟨by simp only; omega, ?_⟩, by simp only; omega, rfl, by omega⟩
      simp only [decide_eq_true_eq]
      refine ⟨fun k => ⟨hq.1, fun j hj => ?_⟩, fun k => ?_⟩
      · by_cases e : j = a
        · subst e; unfold kidBad; omega
        · exact hq.2 j (by omega)
      · have := k.2 a (by omega)
        unfold kidBad at this; omega
    · obtain ⟨q1, q2⟩ := hab
      simp only at q1 q2
      subst hb
      refine (decide_eq_false fun k => ?_).symm
      obtain ⟨h1, h2, h3, h4, h5, h6⟩ := k
      have := q2.2 ⟨hb0.2 ⟨h1, by omega, h3, h4, h5⟩, fun j hj => h6 _ (by rw [List.getD_eq_getElem?_getD, List.getElem?_eq_getElem (by omega)]; exact List.getElem_mem _)⟩
      cases this
    · obtain ⟨q1, q2⟩ := hab
      simp only at q1 q2
      rw [Bool.eq_iff_iff, decide_eq_true_eq, q2, hb0]
      refine ⟨fun ⟨⟨h1, h2, h3, h4, h5⟩, k⟩ => ⟨h1, by omega, h3, h4, h5, fun c hc => ?_⟩, fun ⟨h1, h2, h3, h4, h5, h6⟩ => ⟨⟨h1, by omega, h3, h4, h5⟩, fun j hj => h6 _ (by rw [List.getD_eq_getElem?_getD, List.getElem?_eq_getElem (by omega)]; exact List.getElem_mem _)⟩⟩
      obtain ⟨j, hj, e⟩ := List.mem_iff_getElem.1 hc
      have := k j (by omega)
      rw [List.getD_eq_getElem?_getD, List.getElem?_eq_getElem hj] at this
      rw [← e]; exact this
  exact ⟨fun h1 => ⟨fun h2 => ⟨fun h3 => ⟨fun h4 => tail _ (by rw [decide_eq_true_eq]; omega), fun h4 => tail _ (by simp; omega)⟩, fun h3 => tail _ (by simp; omega)⟩, fun h2 => tail _ (by simp; omega)⟩, fun h1 => tail _ (by simp; omega)⟩

end Yard


namespace Yard
open Go Go.Sx Go.Proofs
set_option linter.unusedVariables false
set_option linter.unusedSimpArgs false
set_option maxRecDepth 4000
set_option maxHeartbeats 4000000

end Yard
