import Derived.Test.YtkdppdofkkakaaaGreatDoorRefPage
import Derived.Test.YtkdppdofkkakaaaGreatDoorTreeList

namespace Yard
open Go Go.Sx Go.Proofs
set_option linter.unusedVariables false
set_option linter.unusedSimpArgs false
set_option maxRecDepth 4000
set_option maxHeartbeats 4000000

end Yard


namespace Yard
open Go Go.Sx Go.Proofs
set_option linter.unusedVariables false
set_option linter.unusedSimpArgs false
set_option maxRecDepth 4000
set_option maxHeartbeats 4000000

end Yard


namespace Yard
open Go Go.Sx Go.Proofs
set_option linter.unusedVariables false
set_option linter.unusedSimpArgs false
set_option maxRecDepth 4000
set_option maxHeartbeats 4000000

def refIntsC : Ctr := pureC (List Int × List Int) (fun x => KidsI x.1 ∧ KidsI x.2) (fun x => [kidsA x.1, kidsA x.2]) (fun x => .bool (decide (x.1 = x.2)))
def refIntsLA (x : List Int × List Int) : LA := { T := Nat, F := fun i => frm 26 [(0, kidsA x.1), (1, kidsA x.2), (5, i64 (i : Nat))], H := fun _ => [.fence] }
theorem refIntsV : (∀ (x : List Int × List Int), 
 let q1 : Bool := decide (x.1 = x.2); 
 let q2 : Prop := Exx Unit fun y => ((false = q1 ∧ True) ∧ true = true ∧ True) ∧ True; 
 let q4 : Prop := (1 : Nat) = 1 ∧ x.1.length = x.1.length ∧ ∀ (i : Nat), 
 let q3 : List AV := [AV.int .i64 (x.1.getD i 0)]; i < x.1.length → q3 = q3; 
 let q6 : Prop := (1 : Nat) = 1 ∧ x.2.length = x.2.length ∧ ∀ (i : Nat), 
 let q5 : List AV := [AV.int .i64 (x.2.getD i 0)]; i < x.2.length → q5 = q5; KidsI x.1 ∧ KidsI x.2 → BC (!decide ((↑x.1.length : Int) = (↑x.2.length : Int))) q2 (Exx (Nat → Prop) fun I => Exx (Nat → Nat) fun m => (Exx Nat fun t => I t ∧ (q4 ∧ q6 ∧ Tr 3 (Tr 1 ((0 : Int) = (↑t : Int)) ∧ Tr 20 True)) ∧ true = true ∧ True) ∧ ∀ (t : Nat), 
 let q7 : Prop := (↑t : Int) < (↑x.1.length : Int); 
 let q8 : Int := x.1.getD (↑t : Int).toNat 0; 
 let q9 : Int := x.2.getD (↑t : Int).toNat 0; 
 let q10 : Int := (↑t : Int) + 1; I t → BC (decide q7) (((0 : Int) ≤ (↑t : Int) ∧ q7) ∧ ((0 : Int) ≤ (↑t : Int) ∧ (↑t : Int) < (↑x.2.length : Int)) ∧ BC (!decide (q8 = q9)) q2 (I64 q10 ∧ Exx Nat fun t' => (I t' ∧ m t' < m t) ∧ (q4 ∧ q6 ∧ Tr 3 (Tr 1 (q10 = (↑t' : Int)) ∧ Tr 20 True)) ∧ true = true ∧ True)) (Exx Unit fun y => ((true = q1 ∧ True) ∧ true = true ∧ True) ∧ True))) = (fnVC tb [] Tryz.f19 refIntsC (fun x => { loops := [(4, refIntsLA x)] }) (fun _ => none)) := by kernel_rfl 

theorem refInts_ok : SpecOk Tryz.prog 19 (specOf refIntsC) := by
  refine specOk mixed tb_ok SPok.nil Tryz.func19 (by decide) (pureC_ok fun _ => rfl) (Eq.mp refIntsV ?_)
  simp (maxSteps := 10000000) only [std, stdU, stdV, Exx, I64, Nat.reduceMul, Nat.reduceDiv, Nat.reduceAdd, Int.reduceToNat]
  rintro l q ⟨⟨h1, h2⟩, h3, h4⟩
  refine ⟨fun h => (decide_eq_false (fun e => h (by rw [e]))).symm, fun he => ⟨fun i => i ≤ l.length ∧ ∀ j, j < i → l.getD j 0 = q.getD j 0, ⟨0, ⟨by omega, fun j hj => absurd hj (Nat.not_lt_zero _)⟩, rfl⟩, fun i => l.length - i, fun i hi => ⟨fun hlt => ⟨by omega, by omega, by omega, by omega, fun h => (decide_eq_false (fun e => h (by rw [e]))).symm, fun h => ⟨by omega, by omega, i + 1, ⟨by omega, fun j hj => ?_⟩, by simp only; omega, by omega⟩⟩, fun hge => (decide_eq_true (list_eq_of 0 he fun j hj => hi.2 j (by omega))).symm⟩⟩⟩
  by_cases e : j = i
  · subst e; exact h
  · exact hi.2 j (by omega)

def refSameC : Ctr := pureC (NodeT × NodeT) (fun x => NodeI x.1 ∧ NodeI x.2) (fun x => [nodeA x.1, nodeA x.2]) (fun x => .bool (decide (x.1.e = x.2.e ∧ x.1.kids = x.2.kids)))
theorem refSameV : (∀ (x : NodeT × NodeT), 
 let q1 : Bool := decide (x.1.e = x.2.e ∧ x.1.kids = x.2.kids); NodeI x.1 ∧ NodeI x.2 → (Tr 2 True ∧ Tr 2 True) ∧ (Tr 2 True ∧ Tr 2 True) ∧ ∀ (b : Bool), (b = true ↔ (x.1.e.slot = x.2.e.slot ∧ x.1.e.gen = x.2.e.gen ∧ True) ∧ x.1.e.key = x.2.e.key ∧ x.1.e.value = x.2.e.value ∧ True) → BC b (Exx (List Int × List Int) fun x_1 => (((x.1.kids.length = x_1.1.length ∧ ∀ (i : Nat), i < x_1.1.length → [AV.int .i64 (x.1.kids.getD i 0)] = [AV.int .i64 (x_1.1.getD i 0)]) ∧ (x.2.kids.length = x_1.2.length ∧ ∀ (i : Nat), i < x_1.2.length → [AV.int .i64 (x.2.kids.getD i 0)] = [AV.int .i64 (x_1.2.getD i 0)]) ∧ True) ∧ true = true ∧ True) ∧ (KidsI x_1.1 ∧ KidsI x_1.2) ∧ ∀ (y : Unit), True → Exx Unit fun y => ((decide (x_1.1 = x_1.2) = q1 ∧ True) ∧ true = true ∧ True) ∧ True) (Exx Unit fun y => ((false = q1 ∧ True) ∧ true = true ∧ True) ∧ True)) = (fnVC tb [(19, specOf refIntsC)] Tryz.f32 refSameC (fun _ => {}) (fun _ => none)) := by kernel_rfl 

theorem refSame_ok : SpecOk Tryz.prog 32 (specOf refSameC) := by
  refine specOk mixed tb_ok (SPok.cons refInts_ok SPok.nil) Tryz.func32 (by decide) (pureC_ok fun _ => rfl) (Eq.mp refSameV ?_)
  simp (maxSteps := 10000000) only [std, stdU, stdV, Exx, I64, Nat.reduceMul, Nat.reduceDiv, Nat.reduceAdd, Int.reduceToNat]
  rintro a b ⟨ha, hb⟩ c hc
  have he : c = true ↔ a.e = b.e := by
    rw [hc]
    refine ⟨fun ⟨h1, h2, h3, h4⟩ => ?_, fun h => by rw [h]; exact ⟨rfl, rfl, rfl, rfl⟩⟩
    obtain ⟨⟨_, _, _, _⟩, _⟩ := a
    obtain ⟨⟨_, _, _, _⟩, _⟩ := b
    simp only at h1 h2 h3 h4 ⊢
    rw [h1, h2, h3, h4]
  refine ⟨fun h => ⟨ha.2, hb.2, decide_eq_decide.2 ⟨fun k => ⟨he.1 h, k⟩, fun k => k.2⟩⟩, fun h => (decide_eq_false fun k => ?_).symm⟩
  have := he.2 k.1
  rw [h] at this; cases this

def EntsI (l : List EntT) : Prop := (∀ x ∈ l, EntI x) ∧ l.length ≤ 1000000
theorem EntsI.take {l : List EntT} (h : EntsI l) (n : Nat) : EntsI (l.take n) := ⟨fun x hx => h.1 x (List.mem_of_mem_take hx), by rw [List.length_take]; have := h.2; omega⟩
end Yard
