import Derived.Test.YtlicnnoljbfhfaaDoorBits2

namespace Yard
open Go Go.Sx Go.Proofs
set_option linter.unusedVariables false
set_option linter.unusedSimpArgs false
set_option maxRecDepth 4000

def IntL (l : List Int) : Prop := (∀ x ∈ l, I64 x) ∧ l.length ≤ 9223372036854775807
theorem Ints.intL {l : List Int} (h : Ints l) : IntL l := ⟨h.1, by have := h.2; omega⟩
def smallC : Ctr := pureC (List Int × Int) (fun x => x.1.length ≤ 9223372036854775807) (fun x => [intA x.1, i64 x.2]) (fun x => .bool (decide ((x.1.length : Int) ≤ x.2)))
def refSizeC : Ctr := pureC Int I64 (fun n => [i64 n]) (fun n => i64 (clampN n : Nat))
def refIntsC : Ctr := pureC (List Int × List Int) (fun x => IntL x.1 ∧ IntL x.2) (fun x => [intA x.1, intA x.2]) (fun x => .bool (decide (x.1 = x.2)))
def refIntsLA (x : List Int × List Int) : LA := { T := Nat, F := fun i => frm 26 [(0, intA x.1), (1, intA x.2), (5, i64 (i : Nat))], H := fun _ => [.fence] }
def refHasC : Ctr := pureC (List Int × Int) (fun x => IntL x.1 ∧ I64 x.2) (fun x => [intA x.1, i64 x.2]) (fun x => .bool (decide (x.2 ∈ x.1)))
def refHasLA (x : List Int × Int) : LA := { T := Nat, F := fun i => frm 18 [(0, intA x.1), (1, i64 x.2), (5, i64 (i : Nat))], H := fun _ => [.fence] }

theorem refIntsV : (∀ (x : List Int × List Int), IntL x.1 ∧ IntL x.2 → BC (!decide ((↑x.1.length : Int) = (↑x.2.length : Int))) (Exx Unit fun y => ((false =
 decide (x.1 = x.2) ∧ True) ∧ true = true ∧ True) ∧ True) (Exx (Nat → Prop) fun I => Exx (Nat → Nat) fun m => (Exx Nat fun t => I t ∧ (((1 : Nat) = 1 ∧
 x.1.length = x.1.length ∧ ∀ (i : Nat), i < x.1.length → [AV.int .i64 (x.1.getD i 0)] = [AV.int .i64 (x.1.getD i 0)]) ∧ ((1 : Nat) = 1 ∧ x.2.length = x.2.length
 ∧ ∀ (i : Nat), i < x.2.length → [AV.int .i64 (x.2.getD i 0)] = [AV.int .i64 (x.2.getD i 0)]) ∧ Tr 3 (Tr 1 ((0 : Int) = (↑t : Int)) ∧ Tr 20 True)) ∧ true = true
 ∧ True) ∧ ∀ (t : Nat), I t → BC (decide ((↑t : Int) < (↑x.1.length : Int))) (((0 : Int) ≤ (↑t : Int) ∧ (↑t : Int) < (↑x.1.length : Int)) ∧ ((0 : Int) ≤ (↑t :
 Int) ∧ (↑t : Int) < (↑x.2.length : Int)) ∧ BC (!decide (x.1.getD (↑t : Int).toNat 0 = x.2.getD (↑t : Int).toNat 0)) (Exx Unit fun y => ((false = decide (x.1 =
 x.2) ∧ True) ∧ true = true ∧ True) ∧ True) (I64 ((↑t : Int) + 1) ∧ Exx Nat fun t' => (I t' ∧ m t' < m t) ∧ (((1 : Nat) = 1 ∧ x.1.length = x.1.length ∧ ∀ (i :
 Nat), i < x.1.length → [AV.int .i64 (x.1.getD i 0)] = [AV.int .i64 (x.1.getD i 0)]) ∧ ((1 : Nat) = 1 ∧ x.2.length = x.2.length ∧ ∀ (i : Nat), i < x.2.length →
 [AV.int .i64 (x.2.getD i 0)] = [AV.int .i64 (x.2.getD i 0)]) ∧ Tr 3 (Tr 1 ((↑t : Int) + 1 = (↑t' : Int)) ∧ Tr 20 True)) ∧ true = true ∧ True)) (Exx Unit fun y
 => ((true = decide (x.1 = x.2) ∧ True) ∧ true = true ∧ True) ∧ True))) = (fnVC tb [] Tryd.f22 refIntsC (fun x => { loops := [(4, refIntsLA x)] }) (fun _ => none)) := by kernel_rfl 

theorem refInts_ok : SpecOk Tryd.prog 22 (specOf refIntsC) := by
  refine specOk mixed tb_ok SPok.nil Tryd.func22 (by decide) (pureC_ok fun _ => rfl) (an := (fun x => { loops := [(4, refIntsLA x)] })) (σ := (fun _ => none)) ?_
  rw [← refIntsV]
  simp (maxSteps := 10000000) only [and_false, false_and, false_or, or_false, bOf_true, bOf_false, true_bOf, false_bOf, Exx, int_ite, merge_o, Tr_eq, true_and, and_true, exists_const, forall_const, implies_true, forall_eq, exists_eq, exists_eq', exists_eq_left, exists_eq_left', exists_eq_right, Prod.exists, Prod.forall, and_assoc, exists_and_left, BC_iff, Bool.not_eq_true', Bool.not_eq_false', decide_eq_true_eq, decide_eq_false_iff_not, I64, nat_cast_inj, Int.toNat_natCast, nats_iff, nats_iff', ints_iff, ints_iff', natss_iff, natss_iff', nilnil, litL_eq, str_inj, str_append, str_length, str_getD, str_take, lit1_iff, one_iff, two_iff, one_get, Nat.zero_add, Nat.sub_zero, Nat.reduceMul, Nat.reduceDiv, Nat.reduceAdd, Int.reduceToNat, Nat.not_lt_zero, if_false, if_true, Nat.le_refl, List.length_singleton, List.length_cons, List.length_nil, Bool.false_eq_true, not_true_eq_false, false_implies, not_false_eq_true, Prod.mk.injEq]
  rintro l q ⟨⟨h1, h2⟩, h3, h4⟩
  refine ⟨fun h => (decide_eq_false (fun e => h (by rw [e]))).symm, fun he => ⟨fun i => i ≤ l.length ∧ ∀ j, j < i → l.getD j 0 = q.getD j 0, ⟨0, ⟨by omega, fun j hj => absurd hj (Nat.not_lt_zero _)⟩, rfl⟩, fun i => l.length - i, fun i hi => ⟨fun hlt => ⟨by omega, by omega, by omega, by omega, fun h => (decide_eq_false (fun e => h (by rw [e]))).symm, fun h => ⟨by omega, by omega, i + 1, ⟨by omega, fun j hj => ?_⟩, by simp only; omega, by omega⟩⟩, fun hge => (decide_eq_true (list_ext_getD 0 he fun j hj => hi.2 j (by omega))).symm⟩⟩⟩
  by_cases e : j = i
  · subst e; exact h
  · exact hi.2 j (by omega)

theorem refHasV : (∀ (x : List Int × Int), IntL x.1 ∧ I64 x.2 → Exx (Nat → Prop) fun I => Exx (Nat → Nat) fun m => (Exx Nat fun t => I t ∧ (((1 : Nat) = 1 ∧
 x.1.length = x.1.length ∧ ∀ (i : Nat), i < x.1.length → [AV.int .i64 (x.1.getD i 0)] = [AV.int .i64 (x.1.getD i 0)]) ∧ Tr 1 (x.2 = x.2) ∧ Tr 3 (Tr 1 ((0 : Int)
 = (↑t : Int)) ∧ Tr 12 True)) ∧ true = true ∧ True) ∧ ∀ (t : Nat), I t → BC (decide ((↑t : Int) < (↑x.1.length : Int))) (((0 : Int) ≤ (↑t : Int) ∧ (↑t : Int) <
 (↑x.1.length : Int)) ∧ BC (decide (x.1.getD (↑t : Int).toNat 0 = x.2)) (Exx Unit fun y => ((true = decide (x.2 ∈ x.1) ∧ True) ∧ true = true ∧ True) ∧ True) (I64
 ((↑t : Int) + 1) ∧ Exx Nat fun t' => (I t' ∧ m t' < m t) ∧ (((1 : Nat) = 1 ∧ x.1.length = x.1.length ∧ ∀ (i : Nat), i < x.1.length → [AV.int .i64 (x.1.getD i
 0)] = [AV.int .i64 (x.1.getD i 0)]) ∧ Tr 1 (x.2 = x.2) ∧ Tr 3 (Tr 1 ((↑t : Int) + 1 = (↑t' : Int)) ∧ Tr 12 True)) ∧ true = true ∧ True)) (Exx Unit fun y =>
 ((false = decide (x.2 ∈ x.1) ∧ True) ∧ true = true ∧ True) ∧ True)) = (fnVC tb [] Tryd.f14 refHasC (fun x => { loops := [(2, refHasLA x)] }) (fun _ => none)) := by kernel_rfl 

theorem refHas_ok : SpecOk Tryd.prog 14 (specOf refHasC) := by
  refine specOk mixed tb_ok SPok.nil Tryd.func14 (by decide) (pureC_ok fun _ => rfl) (an := (fun x => { loops := [(2, refHasLA x)] })) (σ := (fun _ => none)) ?_
  rw [← refHasV]
  simp (maxSteps := 10000000) only [and_false, false_and, false_or, or_false, bOf_true, bOf_false, true_bOf, false_bOf, Exx, int_ite, merge_o, Tr_eq, true_and, and_true, exists_const, forall_const, implies_true, forall_eq, exists_eq, exists_eq', exists_eq_left, exists_eq_left', exists_eq_right, Prod.exists, Prod.forall, and_assoc, exists_and_left, BC_iff, Bool.not_eq_true', Bool.not_eq_false', decide_eq_true_eq, decide_eq_false_iff_not, I64, nat_cast_inj, Int.toNat_natCast, nats_iff, nats_iff', ints_iff, ints_iff', natss_iff, natss_iff', nilnil, litL_eq, str_inj, str_append, str_length, str_getD, str_take, lit1_iff, one_iff, two_iff, one_get, Nat.zero_add, Nat.sub_zero, Nat.reduceMul, Nat.reduceDiv, Nat.reduceAdd, Int.reduceToNat, Nat.not_lt_zero, if_false, if_true, Nat.le_refl, List.length_singleton, List.length_cons, List.length_nil, Bool.false_eq_true, not_true_eq_false, false_implies, not_false_eq_true, Prod.mk.injEq]
  rintro l a ⟨⟨h1, h2⟩, h3⟩
  refine ⟨fun i => i ≤ l.length ∧ ∀ j, j < i → l.getD j 0 ≠ a, ⟨0, ⟨by omega, fun j hj => absurd hj (Nat.not_lt_zero _)⟩, rfl⟩, fun i => l.length - i, fun i hi => ⟨fun hlt => ⟨by omega, by omega, fun h => (decide_eq_true ?_).symm, fun h => ⟨by omega, by omega, i + 1, ⟨by omega, fun j hj => ?_⟩, by simp only; omega, by omega⟩⟩, fun hge => (decide_eq_false fun hm => ?_).symm⟩⟩
  · rw [← h, List.getD_eq_getElem?_getD, List.getElem?_eq_getElem (by omega)]; exact List.getElem_mem _
  · by_cases e : j = i
    · subst e; exact h
    · exact hi.2 j (by omega)
  · obtain ⟨j, hj, e⟩ := List.mem_iff_getElem.1 hm
    refine hi.2 j (by omega) ?_
    rw [List.getD_eq_getElem?_getD, List.getElem?_eq_getElem hj]; exact e

def refDropC : Ctr := rowJC (List Int × Int) (fun x => Ints x.1 ∧ I64 x.2) (fun x => [intA x.1, i64 x.2]) 3 .i64 (fun x => x.1.filter fun y => y != x.2) (fun _ r => r)
def refDropLA (x : List Int × Int) : LA := { T := Nat × Nat × List Int, F := fun s => frm 27 [(0, intA x.1), (1, i64 x.2), (5, .sl 1 [] 0 1 0 s.2.2.length s.2.1), (6, i64 (s.1 : Nat))], H := fun s => [.fence, .row 3 1 s.2.1 s.2.2.length (fun j => [i64 (s.2.2.getD j 0)])] }

theorem refDropV : (∀ (x : List Int × Int), Ints x.1 ∧ I64 x.2 → Exx (Nat × Nat × List Int → Prop) fun I => Exx (Nat × Nat × List Int → Nat) fun m => (Exx (Nat
 × Nat × List Int) fun t => I t ∧ (((1 : Nat) = 1 ∧ x.1.length = x.1.length ∧ ∀ (i : Nat), i < x.1.length → [AV.int .i64 (x.1.getD i 0)] = [AV.int .i64 (x.1.getD
 i 0)]) ∧ Tr 1 (x.2 = x.2) ∧ Tr 3 ((t.2.2.length = 0 ∧ t.2.1 = 0) ∧ Tr 1 ((0 : Int) = (↑t.1 : Int)) ∧ Tr 20 True)) ∧ true = true ∧ (t.2.1 = 0 ∧ t.2.2.length = 0)
 ∧ True) ∧ ∀ (t : Nat × Nat × List Int), I t → BC (decide ((↑t.1 : Int) < (↑x.1.length : Int))) (((0 : Int) ≤ (↑t.1 : Int) ∧ (↑t.1 : Int) < (↑x.1.length : Int))
 ∧ BC (!decide (x.1.getD (↑t.1 : Int).toNat 0 = x.2)) (((0 : Int) ≤ (↑t.1 : Int) ∧ (↑t.1 : Int) < (↑x.1.length : Int)) ∧ (0 : Nat) + (1 : Nat) ≤ (1 : Nat) ∧ true
 = true ∧ (t.2.2.length ≤ t.2.2.length ∧ t.2.1 = t.2.1) ∧ (t.2.2.length + 1 ≤ 9223372036854775807 ∧ (t.2.2.length + 1) * 8 ≤ 140737488355328) ∧ ∀ (cap : Nat),
 t.2.2.length + 1 ≤ cap ∧ cap ≤ 9223372036854775807 → I64 ((↑t.1 : Int) + 1) ∧ Exx (Nat × Nat × List Int) fun t' => (I t' ∧ m t' < m t) ∧ (((1 : Nat) = 1 ∧
 x.1.length = x.1.length ∧ ∀ (i : Nat), i < x.1.length → [AV.int .i64 (x.1.getD i 0)] = [AV.int .i64 (x.1.getD i 0)]) ∧ Tr 1 (x.2 = x.2) ∧ Tr 3 ((true = true ∧
 NilNil ∧ (0 : Nat) = 0 ∧ (1 : Nat) = 1 ∧ (0 : Nat) = 0 ∧ t.2.2.length + 1 = t'.snd.2.length ∧ cap = t'.snd.1) ∧ Tr 1 ((↑t.1 : Int) + 1 = (↑t'.fst : Int)) ∧ Tr
 20 True)) ∧ true = true ∧ ((3 : TypeId) = 3 ∧ (1 : Nat) = 1 ∧ cap = t'.snd.1 ∧ t'.snd.2.length ≤ t.2.2.length + 1 ∧ ∀ (i : Nat), i < t'.snd.2.length → (if i <
 t.2.2.length then [AV.int .i64 (t.2.2.getD i 0)] else [AV.int .i64 (if 0 + (i - t.2.2.length) = 0 * 1 / 1 then x.1.getD (↑t.1 : Int).toNat 0 else 0)]) = [AV.int
 .i64 (t'.snd.2.getD i 0)]) ∧ True) (I64 ((↑t.1 : Int) + 1) ∧ Exx (Nat × Nat × List Int) fun t' => (I t' ∧ m t' < m t) ∧ (((1 : Nat) = 1 ∧ x.1.length =
 x.1.length ∧ ∀ (i : Nat), i < x.1.length → [AV.int .i64 (x.1.getD i 0)] = [AV.int .i64 (x.1.getD i 0)]) ∧ Tr 1 (x.2 = x.2) ∧ Tr 3 ((true = true ∧ NilNil ∧ (0 :
 Nat) = 0 ∧ (1 : Nat) = 1 ∧ (0 : Nat) = 0 ∧ t.2.2.length = t'.snd.2.length ∧ t.2.1 = t'.snd.1) ∧ Tr 1 ((↑t.1 : Int) + 1 = (↑t'.fst : Int)) ∧ Tr 20 True)) ∧ true
 = true ∧ ((3 : TypeId) = 3 ∧ (1 : Nat) = 1 ∧ t.2.1 = t'.snd.1 ∧ t'.snd.2.length ≤ t.2.2.length ∧ ∀ (i : Nat), i < t'.snd.2.length → [AV.int .i64 (t.2.2.getD i
 0)] = [AV.int .i64 (t'.snd.2.getD i 0)]) ∧ True)) (Exx Nat fun y => (((true = true ∧ NilNil ∧ (0 : Nat) = 0 ∧ (1 : Nat) = 1 ∧ (0 : Nat) = 0 ∧ t.2.2.length =
 (List.filter (fun y => y != x.2) x.1).length ∧ t.2.1 = y) ∧ True) ∧ true = true ∧ ((3 : TypeId) = 3 ∧ (1 : Nat) = 1 ∧ t.2.1 = y ∧ (List.filter (fun y => y !=
 x.2) x.1).length ≤ t.2.2.length ∧ ∀ (i : Nat), i < (List.filter (fun y => y != x.2) x.1).length → [AV.int .i64 (t.2.2.getD i 0)] = [AV.int .i64 ((List.filter
 (fun y => y != x.2) x.1).getD i 0)]) ∧ True) ∧ (List.filter (fun y => y != x.2) x.1).length ≤ y ∧ y ≤ 9223372036854775807)) = (fnVC tb [] Tryd.f48 refDropC (fun x => { loops := [(3, refDropLA x)] }) (fun _ => none)) := by kernel_rfl 

theorem refDrop_ok : SpecOk Tryd.prog 48 (specOf refDropC) := by
  refine specOk mixed tb_ok SPok.nil Tryd.func48 (by decide) (rowJC_ok fun _ _ _ => rfl) (an := (fun x => { loops := [(3, refDropLA x)] })) (σ := (fun _ => none)) ?_
  rw [← refDropV]
  simp (maxSteps := 10000000) only [and_false, false_and, false_or, or_false, bOf_true, bOf_false, true_bOf, false_bOf, Exx, int_ite, merge_o, Tr_eq, true_and, and_true, exists_const, forall_const, implies_true, forall_eq, exists_eq, exists_eq', exists_eq_left, exists_eq_left', exists_eq_right, Prod.exists, Prod.forall, and_assoc, exists_and_left, BC_iff, Bool.not_eq_true', Bool.not_eq_false', decide_eq_true_eq, decide_eq_false_iff_not, I64, nat_cast_inj, Int.toNat_natCast, nats_iff, nats_iff', ints_iff, ints_iff', natss_iff, natss_iff', nilnil, litL_eq, str_inj, str_append, str_length, str_getD, str_take, lit1_iff, one_iff, two_iff, one_get, Nat.zero_add, Nat.sub_zero, Nat.reduceMul, Nat.reduceDiv, Nat.reduceAdd, Int.reduceToNat, Nat.not_lt_zero, if_false, if_true, Nat.le_refl, List.length_singleton, List.length_cons, List.length_nil, Bool.false_eq_true, not_true_eq_false, false_implies, not_false_eq_true, Prod.mk.injEq]
  rintro l a ⟨⟨h1, h2⟩, h3⟩
  refine ⟨fun s => s.1 ≤ l.length ∧ s.2.2 = (l.take s.1).filter (fun y => y != a) ∧ s.2.2.length ≤ s.2.1 ∧ s.2.1 ≤ 9223372036854775807, ⟨0, 0, [], ⟨by simp, by simp, Nat.le_refl _, by simp⟩, rfl, rfl, rfl, rfl, rfl⟩, fun s => l.length - s.1, ?_⟩
  rintro i c m ⟨hi, hm, hc, hcm⟩
  simp only at hi hm hc hcm
  have hlen : m.length ≤ i := by
    have := List.length_filter_le (fun y => y != a) (l.take i)
    rw [← hm, List.length_take] at this; omega
  refine ⟨fun hlt => ⟨by omega, by omega, fun hne => ⟨by omega, by omega, by omega, by omega, ?_⟩, fun he => ?_⟩, fun hge => ?_⟩
  · rintro cap ⟨hc1, hc2⟩
    refine ⟨by omega, by omega, i + 1, cap, m ++ [l.getD i 0], ⟨by simp only; omega, ?_, by simpa using hc1, hc2⟩, by simp only; omega, by simp, rfl, by omega, rfl, by simp, fun j hj => ?_⟩
    · simp only
      rw [take_succ_getD 0 (by omega), List.filter_append, hm]
      have : ((l.getD i 0) != a) = true := by simpa using hne
      rw [List.filter_cons, if_pos this]; rfl
    · rw [appendI_getD]
      by_cases e : j < m.length
      · rw [if_pos e, if_pos e]
      · have : j - m.length = 0 := by simp at hj; omega
        rw [if_neg e, if_neg e, this]; rfl
  · refine ⟨by omega, by omega, i + 1, c, m, ⟨by simp only; omega, ?_, hc, hcm⟩, by simp only; omega, rfl, rfl, by omega, rfl, Nat.le_refl _, fun _ _ => rfl⟩
    simp only
    rw [take_succ_getD 0 (by omega), List.filter_append, ← hm]
    have : ((l.getD i 0) != a) = false := by rw [he]; simp
    rw [List.filter_cons, this, if_neg (by simp)]; simp
  · rw [show i = l.length by omega, List.take_length] at hm
    subst hm
    exact ⟨rfl, Nat.le_refl _, fun _ _ => rfl, hc, hcm⟩

def insI (l : List Int) (a : Int) : List Int := l.filter (fun y => decide (y ≤ a)) ++ a :: l.filter (fun y => !decide (y ≤ a))
def addI (l : List Int) (n a : Int) : List Int := if a < 0 ∨ n ≤ a ∨ a ∈ l then l else insI l a
def rowTau (args : List AV) (H : AH) : List Nat := match args with
  | .sl p _ _ _ _ _ _ :: _ => [p]
  | _ => []
def refAddI : Ctr2 where
  X := Nat × List Int × Int × Int
  conv := true
  tau := rowTau
  pre := fun x => Ints x.2.1 ∧ x.2.1.length ≤ x.1 ∧ x.1 ≤ 9223372036854775807 ∧ I64 x.2.2.1 ∧ I64 x.2.2.2 ∧ x.2.1.Pairwise (· < ·)
  args := fun x => [.sl 0 [] 0 1 0 x.2.1.length x.1, i64 x.2.2.1, i64 x.2.2.2]
  heap := fun x => [rowI 3 .i64 x.1 x.2.1]
  p := fun x => x.2.2.2 < 0 ∨ x.2.2.1 ≤ x.2.2.2 ∨ x.2.2.2 ∈ x.2.1
  a := { Y := Unit, Q := fun _ _ => True, res := fun x _ => .sl 0 [] 0 1 0 x.2.1.length x.1, its := fun x _ => [rowI 3 .i64 x.1 x.2.1], new := fun _ _ => [] }
  b := { Y := Nat, Q := fun x cap => x.2.1.length + 1 ≤ cap ∧ cap ≤ 9223372036854775807, res := fun x cap => .sl 2 [] 0 1 0 (x.2.1.length + 1) cap, its := fun x _ => [rowI 3 .i64 x.1 x.2.1], new := fun x cap => [.row 3 1 cap (x.2.1.length + 1) (fun j => [i64 ((insI x.2.1 x.2.2.2).getD j 0)])] }
def refAddAC : Ctr := refAddI.ctrA
def refAddBC : Ctr := refAddI.ctrB
theorem refAddAC_ok : CtrOk refAddAC :=
  ⟨fun _ _ _ _ => (rfl : 1 = 1), fun _ _ _ _ => ⟨rfl, rfl⟩, fun x _ _ _ _ => ⟨⟨⟨⟨fun _ _ => ⟨rfl, trivial⟩, trivial⟩, trivial⟩, trivial⟩, rfl⟩⟩
theorem refAddBC_ok : CtrOk refAddBC :=
  ⟨fun _ _ _ _ => (rfl : 1 = 1), fun _ _ _ _ => ⟨rfl, rfl⟩, fun x _ _ _ _ => ⟨⟨⟨⟨fun _ _ => ⟨rfl, trivial⟩, trivial⟩, trivial⟩, ⟨⟨fun _ _ => ⟨rfl, trivial⟩, trivial⟩, trivial⟩⟩, rfl⟩⟩
def refAddLA (x : Nat × List Int × Int × Int) : LA := { T := Nat, F := fun k => frm 51 [(0, .sl 0 [] 0 1 0 x.2.1.length x.1), (2, i64 x.2.2.2), (7, i64 (k : Nat))], H := fun _ => [rowI 3 .i64 x.1 x.2.1, .fence] }
def slSigma (av : AV) : Option Ren := match av with
  | .sl q _ _ _ _ _ _ => some [some 0, some 1, some q]
  | _ => none

theorem filter_all {p : Int → Bool} {l : List Int} (h : ∀ y ∈ l, p y = true) : l.filter p = l := List.filter_eq_self.2 h
theorem ins_at {l : List Int} {a : Int} {t : Nat} (hs : l.Pairwise (· < ·)) (ht : t ≤ l.length) (h1 : ∀ j, t ≤ j → j < l.length → a < l.getD j 0) (h2 : 0 < t → l.getD (t - 1) 0 ≤ a) : insI l a = l.take t ++ a :: l.drop t := by
  have hd : ∀ y ∈ l.drop t, a < y := fun y hy => by
    obtain ⟨j, hj, e⟩ := List.mem_iff_getElem.1 hy
    rw [List.length_drop] at hj
    have := h1 (t + j) (by omega) (by omega)
    rw [List.getD_eq_getElem?_getD, List.getElem?_eq_getElem (by omega)] at this
    rw [← e, List.getElem_drop]; exact this
  have hp : ∀ y ∈ l.take t, y ≤ a := fun y hy => by
    obtain ⟨j, hj, e⟩ := List.mem_iff_getElem.1 hy
    rw [List.length_take] at hj
    have h2 := h2 (by omega)
    rw [List.getD_eq_getElem?_getD, List.getElem?_eq_getElem (by omega)] at h2
    rw [List.getElem_take] at e
    by_cases k : j = t - 1
    · subst k; rw [← e]; exact h2
    · have := List.pairwise_iff_getElem.1 hs j (t - 1) (by omega) (by omega) (by omega)
      rw [← e]; simp only [Option.getD_some] at h2; omega
  have e1 : l.filter (fun y => decide (y ≤ a)) = l.take t := by
    conv => lhs; rw [← List.take_append_drop t l]
    rw [List.filter_append, filter_all (fun y hy => decide_eq_true (hp y hy)), List.filter_eq_nil_iff.2 (fun y hy => by have := hd y hy; simp; omega), List.append_nil]
  have e2 : l.filter (fun y => !decide (y ≤ a)) = l.drop t := by
    conv => lhs; rw [← List.take_append_drop t l]
    rw [List.filter_append, filter_all (l := l.drop t) (fun y hy => by have := hd y hy; simp; omega), List.filter_eq_nil_iff.2 (fun y hy => by have := hp y hy; simp; omega), List.nil_append]
  rw [insI, e1, e2]
theorem ins_row {l : List Int} {a : Int} {t : Nat} (hs : l.Pairwise (· < ·)) (ht : t ≤ l.length) (h1 : ∀ j, t ≤ j → j < l.length → a < l.getD j 0) (h2 : 0 < t → l.getD (t - 1) 0 ≤ a) (i : Nat) (hi : i < l.length + 1) :
    (if i < t + 1 then if i < t then [AV.int IntKind.i64 (l.getD i 0)] else if i - t = 0 then [AV.int IntKind.i64 a] else [AV.int IntKind.i64 0] else [AV.int IntKind.i64 (l.getD (t + (i - (t + 1))) 0)]) = [AV.int IntKind.i64 ((insI l a).getD i 0)] := by
  rw [ins_at hs ht h1 h2, appendI_getD, List.length_take, Nat.min_eq_left ht]
  by_cases e : i < t
  · rw [if_pos (by omega), if_pos e, if_pos e, List.getD_eq_getElem?_getD, List.getD_eq_getElem?_getD, List.getElem?_take, if_pos e]
  · rw [if_neg e, if_neg e]
    by_cases e2 : i = t
    · subst e2; rw [if_pos (by omega), Nat.sub_self, if_pos rfl]; rfl
    · obtain ⟨d, rfl⟩ : ∃ d, i = t + 1 + d := ⟨i - (t + 1), by omega⟩
      rw [if_neg (by omega), show t + 1 + d - t = d + 1 by omega, show t + (t + 1 + d - (t + 1)) = t + d by omega, List.getD_cons_succ, List.getD_eq_getElem?_getD, List.getD_eq_getElem?_getD, List.getElem?_drop]

theorem refAddAV : (∀ (x : Nat × List Int × Int × Int), (Ints x.2.1 ∧ x.2.1.length ≤ x.1 ∧ x.1 ≤ 9223372036854775807 ∧ I64 x.2.2.1 ∧ I64 x.2.2.2 ∧ List.Pairwise
 (fun x1 x2 => x1 < x2) x.2.1) ∧ (x.2.2.2 < (0 : Int) ∨ x.2.2.1 ≤ x.2.2.2 ∨ x.2.2.2 ∈ x.2.1) → BC (decide (x.2.2.2 < (0 : Int))) (Exx Unit fun y => (((true =
 true ∧ NilNil ∧ (0 : Nat) = 0 ∧ (1 : Nat) = 1 ∧ (0 : Nat) = 0 ∧ x.2.1.length = x.2.1.length ∧ x.1 = x.1) ∧ True) ∧ ((3 : TypeId) = 3 ∧ (1 : Nat) = 1 ∧ x.1 = x.1
 ∧ x.2.1.length ≤ x.2.1.length ∧ ∀ (i : Nat), i < x.2.1.length → [AV.int .i64 (x.2.1.getD i 0)] = [AV.int .i64 (x.2.1.getD i 0)]) ∧ true = true ∧ True) ∧ True)
 (BC (decide (x.2.2.1 ≤ x.2.2.2)) (Exx Unit fun y => (((true = true ∧ NilNil ∧ (0 : Nat) = 0 ∧ (1 : Nat) = 1 ∧ (0 : Nat) = 0 ∧ x.2.1.length = x.2.1.length ∧ x.1
 = x.1) ∧ True) ∧ ((3 : TypeId) = 3 ∧ (1 : Nat) = 1 ∧ x.1 = x.1 ∧ x.2.1.length ≤ x.2.1.length ∧ ∀ (i : Nat), i < x.2.1.length → [AV.int .i64 (x.2.1.getD i 0)] =
 [AV.int .i64 (x.2.1.getD i 0)]) ∧ true = true ∧ True) ∧ True) (Exx (List Int × Int) fun x_1 => (((0 + x.2.1.length ≤ x.2.1.length ∧ x.2.1.length = x_1.1.length
 ∧ ∀ (i : Nat), i < x_1.1.length → [AV.int .i64 (x.2.1.getD (0 + i) 0)] = [AV.int .i64 (x_1.1.getD i 0)]) ∧ Tr 1 (x.2.2.2 = x_1.2) ∧ True) ∧ true = true ∧ True)
 ∧ (IntL x_1.1 ∧ I64 x_1.2) ∧ ∀ (y : Unit), True → BC (decide (x_1.2 ∈ x_1.1)) (Exx Unit fun y => (((true = true ∧ NilNil ∧ (0 : Nat) = 0 ∧ (1 : Nat) = 1 ∧ (0 :
 Nat) = 0 ∧ x.2.1.length = x.2.1.length ∧ x.1 = x.1) ∧ True) ∧ ((3 : TypeId) = 3 ∧ (1 : Nat) = 1 ∧ x.1 = x.1 ∧ x.2.1.length ≤ x.2.1.length ∧ ∀ (i : Nat), i <
 x.2.1.length → [AV.int .i64 (x.2.1.getD i 0)] = [AV.int .i64 (x.2.1.getD i 0)]) ∧ true = true ∧ True) ∧ True) (Exx (Nat → Prop) fun I => Exx (Nat → Nat) fun m
 => (Exx Nat fun t => I t ∧ ((true = true ∧ NilNil ∧ (0 : Nat) = 0 ∧ (1 : Nat) = 1 ∧ (0 : Nat) = 0 ∧ x.2.1.length = x.2.1.length ∧ x.1 = x.1) ∧ Tr 1 (Tr 1
 (x.2.2.2 = x.2.2.2) ∧ Tr 4 (Tr 1 ((↑x.2.1.length : Int) = (↑t : Int)) ∧ Tr 43 True))) ∧ ((3 : TypeId) = 3 ∧ (1 : Nat) = 1 ∧ x.1 = x.1 ∧ x.2.1.length ≤
 x.2.1.length ∧ ∀ (i : Nat), i < x.2.1.length → [AV.int .i64 (x.2.1.getD i 0)] = [AV.int .i64 (x.2.1.getD i 0)]) ∧ true = true ∧ True) ∧ ∀ (t : Nat), I t → BC
 (decide ((0 : Int) < (↑t : Int))) (I64 ((↑t : Int) - 1) ∧ ((0 : Int) ≤ (↑t : Int) - 1 ∧ (↑t : Int) - 1 < (↑x.2.1.length : Int)) ∧ 0 + ((↑t : Int) - 1).toNat <
 x.2.1.length ∧ BC (decide (x.2.2.2 < x.2.1.getD (0 + ((↑t : Int) - 1).toNat) 0)) (I64 ((↑t : Int) - 1) ∧ Exx Nat fun t' => (I t' ∧ m t' < m t) ∧ ((true = true ∧
 NilNil ∧ (0 : Nat) = 0 ∧ (1 : Nat) = 1 ∧ (0 : Nat) = 0 ∧ x.2.1.length = x.2.1.length ∧ x.1 = x.1) ∧ Tr 1 (Tr 1 (x.2.2.2 = x.2.2.2) ∧ Tr 4 (Tr 1 ((↑t : Int) - 1
 = (↑t' : Int)) ∧ Tr 43 True))) ∧ ((3 : TypeId) = 3 ∧ (1 : Nat) = 1 ∧ x.1 = x.1 ∧ x.2.1.length ≤ x.2.1.length ∧ ∀ (i : Nat), i < x.2.1.length → [AV.int .i64
 (x.2.1.getD i 0)] = [AV.int .i64 (x.2.1.getD i 0)]) ∧ true = true ∧ True) ((0 : Int) ≤ (↑t : Int) ∧ (0 ≤ (↑t : Int).toNat ∧ (↑t : Int).toNat ≤ x.1) ∧ 0 + 0 +
 ((↑t : Int).toNat - 0) ≤ x.2.1.length ∧ ((↑t : Int).toNat - 0 ≤ 9223372036854775807 ∧ ((↑t : Int).toNat - 0) * 8 ≤ 140737488355328) ∧ ∀ (cap : Nat), (↑t :
 Int).toNat - 0 ≤ cap ∧ cap ≤ 9223372036854775807 → (0 : Nat) + (1 : Nat) ≤ (1 : Nat) ∧ true = true ∧ ((↑t : Int).toNat - 0 ≤ (↑t : Int).toNat - 0 ∧ cap = cap) ∧
 ((↑t : Int).toNat - 0 + 1 ≤ 9223372036854775807 ∧ ((↑t : Int).toNat - 0 + 1) * 8 ≤ 140737488355328) ∧ ∀ (cap : Nat), (↑t : Int).toNat - 0 + 1 ≤ cap ∧ cap ≤
 9223372036854775807 → (0 : Int) ≤ (↑t : Int) ∧ ((↑t : Int).toNat ≤ x.2.1.length ∧ x.2.1.length ≤ x.1) ∧ 0 + (↑t : Int).toNat + (x.2.1.length - (↑t : Int).toNat)
 ≤ x.2.1.length ∧ true = true ∧ ((↑t : Int).toNat - 0 + 1 ≤ (↑t : Int).toNat - 0 + 1 ∧ cap = cap) ∧ ((↑t : Int).toNat - 0 + 1 + (x.2.1.length - (↑t : Int).toNat)
 ≤ 9223372036854775807 ∧ ((↑t : Int).toNat - 0 + 1 + (x.2.1.length - (↑t : Int).toNat)) * 8 ≤ 140737488355328) ∧ ∀ (cap : Nat), (↑t : Int).toNat - 0 + 1 +
 (x.2.1.length - (↑t : Int).toNat) ≤ cap ∧ cap ≤ 9223372036854775807 → Exx Unit fun y => (((false = true ∧ NilNil ∧ (0 : Nat) = 0 ∧ (1 : Nat) = 1 ∧ (0 : Nat) = 0
 ∧ (↑t : Int).toNat - 0 + 1 + (x.2.1.length - (↑t : Int).toNat) = x.2.1.length ∧ cap = x.1) ∧ True) ∧ ((3 : TypeId) = 3 ∧ (1 : Nat) = 1 ∧ x.1 = x.1 ∧
 x.2.1.length ≤ x.2.1.length ∧ ∀ (i : Nat), i < x.2.1.length → [AV.int .i64 (x.2.1.getD i 0)] = [AV.int .i64 (x.2.1.getD i 0)]) ∧ true = true ∧ True) ∧ True))
 ((0 : Int) ≤ (↑t : Int) ∧ (0 ≤ (↑t : Int).toNat ∧ (↑t : Int).toNat ≤ x.1) ∧ 0 + 0 + ((↑t : Int).toNat - 0) ≤ x.2.1.length ∧ ((↑t : Int).toNat - 0 ≤
 9223372036854775807 ∧ ((↑t : Int).toNat - 0) * 8 ≤ 140737488355328) ∧ ∀ (cap : Nat), (↑t : Int).toNat - 0 ≤ cap ∧ cap ≤ 9223372036854775807 → (0 : Nat) + (1 :
 Nat) ≤ (1 : Nat) ∧ true = true ∧ ((↑t : Int).toNat - 0 ≤ (↑t : Int).toNat - 0 ∧ cap = cap) ∧ ((↑t : Int).toNat - 0 + 1 ≤ 9223372036854775807 ∧ ((↑t : Int).toNat
 - 0 + 1) * 8 ≤ 140737488355328) ∧ ∀ (cap : Nat), (↑t : Int).toNat - 0 + 1 ≤ cap ∧ cap ≤ 9223372036854775807 → (0 : Int) ≤ (↑t : Int) ∧ ((↑t : Int).toNat ≤
 x.2.1.length ∧ x.2.1.length ≤ x.1) ∧ 0 + (↑t : Int).toNat + (x.2.1.length - (↑t : Int).toNat) ≤ x.2.1.length ∧ true = true ∧ ((↑t : Int).toNat - 0 + 1 ≤ (↑t :
 Int).toNat - 0 + 1 ∧ cap = cap) ∧ ((↑t : Int).toNat - 0 + 1 + (x.2.1.length - (↑t : Int).toNat) ≤ 9223372036854775807 ∧ ((↑t : Int).toNat - 0 + 1 +
 (x.2.1.length - (↑t : Int).toNat)) * 8 ≤ 140737488355328) ∧ ∀ (cap : Nat), (↑t : Int).toNat - 0 + 1 + (x.2.1.length - (↑t : Int).toNat) ≤ cap ∧ cap ≤
 9223372036854775807 → Exx Unit fun y => (((false = true ∧ NilNil ∧ (0 : Nat) = 0 ∧ (1 : Nat) = 1 ∧ (0 : Nat) = 0 ∧ (↑t : Int).toNat - 0 + 1 + (x.2.1.length -
 (↑t : Int).toNat) = x.2.1.length ∧ cap = x.1) ∧ True) ∧ ((3 : TypeId) = 3 ∧ (1 : Nat) = 1 ∧ x.1 = x.1 ∧ x.2.1.length ≤ x.2.1.length ∧ ∀ (i : Nat), i <
 x.2.1.length → [AV.int .i64 (x.2.1.getD i 0)] = [AV.int .i64 (x.2.1.getD i 0)]) ∧ true = true ∧ True) ∧ True))))) = (fnVCo tb [(14, specOf refHasC)] Tryd.f43 refAddAC (fun x => { loops := [(4, refAddLA x)] }) (fun _ _ _ => none) (fun _ => []) (fun _ _ _ _ => [])) := by kernel_rfl 

theorem refAddA_ok : SpecOk Tryd.prog 43 (specOf refAddAC) := by
  refine specOko mixed tb_ok (SPok.cons refHas_ok SPok.nil) Tryd.func43 (by decide) refAddAC_ok (an := (fun x => { loops := [(4, refAddLA x)] })) (σ := (fun _ _ _ => none)) (op := (fun _ => [])) (cl := (fun _ _ _ _ => [])) ?_
  rw [← refAddAV]
  simp (maxSteps := 10000000) only [and_false, false_and, false_or, or_false, bOf_true, bOf_false, true_bOf, false_bOf, Exx, int_ite, merge_o, Tr_eq, true_and, and_true, exists_const, forall_const, implies_true, forall_eq, exists_eq, exists_eq', exists_eq_left, exists_eq_left', exists_eq_right, Prod.exists, Prod.forall, and_assoc, exists_and_left, BC_iff, Bool.not_eq_true', Bool.not_eq_false', decide_eq_true_eq, decide_eq_false_iff_not, I64, nat_cast_inj, Int.toNat_natCast, nats_iff, nats_iff', ints_iff, ints_iff', natss_iff, natss_iff', nilnil, litL_eq, str_inj, str_append, str_length, str_getD, str_take, lit1_iff, one_iff, two_iff, one_get, Nat.zero_add, Nat.sub_zero, Nat.reduceMul, Nat.reduceDiv, Nat.reduceAdd, Int.reduceToNat, Nat.not_lt_zero, if_false, if_true, Nat.le_refl, List.length_singleton, List.length_cons, List.length_nil, Bool.false_eq_true, not_true_eq_false, false_implies, not_false_eq_true, Prod.mk.injEq]
  rintro c l n a ⟨hl, hc1, hc2, h1, h2, h3, h4, hs, hp⟩ h5 h6
  exact ⟨hl.intL, h3, h4, fun h => absurd hp fun k => k.elim h5 fun k => k.elim h6 h⟩

theorem refAddBV : (∀ (x : Nat × List Int × Int × Int), (Ints x.2.1 ∧ x.2.1.length ≤ x.1 ∧ x.1 ≤ 9223372036854775807 ∧ I64 x.2.2.1 ∧ I64 x.2.2.2 ∧ List.Pairwise
 (fun x1 x2 => x1 < x2) x.2.1) ∧ ¬refAddI.p x → BC (decide (x.2.2.2 < (0 : Int))) (Exx Nat fun y => False ∧ x.2.1.length + 1 ≤ y ∧ y ≤ 9223372036854775807) (BC
 (decide (x.2.2.1 ≤ x.2.2.2)) (Exx Nat fun y => False ∧ x.2.1.length + 1 ≤ y ∧ y ≤ 9223372036854775807) (Exx (List Int × Int) fun x_1 => (((0 + x.2.1.length ≤
 x.2.1.length ∧ x.2.1.length = x_1.1.length ∧ ∀ (i : Nat), i < x_1.1.length → [AV.int .i64 (x.2.1.getD (0 + i) 0)] = [AV.int .i64 (x_1.1.getD i 0)]) ∧ Tr 1
 (x.2.2.2 = x_1.2) ∧ True) ∧ true = true ∧ True) ∧ (IntL x_1.1 ∧ I64 x_1.2) ∧ ∀ (y : Unit), True → BC (decide (x_1.2 ∈ x_1.1)) (Exx Nat fun y => False ∧
 x.2.1.length + 1 ≤ y ∧ y ≤ 9223372036854775807) (Exx (Nat → Prop) fun I => Exx (Nat → Nat) fun m => (Exx Nat fun t => I t ∧ ((true = true ∧ NilNil ∧ (0 : Nat) =
 0 ∧ (1 : Nat) = 1 ∧ (0 : Nat) = 0 ∧ x.2.1.length = x.2.1.length ∧ x.1 = x.1) ∧ Tr 1 (Tr 1 (x.2.2.2 = x.2.2.2) ∧ Tr 4 (Tr 1 ((↑x.2.1.length : Int) = (↑t : Int))
 ∧ Tr 43 True))) ∧ ((3 : TypeId) = 3 ∧ (1 : Nat) = 1 ∧ x.1 = x.1 ∧ x.2.1.length ≤ x.2.1.length ∧ ∀ (i : Nat), i < x.2.1.length → [AV.int .i64 (x.2.1.getD i 0)] =
 [AV.int .i64 (x.2.1.getD i 0)]) ∧ true = true ∧ True) ∧ ∀ (t : Nat), I t → BC (decide ((0 : Int) < (↑t : Int))) (I64 ((↑t : Int) - 1) ∧ ((0 : Int) ≤ (↑t : Int)
 - 1 ∧ (↑t : Int) - 1 < (↑x.2.1.length : Int)) ∧ 0 + ((↑t : Int) - 1).toNat < x.2.1.length ∧ BC (decide (x.2.2.2 < x.2.1.getD (0 + ((↑t : Int) - 1).toNat) 0))
 (I64 ((↑t : Int) - 1) ∧ Exx Nat fun t' => (I t' ∧ m t' < m t) ∧ ((true = true ∧ NilNil ∧ (0 : Nat) = 0 ∧ (1 : Nat) = 1 ∧ (0 : Nat) = 0 ∧ x.2.1.length =
 x.2.1.length ∧ x.1 = x.1) ∧ Tr 1 (Tr 1 (x.2.2.2 = x.2.2.2) ∧ Tr 4 (Tr 1 ((↑t : Int) - 1 = (↑t' : Int)) ∧ Tr 43 True))) ∧ ((3 : TypeId) = 3 ∧ (1 : Nat) = 1 ∧ x.1
 = x.1 ∧ x.2.1.length ≤ x.2.1.length ∧ ∀ (i : Nat), i < x.2.1.length → [AV.int .i64 (x.2.1.getD i 0)] = [AV.int .i64 (x.2.1.getD i 0)]) ∧ true = true ∧ True) ((0
 : Int) ≤ (↑t : Int) ∧ (0 ≤ (↑t : Int).toNat ∧ (↑t : Int).toNat ≤ x.1) ∧ 0 + 0 + ((↑t : Int).toNat - 0) ≤ x.2.1.length ∧ ((↑t : Int).toNat - 0 ≤
 9223372036854775807 ∧ ((↑t : Int).toNat - 0) * 8 ≤ 140737488355328) ∧ ∀ (cap : Nat), (↑t : Int).toNat - 0 ≤ cap ∧ cap ≤ 9223372036854775807 → (0 : Nat) + (1 :
 Nat) ≤ (1 : Nat) ∧ true = true ∧ ((↑t : Int).toNat - 0 ≤ (↑t : Int).toNat - 0 ∧ cap = cap) ∧ ((↑t : Int).toNat - 0 + 1 ≤ 9223372036854775807 ∧ ((↑t : Int).toNat
 - 0 + 1) * 8 ≤ 140737488355328) ∧ ∀ (cap : Nat), (↑t : Int).toNat - 0 + 1 ≤ cap ∧ cap ≤ 9223372036854775807 → (0 : Int) ≤ (↑t : Int) ∧ ((↑t : Int).toNat ≤
 x.2.1.length ∧ x.2.1.length ≤ x.1) ∧ 0 + (↑t : Int).toNat + (x.2.1.length - (↑t : Int).toNat) ≤ x.2.1.length ∧ true = true ∧ ((↑t : Int).toNat - 0 + 1 ≤ (↑t :
 Int).toNat - 0 + 1 ∧ cap = cap) ∧ ((↑t : Int).toNat - 0 + 1 + (x.2.1.length - (↑t : Int).toNat) ≤ 9223372036854775807 ∧ ((↑t : Int).toNat - 0 + 1 +
 (x.2.1.length - (↑t : Int).toNat)) * 8 ≤ 140737488355328) ∧ ∀ (cap : Nat), (↑t : Int).toNat - 0 + 1 + (x.2.1.length - (↑t : Int).toNat) ≤ cap ∧ cap ≤
 9223372036854775807 → Exx Nat fun y => (((true = true ∧ NilNil ∧ (0 : Nat) = 0 ∧ (1 : Nat) = 1 ∧ (0 : Nat) = 0 ∧ (↑t : Int).toNat - 0 + 1 + (x.2.1.length - (↑t
 : Int).toNat) = x.2.1.length + 1 ∧ cap = y) ∧ True) ∧ ((3 : TypeId) = 3 ∧ (1 : Nat) = 1 ∧ x.1 = x.1 ∧ x.2.1.length ≤ x.2.1.length ∧ ∀ (i : Nat), i <
 x.2.1.length → [AV.int .i64 (x.2.1.getD i 0)] = [AV.int .i64 (x.2.1.getD i 0)]) ∧ true = true ∧ ((3 : TypeId) = 3 ∧ (1 : Nat) = 1 ∧ cap = y ∧ x.2.1.length + 1 ≤
 (↑t : Int).toNat - 0 + 1 + (x.2.1.length - (↑t : Int).toNat) ∧ ∀ (i : Nat), i < x.2.1.length + 1 → (if i < (↑t : Int).toNat - 0 + 1 then if i < (↑t : Int).toNat
 - 0 then [AV.int .i64 (x.2.1.getD (0 + 0 + i) 0)] else [AV.int .i64 (if 0 + (i - ((↑t : Int).toNat - 0)) = 0 * 1 / 1 then x.2.2.2 else 0)] else [AV.int .i64
 (x.2.1.getD (0 + (↑t : Int).toNat + (i - ((↑t : Int).toNat - 0 + 1))) 0)]) = [AV.int .i64 ((insI x.2.1 x.2.2.2).getD i 0)]) ∧ True) ∧ x.2.1.length + 1 ≤ y ∧ y ≤
 9223372036854775807)) ((0 : Int) ≤ (↑t : Int) ∧ (0 ≤ (↑t : Int).toNat ∧ (↑t : Int).toNat ≤ x.1) ∧ 0 + 0 + ((↑t : Int).toNat - 0) ≤ x.2.1.length ∧ ((↑t :
 Int).toNat - 0 ≤ 9223372036854775807 ∧ ((↑t : Int).toNat - 0) * 8 ≤ 140737488355328) ∧ ∀ (cap : Nat), (↑t : Int).toNat - 0 ≤ cap ∧ cap ≤ 9223372036854775807 →
 (0 : Nat) + (1 : Nat) ≤ (1 : Nat) ∧ true = true ∧ ((↑t : Int).toNat - 0 ≤ (↑t : Int).toNat - 0 ∧ cap = cap) ∧ ((↑t : Int).toNat - 0 + 1 ≤ 9223372036854775807 ∧
 ((↑t : Int).toNat - 0 + 1) * 8 ≤ 140737488355328) ∧ ∀ (cap : Nat), (↑t : Int).toNat - 0 + 1 ≤ cap ∧ cap ≤ 9223372036854775807 → (0 : Int) ≤ (↑t : Int) ∧ ((↑t :
 Int).toNat ≤ x.2.1.length ∧ x.2.1.length ≤ x.1) ∧ 0 + (↑t : Int).toNat + (x.2.1.length - (↑t : Int).toNat) ≤ x.2.1.length ∧ true = true ∧ ((↑t : Int).toNat - 0
 + 1 ≤ (↑t : Int).toNat - 0 + 1 ∧ cap = cap) ∧ ((↑t : Int).toNat - 0 + 1 + (x.2.1.length - (↑t : Int).toNat) ≤ 9223372036854775807 ∧ ((↑t : Int).toNat - 0 + 1 +
 (x.2.1.length - (↑t : Int).toNat)) * 8 ≤ 140737488355328) ∧ ∀ (cap : Nat), (↑t : Int).toNat - 0 + 1 + (x.2.1.length - (↑t : Int).toNat) ≤ cap ∧ cap ≤
 9223372036854775807 → Exx Nat fun y => (((true = true ∧ NilNil ∧ (0 : Nat) = 0 ∧ (1 : Nat) = 1 ∧ (0 : Nat) = 0 ∧ (↑t : Int).toNat - 0 + 1 + (x.2.1.length - (↑t
 : Int).toNat) = x.2.1.length + 1 ∧ cap = y) ∧ True) ∧ ((3 : TypeId) = 3 ∧ (1 : Nat) = 1 ∧ x.1 = x.1 ∧ x.2.1.length ≤ x.2.1.length ∧ ∀ (i : Nat), i <
 x.2.1.length → [AV.int .i64 (x.2.1.getD i 0)] = [AV.int .i64 (x.2.1.getD i 0)]) ∧ true = true ∧ ((3 : TypeId) = 3 ∧ (1 : Nat) = 1 ∧ cap = y ∧ x.2.1.length + 1 ≤
 (↑t : Int).toNat - 0 + 1 + (x.2.1.length - (↑t : Int).toNat) ∧ ∀ (i : Nat), i < x.2.1.length + 1 → (if i < (↑t : Int).toNat - 0 + 1 then if i < (↑t : Int).toNat
 - 0 then [AV.int .i64 (x.2.1.getD (0 + 0 + i) 0)] else [AV.int .i64 (if 0 + (i - ((↑t : Int).toNat - 0)) = 0 * 1 / 1 then x.2.2.2 else 0)] else [AV.int .i64
 (x.2.1.getD (0 + (↑t : Int).toNat + (i - ((↑t : Int).toNat - 0 + 1))) 0)]) = [AV.int .i64 ((insI x.2.1 x.2.2.2).getD i 0)]) ∧ True) ∧ x.2.1.length + 1 ≤ y ∧ y ≤
 9223372036854775807))))) = (fnVCo tb [(14, specOf refHasC)] Tryd.f43 refAddBC (fun x => { loops := [(4, refAddLA x)] }) (fun _ av _ => slSigma av) (fun _ => []) (fun _ _ _ _ => [])) := by kernel_rfl 

theorem refAddB_ok : SpecOk Tryd.prog 43 (specOf refAddBC) := by
  refine specOko mixed tb_ok (SPok.cons refHas_ok SPok.nil) Tryd.func43 (by decide) refAddBC_ok (an := (fun x => { loops := [(4, refAddLA x)] })) (σ := (fun _ av _ => slSigma av)) (op := (fun _ => [])) (cl := (fun _ _ _ _ => [])) ?_
  rw [← refAddBV]
  simp (maxSteps := 10000000) only [and_false, false_and, false_or, or_false, bOf_true, bOf_false, true_bOf, false_bOf, Exx, int_ite, merge_o, Tr_eq, true_and, and_true, exists_const, forall_const, implies_true, forall_eq, exists_eq, exists_eq', exists_eq_left, exists_eq_left', exists_eq_right, Prod.exists, Prod.forall, and_assoc, exists_and_left, BC_iff, Bool.not_eq_true', Bool.not_eq_false', decide_eq_true_eq, decide_eq_false_iff_not, I64, nat_cast_inj, Int.toNat_natCast, nats_iff, nats_iff', ints_iff, ints_iff', natss_iff, natss_iff', nilnil, litL_eq, str_inj, str_append, str_length, str_getD, str_take, lit1_iff, one_iff, two_iff, one_get, Nat.zero_add, Nat.sub_zero, Nat.reduceMul, Nat.reduceDiv, Nat.reduceAdd, Int.reduceToNat, Nat.not_lt_zero, if_false, if_true, Nat.le_refl, List.length_singleton, List.length_cons, List.length_nil, Bool.false_eq_true, not_true_eq_false, false_implies, not_false_eq_true, Prod.mk.injEq]
  rintro c l n a ⟨hl, hc1, hc2, h1, h2, h3, h4, hs, hp⟩
  refine ⟨fun h => absurd (.inl h) hp, fun h5 => ⟨fun h => absurd (.inr (.inl h)) hp, fun h6 => ⟨hl.intL, h3, h4, fun h => absurd (.inr (.inr h)) hp, fun h7 => ?_⟩⟩⟩
  have hlen := hl.2
  refine ⟨fun t => t ≤ l.length ∧ ∀ j, t ≤ j → j < l.length → a < l.getD j 0, ⟨l.length, ⟨Nat.le_refl _, fun j k1 k2 => by omega⟩, rfl⟩, fun t => t, fun t ⟨ht, hj⟩ => ?_⟩
  have fin : ∀ (h2 : 0 < t → l.getD (t - 1) 0 ≤ a), t + (l.length - t) = l.length ∧ ∀ (i : Nat), i < l.length + 1 → (if i < t + 1 then if i < t then [AV.int IntKind.i64 (l.getD i 0)] else if i - t = 0 then [AV.int IntKind.i64 a] else [AV.int IntKind.i64 0] else [AV.int IntKind.i64 (l.getD (t + (i - (t + 1))) 0)]) = [AV.int IntKind.i64 ((insI l a).getD i 0)] := fun h2 => ⟨by omega, ins_row hs ht hj h2⟩
  refine ⟨fun hpos => ?_, fun hz => ?_⟩
  · have e1 : ((t : Int) - 1).toNat = t - 1 := by omega
    rw [e1]
    refine ⟨by omega, by omega, by omega, by omega, by omega, fun hlt => ⟨by omega, by omega, t - 1, ⟨by omega, fun j k1 k2 => ?_⟩, by simp only; omega, by omega⟩, fun hge => ?_⟩
    · by_cases e : j = t - 1
      · subst e; exact hlt
      · exact hj j (by omega) k2
    · refine ⟨by omega, by omega, by omega, by omega, by omega, by omega, fun cap1 k1 => ⟨by omega, by omega, fun cap2 k2 => ⟨by omega, by omega, by omega, by omega, by omega, by omega, fun cap3 k3 => ⟨by omega, by omega, (fin (fun _ => by omega)).2, by omega, by omega⟩⟩⟩⟩
  · refine ⟨by omega, by omega, by omega, by omega, by omega, by omega, fun cap1 k1 => ⟨by omega, by omega, fun cap2 k2 => ⟨by omega, by omega, by omega, by omega, by omega, by omega, fun cap3 k3 => ⟨by omega, by omega, (fin (fun _ => by omega)).2, by omega, by omega⟩⟩⟩⟩

end Yard
