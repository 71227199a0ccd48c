import Derived.Test.YtlicnnoljbfhfaaDoorCharts

namespace Yard
open Go Go.Sx Go.Proofs
set_option linter.unusedVariables false
set_option linter.unusedSimpArgs false
set_option maxRecDepth 4000

theorem drop1_bit {n m : Nat} {a : Int} {i : Nat} : (drop1 n m a).testBit i = (m.testBit i && !decide (i < n ∧ (i : Int) = a)) := by
  unfold drop1 inB
  by_cases h : 0 ≤ a ∧ a < (n : Int)
  · rw [if_pos (decide_eq_true h), clr_bit]
    have : (a.toNat = i) ↔ (i < n ∧ (i : Int) = a) := by omega
    simp only [this]
  · rw [if_neg (by rw [decide_eq_false h]; simp)]
    have : ¬ (i < n ∧ (i : Int) = a) := by omega
    simp [this]
theorem dropL_bit {n i : Nat} : ∀ {l : List Int} {m : Nat}, (dropL n m l).testBit i = (m.testBit i && !decide (i < n ∧ (i : Int) ∈ l))
  | [], m => by simp [dropL]
  | a :: r, m => by
    have e : dropL n m (a :: r) = dropL n (drop1 n m a) r := rfl
    rw [e, dropL_bit (l := r), drop1_bit, Bool.and_assoc]
    congr 1
    rw [← Bool.not_or, ← Bool.decide_or]
    congr 1
    apply decide_eq_decide.2
    rw [List.mem_cons]
    constructor
    · rintro (⟨h1, h2⟩ | ⟨h1, h2⟩)
      · exact ⟨h1, .inl h2⟩
      · exact ⟨h1, .inr h2⟩
    · rintro ⟨h1, h2 | h2⟩
      · exact .inl ⟨h1, h2⟩
      · exact .inr ⟨h1, h2⟩
theorem listN_ints {s : Nat × Nat} (h : SetW s) : Ints (listN s) := by
  have h1 := h.1
  refine ⟨fun x hx => ?_, ?_⟩
  · have := (listN_mem (n := s.1) (m := s.2)).1 hx
    unfold I64; omega
  · have := bitsL_len s.1 s.2
    rw [listN, List.length_map]; omega
theorem addL_le {n m : Nat} {l : List Int} (h : m < 2 ^ n) : addL n m l < 2 ^ n := addL_lt h
def joinN (s t : Nat × Nat) : Nat × Nat := (s.1, addL s.1 s.2 (listN t))
def minusN (s t : Nat × Nat) : Nat × Nat := (s.1, dropL s.1 s.2 (listN t))
def setJoinC (g : Nat × Nat → Nat × Nat → Nat × Nat) : Ctr where
  X := (Nat × Nat) × (Nat × Nat)
  Y := Unit
  conv := true
  tau := tau2
  pre := fun x => SetW x.1 ∧ SetW x.2
  args := fun _ => [.ptr 0 [] 0, .ptr 1 [] 0]
  heap := fun x => [setI x.1, setI x.2]
  Q := fun _ _ => True
  res := fun x _ => .ptr 3 [] 0
  its := fun x _ => [setI x.1, setI x.2]
  new := fun x _ => [setI (g x.1 x.2)]
theorem setJoinC_ok (g : Nat × Nat → Nat × Nat → Nat × Nat) : CtrOk (setJoinC g) :=
  ⟨fun _ _ _ _ => (rfl : 2 = 2), fun _ _ _ _ => ⟨rfl, rfl⟩, fun x _ _ _ _ => ⟨⟨⟨trivial, trivial, trivial⟩, ⟨trivial, trivial⟩⟩, rfl⟩⟩
def setJoinSC (g : Nat × Nat → Nat × Nat → Nat × Nat) : Ctr where
  X := Nat × Nat
  Y := Unit
  conv := true
  tau := ptrTau
  pre := SetW
  args := fun _ => [.ptr 0 [] 0, .ptr 0 [] 0]
  heap := fun x => [setI x]
  Q := fun _ _ => True
  res := fun x _ => .ptr 2 [] 0
  its := fun x _ => [setI x]
  new := fun x _ => [setI (g x x)]
theorem setJoinSC_ok (g : Nat × Nat → Nat × Nat → Nat × Nat) : CtrOk (setJoinSC g) :=
  ⟨fun _ _ _ _ => (rfl : 1 = 1), fun _ _ _ _ => ⟨rfl, rfl⟩, fun x _ _ _ _ => ⟨⟨⟨trivial, trivial⟩, ⟨trivial, trivial⟩⟩, rfl⟩⟩
def setWithC : Ctr := setJoinC joinN
def setWithSC : Ctr := setJoinSC joinN
def setWithoutC : Ctr := setJoinC minusN

theorem setWithV : (∀ (x : (Nat × Nat) × Nat × Nat), SetW x.1 ∧ SetW x.2 → Exx (Nat × Nat) fun x_1 => (((true = true ∧ NilNil ∧ (0 : Nat) = 0) ∧ True) ∧ true =
 true ∧ setB x.1 = setB x_1 ∧ True) ∧ SetW x_1 ∧ ∀ (y : Unit), True → Exx (Nat × Nat) fun x_2 => (((true = true ∧ NilNil ∧ (0 : Nat) = 0) ∧ True) ∧ true = true ∧
 setB x.2 = setB x_2 ∧ True) ∧ SetW x_2 ∧ ∀ (y : Nat), (listN x_2).length ≤ y → Exx ((Nat × Nat) × List Int) fun x_3 => (((true = true ∧ NilNil ∧ (0 : Nat) = 0)
 ∧ (0 + (listN x_2).length ≤ (listN x_2).length ∧ (listN x_2).length = x_3.2.length ∧ ∀ (i : Nat), i < x_3.2.length → [AV.int .i64 ((listN x_2).getD (0 + i) 0)]
 = [AV.int .i64 (x_3.2.getD i 0)]) ∧ True) ∧ true = true ∧ setB x_1 = setB x_3.1 ∧ True) ∧ (SetW x_3.1 ∧ Ints x_3.2) ∧ ∀ (y : Unit), True → Exx Unit fun y =>
 (((true = true ∧ NilNil ∧ (0 : Nat) = 0) ∧ True) ∧ setB x_1 = setB x.1 ∧ setB x_2 = setB x.2 ∧ true = true ∧ setB (x_3.1.1, addL x_3.1.1 x_3.1.2 x_3.2) = setB
 (joinN x.1 x.2) ∧ True) ∧ True) = (fnVC tb [(20, specOf setListC), (42, specObj (specOf setAddC) (specOf setAddOC)), (49, specOf setCloneC)] Tryd.f45 setWithC
 (fun _ => { loose := [(2, [0, 1, 3])] }) (fun _ => none)) := by kernel_rfl

theorem setWith_ok : SpecOk Tryd.prog 45 (specOf setWithC) := by
  refine specOk mixed tb_ok (SPok.cons setList_ok (SPok.cons (specObj_ok setAdd_ok setAddO_ok) (SPok.cons setClone_ok SPok.nil))) Tryd.func45 (by decide) (setJoinC_ok _) (an := (fun _ => { loose := [(2, [0, 1, 3])] })) (σ := (fun _ => none)) ?_
  rw [← setWithV]
  simp (maxSteps := 10000000) only [and_false, false_and, false_or, or_false, bOf_true, bOf_false, true_bOf, false_bOf, Exx, int_ite, merge_o, Tr_eq, true_and, and_true, exists_const, forall_const, implies_true, forall_eq, exists_eq, exists_eq', exists_eq_left, exists_eq_left', exists_eq_right, Prod.exists, Prod.forall, and_assoc, exists_and_left, BC_iff, Bool.not_eq_true', Bool.not_eq_false', decide_eq_true_eq, decide_eq_false_iff_not, I64, nat_cast_inj, Int.toNat_natCast, nats_iff, nats_iff', ints_iff, ints_iff', natss_iff, natss_iff', nilnil, litL_eq, str_inj, str_append, str_length, str_getD, str_take, lit1_iff, one_iff, two_iff, one_get, Nat.zero_add, Nat.sub_zero, Nat.reduceMul, Nat.reduceDiv, Nat.reduceAdd, Int.reduceToNat, Nat.not_lt_zero, if_false, if_true, Nat.le_refl, List.length_singleton, List.length_cons, List.length_nil, Bool.false_eq_true, not_true_eq_false, false_implies, not_false_eq_true, Prod.mk.injEq, setB_open, setB_close, setB_inj]
  exact fun _ _ _ _ h => ⟨h.1, h.2, fun _ _ => ⟨h.1, listN_ints h.2, rfl⟩⟩

theorem setWithSV : (∀ (x : Nat × Nat), SetW x → Exx (Nat × Nat) fun x_1 => (((true = true ∧ NilNil ∧ (0 : Nat) = 0) ∧ True) ∧ true = true ∧ setB x = setB x_1 ∧
 True) ∧ SetW x_1 ∧ ∀ (y : Unit), True → Exx (Nat × Nat) fun x_2 => (((true = true ∧ NilNil ∧ (0 : Nat) = 0) ∧ True) ∧ true = true ∧ setB x_1 = setB x_2 ∧ True)
 ∧ SetW x_2 ∧ ∀ (y : Nat), (listN x_2).length ≤ y → Exx ((Nat × Nat) × List Int) fun x_3 => (((true = true ∧ NilNil ∧ (0 : Nat) = 0) ∧ (0 + (listN x_2).length ≤
 (listN x_2).length ∧ (listN x_2).length = x_3.2.length ∧ ∀ (i : Nat), i < x_3.2.length → [AV.int .i64 ((listN x_2).getD (0 + i) 0)] = [AV.int .i64 (x_3.2.getD i
 0)]) ∧ True) ∧ true = true ∧ setB x_1 = setB x_3.1 ∧ True) ∧ (SetW x_3.1 ∧ Ints x_3.2) ∧ ∀ (y : Unit), True → Exx Unit fun y => (((true = true ∧ NilNil ∧ (0 :
 Nat) = 0) ∧ True) ∧ setB x_2 = setB x ∧ true = true ∧ setB (x_3.1.1, addL x_3.1.1 x_3.1.2 x_3.2) = setB (joinN x x) ∧ True) ∧ True) = (fnVC tb [(20, specOf
 setListC), (42, specObj (specOf setAddC) (specOf setAddOC)), (49, specOf setCloneC)] Tryd.f45 setWithSC (fun _ => { loose := [(2, [0, 2])] }) (fun _ => none))
 := by kernel_rfl

theorem setWithS_ok : SpecOk Tryd.prog 45 (specOf setWithSC) := by
  refine specOk mixed tb_ok (SPok.cons setList_ok (SPok.cons (specObj_ok setAdd_ok setAddO_ok) (SPok.cons setClone_ok SPok.nil))) Tryd.func45 (by decide) (setJoinSC_ok _) (an := (fun _ => { loose := [(2, [0, 2])] })) (σ := (fun _ => none)) ?_
  rw [← setWithSV]
  simp (maxSteps := 10000000) only [and_false, false_and, false_or, or_false, bOf_true, bOf_false, true_bOf, false_bOf, Exx, int_ite, merge_o, Tr_eq, true_and, and_true, exists_const, forall_const, implies_true, forall_eq, exists_eq, exists_eq', exists_eq_left, exists_eq_left', exists_eq_right, Prod.exists, Prod.forall, and_assoc, exists_and_left, BC_iff, Bool.not_eq_true', Bool.not_eq_false', decide_eq_true_eq, decide_eq_false_iff_not, I64, nat_cast_inj, Int.toNat_natCast, nats_iff, nats_iff', ints_iff, ints_iff', natss_iff, natss_iff', nilnil, litL_eq, str_inj, str_append, str_length, str_getD, str_take, lit1_iff, one_iff, two_iff, one_get, Nat.zero_add, Nat.sub_zero, Nat.reduceMul, Nat.reduceDiv, Nat.reduceAdd, Int.reduceToNat, Nat.not_lt_zero, if_false, if_true, Nat.le_refl, List.length_singleton, List.length_cons, List.length_nil, Bool.false_eq_true, not_true_eq_false, false_implies, not_false_eq_true, Prod.mk.injEq, setB_open, setB_close, setB_inj]
  exact fun _ _ h => ⟨h, h, fun _ _ => ⟨h, listN_ints h, rfl⟩⟩

end Yard
