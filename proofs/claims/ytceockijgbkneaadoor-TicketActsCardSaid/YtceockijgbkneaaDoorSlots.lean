import Derived.Test.YtceockijgbkneaaDoorPage

namespace Yard
open Go Go.Sx Go.Proofs
set_option linter.unusedVariables false
set_option linter.unusedSimpArgs false
set_option maxRecDepth 4000

def placeOk (slot : Int) : Prop := 0 ≤ slot ∧ slot < 1792
instance (slot : Int) : Decidable (placeOk slot) := by unfold placeOk; infer_instance
def placeK (slot : Int) (j : Nat) : Nat := if placeOk slot then (if j = 0 then slot.toNat / 7 / 16 else if j = 1 then slot.toNat / 7 % 16 else slot.toNat % 7) else 0
def placeC : Ctr := pureC Int (fun x => I64 x) (fun x => [i64 x]) (fun x => .tup [i64 (placeK x 0 : Nat), i64 (placeK x 1 : Nat), i64 (placeK x 2 : Nat), .bool (decide (placeOk x))])

theorem placeV : (∀ (x : Int), -9223372036854775808 ≤ x ∧ x ≤ (9223372036854775807 : Int) → BC (decide (x < (0 : Int))) (Exx Unit fun y => (((Tr 1 ((0 : Int) =
 (↑(placeK x 0) : Int)) ∧ Tr 1 ((0 : Int) = (↑(placeK x 1) : Int)) ∧ Tr 1 ((0 : Int) = (↑(placeK x 2) : Int)) ∧ false = decide (placeOk x) ∧ True) ∧ True) ∧ true
 = true ∧ True) ∧ True) (BC (decide ((1792 : Int) ≤ x)) (Exx Unit fun y => (((Tr 1 ((0 : Int) = (↑(placeK x 0) : Int)) ∧ Tr 1 ((0 : Int) = (↑(placeK x 1) : Int))
 ∧ Tr 1 ((0 : Int) = (↑(placeK x 2) : Int)) ∧ false = decide (placeOk x) ∧ True) ∧ True) ∧ true = true ∧ True) ∧ True) ((7 : Int) ≠ (0 : Int) ∧ I64 (x.tdiv 7) ∧
 (16 : Int) ≠ (0 : Int) ∧ I64 ((x.tdiv 7).tdiv 16) ∧ (16 : Int) ≠ (0 : Int) ∧ ∀ (n : Int), n = (x.tdiv 7).tmod 16 → (7 : Int) ≠ (0 : Int) ∧ ∀ (n_1 : Int), n_1 =
 x.tmod 7 → Exx Unit fun y => (((Tr 1 ((x.tdiv 7).tdiv 16 = (↑(placeK x 0) : Int)) ∧ Tr 1 (n = (↑(placeK x 1) : Int)) ∧ Tr 1 (n_1 = (↑(placeK x 2) : Int)) ∧ true
 = decide (placeOk x) ∧ True) ∧ True) ∧ true = true ∧ True) ∧ True))) = (fnVC tb [] Tryd.f55 placeC (fun _ => {}) (fun _ => none)) := by kernel_rfl 

theorem place_ok : SpecOk Tryd.prog 55 (specOf placeC) := by
  refine specOk mixed tb_ok SPok.nil Tryd.func55 (by decide) (pureC_ok fun _ => ⟨rfl, rfl, rfl, rfl, trivial⟩) (an := (fun _ => {})) (σ := (fun _ => none)) ?_
  rw [← placeV]
  simp (maxSteps := 10000000) only [and_false, false_and, false_or, or_false, bOf_true, bOf_false, true_bOf, false_bOf, Exx, int_ite, merge_o, Tr_eq, true_and, and_true, exists_const, forall_const, implies_true, forall_eq, exists_eq, exists_eq', exists_eq_left, exists_eq_left', exists_eq_right, Prod.exists, Prod.forall, and_assoc, exists_and_left, BC_iff, Bool.not_eq_true', Bool.not_eq_false', decide_eq_true_eq, decide_eq_false_iff_not, I64, nat_cast_inj, Int.toNat_natCast, nats_iff, nats_iff', ints_iff, ints_iff', natss_iff, natss_iff', nilnil, litL_eq, str_inj, str_append, str_length, str_getD, str_take, lit1_iff, one_iff, two_iff, one_get, Nat.zero_add, Nat.sub_zero, Nat.reduceMul, Nat.reduceDiv, Nat.reduceAdd, Int.reduceToNat, Nat.not_lt_zero, if_false, if_true, Nat.le_refl, List.length_singleton, List.length_cons, List.length_nil, Bool.false_eq_true, not_true_eq_false, false_implies, not_false_eq_true, Prod.mk.injEq]
  rintro x ⟨h1, h2⟩
  have hno : ¬ placeOk x → ((0 : Int) = (placeK x 0 : Nat) ∧ (0 : Int) = (placeK x 1 : Nat) ∧ (0 : Int) = (placeK x 2 : Nat) ∧ false = decide (placeOk x)) := fun h => by
    rw [placeK, if_neg h, placeK, if_neg h, placeK, if_neg h]; exact ⟨rfl, rfl, rfl, (decide_eq_false h).symm⟩
  refine ⟨fun h => hno (fun k => by have := k.1; omega), fun h0 => ⟨fun h => hno (fun k => by have := k.2; omega), fun h3 => ?_⟩⟩
  obtain ⟨n, rfl⟩ : ∃ n : Nat, x = (n : Int) := ⟨x.toNat, by omega⟩
  have hp : placeOk (n : Int) := ⟨by omega, by omega⟩
  have e1 : (n : Int).tdiv 7 = ((n / 7 : Nat) : Int) := rfl
  have e2 : ((n / 7 : Nat) : Int).tdiv 16 = ((n / 7 / 16 : Nat) : Int) := rfl
  have e3 : ((n / 7 : Nat) : Int).tmod 16 = ((n / 7 % 16 : Nat) : Int) := rfl
  have e4 : (n : Int).tmod 7 = ((n % 7 : Nat) : Int) := rfl
  have k0 : placeK (n : Int) 0 = n / 7 / 16 := by simp [placeK, hp]
  have k1 : placeK (n : Int) 1 = n / 7 % 16 := by simp [placeK, hp]
  have k2 : placeK (n : Int) 2 = n % 7 := by simp [placeK, hp]
  rw [e1, e2, e3, e4, k0, k1, k2]
  exact ⟨by omega, by omega, by omega, by omega, by omega, by omega, by omega, by omega, rfl, rfl, rfl, (decide_eq_true hp).symm⟩

def fanErr (ws : List Nat) (a : Int) : Int := if a = 0 then 0 else if lineErr ws a = 0 then (if isFan (lineL ws a) then 0 else 31) else lineErr ws a
def fanF (ws : List Nat) (a : Int) (i : Nat) : Int := if a = 0 then 0 else getFanF (lineL ws a) i
def leafErr (ws : List Nat) (a : Int) : Int := if a = 0 then 0 else if lineErr ws a = 0 then (if isLeaf (lineL ws a) then 0 else 31) else lineErr ws a
def leafF (ws : List Nat) (a : Int) (i : Nat) : SeatT := if a = 0 then seatZ else getLeafF (lineL ws a) i
def storeFanC : Ctr := storeSetC Int (fun x => I64 x.2) (fun x => [i64 x.2]) (fun x => x.1) (fun x => .tup [fanA (fanF x.1.ws x.2), i64 (fanErr x.1.ws x.2)])
def storeLeafC : Ctr := storeSetC Int (fun x => I64 x.2) (fun x => [i64 x.2]) (fun x => x.1) (fun x => .tup [leafA (leafF x.1.ws x.2), i64 (leafErr x.1.ws x.2)])

theorem lineL_oct (ws : List Nat) (a : Int) : Oct (lineL ws a) := by
  unfold lineL
  split
  · refine ⟨octetsN_lt _, ?_⟩
    rw [octetsN_length, lineW, List.length_take]; omega
  · exact ⟨by simp, by simp⟩
theorem lineL_out {ws : List Nat} {a : Int} (h : ¬ lineErr ws a = 0) : lineL ws a = [] := by rw [lineL, if_neg (fun k => h (lineErr_zero.2 k))]
theorem not_fan_nil : ¬ isFan [] := fun k => by have := k.1.1; simp at this
theorem not_leaf_nil : ¬ isLeaf [] := fun k => by have := k.1.1; simp at this
theorem fanF_I (ws : List Nat) (a : Int) (i : Nat) : I64 (fanF ws a i) := by
  unfold fanF getFanF
  split
  · exact ⟨by omega, by omega⟩
  · split
    · exact kidAt_I (lineL_oct ws a).1 i
    · exact ⟨by omega, by omega⟩
theorem leafF_I (ws : List Nat) (a : Int) (i : Nat) : SeatI (leafF ws a i) := by
  have hz : SeatI seatZ := ⟨⟨by simp only [seatZ]; omega, by simp only [seatZ]; omega⟩, ⟨by simp only [seatZ]; omega, by simp only [seatZ]; omega⟩⟩
  unfold leafF getLeafF
  split
  · exact hz
  · split
    · exact seatAt_I (lineL_oct ws a).1 i
    · exact hz

theorem storeFanV : (∀ (x : StoreT × Int), StoreW x.1 ∧ I64 x.2 → BC (decide (x.2 = (0 : Int))) (Exx Unit fun y => (((((1 : Nat) = 1 ∧ (16 : Nat) = 16 ∧ (∀ (i :
 Nat), i < 16 → [AV.int .i64 0] = [AV.int .i64 (fanF x.1.ws x.2 i)]) ∧ True) ∧ Tr 1 ((0 : Int) = fanErr x.1.ws x.2) ∧ True) ∧ True) ∧ ((105 : TypeId) = 105 ∧
 (true = true ∧ NilNil ∧ (0 : Nat) = 0) ∧ (true = true ∧ NilNil ∧ (0 : Nat) = 0) ∧ True) ∧ devB x.1.ws = devB x.1.ws ∧ allocB x.1.a = allocB x.1.a ∧ true = true
 ∧ True) ∧ True) (Exx (StoreT × Int) fun x_1 => (((true = true ∧ NilNil ∧ (0 : Nat) = 0) ∧ Tr 1 (x.2 = x_1.2) ∧ True) ∧ true = true ∧ ((105 : TypeId) = 105 ∧
 (true = true ∧ NilNil ∧ (0 : Nat) = 0) ∧ (true = true ∧ NilNil ∧ (0 : Nat) = 0) ∧ True) ∧ devB x.1.ws = devB x_1.1.ws ∧ allocB x.1.a = allocB x_1.1.a ∧ True) ∧
 (StoreW x_1.1 ∧ I64 x_1.2) ∧ ∀ (y : Nat), (lineL x_1.1.ws x_1.2).length ≤ y → BC (!decide (lineErr x_1.1.ws x_1.2 = (0 : Int))) (Exx Unit fun y => (((((1 : Nat)
 = 1 ∧ (16 : Nat) = 16 ∧ (∀ (i : Nat), i < 16 → [AV.int .i64 0] = [AV.int .i64 (fanF x.1.ws x.2 i)]) ∧ True) ∧ Tr 1 (lineErr x_1.1.ws x_1.2 = fanErr x.1.ws x.2)
 ∧ True) ∧ True) ∧ ((105 : TypeId) = 105 ∧ (true = true ∧ NilNil ∧ (0 : Nat) = 0) ∧ (true = true ∧ NilNil ∧ (0 : Nat) = 0) ∧ True) ∧ devB x_1.1.ws = devB x.1.ws
 ∧ allocB x_1.1.a = allocB x.1.a ∧ true = true ∧ True) ∧ True) (Exx (List Nat) fun x_2 => (((0 + (lineL x_1.1.ws x_1.2).length ≤ (lineL x_1.1.ws x_1.2).length ∧
 (lineL x_1.1.ws x_1.2).length = x_2.length ∧ ∀ (i : Nat), i < x_2.length → [AV.int .u8 (↑((lineL x_1.1.ws x_1.2).getD (0 + i) 0) : Int)] = [AV.int .u8
 (↑(x_2.getD i 0) : Int)]) ∧ True) ∧ true = true ∧ True) ∧ Oct x_2 ∧ ∀ (y : Unit), True → BC (!decide (isFan x_2)) (Exx Unit fun y => (((((1 : Nat) = 1 ∧ (16 :
 Nat) = 16 ∧ (∀ (i : Nat), i < 16 → [AV.int .i64 0] = [AV.int .i64 (fanF x.1.ws x.2 i)]) ∧ True) ∧ Tr 1 ((31 : Int) = fanErr x.1.ws x.2) ∧ True) ∧ True) ∧ ((105
 : TypeId) = 105 ∧ (true = true ∧ NilNil ∧ (0 : Nat) = 0) ∧ (true = true ∧ NilNil ∧ (0 : Nat) = 0) ∧ True) ∧ devB x_1.1.ws = devB x.1.ws ∧ allocB x_1.1.a =
 allocB x.1.a ∧ true = true ∧ True) ∧ True) (Exx Unit fun y => (((((1 : Nat) = 1 ∧ (16 : Nat) = 16 ∧ (∀ (i : Nat), i < 16 → [AV.int .i64 (getFanF x_2 i)] =
 [AV.int .i64 (fanF x.1.ws x.2 i)]) ∧ True) ∧ Tr 1 ((0 : Int) = fanErr x.1.ws x.2) ∧ True) ∧ True) ∧ ((105 : TypeId) = 105 ∧ (true = true ∧ NilNil ∧ (0 : Nat) =
 0) ∧ (true = true ∧ NilNil ∧ (0 : Nat) = 0) ∧ True) ∧ devB x_1.1.ws = devB x.1.ws ∧ allocB x_1.1.a = allocB x.1.a ∧ true = true ∧ True) ∧ True)))) = (fnVC tb [(66, specOf storeGetC), (67, specOf getFanC)] Tryd.f56 storeFanC (fun _ => {}) (fun _ => none)) := by kernel_rfl 

theorem storeFan_ok : SpecOk Tryd.prog 56 (specOf storeFanC) := by
  refine specOk mixed tb_ok (SPok.cons storeGet_ok (SPok.cons getFan_ok SPok.nil)) Tryd.func56 (by decide) (storeSetC_ok fun _ => ⟨⟨fun _ _ => ⟨rfl, trivial⟩, trivial⟩, rfl, trivial⟩) (an := (fun _ => {})) (σ := (fun _ => none)) ?_
  rw [← storeFanV]
  simp (maxSteps := 10000000) only [and_false, false_and, false_or, or_false, bOf_true, bOf_false, true_bOf, false_bOf, Exx, int_ite, merge_o, Tr_eq, true_and, and_true, exists_const, forall_const, implies_true, forall_eq, exists_eq, exists_eq', exists_eq_left, exists_eq_left', exists_eq_right, Prod.exists, Prod.forall, and_assoc, exists_and_left, BC_iff, Bool.not_eq_true', Bool.not_eq_false', decide_eq_true_eq, decide_eq_false_iff_not, I64, nat_cast_inj, Int.toNat_natCast, nats_iff, nats_iff', ints_iff, ints_iff', natss_iff, natss_iff', nilnil, litL_eq, str_inj, str_append, str_length, str_getD, str_take, lit1_iff, one_iff, two_iff, one_get, Nat.zero_add, Nat.sub_zero, Nat.reduceMul, Nat.reduceDiv, Nat.reduceAdd, Int.reduceToNat, Nat.not_lt_zero, if_false, if_true, Nat.le_refl, List.length_singleton, List.length_cons, List.length_nil, Bool.false_eq_true, not_true_eq_false, false_implies, not_false_eq_true, Prod.mk.injEq, devB_inj, allocB_inj]
  rintro s a ⟨h, h1, h2⟩
  refine ⟨fun h0 => ⟨fun i _ => by rw [fanF, if_pos h0], by rw [fanErr, if_pos h0]⟩, fun hne => ⟨s, rfl, rfl, h, h1, h2, fun y hy => ⟨fun hl => ⟨fun i _ => ?_, ?_, rfl, rfl⟩, fun hl => ⟨lineL_oct _ _, fun hn => ⟨fun i _ => ?_, ?_, rfl, rfl⟩, fun hf => ⟨fun i _ => by rw [fanF, if_neg hne], ?_, rfl, rfl⟩⟩⟩⟩⟩
  · rw [fanF, if_neg hne, lineL_out hl, getFanF, if_neg not_fan_nil]
  · rw [fanErr, if_neg hne, if_neg hl]
  · rw [fanF, if_neg hne, getFanF, if_neg hn]
  · rw [fanErr, if_neg hne, if_pos hl, if_neg hn]
  · rw [fanErr, if_neg hne, if_pos hl, if_pos hf]

theorem storeLeafV : (∀ (x : StoreT × Int), StoreW x.1 ∧ I64 x.2 → BC (decide (x.2 = (0 : Int))) (Exx Unit fun y => (((((3 : Nat) = 3 ∧ (7 : Nat) = 7 ∧ (∀ (i :
 Nat), i < 7 → [AV.bool false, AV.int .i64 0, AV.int .i64 0] = [AV.bool (leafF x.1.ws x.2 i).live, AV.int .i64 (leafF x.1.ws x.2 i).gen, AV.int .i64 (leafF
 x.1.ws x.2 i).next]) ∧ True) ∧ Tr 1 ((0 : Int) = leafErr x.1.ws x.2) ∧ True) ∧ True) ∧ ((105 : TypeId) = 105 ∧ (true = true ∧ NilNil ∧ (0 : Nat) = 0) ∧ (true =
 true ∧ NilNil ∧ (0 : Nat) = 0) ∧ True) ∧ devB x.1.ws = devB x.1.ws ∧ allocB x.1.a = allocB x.1.a ∧ true = true ∧ True) ∧ True) (Exx (StoreT × Int) fun x_1 =>
 (((true = true ∧ NilNil ∧ (0 : Nat) = 0) ∧ Tr 1 (x.2 = x_1.2) ∧ True) ∧ true = true ∧ ((105 : TypeId) = 105 ∧ (true = true ∧ NilNil ∧ (0 : Nat) = 0) ∧ (true =
 true ∧ NilNil ∧ (0 : Nat) = 0) ∧ True) ∧ devB x.1.ws = devB x_1.1.ws ∧ allocB x.1.a = allocB x_1.1.a ∧ True) ∧ (StoreW x_1.1 ∧ I64 x_1.2) ∧ ∀ (y : Nat), (lineL
 x_1.1.ws x_1.2).length ≤ y → BC (!decide (lineErr x_1.1.ws x_1.2 = (0 : Int))) (Exx Unit fun y => (((((3 : Nat) = 3 ∧ (7 : Nat) = 7 ∧ (∀ (i : Nat), i < 7 →
 [AV.bool false, AV.int .i64 0, AV.int .i64 0] = [AV.bool (leafF x.1.ws x.2 i).live, AV.int .i64 (leafF x.1.ws x.2 i).gen, AV.int .i64 (leafF x.1.ws x.2
 i).next]) ∧ True) ∧ Tr 1 (lineErr x_1.1.ws x_1.2 = leafErr x.1.ws x.2) ∧ True) ∧ True) ∧ ((105 : TypeId) = 105 ∧ (true = true ∧ NilNil ∧ (0 : Nat) = 0) ∧ (true
 = true ∧ NilNil ∧ (0 : Nat) = 0) ∧ True) ∧ devB x_1.1.ws = devB x.1.ws ∧ allocB x_1.1.a = allocB x.1.a ∧ true = true ∧ True) ∧ True) (Exx (List Nat) fun x_2 =>
 (((0 + (lineL x_1.1.ws x_1.2).length ≤ (lineL x_1.1.ws x_1.2).length ∧ (lineL x_1.1.ws x_1.2).length = x_2.length ∧ ∀ (i : Nat), i < x_2.length → [AV.int .u8
 (↑((lineL x_1.1.ws x_1.2).getD (0 + i) 0) : Int)] = [AV.int .u8 (↑(x_2.getD i 0) : Int)]) ∧ True) ∧ true = true ∧ True) ∧ Oct x_2 ∧ ∀ (y : Unit), True → BC
 (!decide (isLeaf x_2)) (Exx Unit fun y => (((((3 : Nat) = 3 ∧ (7 : Nat) = 7 ∧ (∀ (i : Nat), i < 7 → [AV.bool false, AV.int .i64 0, AV.int .i64 0] = [AV.bool
 (leafF x.1.ws x.2 i).live, AV.int .i64 (leafF x.1.ws x.2 i).gen, AV.int .i64 (leafF x.1.ws x.2 i).next]) ∧ True) ∧ Tr 1 ((31 : Int) = leafErr x.1.ws x.2) ∧
 True) ∧ True) ∧ ((105 : TypeId) = 105 ∧ (true = true ∧ NilNil ∧ (0 : Nat) = 0) ∧ (true = true ∧ NilNil ∧ (0 : Nat) = 0) ∧ True) ∧ devB x_1.1.ws = devB x.1.ws ∧
 allocB x_1.1.a = allocB x.1.a ∧ true = true ∧ True) ∧ True) (Exx Unit fun y => (((((3 : Nat) = 3 ∧ (7 : Nat) = 7 ∧ (∀ (i : Nat), i < 7 → [AV.bool (getLeafF x_2
 i).live, AV.int .i64 (getLeafF x_2 i).gen, AV.int .i64 (getLeafF x_2 i).next] = [AV.bool (leafF x.1.ws x.2 i).live, AV.int .i64 (leafF x.1.ws x.2 i).gen, AV.int
 .i64 (leafF x.1.ws x.2 i).next]) ∧ True) ∧ Tr 1 ((0 : Int) = leafErr x.1.ws x.2) ∧ True) ∧ True) ∧ ((105 : TypeId) = 105 ∧ (true = true ∧ NilNil ∧ (0 : Nat) =
 0) ∧ (true = true ∧ NilNil ∧ (0 : Nat) = 0) ∧ True) ∧ devB x_1.1.ws = devB x.1.ws ∧ allocB x_1.1.a = allocB x.1.a ∧ true = true ∧ True) ∧ True)))) = (fnVC tb [(66, specOf storeGetC), (68, specOf getLeafC)] Tryd.f57 storeLeafC (fun _ => {}) (fun _ => none)) := by kernel_rfl 

theorem storeLeaf_ok : SpecOk Tryd.prog 57 (specOf storeLeafC) := by
  refine specOk mixed tb_ok (SPok.cons storeGet_ok (SPok.cons getLeaf_ok SPok.nil)) Tryd.func57 (by decide) (storeSetC_ok fun _ => ⟨⟨fun _ _ => ⟨rfl, rfl, rfl, trivial⟩, trivial⟩, rfl, trivial⟩) (an := (fun _ => {})) (σ := (fun _ => none)) ?_
  rw [← storeLeafV]
  simp (maxSteps := 10000000) only [and_false, false_and, false_or, or_false, bOf_true, bOf_false, true_bOf, false_bOf, Exx, int_ite, merge_o, Tr_eq, true_and, and_true, exists_const, forall_const, implies_true, forall_eq, exists_eq, exists_eq', exists_eq_left, exists_eq_left', exists_eq_right, Prod.exists, Prod.forall, and_assoc, exists_and_left, BC_iff, Bool.not_eq_true', Bool.not_eq_false', decide_eq_true_eq, decide_eq_false_iff_not, I64, nat_cast_inj, Int.toNat_natCast, nats_iff, nats_iff', ints_iff, ints_iff', natss_iff, natss_iff', nilnil, litL_eq, str_inj, str_append, str_length, str_getD, str_take, lit1_iff, one_iff, two_iff, one_get, Nat.zero_add, Nat.sub_zero, Nat.reduceMul, Nat.reduceDiv, Nat.reduceAdd, Int.reduceToNat, Nat.not_lt_zero, if_false, if_true, Nat.le_refl, List.length_singleton, List.length_cons, List.length_nil, Bool.false_eq_true, not_true_eq_false, false_implies, not_false_eq_true, Prod.mk.injEq, devB_inj, allocB_inj]
  rintro s a ⟨h, h1, h2⟩
  refine ⟨fun h0 => ⟨fun i _ => by rw [leafF, if_pos h0]; rfl, by rw [leafErr, if_pos h0]⟩, fun hne => ⟨s, rfl, rfl, h, h1, h2, fun y hy => ⟨fun hl => ⟨fun i _ => ?_, ?_, rfl, rfl⟩, fun hl => ⟨lineL_oct _ _, fun hn => ⟨fun i _ => ?_, ?_, rfl, rfl⟩, fun hf => ⟨fun i _ => by rw [leafF, if_neg hne], ?_, rfl, rfl⟩⟩⟩⟩⟩
  · rw [leafF, if_neg hne, lineL_out hl, getLeafF, if_neg not_leaf_nil]; rfl
  · rw [leafErr, if_neg hne, if_neg hl]
  · rw [leafF, if_neg hne, getLeafF, if_neg hn]; rfl
  · rw [leafErr, if_neg hne, if_pos hl, if_neg hn]
  · rw [leafErr, if_neg hne, if_pos hl, if_pos hf]

def wb1 (ws : List Nat) (top slot : Int) : Int := fanF ws top (placeK slot 0)
def wb2 (ws : List Nat) (top slot : Int) : Int := fanF ws (wb1 ws top slot) (placeK slot 1)
def walkErr (ws : List Nat) (top slot : Int) : Int :=
  if placeOk slot then if fanErr ws top = 0 then if fanErr ws (wb1 ws top slot) = 0 then leafErr ws (wb2 ws top slot) else fanErr ws (wb1 ws top slot) else fanErr ws top else 2
def wayB (ws : List Nat) (top slot : Int) (i : Nat) : Int := if walkErr ws top slot = 0 then (if i = 0 then top else if i = 1 then wb1 ws top slot else wb2 ws top slot) else 0
def wayK (ws : List Nat) (top slot : Int) (i : Nat) : Nat := if walkErr ws top slot = 0 then placeK slot i else 0
def wayT (ws : List Nat) (top slot : Int) (i : Nat) : Int := if walkErr ws top slot = 0 then fanF ws top i else 0
def wayF (ws : List Nat) (top slot : Int) (i : Nat) : Int := if walkErr ws top slot = 0 then fanF ws (wb1 ws top slot) i else 0
def wayL (ws : List Nat) (top slot : Int) (i : Nat) : SeatT := if walkErr ws top slot = 0 then leafF ws (wb2 ws top slot) i else seatZ
def wayA (ws : List Nat) (top slot : Int) : AV := .agg [.arr 1 3 (fun i => [i64 (wayB ws top slot i)]), .arr 1 3 (fun i => [i64 (wayK ws top slot i : Nat)]), .arr 1 16 (fun i => [i64 (wayT ws top slot i)]), .arr 1 16 (fun i => [i64 (wayF ws top slot i)]), .arr 3 7 (fun i => seatV (wayL ws top slot i))]
def walkC : Ctr := storeSetC (Int × Int) (fun x => I64 x.2.1 ∧ I64 x.2.2) (fun x => [i64 x.2.1, i64 x.2.2]) (fun x => x.1) (fun x => .tup [wayA x.1.ws x.2.1 x.2.2, i64 (walkErr x.1.ws x.2.1 x.2.2)])

theorem walkV : (∀ (x : StoreT × Int × Int), StoreW x.1 ∧ I64 x.2.1 ∧ I64 x.2.2 → Exx Int fun x_1 => ((Tr 1 (x.2.2 = x_1) ∧ True) ∧ true = true ∧ True) ∧
 (-9223372036854775808 ≤ x_1 ∧ x_1 ≤ (9223372036854775807 : Int)) ∧ ∀ (y : Unit), True → ((0 : Int) ≤ (0 : Int) ∧ (0 : Int) < (↑(3 : Nat) : Int)) ∧ (0 :
 Int).toNat < (3 : Nat) ∧ ((0 : Int) ≤ (1 : Int) ∧ (1 : Int) < (↑(3 : Nat) : Int)) ∧ (1 : Int).toNat < (3 : Nat) ∧ ((0 : Int) ≤ (2 : Int) ∧ (2 : Int) < (↑(3 :
 Nat) : Int)) ∧ (2 : Int).toNat < (3 : Nat) ∧ BC (!decide (placeOk x_1)) (Exx Unit fun y => (((((1 : Nat) = 1 ∧ (3 : Nat) = 3 ∧ (∀ (i : Nat), i < 3 → [AV.int
 .i64 0] = [AV.int .i64 (wayB x.1.ws x.2.1 x.2.2 i)]) ∧ (1 : Nat) = 1 ∧ (3 : Nat) = 3 ∧ (∀ (i : Nat), i < 3 → [AV.int .i64 0] = [AV.int .i64 (↑(wayK x.1.ws x.2.1
 x.2.2 i) : Int)]) ∧ (1 : Nat) = 1 ∧ (16 : Nat) = 16 ∧ (∀ (i : Nat), i < 16 → [AV.int .i64 0] = [AV.int .i64 (wayT x.1.ws x.2.1 x.2.2 i)]) ∧ (1 : Nat) = 1 ∧ (16
 : Nat) = 16 ∧ (∀ (i : Nat), i < 16 → [AV.int .i64 0] = [AV.int .i64 (wayF x.1.ws x.2.1 x.2.2 i)]) ∧ (3 : Nat) = 3 ∧ (7 : Nat) = 7 ∧ (∀ (i : Nat), i < 7 →
 [AV.bool false, AV.int .i64 0, AV.int .i64 0] = [AV.bool (wayL x.1.ws x.2.1 x.2.2 i).live, AV.int .i64 (wayL x.1.ws x.2.1 x.2.2 i).gen, AV.int .i64 (wayL x.1.ws
 x.2.1 x.2.2 i).next]) ∧ True) ∧ Tr 1 ((2 : Int) = walkErr x.1.ws x.2.1 x.2.2) ∧ True) ∧ True) ∧ ((105 : TypeId) = 105 ∧ (true = true ∧ NilNil ∧ (0 : Nat) = 0) ∧
 (true = true ∧ NilNil ∧ (0 : Nat) = 0) ∧ True) ∧ devB x.1.ws = devB x.1.ws ∧ allocB x.1.a = allocB x.1.a ∧ true = true ∧ True) ∧ True) (((0 : Int) ≤ (0 : Int) ∧
 (0 : Int) < (↑(3 : Nat) : Int)) ∧ (0 : Int).toNat < (3 : Nat) ∧ ((0 : Int) ≤ (0 : Int) ∧ (0 : Int) < (↑(3 : Nat) : Int)) ∧ (0 : Int).toNat < (3 : Nat) ∧ Exx
 (StoreT × Int) fun x_2 => (((true = true ∧ NilNil ∧ (0 : Nat) = 0) ∧ Tr 1 ((if (0 : Int).toNat = (0 : Int).toNat then x.2.1 else 0) = x_2.2) ∧ True) ∧ true =
 true ∧ ((105 : TypeId) = 105 ∧ (true = true ∧ NilNil ∧ (0 : Nat) = 0) ∧ (true = true ∧ NilNil ∧ (0 : Nat) = 0) ∧ True) ∧ devB x.1.ws = devB x_2.1.ws ∧ allocB
 x.1.a = allocB x_2.1.a ∧ True) ∧ (StoreW x_2.1 ∧ I64 x_2.2) ∧ ∀ (y : Unit), True → BC (!decide (fanErr x_2.1.ws x_2.2 = (0 : Int))) (Exx Unit fun y => (((((1 :
 Nat) = 1 ∧ (3 : Nat) = 3 ∧ (∀ (i : Nat), i < 3 → [AV.int .i64 0] = [AV.int .i64 (wayB x.1.ws x.2.1 x.2.2 i)]) ∧ (1 : Nat) = 1 ∧ (3 : Nat) = 3 ∧ (∀ (i : Nat), i
 < 3 → [AV.int .i64 0] = [AV.int .i64 (↑(wayK x.1.ws x.2.1 x.2.2 i) : Int)]) ∧ (1 : Nat) = 1 ∧ (16 : Nat) = 16 ∧ (∀ (i : Nat), i < 16 → [AV.int .i64 0] = [AV.int
 .i64 (wayT x.1.ws x.2.1 x.2.2 i)]) ∧ (1 : Nat) = 1 ∧ (16 : Nat) = 16 ∧ (∀ (i : Nat), i < 16 → [AV.int .i64 0] = [AV.int .i64 (wayF x.1.ws x.2.1 x.2.2 i)]) ∧ (3
 : Nat) = 3 ∧ (7 : Nat) = 7 ∧ (∀ (i : Nat), i < 7 → [AV.bool false, AV.int .i64 0, AV.int .i64 0] = [AV.bool (wayL x.1.ws x.2.1 x.2.2 i).live, AV.int .i64 (wayL
 x.1.ws x.2.1 x.2.2 i).gen, AV.int .i64 (wayL x.1.ws x.2.1 x.2.2 i).next]) ∧ True) ∧ Tr 1 (fanErr x_2.1.ws x_2.2 = walkErr x.1.ws x.2.1 x.2.2) ∧ True) ∧ True) ∧
 ((105 : TypeId) = 105 ∧ (true = true ∧ NilNil ∧ (0 : Nat) = 0) ∧ (true = true ∧ NilNil ∧ (0 : Nat) = 0) ∧ True) ∧ devB x_2.1.ws = devB x.1.ws ∧ allocB x_2.1.a =
 allocB x.1.a ∧ true = true ∧ True) ∧ True) (((0 : Int) ≤ (0 : Int) ∧ (0 : Int) < (↑(3 : Nat) : Int)) ∧ (0 : Int).toNat < (3 : Nat) ∧ (((0 : Int) ≤ if (0 :
 Int).toNat = (2 : Int).toNat then (↑(placeK x_1 2) : Int) else if (0 : Int).toNat = (1 : Int).toNat then (↑(placeK x_1 1) : Int) else if (0 : Int).toNat = (0 :
 Int).toNat then (↑(placeK x_1 0) : Int) else 0) ∧ (if (0 : Int).toNat = (2 : Int).toNat then (↑(placeK x_1 2) : Int) else if (0 : Int).toNat = (1 : Int).toNat
 then (↑(placeK x_1 1) : Int) else if (0 : Int).toNat = (0 : Int).toNat then (↑(placeK x_1 0) : Int) else 0) < (↑16 : Int)) ∧ (if (0 : Int).toNat = (2 :
 Int).toNat then (↑(placeK x_1 2) : Int) else if (0 : Int).toNat = (1 : Int).toNat then (↑(placeK x_1 1) : Int) else if (0 : Int).toNat = (0 : Int).toNat then
 (↑(placeK x_1 0) : Int) else 0).toNat < 16 ∧ ((0 : Int) ≤ (1 : Int) ∧ (1 : Int) < (↑(3 : Nat) : Int)) ∧ (1 : Int).toNat < (3 : Nat) ∧ ((0 : Int) ≤ (1 : Int) ∧
 (1 : Int) < (↑(3 : Nat) : Int)) ∧ (1 : Int).toNat < (3 : Nat) ∧ Exx (StoreT × Int) fun x_3 => (((true = true ∧ NilNil ∧ (0 : Nat) = 0) ∧ Tr 1 ((if (1 :
 Int).toNat = (1 : Int).toNat then fanF x_2.1.ws x_2.2 (if (0 : Int).toNat = (2 : Int).toNat then (↑(placeK x_1 2) : Int) else if (0 : Int).toNat = (1 :
 Int).toNat then (↑(placeK x_1 1) : Int) else if (0 : Int).toNat = (0 : Int).toNat then (↑(placeK x_1 0) : Int) else 0).toNat else if (1 : Int).toNat = (0 :
 Int).toNat then x.2.1 else 0) = x_3.2) ∧ True) ∧ true = true ∧ ((105 : TypeId) = 105 ∧ (true = true ∧ NilNil ∧ (0 : Nat) = 0) ∧ (true = true ∧ NilNil ∧ (0 :
 Nat) = 0) ∧ True) ∧ devB x_2.1.ws = devB x_3.1.ws ∧ allocB x_2.1.a = allocB x_3.1.a ∧ True) ∧ (StoreW x_3.1 ∧ I64 x_3.2) ∧ ∀ (y : Unit), True → BC (!decide
 (fanErr x_3.1.ws x_3.2 = (0 : Int))) (Exx Unit fun y => (((((1 : Nat) = 1 ∧ (3 : Nat) = 3 ∧ (∀ (i : Nat), i < 3 → [AV.int .i64 0] = [AV.int .i64 (wayB x.1.ws
 x.2.1 x.2.2 i)]) ∧ (1 : Nat) = 1 ∧ (3 : Nat) = 3 ∧ (∀ (i : Nat), i < 3 → [AV.int .i64 0] = [AV.int .i64 (↑(wayK x.1.ws x.2.1 x.2.2 i) : Int)]) ∧ (1 : Nat) = 1 ∧
 (16 : Nat) = 16 ∧ (∀ (i : Nat), i < 16 → [AV.int .i64 0] = [AV.int .i64 (wayT x.1.ws x.2.1 x.2.2 i)]) ∧ (1 : Nat) = 1 ∧ (16 : Nat) = 16 ∧ (∀ (i : Nat), i < 16 →
 [AV.int .i64 0] = [AV.int .i64 (wayF x.1.ws x.2.1 x.2.2 i)]) ∧ (3 : Nat) = 3 ∧ (7 : Nat) = 7 ∧ (∀ (i : Nat), i < 7 → [AV.bool false, AV.int .i64 0, AV.int .i64
 0] = [AV.bool (wayL x.1.ws x.2.1 x.2.2 i).live, AV.int .i64 (wayL x.1.ws x.2.1 x.2.2 i).gen, AV.int .i64 (wayL x.1.ws x.2.1 x.2.2 i).next]) ∧ True) ∧ Tr 1
 (fanErr x_3.1.ws x_3.2 = walkErr x.1.ws x.2.1 x.2.2) ∧ True) ∧ True) ∧ ((105 : TypeId) = 105 ∧ (true = true ∧ NilNil ∧ (0 : Nat) = 0) ∧ (true = true ∧ NilNil ∧
 (0 : Nat) = 0) ∧ True) ∧ devB x_3.1.ws = devB x.1.ws ∧ allocB x_3.1.a = allocB x.1.a ∧ true = true ∧ True) ∧ True) (((0 : Int) ≤ (1 : Int) ∧ (1 : Int) < (↑(3 :
 Nat) : Int)) ∧ (1 : Int).toNat < (3 : Nat) ∧ (((0 : Int) ≤ if (1 : Int).toNat = (2 : Int).toNat then (↑(placeK x_1 2) : Int) else if (1 : Int).toNat = (1 :
 Int).toNat then (↑(placeK x_1 1) : Int) else if (1 : Int).toNat = (0 : Int).toNat then (↑(placeK x_1 0) : Int) else 0) ∧ (if (1 : Int).toNat = (2 : Int).toNat
 then (↑(placeK x_1 2) : Int) else if (1 : Int).toNat = (1 : Int).toNat then (↑(placeK x_1 1) : Int) else if (1 : Int).toNat = (0 : Int).toNat then (↑(placeK x_1
 0) : Int) else 0) < (↑16 : Int)) ∧ (if (1 : Int).toNat = (2 : Int).toNat then (↑(placeK x_1 2) : Int) else if (1 : Int).toNat = (1 : Int).toNat then (↑(placeK
 x_1 1) : Int) else if (1 : Int).toNat = (0 : Int).toNat then (↑(placeK x_1 0) : Int) else 0).toNat < 16 ∧ ((0 : Int) ≤ (2 : Int) ∧ (2 : Int) < (↑(3 : Nat) :
 Int)) ∧ (2 : Int).toNat < (3 : Nat) ∧ ((0 : Int) ≤ (2 : Int) ∧ (2 : Int) < (↑(3 : Nat) : Int)) ∧ (2 : Int).toNat < (3 : Nat) ∧ Exx (StoreT × Int) fun x_4 =>
 (((true = true ∧ NilNil ∧ (0 : Nat) = 0) ∧ Tr 1 ((if (2 : Int).toNat = (2 : Int).toNat then fanF x_3.1.ws x_3.2 (if (1 : Int).toNat = (2 : Int).toNat then
 (↑(placeK x_1 2) : Int) else if (1 : Int).toNat = (1 : Int).toNat then (↑(placeK x_1 1) : Int) else if (1 : Int).toNat = (0 : Int).toNat then (↑(placeK x_1 0) :
 Int) else 0).toNat else if (2 : Int).toNat = (1 : Int).toNat then fanF x_2.1.ws x_2.2 (if (0 : Int).toNat = (2 : Int).toNat then (↑(placeK x_1 2) : Int) else if
 (0 : Int).toNat = (1 : Int).toNat then (↑(placeK x_1 1) : Int) else if (0 : Int).toNat = (0 : Int).toNat then (↑(placeK x_1 0) : Int) else 0).toNat else if (2 :
 Int).toNat = (0 : Int).toNat then x.2.1 else 0) = x_4.2) ∧ True) ∧ true = true ∧ ((105 : TypeId) = 105 ∧ (true = true ∧ NilNil ∧ (0 : Nat) = 0) ∧ (true = true ∧
 NilNil ∧ (0 : Nat) = 0) ∧ True) ∧ devB x_3.1.ws = devB x_4.1.ws ∧ allocB x_3.1.a = allocB x_4.1.a ∧ True) ∧ (StoreW x_4.1 ∧ I64 x_4.2) ∧ ∀ (y : Unit), True → BC
 (!decide (leafErr x_4.1.ws x_4.2 = (0 : Int))) (Exx Unit fun y => (((((1 : Nat) = 1 ∧ (3 : Nat) = 3 ∧ (∀ (i : Nat), i < 3 → [AV.int .i64 0] = [AV.int .i64 (wayB
 x.1.ws x.2.1 x.2.2 i)]) ∧ (1 : Nat) = 1 ∧ (3 : Nat) = 3 ∧ (∀ (i : Nat), i < 3 → [AV.int .i64 0] = [AV.int .i64 (↑(wayK x.1.ws x.2.1 x.2.2 i) : Int)]) ∧ (1 :
 Nat) = 1 ∧ (16 : Nat) = 16 ∧ (∀ (i : Nat), i < 16 → [AV.int .i64 0] = [AV.int .i64 (wayT x.1.ws x.2.1 x.2.2 i)]) ∧ (1 : Nat) = 1 ∧ (16 : Nat) = 16 ∧ (∀ (i :
 Nat), i < 16 → [AV.int .i64 0] = [AV.int .i64 (wayF x.1.ws x.2.1 x.2.2 i)]) ∧ (3 : Nat) = 3 ∧ (7 : Nat) = 7 ∧ (∀ (i : Nat), i < 7 → [AV.bool false, AV.int .i64
 0, AV.int .i64 0] = [AV.bool (wayL x.1.ws x.2.1 x.2.2 i).live, AV.int .i64 (wayL x.1.ws x.2.1 x.2.2 i).gen, AV.int .i64 (wayL x.1.ws x.2.1 x.2.2 i).next]) ∧
 True) ∧ Tr 1 (leafErr x_4.1.ws x_4.2 = walkErr x.1.ws x.2.1 x.2.2) ∧ True) ∧ True) ∧ ((105 : TypeId) = 105 ∧ (true = true ∧ NilNil ∧ (0 : Nat) = 0) ∧ (true =
 true ∧ NilNil ∧ (0 : Nat) = 0) ∧ True) ∧ devB x_4.1.ws = devB x.1.ws ∧ allocB x_4.1.a = allocB x.1.a ∧ true = true ∧ True) ∧ True) (Exx Unit fun y => (((((1 :
 Nat) = 1 ∧ (3 : Nat) = 3 ∧ (∀ (i : Nat), i < 3 → [AV.int .i64 (if i = Int.toNat 2 then fanF x_3.1.ws x_3.2 (if (1 : Int).toNat = (2 : Int).toNat then (↑(placeK
 x_1 2) : Int) else if (1 : Int).toNat = (1 : Int).toNat then (↑(placeK x_1 1) : Int) else if (1 : Int).toNat = (0 : Int).toNat then (↑(placeK x_1 0) : Int) else
 0).toNat else if i = Int.toNat 1 then fanF x_2.1.ws x_2.2 (if (0 : Int).toNat = (2 : Int).toNat then (↑(placeK x_1 2) : Int) else if (0 : Int).toNat = (1 :
 Int).toNat then (↑(placeK x_1 1) : Int) else if (0 : Int).toNat = (0 : Int).toNat then (↑(placeK x_1 0) : Int) else 0).toNat else if i = Int.toNat 0 then x.2.1
 else 0)] = [AV.int .i64 (wayB x.1.ws x.2.1 x.2.2 i)]) ∧ (1 : Nat) = 1 ∧ (3 : Nat) = 3 ∧ (∀ (i : Nat), i < 3 → [AV.int .i64 (if i = Int.toNat 2 then (↑(placeK
 x_1 2) : Int) else if i = Int.toNat 1 then (↑(placeK x_1 1) : Int) else if i = Int.toNat 0 then (↑(placeK x_1 0) : Int) else 0)] = [AV.int .i64 (↑(wayK x.1.ws
 x.2.1 x.2.2 i) : Int)]) ∧ (1 : Nat) = 1 ∧ (16 : Nat) = 16 ∧ (∀ (i : Nat), i < 16 → [AV.int .i64 (fanF x_2.1.ws x_2.2 i)] = [AV.int .i64 (wayT x.1.ws x.2.1 x.2.2
 i)]) ∧ (1 : Nat) = 1 ∧ (16 : Nat) = 16 ∧ (∀ (i : Nat), i < 16 → [AV.int .i64 (fanF x_3.1.ws x_3.2 i)] = [AV.int .i64 (wayF x.1.ws x.2.1 x.2.2 i)]) ∧ (3 : Nat) =
 3 ∧ (7 : Nat) = 7 ∧ (∀ (i : Nat), i < 7 → [AV.bool (leafF x_4.1.ws x_4.2 i).live, AV.int .i64 (leafF x_4.1.ws x_4.2 i).gen, AV.int .i64 (leafF x_4.1.ws x_4.2
 i).next] = [AV.bool (wayL x.1.ws x.2.1 x.2.2 i).live, AV.int .i64 (wayL x.1.ws x.2.1 x.2.2 i).gen, AV.int .i64 (wayL x.1.ws x.2.1 x.2.2 i).next]) ∧ True) ∧ Tr 1
 ((0 : Int) = walkErr x.1.ws x.2.1 x.2.2) ∧ True) ∧ True) ∧ ((105 : TypeId) = 105 ∧ (true = true ∧ NilNil ∧ (0 : Nat) = 0) ∧ (true = true ∧ NilNil ∧ (0 : Nat) =
 0) ∧ True) ∧ devB x_4.1.ws = devB x.1.ws ∧ allocB x_4.1.a = allocB x.1.a ∧ true = true ∧ True) ∧ True))))) = (fnVC tb [(55, specOf placeC), (56, specOf storeFanC), (57, specOf storeLeafC)] Tryd.f48 walkC (fun _ => {}) (fun _ => none)) := by kernel_rfl 

theorem walk_ok : SpecOk Tryd.prog 48 (specOf walkC) := by
  refine specOk mixed tb_ok (SPok.cons place_ok (SPok.cons storeFan_ok (SPok.cons storeLeaf_ok SPok.nil))) Tryd.func48 (by decide) (storeSetC_ok fun _ => ⟨⟨fun _ _ => ⟨rfl, trivial⟩, fun _ _ => ⟨rfl, trivial⟩, fun _ _ => ⟨rfl, trivial⟩, fun _ _ => ⟨rfl, trivial⟩, fun _ _ => ⟨rfl, rfl, rfl, trivial⟩, trivial⟩, rfl, trivial⟩) (an := (fun _ => {})) (σ := (fun _ => none)) ?_
  rw [← walkV]
  simp (maxSteps := 10000000) only [and_false, false_and, false_or, or_false, bOf_true, bOf_false, true_bOf, false_bOf, Exx, int_ite, merge_o, Tr_eq, true_and, and_true, exists_const, forall_const, implies_true, forall_eq, exists_eq, exists_eq', exists_eq_left, exists_eq_left', exists_eq_right, Prod.exists, Prod.forall, and_assoc, exists_and_left, BC_iff, Bool.not_eq_true', Bool.not_eq_false', decide_eq_true_eq, decide_eq_false_iff_not, I64, nat_cast_inj, Int.toNat_natCast, nats_iff, nats_iff', ints_iff, ints_iff', natss_iff, natss_iff', nilnil, litL_eq, str_inj, str_append, str_length, str_getD, str_take, lit1_iff, one_iff, two_iff, one_get, Nat.zero_add, Nat.sub_zero, Nat.reduceMul, Nat.reduceDiv, Nat.reduceAdd, Int.reduceToNat, Nat.not_lt_zero, if_false, if_true, Nat.le_refl, List.length_singleton, List.length_cons, List.length_nil, Bool.false_eq_true, not_true_eq_false, false_implies, not_false_eq_true, Prod.mk.injEq, devB_inj, allocB_inj]
  rintro s top slot ⟨h, h1, h2⟩
  have hb : ¬ walkErr s.ws top slot = 0 → ((∀ i, i < 3 → [AV.int IntKind.i64 0] = [AV.int IntKind.i64 (wayB s.ws top slot i)]) ∧ (∀ i, i < 3 → [AV.int IntKind.i64 0] = [AV.int IntKind.i64 (wayK s.ws top slot i : Nat)]) ∧ (∀ i, i < 16 → [AV.int IntKind.i64 0] = [AV.int IntKind.i64 (wayT s.ws top slot i)]) ∧ (∀ i, i < 16 → [AV.int IntKind.i64 0] = [AV.int IntKind.i64 (wayF s.ws top slot i)]) ∧ (∀ i, i < 7 → [AV.bool false, AV.int IntKind.i64 0, AV.int IntKind.i64 0] = [AV.bool (wayL s.ws top slot i).live, AV.int IntKind.i64 (wayL s.ws top slot i).gen, AV.int IntKind.i64 (wayL s.ws top slot i).next])) := fun hn =>
    ⟨fun i _ => by rw [wayB, if_neg hn], fun i _ => by rw [wayK, if_neg hn]; rfl, fun i _ => by rw [wayT, if_neg hn], fun i _ => by rw [wayF, if_neg hn], fun i _ => by rw [wayL, if_neg hn]; rfl⟩
  have hf1 := fanF_I s.ws top (placeK slot 0)
  have hf2 := fanF_I s.ws (wb1 s.ws top slot) (placeK slot 1)
  have hk : placeOk slot → placeK slot 0 < 16 ∧ placeK slot 1 < 16 := fun hp => by
    have := hp.2
    have e0 : placeK slot 0 = slot.toNat / 7 / 16 := by simp [placeK, hp]
    have e1 : placeK slot 1 = slot.toNat / 7 % 16 := by simp [placeK, hp]
    omega
  refine ⟨h2.2.1, h2.2.2, by omega, by omega, by omega, by omega, by omega, by omega, by omega, by omega, by omega, fun hn => ?_, fun hp => ⟨by omega, by omega, by omega, by omega, by omega, by omega, s, rfl, rfl, h, h1, h2.1, fun hn => ?_, fun hz => ⟨by omega, by omega, by omega, (show (0 : Int) ≤ (placeK slot 0 : Nat) by omega), (show ((placeK slot 0 : Nat) : Int) < ((16 : Nat) : Int) by have := hk hp; omega), (show placeK slot 0 < 16 from (hk hp).1), by omega, by omega, by omega, by omega, by omega, by omega, s, rfl, rfl, h, hf1.1, hf1.2, fun hn => ?_, fun hz2 => ⟨by omega, by omega, by omega, (show (0 : Int) ≤ (placeK slot 1 : Nat) by omega), (show ((placeK slot 1 : Nat) : Int) < ((16 : Nat) : Int) by have := hk hp; omega), (show placeK slot 1 < 16 from (hk hp).2), by omega, by omega, by omega, by omega, by omega, by omega, s, rfl, rfl, h, hf2.1, hf2.2, fun hn => ?_, fun hz3 => ?_⟩⟩⟩⟩
  · have e : walkErr s.ws top slot = 2 := by rw [walkErr, if_neg hn]
    have g := hb (by rw [e]; decide)
    exact ⟨g.1, g.2.1, g.2.2.1, g.2.2.2.1, g.2.2.2.2, e.symm⟩
  · have e : walkErr s.ws top slot = fanErr s.ws top := by rw [walkErr, if_pos hp, if_neg hn]
    have g := hb (by rw [e]; exact hn)
    exact ⟨g.1, g.2.1, g.2.2.1, g.2.2.2.1, g.2.2.2.2, e.symm, rfl, rfl⟩
  · have hn' : ¬ fanErr s.ws (wb1 s.ws top slot) = 0 := hn
    have e : walkErr s.ws top slot = fanErr s.ws (wb1 s.ws top slot) := by rw [walkErr, if_pos hp, if_pos hz, if_neg hn']
    have g := hb (by rw [e]; exact hn')
    exact ⟨g.1, g.2.1, g.2.2.1, g.2.2.2.1, g.2.2.2.2, e.symm, rfl, rfl⟩
  · have hz2' : fanErr s.ws (wb1 s.ws top slot) = 0 := hz2
    have hn' : ¬ leafErr s.ws (wb2 s.ws top slot) = 0 := hn
    have e : walkErr s.ws top slot = leafErr s.ws (wb2 s.ws top slot) := by rw [walkErr, if_pos hp, if_pos hz, if_pos hz2']
    have g := hb (by rw [e]; exact hn')
    exact ⟨g.1, g.2.1, g.2.2.1, g.2.2.2.1, g.2.2.2.2, e.symm, rfl, rfl⟩
  · have hz2' : fanErr s.ws (wb1 s.ws top slot) = 0 := hz2
    have hz3' : leafErr s.ws (wb2 s.ws top slot) = 0 := hz3
    have e : walkErr s.ws top slot = 0 := by rw [walkErr, if_pos hp, if_pos hz, if_pos hz2', hz3']
    refine ⟨fun i hi => ?_, fun i hi => ?_, fun i _ => by rw [wayT, if_pos e], fun i _ => by rw [wayF, if_pos e]; rfl, fun i _ => by rw [wayL, if_pos e]; rfl, e.symm, rfl, rfl⟩
    · have : i = 0 ∨ i = 1 ∨ i = 2 := by omega
      rw [wayB, if_pos e]
      rcases this with rfl | rfl | rfl <;> rfl
    · have : i = 0 ∨ i = 1 ∨ i = 2 := by omega
      rw [wayK, if_pos e]
      rcases this with rfl | rfl | rfl <;> rfl

def findS (ws : List Nat) (top slot : Int) : SeatT := if walkErr ws top slot = 0 then leafF ws (wb2 ws top slot) (placeK slot 2) else seatZ
def findC : Ctr := storeSetC (Int × Int) (fun x => I64 x.2.1 ∧ I64 x.2.2) (fun x => [i64 x.2.1, i64 x.2.2]) (fun x => x.1) (fun x => .tup [seatA (findS x.1.ws x.2.1 x.2.2), i64 (walkErr x.1.ws x.2.1 x.2.2)])

theorem findV : (∀ (x : StoreT × Int × Int), StoreW x.1 ∧ I64 x.2.1 ∧ I64 x.2.2 → Exx (StoreT × Int × Int) fun x_1 => (((true = true ∧ NilNil ∧ (0 : Nat) = 0) ∧
 Tr 1 (x.2.1 = x_1.2.1) ∧ Tr 1 (x.2.2 = x_1.2.2) ∧ True) ∧ true = true ∧ ((105 : TypeId) = 105 ∧ (true = true ∧ NilNil ∧ (0 : Nat) = 0) ∧ (true = true ∧ NilNil ∧
 (0 : Nat) = 0) ∧ True) ∧ devB x.1.ws = devB x_1.1.ws ∧ allocB x.1.a = allocB x_1.1.a ∧ True) ∧ (StoreW x_1.1 ∧ I64 x_1.2.1 ∧ I64 x_1.2.2) ∧ ∀ (y : Unit), True →
 BC (!decide (walkErr x_1.1.ws x_1.2.1 x_1.2.2 = (0 : Int))) (Exx Unit fun y => ((((false = (findS x.1.ws x.2.1 x.2.2).live ∧ Tr 1 ((0 : Int) = (findS x.1.ws
 x.2.1 x.2.2).gen) ∧ Tr 1 ((0 : Int) = (findS x.1.ws x.2.1 x.2.2).next) ∧ True) ∧ Tr 1 (walkErr x_1.1.ws x_1.2.1 x_1.2.2 = walkErr x.1.ws x.2.1 x.2.2) ∧ True) ∧
 True) ∧ ((105 : TypeId) = 105 ∧ (true = true ∧ NilNil ∧ (0 : Nat) = 0) ∧ (true = true ∧ NilNil ∧ (0 : Nat) = 0) ∧ True) ∧ devB x_1.1.ws = devB x.1.ws ∧ allocB
 x_1.1.a = allocB x.1.a ∧ true = true ∧ True) ∧ True) (((0 : Int) ≤ (2 : Int) ∧ (2 : Int) < (↑(3 : Nat) : Int)) ∧ (2 : Int).toNat < (3 : Nat) ∧ ((0 : Int) ≤
 (↑(wayK x_1.1.ws x_1.2.1 x_1.2.2 (Int.toNat 2)) : Int) ∧ (↑(wayK x_1.1.ws x_1.2.1 x_1.2.2 (Int.toNat 2)) : Int) < (↑7 : Int)) ∧ (↑(wayK x_1.1.ws x_1.2.1 x_1.2.2
 (Int.toNat 2)) : Int).toNat < 7 ∧ Exx Unit fun y => (((((wayL x_1.1.ws x_1.2.1 x_1.2.2 (↑(wayK x_1.1.ws x_1.2.1 x_1.2.2 (Int.toNat 2)) : Int).toNat).live =
 (findS x.1.ws x.2.1 x.2.2).live ∧ Tr 1 ((wayL x_1.1.ws x_1.2.1 x_1.2.2 (↑(wayK x_1.1.ws x_1.2.1 x_1.2.2 (Int.toNat 2)) : Int).toNat).gen = (findS x.1.ws x.2.1
 x.2.2).gen) ∧ Tr 1 ((wayL x_1.1.ws x_1.2.1 x_1.2.2 (↑(wayK x_1.1.ws x_1.2.1 x_1.2.2 (Int.toNat 2)) : Int).toNat).next = (findS x.1.ws x.2.1 x.2.2).next) ∧ True)
 ∧ Tr 1 ((0 : Int) = walkErr x.1.ws x.2.1 x.2.2) ∧ True) ∧ True) ∧ ((105 : TypeId) = 105 ∧ (true = true ∧ NilNil ∧ (0 : Nat) = 0) ∧ (true = true ∧ NilNil ∧ (0 :
 Nat) = 0) ∧ True) ∧ devB x_1.1.ws = devB x.1.ws ∧ allocB x_1.1.a = allocB x.1.a ∧ true = true ∧ True) ∧ True)) = (fnVC tb [(48, specOf walkC)] Tryd.f43 findC (fun _ => {}) (fun _ => none)) := by kernel_rfl 

theorem find_ok : SpecOk Tryd.prog 43 (specOf findC) := by
  refine specOk mixed tb_ok (SPok.cons walk_ok SPok.nil) Tryd.func43 (by decide) (storeSetC_ok fun _ => ⟨⟨rfl, rfl, rfl, trivial⟩, rfl, trivial⟩) (an := (fun _ => {})) (σ := (fun _ => none)) ?_
  rw [← findV]
  simp (maxSteps := 10000000) only [and_false, false_and, false_or, or_false, bOf_true, bOf_false, true_bOf, false_bOf, Exx, int_ite, merge_o, Tr_eq, true_and, and_true, exists_const, forall_const, implies_true, forall_eq, exists_eq, exists_eq', exists_eq_left, exists_eq_left', exists_eq_right, Prod.exists, Prod.forall, and_assoc, exists_and_left, BC_iff, Bool.not_eq_true', Bool.not_eq_false', decide_eq_true_eq, decide_eq_false_iff_not, I64, nat_cast_inj, Int.toNat_natCast, nats_iff, nats_iff', ints_iff, ints_iff', natss_iff, natss_iff', nilnil, litL_eq, str_inj, str_append, str_length, str_getD, str_take, lit1_iff, one_iff, two_iff, one_get, Nat.zero_add, Nat.sub_zero, Nat.reduceMul, Nat.reduceDiv, Nat.reduceAdd, Int.reduceToNat, Nat.not_lt_zero, if_false, if_true, Nat.le_refl, List.length_singleton, List.length_cons, List.length_nil, Bool.false_eq_true, not_true_eq_false, false_implies, not_false_eq_true, Prod.mk.injEq, devB_inj, allocB_inj]
  rintro s top slot ⟨h, h1, h2⟩
  refine ⟨s, rfl, rfl, h, h1, h2.1, h2.2.1, h2.2.2, fun hn => ?_, fun hz => ?_⟩
  · rw [findS, if_neg hn]; exact ⟨rfl, rfl, rfl, rfl, rfl, rfl⟩
  · have hp : placeOk slot := by
      by_cases hp : placeOk slot
      · exact hp
      · rw [walkErr, if_neg hp] at hz; cases hz
    have e2 : placeK slot 2 = slot.toNat % 7 := by simp [placeK, hp]
    rw [findS, if_pos hz, wayK, if_pos hz, wayL, if_pos hz]
    exact ⟨by omega, by omega, by omega, by omega, by omega, by omega, rfl, rfl, rfl, hz.symm, rfl, rfl⟩

def layR (s : StoreT) (a : Int) (b : List Nat) (ok : Bool) : Wr := if ok = true then (if a = 0 then makeR s b else turnR s a b) else { s := s, at_ := 0, e := 31 }
def storeLayC : Ctr := storeSetC (Int × List Nat × Bool) (fun x => I64 x.2.1 ∧ Oct x.2.2.1) (fun x => [i64 x.2.1, octA x.2.2.1, .bool x.2.2.2]) (fun x => (layR x.1 x.2.1 x.2.2.1 x.2.2.2).s) (fun x => wrA (layR x.1 x.2.1 x.2.2.1 x.2.2.2))

theorem storeLayV : (∀ (x : StoreT × Int × List Nat × Bool), StoreW x.1 ∧ I64 x.2.1 ∧ Oct x.2.2.1 → BC (!x.2.2.2) (Exx Unit fun y => (((Tr 1 ((0 : Int) = (layR
 x.1 x.2.1 x.2.2.1 x.2.2.2).at_) ∧ Tr 1 ((31 : Int) = (layR x.1 x.2.1 x.2.2.1 x.2.2.2).e) ∧ True) ∧ True) ∧ ((105 : TypeId) = 105 ∧ (true = true ∧ NilNil ∧ (0 :
 Nat) = 0) ∧ (true = true ∧ NilNil ∧ (0 : Nat) = 0) ∧ True) ∧ devB x.1.ws = devB (layR x.1 x.2.1 x.2.2.1 x.2.2.2).s.ws ∧ allocB x.1.a = allocB (layR x.1 x.2.1
 x.2.2.1 x.2.2.2).s.a ∧ true = true ∧ True) ∧ True) (BC (decide (x.2.1 = (0 : Int))) (Exx (StoreT × List Nat) fun x_1 => (((true = true ∧ NilNil ∧ (0 : Nat) = 0)
 ∧ (x.2.2.1.length = x_1.2.length ∧ ∀ (i : Nat), i < x_1.2.length → [AV.int .u8 (↑(x.2.2.1.getD i 0) : Int)] = [AV.int .u8 (↑(x_1.2.getD i 0) : Int)]) ∧ True) ∧
 true = true ∧ ((105 : TypeId) = 105 ∧ (true = true ∧ NilNil ∧ (0 : Nat) = 0) ∧ (true = true ∧ NilNil ∧ (0 : Nat) = 0) ∧ True) ∧ devB x.1.ws = devB x_1.1.ws ∧
 allocB x.1.a = allocB x_1.1.a ∧ True) ∧ (StoreW x_1.1 ∧ Oct x_1.2) ∧ ∀ (y : Unit), True → Exx Unit fun y => (((Tr 1 ((makeR x_1.1 x_1.2).at_ = (layR x.1 x.2.1
 x.2.2.1 x.2.2.2).at_) ∧ Tr 1 ((makeR x_1.1 x_1.2).e = (layR x.1 x.2.1 x.2.2.1 x.2.2.2).e) ∧ True) ∧ True) ∧ ((105 : TypeId) = 105 ∧ (true = true ∧ NilNil ∧ (0 :
 Nat) = 0) ∧ (true = true ∧ NilNil ∧ (0 : Nat) = 0) ∧ True) ∧ devB (makeR x_1.1 x_1.2).s.ws = devB (layR x.1 x.2.1 x.2.2.1 x.2.2.2).s.ws ∧ allocB (makeR x_1.1
 x_1.2).s.a = allocB (layR x.1 x.2.1 x.2.2.1 x.2.2.2).s.a ∧ true = true ∧ True) ∧ True) (Exx (StoreT × Int × List Nat) fun x_1 => (((true = true ∧ NilNil ∧ (0 :
 Nat) = 0) ∧ Tr 1 (x.2.1 = x_1.2.1) ∧ (x.2.2.1.length = x_1.2.2.length ∧ ∀ (i : Nat), i < x_1.2.2.length → [AV.int .u8 (↑(x.2.2.1.getD i 0) : Int)] = [AV.int .u8
 (↑(x_1.2.2.getD i 0) : Int)]) ∧ True) ∧ true = true ∧ ((105 : TypeId) = 105 ∧ (true = true ∧ NilNil ∧ (0 : Nat) = 0) ∧ (true = true ∧ NilNil ∧ (0 : Nat) = 0) ∧
 True) ∧ devB x.1.ws = devB x_1.1.ws ∧ allocB x.1.a = allocB x_1.1.a ∧ True) ∧ (StoreW x_1.1 ∧ I64 x_1.2.1 ∧ Oct x_1.2.2) ∧ ∀ (y : Unit), True → Exx Unit fun y
 => (((Tr 1 ((turnR x_1.1 x_1.2.1 x_1.2.2).at_ = (layR x.1 x.2.1 x.2.2.1 x.2.2.2).at_) ∧ Tr 1 ((turnR x_1.1 x_1.2.1 x_1.2.2).e = (layR x.1 x.2.1 x.2.2.1
 x.2.2.2).e) ∧ True) ∧ True) ∧ ((105 : TypeId) = 105 ∧ (true = true ∧ NilNil ∧ (0 : Nat) = 0) ∧ (true = true ∧ NilNil ∧ (0 : Nat) = 0) ∧ True) ∧ devB (turnR
 x_1.1 x_1.2.1 x_1.2.2).s.ws = devB (layR x.1 x.2.1 x.2.2.1 x.2.2.2).s.ws ∧ allocB (turnR x_1.1 x_1.2.1 x_1.2.2).s.a = allocB (layR x.1 x.2.1 x.2.2.1
 x.2.2.2).s.a ∧ true = true ∧ True) ∧ True))) = (fnVC tb [(61, specOf storeMakeC), (62, specOf storeTurnC)] Tryd.f51 storeLayC (fun _ => {}) (fun _ => none)) := by kernel_rfl 

theorem storeLay_ok : SpecOk Tryd.prog 51 (specOf storeLayC) := by
  refine specOk mixed tb_ok (SPok.cons storeMake_ok (SPok.cons storeTurn_ok SPok.nil)) Tryd.func51 (by decide) (storeSetC_ok fun _ => ⟨rfl, rfl, trivial⟩) (an := (fun _ => {})) (σ := (fun _ => none)) ?_
  rw [← storeLayV]
  simp (maxSteps := 10000000) only [and_false, false_and, false_or, or_false, bOf_true, bOf_false, true_bOf, false_bOf, Exx, int_ite, merge_o, Tr_eq, true_and, and_true, exists_const, forall_const, implies_true, forall_eq, exists_eq, exists_eq', exists_eq_left, exists_eq_left', exists_eq_right, Prod.exists, Prod.forall, and_assoc, exists_and_left, BC_iff, Bool.not_eq_true', Bool.not_eq_false', decide_eq_true_eq, decide_eq_false_iff_not, I64, nat_cast_inj, Int.toNat_natCast, nats_iff, nats_iff', ints_iff, ints_iff', natss_iff, natss_iff', nilnil, litL_eq, str_inj, str_append, str_length, str_getD, str_take, lit1_iff, one_iff, two_iff, one_get, Nat.zero_add, Nat.sub_zero, Nat.reduceMul, Nat.reduceDiv, Nat.reduceAdd, Int.reduceToNat, Nat.not_lt_zero, if_false, if_true, Nat.le_refl, List.length_singleton, List.length_cons, List.length_nil, Bool.false_eq_true, not_true_eq_false, false_implies, not_false_eq_true, Prod.mk.injEq, devB_inj, allocB_inj]
  rintro s a b ok ⟨h, h1, h2, hb⟩
  refine ⟨fun hn => ?_, fun hy => ⟨fun h0 => ⟨s, rfl, rfl, h, hb, ?_⟩, fun hne => ⟨s, rfl, rfl, h, h1, h2, hb, ?_⟩⟩⟩
  · subst hn; exact ⟨rfl, rfl, rfl, rfl⟩
  · subst hy; rw [layR, if_pos rfl, if_pos h0]; exact ⟨rfl, rfl, rfl, rfl⟩
  · subst hy; rw [layR, if_pos rfl, if_neg hne]; exact ⟨rfl, rfl, rfl, rfl⟩

def setLeaf (ws : List Nat) (top slot : Int) (x : SeatT) (i : Nat) : SeatT := if i = placeK slot 2 then x else leafF ws (wb2 ws top slot) i
def setFan (ws : List Nat) (top slot : Int) (a : Int) (i : Nat) : Int := if i = placeK slot 1 then a else fanF ws (wb1 ws top slot) i
def setTop (ws : List Nat) (top slot : Int) (a : Int) (i : Nat) : Int := if i = placeK slot 0 then a else fanF ws top i
def putTop (ws : List Nat) (top slot : Int) (s : StoreT) (a : Int) : Wr :=
  if a = wb1 ws top slot then { s := s, at_ := top, e := 0 } else layR s top (putFanL (setTop ws top slot a)) (decide (fanOk (setTop ws top slot a)))
def put1 (s : StoreT) (top slot : Int) (x : SeatT) : Wr := layR s (wb2 s.ws top slot) (putLeafL (setLeaf s.ws top slot x)) (decide (leafOk (setLeaf s.ws top slot x)))
def put2 (s : StoreT) (top slot : Int) (r : Wr) : Wr := layR r.s (wb1 s.ws top slot) (putFanL (setFan s.ws top slot r.at_)) (decide (fanOk (setFan s.ws top slot r.at_)))
def putR (s : StoreT) (top slot : Int) (x : SeatT) : Wr :=
  if seatOk x then
    if walkErr s.ws top slot = 0 then
      if (put1 s top slot x).e = 0 then
        if (put1 s top slot x).at_ = wb2 s.ws top slot then putTop s.ws top slot (put1 s top slot x).s (wb1 s.ws top slot)
        else if (put2 s top slot (put1 s top slot x)).e = 0 then putTop s.ws top slot (put2 s top slot (put1 s top slot x)).s (put2 s top slot (put1 s top slot x)).at_
        else { s := (put2 s top slot (put1 s top slot x)).s, at_ := 0, e := (put2 s top slot (put1 s top slot x)).e }
      else { s := (put1 s top slot x).s, at_ := 0, e := (put1 s top slot x).e }
    else { s := s, at_ := 0, e := walkErr s.ws top slot }
  else { s := s, at_ := 0, e := 2 }
def slotPutC : Ctr := storeSetC (Int × Int × SeatT) (fun x => I64 x.2.1 ∧ I64 x.2.2.1 ∧ SeatI x.2.2.2) (fun x => [i64 x.2.1, i64 x.2.2.1, seatA x.2.2.2]) (fun x => (putR x.1 x.2.1 x.2.2.1 x.2.2.2).s) (fun x => wrA (putR x.1 x.2.1 x.2.2.1 x.2.2.2))

theorem sealN_length {k t : Nat} {b : List Nat} (hb : b.length ≤ 56) : (sealN k t b).length = 64 := by
  rw [sealN, List.length_append, layN_length, restL]
  simp only [List.length_append, List.length_replicate, List.length_cons, List.length_nil]; omega
theorem sealN_lt {k t : Nat} {b : List Nat} (hk : k < 256) (ht : t < 256) (hb : ∀ c ∈ b, c < 256) : ∀ c ∈ sealN k t b, c < 256 := fun c hc => by
  rcases List.mem_append.1 hc with h | h
  · exact layN_lt _ _ c h
  · rcases List.mem_append.1 h with h | h
    · rcases List.mem_append.1 h with h | h
      · simp only [List.mem_cons, List.not_mem_nil, or_false] at h; omega
      · exact hb c h
    · have := (List.mem_replicate.1 h).2; omega
theorem putLeafL_oct (l : Nat → SeatT) : Oct (putLeafL l) := by
  unfold putLeafL
  split
  · have h7 := liveN_lt l 7
    have hs := seatsL_length l 7
    exact ⟨sealN_lt (by omega) (by omega) (seatsL_lt l 7), by rw [sealN_length (by omega)]; omega⟩
  · exact ⟨by simp, by simp⟩
theorem putFanL_oct (f : Nat → Int) : Oct (putFanL f) := by
  unfold putFanL
  split
  · have hs := kidsL_length f 16
    exact ⟨sealN_lt (by omega) (by omega) (kidsL_lt f 16), by rw [sealN_length (by omega)]; omega⟩
  · exact ⟨by simp, by simp⟩
theorem I64_0 : I64 0 := ⟨by omega, by omega⟩
theorem writtenR_at {s : StoreT} {a : Int} {b : List Nat} (h : I64 a) : I64 (writtenR s a b).at_ := by
  unfold writtenR
  simp only
  split
  · exact h
  · exact I64_0
theorem makeR_at {s : StoreT} (h : StoreW s) (b : List Nat) : I64 (makeR s b).at_ := by
  unfold makeR
  split
  · split
    · exact writtenR_at (takeAt_I64 h.2 _)
    · exact I64_0
  · exact I64_0
theorem turnR_at {s : StoreT} (h : StoreW s) {a : Int} (ha : I64 a) (b : List Nat) : I64 (turnR s a b).at_ := by
  unfold turnR
  split
  · split
    · exact writtenR_at ha
    · split
      · exact makeR_at h b
      · exact I64_0
  · exact I64_0
theorem layR_at {s : StoreT} (h : StoreW s) {a : Int} (ha : I64 a) (b : List Nat) (ok : Bool) : I64 (layR s a b ok).at_ := by
  unfold layR
  split
  · split
    · exact makeR_at h b
    · exact turnR_at h ha b
  · exact I64_0
theorem layR_W {s : StoreT} (h : StoreW s) (a : Int) {b : List Nat} (hb : Oct b) (ok : Bool) : StoreW (layR s a b ok).s := by
  unfold layR
  split
  · split
    · exact makeR_W h hb
    · exact turnR_W h a hb
  · exact h
theorem put1_W {s : StoreT} (h : StoreW s) (top slot : Int) (x : SeatT) : StoreW (put1 s top slot x).s := layR_W h _ (putLeafL_oct _) _
theorem put2_W {r : Wr} (h : StoreW r.s) (s : StoreT) (top slot : Int) : StoreW (put2 s top slot r).s := layR_W h _ (putFanL_oct _) _
theorem putTop_W {s : StoreT} (h : StoreW s) (ws : List Nat) (top slot : Int) (a : Int) : StoreW (putTop ws top slot s a).s := by
  unfold putTop
  split
  · exact h
  · exact layR_W h _ (putFanL_oct _) _
theorem putR_W {s : StoreT} (h : StoreW s) (top slot : Int) (x : SeatT) : StoreW (putR s top slot x).s := by
  have h1 := put1_W h top slot x
  have h2 := put2_W h1 s top slot
  unfold putR
  repeat' split
  all_goals first | exact h | exact h1 | exact h2 | exact putTop_W h1 _ _ _ _ | exact putTop_W h2 _ _ _ _
theorem putTop_at {s : StoreT} (h : StoreW s) (ws : List Nat) {top : Int} (ht : I64 top) (slot : Int) (a : Int) : I64 (putTop ws top slot s a).at_ := by
  unfold putTop
  split
  · exact ht
  · exact layR_at h ht _ _
theorem putR_at {s : StoreT} (h : StoreW s) {top : Int} (ht : I64 top) (slot : Int) (x : SeatT) : I64 (putR s top slot x).at_ := by
  have h1 := put1_W h top slot x
  have h2 := put2_W h1 s top slot
  unfold putR
  repeat' split
  all_goals first | exact I64_0 | exact putTop_at h1 _ ht _ _ | exact putTop_at h2 _ ht _ _

theorem slotPutV : (∀ (x : StoreT × Int × Int × SeatT), StoreW x.1 ∧ I64 x.2.1 ∧ I64 x.2.2.1 ∧ SeatI x.2.2.2 → Exx SeatT fun x_1 => (((x.2.2.2.live = x_1.live ∧
 Tr 1 (x.2.2.2.gen = x_1.gen) ∧ Tr 1 (x.2.2.2.next = x_1.next) ∧ True) ∧ True) ∧ true = true ∧ True) ∧ SeatI x_1 ∧ ∀ (y : Unit), True → BC (!decide (seatOk x_1))
 (Exx Unit fun y => (((Tr 1 ((0 : Int) = (putR x.1 x.2.1 x.2.2.1 x.2.2.2).at_) ∧ Tr 1 ((2 : Int) = (putR x.1 x.2.1 x.2.2.1 x.2.2.2).e) ∧ True) ∧ True) ∧ ((105 :
 TypeId) = 105 ∧ (true = true ∧ NilNil ∧ (0 : Nat) = 0) ∧ (true = true ∧ NilNil ∧ (0 : Nat) = 0) ∧ True) ∧ devB x.1.ws = devB (putR x.1 x.2.1 x.2.2.1
 x.2.2.2).s.ws ∧ allocB x.1.a = allocB (putR x.1 x.2.1 x.2.2.1 x.2.2.2).s.a ∧ true = true ∧ True) ∧ True) (Exx (StoreT × Int × Int) fun x_2 => (((true = true ∧
 NilNil ∧ (0 : Nat) = 0) ∧ Tr 1 (x.2.1 = x_2.2.1) ∧ Tr 1 (x.2.2.1 = x_2.2.2) ∧ True) ∧ true = true ∧ ((105 : TypeId) = 105 ∧ (true = true ∧ NilNil ∧ (0 : Nat) =
 0) ∧ (true = true ∧ NilNil ∧ (0 : Nat) = 0) ∧ True) ∧ devB x.1.ws = devB x_2.1.ws ∧ allocB x.1.a = allocB x_2.1.a ∧ True) ∧ (StoreW x_2.1 ∧ I64 x_2.2.1 ∧ I64
 x_2.2.2) ∧ ∀ (y : Unit), True → BC (!decide (walkErr x_2.1.ws x_2.2.1 x_2.2.2 = (0 : Int))) (Exx Unit fun y => (((Tr 1 ((0 : Int) = (putR x.1 x.2.1 x.2.2.1
 x.2.2.2).at_) ∧ Tr 1 (walkErr x_2.1.ws x_2.2.1 x_2.2.2 = (putR x.1 x.2.1 x.2.2.1 x.2.2.2).e) ∧ True) ∧ True) ∧ ((105 : TypeId) = 105 ∧ (true = true ∧ NilNil ∧
 (0 : Nat) = 0) ∧ (true = true ∧ NilNil ∧ (0 : Nat) = 0) ∧ True) ∧ devB x_2.1.ws = devB (putR x.1 x.2.1 x.2.2.1 x.2.2.2).s.ws ∧ allocB x_2.1.a = allocB (putR x.1
 x.2.1 x.2.2.1 x.2.2.2).s.a ∧ true = true ∧ True) ∧ True) (((0 : Int) ≤ (2 : Int) ∧ (2 : Int) < (↑(3 : Nat) : Int)) ∧ (2 : Int).toNat < (3 : Nat) ∧ ((0 : Int) ≤
 (↑(wayK x_2.1.ws x_2.2.1 x_2.2.2 (Int.toNat 2)) : Int) ∧ (↑(wayK x_2.1.ws x_2.2.1 x_2.2.2 (Int.toNat 2)) : Int) < (↑7 : Int)) ∧ (↑(wayK x_2.1.ws x_2.2.1 x_2.2.2
 (Int.toNat 2)) : Int).toNat < 7 ∧ Exx (Nat → SeatT) fun x_3 => ((((3 : Nat) = 3 ∧ (7 : Nat) = 7 ∧ (∀ (i : Nat), i < 7 → [AV.bool (if i = (↑(wayK x_2.1.ws
 x_2.2.1 x_2.2.2 (Int.toNat 2)) : Int).toNat then x.2.2.2.live else (wayL x_2.1.ws x_2.2.1 x_2.2.2 i).live), AV.int .i64 (if i = (↑(wayK x_2.1.ws x_2.2.1 x_2.2.2
 (Int.toNat 2)) : Int).toNat then x.2.2.2.gen else (wayL x_2.1.ws x_2.2.1 x_2.2.2 i).gen), AV.int .i64 (if i = (↑(wayK x_2.1.ws x_2.2.1 x_2.2.2 (Int.toNat 2)) :
 Int).toNat then x.2.2.2.next else (wayL x_2.1.ws x_2.2.1 x_2.2.2 i).next)] = [AV.bool (x_3 i).live, AV.int .i64 (x_3 i).gen, AV.int .i64 (x_3 i).next]) ∧ True)
 ∧ True) ∧ true = true ∧ True) ∧ (∀ (i : Nat), i < 7 → SeatI (x_3 i)) ∧ ∀ (y : Nat), (putLeafL x_3).length ≤ y → ((0 : Int) ≤ (2 : Int) ∧ (2 : Int) < (↑(3 : Nat)
 : Int)) ∧ (2 : Int).toNat < (3 : Nat) ∧ Exx (StoreT × Int × List Nat × Bool) fun x_4 => (((true = true ∧ NilNil ∧ (0 : Nat) = 0) ∧ Tr 1 (wayB x_2.1.ws x_2.2.1
 x_2.2.2 (Int.toNat 2) = x_4.2.1) ∧ (0 + (putLeafL x_3).length ≤ (putLeafL x_3).length ∧ (putLeafL x_3).length = x_4.2.2.1.length ∧ ∀ (i : Nat), i <
 x_4.2.2.1.length → [AV.int .u8 (↑((putLeafL x_3).getD (0 + i) 0) : Int)] = [AV.int .u8 (↑(x_4.2.2.1.getD i 0) : Int)]) ∧ decide (leafOk x_3) = x_4.2.2.2 ∧ True)
 ∧ true = true ∧ ((105 : TypeId) = 105 ∧ (true = true ∧ NilNil ∧ (0 : Nat) = 0) ∧ (true = true ∧ NilNil ∧ (0 : Nat) = 0) ∧ True) ∧ devB x_2.1.ws = devB x_4.1.ws
 ∧ allocB x_2.1.a = allocB x_4.1.a ∧ True) ∧ (StoreW x_4.1 ∧ I64 x_4.2.1 ∧ Oct x_4.2.2.1) ∧ ∀ (y : Unit), True → BC (!decide ((layR x_4.1 x_4.2.1 x_4.2.2.1
 x_4.2.2.2).e = (0 : Int))) (Exx Unit fun y => (((Tr 1 ((0 : Int) = (putR x.1 x.2.1 x.2.2.1 x.2.2.2).at_) ∧ Tr 1 ((layR x_4.1 x_4.2.1 x_4.2.2.1 x_4.2.2.2).e =
 (putR x.1 x.2.1 x.2.2.1 x.2.2.2).e) ∧ True) ∧ True) ∧ ((105 : TypeId) = 105 ∧ (true = true ∧ NilNil ∧ (0 : Nat) = 0) ∧ (true = true ∧ NilNil ∧ (0 : Nat) = 0) ∧
 True) ∧ devB (layR x_4.1 x_4.2.1 x_4.2.2.1 x_4.2.2.2).s.ws = devB (putR x.1 x.2.1 x.2.2.1 x.2.2.2).s.ws ∧ allocB (layR x_4.1 x_4.2.1 x_4.2.2.1 x_4.2.2.2).s.a =
 allocB (putR x.1 x.2.1 x.2.2.1 x.2.2.2).s.a ∧ true = true ∧ True) ∧ True) (((0 : Int) ≤ (2 : Int) ∧ (2 : Int) < (↑(3 : Nat) : Int)) ∧ (2 : Int).toNat < (3 :
 Nat) ∧ BC (!decide ((layR x_4.1 x_4.2.1 x_4.2.2.1 x_4.2.2.2).at_ = wayB x_2.1.ws x_2.2.1 x_2.2.2 (Int.toNat 2))) (((0 : Int) ≤ (1 : Int) ∧ (1 : Int) < (↑(3 :
 Nat) : Int)) ∧ (1 : Int).toNat < (3 : Nat) ∧ ((0 : Int) ≤ (↑(wayK x_2.1.ws x_2.2.1 x_2.2.2 (Int.toNat 1)) : Int) ∧ (↑(wayK x_2.1.ws x_2.2.1 x_2.2.2 (Int.toNat
 1)) : Int) < (↑16 : Int)) ∧ (↑(wayK x_2.1.ws x_2.2.1 x_2.2.2 (Int.toNat 1)) : Int).toNat < 16 ∧ Exx (Nat → Int) fun x_5 => ((((1 : Nat) = 1 ∧ (16 : Nat) = 16 ∧
 (∀ (i : Nat), i < 16 → [AV.int .i64 (if i = (↑(wayK x_2.1.ws x_2.2.1 x_2.2.2 (Int.toNat 1)) : Int).toNat then (layR x_4.1 x_4.2.1 x_4.2.2.1 x_4.2.2.2).at_ else
 wayF x_2.1.ws x_2.2.1 x_2.2.2 i)] = [AV.int .i64 (x_5 i)]) ∧ True) ∧ True) ∧ true = true ∧ True) ∧ (∀ (i : Nat), i < 16 → I64 (x_5 i)) ∧ ∀ (y : Nat), (putFanL
 x_5).length ≤ y → ((0 : Int) ≤ (1 : Int) ∧ (1 : Int) < (↑(3 : Nat) : Int)) ∧ (1 : Int).toNat < (3 : Nat) ∧ Exx (StoreT × Int × List Nat × Bool) fun x_6 =>
 (((true = true ∧ NilNil ∧ (0 : Nat) = 0) ∧ Tr 1 (wayB x_2.1.ws x_2.2.1 x_2.2.2 (Int.toNat 1) = x_6.2.1) ∧ (0 + (putFanL x_5).length ≤ (putFanL x_5).length ∧
 (putFanL x_5).length = x_6.2.2.1.length ∧ ∀ (i : Nat), i < x_6.2.2.1.length → [AV.int .u8 (↑((putFanL x_5).getD (0 + i) 0) : Int)] = [AV.int .u8
 (↑(x_6.2.2.1.getD i 0) : Int)]) ∧ decide (fanOk x_5) = x_6.2.2.2 ∧ True) ∧ true = true ∧ ((105 : TypeId) = 105 ∧ (true = true ∧ NilNil ∧ (0 : Nat) = 0) ∧ (true
 = true ∧ NilNil ∧ (0 : Nat) = 0) ∧ True) ∧ devB (layR x_4.1 x_4.2.1 x_4.2.2.1 x_4.2.2.2).s.ws = devB x_6.1.ws ∧ allocB (layR x_4.1 x_4.2.1 x_4.2.2.1
 x_4.2.2.2).s.a = allocB x_6.1.a ∧ True) ∧ (StoreW x_6.1 ∧ I64 x_6.2.1 ∧ Oct x_6.2.2.1) ∧ ∀ (y : Unit), True → BC (!decide ((layR x_6.1 x_6.2.1 x_6.2.2.1
 x_6.2.2.2).e = (0 : Int))) (Exx Unit fun y => (((Tr 1 ((0 : Int) = (putR x.1 x.2.1 x.2.2.1 x.2.2.2).at_) ∧ Tr 1 ((layR x_6.1 x_6.2.1 x_6.2.2.1 x_6.2.2.2).e =
 (putR x.1 x.2.1 x.2.2.1 x.2.2.2).e) ∧ True) ∧ True) ∧ ((105 : TypeId) = 105 ∧ (true = true ∧ NilNil ∧ (0 : Nat) = 0) ∧ (true = true ∧ NilNil ∧ (0 : Nat) = 0) ∧
 True) ∧ devB (layR x_6.1 x_6.2.1 x_6.2.2.1 x_6.2.2.2).s.ws = devB (putR x.1 x.2.1 x.2.2.1 x.2.2.2).s.ws ∧ allocB (layR x_6.1 x_6.2.1 x_6.2.2.1 x_6.2.2.2).s.a =
 allocB (putR x.1 x.2.1 x.2.2.1 x.2.2.2).s.a ∧ true = true ∧ True) ∧ True) (((0 : Int) ≤ (1 : Int) ∧ (1 : Int) < (↑(3 : Nat) : Int)) ∧ (1 : Int).toNat < (3 :
 Nat) ∧ BC (decide ((layR x_6.1 x_6.2.1 x_6.2.2.1 x_6.2.2.2).at_ = wayB x_2.1.ws x_2.2.1 x_2.2.2 (Int.toNat 1))) (Exx Unit fun y => (((Tr 1 (x.2.1 = (putR x.1
 x.2.1 x.2.2.1 x.2.2.2).at_) ∧ Tr 1 ((0 : Int) = (putR x.1 x.2.1 x.2.2.1 x.2.2.2).e) ∧ True) ∧ True) ∧ ((105 : TypeId) = 105 ∧ (true = true ∧ NilNil ∧ (0 : Nat)
 = 0) ∧ (true = true ∧ NilNil ∧ (0 : Nat) = 0) ∧ True) ∧ devB (layR x_6.1 x_6.2.1 x_6.2.2.1 x_6.2.2.2).s.ws = devB (putR x.1 x.2.1 x.2.2.1 x.2.2.2).s.ws ∧ allocB
 (layR x_6.1 x_6.2.1 x_6.2.2.1 x_6.2.2.2).s.a = allocB (putR x.1 x.2.1 x.2.2.1 x.2.2.2).s.a ∧ true = true ∧ True) ∧ True) (((0 : Int) ≤ (0 : Int) ∧ (0 : Int) <
 (↑(3 : Nat) : Int)) ∧ (0 : Int).toNat < (3 : Nat) ∧ ((0 : Int) ≤ (↑(wayK x_2.1.ws x_2.2.1 x_2.2.2 (Int.toNat 0)) : Int) ∧ (↑(wayK x_2.1.ws x_2.2.1 x_2.2.2
 (Int.toNat 0)) : Int) < (↑16 : Int)) ∧ (↑(wayK x_2.1.ws x_2.2.1 x_2.2.2 (Int.toNat 0)) : Int).toNat < 16 ∧ Exx (Nat → Int) fun x_7 => ((((1 : Nat) = 1 ∧ (16 :
 Nat) = 16 ∧ (∀ (i : Nat), i < 16 → [AV.int .i64 (if i = (↑(wayK x_2.1.ws x_2.2.1 x_2.2.2 (Int.toNat 0)) : Int).toNat then (layR x_6.1 x_6.2.1 x_6.2.2.1
 x_6.2.2.2).at_ else wayT x_2.1.ws x_2.2.1 x_2.2.2 i)] = [AV.int .i64 (x_7 i)]) ∧ True) ∧ True) ∧ true = true ∧ True) ∧ (∀ (i : Nat), i < 16 → I64 (x_7 i)) ∧ ∀
 (y : Nat), (putFanL x_7).length ≤ y → Exx (StoreT × Int × List Nat × Bool) fun x_8 => (((true = true ∧ NilNil ∧ (0 : Nat) = 0) ∧ Tr 1 (x.2.1 = x_8.2.1) ∧ (0 +
 (putFanL x_7).length ≤ (putFanL x_7).length ∧ (putFanL x_7).length = x_8.2.2.1.length ∧ ∀ (i : Nat), i < x_8.2.2.1.length → [AV.int .u8 (↑((putFanL x_7).getD (0
 + i) 0) : Int)] = [AV.int .u8 (↑(x_8.2.2.1.getD i 0) : Int)]) ∧ decide (fanOk x_7) = x_8.2.2.2 ∧ True) ∧ true = true ∧ ((105 : TypeId) = 105 ∧ (true = true ∧
 NilNil ∧ (0 : Nat) = 0) ∧ (true = true ∧ NilNil ∧ (0 : Nat) = 0) ∧ True) ∧ devB (layR x_6.1 x_6.2.1 x_6.2.2.1 x_6.2.2.2).s.ws = devB x_8.1.ws ∧ allocB (layR
 x_6.1 x_6.2.1 x_6.2.2.1 x_6.2.2.2).s.a = allocB x_8.1.a ∧ True) ∧ (StoreW x_8.1 ∧ I64 x_8.2.1 ∧ Oct x_8.2.2.1) ∧ ∀ (y : Unit), True → Exx Unit fun y => (((Tr 1
 ((layR x_8.1 x_8.2.1 x_8.2.2.1 x_8.2.2.2).at_ = (putR x.1 x.2.1 x.2.2.1 x.2.2.2).at_) ∧ Tr 1 ((layR x_8.1 x_8.2.1 x_8.2.2.1 x_8.2.2.2).e = (putR x.1 x.2.1
 x.2.2.1 x.2.2.2).e) ∧ True) ∧ True) ∧ ((105 : TypeId) = 105 ∧ (true = true ∧ NilNil ∧ (0 : Nat) = 0) ∧ (true = true ∧ NilNil ∧ (0 : Nat) = 0) ∧ True) ∧ devB
 (layR x_8.1 x_8.2.1 x_8.2.2.1 x_8.2.2.2).s.ws = devB (putR x.1 x.2.1 x.2.2.1 x.2.2.2).s.ws ∧ allocB (layR x_8.1 x_8.2.1 x_8.2.2.1 x_8.2.2.2).s.a = allocB (putR
 x.1 x.2.1 x.2.2.1 x.2.2.2).s.a ∧ true = true ∧ True) ∧ True))) (((0 : Int) ≤ (1 : Int) ∧ (1 : Int) < (↑(3 : Nat) : Int)) ∧ (1 : Int).toNat < (3 : Nat) ∧ ((0 :
 Int) ≤ (1 : Int) ∧ (1 : Int) < (↑(3 : Nat) : Int)) ∧ (1 : Int).toNat < (3 : Nat) ∧ BC (decide (wayB x_2.1.ws x_2.2.1 x_2.2.2 (Int.toNat 1) = wayB x_2.1.ws
 x_2.2.1 x_2.2.2 (Int.toNat 1))) (Exx Unit fun y => (((Tr 1 (x.2.1 = (putR x.1 x.2.1 x.2.2.1 x.2.2.2).at_) ∧ Tr 1 ((0 : Int) = (putR x.1 x.2.1 x.2.2.1
 x.2.2.2).e) ∧ True) ∧ True) ∧ ((105 : TypeId) = 105 ∧ (true = true ∧ NilNil ∧ (0 : Nat) = 0) ∧ (true = true ∧ NilNil ∧ (0 : Nat) = 0) ∧ True) ∧ devB (layR x_4.1
 x_4.2.1 x_4.2.2.1 x_4.2.2.2).s.ws = devB (putR x.1 x.2.1 x.2.2.1 x.2.2.2).s.ws ∧ allocB (layR x_4.1 x_4.2.1 x_4.2.2.1 x_4.2.2.2).s.a = allocB (putR x.1 x.2.1
 x.2.2.1 x.2.2.2).s.a ∧ true = true ∧ True) ∧ True) (((0 : Int) ≤ (0 : Int) ∧ (0 : Int) < (↑(3 : Nat) : Int)) ∧ (0 : Int).toNat < (3 : Nat) ∧ ((0 : Int) ≤
 (↑(wayK x_2.1.ws x_2.2.1 x_2.2.2 (Int.toNat 0)) : Int) ∧ (↑(wayK x_2.1.ws x_2.2.1 x_2.2.2 (Int.toNat 0)) : Int) < (↑16 : Int)) ∧ (↑(wayK x_2.1.ws x_2.2.1
 x_2.2.2 (Int.toNat 0)) : Int).toNat < 16 ∧ Exx (Nat → Int) fun x_5 => ((((1 : Nat) = 1 ∧ (16 : Nat) = 16 ∧ (∀ (i : Nat), i < 16 → [AV.int .i64 (if i = (↑(wayK
 x_2.1.ws x_2.2.1 x_2.2.2 (Int.toNat 0)) : Int).toNat then wayB x_2.1.ws x_2.2.1 x_2.2.2 (Int.toNat 1) else wayT x_2.1.ws x_2.2.1 x_2.2.2 i)] = [AV.int .i64 (x_5
 i)]) ∧ True) ∧ True) ∧ true = true ∧ True) ∧ (∀ (i : Nat), i < 16 → I64 (x_5 i)) ∧ ∀ (y : Nat), (putFanL x_5).length ≤ y → Exx (StoreT × Int × List Nat × Bool)
 fun x_6 => (((true = true ∧ NilNil ∧ (0 : Nat) = 0) ∧ Tr 1 (x.2.1 = x_6.2.1) ∧ (0 + (putFanL x_5).length ≤ (putFanL x_5).length ∧ (putFanL x_5).length =
 x_6.2.2.1.length ∧ ∀ (i : Nat), i < x_6.2.2.1.length → [AV.int .u8 (↑((putFanL x_5).getD (0 + i) 0) : Int)] = [AV.int .u8 (↑(x_6.2.2.1.getD i 0) : Int)]) ∧
 decide (fanOk x_5) = x_6.2.2.2 ∧ True) ∧ true = true ∧ ((105 : TypeId) = 105 ∧ (true = true ∧ NilNil ∧ (0 : Nat) = 0) ∧ (true = true ∧ NilNil ∧ (0 : Nat) = 0) ∧
 True) ∧ devB (layR x_4.1 x_4.2.1 x_4.2.2.1 x_4.2.2.2).s.ws = devB x_6.1.ws ∧ allocB (layR x_4.1 x_4.2.1 x_4.2.2.1 x_4.2.2.2).s.a = allocB x_6.1.a ∧ True) ∧
 (StoreW x_6.1 ∧ I64 x_6.2.1 ∧ Oct x_6.2.2.1) ∧ ∀ (y : Unit), True → Exx Unit fun y => (((Tr 1 ((layR x_6.1 x_6.2.1 x_6.2.2.1 x_6.2.2.2).at_ = (putR x.1 x.2.1
 x.2.2.1 x.2.2.2).at_) ∧ Tr 1 ((layR x_6.1 x_6.2.1 x_6.2.2.1 x_6.2.2.2).e = (putR x.1 x.2.1 x.2.2.1 x.2.2.2).e) ∧ True) ∧ True) ∧ ((105 : TypeId) = 105 ∧ (true =
 true ∧ NilNil ∧ (0 : Nat) = 0) ∧ (true = true ∧ NilNil ∧ (0 : Nat) = 0) ∧ True) ∧ devB (layR x_6.1 x_6.2.1 x_6.2.2.1 x_6.2.2.2).s.ws = devB (putR x.1 x.2.1
 x.2.2.1 x.2.2.2).s.ws ∧ allocB (layR x_6.1 x_6.2.1 x_6.2.2.1 x_6.2.2.2).s.a = allocB (putR x.1 x.2.1 x.2.2.1 x.2.2.2).s.a ∧ true = true ∧ True) ∧ True)))))) = (fnVC tb [(48, specOf walkC), (49, specOf rightSeatC), (50, specOf putLeafC), (51, specOf storeLayC), (52, specOf putFanC)] Tryd.f44 slotPutC (fun _ => {}) (fun _ => none)) := by kernel_rfl 

theorem slotPut_ok : SpecOk Tryd.prog 44 (specOf slotPutC) := by
  refine specOk mixed tb_ok (SPok.cons walk_ok (SPok.cons rightSeat_ok (SPok.cons putLeaf_ok (SPok.cons storeLay_ok (SPok.cons putFan_ok SPok.nil))))) Tryd.func44 (by decide) (storeSetC_ok fun _ => ⟨rfl, rfl, trivial⟩) (an := (fun _ => {})) (σ := (fun _ => none)) ?_
  rw [← slotPutV]
  simp (maxSteps := 10000000) only [and_false, false_and, false_or, or_false, bOf_true, bOf_false, true_bOf, false_bOf, Exx, int_ite, merge_o, Tr_eq, true_and, and_true, exists_const, forall_const, implies_true, forall_eq, exists_eq, exists_eq', exists_eq_left, exists_eq_left', exists_eq_right, Prod.exists, Prod.forall, and_assoc, exists_and_left, BC_iff, Bool.not_eq_true', Bool.not_eq_false', decide_eq_true_eq, decide_eq_false_iff_not, I64, nat_cast_inj, Int.toNat_natCast, nats_iff, nats_iff', ints_iff, ints_iff', natss_iff, natss_iff', nilnil, litL_eq, str_inj, str_append, str_length, str_getD, str_take, lit1_iff, one_iff, two_iff, one_get, Nat.zero_add, Nat.sub_zero, Nat.reduceMul, Nat.reduceDiv, Nat.reduceAdd, Int.reduceToNat, Nat.not_lt_zero, if_false, if_true, Nat.le_refl, List.length_singleton, List.length_cons, List.length_nil, Bool.false_eq_true, not_true_eq_false, false_implies, not_false_eq_true, Prod.mk.injEq, devB_inj, allocB_inj]
  rintro s top slot x ⟨h, h1, h2, hx⟩
  have ht : I64 top := ⟨h1, h2⟩
  refine ⟨x, rfl, rfl, rfl, hx.2.2, fun hn => ?_, fun hs => ⟨s, rfl, rfl, h, h1, h2, hx.1, hx.2.1, fun hn => ?_, fun hz => ?_⟩⟩
  · rw [putR, if_neg hn]; exact ⟨rfl, rfl, rfl, rfl⟩
  · rw [putR, if_pos hs, if_neg hn]; exact ⟨rfl, rfl, rfl, rfl⟩
  have hp : placeOk slot := by
    by_cases hp : placeOk slot
    · exact hp
    · rw [walkErr, if_neg hp] at hz; cases hz
  have hp2 := hp.2
  have e0 : placeK slot 0 = slot.toNat / 7 / 16 := by simp [placeK, hp]
  have e1 : placeK slot 1 = slot.toNat / 7 % 16 := by simp [placeK, hp]
  have e2 : placeK slot 2 = slot.toNat % 7 := by simp [placeK, hp]
  have hK : ∀ j, wayK s.ws top slot j = placeK slot j := fun j => by rw [wayK, if_pos hz]
  have hB1 : wayB s.ws top slot 1 = wb1 s.ws top slot := by rw [wayB, if_pos hz]; rfl
  have hB2 : wayB s.ws top slot 2 = wb2 s.ws top slot := by rw [wayB, if_pos hz]; rfl
  have hT : ∀ i, wayT s.ws top slot i = fanF s.ws top i := fun i => by rw [wayT, if_pos hz]
  have hF : ∀ i, wayF s.ws top slot i = fanF s.ws (wb1 s.ws top slot) i := fun i => by rw [wayF, if_pos hz]
  have hL : ∀ i, wayL s.ws top slot i = leafF s.ws (wb2 s.ws top slot) i := fun i => by rw [wayL, if_pos hz]
  simp only [hK, hB1, hB2, hT, hF, hL]
  have hb2 : I64 (wb2 s.ws top slot) := fanF_I _ _ _
  have hb1 : I64 (wb1 s.ws top slot) := fanF_I _ _ _
  have hW1 := put1_W h top slot x
  have hW2 := put2_W hW1 s top slot
  have ha1 : I64 (put1 s top slot x).at_ := layR_at h hb2 _ _
  have ha2 : I64 (put2 s top slot (put1 s top slot x)).at_ := layR_at hW1 hb1 _ _
  refine ⟨by omega, by omega, by omega, by omega, by omega, by omega, setLeaf s.ws top slot x, fun i hi => ?_, fun i hi => ?_, fun y hy => ⟨by omega, by omega, by omega, s, rfl, rfl, h, hb2.1, hb2.2, putLeafL_oct _, fun hne => ?_, fun he => ⟨by omega, by omega, by omega, fun hd => ⟨by omega, by omega, by omega, by omega, by omega, by omega, setFan s.ws top slot (put1 s top slot x).at_, fun i hi => ?_, fun i hi => ?_, fun y hy => ⟨by omega, by omega, by omega, (put1 s top slot x).s, rfl, rfl, hW1, hb1.1, hb1.2, putFanL_oct _, fun hne => ?_, fun he2 => ⟨by omega, by omega, by omega, fun hq => ?_, fun hq => ⟨by omega, by omega, by omega, by omega, by omega, by omega, setTop s.ws top slot (put2 s top slot (put1 s top slot x)).at_, fun i hi => ?_, fun i hi => ?_, fun y hy => ⟨(put2 s top slot (put1 s top slot x)).s, rfl, rfl, hW2, h1, h2, putFanL_oct _, ?_⟩⟩⟩⟩⟩, fun hd => ⟨by omega, by omega, by omega, by omega, by omega, by omega, ?_⟩⟩⟩⟩
  · unfold setLeaf
    by_cases e : i = placeK slot 2
    · rw [if_pos e, if_pos e, if_pos e, if_pos e]
    · rw [if_neg e, if_neg e, if_neg e, if_neg e]
  · unfold setLeaf
    split
    · exact hx.2.2
    · exact leafF_I _ _ _
  · have hne' : ¬ (put1 s top slot x).e = 0 := hne
    rw [putR, if_pos hs, if_pos hz, if_neg hne']
    exact ⟨rfl, rfl, rfl, rfl⟩
  · unfold setFan
    by_cases e : i = placeK slot 1
    · rw [if_pos e, if_pos e]; rfl
    · rw [if_neg e, if_neg e]
  · unfold setFan
    split
    · exact ha1
    · exact fanF_I _ _ _
  · have he' : (put1 s top slot x).e = 0 := he
    have hd' : ¬ (put1 s top slot x).at_ = wb2 s.ws top slot := hd
    have hne' : ¬ (put2 s top slot (put1 s top slot x)).e = 0 := hne
    rw [putR, if_pos hs, if_pos hz, if_pos he', if_neg hd', if_neg hne']
    exact ⟨rfl, rfl, rfl, rfl⟩
  · have he' : (put1 s top slot x).e = 0 := he
    have hd' : ¬ (put1 s top slot x).at_ = wb2 s.ws top slot := hd
    have he2' : (put2 s top slot (put1 s top slot x)).e = 0 := he2
    have hq' : (put2 s top slot (put1 s top slot x)).at_ = wb1 s.ws top slot := hq
    rw [putR, if_pos hs, if_pos hz, if_pos he', if_neg hd', if_pos he2', putTop, if_pos hq']
    exact ⟨rfl, rfl, rfl, rfl⟩
  · unfold setTop
    by_cases e : i = placeK slot 0
    · rw [if_pos e, if_pos e]; rfl
    · rw [if_neg e, if_neg e]
  · unfold setTop
    split
    · exact ha2
    · exact fanF_I _ _ _
  · have he' : (put1 s top slot x).e = 0 := he
    have hd' : ¬ (put1 s top slot x).at_ = wb2 s.ws top slot := hd
    have he2' : (put2 s top slot (put1 s top slot x)).e = 0 := he2
    have hq' : ¬ (put2 s top slot (put1 s top slot x)).at_ = wb1 s.ws top slot := hq
    rw [putR, if_pos hs, if_pos hz, if_pos he', if_neg hd', if_pos he2', putTop, if_neg hq']
    exact ⟨rfl, rfl, rfl, rfl⟩
  · have he' : (put1 s top slot x).e = 0 := he
    have hd' : (put1 s top slot x).at_ = wb2 s.ws top slot := hd
    rw [putR, if_pos hs, if_pos hz, if_pos he', if_pos hd', putTop, if_pos rfl]
    exact ⟨rfl, rfl, rfl, rfl⟩

end Yard
