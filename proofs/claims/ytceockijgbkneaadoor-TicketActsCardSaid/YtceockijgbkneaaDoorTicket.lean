import Derived.Test.YtceockijgbkneaaDoorSlotInv

namespace Yard
open Go Go.Sx Go.Proofs
set_option linter.unusedVariables false
set_option linter.unusedSimpArgs false
set_option maxRecDepth 4000

structure TickT where
  blocks : Int
  slots : Int
  gens : Int
  top : Int
  high : Int
  free : Int
deriving DecidableEq
abbrev tickA (t : TickT) : AV := .agg [i64 t.blocks, i64 t.slots, i64 t.gens, i64 t.top, i64 t.high, i64 t.free]
def tickZ : TickT := ⟨0, 0, 0, 0, 0, 0⟩
def TickI (t : TickT) : Prop := I64 t.blocks ∧ I64 t.slots ∧ I64 t.gens ∧ I64 t.top ∧ I64 t.high ∧ I64 t.free

structure HandT where
  slot : Int
  gen : Int
deriving DecidableEq
abbrev handA (h : HandT) : AV := .agg [i64 h.slot, i64 h.gen]
def handZ : HandT := ⟨0, 0⟩
def HandI (h : HandT) : Prop := I64 h.slot ∧ I64 h.gen
def geomOk (b s g : Int) : Prop := 16 ≤ b ∧ b ≤ 3072 ∧ 1 ≤ s ∧ s ≤ 1792 ∧ 1 ≤ g ∧ g ≤ 4294967295
instance (b s g : Int) : Decidable (geomOk b s g) := by unfold geomOk; infer_instance
def tickOk (t : TickT) : Prop := geomOk t.blocks t.slots t.gens ∧ 0 ≤ t.high ∧ t.high ≤ t.slots ∧ 0 ≤ t.free ∧ t.free ≤ t.high
instance (t : TickT) : Decidable (tickOk t) := by unfold tickOk; infer_instance
def geomRightC : Ctr := pureC (Int × Int × Int) (fun x => I64 x.1 ∧ I64 x.2.1 ∧ I64 x.2.2) (fun x => [.agg [i64 x.1, i64 x.2.1, i64 x.2.2]]) (fun x => .bool (decide (geomOk x.1 x.2.1 x.2.2)))
def tickRightC : Ctr := pureC TickT TickI (fun t => [tickA t]) (fun t => .bool (decide (tickOk t)))
def tickBlockC : Ctr := pureC Int (fun x => I64 x) (fun x => [i64 x]) (fun x => .bool (decide (2 ≤ x ∧ x < 3072)))
def tickMayC : Ctr := storeSetC TickT (fun x => TickI x.2) (fun x => [tickA x.2]) (fun x => x.1) (fun x => i64 (if tickOk x.2 then 0 else 2))

def turnT (s : StoreT) (t : TickT) (slot : Int) (x : SeatT) : TickT := if (putR s t.top slot x).e = 0 then { t with top := (putR s t.top slot x).at_ } else tickZ
def tickTurnC : Ctr := storeSetC (TickT × Int × SeatT) (fun x => TickI x.2.1 ∧ I64 x.2.2.1 ∧ SeatI x.2.2.2) (fun x => [tickA x.2.1, i64 x.2.2.1, seatA x.2.2.2]) (fun x => (putR x.1 x.2.1.top x.2.2.1 x.2.2.2).s) (fun x => .tup [tickA (turnT x.1 x.2.1 x.2.2.1 x.2.2.2), i64 (putR x.1 x.2.1.top x.2.2.1 x.2.2.2).e])

theorem geomRightV : (∀ (x : Int × Int × Int), I64 x.1 ∧ I64 x.2.1 ∧ I64 x.2.2 → BC (decide ((16 : Int) ≤ x.1)) (BC (decide (x.1 ≤ (3072 : Int))) (BC (decide
 ((1 : Int) ≤ x.2.1)) (BC (decide (x.2.1 ≤ (1792 : Int))) (BC (decide ((1 : Int) ≤ x.2.2)) (Exx Unit fun y => ((decide (x.2.2 ≤ (4294967295 : Int)) = decide
 (geomOk x.1 x.2.1 x.2.2) ∧ True) ∧ true = true ∧ True) ∧ True) (Exx Unit fun y => ((false = decide (geomOk x.1 x.2.1 x.2.2) ∧ True) ∧ true = true ∧ True) ∧
 True)) (Exx Unit fun y => ((false = decide (geomOk x.1 x.2.1 x.2.2) ∧ True) ∧ true = true ∧ True) ∧ True)) (Exx Unit fun y => ((false = decide (geomOk x.1 x.2.1
 x.2.2) ∧ True) ∧ true = true ∧ True) ∧ True)) (Exx Unit fun y => ((false = decide (geomOk x.1 x.2.1 x.2.2) ∧ True) ∧ true = true ∧ True) ∧ True)) (Exx Unit fun
 y => ((false = decide (geomOk x.1 x.2.1 x.2.2) ∧ True) ∧ true = true ∧ True) ∧ True)) = (fnVC tb [] Tryd.f32 geomRightC (fun _ => {}) (fun _ => none)) := by kernel_rfl 

theorem geomRight_ok : SpecOk Tryd.prog 32 (specOf geomRightC) := by
  refine specOk mixed tb_ok SPok.nil Tryd.func32 (by decide) (pureC_ok fun _ => rfl) (an := (fun _ => {})) (σ := (fun _ => none)) ?_
  rw [← geomRightV]
  simp (maxSteps := 10000000) only [and_false, false_and, false_or, or_false, bOf_true, bOf_false, true_bOf, false_bOf, Exx, int_ite, merge_o, Tr_eq, true_and, and_true, exists_const, forall_const, implies_true, forall_eq, exists_eq, exists_eq', exists_eq_left, exists_eq_left', exists_eq_right, Prod.exists, Prod.forall, and_assoc, exists_and_left, BC_iff, Bool.not_eq_true', Bool.not_eq_false', decide_eq_true_eq, decide_eq_false_iff_not, I64, nat_cast_inj, Int.toNat_natCast, nats_iff, nats_iff', ints_iff, ints_iff', natss_iff, natss_iff', nilnil, litL_eq, str_inj, str_append, str_length, str_getD, str_take, lit1_iff, one_iff, two_iff, one_get, Nat.zero_add, Nat.sub_zero, Nat.reduceMul, Nat.reduceDiv, Nat.reduceAdd, Int.reduceToNat, Nat.not_lt_zero, if_false, if_true, Nat.le_refl, List.length_singleton, List.length_cons, List.length_nil, Bool.false_eq_true, not_true_eq_false, false_implies, not_false_eq_true, Prod.mk.injEq]
  intro a b c _
  have hno : ¬ geomOk a b c → false = decide (geomOk a b c) := fun h => (decide_eq_false h).symm
  unfold geomOk at hno ⊢
  exact ⟨fun h1 => ⟨fun h2 => ⟨fun h3 => ⟨fun h4 => ⟨fun h5 => decide_eq_decide.2 (by omega), fun h => hno (by omega)⟩, fun h => hno (by omega)⟩, fun h => hno (by omega)⟩, fun h => hno (by omega)⟩, fun h => hno (by omega)⟩

theorem tickRightV : (∀ (x : TickT), TickI x → Exx (Int × Int × Int) fun x_1 => (((Tr 1 (x.blocks = x_1.1) ∧ Tr 1 (x.slots = x_1.2.1) ∧ Tr 1 (x.gens = x_1.2.2)
 ∧ True) ∧ True) ∧ true = true ∧ True) ∧ (I64 x_1.1 ∧ I64 x_1.2.1 ∧ I64 x_1.2.2) ∧ ∀ (y : Unit), True → BC (decide (geomOk x_1.1 x_1.2.1 x_1.2.2)) (BC (decide
 ((0 : Int) ≤ x.high)) (BC (decide (x.high ≤ x.slots)) (BC (decide ((0 : Int) ≤ x.free)) (Exx Unit fun y => ((decide (x.free ≤ x.high) = decide (tickOk x) ∧
 True) ∧ true = true ∧ True) ∧ True) (Exx Unit fun y => ((false = decide (tickOk x) ∧ True) ∧ true = true ∧ True) ∧ True)) (Exx Unit fun y => ((false = decide
 (tickOk x) ∧ True) ∧ true = true ∧ True) ∧ True)) (Exx Unit fun y => ((false = decide (tickOk x) ∧ True) ∧ true = true ∧ True) ∧ True)) (Exx Unit fun y =>
 ((false = decide (tickOk x) ∧ True) ∧ true = true ∧ True) ∧ True)) = (fnVC tb [(32, specOf geomRightC)] Tryd.f19 tickRightC (fun _ => {}) (fun _ => none)) := by kernel_rfl 

theorem tickRight_ok : SpecOk Tryd.prog 19 (specOf tickRightC) := by
  refine specOk mixed tb_ok (SPok.cons geomRight_ok SPok.nil) Tryd.func19 (by decide) (pureC_ok fun _ => rfl) (an := (fun _ => {})) (σ := (fun _ => none)) ?_
  rw [← tickRightV]
  simp (maxSteps := 10000000) only [and_false, false_and, false_or, or_false, bOf_true, bOf_false, true_bOf, false_bOf, Exx, int_ite, merge_o, Tr_eq, true_and, and_true, exists_const, forall_const, implies_true, forall_eq, exists_eq, exists_eq', exists_eq_left, exists_eq_left', exists_eq_right, Prod.exists, Prod.forall, and_assoc, exists_and_left, BC_iff, Bool.not_eq_true', Bool.not_eq_false', decide_eq_true_eq, decide_eq_false_iff_not, I64, nat_cast_inj, Int.toNat_natCast, nats_iff, nats_iff', ints_iff, ints_iff', natss_iff, natss_iff', nilnil, litL_eq, str_inj, str_append, str_length, str_getD, str_take, lit1_iff, one_iff, two_iff, one_get, Nat.zero_add, Nat.sub_zero, Nat.reduceMul, Nat.reduceDiv, Nat.reduceAdd, Int.reduceToNat, Nat.not_lt_zero, if_false, if_true, Nat.le_refl, List.length_singleton, List.length_cons, List.length_nil, Bool.false_eq_true, not_true_eq_false, false_implies, not_false_eq_true, Prod.mk.injEq]
  rintro t ⟨h1, h2, h3, h4, h5, h6⟩
  have hno : ¬ tickOk t → false = decide (tickOk t) := fun h => (decide_eq_false h).symm
  exact ⟨h1.1, h1.2, h2.1, h2.2, h3.1, h3.2, fun g => ⟨fun g1 => ⟨fun g2 => ⟨fun g3 => decide_eq_decide.2 ⟨fun k => ⟨g, g1, g2, g3, k⟩, fun k => k.2.2.2.2⟩, fun h => hno fun k => h k.2.2.2.1⟩, fun h => hno fun k => h k.2.2.1⟩, fun h => hno fun k => h k.2.1⟩, fun h => hno fun k => h k.1⟩

theorem tickBlockV : (∀ (x : Int), -9223372036854775808 ≤ x ∧ x ≤ (9223372036854775807 : Int) → BC (decide ((2 : Int) ≤ x)) (Exx Unit fun y => ((decide (x <
 (3072 : Int)) = decide ((2 : Int) ≤ x ∧ x < (3072 : Int)) ∧ True) ∧ true = true ∧ True) ∧ True) (Exx Unit fun y => ((false = decide ((2 : Int) ≤ x ∧ x < (3072 :
 Int)) ∧ True) ∧ true = true ∧ True) ∧ True)) = (fnVC tb [] Tryd.f28 tickBlockC (fun _ => {}) (fun _ => none)) := by kernel_rfl 

theorem tickBlock_ok : SpecOk Tryd.prog 28 (specOf tickBlockC) := by
  refine specOk mixed tb_ok SPok.nil Tryd.func28 (by decide) (pureC_ok fun _ => rfl) (an := (fun _ => {})) (σ := (fun _ => none)) ?_
  rw [← tickBlockV]
  simp (maxSteps := 10000000) only [and_false, false_and, false_or, or_false, bOf_true, bOf_false, true_bOf, false_bOf, Exx, int_ite, merge_o, Tr_eq, true_and, and_true, exists_const, forall_const, implies_true, forall_eq, exists_eq, exists_eq', exists_eq_left, exists_eq_left', exists_eq_right, Prod.exists, Prod.forall, and_assoc, exists_and_left, BC_iff, Bool.not_eq_true', Bool.not_eq_false', decide_eq_true_eq, decide_eq_false_iff_not, I64, nat_cast_inj, Int.toNat_natCast, nats_iff, nats_iff', ints_iff, ints_iff', natss_iff, natss_iff', nilnil, litL_eq, str_inj, str_append, str_length, str_getD, str_take, lit1_iff, one_iff, two_iff, one_get, Nat.zero_add, Nat.sub_zero, Nat.reduceMul, Nat.reduceDiv, Nat.reduceAdd, Int.reduceToNat, Nat.not_lt_zero, if_false, if_true, Nat.le_refl, List.length_singleton, List.length_cons, List.length_nil, Bool.false_eq_true, not_true_eq_false, false_implies, not_false_eq_true, Prod.mk.injEq]
  exact fun x _ => ⟨fun h => decide_eq_decide.2 (by omega), fun h => (decide_eq_false (by omega)).symm⟩

theorem tickMayV : (∀ (x : StoreT × TickT), StoreW x.1 ∧ TickI x.2 → Exx TickT fun x_1 => (((Tr 1 (x.2.blocks = x_1.blocks) ∧ Tr 1 (x.2.slots = x_1.slots) ∧ Tr
 1 (x.2.gens = x_1.gens) ∧ Tr 1 (x.2.top = x_1.top) ∧ Tr 1 (x.2.high = x_1.high) ∧ Tr 1 (x.2.free = x_1.free) ∧ True) ∧ True) ∧ true = true ∧ True) ∧ TickI x_1 ∧
 ∀ (y : Unit), True → BC (!decide (tickOk x_1)) (Exx Unit fun y => ((Tr 1 ((2 : Int) = if tickOk x.2 then 0 else 2) ∧ True) ∧ ((105 : TypeId) = 105 ∧ (true =
 true ∧ NilNil ∧ (0 : Nat) = 0) ∧ (true = true ∧ NilNil ∧ (0 : Nat) = 0) ∧ True) ∧ devB x.1.ws = devB x.1.ws ∧ allocB x.1.a = allocB x.1.a ∧ true = true ∧ True)
 ∧ True) (Exx Unit fun y => ((Tr 1 ((0 : Int) = if tickOk x.2 then 0 else 2) ∧ True) ∧ ((105 : TypeId) = 105 ∧ (true = true ∧ NilNil ∧ (0 : Nat) = 0) ∧ (true =
 true ∧ NilNil ∧ (0 : Nat) = 0) ∧ True) ∧ devB x.1.ws = devB x.1.ws ∧ allocB x.1.a = allocB x.1.a ∧ true = true ∧ True) ∧ True)) = (fnVC tb [(19, specOf tickRightC)] Tryd.f27 tickMayC (fun _ => {}) (fun _ => none)) := by kernel_rfl 

theorem tickMay_ok : SpecOk Tryd.prog 27 (specOf tickMayC) := by
  refine specOk mixed tb_ok (SPok.cons tickRight_ok SPok.nil) Tryd.func27 (by decide) (storeSetC_ok fun _ => rfl) (an := (fun _ => {})) (σ := (fun _ => none)) ?_
  rw [← tickMayV]
  simp (maxSteps := 10000000) only [and_false, false_and, false_or, or_false, bOf_true, bOf_false, true_bOf, false_bOf, Exx, int_ite, merge_o, Tr_eq, true_and, and_true, exists_const, forall_const, implies_true, forall_eq, exists_eq, exists_eq', exists_eq_left, exists_eq_left', exists_eq_right, Prod.exists, Prod.forall, and_assoc, exists_and_left, BC_iff, Bool.not_eq_true', Bool.not_eq_false', decide_eq_true_eq, decide_eq_false_iff_not, I64, nat_cast_inj, Int.toNat_natCast, nats_iff, nats_iff', ints_iff, ints_iff', natss_iff, natss_iff', nilnil, litL_eq, str_inj, str_append, str_length, str_getD, str_take, lit1_iff, one_iff, two_iff, one_get, Nat.zero_add, Nat.sub_zero, Nat.reduceMul, Nat.reduceDiv, Nat.reduceAdd, Int.reduceToNat, Nat.not_lt_zero, if_false, if_true, Nat.le_refl, List.length_singleton, List.length_cons, List.length_nil, Bool.false_eq_true, not_true_eq_false, false_implies, not_false_eq_true, Prod.mk.injEq, devB_inj, allocB_inj]
  rintro s t ⟨_, h⟩
  exact ⟨t, rfl, rfl, rfl, rfl, rfl, rfl, h, fun g => by rw [if_neg g], fun g => by rw [if_pos g]⟩

theorem tickTurnV : (∀ (x : StoreT × TickT × Int × SeatT), StoreW x.1 ∧ TickI x.2.1 ∧ I64 x.2.2.1 ∧ SeatI x.2.2.2 → Exx (StoreT × Int × Int × SeatT) fun x_1 =>
 (((true = true ∧ NilNil ∧ (0 : Nat) = 0) ∧ Tr 1 (x.2.1.top = x_1.2.1) ∧ Tr 1 (x.2.2.1 = x_1.2.2.1) ∧ (x.2.2.2.live = x_1.2.2.2.live ∧ Tr 1 (x.2.2.2.gen =
 x_1.2.2.2.gen) ∧ Tr 1 (x.2.2.2.next = x_1.2.2.2.next) ∧ True) ∧ True) ∧ true = true ∧ ((105 : TypeId) = 105 ∧ (true = true ∧ NilNil ∧ (0 : Nat) = 0) ∧ (true =
 true ∧ NilNil ∧ (0 : Nat) = 0) ∧ True) ∧ devB x.1.ws = devB x_1.1.ws ∧ allocB x.1.a = allocB x_1.1.a ∧ True) ∧ (StoreW x_1.1 ∧ I64 x_1.2.1 ∧ I64 x_1.2.2.1 ∧
 SeatI x_1.2.2.2) ∧ ∀ (y : Unit), True → BC (!decide ((putR x_1.1 x_1.2.1 x_1.2.2.1 x_1.2.2.2).e = (0 : Int))) (Exx Unit fun y => ((((Tr 1 ((0 : Int) = (turnT
 x.1 x.2.1 x.2.2.1 x.2.2.2).blocks) ∧ Tr 1 ((0 : Int) = (turnT x.1 x.2.1 x.2.2.1 x.2.2.2).slots) ∧ Tr 1 ((0 : Int) = (turnT x.1 x.2.1 x.2.2.1 x.2.2.2).gens) ∧ Tr
 1 ((0 : Int) = (turnT x.1 x.2.1 x.2.2.1 x.2.2.2).top) ∧ Tr 1 ((0 : Int) = (turnT x.1 x.2.1 x.2.2.1 x.2.2.2).high) ∧ Tr 1 ((0 : Int) = (turnT x.1 x.2.1 x.2.2.1
 x.2.2.2).free) ∧ True) ∧ Tr 1 ((putR x_1.1 x_1.2.1 x_1.2.2.1 x_1.2.2.2).e = (putR x.1 x.2.1.top x.2.2.1 x.2.2.2).e) ∧ True) ∧ True) ∧ ((105 : TypeId) = 105 ∧
 (true = true ∧ NilNil ∧ (0 : Nat) = 0) ∧ (true = true ∧ NilNil ∧ (0 : Nat) = 0) ∧ True) ∧ devB (putR x_1.1 x_1.2.1 x_1.2.2.1 x_1.2.2.2).s.ws = devB (putR x.1
 x.2.1.top x.2.2.1 x.2.2.2).s.ws ∧ allocB (putR x_1.1 x_1.2.1 x_1.2.2.1 x_1.2.2.2).s.a = allocB (putR x.1 x.2.1.top x.2.2.1 x.2.2.2).s.a ∧ true = true ∧ True) ∧
 True) (Exx Unit fun y => ((((Tr 1 (x.2.1.blocks = (turnT x.1 x.2.1 x.2.2.1 x.2.2.2).blocks) ∧ Tr 1 (x.2.1.slots = (turnT x.1 x.2.1 x.2.2.1 x.2.2.2).slots) ∧ Tr
 1 (x.2.1.gens = (turnT x.1 x.2.1 x.2.2.1 x.2.2.2).gens) ∧ Tr 1 ((putR x_1.1 x_1.2.1 x_1.2.2.1 x_1.2.2.2).at_ = (turnT x.1 x.2.1 x.2.2.1 x.2.2.2).top) ∧ Tr 1
 (x.2.1.high = (turnT x.1 x.2.1 x.2.2.1 x.2.2.2).high) ∧ Tr 1 (x.2.1.free = (turnT x.1 x.2.1 x.2.2.1 x.2.2.2).free) ∧ True) ∧ Tr 1 ((0 : Int) = (putR x.1
 x.2.1.top x.2.2.1 x.2.2.2).e) ∧ True) ∧ True) ∧ ((105 : TypeId) = 105 ∧ (true = true ∧ NilNil ∧ (0 : Nat) = 0) ∧ (true = true ∧ NilNil ∧ (0 : Nat) = 0) ∧ True)
 ∧ devB (putR x_1.1 x_1.2.1 x_1.2.2.1 x_1.2.2.2).s.ws = devB (putR x.1 x.2.1.top x.2.2.1 x.2.2.2).s.ws ∧ allocB (putR x_1.1 x_1.2.1 x_1.2.2.1 x_1.2.2.2).s.a =
 allocB (putR x.1 x.2.1.top x.2.2.1 x.2.2.2).s.a ∧ true = true ∧ True) ∧ True)) = (fnVC tb [(44, specOf slotPutC)] Tryd.f30 tickTurnC (fun _ => {}) (fun _ => none)) := by kernel_rfl 

theorem tickTurn_ok : SpecOk Tryd.prog 30 (specOf tickTurnC) := by
  refine specOk mixed tb_ok (SPok.cons slotPut_ok SPok.nil) Tryd.func30 (by decide) (storeSetC_ok fun _ => ⟨⟨rfl, rfl, rfl, rfl, rfl, rfl, trivial⟩, rfl, trivial⟩) (an := (fun _ => {})) (σ := (fun _ => none)) ?_
  rw [← tickTurnV]
  simp (maxSteps := 10000000) only [and_false, false_and, false_or, or_false, bOf_true, bOf_false, true_bOf, false_bOf, Exx, int_ite, merge_o, Tr_eq, true_and, and_true, exists_const, forall_const, implies_true, forall_eq, exists_eq, exists_eq', exists_eq_left, exists_eq_left', exists_eq_right, Prod.exists, Prod.forall, and_assoc, exists_and_left, BC_iff, Bool.not_eq_true', Bool.not_eq_false', decide_eq_true_eq, decide_eq_false_iff_not, I64, nat_cast_inj, Int.toNat_natCast, nats_iff, nats_iff', ints_iff, ints_iff', natss_iff, natss_iff', nilnil, litL_eq, str_inj, str_append, str_length, str_getD, str_take, lit1_iff, one_iff, two_iff, one_get, Nat.zero_add, Nat.sub_zero, Nat.reduceMul, Nat.reduceDiv, Nat.reduceAdd, Int.reduceToNat, Nat.not_lt_zero, if_false, if_true, Nat.le_refl, List.length_singleton, List.length_cons, List.length_nil, Bool.false_eq_true, not_true_eq_false, false_implies, not_false_eq_true, Prod.mk.injEq, devB_inj, allocB_inj]
  rintro s t slot x ⟨h, ht, h1, h2, hx⟩
  refine ⟨s, x, rfl, rfl, rfl, rfl, rfl, h, ht.2.2.2.1.1, ht.2.2.2.1.2, h1, h2, hx, fun hn => ?_, fun hz => ?_⟩
  · rw [turnT, if_neg hn]; exact ⟨rfl, rfl, rfl, rfl, rfl, rfl, rfl, rfl, rfl⟩
  · rw [turnT, if_pos hz]; exact ⟨rfl, rfl, rfl, rfl, rfl, rfl, hz.symm, rfl, rfl⟩

def nextE (ws : List Nat) (t : TickT) : Int :=
  if tickOk t then if t.free = 0 then (if t.high = t.slots then 10 else 0) else
    if walkErr ws t.top (t.free - 1) = 0 then (if (findS ws t.top (t.free - 1)).live = true ∨ (findS ws t.top (t.free - 1)).gen < 1 ∨ t.gens ≤ (findS ws t.top (t.free - 1)).gen then 31 else 0) else walkErr ws t.top (t.free - 1) else 2
def nextS (ws : List Nat) (t : TickT) : Int := if nextE ws t = 0 then (if t.free = 0 then t.high else t.free - 1) else 0
def nextX (ws : List Nat) (t : TickT) : SeatT := if nextE ws t = 0 then (if t.free = 0 then seatZ else findS ws t.top (t.free - 1)) else seatZ
def tickNextC : Ctr := storeSetC TickT (fun x => TickI x.2) (fun x => [tickA x.2]) (fun x => x.1) (fun x => .tup [i64 (nextS x.1.ws x.2), seatA (nextX x.1.ws x.2), i64 (nextE x.1.ws x.2)])

theorem tickNextV : (∀ (x : StoreT × TickT), StoreW x.1 ∧ TickI x.2 → Exx (StoreT × TickT) fun x_1 => (((true = true ∧ NilNil ∧ (0 : Nat) = 0) ∧ (Tr 1
 (x.2.blocks = x_1.2.blocks) ∧ Tr 1 (x.2.slots = x_1.2.slots) ∧ Tr 1 (x.2.gens = x_1.2.gens) ∧ Tr 1 (x.2.top = x_1.2.top) ∧ Tr 1 (x.2.high = x_1.2.high) ∧ Tr 1
 (x.2.free = x_1.2.free) ∧ True) ∧ True) ∧ true = true ∧ ((105 : TypeId) = 105 ∧ (true = true ∧ NilNil ∧ (0 : Nat) = 0) ∧ (true = true ∧ NilNil ∧ (0 : Nat) = 0)
 ∧ True) ∧ devB x.1.ws = devB x_1.1.ws ∧ allocB x.1.a = allocB x_1.1.a ∧ True) ∧ (StoreW x_1.1 ∧ TickI x_1.2) ∧ ∀ (y : Unit), True → BC (!decide ((if tickOk
 x_1.2 then 0 else 2) = (0 : Int))) (Exx Unit fun y => (((Tr 1 ((0 : Int) = nextS x.1.ws x.2) ∧ (false = (nextX x.1.ws x.2).live ∧ Tr 1 ((0 : Int) = (nextX
 x.1.ws x.2).gen) ∧ Tr 1 ((0 : Int) = (nextX x.1.ws x.2).next) ∧ True) ∧ Tr 1 ((if tickOk x_1.2 then 0 else 2) = nextE x.1.ws x.2) ∧ True) ∧ True) ∧ ((105 :
 TypeId) = 105 ∧ (true = true ∧ NilNil ∧ (0 : Nat) = 0) ∧ (true = true ∧ NilNil ∧ (0 : Nat) = 0) ∧ True) ∧ devB x_1.1.ws = devB x.1.ws ∧ allocB x_1.1.a = allocB
 x.1.a ∧ true = true ∧ True) ∧ True) (BC (decide (x.2.free = (0 : Int))) (BC (decide (x.2.high = x.2.slots)) (Exx Unit fun y => (((Tr 1 ((0 : Int) = nextS x.1.ws
 x.2) ∧ (false = (nextX x.1.ws x.2).live ∧ Tr 1 ((0 : Int) = (nextX x.1.ws x.2).gen) ∧ Tr 1 ((0 : Int) = (nextX x.1.ws x.2).next) ∧ True) ∧ Tr 1 ((10 : Int) =
 nextE x.1.ws x.2) ∧ True) ∧ True) ∧ ((105 : TypeId) = 105 ∧ (true = true ∧ NilNil ∧ (0 : Nat) = 0) ∧ (true = true ∧ NilNil ∧ (0 : Nat) = 0) ∧ True) ∧ devB
 x_1.1.ws = devB x.1.ws ∧ allocB x_1.1.a = allocB x.1.a ∧ true = true ∧ True) ∧ True) (Exx Unit fun y => (((Tr 1 (x.2.high = nextS x.1.ws x.2) ∧ (false = (nextX
 x.1.ws x.2).live ∧ Tr 1 ((0 : Int) = (nextX x.1.ws x.2).gen) ∧ Tr 1 ((0 : Int) = (nextX x.1.ws x.2).next) ∧ True) ∧ Tr 1 ((0 : Int) = nextE x.1.ws x.2) ∧ True)
 ∧ True) ∧ ((105 : TypeId) = 105 ∧ (true = true ∧ NilNil ∧ (0 : Nat) = 0) ∧ (true = true ∧ NilNil ∧ (0 : Nat) = 0) ∧ True) ∧ devB x_1.1.ws = devB x.1.ws ∧ allocB
 x_1.1.a = allocB x.1.a ∧ true = true ∧ True) ∧ True)) (I64 (x.2.free - 1) ∧ Exx (StoreT × Int × Int) fun x_2 => (((true = true ∧ NilNil ∧ (0 : Nat) = 0) ∧ Tr 1
 (x.2.top = x_2.2.1) ∧ Tr 1 (x.2.free - 1 = x_2.2.2) ∧ True) ∧ true = true ∧ ((105 : TypeId) = 105 ∧ (true = true ∧ NilNil ∧ (0 : Nat) = 0) ∧ (true = true ∧
 NilNil ∧ (0 : Nat) = 0) ∧ True) ∧ devB x_1.1.ws = devB x_2.1.ws ∧ allocB x_1.1.a = allocB x_2.1.a ∧ True) ∧ (StoreW x_2.1 ∧ I64 x_2.2.1 ∧ I64 x_2.2.2) ∧ ∀ (y :
 Unit), True → BC (decide (walkErr x_2.1.ws x_2.2.1 x_2.2.2 = (0 : Int))) (BC (findS x_2.1.ws x_2.2.1 x_2.2.2).live (Exx Unit fun y => (((Tr 1 ((0 : Int) = nextS
 x.1.ws x.2) ∧ (false = (nextX x.1.ws x.2).live ∧ Tr 1 ((0 : Int) = (nextX x.1.ws x.2).gen) ∧ Tr 1 ((0 : Int) = (nextX x.1.ws x.2).next) ∧ True) ∧ Tr 1 ((31 :
 Int) = nextE x.1.ws x.2) ∧ True) ∧ True) ∧ ((105 : TypeId) = 105 ∧ (true = true ∧ NilNil ∧ (0 : Nat) = 0) ∧ (true = true ∧ NilNil ∧ (0 : Nat) = 0) ∧ True) ∧
 devB x_2.1.ws = devB x.1.ws ∧ allocB x_2.1.a = allocB x.1.a ∧ true = true ∧ True) ∧ True) (BC (decide ((findS x_2.1.ws x_2.2.1 x_2.2.2).gen < (1 : Int))) (Exx
 Unit fun y => (((Tr 1 ((0 : Int) = nextS x.1.ws x.2) ∧ (false = (nextX x.1.ws x.2).live ∧ Tr 1 ((0 : Int) = (nextX x.1.ws x.2).gen) ∧ Tr 1 ((0 : Int) = (nextX
 x.1.ws x.2).next) ∧ True) ∧ Tr 1 ((31 : Int) = nextE x.1.ws x.2) ∧ True) ∧ True) ∧ ((105 : TypeId) = 105 ∧ (true = true ∧ NilNil ∧ (0 : Nat) = 0) ∧ (true = true
 ∧ NilNil ∧ (0 : Nat) = 0) ∧ True) ∧ devB x_2.1.ws = devB x.1.ws ∧ allocB x_2.1.a = allocB x.1.a ∧ true = true ∧ True) ∧ True) (BC (decide (x.2.gens ≤ (findS
 x_2.1.ws x_2.2.1 x_2.2.2).gen)) (Exx Unit fun y => (((Tr 1 ((0 : Int) = nextS x.1.ws x.2) ∧ (false = (nextX x.1.ws x.2).live ∧ Tr 1 ((0 : Int) = (nextX x.1.ws
 x.2).gen) ∧ Tr 1 ((0 : Int) = (nextX x.1.ws x.2).next) ∧ True) ∧ Tr 1 ((31 : Int) = nextE x.1.ws x.2) ∧ True) ∧ True) ∧ ((105 : TypeId) = 105 ∧ (true = true ∧
 NilNil ∧ (0 : Nat) = 0) ∧ (true = true ∧ NilNil ∧ (0 : Nat) = 0) ∧ True) ∧ devB x_2.1.ws = devB x.1.ws ∧ allocB x_2.1.a = allocB x.1.a ∧ true = true ∧ True) ∧
 True) (BC (!decide (walkErr x_2.1.ws x_2.2.1 x_2.2.2 = (0 : Int))) (Exx Unit fun y => (((Tr 1 ((0 : Int) = nextS x.1.ws x.2) ∧ (false = (nextX x.1.ws x.2).live
 ∧ Tr 1 ((0 : Int) = (nextX x.1.ws x.2).gen) ∧ Tr 1 ((0 : Int) = (nextX x.1.ws x.2).next) ∧ True) ∧ Tr 1 (walkErr x_2.1.ws x_2.2.1 x_2.2.2 = nextE x.1.ws x.2) ∧
 True) ∧ True) ∧ ((105 : TypeId) = 105 ∧ (true = true ∧ NilNil ∧ (0 : Nat) = 0) ∧ (true = true ∧ NilNil ∧ (0 : Nat) = 0) ∧ True) ∧ devB x_2.1.ws = devB x.1.ws ∧
 allocB x_2.1.a = allocB x.1.a ∧ true = true ∧ True) ∧ True) (I64 (x.2.free - 1) ∧ Exx Unit fun y => (((Tr 1 (x.2.free - 1 = nextS x.1.ws x.2) ∧ ((findS x_2.1.ws
 x_2.2.1 x_2.2.2).live = (nextX x.1.ws x.2).live ∧ Tr 1 ((findS x_2.1.ws x_2.2.1 x_2.2.2).gen = (nextX x.1.ws x.2).gen) ∧ Tr 1 ((findS x_2.1.ws x_2.2.1
 x_2.2.2).next = (nextX x.1.ws x.2).next) ∧ True) ∧ Tr 1 ((0 : Int) = nextE x.1.ws x.2) ∧ True) ∧ True) ∧ ((105 : TypeId) = 105 ∧ (true = true ∧ NilNil ∧ (0 :
 Nat) = 0) ∧ (true = true ∧ NilNil ∧ (0 : Nat) = 0) ∧ True) ∧ devB x_2.1.ws = devB x.1.ws ∧ allocB x_2.1.a = allocB x.1.a ∧ true = true ∧ True) ∧ True))))) (BC
 (!decide (walkErr x_2.1.ws x_2.2.1 x_2.2.2 = (0 : Int))) (Exx Unit fun y => (((Tr 1 ((0 : Int) = nextS x.1.ws x.2) ∧ (false = (nextX x.1.ws x.2).live ∧ Tr 1 ((0
 : Int) = (nextX x.1.ws x.2).gen) ∧ Tr 1 ((0 : Int) = (nextX x.1.ws x.2).next) ∧ True) ∧ Tr 1 (walkErr x_2.1.ws x_2.2.1 x_2.2.2 = nextE x.1.ws x.2) ∧ True) ∧
 True) ∧ ((105 : TypeId) = 105 ∧ (true = true ∧ NilNil ∧ (0 : Nat) = 0) ∧ (true = true ∧ NilNil ∧ (0 : Nat) = 0) ∧ True) ∧ devB x_2.1.ws = devB x.1.ws ∧ allocB
 x_2.1.a = allocB x.1.a ∧ true = true ∧ True) ∧ True) (I64 (x.2.free - 1) ∧ Exx Unit fun y => (((Tr 1 (x.2.free - 1 = nextS x.1.ws x.2) ∧ ((findS x_2.1.ws
 x_2.2.1 x_2.2.2).live = (nextX x.1.ws x.2).live ∧ Tr 1 ((findS x_2.1.ws x_2.2.1 x_2.2.2).gen = (nextX x.1.ws x.2).gen) ∧ Tr 1 ((findS x_2.1.ws x_2.2.1
 x_2.2.2).next = (nextX x.1.ws x.2).next) ∧ True) ∧ Tr 1 ((0 : Int) = nextE x.1.ws x.2) ∧ True) ∧ True) ∧ ((105 : TypeId) = 105 ∧ (true = true ∧ NilNil ∧ (0 :
 Nat) = 0) ∧ (true = true ∧ NilNil ∧ (0 : Nat) = 0) ∧ True) ∧ devB x_2.1.ws = devB x.1.ws ∧ allocB x_2.1.a = allocB x.1.a ∧ true = true ∧ True) ∧ True))))) = (fnVC tb [(27, specOf tickMayC), (43, specOf findC)] Tryd.f29 tickNextC (fun _ => {}) (fun _ => none)) := by kernel_rfl 

theorem tickNext_ok : SpecOk Tryd.prog 29 (specOf tickNextC) := by
  refine specOk mixed tb_ok (SPok.cons tickMay_ok (SPok.cons find_ok SPok.nil)) Tryd.func29 (by decide) (storeSetC_ok fun _ => ⟨rfl, ⟨rfl, rfl, rfl, trivial⟩, rfl, trivial⟩) (an := (fun _ => {})) (σ := (fun _ => none)) ?_
  rw [← tickNextV]
  simp (maxSteps := 10000000) only [and_false, false_and, false_or, or_false, bOf_true, bOf_false, true_bOf, false_bOf, Exx, int_ite, merge_o, Tr_eq, true_and, and_true, exists_const, forall_const, implies_true, forall_eq, exists_eq, exists_eq', exists_eq_left, exists_eq_left', exists_eq_right, Prod.exists, Prod.forall, and_assoc, exists_and_left, BC_iff, Bool.not_eq_true', Bool.not_eq_false', decide_eq_true_eq, decide_eq_false_iff_not, I64, nat_cast_inj, Int.toNat_natCast, nats_iff, nats_iff', ints_iff, ints_iff', natss_iff, natss_iff', nilnil, litL_eq, str_inj, str_append, str_length, str_getD, str_take, lit1_iff, one_iff, two_iff, one_get, Nat.zero_add, Nat.sub_zero, Nat.reduceMul, Nat.reduceDiv, Nat.reduceAdd, Int.reduceToNat, Nat.not_lt_zero, if_false, if_true, Nat.le_refl, List.length_singleton, List.length_cons, List.length_nil, Bool.false_eq_true, not_true_eq_false, false_implies, not_false_eq_true, Prod.mk.injEq, devB_inj, allocB_inj]
  rintro s t ⟨h, ht⟩
  have bad : ∀ e : Int, e ≠ 0 → nextE s.ws t = e → (0 = nextS s.ws t ∧ false = (nextX s.ws t).live ∧ 0 = (nextX s.ws t).gen ∧ 0 = (nextX s.ws t).next ∧ e = nextE s.ws t ∧ s.ws = s.ws ∧ s.a = s.a) := fun e he h => by
    have hn : ¬ nextE s.ws t = 0 := by rw [h]; exact he
    rw [nextS, if_neg hn, nextX, if_neg hn]; exact ⟨rfl, rfl, rfl, rfl, h.symm, rfl, rfl⟩
  obtain ⟨h1, h2, h3, h4, h5, h6⟩ := ht
  refine ⟨s, t, rfl, rfl, rfl, rfl, rfl, rfl, rfl, rfl, h, ⟨h1, h2, h3, h4, h5, h6⟩, fun hn => ?_, fun hz => ?_⟩
  · have hno : ¬ tickOk t := fun k => hn (by rw [if_pos k])
    rw [if_neg hno]
    exact bad 2 (by decide) (by rw [nextE, if_neg hno])
  · have hok : tickOk t := by
      by_cases k : tickOk t
      · exact k
      · rw [if_neg k] at hz; cases hz
    have hf := hok.2.2.2
    have h5' := hok.2.2.1
    have hs := hok.1.2.2.2.1
    refine ⟨fun h0 => ⟨fun hh => bad 10 (by decide) (by rw [nextE, if_pos hok, if_pos h0, if_pos hh]), fun hh => ?_⟩, fun h0 => ⟨by omega, by omega, s, rfl, rfl, h, h4.1, h4.2, by omega, by omega, fun hw => ⟨fun hl => bad 31 (by decide) ?_, fun hl => ⟨fun hg => bad 31 (by decide) ?_, fun hg => ⟨fun hg2 => bad 31 (by decide) ?_, fun hg2 => ⟨fun q => absurd hw q, fun _ => ?_⟩⟩⟩⟩, fun hw => ⟨fun _ => bad _ hw ?_, fun q => absurd q hw⟩⟩⟩
    · have e : nextE s.ws t = 0 := by rw [nextE, if_pos hok, if_pos h0, if_neg hh]
      rw [nextS, if_pos e, if_pos h0, nextX, if_pos e, if_pos h0]; exact ⟨rfl, rfl, rfl, rfl, e.symm, rfl, rfl⟩
    · rw [nextE, if_pos hok, if_neg h0, if_pos hw, if_pos (.inl hl)]
    · rw [nextE, if_pos hok, if_neg h0, if_pos hw, if_pos (.inr (.inl hg))]
    · rw [nextE, if_pos hok, if_neg h0, if_pos hw, if_pos (.inr (.inr hg2))]
    · have e : nextE s.ws t = 0 := by rw [nextE, if_pos hok, if_neg h0, if_pos hw, if_neg (by rw [hl]; simp [hg, hg2])]
      rw [nextS, if_pos e, if_neg h0, nextX, if_pos e, if_neg h0]; exact ⟨by omega, by omega, rfl, rfl, rfl, rfl, e.symm, rfl, rfl⟩
    · rw [nextE, if_pos hok, if_neg h0, if_neg hw]

def nextH (ws : List Nat) (t : TickT) : HandT := if nextE ws t = 0 then ⟨nextS ws t, (nextX ws t).gen + 1⟩ else handZ
theorem nextX_gen {ws : List Nat} {t : TickT} (h : nextE ws t = 0) : 0 ≤ (nextX ws t).gen ∧ (nextX ws t).gen < t.gens ∧ t.gens ≤ 4294967295 := by
  have hok : tickOk t := by
    by_cases k : tickOk t
    · exact k
    · rw [nextE, if_neg k] at h; cases h
  have hg := hok.1.2.2.2.2
  rw [nextX, if_pos h]
  by_cases h0 : t.free = 0
  · rw [if_pos h0]; exact ⟨by decide, by show (0 : Int) < _; omega, hg.2⟩
  · rw [if_neg h0]
    rw [nextE, if_pos hok, if_neg h0] at h
    by_cases hw : walkErr ws t.top (t.free - 1) = 0
    · rw [if_pos hw] at h
      by_cases hb : (findS ws t.top (t.free - 1)).live = true ∨ (findS ws t.top (t.free - 1)).gen < 1 ∨ t.gens ≤ (findS ws t.top (t.free - 1)).gen
      · rw [if_pos hb] at h; cases h
      · have h1 : ¬ (findS ws t.top (t.free - 1)).gen < 1 := fun k => hb (.inr (.inl k))
        have h2 : ¬ t.gens ≤ (findS ws t.top (t.free - 1)).gen := fun k => hb (.inr (.inr k))
        omega
    · rw [if_neg hw] at h; exact absurd h hw
def tickNextHC : Ctr := storeSetC TickT (fun x => TickI x.2) (fun x => [tickA x.2]) (fun x => x.1) (fun x => .tup [handA (nextH x.1.ws x.2), i64 (nextE x.1.ws x.2)])

theorem tickNextHV : (∀ (x : StoreT × TickT), StoreW x.1 ∧ TickI x.2 → Exx (StoreT × TickT) fun x_1 => (((true = true ∧ NilNil ∧ (0 : Nat) = 0) ∧ (Tr 1
 (x.2.blocks = x_1.2.blocks) ∧ Tr 1 (x.2.slots = x_1.2.slots) ∧ Tr 1 (x.2.gens = x_1.2.gens) ∧ Tr 1 (x.2.top = x_1.2.top) ∧ Tr 1 (x.2.high = x_1.2.high) ∧ Tr 1
 (x.2.free = x_1.2.free) ∧ True) ∧ True) ∧ true = true ∧ ((105 : TypeId) = 105 ∧ (true = true ∧ NilNil ∧ (0 : Nat) = 0) ∧ (true = true ∧ NilNil ∧ (0 : Nat) = 0)
 ∧ True) ∧ devB x.1.ws = devB x_1.1.ws ∧ allocB x.1.a = allocB x_1.1.a ∧ True) ∧ (StoreW x_1.1 ∧ TickI x_1.2) ∧ ∀ (y : Unit), True → BC (!decide (nextE x_1.1.ws
 x_1.2 = (0 : Int))) (Exx Unit fun y => ((((Tr 1 ((0 : Int) = (nextH x.1.ws x.2).slot) ∧ Tr 1 ((0 : Int) = (nextH x.1.ws x.2).gen) ∧ True) ∧ Tr 1 (nextE x_1.1.ws
 x_1.2 = nextE x.1.ws x.2) ∧ True) ∧ True) ∧ ((105 : TypeId) = 105 ∧ (true = true ∧ NilNil ∧ (0 : Nat) = 0) ∧ (true = true ∧ NilNil ∧ (0 : Nat) = 0) ∧ True) ∧
 devB x_1.1.ws = devB x.1.ws ∧ allocB x_1.1.a = allocB x.1.a ∧ true = true ∧ True) ∧ True) (I64 ((nextX x_1.1.ws x_1.2).gen + 1) ∧ Exx Unit fun y => ((((Tr 1
 (nextS x_1.1.ws x_1.2 = (nextH x.1.ws x.2).slot) ∧ Tr 1 ((nextX x_1.1.ws x_1.2).gen + 1 = (nextH x.1.ws x.2).gen) ∧ True) ∧ Tr 1 ((0 : Int) = nextE x.1.ws x.2)
 ∧ True) ∧ True) ∧ ((105 : TypeId) = 105 ∧ (true = true ∧ NilNil ∧ (0 : Nat) = 0) ∧ (true = true ∧ NilNil ∧ (0 : Nat) = 0) ∧ True) ∧ devB x_1.1.ws = devB x.1.ws
 ∧ allocB x_1.1.a = allocB x.1.a ∧ true = true ∧ True) ∧ True)) = (fnVC tb [(29, specOf tickNextC)] Tryd.f17 tickNextHC (fun _ => {}) (fun _ => none)) := by kernel_rfl 

theorem tickNextH_ok : SpecOk Tryd.prog 17 (specOf tickNextHC) := by
  refine specOk mixed tb_ok (SPok.cons tickNext_ok SPok.nil) Tryd.func17 (by decide) (storeSetC_ok fun _ => ⟨⟨rfl, rfl, trivial⟩, rfl, trivial⟩) (an := (fun _ => {})) (σ := (fun _ => none)) ?_
  rw [← tickNextHV]
  simp (maxSteps := 10000000) only [and_false, false_and, false_or, or_false, bOf_true, bOf_false, true_bOf, false_bOf, Exx, int_ite, merge_o, Tr_eq, true_and, and_true, exists_const, forall_const, implies_true, forall_eq, exists_eq, exists_eq', exists_eq_left, exists_eq_left', exists_eq_right, Prod.exists, Prod.forall, and_assoc, exists_and_left, BC_iff, Bool.not_eq_true', Bool.not_eq_false', decide_eq_true_eq, decide_eq_false_iff_not, I64, nat_cast_inj, Int.toNat_natCast, nats_iff, nats_iff', ints_iff, ints_iff', natss_iff, natss_iff', nilnil, litL_eq, str_inj, str_append, str_length, str_getD, str_take, lit1_iff, one_iff, two_iff, one_get, Nat.zero_add, Nat.sub_zero, Nat.reduceMul, Nat.reduceDiv, Nat.reduceAdd, Int.reduceToNat, Nat.not_lt_zero, if_false, if_true, Nat.le_refl, List.length_singleton, List.length_cons, List.length_nil, Bool.false_eq_true, not_true_eq_false, false_implies, not_false_eq_true, Prod.mk.injEq, devB_inj, allocB_inj]
  rintro s t ⟨h, ht⟩
  refine ⟨s, t, rfl, rfl, rfl, rfl, rfl, rfl, rfl, rfl, h, ht, fun hn => ?_, fun hz => ?_⟩
  · rw [nextH, if_neg hn]; exact ⟨rfl, rfl, rfl, rfl, rfl⟩
  · have g := nextX_gen hz
    rw [nextH, if_pos hz]; exact ⟨by omega, by omega, rfl, rfl, hz.symm, rfl, rfl⟩

def issW (s : StoreT) (t : TickT) (at_ : Int) : Wr := putR s t.top (nextS s.ws t) ⟨true, (nextX s.ws t).gen + 1, at_⟩
def issOk (s : StoreT) (t : TickT) (at_ : Int) : Prop := tickOk t ∧ (2 ≤ at_ ∧ at_ < 3072) ∧ nextE s.ws t = 0
instance (s : StoreT) (t : TickT) (at_ : Int) : Decidable (issOk s t at_) := by unfold issOk; infer_instance
def issE (s : StoreT) (t : TickT) (at_ : Int) : Int := if issOk s t at_ then (issW s t at_).e else if tickOk t ∧ (2 ≤ at_ ∧ at_ < 3072) then nextE s.ws t else 2
def issS (s : StoreT) (t : TickT) (at_ : Int) : StoreT := if issOk s t at_ then (issW s t at_).s else s
def issT (s : StoreT) (t : TickT) (at_ : Int) : TickT := if issE s t at_ = 0 then { t with top := (issW s t at_).at_, high := if 0 < t.free then t.high else t.high + 1, free := if 0 < t.free then (nextX s.ws t).next else t.free } else tickZ
def issH (s : StoreT) (t : TickT) (at_ : Int) : HandT := if issE s t at_ = 0 then ⟨nextS s.ws t, (nextX s.ws t).gen + 1⟩ else handZ
def tickIssueC : Ctr := storeSetC (TickT × Int) (fun x => TickI x.2.1 ∧ I64 x.2.2) (fun x => [tickA x.2.1, i64 x.2.2]) (fun x => issS x.1 x.2.1 x.2.2) (fun x => .tup [tickA (issT x.1 x.2.1 x.2.2), handA (issH x.1 x.2.1 x.2.2), i64 (issE x.1 x.2.1 x.2.2)])
theorem seatZ_ok' : seatOk seatZ := seatZ_ok
theorem nextX_I (ws : List Nat) (t : TickT) : SeatI (nextX ws t) := by
  unfold nextX
  split
  · split
    · exact seatOk_I seatZ_ok
    · unfold findS
      split
      · exact leafF_I _ _ _
      · exact seatOk_I seatZ_ok
  · exact seatOk_I seatZ_ok
theorem nextS_I (ws : List Nat) {t : TickT} (h : I64 t.high) (hf : I64 t.free) : I64 (nextS ws t) := by
  unfold nextS
  split
  · rename_i hz
    split
    · exact h
    · rename_i h0
      have hok : tickOk t := by
        by_cases k : tickOk t
        · exact k
        · rw [nextE, if_neg k] at hz; cases hz
      have := hok.2.2.2
      have h1 := hf.1
      have h2 := hf.2
      exact ⟨by omega, by omega⟩
  · exact I64_0

theorem tickIssueV : (∀ (x : StoreT × TickT × Int), StoreW x.1 ∧ TickI x.2.1 ∧ I64 x.2.2 → Exx (StoreT × TickT) fun x_1 => (((true = true ∧ NilNil ∧ (0 : Nat) =
 0) ∧ (Tr 1 (x.2.1.blocks = x_1.2.blocks) ∧ Tr 1 (x.2.1.slots = x_1.2.slots) ∧ Tr 1 (x.2.1.gens = x_1.2.gens) ∧ Tr 1 (x.2.1.top = x_1.2.top) ∧ Tr 1 (x.2.1.high =
 x_1.2.high) ∧ Tr 1 (x.2.1.free = x_1.2.free) ∧ True) ∧ True) ∧ true = true ∧ ((105 : TypeId) = 105 ∧ (true = true ∧ NilNil ∧ (0 : Nat) = 0) ∧ (true = true ∧
 NilNil ∧ (0 : Nat) = 0) ∧ True) ∧ devB x.1.ws = devB x_1.1.ws ∧ allocB x.1.a = allocB x_1.1.a ∧ True) ∧ (StoreW x_1.1 ∧ TickI x_1.2) ∧ ∀ (y : Unit), True → BC
 (!decide ((if tickOk x_1.2 then 0 else 2) = (0 : Int))) (Exx Unit fun y => ((((Tr 1 ((0 : Int) = (issT x.1 x.2.1 x.2.2).blocks) ∧ Tr 1 ((0 : Int) = (issT x.1
 x.2.1 x.2.2).slots) ∧ Tr 1 ((0 : Int) = (issT x.1 x.2.1 x.2.2).gens) ∧ Tr 1 ((0 : Int) = (issT x.1 x.2.1 x.2.2).top) ∧ Tr 1 ((0 : Int) = (issT x.1 x.2.1
 x.2.2).high) ∧ Tr 1 ((0 : Int) = (issT x.1 x.2.1 x.2.2).free) ∧ True) ∧ (Tr 1 ((0 : Int) = (issH x.1 x.2.1 x.2.2).slot) ∧ Tr 1 ((0 : Int) = (issH x.1 x.2.1
 x.2.2).gen) ∧ True) ∧ Tr 1 ((if tickOk x_1.2 then 0 else 2) = issE x.1 x.2.1 x.2.2) ∧ True) ∧ True) ∧ ((105 : TypeId) = 105 ∧ (true = true ∧ NilNil ∧ (0 : Nat)
 = 0) ∧ (true = true ∧ NilNil ∧ (0 : Nat) = 0) ∧ True) ∧ devB x_1.1.ws = devB (issS x.1 x.2.1 x.2.2).ws ∧ allocB x_1.1.a = allocB (issS x.1 x.2.1 x.2.2).a ∧ true
 = true ∧ True) ∧ True) (Exx Int fun x_2 => ((Tr 1 (x.2.2 = x_2) ∧ True) ∧ true = true ∧ True) ∧ (-9223372036854775808 ≤ x_2 ∧ x_2 ≤ (9223372036854775807 : Int))
 ∧ ∀ (y : Unit), True → BC (!decide ((2 : Int) ≤ x_2 ∧ x_2 < (3072 : Int))) (Exx Unit fun y => ((((Tr 1 ((0 : Int) = (issT x.1 x.2.1 x.2.2).blocks) ∧ Tr 1 ((0 :
 Int) = (issT x.1 x.2.1 x.2.2).slots) ∧ Tr 1 ((0 : Int) = (issT x.1 x.2.1 x.2.2).gens) ∧ Tr 1 ((0 : Int) = (issT x.1 x.2.1 x.2.2).top) ∧ Tr 1 ((0 : Int) = (issT
 x.1 x.2.1 x.2.2).high) ∧ Tr 1 ((0 : Int) = (issT x.1 x.2.1 x.2.2).free) ∧ True) ∧ (Tr 1 ((0 : Int) = (issH x.1 x.2.1 x.2.2).slot) ∧ Tr 1 ((0 : Int) = (issH x.1
 x.2.1 x.2.2).gen) ∧ True) ∧ Tr 1 ((2 : Int) = issE x.1 x.2.1 x.2.2) ∧ True) ∧ True) ∧ ((105 : TypeId) = 105 ∧ (true = true ∧ NilNil ∧ (0 : Nat) = 0) ∧ (true =
 true ∧ NilNil ∧ (0 : Nat) = 0) ∧ True) ∧ devB x_1.1.ws = devB (issS x.1 x.2.1 x.2.2).ws ∧ allocB x_1.1.a = allocB (issS x.1 x.2.1 x.2.2).a ∧ true = true ∧ True)
 ∧ True) (Exx (StoreT × TickT) fun x_3 => (((true = true ∧ NilNil ∧ (0 : Nat) = 0) ∧ (Tr 1 (x.2.1.blocks = x_3.2.blocks) ∧ Tr 1 (x.2.1.slots = x_3.2.slots) ∧ Tr
 1 (x.2.1.gens = x_3.2.gens) ∧ Tr 1 (x.2.1.top = x_3.2.top) ∧ Tr 1 (x.2.1.high = x_3.2.high) ∧ Tr 1 (x.2.1.free = x_3.2.free) ∧ True) ∧ True) ∧ true = true ∧
 ((105 : TypeId) = 105 ∧ (true = true ∧ NilNil ∧ (0 : Nat) = 0) ∧ (true = true ∧ NilNil ∧ (0 : Nat) = 0) ∧ True) ∧ devB x_1.1.ws = devB x_3.1.ws ∧ allocB x_1.1.a
 = allocB x_3.1.a ∧ True) ∧ (StoreW x_3.1 ∧ TickI x_3.2) ∧ ∀ (y : Unit), True → BC (!decide (nextE x_3.1.ws x_3.2 = (0 : Int))) (Exx Unit fun y => ((((Tr 1 ((0 :
 Int) = (issT x.1 x.2.1 x.2.2).blocks) ∧ Tr 1 ((0 : Int) = (issT x.1 x.2.1 x.2.2).slots) ∧ Tr 1 ((0 : Int) = (issT x.1 x.2.1 x.2.2).gens) ∧ Tr 1 ((0 : Int) =
 (issT x.1 x.2.1 x.2.2).top) ∧ Tr 1 ((0 : Int) = (issT x.1 x.2.1 x.2.2).high) ∧ Tr 1 ((0 : Int) = (issT x.1 x.2.1 x.2.2).free) ∧ True) ∧ (Tr 1 ((0 : Int) = (issH
 x.1 x.2.1 x.2.2).slot) ∧ Tr 1 ((0 : Int) = (issH x.1 x.2.1 x.2.2).gen) ∧ True) ∧ Tr 1 (nextE x_3.1.ws x_3.2 = issE x.1 x.2.1 x.2.2) ∧ True) ∧ True) ∧ ((105 :
 TypeId) = 105 ∧ (true = true ∧ NilNil ∧ (0 : Nat) = 0) ∧ (true = true ∧ NilNil ∧ (0 : Nat) = 0) ∧ True) ∧ devB x_3.1.ws = devB (issS x.1 x.2.1 x.2.2).ws ∧
 allocB x_3.1.a = allocB (issS x.1 x.2.1 x.2.2).a ∧ true = true ∧ True) ∧ True) (BC (decide ((0 : Int) < x.2.1.free)) (I64 ((nextX x_3.1.ws x_3.2).gen + 1) ∧ Exx
 (StoreT × TickT × Int × SeatT) fun x_4 => (((true = true ∧ NilNil ∧ (0 : Nat) = 0) ∧ (Tr 1 (x.2.1.blocks = x_4.2.1.blocks) ∧ Tr 1 (x.2.1.slots = x_4.2.1.slots)
 ∧ Tr 1 (x.2.1.gens = x_4.2.1.gens) ∧ Tr 1 (x.2.1.top = x_4.2.1.top) ∧ Tr 1 (x.2.1.high = x_4.2.1.high) ∧ Tr 1 ((nextX x_3.1.ws x_3.2).next = x_4.2.1.free) ∧
 True) ∧ Tr 1 (nextS x_3.1.ws x_3.2 = x_4.2.2.1) ∧ (true = x_4.2.2.2.live ∧ Tr 1 ((nextX x_3.1.ws x_3.2).gen + 1 = x_4.2.2.2.gen) ∧ Tr 1 (x.2.2 = x_4.2.2.2.next)
 ∧ True) ∧ True) ∧ true = true ∧ ((105 : TypeId) = 105 ∧ (true = true ∧ NilNil ∧ (0 : Nat) = 0) ∧ (true = true ∧ NilNil ∧ (0 : Nat) = 0) ∧ True) ∧ devB x_3.1.ws
 = devB x_4.1.ws ∧ allocB x_3.1.a = allocB x_4.1.a ∧ True) ∧ (StoreW x_4.1 ∧ TickI x_4.2.1 ∧ I64 x_4.2.2.1 ∧ SeatI x_4.2.2.2) ∧ ∀ (y : Unit), True → BC (!decide
 ((putR x_4.1 x_4.2.1.top x_4.2.2.1 x_4.2.2.2).e = (0 : Int))) (Exx Unit fun y => ((((Tr 1 ((0 : Int) = (issT x.1 x.2.1 x.2.2).blocks) ∧ Tr 1 ((0 : Int) = (issT
 x.1 x.2.1 x.2.2).slots) ∧ Tr 1 ((0 : Int) = (issT x.1 x.2.1 x.2.2).gens) ∧ Tr 1 ((0 : Int) = (issT x.1 x.2.1 x.2.2).top) ∧ Tr 1 ((0 : Int) = (issT x.1 x.2.1
 x.2.2).high) ∧ Tr 1 ((0 : Int) = (issT x.1 x.2.1 x.2.2).free) ∧ True) ∧ (Tr 1 ((0 : Int) = (issH x.1 x.2.1 x.2.2).slot) ∧ Tr 1 ((0 : Int) = (issH x.1 x.2.1
 x.2.2).gen) ∧ True) ∧ Tr 1 ((putR x_4.1 x_4.2.1.top x_4.2.2.1 x_4.2.2.2).e = issE x.1 x.2.1 x.2.2) ∧ True) ∧ True) ∧ ((105 : TypeId) = 105 ∧ (true = true ∧
 NilNil ∧ (0 : Nat) = 0) ∧ (true = true ∧ NilNil ∧ (0 : Nat) = 0) ∧ True) ∧ devB (putR x_4.1 x_4.2.1.top x_4.2.2.1 x_4.2.2.2).s.ws = devB (issS x.1 x.2.1
 x.2.2).ws ∧ allocB (putR x_4.1 x_4.2.1.top x_4.2.2.1 x_4.2.2.2).s.a = allocB (issS x.1 x.2.1 x.2.2).a ∧ true = true ∧ True) ∧ True) (Exx Unit fun y => ((((Tr 1
 ((turnT x_4.1 x_4.2.1 x_4.2.2.1 x_4.2.2.2).blocks = (issT x.1 x.2.1 x.2.2).blocks) ∧ Tr 1 ((turnT x_4.1 x_4.2.1 x_4.2.2.1 x_4.2.2.2).slots = (issT x.1 x.2.1
 x.2.2).slots) ∧ Tr 1 ((turnT x_4.1 x_4.2.1 x_4.2.2.1 x_4.2.2.2).gens = (issT x.1 x.2.1 x.2.2).gens) ∧ Tr 1 ((turnT x_4.1 x_4.2.1 x_4.2.2.1 x_4.2.2.2).top =
 (issT x.1 x.2.1 x.2.2).top) ∧ Tr 1 ((turnT x_4.1 x_4.2.1 x_4.2.2.1 x_4.2.2.2).high = (issT x.1 x.2.1 x.2.2).high) ∧ Tr 1 ((turnT x_4.1 x_4.2.1 x_4.2.2.1
 x_4.2.2.2).free = (issT x.1 x.2.1 x.2.2).free) ∧ True) ∧ (Tr 1 (nextS x_3.1.ws x_3.2 = (issH x.1 x.2.1 x.2.2).slot) ∧ Tr 1 ((nextX x_3.1.ws x_3.2).gen + 1 =
 (issH x.1 x.2.1 x.2.2).gen) ∧ True) ∧ Tr 1 ((0 : Int) = issE x.1 x.2.1 x.2.2) ∧ True) ∧ True) ∧ ((105 : TypeId) = 105 ∧ (true = true ∧ NilNil ∧ (0 : Nat) = 0) ∧
 (true = true ∧ NilNil ∧ (0 : Nat) = 0) ∧ True) ∧ devB (putR x_4.1 x_4.2.1.top x_4.2.2.1 x_4.2.2.2).s.ws = devB (issS x.1 x.2.1 x.2.2).ws ∧ allocB (putR x_4.1
 x_4.2.1.top x_4.2.2.1 x_4.2.2.2).s.a = allocB (issS x.1 x.2.1 x.2.2).a ∧ true = true ∧ True) ∧ True)) (I64 (x.2.1.high + 1) ∧ I64 ((nextX x_3.1.ws x_3.2).gen +
 1) ∧ Exx (StoreT × TickT × Int × SeatT) fun x_4 => (((true = true ∧ NilNil ∧ (0 : Nat) = 0) ∧ (Tr 1 (x.2.1.blocks = x_4.2.1.blocks) ∧ Tr 1 (x.2.1.slots =
 x_4.2.1.slots) ∧ Tr 1 (x.2.1.gens = x_4.2.1.gens) ∧ Tr 1 (x.2.1.top = x_4.2.1.top) ∧ Tr 1 (x.2.1.high + 1 = x_4.2.1.high) ∧ Tr 1 (x.2.1.free = x_4.2.1.free) ∧
 True) ∧ Tr 1 (nextS x_3.1.ws x_3.2 = x_4.2.2.1) ∧ (true = x_4.2.2.2.live ∧ Tr 1 ((nextX x_3.1.ws x_3.2).gen + 1 = x_4.2.2.2.gen) ∧ Tr 1 (x.2.2 = x_4.2.2.2.next)
 ∧ True) ∧ True) ∧ true = true ∧ ((105 : TypeId) = 105 ∧ (true = true ∧ NilNil ∧ (0 : Nat) = 0) ∧ (true = true ∧ NilNil ∧ (0 : Nat) = 0) ∧ True) ∧ devB x_3.1.ws
 = devB x_4.1.ws ∧ allocB x_3.1.a = allocB x_4.1.a ∧ True) ∧ (StoreW x_4.1 ∧ TickI x_4.2.1 ∧ I64 x_4.2.2.1 ∧ SeatI x_4.2.2.2) ∧ ∀ (y : Unit), True → BC (!decide
 ((putR x_4.1 x_4.2.1.top x_4.2.2.1 x_4.2.2.2).e = (0 : Int))) (Exx Unit fun y => ((((Tr 1 ((0 : Int) = (issT x.1 x.2.1 x.2.2).blocks) ∧ Tr 1 ((0 : Int) = (issT
 x.1 x.2.1 x.2.2).slots) ∧ Tr 1 ((0 : Int) = (issT x.1 x.2.1 x.2.2).gens) ∧ Tr 1 ((0 : Int) = (issT x.1 x.2.1 x.2.2).top) ∧ Tr 1 ((0 : Int) = (issT x.1 x.2.1
 x.2.2).high) ∧ Tr 1 ((0 : Int) = (issT x.1 x.2.1 x.2.2).free) ∧ True) ∧ (Tr 1 ((0 : Int) = (issH x.1 x.2.1 x.2.2).slot) ∧ Tr 1 ((0 : Int) = (issH x.1 x.2.1
 x.2.2).gen) ∧ True) ∧ Tr 1 ((putR x_4.1 x_4.2.1.top x_4.2.2.1 x_4.2.2.2).e = issE x.1 x.2.1 x.2.2) ∧ True) ∧ True) ∧ ((105 : TypeId) = 105 ∧ (true = true ∧
 NilNil ∧ (0 : Nat) = 0) ∧ (true = true ∧ NilNil ∧ (0 : Nat) = 0) ∧ True) ∧ devB (putR x_4.1 x_4.2.1.top x_4.2.2.1 x_4.2.2.2).s.ws = devB (issS x.1 x.2.1
 x.2.2).ws ∧ allocB (putR x_4.1 x_4.2.1.top x_4.2.2.1 x_4.2.2.2).s.a = allocB (issS x.1 x.2.1 x.2.2).a ∧ true = true ∧ True) ∧ True) (Exx Unit fun y => ((((Tr 1
 ((turnT x_4.1 x_4.2.1 x_4.2.2.1 x_4.2.2.2).blocks = (issT x.1 x.2.1 x.2.2).blocks) ∧ Tr 1 ((turnT x_4.1 x_4.2.1 x_4.2.2.1 x_4.2.2.2).slots = (issT x.1 x.2.1
 x.2.2).slots) ∧ Tr 1 ((turnT x_4.1 x_4.2.1 x_4.2.2.1 x_4.2.2.2).gens = (issT x.1 x.2.1 x.2.2).gens) ∧ Tr 1 ((turnT x_4.1 x_4.2.1 x_4.2.2.1 x_4.2.2.2).top =
 (issT x.1 x.2.1 x.2.2).top) ∧ Tr 1 ((turnT x_4.1 x_4.2.1 x_4.2.2.1 x_4.2.2.2).high = (issT x.1 x.2.1 x.2.2).high) ∧ Tr 1 ((turnT x_4.1 x_4.2.1 x_4.2.2.1
 x_4.2.2.2).free = (issT x.1 x.2.1 x.2.2).free) ∧ True) ∧ (Tr 1 (nextS x_3.1.ws x_3.2 = (issH x.1 x.2.1 x.2.2).slot) ∧ Tr 1 ((nextX x_3.1.ws x_3.2).gen + 1 =
 (issH x.1 x.2.1 x.2.2).gen) ∧ True) ∧ Tr 1 ((0 : Int) = issE x.1 x.2.1 x.2.2) ∧ True) ∧ True) ∧ ((105 : TypeId) = 105 ∧ (true = true ∧ NilNil ∧ (0 : Nat) = 0) ∧
 (true = true ∧ NilNil ∧ (0 : Nat) = 0) ∧ True) ∧ devB (putR x_4.1 x_4.2.1.top x_4.2.2.1 x_4.2.2.2).s.ws = devB (issS x.1 x.2.1 x.2.2).ws ∧ allocB (putR x_4.1
 x_4.2.1.top x_4.2.2.1 x_4.2.2.2).s.a = allocB (issS x.1 x.2.1 x.2.2).a ∧ true = true ∧ True) ∧ True)))))) = (fnVC tb [(27, specOf tickMayC), (28, specOf tickBlockC), (29, specOf tickNextC), (30, specOf tickTurnC)] Tryd.f12 tickIssueC (fun x => { loose := [(16, [5, 6])] }) (fun _ => none)) := by kernel_rfl 

theorem tickIssue_ok : SpecOk Tryd.prog 12 (specOf tickIssueC) := by
  refine specOk mixed tb_ok (SPok.cons tickMay_ok (SPok.cons tickBlock_ok (SPok.cons tickNext_ok (SPok.cons tickTurn_ok SPok.nil)))) Tryd.func12 (by decide) (storeSetC_ok fun _ => ⟨⟨rfl, rfl, rfl, rfl, rfl, rfl, trivial⟩, ⟨rfl, rfl, trivial⟩, rfl, trivial⟩) (an := (fun x => { loose := [(16, [5, 6])] })) (σ := (fun _ => none)) ?_
  rw [← tickIssueV]
  simp (maxSteps := 10000000) only [and_false, false_and, false_or, or_false, bOf_true, bOf_false, true_bOf, false_bOf, Exx, int_ite, merge_o, Tr_eq, true_and, and_true, exists_const, forall_const, implies_true, forall_eq, exists_eq, exists_eq', exists_eq_left, exists_eq_left', exists_eq_right, Prod.exists, Prod.forall, and_assoc, exists_and_left, BC_iff, Bool.not_eq_true', Bool.not_eq_false', decide_eq_true_eq, decide_eq_false_iff_not, I64, nat_cast_inj, Int.toNat_natCast, nats_iff, nats_iff', ints_iff, ints_iff', natss_iff, natss_iff', nilnil, litL_eq, str_inj, str_append, str_length, str_getD, str_take, lit1_iff, one_iff, two_iff, one_get, Nat.zero_add, Nat.sub_zero, Nat.reduceMul, Nat.reduceDiv, Nat.reduceAdd, Int.reduceToNat, Nat.not_lt_zero, if_false, if_true, Nat.le_refl, List.length_singleton, List.length_cons, List.length_nil, Bool.false_eq_true, not_true_eq_false, false_implies, not_false_eq_true, Prod.mk.injEq, devB_inj, allocB_inj]
  rintro s t at_ ⟨h, ht, hb1, hb2⟩
  have hb : I64 at_ := ⟨hb1, hb2⟩
  have bad : ∀ e : Int, ∀ s' : StoreT, e ≠ 0 → issE s t at_ = e → issS s t at_ = s' → (0 = (issT s t at_).blocks ∧ 0 = (issT s t at_).slots ∧ 0 = (issT s t at_).gens ∧ 0 = (issT s t at_).top ∧ 0 = (issT s t at_).high ∧ 0 = (issT s t at_).free ∧ 0 = (issH s t at_).slot ∧ 0 = (issH s t at_).gen ∧ e = issE s t at_ ∧ s'.ws = (issS s t at_).ws ∧ s'.a = (issS s t at_).a) := fun e s' he h1 h2 => by
    have hn : ¬ issE s t at_ = 0 := by rw [h1]; exact he
    rw [issT, if_neg hn, issH, if_neg hn, h2]; exact ⟨rfl, rfl, rfl, rfl, rfl, rfl, rfl, rfl, h1.symm, rfl, rfl⟩
  obtain ⟨i1, i2, i3, i4, i5, i6⟩ := ht
  refine ⟨s, t, rfl, rfl, rfl, rfl, rfl, rfl, rfl, rfl, h, ⟨i1, i2, i3, i4, i5, i6⟩, fun hn => ?_, fun hz => ⟨hb1, hb2, fun hnb => ?_, fun hbk => ⟨s, t, rfl, rfl, rfl, rfl, rfl, rfl, rfl, rfl, h, ⟨i1, i2, i3, i4, i5, i6⟩, fun hne => ?_, fun hez => ?_⟩⟩⟩
  · have hno : ¬ tickOk t := fun k => hn (by rw [if_pos k])
    rw [if_neg hno]
    exact bad 2 s (by decide) (by rw [issE, if_neg (fun k => hno k.1), if_neg (fun k => hno k.1)]) (by rw [issS, if_neg (fun k => hno k.1)])
  · exact bad 2 s (by decide) (by rw [issE, if_neg (fun k => hnb k.2.1), if_neg (fun k => hnb k.2)]) (by rw [issS, if_neg (fun k => hnb k.2.1)])
  · have hok : tickOk t := by
      by_cases k : tickOk t
      · exact k
      · rw [if_neg k] at hz; cases hz
    exact bad _ s hne (by rw [issE, if_neg (fun k => hne k.2.2), if_pos ⟨hok, hbk⟩]) (by rw [issS, if_neg (fun k => hne k.2.2)])
  · have hok : tickOk t := by
      by_cases k : tickOk t
      · exact k
      · rw [if_neg k] at hz; cases hz
    have hi : issOk s t at_ := ⟨hok, hbk, hez⟩
    have eE : issE s t at_ = (issW s t at_).e := by rw [issE, if_pos hi]
    have eS : issS s t at_ = (issW s t at_).s := by rw [issS, if_pos hi]
    have hg := nextX_gen hez
    have hgI : I64 (nextX s.ws t).gen := nextX_I s.ws t |>.1
    have hnI : I64 (nextX s.ws t).next := nextX_I s.ws t |>.2
    have hS := nextS_I s.ws i5 i6
    have hx : SeatI ⟨true, (nextX s.ws t).gen + 1, at_⟩ := ⟨⟨by simp only; omega, by simp only; omega⟩, hb⟩
    have hhi := hok.2.2.1
    have hsl := hok.1.2.2.2.1
    have hh0 := hok.2.1
    have good : ∀ t' : TickT, (issW s t at_).e = 0 → t'.blocks = t.blocks → t'.slots = t.slots → t'.gens = t.gens → t'.top = (issW s t at_).at_ → t'.high = (if 0 < t.free then t.high else t.high + 1) → t'.free = (if 0 < t.free then (nextX s.ws t).next else t.free) →
        t'.blocks = (issT s t at_).blocks ∧ t'.slots = (issT s t at_).slots ∧ t'.gens = (issT s t at_).gens ∧ t'.top = (issT s t at_).top ∧ t'.high = (issT s t at_).high ∧ t'.free = (issT s t at_).free ∧ nextS s.ws t = (issH s t at_).slot ∧ (nextX s.ws t).gen + 1 = (issH s t at_).gen ∧ 0 = issE s t at_ ∧ (issW s t at_).s.ws = (issS s t at_).ws ∧ (issW s t at_).s.a = (issS s t at_).a := fun t' he k1 k2 k3 k4 k5 k6 => by
      have e0 : issE s t at_ = 0 := by rw [eE, he]
      rw [issT, if_pos e0, issH, if_pos e0, eS]
      exact ⟨k1, k2, k3, k4, k5, k6, rfl, rfl, e0.symm, rfl, rfl⟩
    refine ⟨fun hf => ⟨by omega, by omega, s, { t with free := (nextX s.ws t).next }, rfl, rfl, rfl, rfl, rfl, rfl, ⟨true, (nextX s.ws t).gen + 1, at_⟩, rfl, rfl, rfl, rfl, rfl, h, ⟨i1, i2, i3, i4, i5, hnI⟩, hS.1, hS.2, hx, fun hq => bad _ _ hq eE eS, fun hq => ?_⟩, fun hf => ⟨by omega, by omega, by omega, by omega, s, { t with high := t.high + 1 }, rfl, rfl, rfl, rfl, rfl, rfl, ⟨true, (nextX s.ws t).gen + 1, at_⟩, rfl, rfl, rfl, rfl, rfl, h, ⟨i1, i2, i3, i4, ⟨by simp only; omega, by simp only; omega⟩, i6⟩, hS.1, hS.2, hx, fun hq => bad _ _ hq eE eS, fun hq => ?_⟩⟩
    · exact good (turnT s { t with free := (nextX s.ws t).next } (nextS s.ws t) ⟨true, (nextX s.ws t).gen + 1, at_⟩) hq (by rw [turnT, if_pos hq]) (by rw [turnT, if_pos hq]) (by rw [turnT, if_pos hq]) (by rw [turnT, if_pos hq]; rfl) (by rw [turnT, if_pos hq, if_pos hf]) (by rw [turnT, if_pos hq, if_pos hf])
    · exact good (turnT s { t with high := t.high + 1 } (nextS s.ws t) ⟨true, (nextX s.ws t).gen + 1, at_⟩) hq (by rw [turnT, if_pos hq]) (by rw [turnT, if_pos hq]) (by rw [turnT, if_pos hq]) (by rw [turnT, if_pos hq]; rfl) (by rw [turnT, if_pos hq, if_neg hf]) (by rw [turnT, if_pos hq, if_neg hf])

def seatE (ws : List Nat) (t : TickT) (h : HandT) : Int :=
  if tickOk t then if h.slot < 0 ∨ t.high ≤ h.slot then 11 else if walkErr ws t.top h.slot = 0 then (if (findS ws t.top h.slot).live = true ∧ (findS ws t.top h.slot).gen = h.gen then 0 else 11) else walkErr ws t.top h.slot else 2
def seatX (ws : List Nat) (t : TickT) (h : HandT) : SeatT := if seatE ws t h = 0 then findS ws t.top h.slot else seatZ
def tickSeatC : Ctr := storeSetC (TickT × HandT) (fun x => TickI x.2.1 ∧ HandI x.2.2) (fun x => [tickA x.2.1, handA x.2.2]) (fun x => x.1) (fun x => .tup [seatA (seatX x.1.ws x.2.1 x.2.2), i64 (seatE x.1.ws x.2.1 x.2.2)])

theorem tickSeatV : (∀ (x : StoreT × TickT × HandT), StoreW x.1 ∧ TickI x.2.1 ∧ HandI x.2.2 → Exx (StoreT × TickT) fun x_1 => (((true = true ∧ NilNil ∧ (0 :
 Nat) = 0) ∧ (Tr 1 (x.2.1.blocks = x_1.2.blocks) ∧ Tr 1 (x.2.1.slots = x_1.2.slots) ∧ Tr 1 (x.2.1.gens = x_1.2.gens) ∧ Tr 1 (x.2.1.top = x_1.2.top) ∧ Tr 1
 (x.2.1.high = x_1.2.high) ∧ Tr 1 (x.2.1.free = x_1.2.free) ∧ True) ∧ True) ∧ true = true ∧ ((105 : TypeId) = 105 ∧ (true = true ∧ NilNil ∧ (0 : Nat) = 0) ∧
 (true = true ∧ NilNil ∧ (0 : Nat) = 0) ∧ True) ∧ devB x.1.ws = devB x_1.1.ws ∧ allocB x.1.a = allocB x_1.1.a ∧ True) ∧ (StoreW x_1.1 ∧ TickI x_1.2) ∧ ∀ (y :
 Unit), True → BC (!decide ((if tickOk x_1.2 then 0 else 2) = (0 : Int))) (Exx Unit fun y => ((((false = (seatX x.1.ws x.2.1 x.2.2).live ∧ Tr 1 ((0 : Int) =
 (seatX x.1.ws x.2.1 x.2.2).gen) ∧ Tr 1 ((0 : Int) = (seatX x.1.ws x.2.1 x.2.2).next) ∧ True) ∧ Tr 1 ((if tickOk x_1.2 then 0 else 2) = seatE x.1.ws x.2.1 x.2.2)
 ∧ True) ∧ True) ∧ ((105 : TypeId) = 105 ∧ (true = true ∧ NilNil ∧ (0 : Nat) = 0) ∧ (true = true ∧ NilNil ∧ (0 : Nat) = 0) ∧ True) ∧ devB x_1.1.ws = devB x.1.ws
 ∧ allocB x_1.1.a = allocB x.1.a ∧ true = true ∧ True) ∧ True) (BC (decide (x.2.2.slot < (0 : Int))) (Exx Unit fun y => ((((false = (seatX x.1.ws x.2.1
 x.2.2).live ∧ Tr 1 ((0 : Int) = (seatX x.1.ws x.2.1 x.2.2).gen) ∧ Tr 1 ((0 : Int) = (seatX x.1.ws x.2.1 x.2.2).next) ∧ True) ∧ Tr 1 ((11 : Int) = seatE x.1.ws
 x.2.1 x.2.2) ∧ True) ∧ True) ∧ ((105 : TypeId) = 105 ∧ (true = true ∧ NilNil ∧ (0 : Nat) = 0) ∧ (true = true ∧ NilNil ∧ (0 : Nat) = 0) ∧ True) ∧ devB x_1.1.ws =
 devB x.1.ws ∧ allocB x_1.1.a = allocB x.1.a ∧ true = true ∧ True) ∧ True) (BC (decide (x.2.1.high ≤ x.2.2.slot)) (Exx Unit fun y => ((((false = (seatX x.1.ws
 x.2.1 x.2.2).live ∧ Tr 1 ((0 : Int) = (seatX x.1.ws x.2.1 x.2.2).gen) ∧ Tr 1 ((0 : Int) = (seatX x.1.ws x.2.1 x.2.2).next) ∧ True) ∧ Tr 1 ((11 : Int) = seatE
 x.1.ws x.2.1 x.2.2) ∧ True) ∧ True) ∧ ((105 : TypeId) = 105 ∧ (true = true ∧ NilNil ∧ (0 : Nat) = 0) ∧ (true = true ∧ NilNil ∧ (0 : Nat) = 0) ∧ True) ∧ devB
 x_1.1.ws = devB x.1.ws ∧ allocB x_1.1.a = allocB x.1.a ∧ true = true ∧ True) ∧ True) (Exx (StoreT × Int × Int) fun x_2 => (((true = true ∧ NilNil ∧ (0 : Nat) =
 0) ∧ Tr 1 (x.2.1.top = x_2.2.1) ∧ Tr 1 (x.2.2.slot = x_2.2.2) ∧ True) ∧ true = true ∧ ((105 : TypeId) = 105 ∧ (true = true ∧ NilNil ∧ (0 : Nat) = 0) ∧ (true =
 true ∧ NilNil ∧ (0 : Nat) = 0) ∧ True) ∧ devB x_1.1.ws = devB x_2.1.ws ∧ allocB x_1.1.a = allocB x_2.1.a ∧ True) ∧ (StoreW x_2.1 ∧ I64 x_2.2.1 ∧ I64 x_2.2.2) ∧
 ∀ (y : Unit), True → BC (decide (walkErr x_2.1.ws x_2.2.1 x_2.2.2 = (0 : Int))) (BC (!(findS x_2.1.ws x_2.2.1 x_2.2.2).live) (Exx Unit fun y => ((((false =
 (seatX x.1.ws x.2.1 x.2.2).live ∧ Tr 1 ((0 : Int) = (seatX x.1.ws x.2.1 x.2.2).gen) ∧ Tr 1 ((0 : Int) = (seatX x.1.ws x.2.1 x.2.2).next) ∧ True) ∧ Tr 1 ((11 :
 Int) = seatE x.1.ws x.2.1 x.2.2) ∧ True) ∧ True) ∧ ((105 : TypeId) = 105 ∧ (true = true ∧ NilNil ∧ (0 : Nat) = 0) ∧ (true = true ∧ NilNil ∧ (0 : Nat) = 0) ∧
 True) ∧ devB x_2.1.ws = devB x.1.ws ∧ allocB x_2.1.a = allocB x.1.a ∧ true = true ∧ True) ∧ True) (BC (!decide ((findS x_2.1.ws x_2.2.1 x_2.2.2).gen =
 x.2.2.gen)) (Exx Unit fun y => ((((false = (seatX x.1.ws x.2.1 x.2.2).live ∧ Tr 1 ((0 : Int) = (seatX x.1.ws x.2.1 x.2.2).gen) ∧ Tr 1 ((0 : Int) = (seatX x.1.ws
 x.2.1 x.2.2).next) ∧ True) ∧ Tr 1 ((11 : Int) = seatE x.1.ws x.2.1 x.2.2) ∧ True) ∧ True) ∧ ((105 : TypeId) = 105 ∧ (true = true ∧ NilNil ∧ (0 : Nat) = 0) ∧
 (true = true ∧ NilNil ∧ (0 : Nat) = 0) ∧ True) ∧ devB x_2.1.ws = devB x.1.ws ∧ allocB x_2.1.a = allocB x.1.a ∧ true = true ∧ True) ∧ True) (BC (!decide (walkErr
 x_2.1.ws x_2.2.1 x_2.2.2 = (0 : Int))) (Exx Unit fun y => ((((false = (seatX x.1.ws x.2.1 x.2.2).live ∧ Tr 1 ((0 : Int) = (seatX x.1.ws x.2.1 x.2.2).gen) ∧ Tr 1
 ((0 : Int) = (seatX x.1.ws x.2.1 x.2.2).next) ∧ True) ∧ Tr 1 (walkErr x_2.1.ws x_2.2.1 x_2.2.2 = seatE x.1.ws x.2.1 x.2.2) ∧ True) ∧ True) ∧ ((105 : TypeId) =
 105 ∧ (true = true ∧ NilNil ∧ (0 : Nat) = 0) ∧ (true = true ∧ NilNil ∧ (0 : Nat) = 0) ∧ True) ∧ devB x_2.1.ws = devB x.1.ws ∧ allocB x_2.1.a = allocB x.1.a ∧
 true = true ∧ True) ∧ True) (Exx Unit fun y => (((((findS x_2.1.ws x_2.2.1 x_2.2.2).live = (seatX x.1.ws x.2.1 x.2.2).live ∧ Tr 1 ((findS x_2.1.ws x_2.2.1
 x_2.2.2).gen = (seatX x.1.ws x.2.1 x.2.2).gen) ∧ Tr 1 ((findS x_2.1.ws x_2.2.1 x_2.2.2).next = (seatX x.1.ws x.2.1 x.2.2).next) ∧ True) ∧ Tr 1 ((0 : Int) =
 seatE x.1.ws x.2.1 x.2.2) ∧ True) ∧ True) ∧ ((105 : TypeId) = 105 ∧ (true = true ∧ NilNil ∧ (0 : Nat) = 0) ∧ (true = true ∧ NilNil ∧ (0 : Nat) = 0) ∧ True) ∧
 devB x_2.1.ws = devB x.1.ws ∧ allocB x_2.1.a = allocB x.1.a ∧ true = true ∧ True) ∧ True)))) (BC (!decide (walkErr x_2.1.ws x_2.2.1 x_2.2.2 = (0 : Int))) (Exx
 Unit fun y => ((((false = (seatX x.1.ws x.2.1 x.2.2).live ∧ Tr 1 ((0 : Int) = (seatX x.1.ws x.2.1 x.2.2).gen) ∧ Tr 1 ((0 : Int) = (seatX x.1.ws x.2.1
 x.2.2).next) ∧ True) ∧ Tr 1 (walkErr x_2.1.ws x_2.2.1 x_2.2.2 = seatE x.1.ws x.2.1 x.2.2) ∧ True) ∧ True) ∧ ((105 : TypeId) = 105 ∧ (true = true ∧ NilNil ∧ (0 :
 Nat) = 0) ∧ (true = true ∧ NilNil ∧ (0 : Nat) = 0) ∧ True) ∧ devB x_2.1.ws = devB x.1.ws ∧ allocB x_2.1.a = allocB x.1.a ∧ true = true ∧ True) ∧ True) (Exx Unit
 fun y => (((((findS x_2.1.ws x_2.2.1 x_2.2.2).live = (seatX x.1.ws x.2.1 x.2.2).live ∧ Tr 1 ((findS x_2.1.ws x_2.2.1 x_2.2.2).gen = (seatX x.1.ws x.2.1
 x.2.2).gen) ∧ Tr 1 ((findS x_2.1.ws x_2.2.1 x_2.2.2).next = (seatX x.1.ws x.2.1 x.2.2).next) ∧ True) ∧ Tr 1 ((0 : Int) = seatE x.1.ws x.2.1 x.2.2) ∧ True) ∧
 True) ∧ ((105 : TypeId) = 105 ∧ (true = true ∧ NilNil ∧ (0 : Nat) = 0) ∧ (true = true ∧ NilNil ∧ (0 : Nat) = 0) ∧ True) ∧ devB x_2.1.ws = devB x.1.ws ∧ allocB
 x_2.1.a = allocB x.1.a ∧ true = true ∧ True) ∧ True)))))) = (fnVC tb [(27, specOf tickMayC), (43, specOf findC)] Tryd.f31 tickSeatC (fun _ => {}) (fun _ => none)) := by kernel_rfl 

theorem tickSeat_ok : SpecOk Tryd.prog 31 (specOf tickSeatC) := by
  refine specOk mixed tb_ok (SPok.cons tickMay_ok (SPok.cons find_ok SPok.nil)) Tryd.func31 (by decide) (storeSetC_ok fun _ => ⟨⟨rfl, rfl, rfl, trivial⟩, rfl, trivial⟩) (an := (fun _ => {})) (σ := (fun _ => none)) ?_
  rw [← tickSeatV]
  simp (maxSteps := 10000000) only [and_false, false_and, false_or, or_false, bOf_true, bOf_false, true_bOf, false_bOf, Exx, int_ite, merge_o, Tr_eq, true_and, and_true, exists_const, forall_const, implies_true, forall_eq, exists_eq, exists_eq', exists_eq_left, exists_eq_left', exists_eq_right, Prod.exists, Prod.forall, and_assoc, exists_and_left, BC_iff, Bool.not_eq_true', Bool.not_eq_false', decide_eq_true_eq, decide_eq_false_iff_not, I64, nat_cast_inj, Int.toNat_natCast, nats_iff, nats_iff', ints_iff, ints_iff', natss_iff, natss_iff', nilnil, litL_eq, str_inj, str_append, str_length, str_getD, str_take, lit1_iff, one_iff, two_iff, one_get, Nat.zero_add, Nat.sub_zero, Nat.reduceMul, Nat.reduceDiv, Nat.reduceAdd, Int.reduceToNat, Nat.not_lt_zero, if_false, if_true, Nat.le_refl, List.length_singleton, List.length_cons, List.length_nil, Bool.false_eq_true, not_true_eq_false, false_implies, not_false_eq_true, Prod.mk.injEq, devB_inj, allocB_inj]
  rintro s t d ⟨h, ht, hd⟩
  have bad : ∀ e : Int, e ≠ 0 → seatE s.ws t d = e → (false = (seatX s.ws t d).live ∧ 0 = (seatX s.ws t d).gen ∧ 0 = (seatX s.ws t d).next ∧ e = seatE s.ws t d ∧ s.ws = s.ws ∧ s.a = s.a) := fun e he h1 => by
    have hn : ¬ seatE s.ws t d = 0 := by rw [h1]; exact he
    rw [seatX, if_neg hn]; exact ⟨rfl, rfl, rfl, h1.symm, rfl, rfl⟩
  refine ⟨s, t, rfl, rfl, rfl, rfl, rfl, rfl, rfl, rfl, h, ht, fun hn => ?_, fun hz => ?_⟩
  · have hno : ¬ tickOk t := fun k => hn (by rw [if_pos k])
    rw [if_neg hno]
    exact bad 2 (by decide) (by rw [seatE, if_neg hno])
  · have hok : tickOk t := by
      by_cases k : tickOk t
      · exact k
      · rw [if_neg k] at hz; cases hz
    refine ⟨fun h1 => bad 11 (by decide) (by rw [seatE, if_pos hok, if_pos (.inl h1)]), fun h1 => ⟨fun h2 => bad 11 (by decide) (by rw [seatE, if_pos hok, if_pos (.inr h2)]), fun h2 => ⟨s, rfl, rfl, h, ht.2.2.2.1.1, ht.2.2.2.1.2, hd.1.1, hd.1.2, fun hw => ⟨fun hl => bad 11 (by decide) ?_, fun hl => ⟨fun hg => bad 11 (by decide) ?_, fun hg => ⟨fun q => absurd hw q, fun _ => ?_⟩⟩⟩, fun hw => ⟨fun _ => bad _ hw ?_, fun q => absurd q hw⟩⟩⟩⟩
    · rw [seatE, if_pos hok, if_neg (fun k => by omega), if_pos hw, if_neg (fun k => by rw [k.1] at hl; cases hl)]
    · rw [seatE, if_pos hok, if_neg (fun k => by omega), if_pos hw, if_neg (fun k => hg k.2)]
    · have e : seatE s.ws t d = 0 := by rw [seatE, if_pos hok, if_neg (fun k => by omega), if_pos hw, if_pos ⟨hl, hg⟩]
      rw [seatX, if_pos e]; exact ⟨rfl, rfl, rfl, e.symm, rfl, rfl⟩
    · rw [seatE, if_pos hok, if_neg (fun k => by omega), if_neg hw]
theorem findS_I (ws : List Nat) (top slot : Int) : SeatI (findS ws top slot) := by
  unfold findS
  split
  · exact leafF_I _ _ _
  · exact seatOk_I seatZ_ok'
theorem seatX_I (ws : List Nat) (t : TickT) (h : HandT) : SeatI (seatX ws t h) := by
  unfold seatX
  split
  · exact findS_I _ _ _
  · exact seatOk_I seatZ_ok'

theorem seatE_slot {ws : List Nat} {t : TickT} {h : HandT} (hz : seatE ws t h = 0) : 0 ≤ h.slot ∧ h.slot < t.high := by
  unfold seatE at hz
  split at hz
  · split at hz
    · cases hz
    · omega
  · cases hz
def tickResolveC : Ctr := storeSetC (TickT × HandT) (fun x => TickI x.2.1 ∧ HandI x.2.2) (fun x => [tickA x.2.1, handA x.2.2]) (fun x => x.1) (fun x => .tup [i64 (seatX x.1.ws x.2.1 x.2.2).next, i64 (seatE x.1.ws x.2.1 x.2.2)])

theorem tickResolveV : (∀ (x : StoreT × TickT × HandT), StoreW x.1 ∧ TickI x.2.1 ∧ HandI x.2.2 → Exx (StoreT × TickT × HandT) fun x_1 => (((true = true ∧ NilNil
 ∧ (0 : Nat) = 0) ∧ (Tr 1 (x.2.1.blocks = x_1.2.1.blocks) ∧ Tr 1 (x.2.1.slots = x_1.2.1.slots) ∧ Tr 1 (x.2.1.gens = x_1.2.1.gens) ∧ Tr 1 (x.2.1.top =
 x_1.2.1.top) ∧ Tr 1 (x.2.1.high = x_1.2.1.high) ∧ Tr 1 (x.2.1.free = x_1.2.1.free) ∧ True) ∧ (Tr 1 (x.2.2.slot = x_1.2.2.slot) ∧ Tr 1 (x.2.2.gen = x_1.2.2.gen)
 ∧ True) ∧ True) ∧ true = true ∧ ((105 : TypeId) = 105 ∧ (true = true ∧ NilNil ∧ (0 : Nat) = 0) ∧ (true = true ∧ NilNil ∧ (0 : Nat) = 0) ∧ True) ∧ devB x.1.ws =
 devB x_1.1.ws ∧ allocB x.1.a = allocB x_1.1.a ∧ True) ∧ (StoreW x_1.1 ∧ TickI x_1.2.1 ∧ HandI x_1.2.2) ∧ ∀ (y : Unit), True → Exx Unit fun y => (((Tr 1 ((seatX
 x_1.1.ws x_1.2.1 x_1.2.2).next = (seatX x.1.ws x.2.1 x.2.2).next) ∧ Tr 1 (seatE x_1.1.ws x_1.2.1 x_1.2.2 = seatE x.1.ws x.2.1 x.2.2) ∧ True) ∧ True) ∧ ((105 :
 TypeId) = 105 ∧ (true = true ∧ NilNil ∧ (0 : Nat) = 0) ∧ (true = true ∧ NilNil ∧ (0 : Nat) = 0) ∧ True) ∧ devB x_1.1.ws = devB x.1.ws ∧ allocB x_1.1.a = allocB
 x.1.a ∧ true = true ∧ True) ∧ True) = (fnVC tb [(31, specOf tickSeatC)] Tryd.f16 tickResolveC (fun _ => {}) (fun _ => none)) := by kernel_rfl

theorem tickResolve_ok : SpecOk Tryd.prog 16 (specOf tickResolveC) := by
  refine specOk mixed tb_ok (SPok.cons tickSeat_ok SPok.nil) Tryd.func16 (by decide) (storeSetC_ok fun _ => ⟨rfl, rfl, trivial⟩) (an := (fun _ => {})) (σ := (fun _ => none)) ?_
  rw [← tickResolveV]
  simp (maxSteps := 10000000) only [and_false, false_and, false_or, or_false, bOf_true, bOf_false, true_bOf, false_bOf, Exx, int_ite, merge_o, Tr_eq, true_and, and_true, exists_const, forall_const, implies_true, forall_eq, exists_eq, exists_eq', exists_eq_left, exists_eq_left', exists_eq_right, Prod.exists, Prod.forall, and_assoc, exists_and_left, BC_iff, Bool.not_eq_true', Bool.not_eq_false', decide_eq_true_eq, decide_eq_false_iff_not, I64, nat_cast_inj, Int.toNat_natCast, nats_iff, nats_iff', ints_iff, ints_iff', natss_iff, natss_iff', nilnil, litL_eq, str_inj, str_append, str_length, str_getD, str_take, lit1_iff, one_iff, two_iff, one_get, Nat.zero_add, Nat.sub_zero, Nat.reduceMul, Nat.reduceDiv, Nat.reduceAdd, Int.reduceToNat, Nat.not_lt_zero, if_false, if_true, Nat.le_refl, List.length_singleton, List.length_cons, List.length_nil, Bool.false_eq_true, not_true_eq_false, false_implies, not_false_eq_true, Prod.mk.injEq, devB_inj, allocB_inj]
  rintro s t d ⟨h, ht, hd⟩
  exact ⟨s, t, rfl, rfl, rfl, rfl, rfl, rfl, d, rfl, rfl, rfl, rfl, h, ht, hd, rfl, rfl, rfl, rfl⟩

def poiW (s : StoreT) (t : TickT) (h : HandT) (at_ : Int) : Wr := putR s t.top h.slot ⟨(seatX s.ws t h).live, (seatX s.ws t h).gen, at_⟩
def poiOk (s : StoreT) (t : TickT) (h : HandT) (at_ : Int) : Prop := seatE s.ws t h = 0 ∧ (2 ≤ at_ ∧ at_ < 3072)
instance (s : StoreT) (t : TickT) (h : HandT) (at_ : Int) : Decidable (poiOk s t h at_) := by unfold poiOk; infer_instance
def poiE (s : StoreT) (t : TickT) (h : HandT) (at_ : Int) : Int := if poiOk s t h at_ then (poiW s t h at_).e else if seatE s.ws t h = 0 then 2 else seatE s.ws t h
def poiS (s : StoreT) (t : TickT) (h : HandT) (at_ : Int) : StoreT := if poiOk s t h at_ then (poiW s t h at_).s else s
def poiT (s : StoreT) (t : TickT) (h : HandT) (at_ : Int) : TickT := if poiE s t h at_ = 0 then { t with top := (poiW s t h at_).at_ } else tickZ
def tickPointC : Ctr := storeSetC (TickT × HandT × Int) (fun x => TickI x.2.1 ∧ HandI x.2.2.1 ∧ I64 x.2.2.2) (fun x => [tickA x.2.1, handA x.2.2.1, i64 x.2.2.2]) (fun x => poiS x.1 x.2.1 x.2.2.1 x.2.2.2) (fun x => .tup [tickA (poiT x.1 x.2.1 x.2.2.1 x.2.2.2), i64 (poiE x.1 x.2.1 x.2.2.1 x.2.2.2)])

theorem tickPointV : (∀ (x : StoreT × TickT × HandT × Int), StoreW x.1 ∧ TickI x.2.1 ∧ HandI x.2.2.1 ∧ I64 x.2.2.2 → Exx (StoreT × TickT × HandT) fun x_1 =>
 (((true = true ∧ NilNil ∧ (0 : Nat) = 0) ∧ (Tr 1 (x.2.1.blocks = x_1.2.1.blocks) ∧ Tr 1 (x.2.1.slots = x_1.2.1.slots) ∧ Tr 1 (x.2.1.gens = x_1.2.1.gens) ∧ Tr 1
 (x.2.1.top = x_1.2.1.top) ∧ Tr 1 (x.2.1.high = x_1.2.1.high) ∧ Tr 1 (x.2.1.free = x_1.2.1.free) ∧ True) ∧ (Tr 1 (x.2.2.1.slot = x_1.2.2.slot) ∧ Tr 1
 (x.2.2.1.gen = x_1.2.2.gen) ∧ True) ∧ True) ∧ true = true ∧ ((105 : TypeId) = 105 ∧ (true = true ∧ NilNil ∧ (0 : Nat) = 0) ∧ (true = true ∧ NilNil ∧ (0 : Nat) =
 0) ∧ True) ∧ devB x.1.ws = devB x_1.1.ws ∧ allocB x.1.a = allocB x_1.1.a ∧ True) ∧ (StoreW x_1.1 ∧ TickI x_1.2.1 ∧ HandI x_1.2.2) ∧ ∀ (y : Unit), True → BC
 (!decide (seatE x_1.1.ws x_1.2.1 x_1.2.2 = (0 : Int))) (Exx Unit fun y => ((((Tr 1 ((0 : Int) = (poiT x.1 x.2.1 x.2.2.1 x.2.2.2).blocks) ∧ Tr 1 ((0 : Int) =
 (poiT x.1 x.2.1 x.2.2.1 x.2.2.2).slots) ∧ Tr 1 ((0 : Int) = (poiT x.1 x.2.1 x.2.2.1 x.2.2.2).gens) ∧ Tr 1 ((0 : Int) = (poiT x.1 x.2.1 x.2.2.1 x.2.2.2).top) ∧
 Tr 1 ((0 : Int) = (poiT x.1 x.2.1 x.2.2.1 x.2.2.2).high) ∧ Tr 1 ((0 : Int) = (poiT x.1 x.2.1 x.2.2.1 x.2.2.2).free) ∧ True) ∧ Tr 1 (seatE x_1.1.ws x_1.2.1
 x_1.2.2 = poiE x.1 x.2.1 x.2.2.1 x.2.2.2) ∧ True) ∧ True) ∧ ((105 : TypeId) = 105 ∧ (true = true ∧ NilNil ∧ (0 : Nat) = 0) ∧ (true = true ∧ NilNil ∧ (0 : Nat) =
 0) ∧ True) ∧ devB x_1.1.ws = devB (poiS x.1 x.2.1 x.2.2.1 x.2.2.2).ws ∧ allocB x_1.1.a = allocB (poiS x.1 x.2.1 x.2.2.1 x.2.2.2).a ∧ true = true ∧ True) ∧ True)
 (Exx Int fun x_2 => ((Tr 1 (x.2.2.2 = x_2) ∧ True) ∧ true = true ∧ True) ∧ (-9223372036854775808 ≤ x_2 ∧ x_2 ≤ (9223372036854775807 : Int)) ∧ ∀ (y : Unit), True
 → BC (!decide ((2 : Int) ≤ x_2 ∧ x_2 < (3072 : Int))) (Exx Unit fun y => ((((Tr 1 ((0 : Int) = (poiT x.1 x.2.1 x.2.2.1 x.2.2.2).blocks) ∧ Tr 1 ((0 : Int) =
 (poiT x.1 x.2.1 x.2.2.1 x.2.2.2).slots) ∧ Tr 1 ((0 : Int) = (poiT x.1 x.2.1 x.2.2.1 x.2.2.2).gens) ∧ Tr 1 ((0 : Int) = (poiT x.1 x.2.1 x.2.2.1 x.2.2.2).top) ∧
 Tr 1 ((0 : Int) = (poiT x.1 x.2.1 x.2.2.1 x.2.2.2).high) ∧ Tr 1 ((0 : Int) = (poiT x.1 x.2.1 x.2.2.1 x.2.2.2).free) ∧ True) ∧ Tr 1 ((2 : Int) = poiE x.1 x.2.1
 x.2.2.1 x.2.2.2) ∧ True) ∧ True) ∧ ((105 : TypeId) = 105 ∧ (true = true ∧ NilNil ∧ (0 : Nat) = 0) ∧ (true = true ∧ NilNil ∧ (0 : Nat) = 0) ∧ True) ∧ devB
 x_1.1.ws = devB (poiS x.1 x.2.1 x.2.2.1 x.2.2.2).ws ∧ allocB x_1.1.a = allocB (poiS x.1 x.2.1 x.2.2.1 x.2.2.2).a ∧ true = true ∧ True) ∧ True) (Exx (StoreT ×
 TickT × Int × SeatT) fun x_3 => (((true = true ∧ NilNil ∧ (0 : Nat) = 0) ∧ (Tr 1 (x.2.1.blocks = x_3.2.1.blocks) ∧ Tr 1 (x.2.1.slots = x_3.2.1.slots) ∧ Tr 1
 (x.2.1.gens = x_3.2.1.gens) ∧ Tr 1 (x.2.1.top = x_3.2.1.top) ∧ Tr 1 (x.2.1.high = x_3.2.1.high) ∧ Tr 1 (x.2.1.free = x_3.2.1.free) ∧ True) ∧ Tr 1 (x.2.2.1.slot
 = x_3.2.2.1) ∧ ((seatX x_1.1.ws x_1.2.1 x_1.2.2).live = x_3.2.2.2.live ∧ Tr 1 ((seatX x_1.1.ws x_1.2.1 x_1.2.2).gen = x_3.2.2.2.gen) ∧ Tr 1 (x.2.2.2 =
 x_3.2.2.2.next) ∧ True) ∧ True) ∧ true = true ∧ ((105 : TypeId) = 105 ∧ (true = true ∧ NilNil ∧ (0 : Nat) = 0) ∧ (true = true ∧ NilNil ∧ (0 : Nat) = 0) ∧ True)
 ∧ devB x_1.1.ws = devB x_3.1.ws ∧ allocB x_1.1.a = allocB x_3.1.a ∧ True) ∧ (StoreW x_3.1 ∧ TickI x_3.2.1 ∧ I64 x_3.2.2.1 ∧ SeatI x_3.2.2.2) ∧ ∀ (y : Unit),
 True → Exx Unit fun y => ((((Tr 1 ((turnT x_3.1 x_3.2.1 x_3.2.2.1 x_3.2.2.2).blocks = (poiT x.1 x.2.1 x.2.2.1 x.2.2.2).blocks) ∧ Tr 1 ((turnT x_3.1 x_3.2.1
 x_3.2.2.1 x_3.2.2.2).slots = (poiT x.1 x.2.1 x.2.2.1 x.2.2.2).slots) ∧ Tr 1 ((turnT x_3.1 x_3.2.1 x_3.2.2.1 x_3.2.2.2).gens = (poiT x.1 x.2.1 x.2.2.1
 x.2.2.2).gens) ∧ Tr 1 ((turnT x_3.1 x_3.2.1 x_3.2.2.1 x_3.2.2.2).top = (poiT x.1 x.2.1 x.2.2.1 x.2.2.2).top) ∧ Tr 1 ((turnT x_3.1 x_3.2.1 x_3.2.2.1
 x_3.2.2.2).high = (poiT x.1 x.2.1 x.2.2.1 x.2.2.2).high) ∧ Tr 1 ((turnT x_3.1 x_3.2.1 x_3.2.2.1 x_3.2.2.2).free = (poiT x.1 x.2.1 x.2.2.1 x.2.2.2).free) ∧ True)
 ∧ Tr 1 ((putR x_3.1 x_3.2.1.top x_3.2.2.1 x_3.2.2.2).e = poiE x.1 x.2.1 x.2.2.1 x.2.2.2) ∧ True) ∧ True) ∧ ((105 : TypeId) = 105 ∧ (true = true ∧ NilNil ∧ (0 :
 Nat) = 0) ∧ (true = true ∧ NilNil ∧ (0 : Nat) = 0) ∧ True) ∧ devB (putR x_3.1 x_3.2.1.top x_3.2.2.1 x_3.2.2.2).s.ws = devB (poiS x.1 x.2.1 x.2.2.1 x.2.2.2).ws ∧
 allocB (putR x_3.1 x_3.2.1.top x_3.2.2.1 x_3.2.2.2).s.a = allocB (poiS x.1 x.2.1 x.2.2.1 x.2.2.2).a ∧ true = true ∧ True) ∧ True))) = (fnVC tb [(28, specOf tickBlockC), (30, specOf tickTurnC), (31, specOf tickSeatC)] Tryd.f18 tickPointC (fun _ => {}) (fun _ => none)) := by kernel_rfl 

theorem tickPoint_ok : SpecOk Tryd.prog 18 (specOf tickPointC) := by
  refine specOk mixed tb_ok (SPok.cons tickBlock_ok (SPok.cons tickTurn_ok (SPok.cons tickSeat_ok SPok.nil))) Tryd.func18 (by decide) (storeSetC_ok fun _ => ⟨⟨rfl, rfl, rfl, rfl, rfl, rfl, trivial⟩, rfl, trivial⟩) (an := (fun _ => {})) (σ := (fun _ => none)) ?_
  rw [← tickPointV]
  simp (maxSteps := 10000000) only [and_false, false_and, false_or, or_false, bOf_true, bOf_false, true_bOf, false_bOf, Exx, int_ite, merge_o, Tr_eq, true_and, and_true, exists_const, forall_const, implies_true, forall_eq, exists_eq, exists_eq', exists_eq_left, exists_eq_left', exists_eq_right, Prod.exists, Prod.forall, and_assoc, exists_and_left, BC_iff, Bool.not_eq_true', Bool.not_eq_false', decide_eq_true_eq, decide_eq_false_iff_not, I64, nat_cast_inj, Int.toNat_natCast, nats_iff, nats_iff', ints_iff, ints_iff', natss_iff, natss_iff', nilnil, litL_eq, str_inj, str_append, str_length, str_getD, str_take, lit1_iff, one_iff, two_iff, one_get, Nat.zero_add, Nat.sub_zero, Nat.reduceMul, Nat.reduceDiv, Nat.reduceAdd, Int.reduceToNat, Nat.not_lt_zero, if_false, if_true, Nat.le_refl, List.length_singleton, List.length_cons, List.length_nil, Bool.false_eq_true, not_true_eq_false, false_implies, not_false_eq_true, Prod.mk.injEq, devB_inj, allocB_inj]
  rintro s t d at_ ⟨h, ht, hd, hb1, hb2⟩
  have bad : ∀ e : Int, e ≠ 0 → poiE s t d at_ = e → poiS s t d at_ = s → (0 = (poiT s t d at_).blocks ∧ 0 = (poiT s t d at_).slots ∧ 0 = (poiT s t d at_).gens ∧ 0 = (poiT s t d at_).top ∧ 0 = (poiT s t d at_).high ∧ 0 = (poiT s t d at_).free ∧ e = poiE s t d at_ ∧ s.ws = (poiS s t d at_).ws ∧ s.a = (poiS s t d at_).a) := fun e he h1 h2 => by
    have hn : ¬ poiE s t d at_ = 0 := by rw [h1]; exact he
    rw [poiT, if_neg hn, h2]; exact ⟨rfl, rfl, rfl, rfl, rfl, rfl, h1.symm, rfl, rfl⟩
  refine ⟨s, t, rfl, rfl, rfl, rfl, rfl, rfl, d, rfl, rfl, rfl, rfl, h, ht, hd, fun hn => bad _ hn ?_ ?_, fun hz => ⟨hb1, hb2, fun hnb => bad 2 (by decide) ?_ ?_, fun hbk => ⟨s, t, rfl, rfl, rfl, rfl, rfl, rfl, ⟨(seatX s.ws t d).live, (seatX s.ws t d).gen, at_⟩, rfl, rfl, rfl, rfl, rfl, h, ht, hd.1.1, hd.1.2, ⟨(seatX_I _ _ _).1, hb1, hb2⟩, ?_⟩⟩⟩
  · rw [poiE, if_neg (fun k => hn k.1), if_neg hn]
  · rw [poiS, if_neg (fun k => hn k.1)]
  · rw [poiE, if_neg (fun k => hnb k.2), if_pos hz]
  · rw [poiS, if_neg (fun k => hnb k.2)]
  · have hp : poiOk s t d at_ := ⟨hz, hbk⟩
    have eE : poiE s t d at_ = (poiW s t d at_).e := by rw [poiE, if_pos hp]
    have eS : poiS s t d at_ = (poiW s t d at_).s := by rw [poiS, if_pos hp]
    have eT : turnT s t d.slot ⟨(seatX s.ws t d).live, (seatX s.ws t d).gen, at_⟩ = poiT s t d at_ := by rw [turnT, poiT, eE]; rfl
    rw [eT, eE, eS]; exact ⟨rfl, rfl, rfl, rfl, rfl, rfl, rfl, rfl, rfl⟩

def relX (ws : List Nat) (t : TickT) (h : HandT) : SeatT := ⟨false, (seatX ws t h).gen, if (seatX ws t h).gen < t.gens then t.free else 0⟩
def relW (s : StoreT) (t : TickT) (h : HandT) : Wr := putR s t.top h.slot (relX s.ws t h)
def relE (s : StoreT) (t : TickT) (h : HandT) : Int := if seatE s.ws t h = 0 then (relW s t h).e else seatE s.ws t h
def relS (s : StoreT) (t : TickT) (h : HandT) : StoreT := if seatE s.ws t h = 0 then (relW s t h).s else s
def relT (s : StoreT) (t : TickT) (h : HandT) : TickT := if relE s t h = 0 then { t with top := (relW s t h).at_, free := if (seatX s.ws t h).gen < t.gens then h.slot + 1 else t.free } else tickZ
def tickReleaseC : Ctr := storeSetC (TickT × HandT) (fun x => TickI x.2.1 ∧ HandI x.2.2) (fun x => [tickA x.2.1, handA x.2.2]) (fun x => relS x.1 x.2.1 x.2.2) (fun x => .tup [tickA (relT x.1 x.2.1 x.2.2), i64 (relE x.1 x.2.1 x.2.2)])

theorem tickReleaseV : (∀ (x : StoreT × TickT × HandT), StoreW x.1 ∧ TickI x.2.1 ∧ HandI x.2.2 → Exx (StoreT × TickT × HandT) fun x_1 => (((true = true ∧ NilNil
 ∧ (0 : Nat) = 0) ∧ (Tr 1 (x.2.1.blocks = x_1.2.1.blocks) ∧ Tr 1 (x.2.1.slots = x_1.2.1.slots) ∧ Tr 1 (x.2.1.gens = x_1.2.1.gens) ∧ Tr 1 (x.2.1.top =
 x_1.2.1.top) ∧ Tr 1 (x.2.1.high = x_1.2.1.high) ∧ Tr 1 (x.2.1.free = x_1.2.1.free) ∧ True) ∧ (Tr 1 (x.2.2.slot = x_1.2.2.slot) ∧ Tr 1 (x.2.2.gen = x_1.2.2.gen)
 ∧ True) ∧ True) ∧ true = true ∧ ((105 : TypeId) = 105 ∧ (true = true ∧ NilNil ∧ (0 : Nat) = 0) ∧ (true = true ∧ NilNil ∧ (0 : Nat) = 0) ∧ True) ∧ devB x.1.ws =
 devB x_1.1.ws ∧ allocB x.1.a = allocB x_1.1.a ∧ True) ∧ (StoreW x_1.1 ∧ TickI x_1.2.1 ∧ HandI x_1.2.2) ∧ ∀ (y : Unit), True → BC (!decide (seatE x_1.1.ws
 x_1.2.1 x_1.2.2 = (0 : Int))) (Exx Unit fun y => ((((Tr 1 ((0 : Int) = (relT x.1 x.2.1 x.2.2).blocks) ∧ Tr 1 ((0 : Int) = (relT x.1 x.2.1 x.2.2).slots) ∧ Tr 1
 ((0 : Int) = (relT x.1 x.2.1 x.2.2).gens) ∧ Tr 1 ((0 : Int) = (relT x.1 x.2.1 x.2.2).top) ∧ Tr 1 ((0 : Int) = (relT x.1 x.2.1 x.2.2).high) ∧ Tr 1 ((0 : Int) =
 (relT x.1 x.2.1 x.2.2).free) ∧ True) ∧ Tr 1 (seatE x_1.1.ws x_1.2.1 x_1.2.2 = relE x.1 x.2.1 x.2.2) ∧ True) ∧ True) ∧ ((105 : TypeId) = 105 ∧ (true = true ∧
 NilNil ∧ (0 : Nat) = 0) ∧ (true = true ∧ NilNil ∧ (0 : Nat) = 0) ∧ True) ∧ devB x_1.1.ws = devB (relS x.1 x.2.1 x.2.2).ws ∧ allocB x_1.1.a = allocB (relS x.1
 x.2.1 x.2.2).a ∧ true = true ∧ True) ∧ True) (BC (decide ((seatX x_1.1.ws x_1.2.1 x_1.2.2).gen < x.2.1.gens)) (I64 (x.2.2.slot + 1) ∧ Exx (StoreT × TickT × Int
 × SeatT) fun x_2 => (((true = true ∧ NilNil ∧ (0 : Nat) = 0) ∧ (Tr 1 (x.2.1.blocks = x_2.2.1.blocks) ∧ Tr 1 (x.2.1.slots = x_2.2.1.slots) ∧ Tr 1 (x.2.1.gens =
 x_2.2.1.gens) ∧ Tr 1 (x.2.1.top = x_2.2.1.top) ∧ Tr 1 (x.2.1.high = x_2.2.1.high) ∧ Tr 1 (x.2.2.slot + 1 = x_2.2.1.free) ∧ True) ∧ Tr 1 (x.2.2.slot = x_2.2.2.1)
 ∧ (false = x_2.2.2.2.live ∧ Tr 1 ((seatX x_1.1.ws x_1.2.1 x_1.2.2).gen = x_2.2.2.2.gen) ∧ Tr 1 (x.2.1.free = x_2.2.2.2.next) ∧ True) ∧ True) ∧ true = true ∧
 ((105 : TypeId) = 105 ∧ (true = true ∧ NilNil ∧ (0 : Nat) = 0) ∧ (true = true ∧ NilNil ∧ (0 : Nat) = 0) ∧ True) ∧ devB x_1.1.ws = devB x_2.1.ws ∧ allocB x_1.1.a
 = allocB x_2.1.a ∧ True) ∧ (StoreW x_2.1 ∧ TickI x_2.2.1 ∧ I64 x_2.2.2.1 ∧ SeatI x_2.2.2.2) ∧ ∀ (y : Unit), True → Exx Unit fun y => ((((Tr 1 ((turnT x_2.1
 x_2.2.1 x_2.2.2.1 x_2.2.2.2).blocks = (relT x.1 x.2.1 x.2.2).blocks) ∧ Tr 1 ((turnT x_2.1 x_2.2.1 x_2.2.2.1 x_2.2.2.2).slots = (relT x.1 x.2.1 x.2.2).slots) ∧
 Tr 1 ((turnT x_2.1 x_2.2.1 x_2.2.2.1 x_2.2.2.2).gens = (relT x.1 x.2.1 x.2.2).gens) ∧ Tr 1 ((turnT x_2.1 x_2.2.1 x_2.2.2.1 x_2.2.2.2).top = (relT x.1 x.2.1
 x.2.2).top) ∧ Tr 1 ((turnT x_2.1 x_2.2.1 x_2.2.2.1 x_2.2.2.2).high = (relT x.1 x.2.1 x.2.2).high) ∧ Tr 1 ((turnT x_2.1 x_2.2.1 x_2.2.2.1 x_2.2.2.2).free = (relT
 x.1 x.2.1 x.2.2).free) ∧ True) ∧ Tr 1 ((putR x_2.1 x_2.2.1.top x_2.2.2.1 x_2.2.2.2).e = relE x.1 x.2.1 x.2.2) ∧ True) ∧ True) ∧ ((105 : TypeId) = 105 ∧ (true =
 true ∧ NilNil ∧ (0 : Nat) = 0) ∧ (true = true ∧ NilNil ∧ (0 : Nat) = 0) ∧ True) ∧ devB (putR x_2.1 x_2.2.1.top x_2.2.2.1 x_2.2.2.2).s.ws = devB (relS x.1 x.2.1
 x.2.2).ws ∧ allocB (putR x_2.1 x_2.2.1.top x_2.2.2.1 x_2.2.2.2).s.a = allocB (relS x.1 x.2.1 x.2.2).a ∧ true = true ∧ True) ∧ True) (Exx (StoreT × TickT × Int ×
 SeatT) fun x_2 => (((true = true ∧ NilNil ∧ (0 : Nat) = 0) ∧ (Tr 1 (x.2.1.blocks = x_2.2.1.blocks) ∧ Tr 1 (x.2.1.slots = x_2.2.1.slots) ∧ Tr 1 (x.2.1.gens =
 x_2.2.1.gens) ∧ Tr 1 (x.2.1.top = x_2.2.1.top) ∧ Tr 1 (x.2.1.high = x_2.2.1.high) ∧ Tr 1 (x.2.1.free = x_2.2.1.free) ∧ True) ∧ Tr 1 (x.2.2.slot = x_2.2.2.1) ∧
 (false = x_2.2.2.2.live ∧ Tr 1 ((seatX x_1.1.ws x_1.2.1 x_1.2.2).gen = x_2.2.2.2.gen) ∧ Tr 1 ((0 : Int) = x_2.2.2.2.next) ∧ True) ∧ True) ∧ true = true ∧ ((105
 : TypeId) = 105 ∧ (true = true ∧ NilNil ∧ (0 : Nat) = 0) ∧ (true = true ∧ NilNil ∧ (0 : Nat) = 0) ∧ True) ∧ devB x_1.1.ws = devB x_2.1.ws ∧ allocB x_1.1.a =
 allocB x_2.1.a ∧ True) ∧ (StoreW x_2.1 ∧ TickI x_2.2.1 ∧ I64 x_2.2.2.1 ∧ SeatI x_2.2.2.2) ∧ ∀ (y : Unit), True → Exx Unit fun y => ((((Tr 1 ((turnT x_2.1
 x_2.2.1 x_2.2.2.1 x_2.2.2.2).blocks = (relT x.1 x.2.1 x.2.2).blocks) ∧ Tr 1 ((turnT x_2.1 x_2.2.1 x_2.2.2.1 x_2.2.2.2).slots = (relT x.1 x.2.1 x.2.2).slots) ∧
 Tr 1 ((turnT x_2.1 x_2.2.1 x_2.2.2.1 x_2.2.2.2).gens = (relT x.1 x.2.1 x.2.2).gens) ∧ Tr 1 ((turnT x_2.1 x_2.2.1 x_2.2.2.1 x_2.2.2.2).top = (relT x.1 x.2.1
 x.2.2).top) ∧ Tr 1 ((turnT x_2.1 x_2.2.1 x_2.2.2.1 x_2.2.2.2).high = (relT x.1 x.2.1 x.2.2).high) ∧ Tr 1 ((turnT x_2.1 x_2.2.1 x_2.2.2.1 x_2.2.2.2).free = (relT
 x.1 x.2.1 x.2.2).free) ∧ True) ∧ Tr 1 ((putR x_2.1 x_2.2.1.top x_2.2.2.1 x_2.2.2.2).e = relE x.1 x.2.1 x.2.2) ∧ True) ∧ True) ∧ ((105 : TypeId) = 105 ∧ (true =
 true ∧ NilNil ∧ (0 : Nat) = 0) ∧ (true = true ∧ NilNil ∧ (0 : Nat) = 0) ∧ True) ∧ devB (putR x_2.1 x_2.2.1.top x_2.2.2.1 x_2.2.2.2).s.ws = devB (relS x.1 x.2.1
 x.2.2).ws ∧ allocB (putR x_2.1 x_2.2.1.top x_2.2.2.1 x_2.2.2.2).s.a = allocB (relS x.1 x.2.1 x.2.2).a ∧ true = true ∧ True) ∧ True))) = (fnVC tb [(30, specOf tickTurnC), (31, specOf tickSeatC)] Tryd.f15 tickReleaseC (fun x => { loose := [(6, [4, 7])] }) (fun _ => none)) := by kernel_rfl 

theorem tickRelease_ok : SpecOk Tryd.prog 15 (specOf tickReleaseC) := by
  refine specOk mixed tb_ok (SPok.cons tickTurn_ok (SPok.cons tickSeat_ok SPok.nil)) Tryd.func15 (by decide) (storeSetC_ok fun _ => ⟨⟨rfl, rfl, rfl, rfl, rfl, rfl, trivial⟩, rfl, trivial⟩) (an := (fun x => { loose := [(6, [4, 7])] })) (σ := (fun _ => none)) ?_
  rw [← tickReleaseV]
  simp (maxSteps := 10000000) only [and_false, false_and, false_or, or_false, bOf_true, bOf_false, true_bOf, false_bOf, Exx, int_ite, merge_o, Tr_eq, true_and, and_true, exists_const, forall_const, implies_true, forall_eq, exists_eq, exists_eq', exists_eq_left, exists_eq_left', exists_eq_right, Prod.exists, Prod.forall, and_assoc, exists_and_left, BC_iff, Bool.not_eq_true', Bool.not_eq_false', decide_eq_true_eq, decide_eq_false_iff_not, I64, nat_cast_inj, Int.toNat_natCast, nats_iff, nats_iff', ints_iff, ints_iff', natss_iff, natss_iff', nilnil, litL_eq, str_inj, str_append, str_length, str_getD, str_take, lit1_iff, one_iff, two_iff, one_get, Nat.zero_add, Nat.sub_zero, Nat.reduceMul, Nat.reduceDiv, Nat.reduceAdd, Int.reduceToNat, Nat.not_lt_zero, if_false, if_true, Nat.le_refl, List.length_singleton, List.length_cons, List.length_nil, Bool.false_eq_true, not_true_eq_false, false_implies, not_false_eq_true, Prod.mk.injEq, devB_inj, allocB_inj]
  rintro s t d ⟨h, ht, hd⟩
  have bad : ∀ e : Int, e ≠ 0 → relE s t d = e → relS s t d = s → (0 = (relT s t d).blocks ∧ 0 = (relT s t d).slots ∧ 0 = (relT s t d).gens ∧ 0 = (relT s t d).top ∧ 0 = (relT s t d).high ∧ 0 = (relT s t d).free ∧ e = relE s t d ∧ s.ws = (relS s t d).ws ∧ s.a = (relS s t d).a) := fun e he h1 h2 => by
    have hn : ¬ relE s t d = 0 := by rw [h1]; exact he
    rw [relT, if_neg hn, h2]; exact ⟨rfl, rfl, rfl, rfl, rfl, rfl, h1.symm, rfl, rfl⟩
  have ht0 := ht
  obtain ⟨i1, i2, i3, i4, i5, i6⟩ := ht
  refine ⟨s, t, rfl, rfl, rfl, rfl, rfl, rfl, d, rfl, rfl, rfl, rfl, h, ht0, hd, fun hn => bad _ hn (by rw [relE, if_neg hn]) (by rw [relS, if_neg hn]), fun hz => ?_⟩
  have hsl := seatE_slot hz
  have hsx := seatX_I s.ws t d
  have eE : relE s t d = (relW s t d).e := by rw [relE, if_pos hz]
  have eS : relS s t d = (relW s t d).s := by rw [relS, if_pos hz]
  have h51 := i5.1
  have h52 := i5.2
  refine ⟨fun hg => ⟨by omega, by omega, s, { t with free := d.slot + 1 }, rfl, rfl, rfl, rfl, rfl, rfl, relX s.ws t d, rfl, rfl, by rw [relX, if_pos hg], rfl, rfl, h, ⟨i1, i2, i3, i4, i5, ⟨by simp only; omega, by simp only; omega⟩⟩, hd.1.1, hd.1.2, ⟨hsx.1, by rw [relX, if_pos hg]; exact i6⟩, ?_⟩, fun hg => ⟨s, t, rfl, rfl, rfl, rfl, rfl, rfl, relX s.ws t d, rfl, rfl, by rw [relX, if_neg hg], rfl, rfl, h, ht0, hd.1.1, hd.1.2, ⟨hsx.1, by rw [relX, if_neg hg]; exact I64_0⟩, ?_⟩⟩
  · have eT : turnT s { t with free := d.slot + 1 } d.slot (relX s.ws t d) = relT s t d := by rw [turnT, relT, eE, if_pos hg]; rfl
    rw [eT, eE, eS]; exact ⟨rfl, rfl, rfl, rfl, rfl, rfl, rfl, rfl, rfl⟩
  · have eT : turnT s t d.slot (relX s.ws t d) = relT s t d := by rw [turnT, relT, eE, if_neg hg]; rfl
    rw [eT, eE, eS]; exact ⟨rfl, rfl, rfl, rfl, rfl, rfl, rfl, rfl, rfl⟩

end Yard
