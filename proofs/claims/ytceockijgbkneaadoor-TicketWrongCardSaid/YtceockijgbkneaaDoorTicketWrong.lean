import Derived.Test.YtceockijgbkneaaDoorLaw21
/- The law TicketWrong: also what a nil store is told. -/
namespace Yard
open Go Go.Sx Go.Proofs
set_option linter.unusedVariables false
set_option linter.unusedSimpArgs false
set_option maxRecDepth 4000
set_option maxHeartbeats 4000000

def nilMayC : Ctr := pureC TickT TickI (fun t => [.nilp, tickA t]) (fun _ => i64 1)
def nilNextC : Ctr := pureC TickT TickI (fun t => [.nilp, tickA t]) (fun _ => .tup [i64 0, seatA seatZ, i64 1])
def nilNextHC : Ctr := pureC TickT TickI (fun t => [.nilp, tickA t]) (fun _ => .tup [handA handZ, i64 1])
def nilIssueC : Ctr := pureC (TickT × Int) (fun x => TickI x.1 ∧ I64 x.2) (fun x => [.nilp, tickA x.1, i64 x.2]) (fun _ => .tup [tickA tickZ, handA handZ, i64 1])
def nilSeatC : Ctr := pureC (TickT × HandT) (fun x => TickI x.1 ∧ HandI x.2) (fun x => [.nilp, tickA x.1, handA x.2]) (fun _ => .tup [seatA seatZ, i64 1])
def nilResolveC : Ctr := pureC (TickT × HandT) (fun x => TickI x.1 ∧ HandI x.2) (fun x => [.nilp, tickA x.1, handA x.2]) (fun _ => .tup [i64 0, i64 1])
def nilPointC : Ctr := pureC (TickT × HandT × Int) (fun x => TickI x.1 ∧ HandI x.2.1 ∧ I64 x.2.2) (fun x => [.nilp, tickA x.1, handA x.2.1, i64 x.2.2]) (fun _ => .tup [tickA tickZ, i64 1])
def nilReleaseC : Ctr := pureC (TickT × HandT) (fun x => TickI x.1 ∧ HandI x.2) (fun x => [.nilp, tickA x.1, handA x.2]) (fun _ => .tup [tickA tickZ, i64 1])

-- callees: 19=tickRight_ok
theorem nilMayV : (∀ (x : TickT), TickI x → Exx Unit fun y => ((Tr 1 ((1 : Int) = (1 : Int)) ∧ True) ∧ true = true ∧ True) ∧ True) = (fnVC tb [(19, specOf
 tickRightC)] Tryd.f27 nilMayC (fun _ => {}) (fun _ => none)) := by kernel_rfl

theorem nilMay_ok : SpecOk Tryd.prog 27 (specOf nilMayC) := by
  refine specOk mixed tb_ok (SPok.cons tickRight_ok SPok.nil) Tryd.func27 (by decide) (pureC_ok fun _ => rfl) (an := (fun _ => {})) (σ := (fun _ => none)) ?_
  rw [← nilMayV]
  simp (maxSteps := 10000000) only [and_false, false_and, false_or, or_false, bOf_true, bOf_false, true_bOf, false_bOf, Exx, int_ite, merge_o, Tr_eq, true_and, and_true, exists_const, forall_const, implies_true, forall_eq, exists_eq, exists_eq', exists_eq_left, exists_eq_left', exists_eq_right, Prod.exists, Prod.forall, and_assoc, exists_and_left, BC_iff, Bool.not_eq_true', Bool.not_eq_false', decide_eq_true_eq, decide_eq_false_iff_not, I64, nat_cast_inj, Int.toNat_natCast, nats_iff, nats_iff', ints_iff, ints_iff', natss_iff, natss_iff', nilnil, litL_eq, str_inj, str_append, str_length, str_getD, str_take, lit1_iff, one_iff, two_iff, one_get, Nat.zero_add, Nat.sub_zero, Nat.reduceMul, Nat.reduceDiv, Nat.reduceAdd, Int.reduceToNat, Nat.not_lt_zero, if_false, if_true, Nat.le_refl, List.length_singleton, List.length_cons, List.length_nil, Bool.false_eq_true, not_true_eq_false, false_implies, not_false_eq_true, Prod.mk.injEq]

-- callees: 27=nilMay_ok 43=find_ok
theorem nilNextV : (∀ (x : TickT), TickI x → Exx TickT fun x_1 => (Tr 1 ((Tr 1 (x.blocks = x_1.blocks) ∧ Tr 1 (x.slots = x_1.slots) ∧ Tr 1 (x.gens = x_1.gens) ∧
 Tr 1 (x.top = x_1.top) ∧ Tr 1 (x.high = x_1.high) ∧ Tr 1 (x.free = x_1.free) ∧ True) ∧ True) ∧ true = true ∧ True) ∧ TickI x_1 ∧ ∀ (y : Unit), True → Exx Unit
 fun y => (((Tr 1 ((0 : Int) = (0 : Int)) ∧ (false = false ∧ Tr 1 ((0 : Int) = seatZ.gen) ∧ Tr 1 ((0 : Int) = seatZ.next) ∧ True) ∧ Tr 1 ((1 : Int) = (1 : Int))
 ∧ True) ∧ True) ∧ true = true ∧ True) ∧ True) = (fnVC tb [(27, specOf nilMayC), (43, specOf findC)] Tryd.f29 nilNextC (fun _ => {}) (fun _ => none)) := by
 kernel_rfl

theorem nilNext_ok : SpecOk Tryd.prog 29 (specOf nilNextC) := by
  refine specOk mixed tb_ok (SPok.cons nilMay_ok (SPok.cons find_ok SPok.nil)) Tryd.func29 (by decide) (pureC_ok fun _ => ⟨rfl, ⟨rfl, rfl, rfl, trivial⟩, rfl, trivial⟩) (an := (fun _ => {})) (σ := (fun _ => none)) ?_
  rw [← nilNextV]
  simp (maxSteps := 10000000) only [and_false, false_and, false_or, or_false, bOf_true, bOf_false, true_bOf, false_bOf, Exx, int_ite, merge_o, Tr_eq, true_and, and_true, exists_const, forall_const, implies_true, forall_eq, exists_eq, exists_eq', exists_eq_left, exists_eq_left', exists_eq_right, Prod.exists, Prod.forall, and_assoc, exists_and_left, BC_iff, Bool.not_eq_true', Bool.not_eq_false', decide_eq_true_eq, decide_eq_false_iff_not, I64, nat_cast_inj, Int.toNat_natCast, nats_iff, nats_iff', ints_iff, ints_iff', natss_iff, natss_iff', nilnil, litL_eq, str_inj, str_append, str_length, str_getD, str_take, lit1_iff, one_iff, two_iff, one_get, Nat.zero_add, Nat.sub_zero, Nat.reduceMul, Nat.reduceDiv, Nat.reduceAdd, Int.reduceToNat, Nat.not_lt_zero, if_false, if_true, Nat.le_refl, List.length_singleton, List.length_cons, List.length_nil, Bool.false_eq_true, not_true_eq_false, false_implies, not_false_eq_true, Prod.mk.injEq, tick_ex, tick_eta]
  exact fun t h => ⟨h, rfl, rfl⟩

-- callees: 29=nilNext_ok
theorem nilNextHV : (∀ (x : TickT), TickI x → Exx TickT fun x_1 => (Tr 1 ((Tr 1 (x.blocks = x_1.blocks) ∧ Tr 1 (x.slots = x_1.slots) ∧ Tr 1 (x.gens = x_1.gens)
 ∧ Tr 1 (x.top = x_1.top) ∧ Tr 1 (x.high = x_1.high) ∧ Tr 1 (x.free = x_1.free) ∧ True) ∧ True) ∧ true = true ∧ True) ∧ TickI x_1 ∧ ∀ (y : Unit), True → Exx Unit
 fun y => ((((Tr 1 ((0 : Int) = handZ.slot) ∧ Tr 1 ((0 : Int) = handZ.gen) ∧ True) ∧ Tr 1 ((1 : Int) = (1 : Int)) ∧ True) ∧ True) ∧ true = true ∧ True) ∧ True) =
 (fnVC tb [(29, specOf nilNextC)] Tryd.f17 nilNextHC (fun _ => {}) (fun _ => none)) := by kernel_rfl

theorem nilNextH_ok : SpecOk Tryd.prog 17 (specOf nilNextHC) := by
  refine specOk mixed tb_ok (SPok.cons nilNext_ok SPok.nil) Tryd.func17 (by decide) (pureC_ok fun _ => ⟨⟨rfl, rfl, trivial⟩, rfl, trivial⟩) (an := (fun _ => {})) (σ := (fun _ => none)) ?_
  rw [← nilNextHV]
  simp (maxSteps := 10000000) only [and_false, false_and, false_or, or_false, bOf_true, bOf_false, true_bOf, false_bOf, Exx, int_ite, merge_o, Tr_eq, true_and, and_true, exists_const, forall_const, implies_true, forall_eq, exists_eq, exists_eq', exists_eq_left, exists_eq_left', exists_eq_right, Prod.exists, Prod.forall, and_assoc, exists_and_left, BC_iff, Bool.not_eq_true', Bool.not_eq_false', decide_eq_true_eq, decide_eq_false_iff_not, I64, nat_cast_inj, Int.toNat_natCast, nats_iff, nats_iff', ints_iff, ints_iff', natss_iff, natss_iff', nilnil, litL_eq, str_inj, str_append, str_length, str_getD, str_take, lit1_iff, one_iff, two_iff, one_get, Nat.zero_add, Nat.sub_zero, Nat.reduceMul, Nat.reduceDiv, Nat.reduceAdd, Int.reduceToNat, Nat.not_lt_zero, if_false, if_true, Nat.le_refl, List.length_singleton, List.length_cons, List.length_nil, Bool.false_eq_true, not_true_eq_false, false_implies, not_false_eq_true, Prod.mk.injEq, tick_ex, tick_eta]
  exact fun t h => ⟨h, rfl, rfl⟩

-- callees: 27=nilMay_ok 28=tickBlock_ok 29=nilNext_ok 30=tickTurn_ok
theorem nilIssueV : (∀ (x : TickT × Int), TickI x.fst ∧ I64 x.snd → Exx TickT fun x_1 => (Tr 1 ((Tr 1 (x.fst.blocks = x_1.blocks) ∧ Tr 1 (x.fst.slots =
 x_1.slots) ∧ Tr 1 (x.fst.gens = x_1.gens) ∧ Tr 1 (x.fst.top = x_1.top) ∧ Tr 1 (x.fst.high = x_1.high) ∧ Tr 1 (x.fst.free = x_1.free) ∧ True) ∧ True) ∧ true =
 true ∧ True) ∧ TickI x_1 ∧ ∀ (y : Unit), True → Exx Unit fun y => ((((Tr 1 ((0 : Int) = tickZ.blocks) ∧ Tr 1 ((0 : Int) = tickZ.slots) ∧ Tr 1 ((0 : Int) =
 tickZ.gens) ∧ Tr 1 ((0 : Int) = tickZ.top) ∧ Tr 1 ((0 : Int) = tickZ.high) ∧ Tr 1 ((0 : Int) = tickZ.free) ∧ True) ∧ (Tr 1 ((0 : Int) = handZ.slot) ∧ Tr 1 ((0 :
 Int) = handZ.gen) ∧ True) ∧ Tr 1 ((1 : Int) = (1 : Int)) ∧ True) ∧ True) ∧ true = true ∧ True) ∧ True) = (fnVC tb [(27, specOf nilMayC), (28, specOf
 tickBlockC), (29, specOf nilNextC), (30, specOf tickTurnC)] Tryd.f12 nilIssueC (fun x => { loose := [(16, [5, 6])] }) (fun _ => none)) := by kernel_rfl

theorem nilIssue_ok : SpecOk Tryd.prog 12 (specOf nilIssueC) := by
  refine specOk mixed tb_ok (SPok.cons nilMay_ok (SPok.cons tickBlock_ok (SPok.cons nilNext_ok (SPok.cons tickTurn_ok SPok.nil)))) Tryd.func12 (by decide) (pureC_ok fun _ => ⟨⟨rfl, rfl, rfl, rfl, rfl, rfl, trivial⟩, ⟨rfl, rfl, trivial⟩, rfl, trivial⟩) (an := (fun x => { loose := [(16, [5, 6])] })) (σ := (fun _ => none)) ?_
  rw [← nilIssueV]
  simp (maxSteps := 10000000) only [and_false, false_and, false_or, or_false, bOf_true, bOf_false, true_bOf, false_bOf, Exx, int_ite, merge_o, Tr_eq, true_and, and_true, exists_const, forall_const, implies_true, forall_eq, exists_eq, exists_eq', exists_eq_left, exists_eq_left', exists_eq_right, Prod.exists, Prod.forall, and_assoc, exists_and_left, BC_iff, Bool.not_eq_true', Bool.not_eq_false', decide_eq_true_eq, decide_eq_false_iff_not, I64, nat_cast_inj, Int.toNat_natCast, nats_iff, nats_iff', ints_iff, ints_iff', natss_iff, natss_iff', nilnil, litL_eq, str_inj, str_append, str_length, str_getD, str_take, lit1_iff, one_iff, two_iff, one_get, Nat.zero_add, Nat.sub_zero, Nat.reduceMul, Nat.reduceDiv, Nat.reduceAdd, Int.reduceToNat, Nat.not_lt_zero, if_false, if_true, Nat.le_refl, List.length_singleton, List.length_cons, List.length_nil, Bool.false_eq_true, not_true_eq_false, false_implies, not_false_eq_true, Prod.mk.injEq, tick_ex, tick_eta]
  exact fun t at_ h => ⟨h.1, rfl, rfl, rfl, rfl, rfl, rfl, rfl, rfl⟩

-- callees: 27=nilMay_ok 43=find_ok
theorem nilSeatV : (∀ (x : TickT × HandT), TickI x.fst ∧ HandI x.snd → Exx TickT fun x_1 => (Tr 1 ((Tr 1 (x.fst.blocks = x_1.blocks) ∧ Tr 1 (x.fst.slots =
 x_1.slots) ∧ Tr 1 (x.fst.gens = x_1.gens) ∧ Tr 1 (x.fst.top = x_1.top) ∧ Tr 1 (x.fst.high = x_1.high) ∧ Tr 1 (x.fst.free = x_1.free) ∧ True) ∧ True) ∧ true =
 true ∧ True) ∧ TickI x_1 ∧ ∀ (y : Unit), True → Exx Unit fun y => ((((false = false ∧ Tr 1 ((0 : Int) = seatZ.gen) ∧ Tr 1 ((0 : Int) = seatZ.next) ∧ True) ∧ Tr
 1 ((1 : Int) = (1 : Int)) ∧ True) ∧ True) ∧ true = true ∧ True) ∧ True) = (fnVC tb [(27, specOf nilMayC), (43, specOf findC)] Tryd.f31 nilSeatC (fun _ => {})
 (fun _ => none)) := by kernel_rfl

theorem nilSeat_ok : SpecOk Tryd.prog 31 (specOf nilSeatC) := by
  refine specOk mixed tb_ok (SPok.cons nilMay_ok (SPok.cons find_ok SPok.nil)) Tryd.func31 (by decide) (pureC_ok fun _ => ⟨⟨rfl, rfl, rfl, trivial⟩, rfl, trivial⟩) (an := (fun _ => {})) (σ := (fun _ => none)) ?_
  rw [← nilSeatV]
  simp (maxSteps := 10000000) only [and_false, false_and, false_or, or_false, bOf_true, bOf_false, true_bOf, false_bOf, Exx, int_ite, merge_o, Tr_eq, true_and, and_true, exists_const, forall_const, implies_true, forall_eq, exists_eq, exists_eq', exists_eq_left, exists_eq_left', exists_eq_right, Prod.exists, Prod.forall, and_assoc, exists_and_left, BC_iff, Bool.not_eq_true', Bool.not_eq_false', decide_eq_true_eq, decide_eq_false_iff_not, I64, nat_cast_inj, Int.toNat_natCast, nats_iff, nats_iff', ints_iff, ints_iff', natss_iff, natss_iff', nilnil, litL_eq, str_inj, str_append, str_length, str_getD, str_take, lit1_iff, one_iff, two_iff, one_get, Nat.zero_add, Nat.sub_zero, Nat.reduceMul, Nat.reduceDiv, Nat.reduceAdd, Int.reduceToNat, Nat.not_lt_zero, if_false, if_true, Nat.le_refl, List.length_singleton, List.length_cons, List.length_nil, Bool.false_eq_true, not_true_eq_false, false_implies, not_false_eq_true, Prod.mk.injEq, tick_ex, tick_eta]
  exact fun t x h => ⟨h.1, rfl, rfl⟩

-- callees: 31=nilSeat_ok
theorem nilResolveV : (∀ (x : TickT × HandT), TickI x.fst ∧ HandI x.snd → Exx (TickT × HandT) fun x_1 => (Tr 1 ((Tr 1 (x.fst.blocks = x_1.fst.blocks) ∧ Tr 1
 (x.fst.slots = x_1.fst.slots) ∧ Tr 1 (x.fst.gens = x_1.fst.gens) ∧ Tr 1 (x.fst.top = x_1.fst.top) ∧ Tr 1 (x.fst.high = x_1.fst.high) ∧ Tr 1 (x.fst.free =
 x_1.fst.free) ∧ True) ∧ (Tr 1 (x.snd.slot = x_1.snd.slot) ∧ Tr 1 (x.snd.gen = x_1.snd.gen) ∧ True) ∧ True) ∧ true = true ∧ True) ∧ (TickI x_1.fst ∧ HandI
 x_1.snd) ∧ ∀ (y : Unit), True → Exx Unit fun y => (((Tr 1 (seatZ.next = (0 : Int)) ∧ Tr 1 ((1 : Int) = (1 : Int)) ∧ True) ∧ True) ∧ true = true ∧ True) ∧ True)
 = (fnVC tb [(31, specOf nilSeatC)] Tryd.f16 nilResolveC (fun _ => {}) (fun _ => none)) := by kernel_rfl

theorem nilResolve_ok : SpecOk Tryd.prog 16 (specOf nilResolveC) := by
  refine specOk mixed tb_ok (SPok.cons nilSeat_ok SPok.nil) Tryd.func16 (by decide) (pureC_ok fun _ => ⟨rfl, rfl, trivial⟩) (an := (fun _ => {})) (σ := (fun _ => none)) ?_
  rw [← nilResolveV]
  simp (maxSteps := 10000000) only [and_false, false_and, false_or, or_false, bOf_true, bOf_false, true_bOf, false_bOf, Exx, int_ite, merge_o, Tr_eq, true_and, and_true, exists_const, forall_const, implies_true, forall_eq, exists_eq, exists_eq', exists_eq_left, exists_eq_left', exists_eq_right, Prod.exists, Prod.forall, and_assoc, exists_and_left, BC_iff, Bool.not_eq_true', Bool.not_eq_false', decide_eq_true_eq, decide_eq_false_iff_not, I64, nat_cast_inj, Int.toNat_natCast, nats_iff, nats_iff', ints_iff, ints_iff', natss_iff, natss_iff', nilnil, litL_eq, str_inj, str_append, str_length, str_getD, str_take, lit1_iff, one_iff, two_iff, one_get, Nat.zero_add, Nat.sub_zero, Nat.reduceMul, Nat.reduceDiv, Nat.reduceAdd, Int.reduceToNat, Nat.not_lt_zero, if_false, if_true, Nat.le_refl, List.length_singleton, List.length_cons, List.length_nil, Bool.false_eq_true, not_true_eq_false, false_implies, not_false_eq_true, Prod.mk.injEq, tick_ex, tick_eta, hand_ex, hand_eta]
  exact fun t x h => ⟨h.1, h.2, rfl⟩

-- callees: 28=tickBlock_ok 30=tickTurn_ok 31=nilSeat_ok
theorem nilPointV : (∀ (x : TickT × HandT × Int), TickI x.fst ∧ HandI x.snd.fst ∧ I64 x.snd.snd → Exx (TickT × HandT) fun x_1 => (Tr 1 ((Tr 1 (x.fst.blocks =
 x_1.fst.blocks) ∧ Tr 1 (x.fst.slots = x_1.fst.slots) ∧ Tr 1 (x.fst.gens = x_1.fst.gens) ∧ Tr 1 (x.fst.top = x_1.fst.top) ∧ Tr 1 (x.fst.high = x_1.fst.high) ∧ Tr
 1 (x.fst.free = x_1.fst.free) ∧ True) ∧ (Tr 1 (x.snd.fst.slot = x_1.snd.slot) ∧ Tr 1 (x.snd.fst.gen = x_1.snd.gen) ∧ True) ∧ True) ∧ true = true ∧ True) ∧
 (TickI x_1.fst ∧ HandI x_1.snd) ∧ ∀ (y : Unit), True → Exx Unit fun y => ((((Tr 1 ((0 : Int) = tickZ.blocks) ∧ Tr 1 ((0 : Int) = tickZ.slots) ∧ Tr 1 ((0 : Int)
 = tickZ.gens) ∧ Tr 1 ((0 : Int) = tickZ.top) ∧ Tr 1 ((0 : Int) = tickZ.high) ∧ Tr 1 ((0 : Int) = tickZ.free) ∧ True) ∧ Tr 1 ((1 : Int) = (1 : Int)) ∧ True) ∧
 True) ∧ true = true ∧ True) ∧ True) = (fnVC tb [(28, specOf tickBlockC), (30, specOf tickTurnC), (31, specOf nilSeatC)] Tryd.f18 nilPointC (fun _ => {}) (fun _
 => none)) := by kernel_rfl

theorem nilPoint_ok : SpecOk Tryd.prog 18 (specOf nilPointC) := by
  refine specOk mixed tb_ok (SPok.cons tickBlock_ok (SPok.cons tickTurn_ok (SPok.cons nilSeat_ok SPok.nil))) Tryd.func18 (by decide) (pureC_ok fun _ => ⟨⟨rfl, rfl, rfl, rfl, rfl, rfl, trivial⟩, rfl, trivial⟩) (an := (fun _ => {})) (σ := (fun _ => none)) ?_
  rw [← nilPointV]
  simp (maxSteps := 10000000) only [and_false, false_and, false_or, or_false, bOf_true, bOf_false, true_bOf, false_bOf, Exx, int_ite, merge_o, Tr_eq, true_and, and_true, exists_const, forall_const, implies_true, forall_eq, exists_eq, exists_eq', exists_eq_left, exists_eq_left', exists_eq_right, Prod.exists, Prod.forall, and_assoc, exists_and_left, BC_iff, Bool.not_eq_true', Bool.not_eq_false', decide_eq_true_eq, decide_eq_false_iff_not, I64, nat_cast_inj, Int.toNat_natCast, nats_iff, nats_iff', ints_iff, ints_iff', natss_iff, natss_iff', nilnil, litL_eq, str_inj, str_append, str_length, str_getD, str_take, lit1_iff, one_iff, two_iff, one_get, Nat.zero_add, Nat.sub_zero, Nat.reduceMul, Nat.reduceDiv, Nat.reduceAdd, Int.reduceToNat, Nat.not_lt_zero, if_false, if_true, Nat.le_refl, List.length_singleton, List.length_cons, List.length_nil, Bool.false_eq_true, not_true_eq_false, false_implies, not_false_eq_true, Prod.mk.injEq, tick_ex, tick_eta, hand_ex, hand_eta]
  exact fun t x at_ h => ⟨h.1, h.2.1, rfl, rfl, rfl, rfl, rfl, rfl⟩

-- callees: 30=tickTurn_ok 31=nilSeat_ok
theorem nilReleaseV : (∀ (x : TickT × HandT), TickI x.fst ∧ HandI x.snd → Exx (TickT × HandT) fun x_1 => (Tr 1 ((Tr 1 (x.fst.blocks = x_1.fst.blocks) ∧ Tr 1
 (x.fst.slots = x_1.fst.slots) ∧ Tr 1 (x.fst.gens = x_1.fst.gens) ∧ Tr 1 (x.fst.top = x_1.fst.top) ∧ Tr 1 (x.fst.high = x_1.fst.high) ∧ Tr 1 (x.fst.free =
 x_1.fst.free) ∧ True) ∧ (Tr 1 (x.snd.slot = x_1.snd.slot) ∧ Tr 1 (x.snd.gen = x_1.snd.gen) ∧ True) ∧ True) ∧ true = true ∧ True) ∧ (TickI x_1.fst ∧ HandI
 x_1.snd) ∧ ∀ (y : Unit), True → Exx Unit fun y => ((((Tr 1 ((0 : Int) = tickZ.blocks) ∧ Tr 1 ((0 : Int) = tickZ.slots) ∧ Tr 1 ((0 : Int) = tickZ.gens) ∧ Tr 1
 ((0 : Int) = tickZ.top) ∧ Tr 1 ((0 : Int) = tickZ.high) ∧ Tr 1 ((0 : Int) = tickZ.free) ∧ True) ∧ Tr 1 ((1 : Int) = (1 : Int)) ∧ True) ∧ True) ∧ true = true ∧
 True) ∧ True) = (fnVC tb [(30, specOf tickTurnC), (31, specOf nilSeatC)] Tryd.f15 nilReleaseC (fun x => { loose := [(6, [4, 7])] }) (fun _ => none)) := by
 kernel_rfl

theorem nilRelease_ok : SpecOk Tryd.prog 15 (specOf nilReleaseC) := by
  refine specOk mixed tb_ok (SPok.cons tickTurn_ok (SPok.cons nilSeat_ok SPok.nil)) Tryd.func15 (by decide) (pureC_ok fun _ => ⟨⟨rfl, rfl, rfl, rfl, rfl, rfl, trivial⟩, rfl, trivial⟩) (an := (fun x => { loose := [(6, [4, 7])] })) (σ := (fun _ => none)) ?_
  rw [← nilReleaseV]
  simp (maxSteps := 10000000) only [and_false, false_and, false_or, or_false, bOf_true, bOf_false, true_bOf, false_bOf, Exx, int_ite, merge_o, Tr_eq, true_and, and_true, exists_const, forall_const, implies_true, forall_eq, exists_eq, exists_eq', exists_eq_left, exists_eq_left', exists_eq_right, Prod.exists, Prod.forall, and_assoc, exists_and_left, BC_iff, Bool.not_eq_true', Bool.not_eq_false', decide_eq_true_eq, decide_eq_false_iff_not, I64, nat_cast_inj, Int.toNat_natCast, nats_iff, nats_iff', ints_iff, ints_iff', natss_iff, natss_iff', nilnil, litL_eq, str_inj, str_append, str_length, str_getD, str_take, lit1_iff, one_iff, two_iff, one_get, Nat.zero_add, Nat.sub_zero, Nat.reduceMul, Nat.reduceDiv, Nat.reduceAdd, Int.reduceToNat, Nat.not_lt_zero, if_false, if_true, Nat.le_refl, List.length_singleton, List.length_cons, List.length_nil, Bool.false_eq_true, not_true_eq_false, false_implies, not_false_eq_true, Prod.mk.injEq, tick_ex, tick_eta, hand_ex, hand_eta]
  exact fun t x h => ⟨h.1, h.2, rfl, rfl, rfl, rfl, rfl, rfl⟩

def nextSpP : Sx.Spec := specCase (argNil 0) (specOf nilNextHC) (specOf tickNextHC)
theorem nextSp_ok : SpecOk Tryd.prog 17 nextSpP := specCase_ok nilNextH_ok tickNextH_ok
def issueSpP : Sx.Spec := specCase (argNil 0) (specOf nilIssueC) (specOf tickIssueC)
theorem issueSp_ok : SpecOk Tryd.prog 12 issueSpP := specCase_ok nilIssue_ok tickIssue_ok
def resolveSpP : Sx.Spec := specCase (argNil 0) (specOf nilResolveC) (specOf tickResolveC)
theorem resolveSp_ok : SpecOk Tryd.prog 16 resolveSpP := specCase_ok nilResolve_ok tickResolve_ok
def pointSpP : Sx.Spec := specCase (argNil 0) (specOf nilPointC) (specOf tickPointC)
theorem pointSp_ok : SpecOk Tryd.prog 18 pointSpP := specCase_ok nilPoint_ok tickPoint_ok
def releaseSpP : Sx.Spec := specCase (argNil 0) (specOf nilReleaseC) (specOf tickReleaseC)
theorem releaseSp_ok : SpecOk Tryd.prog 15 releaseSpP := specCase_ok nilRelease_ok tickRelease_ok

def ticketWrongC : Ctr := pureC (TickT × HandT × Int) (fun x => TickI x.1 ∧ HandI x.2.1 ∧ I64 x.2.2) (fun x => [tickA x.1, handA x.2.1, i64 x.2.2]) (fun _ => .bool true)

def wrongJ (x : TickT × HandT × Int) : LA := { T := Bool, F := fun b => frm 210 [(2, i64 x.2.2), (3, .ptr 1 [] 0), (4, .ptr 2 [] 0), (7, .ptr 3 [] 0), (22, .bool b)], H := fun _ => [.fence, tickC x.1, .cells 36 [i64 x.2.1.slot, i64 x.2.1.gen], storeI 4 5, devI (madeS 20 0).ws, allocI (madeS 20 0).a], σ₁ := some (idRen 6 6) }
theorem wrong_at (t : TickT) (h : HandT) (hk : tickOk t) : seatE (madeS 20 0).ws { t with top := 0 } h = 11 ∧ seatX (madeS 20 0).ws { t with top := 0 } h = seatZ := by
  have e : seatE (madeS 20 0).ws { t with top := 0 } h = 11 := by
    have hk' : tickOk { t with top := 0 } := hk
    rw [seatE, if_pos hk']
    by_cases hr : h.slot < 0 ∨ t.high ≤ h.slot
    · rw [if_pos hr]
    · rw [if_neg hr]
      have h1 := hk.2.2.1
      have h2 := hk.1.2.2.2.1
      have hp : placeOk h.slot := ⟨by omega, by omega⟩
      have hw := tree_walk hp (made_tree 20 0)
      have hf : findS (madeS 20 0).ws 0 h.slot = seatZ := by rw [tree_find (made_tree 20 0) hp]; rfl
      rw [if_pos hw, if_neg]
      intro k
      have k1 : (findS (madeS 20 0).ws 0 h.slot).live = true := k.1
      rw [hf] at k1; cases k1
  exact ⟨e, by rw [seatX, if_neg (by rw [e]; decide)]⟩
theorem wrong_no {s : StoreT} {t : TickT} {h : HandT} {a : Int} (hk : ¬ tickOk t) : nextE s.ws t = 2 ∧ issE s t a = 2 ∧ issS s t a = s ∧ seatE s.ws t h = 2 ∧ poiE s t h a = 2 ∧ poiS s t h a = s ∧ relE s t h = 2 := by
  have e1 : nextE s.ws t = 2 := by rw [nextE, if_neg hk]
  have e2 : seatE s.ws t h = 2 := by rw [seatE, if_neg hk]
  have n2 : ¬ seatE s.ws t h = 0 := by rw [e2]; decide
  have n1 : ¬ issOk s t a := fun k => hk k.1
  have n3 : ¬ poiOk s t h a := fun k => n2 k.1
  exact ⟨e1, by rw [issE, if_neg n1, if_neg (fun k => hk k.1)], by rw [issS, if_neg n1], e2, by rw [poiE, if_neg n3, if_neg n2, e2], by rw [poiS, if_neg n3], by rw [relE, if_neg n2, e2]⟩

-- callees: 8=awake21_ok 9=madeStore_ok 12=issueSp_ok 15=releaseSp_ok 16=resolveSp_ok 17=nextSp_ok 18=pointSp_ok 19=tickRight_ok
theorem ticketWrongV : (∀ (x : TickT × HandT × Int), TickI x.fst ∧ HandI x.snd.fst ∧ I64 x.snd.snd → Exx Unit fun x_1 => Tr 1 (true = true ∧ True) ∧ Tr 1 (∀ (y
 : Unit), True → Exx (Nat × Int) fun x_2 => ((Tr 1 ((20 : Int) = (↑x_2.fst : Int)) ∧ Tr 1 ((0 : Int) = x_2.snd) ∧ True) ∧ true = true ∧ True) ∧ (x_2.fst ≤ 3072 ∧
 (0 : Int) ≤ x_2.snd ∧ I64 x_2.snd) ∧ ∀ (y : Unit), True → Exx TickT fun x_3 => (Tr 1 ((Tr 1 (x.fst.blocks = x_3.blocks) ∧ Tr 1 (x.fst.slots = x_3.slots) ∧ Tr 1
 (x.fst.gens = x_3.gens) ∧ Tr 1 (x.fst.top = x_3.top) ∧ Tr 1 (x.fst.high = x_3.high) ∧ Tr 1 (x.fst.free = x_3.free) ∧ True) ∧ True) ∧ true = true ∧ True) ∧ TickI
 x_3 ∧ ∀ (y : Unit), True → Exx (TickT × Int) fun x_4 => (Tr 1 ((Tr 1 (x.fst.blocks = x_4.fst.blocks) ∧ Tr 1 (x.fst.slots = x_4.fst.slots) ∧ Tr 1 (x.fst.gens =
 x_4.fst.gens) ∧ Tr 1 (x.fst.top = x_4.fst.top) ∧ Tr 1 (x.fst.high = x_4.fst.high) ∧ Tr 1 (x.fst.free = x_4.fst.free) ∧ True) ∧ Tr 1 (x.snd.snd = x_4.snd) ∧
 True) ∧ true = true ∧ True) ∧ (TickI x_4.fst ∧ I64 x_4.snd) ∧ ∀ (y : Unit), True → Exx (TickT × HandT) fun x_5 => (Tr 1 ((Tr 1 (x.fst.blocks = x_5.fst.blocks) ∧
 Tr 1 (x.fst.slots = x_5.fst.slots) ∧ Tr 1 (x.fst.gens = x_5.fst.gens) ∧ Tr 1 (x.fst.top = x_5.fst.top) ∧ Tr 1 (x.fst.high = x_5.fst.high) ∧ Tr 1 (x.fst.free =
 x_5.fst.free) ∧ True) ∧ (Tr 1 (x.snd.fst.slot = x_5.snd.slot) ∧ Tr 1 (x.snd.fst.gen = x_5.snd.gen) ∧ True) ∧ True) ∧ true = true ∧ True) ∧ (TickI x_5.fst ∧
 HandI x_5.snd) ∧ ∀ (y : Unit), True → Exx (TickT × HandT × Int) fun x_6 => (Tr 1 ((Tr 1 (x.fst.blocks = x_6.fst.blocks) ∧ Tr 1 (x.fst.slots = x_6.fst.slots) ∧
 Tr 1 (x.fst.gens = x_6.fst.gens) ∧ Tr 1 (x.fst.top = x_6.fst.top) ∧ Tr 1 (x.fst.high = x_6.fst.high) ∧ Tr 1 (x.fst.free = x_6.fst.free) ∧ True) ∧ (Tr 1
 (x.snd.fst.slot = x_6.snd.fst.slot) ∧ Tr 1 (x.snd.fst.gen = x_6.snd.fst.gen) ∧ True) ∧ Tr 1 (x.snd.snd = x_6.snd.snd) ∧ True) ∧ true = true ∧ True) ∧ (TickI
 x_6.fst ∧ HandI x_6.snd.fst ∧ I64 x_6.snd.snd) ∧ ∀ (y : Unit), True → Exx (TickT × HandT) fun x_7 => (Tr 1 ((Tr 1 (x.fst.blocks = x_7.fst.blocks) ∧ Tr 1
 (x.fst.slots = x_7.fst.slots) ∧ Tr 1 (x.fst.gens = x_7.fst.gens) ∧ Tr 1 (x.fst.top = x_7.fst.top) ∧ Tr 1 (x.fst.high = x_7.fst.high) ∧ Tr 1 (x.fst.free =
 x_7.fst.free) ∧ True) ∧ (Tr 1 (x.snd.fst.slot = x_7.snd.slot) ∧ Tr 1 (x.snd.fst.gen = x_7.snd.gen) ∧ True) ∧ True) ∧ true = true ∧ True) ∧ (TickI x_7.fst ∧
 HandI x_7.snd) ∧ ∀ (y : Unit), True → Exx (Bool → Prop) fun I => BC (decide ((16 : Int) ≤ x.fst.blocks)) (BC (decide (x.fst.blocks ≤ (3072 : Int))) (BC (decide
 ((1 : Int) ≤ x.fst.slots)) (BC (decide (x.fst.slots ≤ (1792 : Int))) (BC (decide ((1 : Int) ≤ x.fst.gens)) (BC (decide (x.fst.gens ≤ (4294967295 : Int))) (BC
 (decide ((0 : Int) ≤ x.fst.high)) (BC (decide (x.fst.high ≤ x.fst.slots)) (BC (decide ((0 : Int) ≤ x.fst.free)) (Exx Bool fun t => I t ∧ Tr 2 (Tr 1 (x.snd.snd =
 x.snd.snd) ∧ (true = true ∧ NilNil ∧ (0 : Nat) = (0 : Nat)) ∧ (true = true ∧ NilNil ∧ (0 : Nat) = (0 : Nat)) ∧ Tr 2 ((true = true ∧ NilNil ∧ (0 : Nat) = (0 :
 Nat)) ∧ Tr 14 (decide (x.fst.free ≤ x.fst.high) = t ∧ Tr 187 True))) ∧ true = true ∧ ((32 : Nat) = (32 : TypeId) ∧ Tr 1 (x.fst.blocks = x.fst.blocks) ∧ Tr 1
 (x.fst.slots = x.fst.slots) ∧ Tr 1 (x.fst.gens = x.fst.gens) ∧ Tr 1 (x.fst.top = x.fst.top) ∧ Tr 1 (x.fst.high = x.fst.high) ∧ Tr 1 (x.fst.free = x.fst.free) ∧
 True) ∧ ((36 : Nat) = (36 : TypeId) ∧ Tr 1 (x.snd.fst.slot = x.snd.fst.slot) ∧ Tr 1 (x.snd.fst.gen = x.snd.fst.gen) ∧ True) ∧ ((105 : TypeId) = (105 : TypeId) ∧
 (true = true ∧ NilNil ∧ (0 : Nat) = (0 : Nat)) ∧ (true = true ∧ NilNil ∧ (0 : Nat) = (0 : Nat)) ∧ True) ∧ devB (madeS x_2.fst x_2.snd).ws = devB (madeS 20 0).ws
 ∧ allocB (madeS x_2.fst x_2.snd).a = allocB (madeS 20 0).a ∧ True) (Exx Bool fun t => I t ∧ Tr 2 (Tr 1 (x.snd.snd = x.snd.snd) ∧ (true = true ∧ NilNil ∧ (0 :
 Nat) = (0 : Nat)) ∧ (true = true ∧ NilNil ∧ (0 : Nat) = (0 : Nat)) ∧ Tr 2 ((true = true ∧ NilNil ∧ (0 : Nat) = (0 : Nat)) ∧ Tr 14 (false = t ∧ Tr 187 True))) ∧
 true = true ∧ ((32 : Nat) = (32 : TypeId) ∧ Tr 1 (x.fst.blocks = x.fst.blocks) ∧ Tr 1 (x.fst.slots = x.fst.slots) ∧ Tr 1 (x.fst.gens = x.fst.gens) ∧ Tr 1
 (x.fst.top = x.fst.top) ∧ Tr 1 (x.fst.high = x.fst.high) ∧ Tr 1 (x.fst.free = x.fst.free) ∧ True) ∧ ((36 : Nat) = (36 : TypeId) ∧ Tr 1 (x.snd.fst.slot =
 x.snd.fst.slot) ∧ Tr 1 (x.snd.fst.gen = x.snd.fst.gen) ∧ True) ∧ ((105 : TypeId) = (105 : TypeId) ∧ (true = true ∧ NilNil ∧ (0 : Nat) = (0 : Nat)) ∧ (true =
 true ∧ NilNil ∧ (0 : Nat) = (0 : Nat)) ∧ True) ∧ devB (madeS x_2.fst x_2.snd).ws = devB (madeS 20 0).ws ∧ allocB (madeS x_2.fst x_2.snd).a = allocB (madeS 20
 0).a ∧ True)) (Exx Bool fun t => I t ∧ Tr 2 (Tr 1 (x.snd.snd = x.snd.snd) ∧ (true = true ∧ NilNil ∧ (0 : Nat) = (0 : Nat)) ∧ (true = true ∧ NilNil ∧ (0 : Nat) =
 (0 : Nat)) ∧ Tr 2 ((true = true ∧ NilNil ∧ (0 : Nat) = (0 : Nat)) ∧ Tr 14 (false = t ∧ Tr 187 True))) ∧ true = true ∧ ((32 : Nat) = (32 : TypeId) ∧ Tr 1
 (x.fst.blocks = x.fst.blocks) ∧ Tr 1 (x.fst.slots = x.fst.slots) ∧ Tr 1 (x.fst.gens = x.fst.gens) ∧ Tr 1 (x.fst.top = x.fst.top) ∧ Tr 1 (x.fst.high =
 x.fst.high) ∧ Tr 1 (x.fst.free = x.fst.free) ∧ True) ∧ ((36 : Nat) = (36 : TypeId) ∧ Tr 1 (x.snd.fst.slot = x.snd.fst.slot) ∧ Tr 1 (x.snd.fst.gen =
 x.snd.fst.gen) ∧ True) ∧ ((105 : TypeId) = (105 : TypeId) ∧ (true = true ∧ NilNil ∧ (0 : Nat) = (0 : Nat)) ∧ (true = true ∧ NilNil ∧ (0 : Nat) = (0 : Nat)) ∧
 True) ∧ devB (madeS x_2.fst x_2.snd).ws = devB (madeS 20 0).ws ∧ allocB (madeS x_2.fst x_2.snd).a = allocB (madeS 20 0).a ∧ True)) (Exx Bool fun t => I t ∧ Tr 2
 (Tr 1 (x.snd.snd = x.snd.snd) ∧ (true = true ∧ NilNil ∧ (0 : Nat) = (0 : Nat)) ∧ (true = true ∧ NilNil ∧ (0 : Nat) = (0 : Nat)) ∧ Tr 2 ((true = true ∧ NilNil ∧
 (0 : Nat) = (0 : Nat)) ∧ Tr 14 (false = t ∧ Tr 187 True))) ∧ true = true ∧ ((32 : Nat) = (32 : TypeId) ∧ Tr 1 (x.fst.blocks = x.fst.blocks) ∧ Tr 1 (x.fst.slots
 = x.fst.slots) ∧ Tr 1 (x.fst.gens = x.fst.gens) ∧ Tr 1 (x.fst.top = x.fst.top) ∧ Tr 1 (x.fst.high = x.fst.high) ∧ Tr 1 (x.fst.free = x.fst.free) ∧ True) ∧ ((36
 : Nat) = (36 : TypeId) ∧ Tr 1 (x.snd.fst.slot = x.snd.fst.slot) ∧ Tr 1 (x.snd.fst.gen = x.snd.fst.gen) ∧ True) ∧ ((105 : TypeId) = (105 : TypeId) ∧ (true = true
 ∧ NilNil ∧ (0 : Nat) = (0 : Nat)) ∧ (true = true ∧ NilNil ∧ (0 : Nat) = (0 : Nat)) ∧ True) ∧ devB (madeS x_2.fst x_2.snd).ws = devB (madeS 20 0).ws ∧ allocB
 (madeS x_2.fst x_2.snd).a = allocB (madeS 20 0).a ∧ True)) (Exx Bool fun t => I t ∧ Tr 2 (Tr 1 (x.snd.snd = x.snd.snd) ∧ (true = true ∧ NilNil ∧ (0 : Nat) = (0
 : Nat)) ∧ (true = true ∧ NilNil ∧ (0 : Nat) = (0 : Nat)) ∧ Tr 2 ((true = true ∧ NilNil ∧ (0 : Nat) = (0 : Nat)) ∧ Tr 14 (false = t ∧ Tr 187 True))) ∧ true =
 true ∧ ((32 : Nat) = (32 : TypeId) ∧ Tr 1 (x.fst.blocks = x.fst.blocks) ∧ Tr 1 (x.fst.slots = x.fst.slots) ∧ Tr 1 (x.fst.gens = x.fst.gens) ∧ Tr 1 (x.fst.top =
 x.fst.top) ∧ Tr 1 (x.fst.high = x.fst.high) ∧ Tr 1 (x.fst.free = x.fst.free) ∧ True) ∧ ((36 : Nat) = (36 : TypeId) ∧ Tr 1 (x.snd.fst.slot = x.snd.fst.slot) ∧ Tr
 1 (x.snd.fst.gen = x.snd.fst.gen) ∧ True) ∧ ((105 : TypeId) = (105 : TypeId) ∧ (true = true ∧ NilNil ∧ (0 : Nat) = (0 : Nat)) ∧ (true = true ∧ NilNil ∧ (0 :
 Nat) = (0 : Nat)) ∧ True) ∧ devB (madeS x_2.fst x_2.snd).ws = devB (madeS 20 0).ws ∧ allocB (madeS x_2.fst x_2.snd).a = allocB (madeS 20 0).a ∧ True)) (Exx Bool
 fun t => I t ∧ Tr 2 (Tr 1 (x.snd.snd = x.snd.snd) ∧ (true = true ∧ NilNil ∧ (0 : Nat) = (0 : Nat)) ∧ (true = true ∧ NilNil ∧ (0 : Nat) = (0 : Nat)) ∧ Tr 2
 ((true = true ∧ NilNil ∧ (0 : Nat) = (0 : Nat)) ∧ Tr 14 (false = t ∧ Tr 187 True))) ∧ true = true ∧ ((32 : Nat) = (32 : TypeId) ∧ Tr 1 (x.fst.blocks =
 x.fst.blocks) ∧ Tr 1 (x.fst.slots = x.fst.slots) ∧ Tr 1 (x.fst.gens = x.fst.gens) ∧ Tr 1 (x.fst.top = x.fst.top) ∧ Tr 1 (x.fst.high = x.fst.high) ∧ Tr 1
 (x.fst.free = x.fst.free) ∧ True) ∧ ((36 : Nat) = (36 : TypeId) ∧ Tr 1 (x.snd.fst.slot = x.snd.fst.slot) ∧ Tr 1 (x.snd.fst.gen = x.snd.fst.gen) ∧ True) ∧ ((105
 : TypeId) = (105 : TypeId) ∧ (true = true ∧ NilNil ∧ (0 : Nat) = (0 : Nat)) ∧ (true = true ∧ NilNil ∧ (0 : Nat) = (0 : Nat)) ∧ True) ∧ devB (madeS x_2.fst
 x_2.snd).ws = devB (madeS 20 0).ws ∧ allocB (madeS x_2.fst x_2.snd).a = allocB (madeS 20 0).a ∧ True)) (Exx Bool fun t => I t ∧ Tr 2 (Tr 1 (x.snd.snd =
 x.snd.snd) ∧ (true = true ∧ NilNil ∧ (0 : Nat) = (0 : Nat)) ∧ (true = true ∧ NilNil ∧ (0 : Nat) = (0 : Nat)) ∧ Tr 2 ((true = true ∧ NilNil ∧ (0 : Nat) = (0 :
 Nat)) ∧ Tr 14 (false = t ∧ Tr 187 True))) ∧ true = true ∧ ((32 : Nat) = (32 : TypeId) ∧ Tr 1 (x.fst.blocks = x.fst.blocks) ∧ Tr 1 (x.fst.slots = x.fst.slots) ∧
 Tr 1 (x.fst.gens = x.fst.gens) ∧ Tr 1 (x.fst.top = x.fst.top) ∧ Tr 1 (x.fst.high = x.fst.high) ∧ Tr 1 (x.fst.free = x.fst.free) ∧ True) ∧ ((36 : Nat) = (36 :
 TypeId) ∧ Tr 1 (x.snd.fst.slot = x.snd.fst.slot) ∧ Tr 1 (x.snd.fst.gen = x.snd.fst.gen) ∧ True) ∧ ((105 : TypeId) = (105 : TypeId) ∧ (true = true ∧ NilNil ∧ (0
 : Nat) = (0 : Nat)) ∧ (true = true ∧ NilNil ∧ (0 : Nat) = (0 : Nat)) ∧ True) ∧ devB (madeS x_2.fst x_2.snd).ws = devB (madeS 20 0).ws ∧ allocB (madeS x_2.fst
 x_2.snd).a = allocB (madeS 20 0).a ∧ True)) (Exx Bool fun t => I t ∧ Tr 2 (Tr 1 (x.snd.snd = x.snd.snd) ∧ (true = true ∧ NilNil ∧ (0 : Nat) = (0 : Nat)) ∧ (true
 = true ∧ NilNil ∧ (0 : Nat) = (0 : Nat)) ∧ Tr 2 ((true = true ∧ NilNil ∧ (0 : Nat) = (0 : Nat)) ∧ Tr 14 (false = t ∧ Tr 187 True))) ∧ true = true ∧ ((32 : Nat)
 = (32 : TypeId) ∧ Tr 1 (x.fst.blocks = x.fst.blocks) ∧ Tr 1 (x.fst.slots = x.fst.slots) ∧ Tr 1 (x.fst.gens = x.fst.gens) ∧ Tr 1 (x.fst.top = x.fst.top) ∧ Tr 1
 (x.fst.high = x.fst.high) ∧ Tr 1 (x.fst.free = x.fst.free) ∧ True) ∧ ((36 : Nat) = (36 : TypeId) ∧ Tr 1 (x.snd.fst.slot = x.snd.fst.slot) ∧ Tr 1 (x.snd.fst.gen
 = x.snd.fst.gen) ∧ True) ∧ ((105 : TypeId) = (105 : TypeId) ∧ (true = true ∧ NilNil ∧ (0 : Nat) = (0 : Nat)) ∧ (true = true ∧ NilNil ∧ (0 : Nat) = (0 : Nat)) ∧
 True) ∧ devB (madeS x_2.fst x_2.snd).ws = devB (madeS 20 0).ws ∧ allocB (madeS x_2.fst x_2.snd).a = allocB (madeS 20 0).a ∧ True)) (Exx Bool fun t => I t ∧ Tr 2
 (Tr 1 (x.snd.snd = x.snd.snd) ∧ (true = true ∧ NilNil ∧ (0 : Nat) = (0 : Nat)) ∧ (true = true ∧ NilNil ∧ (0 : Nat) = (0 : Nat)) ∧ Tr 2 ((true = true ∧ NilNil ∧
 (0 : Nat) = (0 : Nat)) ∧ Tr 14 (false = t ∧ Tr 187 True))) ∧ true = true ∧ ((32 : Nat) = (32 : TypeId) ∧ Tr 1 (x.fst.blocks = x.fst.blocks) ∧ Tr 1 (x.fst.slots
 = x.fst.slots) ∧ Tr 1 (x.fst.gens = x.fst.gens) ∧ Tr 1 (x.fst.top = x.fst.top) ∧ Tr 1 (x.fst.high = x.fst.high) ∧ Tr 1 (x.fst.free = x.fst.free) ∧ True) ∧ ((36
 : Nat) = (36 : TypeId) ∧ Tr 1 (x.snd.fst.slot = x.snd.fst.slot) ∧ Tr 1 (x.snd.fst.gen = x.snd.fst.gen) ∧ True) ∧ ((105 : TypeId) = (105 : TypeId) ∧ (true = true
 ∧ NilNil ∧ (0 : Nat) = (0 : Nat)) ∧ (true = true ∧ NilNil ∧ (0 : Nat) = (0 : Nat)) ∧ True) ∧ devB (madeS x_2.fst x_2.snd).ws = devB (madeS 20 0).ws ∧ allocB
 (madeS x_2.fst x_2.snd).a = allocB (madeS 20 0).a ∧ True)) (Exx Bool fun t => I t ∧ Tr 2 (Tr 1 (x.snd.snd = x.snd.snd) ∧ (true = true ∧ NilNil ∧ (0 : Nat) = (0
 : Nat)) ∧ (true = true ∧ NilNil ∧ (0 : Nat) = (0 : Nat)) ∧ Tr 2 ((true = true ∧ NilNil ∧ (0 : Nat) = (0 : Nat)) ∧ Tr 14 (false = t ∧ Tr 187 True))) ∧ true =
 true ∧ ((32 : Nat) = (32 : TypeId) ∧ Tr 1 (x.fst.blocks = x.fst.blocks) ∧ Tr 1 (x.fst.slots = x.fst.slots) ∧ Tr 1 (x.fst.gens = x.fst.gens) ∧ Tr 1 (x.fst.top =
 x.fst.top) ∧ Tr 1 (x.fst.high = x.fst.high) ∧ Tr 1 (x.fst.free = x.fst.free) ∧ True) ∧ ((36 : Nat) = (36 : TypeId) ∧ Tr 1 (x.snd.fst.slot = x.snd.fst.slot) ∧ Tr
 1 (x.snd.fst.gen = x.snd.fst.gen) ∧ True) ∧ ((105 : TypeId) = (105 : TypeId) ∧ (true = true ∧ NilNil ∧ (0 : Nat) = (0 : Nat)) ∧ (true = true ∧ NilNil ∧ (0 :
 Nat) = (0 : Nat)) ∧ True) ∧ devB (madeS x_2.fst x_2.snd).ws = devB (madeS 20 0).ws ∧ allocB (madeS x_2.fst x_2.snd).a = allocB (madeS 20 0).a ∧ True) ∧ ∀ (t :
 Bool), I t → Exx TickT fun x_8 => (((Tr 1 (x.fst.blocks = x_8.blocks) ∧ Tr 1 (x.fst.slots = x_8.slots) ∧ Tr 1 (x.fst.gens = x_8.gens) ∧ Tr 1 (x.fst.top =
 x_8.top) ∧ Tr 1 (x.fst.high = x_8.high) ∧ Tr 1 (x.fst.free = x_8.free) ∧ True) ∧ True) ∧ true = true ∧ True) ∧ TickI x_8 ∧ ∀ (y : Unit), True → BC (!decide
 (tickOk x_8) == t) (Exx Unit fun y => ((false = true ∧ True) ∧ true = true ∧ True) ∧ True) (BC t (Exx (StoreT × TickT × HandT) fun x_9 => (((true = true ∧
 NilNil ∧ (0 : Nat) = (0 : Nat)) ∧ (Tr 1 (x.fst.blocks = x_9.snd.fst.blocks) ∧ Tr 1 (x.fst.slots = x_9.snd.fst.slots) ∧ Tr 1 (x.fst.gens = x_9.snd.fst.gens) ∧ Tr
 1 ((0 : Int) = x_9.snd.fst.top) ∧ Tr 1 (x.fst.high = x_9.snd.fst.high) ∧ Tr 1 (x.fst.free = x_9.snd.fst.free) ∧ True) ∧ (Tr 1 (x.snd.fst.slot =
 x_9.snd.snd.slot) ∧ Tr 1 (x.snd.fst.gen = x_9.snd.snd.gen) ∧ True) ∧ True) ∧ true = true ∧ ((105 : TypeId) = (105 : TypeId) ∧ (true = true ∧ NilNil ∧ (0 : Nat)
 = (0 : Nat)) ∧ (true = true ∧ NilNil ∧ (0 : Nat) = (0 : Nat)) ∧ True) ∧ devB (madeS 20 0).ws = devB x_9.fst.ws ∧ allocB (madeS 20 0).a = allocB x_9.fst.a ∧
 True) ∧ (StoreW x_9.fst ∧ TickI x_9.snd.fst ∧ HandI x_9.snd.snd) ∧ ∀ (y : Unit), True → BC (decide ((seatX x_9.fst.ws x_9.snd.fst x_9.snd.snd).next = (0 :
 Int))) (Exx Unit fun y => ((decide (seatE x_9.fst.ws x_9.snd.fst x_9.snd.snd = (11 : Int)) = true ∧ True) ∧ true = true ∧ True) ∧ True) (Exx Unit fun y =>
 ((false = true ∧ True) ∧ true = true ∧ True) ∧ True)) (Exx (StoreT × TickT) fun x_9 => (((true = true ∧ NilNil ∧ (0 : Nat) = (0 : Nat)) ∧ (Tr 1 (x.fst.blocks =
 x_9.snd.blocks) ∧ Tr 1 (x.fst.slots = x_9.snd.slots) ∧ Tr 1 (x.fst.gens = x_9.snd.gens) ∧ Tr 1 (x.fst.top = x_9.snd.top) ∧ Tr 1 (x.fst.high = x_9.snd.high) ∧ Tr
 1 (x.fst.free = x_9.snd.free) ∧ True) ∧ True) ∧ true = true ∧ ((105 : TypeId) = (105 : TypeId) ∧ (true = true ∧ NilNil ∧ (0 : Nat) = (0 : Nat)) ∧ (true = true ∧
 NilNil ∧ (0 : Nat) = (0 : Nat)) ∧ True) ∧ devB (madeS 20 0).ws = devB x_9.fst.ws ∧ allocB (madeS 20 0).a = allocB x_9.fst.a ∧ True) ∧ (StoreW x_9.fst ∧ TickI
 x_9.snd) ∧ ∀ (y : Unit), True → Exx (StoreT × TickT × Int) fun x_10 => (((true = true ∧ NilNil ∧ (0 : Nat) = (0 : Nat)) ∧ (Tr 1 (x.fst.blocks =
 x_10.snd.fst.blocks) ∧ Tr 1 (x.fst.slots = x_10.snd.fst.slots) ∧ Tr 1 (x.fst.gens = x_10.snd.fst.gens) ∧ Tr 1 (x.fst.top = x_10.snd.fst.top) ∧ Tr 1 (x.fst.high
 = x_10.snd.fst.high) ∧ Tr 1 (x.fst.free = x_10.snd.fst.free) ∧ True) ∧ Tr 1 (x.snd.snd = x_10.snd.snd) ∧ True) ∧ true = true ∧ ((105 : TypeId) = (105 : TypeId)
 ∧ (true = true ∧ NilNil ∧ (0 : Nat) = (0 : Nat)) ∧ (true = true ∧ NilNil ∧ (0 : Nat) = (0 : Nat)) ∧ True) ∧ devB x_9.fst.ws = devB x_10.fst.ws ∧ allocB
 x_9.fst.a = allocB x_10.fst.a ∧ True) ∧ (StoreW x_10.fst ∧ TickI x_10.snd.fst ∧ I64 x_10.snd.snd) ∧ ∀ (y : Unit), True → Exx (StoreT × TickT × HandT) fun x_11
 => (((true = true ∧ NilNil ∧ (0 : Nat) = (0 : Nat)) ∧ (Tr 1 (x.fst.blocks = x_11.snd.fst.blocks) ∧ Tr 1 (x.fst.slots = x_11.snd.fst.slots) ∧ Tr 1 (x.fst.gens =
 x_11.snd.fst.gens) ∧ Tr 1 (x.fst.top = x_11.snd.fst.top) ∧ Tr 1 (x.fst.high = x_11.snd.fst.high) ∧ Tr 1 (x.fst.free = x_11.snd.fst.free) ∧ True) ∧ (Tr 1
 (x.snd.fst.slot = x_11.snd.snd.slot) ∧ Tr 1 (x.snd.fst.gen = x_11.snd.snd.gen) ∧ True) ∧ True) ∧ true = true ∧ ((105 : TypeId) = (105 : TypeId) ∧ (true = true ∧
 NilNil ∧ (0 : Nat) = (0 : Nat)) ∧ (true = true ∧ NilNil ∧ (0 : Nat) = (0 : Nat)) ∧ True) ∧ devB (issS x_10.fst x_10.snd.fst x_10.snd.snd).ws = devB x_11.fst.ws
 ∧ allocB (issS x_10.fst x_10.snd.fst x_10.snd.snd).a = allocB x_11.fst.a ∧ True) ∧ (StoreW x_11.fst ∧ TickI x_11.snd.fst ∧ HandI x_11.snd.snd) ∧ ∀ (y : Unit),
 True → Exx (StoreT × TickT × HandT × Int) fun x_12 => (((true = true ∧ NilNil ∧ (0 : Nat) = (0 : Nat)) ∧ (Tr 1 (x.fst.blocks = x_12.snd.fst.blocks) ∧ Tr 1
 (x.fst.slots = x_12.snd.fst.slots) ∧ Tr 1 (x.fst.gens = x_12.snd.fst.gens) ∧ Tr 1 (x.fst.top = x_12.snd.fst.top) ∧ Tr 1 (x.fst.high = x_12.snd.fst.high) ∧ Tr 1
 (x.fst.free = x_12.snd.fst.free) ∧ True) ∧ (Tr 1 (x.snd.fst.slot = x_12.snd.snd.fst.slot) ∧ Tr 1 (x.snd.fst.gen = x_12.snd.snd.fst.gen) ∧ True) ∧ Tr 1
 (x.snd.snd = x_12.snd.snd.snd) ∧ True) ∧ true = true ∧ ((105 : TypeId) = (105 : TypeId) ∧ (true = true ∧ NilNil ∧ (0 : Nat) = (0 : Nat)) ∧ (true = true ∧ NilNil
 ∧ (0 : Nat) = (0 : Nat)) ∧ True) ∧ devB x_11.fst.ws = devB x_12.fst.ws ∧ allocB x_11.fst.a = allocB x_12.fst.a ∧ True) ∧ (StoreW x_12.fst ∧ TickI x_12.snd.fst ∧
 HandI x_12.snd.snd.fst ∧ I64 x_12.snd.snd.snd) ∧ ∀ (y : Unit), True → Exx (StoreT × TickT × HandT) fun x_13 => (((true = true ∧ NilNil ∧ (0 : Nat) = (0 : Nat))
 ∧ (Tr 1 (x.fst.blocks = x_13.snd.fst.blocks) ∧ Tr 1 (x.fst.slots = x_13.snd.fst.slots) ∧ Tr 1 (x.fst.gens = x_13.snd.fst.gens) ∧ Tr 1 (x.fst.top =
 x_13.snd.fst.top) ∧ Tr 1 (x.fst.high = x_13.snd.fst.high) ∧ Tr 1 (x.fst.free = x_13.snd.fst.free) ∧ True) ∧ (Tr 1 (x.snd.fst.slot = x_13.snd.snd.slot) ∧ Tr 1
 (x.snd.fst.gen = x_13.snd.snd.gen) ∧ True) ∧ True) ∧ true = true ∧ ((105 : TypeId) = (105 : TypeId) ∧ (true = true ∧ NilNil ∧ (0 : Nat) = (0 : Nat)) ∧ (true =
 true ∧ NilNil ∧ (0 : Nat) = (0 : Nat)) ∧ True) ∧ devB (poiS x_12.fst x_12.snd.fst x_12.snd.snd.fst x_12.snd.snd.snd).ws = devB x_13.fst.ws ∧ allocB (poiS
 x_12.fst x_12.snd.fst x_12.snd.snd.fst x_12.snd.snd.snd).a = allocB x_13.fst.a ∧ True) ∧ (StoreW x_13.fst ∧ TickI x_13.snd.fst ∧ HandI x_13.snd.snd) ∧ ∀ (y :
 Unit), True → BC (decide (nextE x_9.fst.ws x_9.snd = (2 : Int))) (BC (decide (issE x_10.fst x_10.snd.fst x_10.snd.snd = (2 : Int))) (BC (decide (seatE
 x_11.fst.ws x_11.snd.fst x_11.snd.snd = (2 : Int))) (BC (decide (poiE x_12.fst x_12.snd.fst x_12.snd.snd.fst x_12.snd.snd.snd = (2 : Int))) (Exx Unit fun y =>
 ((decide (relE x_13.fst x_13.snd.fst x_13.snd.snd = (2 : Int)) = true ∧ True) ∧ true = true ∧ True) ∧ True) (Exx Unit fun y => ((false = true ∧ True) ∧ true =
 true ∧ True) ∧ True)) (Exx Unit fun y => ((false = true ∧ True) ∧ true = true ∧ True) ∧ True)) (Exx Unit fun y => ((false = true ∧ True) ∧ true = true ∧ True) ∧
 True)) (Exx Unit fun y => ((false = true ∧ True) ∧ true = true ∧ True) ∧ True))))) = (fnVC tb [(8, specOf awake21C), (9, specOf madeStoreC), (12, issueSpP), (15, releaseSpP), (16, resolveSpP), (17, nextSpP), (18, pointSpP), (19, specOf tickRightC)] Tryd.f6 ticketWrongC (fun x => { joins := [(15, wrongJ x)] }) (fun _ => none)) := by kernel_rfl 

theorem ticketWrong_ok : SpecOk Tryd.prog 6 (specOf ticketWrongC) := by
  refine specOk mixed tb_ok (SPok.cons awake21_ok (SPok.cons madeStore_ok (SPok.cons issueSp_ok (SPok.cons releaseSp_ok (SPok.cons resolveSp_ok (SPok.cons nextSp_ok (SPok.cons pointSp_ok (SPok.cons tickRight_ok SPok.nil)))))))) Tryd.func6 (by decide) (pureC_ok fun _ => rfl) (an := (fun x => { joins := [(15, wrongJ x)] })) (σ := (fun _ => none)) ?_
  rw [← ticketWrongV]
  simp (maxSteps := 10000000) only [and_false, false_and, false_or, or_false, bOf_true, bOf_false, true_bOf, false_bOf, Exx, int_ite, merge_o, Tr_eq, true_and, and_true, exists_const, forall_const, implies_true, forall_eq, exists_eq, exists_eq', exists_eq_left, exists_eq_left', exists_eq_right, Prod.exists, Prod.forall, and_assoc, exists_and_left, BC_iff, Bool.not_eq_true', Bool.not_eq_false', decide_eq_true_eq, decide_eq_false_iff_not, I64, nat_cast_inj, Int.toNat_natCast, nats_iff, nats_iff', ints_iff, ints_iff', natss_iff, natss_iff', nilnil, litL_eq, str_inj, str_append, str_length, str_getD, str_take, lit1_iff, one_iff, two_iff, one_get, Nat.zero_add, Nat.sub_zero, Nat.reduceMul, Nat.reduceDiv, Nat.reduceAdd, Int.reduceToNat, Nat.not_lt_zero, if_false, if_true, Nat.le_refl, List.length_singleton, List.length_cons, List.length_nil, Bool.false_eq_true, not_true_eq_false, false_implies, not_false_eq_true, Prod.mk.injEq, devB_inj, allocB_inj, setB_inj, tick_ex, store_ex, hand_ex, tick_eta, store_eta, hand_eta, store_mark]
  rintro t h a ⟨ht, hh, ha1, ha2⟩
  have no : ¬ tickOk t → ∃ x : Bool, x = decide (tickOk t) ∧ false = x ∧ (madeS 20 0).ws = (madeS 20 0).ws ∧ (madeS 20 0).a = (madeS 20 0).a := fun hk => ⟨false, (decide_eq_false hk).symm, rfl, rfl, rfl⟩
  have hW := (made_good (n := 20) (by omega) (by omega)).W
  have ht0 := ht
  obtain ⟨i1, i2, i3, i4, i5, i6⟩ := ht0
  refine ⟨20, rfl, by omega, by omega, by omega, by omega, ht, ht, ha1, ha2, ht, hh, ht, hh, ha1, ha2, ht, hh, fun b => b = decide (tickOk t),
    fun h1 => ⟨fun h2 => ⟨fun h3 => ⟨fun h4 => ⟨fun h5 => ⟨fun h6 => ⟨fun h7 => ⟨fun h8 => ⟨fun h9 => ⟨_, rfl, decide_eq_decide.2 ⟨fun k => ⟨⟨h1, h2, h3, h4, h5, h6⟩, h7, h8, h9, k⟩, fun k => k.2.2.2.2⟩, rfl, rfl⟩, fun q => no fun k => q k.2.2.2.1⟩, fun q => no fun k => q k.2.2.1⟩, fun q => no fun k => q k.2.1⟩, fun q => no fun k => q k.1.2.2.2.2.2⟩, fun q => no fun k => q k.1.2.2.2.2.1⟩, fun q => no fun k => q k.1.2.2.2.1⟩, fun q => no fun k => q k.1.2.2.1⟩, fun q => no fun k => q k.1.2.1⟩, fun q => no fun k => q k.1.1, ?_⟩
  rintro b rfl
  refine ⟨ht, fun q => by simp at q, fun _ => ⟨fun hb => ?_, fun hb => ?_⟩⟩
  · have hk : tickOk t := of_decide_eq_true hb
    obtain ⟨e, x⟩ := wrong_at t h hk
    exact ⟨hW, ⟨i1, i2, i3, I64_0, i5, i6⟩, hh, fun _ => e, fun q => q (by rw [x]; rfl)⟩
  · have hk : ¬ tickOk t := of_decide_eq_false hb
    obtain ⟨e1, e2, e3, e4, e5, e6, e7⟩ := wrong_no (s := madeS 20 0) (t := t) (h := h) (a := a) hk
    rw [e3, e6]
    exact ⟨hW, ht, hW, ht, ha1, ha2, hW, ht, hh, hW, ht, hh, ha1, ha2, hW, ht, hh, fun _ => ⟨fun _ => ⟨fun _ => ⟨fun _ => e7, fun q => q e5⟩, fun q => q e4⟩, fun q => q e2⟩, fun q => q e1⟩

/-! ### The same, of values as the law has them -/
abbrev T21 : Type := (Int × Int × Int) × Int × Int × Int
def ticketWrongLC : Ctr := pureC (T21 × (Int × Int) × Int) (fun x => (I64 x.1.1.1 ∧ I64 x.1.1.2.1 ∧ I64 x.1.1.2.2) ∧ I64 x.1.2.1 ∧ I64 x.1.2.2.1 ∧ I64 x.1.2.2.2 ∧ (I64 x.2.1.1 ∧ I64 x.2.1.2) ∧ I64 x.2.2)
  (fun x => [.agg [i64 x.1.1.1, i64 x.1.1.2.1, i64 x.1.1.2.2, i64 x.1.2.1, i64 x.1.2.2.1, i64 x.1.2.2.2], .agg [i64 x.2.1.1, i64 x.2.1.2], i64 x.2.2]) (fun _ => .bool true)
theorem ticketWrongL_ok : SpecOk Tryd.prog 6 (specOf ticketWrongLC) :=
  law_map ticketWrong_ok (fun x => (⟨x.1.1.1, x.1.1.2.1, x.1.1.2.2, x.1.2.1, x.1.2.2.1, x.1.2.2.2⟩, ⟨x.2.1.1, x.2.1.2⟩, x.2.2)) (fun _ => rfl) (fun x h => ⟨⟨h.1.1, h.1.2.1, h.1.2.2, h.2.1, h.2.2.1, h.2.2.2.1⟩, h.2.2.2.2.1, h.2.2.2.2.2⟩)

end Yard
