import Derived.Test.YtceockijgbkneaaDoorTicketMath

namespace Yard
open Go Go.Sx Go.Proofs
set_option linter.unusedVariables false
set_option linter.unusedSimpArgs false
set_option maxRecDepth 4000

abbrev storeH (s : StoreT) : AH := [.fence, storeI 2 3, devI s.ws, allocI s.a]
abbrev tickV (t : TickT) : List AV := [i64 t.blocks, i64 t.slots, i64 t.gens, i64 t.top, i64 t.high, i64 t.free]
abbrev tickC (t : TickT) : Sx.Item := .cells 32 (tickV t)
def firstC : Ctr := pureC (Int × Int) (fun x => I64 x.1 ∧ I64 x.2) (fun x => [i64 x.1, i64 x.2]) (fun x => tickA (tick0 100 x.1 x.2))
def awake21C : Ctr := pureC Unit (fun _ => True) (fun _ => []) (fun _ => .bool true)
theorem tick_ext {a b : TickT} (h1 : a.blocks = b.blocks) (h2 : a.slots = b.slots) (h3 : a.gens = b.gens) (h4 : a.top = b.top) (h5 : a.high = b.high) (h6 : a.free = b.free) : a = b := by
  cases a; cases b; simp only at *; subst h1; subst h2; subst h3; subst h4; subst h5; subst h6; rfl
theorem store_ext {a b : StoreT} (h1 : a.ws = b.ws) (h2 : a.a = b.a) : a = b := by
  cases a; cases b; simp only at *; subst h1; subst h2; rfl

theorem tick_ex {b s g t h f : Int} {p : TickT → Prop} : (∃ a : TickT, b = a.blocks ∧ s = a.slots ∧ g = a.gens ∧ t = a.top ∧ h = a.high ∧ f = a.free ∧ p a) ↔ p ⟨b, s, g, t, h, f⟩ :=
  ⟨fun ⟨a, h1, h2, h3, h4, h5, h6, k⟩ => by subst h1; subst h2; subst h3; subst h4; subst h5; subst h6; exact k, fun k => ⟨_, rfl, rfl, rfl, rfl, rfl, rfl, k⟩⟩
theorem store_ex {w : List Nat} {z : AllocT} {p : StoreT → Prop} : (∃ a : StoreT, w = a.ws ∧ z = a.a ∧ p a) ↔ p ⟨w, z⟩ :=
  ⟨fun ⟨a, h1, h2, k⟩ => by subst h1; subst h2; exact k, fun k => ⟨_, rfl, rfl, k⟩⟩
theorem hand_ex {i g : Int} {p : HandT → Prop} : (∃ a : HandT, i = a.slot ∧ g = a.gen ∧ p a) ↔ p ⟨i, g⟩ :=
  ⟨fun ⟨a, h1, h2, k⟩ => by subst h1; subst h2; exact k, fun k => ⟨_, rfl, rfl, k⟩⟩
theorem tick_eta {t : TickT} : (⟨t.blocks, t.slots, t.gens, t.top, t.high, t.free⟩ : TickT) = t := rfl
theorem store_eta {s : StoreT} : (⟨s.ws, s.a⟩ : StoreT) = s := rfl
theorem hand_eta {s : HandT} : (⟨s.slot, s.gen⟩ : HandT) = s := rfl
theorem store_mark {s : StoreT} : (⟨s.ws, markS s.a⟩ : StoreT) = markT s := rfl

theorem firstV : (∀ (x : Int × Int), I64 x.1 ∧ I64 x.2 → Exx Unit fun y => (((Tr 1 ((100 : Int) = (tick0 100 x.1 x.2).blocks) ∧ Tr 1 (x.1 = (tick0 100 x.1
 x.2).slots) ∧ Tr 1 (x.2 = (tick0 100 x.1 x.2).gens) ∧ Tr 1 ((0 : Int) = (tick0 100 x.1 x.2).top) ∧ Tr 1 ((0 : Int) = (tick0 100 x.1 x.2).high) ∧ Tr 1 ((0 : Int)
 = (tick0 100 x.1 x.2).free) ∧ True) ∧ True) ∧ true = true ∧ True) ∧ True) = (fnVC tb [] Tryd.f10 firstC (fun _ => {}) (fun _ => none)) := by kernel_rfl

theorem first_ok : SpecOk Tryd.prog 10 (specOf firstC) := by
  refine specOk mixed tb_ok SPok.nil Tryd.func10 (by decide) (pureC_ok fun _ => ⟨rfl, rfl, rfl, rfl, rfl, rfl, trivial⟩) (an := (fun _ => {})) (σ := (fun _ => none)) ?_
  rw [← firstV]
  simp (maxSteps := 10000000) only [and_false, false_and, false_or, or_false, bOf_true, bOf_false, true_bOf, false_bOf, Exx, int_ite, merge_o, Tr_eq, true_and, and_true, exists_const, forall_const, implies_true, forall_eq, exists_eq, exists_eq', exists_eq_left, exists_eq_left', exists_eq_right, Prod.exists, Prod.forall, and_assoc, exists_and_left, BC_iff, Bool.not_eq_true', Bool.not_eq_false', decide_eq_true_eq, decide_eq_false_iff_not, I64, nat_cast_inj, Int.toNat_natCast, nats_iff, nats_iff', ints_iff, ints_iff', natss_iff, natss_iff', nilnil, litL_eq, str_inj, str_append, str_length, str_getD, str_take, lit1_iff, one_iff, two_iff, one_get, Nat.zero_add, Nat.sub_zero, Nat.reduceMul, Nat.reduceDiv, Nat.reduceAdd, Int.reduceToNat, Nat.not_lt_zero, if_false, if_true, Nat.le_refl, List.length_singleton, List.length_cons, List.length_nil, Bool.false_eq_true, not_true_eq_false, false_implies, not_false_eq_true, Prod.mk.injEq]
  exact fun a b _ => ⟨rfl, rfl, rfl, rfl, rfl, rfl⟩

theorem handI_of {a b : Int} (h : I64 a) (k : I64 b) : HandI ⟨a, b⟩ := ⟨h, k⟩
theorem Desk.W {n : Nat} {s : StoreT} {t : TickT} {d : DeskT} (h : Desk n s t d) : StoreW s := h.inv.good.W
theorem Desk.tI {n : Nat} {s : StoreT} {t : TickT} {d : DeskT} (h : Desk n s t d) : TickI t := h.inv.tI
def a21s1 : StoreT := issS (madeS 30 0) (tick0 100 4 2) 9
def a21t1 : TickT := issT (madeS 30 0) (tick0 100 4 2) 9
def a21s2 : StoreT := issS a21s1 a21t1 8
def a21t2 : TickT := issT a21s1 a21t1 8
def a21s3 : StoreT := relS a21s2 a21t2 ⟨0, 1⟩
def a21t3 : TickT := relT a21s2 a21t2 ⟨0, 1⟩
def a21s4 : StoreT := issS a21s3 a21t3 7
def a21t4 : TickT := issT a21s3 a21t3 7

theorem awake21V : (∀ (x : Unit), True → Exx (Nat × Int) fun x => ((Tr 1 ((30 : Int) = (↑x.1 : Int)) ∧ Tr 1 ((0 : Int) = x.2) ∧ True) ∧ true = true ∧ True) ∧
 (x.1 ≤ 3072 ∧ (0 : Int) ≤ x.2 ∧ I64 x.2) ∧ ∀ (y : Unit), True → Exx (Int × Int) fun x_1 => ((Tr 1 ((4 : Int) = x_1.1) ∧ Tr 1 ((2 : Int) = x_1.2) ∧ True) ∧ true
 = true ∧ True) ∧ (I64 x_1.1 ∧ I64 x_1.2) ∧ ∀ (y : Unit), True → Exx (StoreT × TickT × Int) fun x_2 => (((true = true ∧ NilNil ∧ (0 : Nat) = 0) ∧ (Tr 1 ((tick0
 100 x_1.1 x_1.2).blocks = x_2.2.1.blocks) ∧ Tr 1 ((tick0 100 x_1.1 x_1.2).slots = x_2.2.1.slots) ∧ Tr 1 ((tick0 100 x_1.1 x_1.2).gens = x_2.2.1.gens) ∧ Tr 1
 ((tick0 100 x_1.1 x_1.2).top = x_2.2.1.top) ∧ Tr 1 ((tick0 100 x_1.1 x_1.2).high = x_2.2.1.high) ∧ Tr 1 ((tick0 100 x_1.1 x_1.2).free = x_2.2.1.free) ∧ True) ∧
 Tr 1 ((9 : Int) = x_2.2.2) ∧ True) ∧ true = true ∧ ((105 : TypeId) = 105 ∧ (true = true ∧ NilNil ∧ (0 : Nat) = 0) ∧ (true = true ∧ NilNil ∧ (0 : Nat) = 0) ∧
 True) ∧ devB (madeS x.1 x.2).ws = devB x_2.1.ws ∧ allocB (madeS x.1 x.2).a = allocB x_2.1.a ∧ True) ∧ (StoreW x_2.1 ∧ TickI x_2.2.1 ∧ I64 x_2.2.2) ∧ ∀ (y :
 Unit), True → Exx (StoreT × TickT × Int) fun x => (((true = true ∧ NilNil ∧ (0 : Nat) = 0) ∧ (Tr 1 ((issT x_2.1 x_2.2.1 x_2.2.2).blocks = x.2.1.blocks) ∧ Tr 1
 ((issT x_2.1 x_2.2.1 x_2.2.2).slots = x.2.1.slots) ∧ Tr 1 ((issT x_2.1 x_2.2.1 x_2.2.2).gens = x.2.1.gens) ∧ Tr 1 ((issT x_2.1 x_2.2.1 x_2.2.2).top = x.2.1.top)
 ∧ Tr 1 ((issT x_2.1 x_2.2.1 x_2.2.2).high = x.2.1.high) ∧ Tr 1 ((issT x_2.1 x_2.2.1 x_2.2.2).free = x.2.1.free) ∧ True) ∧ Tr 1 ((8 : Int) = x.2.2) ∧ True) ∧
 true = true ∧ ((105 : TypeId) = 105 ∧ (true = true ∧ NilNil ∧ (0 : Nat) = 0) ∧ (true = true ∧ NilNil ∧ (0 : Nat) = 0) ∧ True) ∧ devB (issS x_2.1 x_2.2.1
 x_2.2.2).ws = devB x.1.ws ∧ allocB (issS x_2.1 x_2.2.1 x_2.2.2).a = allocB x.1.a ∧ True) ∧ (StoreW x.1 ∧ TickI x.2.1 ∧ I64 x.2.2) ∧ ∀ (y : Unit), True → Exx
 (StoreT × TickT × HandT) fun x_3 => (((true = true ∧ NilNil ∧ (0 : Nat) = 0) ∧ (Tr 1 ((issT x.1 x.2.1 x.2.2).blocks = x_3.2.1.blocks) ∧ Tr 1 ((issT x.1 x.2.1
 x.2.2).slots = x_3.2.1.slots) ∧ Tr 1 ((issT x.1 x.2.1 x.2.2).gens = x_3.2.1.gens) ∧ Tr 1 ((issT x.1 x.2.1 x.2.2).top = x_3.2.1.top) ∧ Tr 1 ((issT x.1 x.2.1
 x.2.2).high = x_3.2.1.high) ∧ Tr 1 ((issT x.1 x.2.1 x.2.2).free = x_3.2.1.free) ∧ True) ∧ (Tr 1 ((issH x_2.1 x_2.2.1 x_2.2.2).slot = x_3.2.2.slot) ∧ Tr 1 ((issH
 x_2.1 x_2.2.1 x_2.2.2).gen = x_3.2.2.gen) ∧ True) ∧ True) ∧ true = true ∧ ((105 : TypeId) = 105 ∧ (true = true ∧ NilNil ∧ (0 : Nat) = 0) ∧ (true = true ∧ NilNil
 ∧ (0 : Nat) = 0) ∧ True) ∧ devB (issS x.1 x.2.1 x.2.2).ws = devB x_3.1.ws ∧ allocB (issS x.1 x.2.1 x.2.2).a = allocB x_3.1.a ∧ True) ∧ (StoreW x_3.1 ∧ TickI
 x_3.2.1 ∧ HandI x_3.2.2) ∧ ∀ (y : Unit), True → Exx (StoreT × TickT × Int) fun x_4 => (((true = true ∧ NilNil ∧ (0 : Nat) = 0) ∧ (Tr 1 ((relT x_3.1 x_3.2.1
 x_3.2.2).blocks = x_4.2.1.blocks) ∧ Tr 1 ((relT x_3.1 x_3.2.1 x_3.2.2).slots = x_4.2.1.slots) ∧ Tr 1 ((relT x_3.1 x_3.2.1 x_3.2.2).gens = x_4.2.1.gens) ∧ Tr 1
 ((relT x_3.1 x_3.2.1 x_3.2.2).top = x_4.2.1.top) ∧ Tr 1 ((relT x_3.1 x_3.2.1 x_3.2.2).high = x_4.2.1.high) ∧ Tr 1 ((relT x_3.1 x_3.2.1 x_3.2.2).free =
 x_4.2.1.free) ∧ True) ∧ Tr 1 ((7 : Int) = x_4.2.2) ∧ True) ∧ true = true ∧ ((105 : TypeId) = 105 ∧ (true = true ∧ NilNil ∧ (0 : Nat) = 0) ∧ (true = true ∧
 NilNil ∧ (0 : Nat) = 0) ∧ True) ∧ devB (relS x_3.1 x_3.2.1 x_3.2.2).ws = devB x_4.1.ws ∧ allocB (relS x_3.1 x_3.2.1 x_3.2.2).a = allocB x_4.1.a ∧ True) ∧
 (StoreW x_4.1 ∧ TickI x_4.2.1 ∧ I64 x_4.2.2) ∧ ∀ (y : Unit), True → Exx (StoreT × TickT × HandT) fun x_5 => (((true = true ∧ NilNil ∧ (0 : Nat) = 0) ∧ (Tr 1
 ((issT x_4.1 x_4.2.1 x_4.2.2).blocks = x_5.2.1.blocks) ∧ Tr 1 ((issT x_4.1 x_4.2.1 x_4.2.2).slots = x_5.2.1.slots) ∧ Tr 1 ((issT x_4.1 x_4.2.1 x_4.2.2).gens =
 x_5.2.1.gens) ∧ Tr 1 ((issT x_4.1 x_4.2.1 x_4.2.2).top = x_5.2.1.top) ∧ Tr 1 ((issT x_4.1 x_4.2.1 x_4.2.2).high = x_5.2.1.high) ∧ Tr 1 ((issT x_4.1 x_4.2.1
 x_4.2.2).free = x_5.2.1.free) ∧ True) ∧ (Tr 1 ((issH x_2.1 x_2.2.1 x_2.2.2).slot = x_5.2.2.slot) ∧ Tr 1 ((issH x_2.1 x_2.2.1 x_2.2.2).gen = x_5.2.2.gen) ∧ True)
 ∧ True) ∧ true = true ∧ ((105 : TypeId) = 105 ∧ (true = true ∧ NilNil ∧ (0 : Nat) = 0) ∧ (true = true ∧ NilNil ∧ (0 : Nat) = 0) ∧ True) ∧ devB (issS x_4.1
 x_4.2.1 x_4.2.2).ws = devB x_5.1.ws ∧ allocB (issS x_4.1 x_4.2.1 x_4.2.2).a = allocB x_5.1.a ∧ True) ∧ (StoreW x_5.1 ∧ TickI x_5.2.1 ∧ HandI x_5.2.2) ∧ ∀ (y :
 Unit), True → Exx (StoreT × TickT × HandT) fun x_6 => (((true = true ∧ NilNil ∧ (0 : Nat) = 0) ∧ (Tr 1 ((issT x_4.1 x_4.2.1 x_4.2.2).blocks = x_6.2.1.blocks) ∧
 Tr 1 ((issT x_4.1 x_4.2.1 x_4.2.2).slots = x_6.2.1.slots) ∧ Tr 1 ((issT x_4.1 x_4.2.1 x_4.2.2).gens = x_6.2.1.gens) ∧ Tr 1 ((issT x_4.1 x_4.2.1 x_4.2.2).top =
 x_6.2.1.top) ∧ Tr 1 ((issT x_4.1 x_4.2.1 x_4.2.2).high = x_6.2.1.high) ∧ Tr 1 ((issT x_4.1 x_4.2.1 x_4.2.2).free = x_6.2.1.free) ∧ True) ∧ (Tr 1 ((issH x_4.1
 x_4.2.1 x_4.2.2).slot = x_6.2.2.slot) ∧ Tr 1 ((issH x_4.1 x_4.2.1 x_4.2.2).gen = x_6.2.2.gen) ∧ True) ∧ True) ∧ true = true ∧ ((105 : TypeId) = 105 ∧ (true =
 true ∧ NilNil ∧ (0 : Nat) = 0) ∧ (true = true ∧ NilNil ∧ (0 : Nat) = 0) ∧ True) ∧ devB x_5.1.ws = devB x_6.1.ws ∧ allocB x_5.1.a = allocB x_6.1.a ∧ True) ∧
 (StoreW x_6.1 ∧ TickI x_6.2.1 ∧ HandI x_6.2.2) ∧ ∀ (y : Unit), True → BC (decide (issE x_2.1 x_2.2.1 x_2.2.2 = (0 : Int))) (BC (decide (issE x.1 x.2.1 x.2.2 =
 (0 : Int))) (BC (decide (relE x_3.1 x_3.2.1 x_3.2.2 = (0 : Int))) (BC (decide (issE x_4.1 x_4.2.1 x_4.2.2 = (0 : Int))) (BC (decide (seatE x_5.1.ws x_5.2.1
 x_5.2.2 = (11 : Int))) (BC (decide (seatE x_6.1.ws x_6.2.1 x_6.2.2 = (0 : Int))) (BC (decide ((seatX x_6.1.ws x_6.2.1 x_6.2.2).next = (7 : Int))) (Tr 2 True ∧
 Tr 2 True ∧ ∀ (b : Bool), (b = true ↔ (issH x_2.1 x_2.2.1 x_2.2.2).slot = (0 : Int) ∧ (issH x_2.1 x_2.2.1 x_2.2.2).gen = (1 : Int) ∧ True) → BC b (Tr 2 True ∧
 Tr 2 True ∧ ∀ (b : Bool), (b = true ↔ (issH x.1 x.2.1 x.2.2).slot = (1 : Int) ∧ (issH x.1 x.2.1 x.2.2).gen = (1 : Int) ∧ True) → BC b (Tr 2 True ∧ Tr 2 True ∧ ∀
 (b : Bool), (b = true ↔ (issH x_4.1 x_4.2.1 x_4.2.2).slot = (0 : Int) ∧ (issH x_4.1 x_4.2.1 x_4.2.2).gen = (2 : Int) ∧ True) → Exx Unit fun y => ((b = true ∧
 True) ∧ true = true ∧ True) ∧ True) (Exx Unit fun y => ((false = true ∧ True) ∧ true = true ∧ True) ∧ True)) (Exx Unit fun y => ((false = true ∧ True) ∧ true =
 true ∧ True) ∧ True)) (Exx Unit fun y => ((false = true ∧ True) ∧ true = true ∧ True) ∧ True)) (Exx Unit fun y => ((false = true ∧ True) ∧ true = true ∧ True) ∧
 True)) (Exx Unit fun y => ((false = true ∧ True) ∧ true = true ∧ True) ∧ True)) (Exx Unit fun y => ((false = true ∧ True) ∧ true = true ∧ True) ∧ True)) (Exx
 Unit fun y => ((false = true ∧ True) ∧ true = true ∧ True) ∧ True)) (Exx Unit fun y => ((false = true ∧ True) ∧ true = true ∧ True) ∧ True)) (Exx Unit fun y =>
 ((false = true ∧ True) ∧ true = true ∧ True) ∧ True)) = (fnVC tb [(9, specOf madeStoreC), (10, specOf firstC), (12, specOf tickIssueC), (15, specOf tickReleaseC), (16, specOf tickResolveC)] Tryd.f8 awake21C (fun _ => {}) (fun _ => none)) := by kernel_rfl 

theorem awake21_ok : SpecOk Tryd.prog 8 (specOf awake21C) := by
  refine specOk mixed tb_ok (SPok.cons madeStore_ok (SPok.cons first_ok (SPok.cons tickIssue_ok (SPok.cons tickRelease_ok (SPok.cons tickResolve_ok SPok.nil))))) Tryd.func8 (by decide) (pureC_ok fun _ => rfl) (an := (fun _ => {})) (σ := (fun _ => none)) ?_
  rw [← awake21V]
  simp (maxSteps := 10000000) only [and_false, false_and, false_or, or_false, bOf_true, bOf_false, true_bOf, false_bOf, Exx, int_ite, merge_o, Tr_eq, true_and, and_true, exists_const, forall_const, implies_true, forall_eq, exists_eq, exists_eq', exists_eq_left, exists_eq_left', exists_eq_right, Prod.exists, Prod.forall, and_assoc, exists_and_left, BC_iff, Bool.not_eq_true', Bool.not_eq_false', decide_eq_true_eq, decide_eq_false_iff_not, I64, nat_cast_inj, Int.toNat_natCast, nats_iff, nats_iff', ints_iff, ints_iff', natss_iff, natss_iff', nilnil, litL_eq, str_inj, str_append, str_length, str_getD, str_take, lit1_iff, one_iff, two_iff, one_get, Nat.zero_add, Nat.sub_zero, Nat.reduceMul, Nat.reduceDiv, Nat.reduceAdd, Int.reduceToNat, Nat.not_lt_zero, if_false, if_true, Nat.le_refl, List.length_singleton, List.length_cons, List.length_nil, Bool.false_eq_true, not_true_eq_false, false_implies, not_false_eq_true, Prod.mk.injEq, devB_inj, allocB_inj, setB_inj]
  have D0 : Desk 30 (madeS 30 0) (tick0 100 4 2) desk0 := desk_made (by omega) (by omega) (by decide)
  obtain ⟨e1, h1, D1⟩ := D0.issue (by omega) (by decide) (at_ := 9) (by omega) (a := 0) (g := 1) rfl
  have g1 := issT_geo e1
  obtain ⟨e2, h2, D2⟩ := D1.issue (by omega) (by rw [g1.1]; decide) (at_ := 8) (by omega) (a := 1) (g := 1) (by rw [g1.1]; rfl)
  have g2 := issT_geo e2
  have s2 : (issT (issS (madeS 30 0) (tick0 100 4 2) 9) (issT (madeS 30 0) (tick0 100 4 2) 9) 8).slots = 4 := g2.1.trans g1.1
  have n2 : (issT (issS (madeS 30 0) (tick0 100 4 2) 9) (issT (madeS 30 0) (tick0 100 4 2) 9) 8).gens = 2 := g2.2.1.trans g1.2.1
  obtain ⟨e3, D3⟩ := D2.release (by omega) (by rw [s2]; decide) (x := ⟨0, 1⟩) (by decide)
  have g3 := relT_geo e3
  rw [n2] at D3
  obtain ⟨e4, h4, D4⟩ := D3.issue (by omega) (by rw [g3.1, s2]; decide) (at_ := 7) (by omega) (a := 0) (g := 2) (by rw [g3.1, s2]; rfl)
  have l5 := seat_dead D4.inv (x := ⟨0, 1⟩) (by decide)
  obtain ⟨e6, x6⟩ := seat_live D4.inv (x := ⟨0, 2⟩) (by decide)
  have hI1 : HandI ⟨0, 1⟩ := handI_of ⟨by omega, by omega⟩ ⟨by omega, by omega⟩
  have hI2 : HandI ⟨0, 2⟩ := handI_of ⟨by omega, by omega⟩ ⟨by omega, by omega⟩
  refine ⟨30, rfl, by omega, by omega, by omega, by omega, by omega, by omega, by omega, by omega, madeS 30 0, tick0 100 4 2, rfl, rfl, rfl, rfl, rfl, rfl, rfl, rfl, D0.W, D0.tI, by omega, by omega, a21s1, a21t1, rfl, rfl, rfl, rfl, rfl, rfl, rfl, rfl, D1.W, D1.tI, by omega, by omega, a21s2, a21t2, rfl, rfl, rfl, rfl, rfl, rfl, ⟨0, 1⟩, by rw [h1]; rfl, by rw [h1], rfl, rfl, D2.W, D2.tI, hI1, a21s3, a21t3, rfl, rfl, rfl, rfl, rfl, rfl, rfl, rfl, D3.W, D3.tI, by omega, by omega, a21s4, a21t4, rfl, rfl, rfl, rfl, rfl, rfl, ⟨0, 1⟩, by rw [h1]; rfl, by rw [h1], rfl, rfl, D4.W, D4.tI, hI1, a21s4, a21t4, rfl, rfl, rfl, rfl, rfl, rfl, ⟨0, 2⟩, ?_, ?_, rfl, rfl, D4.W, D4.tI, hI2,
    fun _ => ⟨fun _ => ⟨fun _ => ⟨fun _ => ⟨fun _ => ⟨fun _ => ⟨fun _ b hb => ⟨fun _ b' hb' => ⟨fun _ b2 hb2 => hb2.2 ?_, fun q => ?_⟩, fun q => ?_⟩, fun q => q ?_⟩, fun q => q e6⟩, fun q => q l5⟩, fun q => q e4⟩, fun q => q e3⟩, fun q => q e2⟩, fun q => q e1⟩
  · exact (congrArg HandT.slot h4)
  · exact (congrArg HandT.gen h4)
  · exact ⟨congrArg HandT.slot h4, congrArg HandT.gen h4⟩
  · rw [hb'.2 ⟨congrArg HandT.slot h2, congrArg HandT.gen h2⟩] at q; cases q
  · rw [hb.2 ⟨congrArg HandT.slot h1, congrArg HandT.gen h1⟩] at q; cases q
  · exact congrArg SeatT.next x6

structure Act21 where
  kind : Int
  block : Int
  h : HandT
  live : Bool
abbrev act21V (a : Act21) : List AV := [i64 a.kind, i64 a.block, i64 a.h.slot, i64 a.h.gen, .bool a.live]
def act21Z : Act21 := ⟨0, 0, handZ, false⟩
abbrev acts21A (l : List Act21) : AV := .ro 5 l.length (fun i => act21V (l.getD i act21Z))
def Act21I (a : Act21) : Prop := I64 a.kind ∧ I64 a.block ∧ HandI a.h
def Acts21 (l : List Act21) : Prop := (∀ a ∈ l, Act21I a) ∧ l.length ≤ 9223372036854775807
theorem act21_get {l : List Act21} (h : Acts21 l) (i : Nat) : Act21I (l.getD i act21Z) :=
  getD_mem (p := Act21I) h.1 ⟨I64_0, I64_0, I64_0, I64_0⟩ i
abbrev A21 : Type := Int × Int × (Int × Int) × Bool
def a21Z : A21 := (0, 0, (0, 0), false)
def a21 (p : A21) : Act21 := ⟨p.1, p.2.1, ⟨p.2.2.1.1, p.2.2.1.2⟩, p.2.2.2⟩
abbrev a21A (l : List A21) : AV := .ro 5 l.length (fun i => [i64 (l.getD i a21Z).1, i64 (l.getD i a21Z).2.1, i64 (l.getD i a21Z).2.2.1.1, i64 (l.getD i a21Z).2.2.1.2, .bool (l.getD i a21Z).2.2.2])
def A21I (l : List A21) : Prop := (∀ a ∈ l, I64 a.1 ∧ I64 a.2.1 ∧ I64 a.2.2.1.1 ∧ I64 a.2.2.1.2) ∧ l.length ≤ 9223372036854775807
theorem a21_get (l : List A21) (i : Nat) : (l.map a21).getD i act21Z = a21 (l.getD i a21Z) := by
  rw [List.getD_eq_getElem?_getD, List.getD_eq_getElem?_getD, List.getElem?_map]
  cases l[i]? <;> rfl
theorem a21_args (l : List A21) : acts21A (l.map a21) = a21A l := by
  unfold acts21A a21A
  rw [List.length_map]
  congr 1
  funext i
  rw [a21_get]; rfl
theorem a21_acts {l : List A21} (h : A21I l) : Acts21 (l.map a21) := by
  refine ⟨fun a ha => ?_, by rw [List.length_map]; exact h.2⟩
  obtain ⟨b, hb, rfl⟩ := List.mem_map.1 ha
  have := h.1 b hb
  exact ⟨this.1, this.2.1, this.2.2.1, this.2.2.2⟩
abbrev handsF (l : List HandT) (i : Nat) : List AV := [i64 (l.getD i handZ).slot, i64 (l.getD i handZ).gen]
abbrev handsA (l : List HandT) : AV := .ro 2 l.length (handsF l)
abbrev handsR (cap : Nat) (l : List HandT) : Sx.Item := .row 36 2 cap l.length (handsF l)
def HandsI (l : List HandT) : Prop := (∀ x ∈ l, HandI x) ∧ l.length ≤ 9223372036854775807
theorem hands_iff {l m : List HandT} : (l.length = m.length ∧ ∀ i, i < m.length → [AV.int .i64 (l.getD i handZ).slot, AV.int .i64 (l.getD i handZ).gen] = [AV.int .i64 (m.getD i handZ).slot, AV.int .i64 (m.getD i handZ).gen]) ↔ l = m :=
  ⟨fun h => list_eq_of handZ h.1 fun i hi => by
    have := h.2 i hi
    simp only [List.cons.injEq, AV.int.injEq, true_and, and_true] at this
    cases e : l.getD i handZ; cases e2 : m.getD i handZ
    rw [e, e2] at this; simp only at this; rw [this.1, this.2], fun h => by subst h; exact ⟨rfl, fun _ _ => rfl⟩⟩
theorem hands_iff' {l m : List HandT} {P : Prop} : (l.length = m.length ∧ (∀ i, i < m.length → [AV.int .i64 (l.getD i handZ).slot, AV.int .i64 (l.getD i handZ).gen] = [AV.int .i64 (m.getD i handZ).slot, AV.int .i64 (m.getD i handZ).gen]) ∧ P) ↔ (l = m ∧ P) := by
  rw [← and_assoc, hands_iff]
def handInC : Ctr := pureC (List HandT × HandT) (fun x => HandsI x.1 ∧ HandI x.2) (fun x => [handsA x.1, handA x.2]) (fun x => .bool (decide (x.2 ∈ x.1)))
def handInLA (x : List HandT × HandT) : LA := { T := Nat, F := fun i => frm 18 [(0, handsA x.1), (3, .ptr 1 [] 0), (5, i64 (i : Nat))], H := fun _ => [.fence, .cells 36 [i64 x.2.slot, i64 x.2.gen]] }

theorem handInV : (∀ (x : List HandT × HandT), HandsI x.1 ∧ HandI x.2 → Exx (Nat → Prop) fun I => Exx (Nat → Nat) fun m => (Exx Nat fun t => I t ∧ (((2 : Nat) =
 2 ∧ x.1.length = x.1.length ∧ ∀ (i : Nat), i < x.1.length → [AV.int .i64 (x.1.getD i handZ).slot, AV.int .i64 (x.1.getD i handZ).gen] = [AV.int .i64 (x.1.getD i
 handZ).slot, AV.int .i64 (x.1.getD i handZ).gen]) ∧ Tr 2 ((true = true ∧ NilNil ∧ (0 : Nat) = 0) ∧ Tr 1 (Tr 1 ((0 : Int) = (↑t : Int)) ∧ Tr 12 True))) ∧ true =
 true ∧ ((36 : Nat) = (36 : TypeId) ∧ Tr 1 (x.2.slot = x.2.slot) ∧ Tr 1 (x.2.gen = x.2.gen) ∧ True) ∧ True) ∧ ∀ (t : Nat), I t → BC (decide ((↑t : Int) <
 (↑x.1.length : Int))) (((0 : Int) ≤ (↑t : Int) ∧ (↑t : Int) < (↑x.1.length : Int)) ∧ Tr 2 True ∧ Tr 2 True ∧ ∀ (b : Bool), (b = true ↔ (x.1.getD (↑t :
 Int).toNat handZ).slot = x.2.slot ∧ (x.1.getD (↑t : Int).toNat handZ).gen = x.2.gen ∧ True) → BC b (Exx Unit fun y => ((true = decide (x.2 ∈ x.1) ∧ True) ∧ true
 = true ∧ True) ∧ True) (I64 ((↑t : Int) + 1) ∧ Exx Nat fun t' => (I t' ∧ m t' < m t) ∧ (((2 : Nat) = 2 ∧ x.1.length = x.1.length ∧ ∀ (i : Nat), i < x.1.length →
 [AV.int .i64 (x.1.getD i handZ).slot, AV.int .i64 (x.1.getD i handZ).gen] = [AV.int .i64 (x.1.getD i handZ).slot, AV.int .i64 (x.1.getD i handZ).gen]) ∧ Tr 2
 ((true = true ∧ NilNil ∧ (0 : Nat) = 0) ∧ Tr 1 (Tr 1 ((↑t : Int) + 1 = (↑t' : Int)) ∧ Tr 12 True))) ∧ true = true ∧ ((36 : TypeId) = 36 ∧ Tr 1 (x.2.slot =
 x.2.slot) ∧ Tr 1 (x.2.gen = x.2.gen) ∧ True) ∧ True)) (Exx Unit fun y => ((false = decide (x.2 ∈ x.1) ∧ True) ∧ true = true ∧ True) ∧ True)) = (fnVC tb [] Tryd.f13 handInC (fun x => { loops := [(2, handInLA x)] }) (fun _ => none)) := by kernel_rfl 

theorem handIn_ok : SpecOk Tryd.prog 13 (specOf handInC) := by
  refine specOk mixed tb_ok SPok.nil Tryd.func13 (by decide) (pureC_ok fun _ => rfl) (an := (fun x => { loops := [(2, handInLA x)] })) (σ := (fun _ => none)) ?_
  rw [← handInV]
  simp (maxSteps := 10000000) only [and_false, false_and, false_or, or_false, bOf_true, bOf_false, true_bOf, false_bOf, Exx, int_ite, merge_o, Tr_eq, true_and, and_true, exists_const, forall_const, implies_true, forall_eq, exists_eq, exists_eq', exists_eq_left, exists_eq_left', exists_eq_right, Prod.exists, Prod.forall, and_assoc, exists_and_left, BC_iff, Bool.not_eq_true', Bool.not_eq_false', decide_eq_true_eq, decide_eq_false_iff_not, I64, nat_cast_inj, Int.toNat_natCast, nats_iff, nats_iff', ints_iff, ints_iff', natss_iff, natss_iff', nilnil, litL_eq, str_inj, str_append, str_length, str_getD, str_take, lit1_iff, one_iff, two_iff, one_get, Nat.zero_add, Nat.sub_zero, Nat.reduceMul, Nat.reduceDiv, Nat.reduceAdd, Int.reduceToNat, Nat.not_lt_zero, if_false, if_true, Nat.le_refl, List.length_singleton, List.length_cons, List.length_nil, Bool.false_eq_true, not_true_eq_false, false_implies, not_false_eq_true, Prod.mk.injEq]
  rintro l ⟨sl, gn⟩ ⟨⟨h1, h2⟩, h3⟩
  refine ⟨fun i => i ≤ l.length ∧ ∀ j, j < i → l.getD j handZ ≠ ⟨sl, gn⟩, ⟨0, ⟨by omega, fun j hj => absurd hj (Nat.not_lt_zero _)⟩, rfl⟩, fun i => l.length - i, fun i hi => ⟨fun hlt => ⟨by omega, by omega, fun b hb => ⟨fun hbt => (decide_eq_true ?_).symm, fun hbf => ⟨by omega, by omega, i + 1, ⟨by omega, fun j hj => ?_⟩, by simp only; omega, by omega⟩⟩⟩, fun hge => (decide_eq_false fun hm => ?_).symm⟩⟩
  · have h := hb.1 hbt
    have e : l.getD i handZ = ⟨sl, gn⟩ := by cases e : l.getD i handZ; rw [e] at h; simp only at h; rw [h.1, h.2]
    rw [← e, List.getD_eq_getElem?_getD, List.getElem?_eq_getElem (by omega)]; exact List.getElem_mem _
  · by_cases e : j = i
    · subst e; intro k; rw [hb.2 (by rw [k]; exact ⟨rfl, rfl⟩)] at hbf; cases hbf
    · exact hi.2 j (by omega)
  · obtain ⟨j, hj, e⟩ := List.mem_iff_getElem.1 hm
    refine hi.2 j (by omega) ?_
    rw [List.getD_eq_getElem?_getD, List.getElem?_eq_getElem hj]; exact e

end Yard
