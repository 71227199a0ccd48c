import Derived.Test.YtobpnkcgolkbiaaDoorPutMath
/- Slots' laws: what they share. -/
namespace Yard
open Go Go.Sx Go.Proofs
set_option linter.unusedVariables false
set_option linter.unusedSimpArgs false
set_option maxRecDepth 4000

structure Act20 where
  slot : Int
  x : SeatT
  mark : Bool
abbrev act20V (a : Act20) : List AV := [i64 a.slot, .bool a.x.live, i64 a.x.gen, i64 a.x.next, .bool a.mark]
def act20Z : Act20 := ⟨0, seatZ, false⟩
abbrev acts20A (l : List Act20) : AV := .ro 5 l.length (fun i => act20V (l.getD i act20Z))
def Act20I (a : Act20) : Prop := I64 a.slot ∧ SeatI a.x
def Acts20 (l : List Act20) : Prop := (∀ a ∈ l, Act20I a) ∧ l.length ≤ 9223372036854775807
def lastS (l : List Act20) (slot : Int) : SeatT := l.foldl (fun y a => if a.slot = slot then a.x else y) seatZ
theorem lastS_snoc {l : List Act20} {slot : Int} {i : Nat} (hi : i < l.length) : lastS (l.take (i + 1)) slot = if (l.getD i act20Z).slot = slot then (l.getD i act20Z).x else lastS (l.take i) slot := by
  rw [lastS, foldl_take_snoc _ _ act20Z hi]; rfl

def block08C : Ctr := pureC Int (fun x => I64 x) (fun x => [i64 x]) (fun x => .bool (decide (2 ≤ x ∧ x ≤ 3071)))
def seat09C : Ctr := pureC SeatT SeatI (fun x => [seatA x]) (fun x => .bool (decide (seatOk x)))
def seat20C : Ctr := pureC (List Act20 × Int) (fun x => Acts20 x.1 ∧ I64 x.2) (fun x => [acts20A x.1, i64 x.2]) (fun x => seatA (lastS x.1 x.2))
def seat20LA (x : List Act20 × Int) : LA := { T := Nat, F := fun i => frm 27 [(0, acts20A x.1), (1, i64 x.2), (4, .ptr 1 [] 0), (5, .ptr 2 [] 0), (6, i64 (i : Nat))], H := fun i => [.fence, .cells 30 (seatV seatZ), .cells 30 (seatV (lastS (x.1.take i) x.2))] }
def awake20C : Ctr := pureC Unit (fun _ => True) (fun _ => []) (fun _ => .bool true)

-- callees: 
theorem block08V : (∀ (x : Int), -9223372036854775808 ≤ x ∧ x ≤ (9223372036854775807 : Int) → BC (decide ((2 : Int) ≤ x)) (Exx Unit fun y => ((decide (x ≤ (3071
 : Int)) = decide ((2 : Int) ≤ x ∧ x ≤ (3071 : Int)) ∧ True) ∧ true = true ∧ True) ∧ True) (Exx Unit fun y => ((false = decide ((2 : Int) ≤ x ∧ x ≤ (3071 : Int))
 ∧ True) ∧ true = true ∧ True) ∧ True)) = (fnVC tb [] Tryd.f48 block08C (fun _ => {}) (fun _ => none)) := by kernel_rfl 

theorem block08_ok : SpecOk Tryd.prog 48 (specOf block08C) := by
  refine specOk mixed tb_ok SPok.nil Tryd.func48 (by decide) (pureC_ok fun _ => rfl) (an := (fun _ => {})) (σ := (fun _ => none)) ?_
  rw [← block08V]
  simp (maxSteps := 10000000) only [and_false, false_and, false_or, or_false, bOf_true, bOf_false, true_bOf, false_bOf, Exx, int_ite, merge_o, Tr_eq, true_and, and_true, exists_const, forall_const, implies_true, forall_eq, exists_eq, exists_eq', exists_eq_left, exists_eq_left', exists_eq_right, Prod.exists, Prod.forall, and_assoc, exists_and_left, BC_iff, Bool.not_eq_true', Bool.not_eq_false', decide_eq_true_eq, decide_eq_false_iff_not, I64, nat_cast_inj, Int.toNat_natCast, nats_iff, nats_iff', ints_iff, ints_iff', natss_iff, natss_iff', nilnil, litL_eq, str_inj, str_append, str_length, str_getD, str_take, lit1_iff, one_iff, two_iff, one_get, Nat.zero_add, Nat.sub_zero, Nat.reduceMul, Nat.reduceDiv, Nat.reduceAdd, Int.reduceToNat, Nat.not_lt_zero, if_false, if_true, Nat.le_refl, List.length_singleton, List.length_cons, List.length_nil, Bool.false_eq_true, not_true_eq_false, false_implies, not_false_eq_true, Prod.mk.injEq]
  exact fun x _ => ⟨fun h => decide_eq_decide.2 (by omega), fun h => (decide_eq_false (by omega)).symm⟩

-- callees: 48=block08_ok
theorem seat09V : (∀ (x : SeatT), SeatI x → BC (decide (x.gen < (0 : Int))) (Exx Unit fun y => ((false = decide (seatOk x) ∧ True) ∧ true = true ∧ True) ∧ True)
 (BC (decide ((4294967295 : Int) < x.gen)) (Exx Unit fun y => ((false = decide (seatOk x) ∧ True) ∧ true = true ∧ True) ∧ True) (BC x.live (BC (decide ((0 : Int)
 < x.gen)) (Exx Int fun x_1 => ((Tr 1 (x.next = x_1) ∧ True) ∧ true = true ∧ True) ∧ (-9223372036854775808 ≤ x_1 ∧ x_1 ≤ (9223372036854775807 : Int)) ∧ ∀ (y :
 Unit), True → Exx Unit fun y => ((decide ((2 : Int) ≤ x_1 ∧ x_1 ≤ (3071 : Int)) = decide (seatOk x) ∧ True) ∧ true = true ∧ True) ∧ True) (Exx Unit fun y =>
 ((false = decide (seatOk x) ∧ True) ∧ true = true ∧ True) ∧ True)) (BC (decide ((0 : Int) ≤ x.next)) (BC (decide (x.next ≤ (1792 : Int))) (BC (!decide (x.gen =
 (0 : Int))) (Exx Unit fun y => ((true = decide (seatOk x) ∧ True) ∧ true = true ∧ True) ∧ True) (Exx Unit fun y => ((decide (x.next = (0 : Int)) = decide
 (seatOk x) ∧ True) ∧ true = true ∧ True) ∧ True)) (Exx Unit fun y => ((false = decide (seatOk x) ∧ True) ∧ true = true ∧ True) ∧ True)) (Exx Unit fun y =>
 ((false = decide (seatOk x) ∧ True) ∧ true = true ∧ True) ∧ True))))) = (fnVC tb [(48, specOf block08C)] Tryd.f16 seat09C (fun _ => {}) (fun _ => none)) := by kernel_rfl 

theorem seat09_ok : SpecOk Tryd.prog 16 (specOf seat09C) := by
  refine specOk mixed tb_ok (SPok.cons block08_ok SPok.nil) Tryd.func16 (by decide) (pureC_ok fun _ => rfl) (an := (fun _ => {})) (σ := (fun _ => none)) ?_
  rw [← seat09V]
  simp (maxSteps := 10000000) only [and_false, false_and, false_or, or_false, bOf_true, bOf_false, true_bOf, false_bOf, Exx, int_ite, merge_o, Tr_eq, true_and, and_true, exists_const, forall_const, implies_true, forall_eq, exists_eq, exists_eq', exists_eq_left, exists_eq_left', exists_eq_right, Prod.exists, Prod.forall, and_assoc, exists_and_left, BC_iff, Bool.not_eq_true', Bool.not_eq_false', decide_eq_true_eq, decide_eq_false_iff_not, I64, nat_cast_inj, Int.toNat_natCast, nats_iff, nats_iff', ints_iff, ints_iff', natss_iff, natss_iff', nilnil, litL_eq, str_inj, str_append, str_length, str_getD, str_take, lit1_iff, one_iff, two_iff, one_get, Nat.zero_add, Nat.sub_zero, Nat.reduceMul, Nat.reduceDiv, Nat.reduceAdd, Int.reduceToNat, Nat.not_lt_zero, if_false, if_true, Nat.le_refl, List.length_singleton, List.length_cons, List.length_nil, Bool.false_eq_true, not_true_eq_false, false_implies, not_false_eq_true, Prod.mk.injEq]
  rintro ⟨l, g, n⟩ ⟨⟨h1, h2⟩, h3, h4⟩
  dsimp only at *
  have et : ∀ g n : Int, seatOk ⟨true, g, n⟩ ↔ (1 ≤ g ∧ g ≤ 4294967295 ∧ 2 ≤ n ∧ n ≤ 3071) := fun g n => by simp [seatOk]
  have ef : ∀ g n : Int, seatOk ⟨false, g, n⟩ ↔ (0 ≤ g ∧ g ≤ 4294967295 ∧ 0 ≤ n ∧ n ≤ 1792 ∧ (0 < g ∨ n = 0)) := fun g n => by simp [seatOk]
  have hno : ∀ l : Bool, ¬ (0 ≤ g ∧ g ≤ 4294967295) → false = decide (seatOk ⟨l, g, n⟩) := fun l h => (decide_eq_false (fun k => by
    cases l
    · have := (ef g n).1 k; omega
    · have := (et g n).1 k; omega)).symm
  refine ⟨fun h => hno l (by omega), fun h0 => ⟨fun h => hno l (by omega), fun h5 => ⟨fun hl => ?_, fun hl => ?_⟩⟩⟩
  · subst hl
    exact ⟨fun hg => ⟨h3, h4, decide_eq_decide.2 (by rw [et]; omega)⟩, fun hg => (decide_eq_false (fun k => by have := (et g n).1 k; omega)).symm⟩
  · subst hl
    exact ⟨fun hn => ⟨fun hn2 => ⟨fun hg => (decide_eq_true ((ef g n).2 (by omega))).symm, fun hg => decide_eq_decide.2 (by rw [ef]; omega)⟩, fun hn2 => (decide_eq_false (fun k => by have := (ef g n).1 k; omega)).symm⟩, fun hn => (decide_eq_false (fun k => by have := (ef g n).1 k; omega)).symm⟩

-- callees: 
theorem seat20V : (∀ (x : List Act20 × Int), Acts20 x.fst ∧ I64 x.snd → Exx (Nat → Prop) fun I => Exx (Nat → Nat) fun m => (Exx Nat fun t => I t ∧ (((5 : Nat) =
 (5 : Nat) ∧ x.fst.length = x.fst.length ∧ ∀ (i : Nat), i < x.fst.length → [AV.int IntKind.i64 (x.fst.getD i act20Z).slot, AV.bool (x.fst.getD i act20Z).x.live,
 AV.int IntKind.i64 (x.fst.getD i act20Z).x.gen, AV.int IntKind.i64 (x.fst.getD i act20Z).x.next, AV.bool (x.fst.getD i act20Z).mark] = [AV.int IntKind.i64
 (x.fst.getD i act20Z).slot, AV.bool (x.fst.getD i act20Z).x.live, AV.int IntKind.i64 (x.fst.getD i act20Z).x.gen, AV.int IntKind.i64 (x.fst.getD i
 act20Z).x.next, AV.bool (x.fst.getD i act20Z).mark]) ∧ Tr 1 (x.snd = x.snd) ∧ Tr 2 ((true = true ∧ NilNil ∧ (0 : Nat) = (0 : Nat)) ∧ (true = true ∧ NilNil ∧ (0
 : Nat) = (0 : Nat)) ∧ Tr 1 ((0 : Int) = (↑t : Int)) ∧ Tr 20 True)) ∧ true = true ∧ ((30 : Nat) = (30 : TypeId) ∧ false = false ∧ Tr 1 ((0 : Int) = seatZ.gen) ∧
 Tr 1 ((0 : Int) = seatZ.next) ∧ True) ∧ ((30 : Nat) = (30 : TypeId) ∧ false = (lastS (List.take t x.fst) x.snd).live ∧ Tr 1 ((0 : Int) = (lastS (List.take t
 x.fst) x.snd).gen) ∧ Tr 1 ((0 : Int) = (lastS (List.take t x.fst) x.snd).next) ∧ True) ∧ True) ∧ ∀ (t : Nat), I t → BC (decide ((↑t : Int) < (↑x.fst.length :
 Int))) (((0 : Int) ≤ (↑t : Int) ∧ (↑t : Int) < (↑x.fst.length : Int)) ∧ BC (decide ((x.fst.getD (↑t : Int).toNat act20Z).slot = x.snd)) (((0 : Int) ≤ (↑t : Int)
 ∧ (↑t : Int) < (↑x.fst.length : Int)) ∧ I64 ((↑t : Int) + 1) ∧ Exx Nat fun t' => (I t' ∧ m t' < m t) ∧ (((5 : Nat) = (5 : Nat) ∧ x.fst.length = x.fst.length ∧ ∀
 (i : Nat), i < x.fst.length → [AV.int IntKind.i64 (x.fst.getD i act20Z).slot, AV.bool (x.fst.getD i act20Z).x.live, AV.int IntKind.i64 (x.fst.getD i
 act20Z).x.gen, AV.int IntKind.i64 (x.fst.getD i act20Z).x.next, AV.bool (x.fst.getD i act20Z).mark] = [AV.int IntKind.i64 (x.fst.getD i act20Z).slot, AV.bool
 (x.fst.getD i act20Z).x.live, AV.int IntKind.i64 (x.fst.getD i act20Z).x.gen, AV.int IntKind.i64 (x.fst.getD i act20Z).x.next, AV.bool (x.fst.getD i
 act20Z).mark]) ∧ Tr 1 (x.snd = x.snd) ∧ Tr 2 ((true = true ∧ NilNil ∧ (0 : Nat) = (0 : Nat)) ∧ (true = true ∧ NilNil ∧ (0 : Nat) = (0 : Nat)) ∧ Tr 1 ((↑t : Int)
 + 1 = (↑t' : Int)) ∧ Tr 20 True)) ∧ true = true ∧ ((30 : TypeId) = (30 : TypeId) ∧ false = false ∧ Tr 1 (seatZ.gen = seatZ.gen) ∧ Tr 1 (seatZ.next = seatZ.next)
 ∧ True) ∧ ((30 : TypeId) = (30 : TypeId) ∧ (x.fst.getD (↑t : Int).toNat act20Z).x.live = (lastS (List.take t' x.fst) x.snd).live ∧ Tr 1 ((x.fst.getD (↑t :
 Int).toNat act20Z).x.gen = (lastS (List.take t' x.fst) x.snd).gen) ∧ Tr 1 ((x.fst.getD (↑t : Int).toNat act20Z).x.next = (lastS (List.take t' x.fst)
 x.snd).next) ∧ True) ∧ True) (I64 ((↑t : Int) + 1) ∧ Exx Nat fun t' => (I t' ∧ m t' < m t) ∧ (((5 : Nat) = (5 : Nat) ∧ x.fst.length = x.fst.length ∧ ∀ (i :
 Nat), i < x.fst.length → [AV.int IntKind.i64 (x.fst.getD i act20Z).slot, AV.bool (x.fst.getD i act20Z).x.live, AV.int IntKind.i64 (x.fst.getD i act20Z).x.gen,
 AV.int IntKind.i64 (x.fst.getD i act20Z).x.next, AV.bool (x.fst.getD i act20Z).mark] = [AV.int IntKind.i64 (x.fst.getD i act20Z).slot, AV.bool (x.fst.getD i
 act20Z).x.live, AV.int IntKind.i64 (x.fst.getD i act20Z).x.gen, AV.int IntKind.i64 (x.fst.getD i act20Z).x.next, AV.bool (x.fst.getD i act20Z).mark]) ∧ Tr 1
 (x.snd = x.snd) ∧ Tr 2 ((true = true ∧ NilNil ∧ (0 : Nat) = (0 : Nat)) ∧ (true = true ∧ NilNil ∧ (0 : Nat) = (0 : Nat)) ∧ Tr 1 ((↑t : Int) + 1 = (↑t' : Int)) ∧
 Tr 20 True)) ∧ true = true ∧ ((30 : TypeId) = (30 : TypeId) ∧ false = false ∧ Tr 1 (seatZ.gen = seatZ.gen) ∧ Tr 1 (seatZ.next = seatZ.next) ∧ True) ∧ ((30 :
 TypeId) = (30 : TypeId) ∧ (lastS (List.take t x.fst) x.snd).live = (lastS (List.take t' x.fst) x.snd).live ∧ Tr 1 ((lastS (List.take t x.fst) x.snd).gen =
 (lastS (List.take t' x.fst) x.snd).gen) ∧ Tr 1 ((lastS (List.take t x.fst) x.snd).next = (lastS (List.take t' x.fst) x.snd).next) ∧ True) ∧ True)) (Exx Unit fun
 y => ((((lastS (List.take t x.fst) x.snd).live = (lastS x.fst x.snd).live ∧ Tr 1 ((lastS (List.take t x.fst) x.snd).gen = (lastS x.fst x.snd).gen) ∧ Tr 1
 ((lastS (List.take t x.fst) x.snd).next = (lastS x.fst x.snd).next) ∧ True) ∧ True) ∧ true = true ∧ True) ∧ True)) = (fnVC tb [] Tryd.f18 seat20C (fun x => { loops := [(3, seat20LA x)] }) (fun _ => none)) := by kernel_rfl 

theorem seat20_ok : SpecOk Tryd.prog 18 (specOf seat20C) := by
  refine specOk mixed tb_ok SPok.nil Tryd.func18 (by decide) (pureC_ok fun _ => ⟨rfl, rfl, rfl, trivial⟩) (an := (fun x => { loops := [(3, seat20LA x)] })) (σ := (fun _ => none)) ?_
  rw [← seat20V]
  simp (maxSteps := 10000000) only [and_false, false_and, false_or, or_false, bOf_true, bOf_false, true_bOf, false_bOf, Exx, int_ite, merge_o, Tr_eq, true_and, and_true, exists_const, forall_const, implies_true, forall_eq, exists_eq, exists_eq', exists_eq_left, exists_eq_left', exists_eq_right, Prod.exists, Prod.forall, and_assoc, exists_and_left, BC_iff, Bool.not_eq_true', Bool.not_eq_false', decide_eq_true_eq, decide_eq_false_iff_not, I64, nat_cast_inj, Int.toNat_natCast, nats_iff, nats_iff', ints_iff, ints_iff', natss_iff, natss_iff', nilnil, litL_eq, str_inj, str_append, str_length, str_getD, str_take, lit1_iff, one_iff, two_iff, one_get, Nat.zero_add, Nat.sub_zero, Nat.reduceMul, Nat.reduceDiv, Nat.reduceAdd, Int.reduceToNat, Nat.not_lt_zero, if_false, if_true, Nat.le_refl, List.length_singleton, List.length_cons, List.length_nil, Bool.false_eq_true, not_true_eq_false, false_implies, not_false_eq_true, Prod.mk.injEq]
  rintro l slot ⟨⟨hl, hlen⟩, h2⟩
  refine ⟨fun i => i ≤ l.length, ⟨0, by omega, rfl, rfl, rfl, rfl, rfl, rfl⟩, fun i => l.length - i, fun i hi => ⟨fun hlt => ⟨by omega, by omega, fun he => ⟨by omega, by omega, by omega, by omega, i + 1, by omega, by simp only; omega, by omega, ?_⟩, fun he => ⟨by omega, by omega, i + 1, by omega, by simp only; omega, by omega, ?_⟩⟩, fun hge => ?_⟩⟩
  · rw [lastS_snoc (by omega), if_pos he]; exact ⟨rfl, rfl, rfl⟩
  · rw [lastS_snoc (by omega), if_neg he]; exact ⟨rfl, rfl, rfl⟩
  · rw [show i = l.length by omega, List.take_length]; exact ⟨rfl, rfl, rfl⟩

def aw1 : Wr := putR (madeS 20 0) 0 120 ⟨true, 1, 5⟩
def aw2 : Wr := putR aw1.s aw1.at_ 121 ⟨true, 1, 5⟩
theorem aw_k1 : aw1.e = 0 := by decide +kernel
theorem aw_k2 : aw2.e = 0 := by decide +kernel
theorem aw_k3 : walkErr aw2.s.ws aw2.at_ 120 = 0 := by decide +kernel
theorem aw_k4 : ((bitsL aw1.s.a.n aw1.s.a.w).length : Int) = 5 := by decide +kernel
theorem aw_k5 : ((bitsL aw2.s.a.n aw2.s.a.w).length : Int) = 5 := by decide +kernel
theorem aw_k6 : findS aw2.s.ws aw2.at_ 120 = ⟨true, 1, 5⟩ := by decide +kernel

-- callees: 13=madeStore_ok 15=slotPut_ok 17=find_ok 23=works_ok 24=setCount_ok
theorem awake20V : (∀ (x : Unit), True → Exx (Nat × Int) fun x => ((Tr 1 ((20 : Int) = (↑x.fst : Int)) ∧ Tr 1 ((0 : Int) = x.snd) ∧ True) ∧ true = true ∧ True)
 ∧ (x.fst ≤ 3072 ∧ (0 : Int) ≤ x.snd ∧ I64 x.snd) ∧ ∀ (y : Unit), True → Exx (StoreT × Int × Int × SeatT) fun x_1 => (((true = true ∧ NilNil ∧ (0 : Nat) = (0 :
 Nat)) ∧ Tr 1 ((0 : Int) = x_1.snd.fst) ∧ Tr 1 ((120 : Int) = x_1.snd.snd.fst) ∧ (true = x_1.snd.snd.snd.live ∧ Tr 1 ((1 : Int) = x_1.snd.snd.snd.gen) ∧ Tr 1 ((5
 : Int) = x_1.snd.snd.snd.next) ∧ True) ∧ True) ∧ true = true ∧ ((139 : TypeId) = (139 : TypeId) ∧ (true = true ∧ NilNil ∧ (0 : Nat) = (0 : Nat)) ∧ (true = true
 ∧ NilNil ∧ (0 : Nat) = (0 : Nat)) ∧ True) ∧ devB (madeS x.fst x.snd).ws = devB x_1.fst.ws ∧ allocB (madeS x.fst x.snd).a = allocB x_1.fst.a ∧ True) ∧ (StoreW
 x_1.fst ∧ I64 x_1.snd.fst ∧ I64 x_1.snd.snd.fst ∧ SeatI x_1.snd.snd.snd) ∧ ∀ (y : Unit), True → Exx AllocT fun x => (((true = true ∧ NilNil ∧ (0 : Nat) = (0 :
 Nat)) ∧ True) ∧ true = true ∧ allocB (putR x_1.fst x_1.snd.fst x_1.snd.snd.fst x_1.snd.snd.snd).s.a = allocB x ∧ True) ∧ AllocW x ∧ ∀ (y : Unit), True → Exx
 ((Nat × Nat) × Unit) fun x_2 => (((true = true ∧ NilNil ∧ (0 : Nat) = (0 : Nat)) ∧ True) ∧ true = true ∧ setB (x.n, x.w) = setB x_2.fst ∧ True) ∧ (SetW x_2.fst
 ∧ True) ∧ ∀ (y : Unit), True → Exx (StoreT × Int × Int × SeatT) fun x_3 => (((true = true ∧ NilNil ∧ (0 : Nat) = (0 : Nat)) ∧ Tr 1 ((putR x_1.fst x_1.snd.fst
 x_1.snd.snd.fst x_1.snd.snd.snd).at_ = x_3.snd.fst) ∧ Tr 1 ((121 : Int) = x_3.snd.snd.fst) ∧ (true = x_3.snd.snd.snd.live ∧ Tr 1 ((1 : Int) =
 x_3.snd.snd.snd.gen) ∧ Tr 1 ((5 : Int) = x_3.snd.snd.snd.next) ∧ True) ∧ True) ∧ true = true ∧ ((139 : TypeId) = (139 : TypeId) ∧ (true = true ∧ NilNil ∧ (0 :
 Nat) = (0 : Nat)) ∧ (true = true ∧ NilNil ∧ (0 : Nat) = (0 : Nat)) ∧ True) ∧ devB (putR x_1.fst x_1.snd.fst x_1.snd.snd.fst x_1.snd.snd.snd).s.ws = devB
 x_3.fst.ws ∧ allocB x = allocB x_3.fst.a ∧ True) ∧ (StoreW x_3.fst ∧ I64 x_3.snd.fst ∧ I64 x_3.snd.snd.fst ∧ SeatI x_3.snd.snd.snd) ∧ ∀ (y : Unit), True → Exx
 (StoreT × Int × Int) fun x => (((true = true ∧ NilNil ∧ (0 : Nat) = (0 : Nat)) ∧ Tr 1 ((putR x_3.fst x_3.snd.fst x_3.snd.snd.fst x_3.snd.snd.snd).at_ =
 x.snd.fst) ∧ Tr 1 ((120 : Int) = x.snd.snd) ∧ True) ∧ true = true ∧ ((139 : TypeId) = (139 : TypeId) ∧ (true = true ∧ NilNil ∧ (0 : Nat) = (0 : Nat)) ∧ (true =
 true ∧ NilNil ∧ (0 : Nat) = (0 : Nat)) ∧ True) ∧ devB (putR x_3.fst x_3.snd.fst x_3.snd.snd.fst x_3.snd.snd.snd).s.ws = devB x.fst.ws ∧ allocB (putR x_3.fst
 x_3.snd.fst x_3.snd.snd.fst x_3.snd.snd.snd).s.a = allocB x.fst.a ∧ True) ∧ (StoreW x.fst ∧ I64 x.snd.fst ∧ I64 x.snd.snd) ∧ ∀ (y : Unit), True → BC (decide
 ((putR x_1.fst x_1.snd.fst x_1.snd.snd.fst x_1.snd.snd.snd).e = (0 : Int))) (BC (decide ((putR x_3.fst x_3.snd.fst x_3.snd.snd.fst x_3.snd.snd.snd).e = (0 :
 Int))) (BC (decide (walkErr x.fst.ws x.snd.fst x.snd.snd = (0 : Int))) (BC (decide ((↑(bitsL x_2.fst.fst x_2.fst.snd).length : Int) = (5 : Int))) (Exx AllocT
 fun x_4 => (((true = true ∧ NilNil ∧ (0 : Nat) = (0 : Nat)) ∧ True) ∧ true = true ∧ allocB x.fst.a = allocB x_4 ∧ True) ∧ AllocW x_4 ∧ ∀ (y : Unit), True → Exx
 ((Nat × Nat) × Unit) fun x_5 => (((true = true ∧ NilNil ∧ (0 : Nat) = (0 : Nat)) ∧ True) ∧ true = true ∧ setB (x_4.n, x_4.w) = setB x_5.fst ∧ True) ∧ (SetW
 x_5.fst ∧ True) ∧ ∀ (y : Unit), True → BC (decide ((↑(bitsL x_5.fst.fst x_5.fst.snd).length : Int) = (5 : Int))) (Tr 3 True ∧ Tr 3 True ∧ ∀ (b : Bool), (b =
 true ↔ (findS x.fst.ws x.snd.fst x.snd.snd).live = true ∧ (findS x.fst.ws x.snd.fst x.snd.snd).gen = (1 : Int) ∧ (findS x.fst.ws x.snd.fst x.snd.snd).next = (5
 : Int) ∧ True) → Exx Unit fun y => ((b = true ∧ True) ∧ true = true ∧ True) ∧ True) (Exx Unit fun y => ((false = true ∧ True) ∧ true = true ∧ True) ∧ True))
 (Exx Unit fun y => ((false = true ∧ True) ∧ true = true ∧ True) ∧ True)) (Exx Unit fun y => ((false = true ∧ True) ∧ true = true ∧ True) ∧ True)) (Exx Unit fun
 y => ((false = true ∧ True) ∧ true = true ∧ True) ∧ True)) (Exx Unit fun y => ((false = true ∧ True) ∧ true = true ∧ True) ∧ True)) = (fnVC tb [(13, specOf madeStoreC), (15, specOf slotPutC), (17, specOf findC), (23, specOf worksC), (24, specOf setCountC)] Tryd.f12 awake20C (fun _ => {}) (fun _ => none)) := by kernel_rfl 

theorem awake20_ok : SpecOk Tryd.prog 12 (specOf awake20C) := by
  refine specOk mixed tb_ok (SPok.cons madeStore_ok (SPok.cons slotPut_ok (SPok.cons find_ok (SPok.cons works_ok (SPok.cons setCount_ok SPok.nil))))) Tryd.func12 (by decide) (pureC_ok fun _ => rfl) (an := (fun _ => {})) (σ := (fun _ => none)) ?_
  rw [← awake20V]
  simp (maxSteps := 10000000) only [and_false, false_and, false_or, or_false, bOf_true, bOf_false, true_bOf, false_bOf, Exx, int_ite, merge_o, Tr_eq, true_and, and_true, exists_const, forall_const, implies_true, forall_eq, exists_eq, exists_eq', exists_eq_left, exists_eq_left', exists_eq_right, Prod.exists, Prod.forall, and_assoc, exists_and_left, BC_iff, Bool.not_eq_true', Bool.not_eq_false', decide_eq_true_eq, decide_eq_false_iff_not, I64, nat_cast_inj, Int.toNat_natCast, nats_iff, nats_iff', ints_iff, ints_iff', natss_iff, natss_iff', nilnil, litL_eq, str_inj, str_append, str_length, str_getD, str_take, lit1_iff, one_iff, two_iff, one_get, Nat.zero_add, Nat.sub_zero, Nat.reduceMul, Nat.reduceDiv, Nat.reduceAdd, Int.reduceToNat, Nat.not_lt_zero, if_false, if_true, Nat.le_refl, List.length_singleton, List.length_cons, List.length_nil, Bool.false_eq_true, not_true_eq_false, false_implies, not_false_eq_true, Prod.mk.injEq, devB_inj, allocB_inj, setB_inj]
  have hI : SeatI ⟨true, 1, 5⟩ := ⟨⟨by show (-9223372036854775808 : Int) ≤ 1; omega, by show (1 : Int) ≤ 9223372036854775807; omega⟩, ⟨by show (-9223372036854775808 : Int) ≤ 5; omega, by show (5 : Int) ≤ 9223372036854775807; omega⟩⟩
  have hG := (made_good (n := 20) (by omega) (by omega)).W
  have hW1 : StoreW aw1.s := putR_W hG _ _ _
  have hW2 : StoreW aw2.s := putR_W hW1 _ _ _
  have ha1 : I64 aw1.at_ := putR_at hG I64_0 _ _
  have ha2 : I64 aw2.at_ := putR_at hW1 ha1 _ _
  refine ⟨20, rfl, by omega, by omega, by omega, by omega, madeS 20 0, ⟨true, 1, 5⟩, rfl, rfl, rfl, rfl, rfl, hG, by omega, by omega, by omega, by omega, hI, hW1.2, ⟨hW1.2.1, hW1.2.2.2.2.2.2⟩, aw1.s, ⟨true, 1, 5⟩, rfl, rfl, rfl, rfl, rfl, hW1, ha1.1, ha1.2, by omega, by omega, hI, aw2.s, rfl, rfl, hW2, ha2.1, ha2.2, by omega, by omega, fun _ => ⟨fun _ => ⟨fun _ => ⟨fun _ => ⟨hW2.2, ⟨hW2.2.1, hW2.2.2.2.2.2.2⟩, fun _ b hb => ?_, fun h => h aw_k5⟩, fun h => h aw_k4⟩, fun h => h aw_k3⟩, fun h => h aw_k2⟩, fun h => h aw_k1⟩
  exact hb.2 ⟨congrArg SeatT.live aw_k6, congrArg SeatT.gen aw_k6, congrArg SeatT.next aw_k6⟩

end Yard

/- What stays while seats are put. -/
namespace Yard
open Go Go.Sx Go.Proofs
set_option linter.unusedVariables false
set_option linter.unusedSimpArgs false
set_option maxRecDepth 4000

theorem mark_free (x : AllocT) : freeN x ≤ freeN (markS x) := by
  have := bits_le (p := heldN (markS x)) (q := heldN x) (g := x.n) x.n fun i _ _ hp => by
    have e : heldN (markS x) = x.w ||| x.c ||| x.e ||| x.w := rfl
    rw [e] at hp
    unfold heldN
    simp only [Nat.testBit_or, Bool.or_eq_true] at hp ⊢
    rcases hp with ((h | h) | h) | h
    · simp [h]
    · simp [h]
    · simp [h]
    · simp [h]
  rw [if_neg (by omega)] at this
  show (x.n : Int) - ((bitsL x.n (heldN x)).length : Nat) ≤ (x.n : Int) - ((bitsL x.n (heldN (markS x))).length : Nat)
  omega
def markT (s : StoreT) : StoreT := { s with a := markS s.a }
theorem mark_good {s : StoreT} (h : GoodS s) : GoodS (markT s) := ⟨⟨h.W.1, becomeS_W h.W.2 2 3⟩, h.lines, h.r0, h.c0, h.c1⟩
theorem mark_tree {s : StoreT} {top : Int} (h : TreeOk s top) : TreeOk (markT s) top := ⟨h.sh, h.et, h.ek, h.ef⟩
theorem tree_find {s : StoreT} {top slot : Int} (h : TreeOk s top) (hp : placeOk slot) : findS s.ws top slot = tS s.ws top (placeK slot 0) (placeK slot 1) (placeK slot 2) := by
  rw [findS, if_pos (tree_walk hp h)]; rfl
theorem find_no {ws : List Nat} {top slot : Int} (hp : ¬ placeOk slot) : walkErr ws top slot = 2 ∧ findS ws top slot = seatZ := by
  have e : walkErr ws top slot = 2 := by rw [walkErr, if_neg hp]
  exact ⟨e, by rw [findS, if_neg (by rw [e]; decide)]⟩
theorem place_inj {a b : Int} (ha : placeOk a) (hb : placeOk b) (h : placeK a 0 = placeK b 0 ∧ placeK a 1 = placeK b 1 ∧ placeK a 2 = placeK b 2) : a = b := by
  have := ha.1
  have := hb.1
  have e0 : placeK a 0 = a.toNat / 7 / 16 := by simp [placeK, ha]
  have e1 : placeK a 1 = a.toNat / 7 % 16 := by simp [placeK, ha]
  have e2 : placeK a 2 = a.toNat % 7 := by simp [placeK, ha]
  have f0 : placeK b 0 = b.toNat / 7 / 16 := by simp [placeK, hb]
  have f1 : placeK b 1 = b.toNat / 7 % 16 := by simp [placeK, hb]
  have f2 : placeK b 2 = b.toNat % 7 := by simp [placeK, hb]
  omega
theorem lastS_add (l : List Act20) (a : Act20) (slot : Int) : lastS (l ++ [a]) slot = if a.slot = slot then a.x else lastS l slot := by
  rw [lastS, List.foldl_append]; rfl
theorem act_get {l : List Act20} (h : Acts20 l) (i : Nat) : Act20I (l.getD i act20Z) :=
  getD_mem (p := Act20I) h.1 ⟨I64_0, seatOk_I seatZ_ok⟩ i

/-- A tree's seats are a list's. -/
def SeatsOf (s : StoreT) (top : Int) (l : List Act20) : Prop := ∀ slot, placeOk slot → tS s.ws top (placeK slot 0) (placeK slot 1) (placeK slot 2) = lastS l slot
theorem seats_find {s : StoreT} {top slot : Int} {l : List Act20} (h : TreeOk s top) (hs : SeatsOf s top l) (hp : placeOk slot) : walkErr s.ws top slot = 0 ∧ findS s.ws top slot = lastS l slot :=
  ⟨tree_walk hp h, by rw [tree_find h hp, hs slot hp]⟩
theorem seats_put {s : StoreT} {top : Int} {l : List Act20} {a : Act20} {r : Wr} (hs : SeatsOf s top l) (hp : placeOk a.slot) (h : PutOk s top a.slot a.x r) : SeatsOf r.s r.at_ (l ++ [a]) := fun slot hp2 => by
  obtain ⟨p0, p1, p2⟩ := place_lt hp2
  rw [h.seats _ _ _ p0 p1 p2, lastS_add, hs slot hp2]
  by_cases e : a.slot = slot
  · rw [if_pos e, if_pos (by rw [e]; exact ⟨rfl, rfl, rfl⟩)]
  · rw [if_neg e, if_neg (fun q => e (place_inj hp hp2 ⟨q.1.symm, q.2.1.symm, q.2.2.symm⟩))]
theorem put_bad {s : StoreT} {top slot : Int} {x : SeatT} (h : ¬ (placeOk slot ∧ seatOk x)) : putR s top slot x = { s := s, at_ := 0, e := 2 } := by
  unfold putR
  by_cases hx : seatOk x
  · have hp : ¬ placeOk slot := fun k => h ⟨k, hx⟩
    have e : walkErr s.ws top slot = 2 := by rw [walkErr, if_neg hp]
    rw [if_pos hx, if_neg (by rw [e]; decide), e]
  · rw [if_neg hx]

structure Inv (n i : Nat) (s : StoreT) (top : Int) (l : List Act20) : Prop where
  good : GoodS s
  tree : TreeOk s top
  hn : s.a.n = n
  htop : I64 top
  free : (n : Int) - 2 ≤ freeN s.a + 3 * i
  seats : SeatsOf s top l
  acts : ∀ a ∈ l, Act20I a ∧ placeOk a.slot
  len : l.length ≤ i
theorem inv_made {n : Nat} (h2 : 2 ≤ n) (h : n ≤ 3072) : Inv n 0 (madeS n 0) 0 [] :=
  ⟨made_good h2 h, made_tree n 0, rfl, I64_0, by have := made_free n 0; omega, fun _ _ => rfl, fun a ha => (by cases ha), Nat.le_refl _⟩
theorem inv_mark {n i : Nat} {s : StoreT} {top : Int} {l : List Act20} (h : Inv n i s top l) : Inv n i (markT s) top l :=
  ⟨mark_good h.good, mark_tree h.tree, h.hn, h.htop, by have := mark_free s.a; have := h.free; show _ ≤ freeN (markS s.a) + _; omega, h.seats, h.acts, h.len⟩
theorem inv_next {n i : Nat} {s : StoreT} {top : Int} {l : List Act20} (h : Inv n i s top l) : Inv n (i + 1) s top l :=
  ⟨h.good, h.tree, h.hn, h.htop, by have := h.free; omega, h.seats, h.acts, by have := h.len; omega⟩
theorem inv_put {n i : Nat} {s : StoreT} {top : Int} {l : List Act20} (h : Inv n i s top l) (hi : 3 * (i : Int) + 4 < n) {a : Act20} (hp : placeOk a.slot) (hx : seatOk a.x) (ha : Act20I a) :
    (putR s top a.slot a.x).e = 0 ∧ Inv n (i + 1) (putR s top a.slot a.x).s (putR s top a.slot a.x).at_ (l ++ [a]) := by
  rcases tree_put h.good h.tree hp hx with S | N
  · refine ⟨S.e, S.good, S.tree, S.n.trans h.hn, putR_at h.good.W h.htop _ _, ?_, seats_put h.seats hp S, fun b hb => ?_, ?_⟩
    · have := S.free; have := h.free; omega
    · rcases List.mem_append.1 hb with k | k
      · exact h.acts b k
      · rw [List.mem_singleton] at k; rw [k]; exact ⟨ha, hp⟩
    · have := h.len; rw [List.length_append]; simp only [List.length_cons, List.length_nil]; omega
  · have := N.free; have := h.free; omega
theorem inv_acts {n i : Nat} {s : StoreT} {top : Int} {l : List Act20} (h : Inv n i s top l) (hi : i ≤ 1000) : Acts20 l := ⟨fun a ha => (h.acts a ha).1, by have := h.len; omega⟩

theorem inv_any {n i : Nat} {s : StoreT} {top : Int} {l : List Act20} (h : Inv n i s top l) (hi : 3 * (i : Int) + 4 < n) {a : Act20} (ha : Act20I a) :
    ((putR s top a.slot a.x).e = 0 ∧ PutOk s top a.slot a.x (putR s top a.slot a.x) ∧ Inv n (i + 1) (putR s top a.slot a.x).s (putR s top a.slot a.x).at_ (l ++ [a])) ∨ (putR s top a.slot a.x = { s := s, at_ := 0, e := 2 }) := by
  by_cases hv : placeOk a.slot ∧ seatOk a.x
  · left
    have g := inv_put h hi hv.1 hv.2 ha
    rcases tree_put h.good h.tree hv.1 hv.2 with S | N
    · exact ⟨g.1, S, g.2⟩
    · have := N.e; rw [g.1] at this; cases this
  · exact .inr (put_bad hv)
/-- What was marked is kept. -/
structure Kept (s0 s : StoreT) : Prop where
  kn : s.a.n = s0.a.n
  km : s.a.m = s0.a.m
  kl : linesN s.ws = linesN s0.ws
  ks : ∀ c, InS s0.a.n s0.a.m c → lineL s.ws c = lineL s0.ws c
theorem kept_refl (s : StoreT) : Kept s s := ⟨rfl, rfl, rfl, fun _ _ => rfl⟩
theorem kept_put {s0 s : StoreT} {top slot : Int} {x : SeatT} {r : Wr} (h : Kept s0 s) (S : PutOk s top slot x r) : Kept s0 r.s :=
  ⟨S.n.trans h.kn, S.m.trans h.km, S.lns.trans h.kl, fun c hc => by rw [S.marks c (by rw [h.kn, h.km]; exact hc), h.ks c hc]⟩
theorem kept_no {s0 s : StoreT} {r : Wr} (h : Kept s0 s) (S : PutNo s r) : Kept s0 r.s :=
  ⟨S.n.trans h.kn, S.m.trans h.km, S.lns.trans h.kl, fun c hc => by rw [S.marks c (by rw [h.kn, h.km]; exact hc), h.ks c hc]⟩
theorem tree_kept {s0 s' : StoreT} {top : Int} (h : TreeOk s0 top) (hs : ∀ c, InS s0.a.n s0.a.w c → lineL s'.ws c = lineL s0.ws c) (hl : linesN s'.ws = linesN s0.ws) (hn : s'.a.n = s0.a.n) (hw : s'.a.w = s0.a.w) :
    TreeOk s' top ∧ ∀ i j k, i < 16 → j < 16 → tS s'.ws top i j k = tS s0.ws top i j k := by
  have t : fanErr s'.ws top = fanErr s0.ws top ∧ ∀ i, fanF s'.ws top i = fanF s0.ws top i := by
    rcases h.sh.ht with z | z
    · rw [z]; exact fan_zero _ _
    · exact fan_same hl (hs _ z.2)
  have u : ∀ i, i < 16 → fanErr s'.ws (fanF s0.ws top i) = fanErr s0.ws (fanF s0.ws top i) ∧ ∀ j, fanF s'.ws (fanF s0.ws top i) j = fanF s0.ws (fanF s0.ws top i) j := fun i hi => by
    rcases h.sh.hk i hi with z | z
    · rw [z]; exact fan_zero _ _
    · exact fan_same hl (hs _ z.2)
  have v : ∀ i j, i < 16 → j < 16 → leafErr s'.ws (tF s0.ws top i j) = leafErr s0.ws (tF s0.ws top i j) ∧ ∀ k, leafF s'.ws (tF s0.ws top i j) k = leafF s0.ws (tF s0.ws top i j) k := fun i j hi hj => by
    rcases h.sh.hf i j hi hj with z | z
    · rw [z]; exact leaf_zero _ _
    · exact leaf_same hl (hs _ z.2)
  have eF : ∀ i j, i < 16 → tF s'.ws top i j = tF s0.ws top i j := fun i j hi => by
    unfold tF; rw [t.2 i, (u i hi).2 j]
  refine ⟨⟨?_, t.1.trans h.et, fun i hi => ?_, fun i j hi hj => ?_⟩, fun i j k hi hj => ?_⟩
  · have g := h.sh
    rw [hn, hw]
    refine ⟨g.ht, fun i hi => ?_, fun i j hi hj => ?_, fun i hi => ?_, fun i j hi hj => ?_, fun i j i' hi hj hi' => ?_, fun i i' hi hi' => ?_, fun i j i' j' hi hj hi' hj' => ?_, fun c hc => ?_⟩
    · rw [t.2]; exact g.hk i hi
    · rw [eF i j hi]; exact g.hf i j hi hj
    · rw [t.2]; exact g.d1 i hi
    · rw [eF i j hi]; exact g.d2 i j hi hj
    · rw [eF i j hi, t.2]; exact g.d3 i j i' hi hj hi'
    · rw [t.2, t.2]; exact g.d4 i i' hi hi'
    · rw [eF i j hi, eF i' j' hi']; exact g.d5 i j i' j' hi hj hi' hj'
    · rcases g.ex c hc with z | z | z | ⟨i, hi, z⟩ | ⟨i, j, hi, hj, z⟩
      · exact .inl z
      · exact .inr (.inl z)
      · exact .inr (.inr (.inl z))
      · exact .inr (.inr (.inr (.inl ⟨i, hi, by rw [t.2]; exact z⟩)))
      · exact .inr (.inr (.inr (.inr ⟨i, j, hi, hj, by rw [eF i j hi]; exact z⟩)))
  · rw [t.2, (u i hi).1]; exact h.ek i hi
  · rw [eF i j hi, (v i j hi hj).1]; exact h.ef i j hi hj
  · unfold tS; rw [eF i j hi]; exact (v i j hi hj).2 k
theorem seats_kept {s0 s : StoreT} {top : Int} {l : List Act20} (h : TreeOk s0 top) (hs : SeatsOf s0 top l) (hm : s0.a.m = s0.a.w) (hk : Kept s0 s) {slot : Int} (hp : placeOk slot) : walkErr s.ws top slot = 0 ∧ findS s.ws top slot = lastS l slot := by
  obtain ⟨g1, g2⟩ := tree_kept (s' := { ws := s.ws, a := s0.a }) h (fun c hc => hk.ks c (by rw [hm]; exact hc)) hk.kl rfl rfl
  obtain ⟨p0, p1, p2⟩ := place_lt hp
  exact seats_find (s := { ws := s.ws, a := s0.a }) g1 (fun slot hp => by
    obtain ⟨p0, p1, p2⟩ := place_lt hp
    rw [g2 _ _ _ p0 p1]; exact hs slot hp) hp

structure Inv0 (n i : Nat) (s : StoreT) (top : Int) (l : List Act20) : Prop where
  good : GoodS s
  tree : TreeOk s top
  hn : s.a.n = n
  htop : I64 top
  seats : SeatsOf s top l
  acts : ∀ a ∈ l, Act20I a ∧ placeOk a.slot
  len : l.length ≤ i
theorem inv0_made {n : Nat} (h2 : 2 ≤ n) (h : n ≤ 3072) : Inv0 n 0 (madeS n 0) 0 [] :=
  ⟨made_good h2 h, made_tree n 0, rfl, I64_0, fun _ _ => rfl, fun a ha => (by cases ha), Nat.le_refl _⟩
theorem inv0_next {n i : Nat} {s : StoreT} {top : Int} {l : List Act20} (h : Inv0 n i s top l) : Inv0 n (i + 1) s top l :=
  ⟨h.good, h.tree, h.hn, h.htop, h.seats, h.acts, by have := h.len; omega⟩
theorem inv0_put {n i : Nat} {s : StoreT} {top : Int} {l : List Act20} (h : Inv0 n i s top l) {a : Act20} (ha : Act20I a) (hp : placeOk a.slot) {r : Wr} (hr : I64 r.at_) (S : PutOk s top a.slot a.x r) : Inv0 n (i + 1) r.s r.at_ (l ++ [a]) := by
  refine ⟨S.good, S.tree, S.n.trans h.hn, hr, seats_put h.seats hp S, fun b hb => ?_, ?_⟩
  · rcases List.mem_append.1 hb with k | k
    · exact h.acts b k
    · rw [List.mem_singleton] at k; rw [k]; exact ⟨ha, hp⟩
  · have := h.len; rw [List.length_append]; simp only [List.length_cons, List.length_nil]; omega
theorem inv0_mark {n i : Nat} {s : StoreT} {top : Int} {l : List Act20} (h : Inv0 n i s top l) : Inv0 n i (markT s) top l :=
  ⟨mark_good h.good, mark_tree h.tree, h.hn, h.htop, h.seats, h.acts, h.len⟩
def backT (s : StoreT) : StoreT := { s with a := backS s.a }
theorem inv0_back {n i : Nat} {s : StoreT} {top : Int} {l : List Act20} {r : Wr} (h : Inv0 n i (markT s) top l) (N : PutNo (markT s) r) : Inv0 n (i + 1) (backT r.s) top l := by
  obtain ⟨g1, g2⟩ := tree_kept (s' := backT r.s) h.tree (fun c hc => N.marks c hc) N.lns N.n N.m
  refine ⟨⟨⟨N.good.W.1, becomeS_W N.good.W.2 3 2⟩, N.good.lines, N.good.r0, N.good.c0, N.good.c1⟩, g1, N.n.trans h.hn, h.htop, fun slot hp => ?_, h.acts, by have := h.len; omega⟩
  obtain ⟨p0, p1, p2⟩ := place_lt hp
  rw [g2 _ _ _ p0 p1]; exact h.seats slot hp

/-- A law told by other arguments that are the same values. -/
theorem law_map {P : Program} {f : Nat} {X X' : Type} {pre : X → Prop} {args : X → List AV} {pre' : X' → Prop} {args' : X' → List AV} (h : SpecOk P f (specOf (pureC X pre args fun _ => .bool true))) (g : X' → X) (he : ∀ x, args (g x) = args' x) (hp : ∀ x, pre' x → pre (g x)) :
    SpecOk P f (specOf (pureC X' pre' args' fun _ => .bool true)) :=
  ⟨h.fn, fun W D R ids own H w avs vals K hgl hT hR hS => h.ok W D R ids own H w avs vals K hgl hT hR (by
    obtain ⟨x, h1, h2, h3⟩ := hS
    have e : args' x = args (g x) := (he x).symm
    exact ⟨g x, by simpa only [pureC, e] using h1, hp x h2, h3⟩)⟩
abbrev A20 : Type := Int × (Bool × Int × Int) × Bool
def a20Z : A20 := (0, (false, 0, 0), false)
def a20 (p : A20) : Act20 := ⟨p.1, ⟨p.2.1.1, p.2.1.2.1, p.2.1.2.2⟩, p.2.2⟩
abbrev a20A (l : List A20) : AV := .ro 5 l.length (fun i => [i64 (l.getD i a20Z).1, .bool (l.getD i a20Z).2.1.1, i64 (l.getD i a20Z).2.1.2.1, i64 (l.getD i a20Z).2.1.2.2, .bool (l.getD i a20Z).2.2])
def A20I (l : List A20) : Prop := (∀ a ∈ l, I64 a.1 ∧ I64 a.2.1.2.1 ∧ I64 a.2.1.2.2) ∧ l.length ≤ 9223372036854775807
theorem a20_get (l : List A20) (i : Nat) : (l.map a20).getD i act20Z = a20 (l.getD i a20Z) := by
  rw [List.getD_eq_getElem?_getD, List.getD_eq_getElem?_getD, List.getElem?_map]
  cases l[i]? <;> rfl
theorem a20_args (l : List A20) : acts20A (l.map a20) = a20A l := by
  unfold acts20A a20A
  rw [List.length_map]
  congr 1
  funext i
  rw [a20_get]; rfl
theorem a20_acts {l : List A20} (h : A20I l) : Acts20 (l.map a20) := by
  refine ⟨fun a ha => ?_, by rw [List.length_map]; exact h.2⟩
  obtain ⟨b, hb, rfl⟩ := List.mem_map.1 ha
  have := h.1 b hb
  exact ⟨this.1, this.2.1, this.2.2⟩

end Yard
