import Derived.Test.YtceockijgbkneaaDoorBlock

namespace Yard
open Go Go.Sx Go.Proofs
set_option linter.unusedVariables false
set_option linter.unusedSimpArgs false
set_option maxRecDepth 4000

structure SeatT where
  live : Bool
  gen : Int
  next : Int
deriving DecidableEq
abbrev seatV (x : SeatT) : List AV := [.bool x.live, i64 x.gen, i64 x.next]
abbrev seatA (x : SeatT) : AV := .agg (seatV x)
def seatZ : SeatT := ⟨false, 0, 0⟩
def SeatI (x : SeatT) : Prop := I64 x.gen ∧ I64 x.next
abbrev fanV (f : Nat → Int) : List AV := [.arr 1 16 (fun i => [i64 (f i)])]
abbrev fanA (f : Nat → Int) : AV := .agg (fanV f)
abbrev leafV (l : Nat → SeatT) : List AV := [.arr 3 7 (fun i => seatV (l i))]
abbrev leafA (l : Nat → SeatT) : AV := .agg (leafV l)
def seatOk (x : SeatT) : Prop := if x.live = true then 1 ≤ x.gen ∧ x.gen ≤ 4294967295 ∧ 2 ≤ x.next ∧ x.next ≤ 3071 else 0 ≤ x.gen ∧ x.gen ≤ 4294967295 ∧ 0 ≤ x.next ∧ x.next ≤ 1792 ∧ (0 < x.gen ∨ x.next = 0)
instance (x : SeatT) : Decidable (seatOk x) := by unfold seatOk; infer_instance
def kidOk (k : Int) : Prop := k = 0 ∨ 2 ≤ k ∧ k ≤ 3071
instance (k : Int) : Decidable (kidOk k) := by unfold kidOk; infer_instance
def fanOk (f : Nat → Int) : Prop := ∀ i, i < 16 → kidOk (f i)
instance (f : Nat → Int) : Decidable (fanOk f) := by unfold fanOk; infer_instance
def leafOk (l : Nat → SeatT) : Prop := ∀ i, i < 7 → seatOk (l i)
instance (l : Nat → SeatT) : Decidable (leafOk l) := by unfold leafOk; infer_instance
theorem seatOk_I {x : SeatT} (h : seatOk x) : SeatI x := by
  unfold seatOk at h
  split at h <;> exact ⟨⟨by omega, by omega⟩, ⟨by omega, by omega⟩⟩
theorem kidOk_I {k : Int} (h : kidOk k) : I64 k := by unfold kidOk at h; exact ⟨by omega, by omega⟩

def withinC : Ctr := pureC (Int × Int × Int) (fun x => I64 x.1 ∧ I64 x.2.1 ∧ I64 x.2.2) (fun x => [i64 x.1, i64 x.2.1, i64 x.2.2]) (fun x => .bool (decide (x.2.1 ≤ x.1 ∧ x.1 ≤ x.2.2)))
def rightSeatC : Ctr := pureC SeatT SeatI (fun x => [seatA x]) (fun x => .bool (decide (seatOk x)))
def rightFanC : Ctr := pureC (Nat → Int) (fun f => ∀ i, i < 16 → I64 (f i)) (fun f => [fanA f]) (fun f => .bool (decide (fanOk f)))
def liveN (l : Nat → SeatT) : Nat → Nat
  | 0 => 0
  | k + 1 => liveN l k + if (l k).live then 2 ^ k else 0
def seatsL (l : Nat → SeatT) (k : Nat) : List Nat := (List.range k).flatMap fun i => layN (l i).gen.toNat 4 ++ layN (l i).next.toNat 4
def putLeafL (l : Nat → SeatT) : List Nat := if leafOk l then sealN 2 (liveN l 7) (seatsL l 7) else []
def putLeafC : Ctr := rowC (Nat → SeatT) (fun l => ∀ i, i < 7 → SeatI (l i)) (fun l => [leafA l]) 5 .u8 putLeafL (fun l r => .tup [r, .bool (decide (leafOk l))])
def kidsL (f : Nat → Int) (k : Nat) : List Nat := (List.range k).flatMap fun i => layN (f i).toNat 2
def putFanL (f : Nat → Int) : List Nat := if fanOk f then sealN 3 0 (kidsL f 16) else []
def putFanC : Ctr := rowC (Nat → Int) (fun f => ∀ i, i < 16 → I64 (f i)) (fun f => [fanA f]) 5 .u8 putFanL (fun f r => .tup [r, .bool (decide (fanOk f))])
def seatAt (b : List Nat) (i : Nat) : SeatT := ⟨b.getD 5 0 / 2 ^ i % 2 == 1, (numN ((b.drop (8 + 8 * i)).take 4) : Nat), (numN ((b.drop (12 + 8 * i)).take 4) : Nat)⟩
def kidAt (b : List Nat) (i : Nat) : Int := (numN ((b.drop (8 + 2 * i)).take 2) : Nat)
def isLeaf (b : List Nat) : Prop := rightP b ∧ b.getD 4 0 = 2 ∧ b.getD 5 0 < 128 ∧ leafOk (seatAt b)
instance (b : List Nat) : Decidable (isLeaf b) := by unfold isLeaf; infer_instance
def isFan (b : List Nat) : Prop := rightP b ∧ b.getD 4 0 = 3 ∧ b.getD 5 0 = 0 ∧ noughts (b.drop 8) 32 24 = true ∧ fanOk (kidAt b)
instance (b : List Nat) : Decidable (isFan b) := by unfold isFan; infer_instance
def getLeafF (b : List Nat) (i : Nat) : SeatT := if isLeaf b then seatAt b i else seatZ
def getFanF (b : List Nat) (i : Nat) : Int := if isFan b then kidAt b i else 0
def getLeafC : Ctr := pureC (List Nat) Oct (fun b => [octA b]) (fun b => .tup [leafA (getLeafF b), .bool (decide (isLeaf b))])
def getFanC : Ctr := pureC (List Nat) Oct (fun b => [octA b]) (fun b => .tup [fanA (getFanF b), .bool (decide (isFan b))])

theorem withinV : (∀ (x : Int × Int × Int), I64 x.1 ∧ I64 x.2.1 ∧ I64 x.2.2 → BC (decide (x.2.1 ≤ x.1)) (Exx Unit fun y => ((decide (x.1 ≤ x.2.2) = decide
 (x.2.1 ≤ x.1 ∧ x.1 ≤ x.2.2) ∧ True) ∧ true = true ∧ True) ∧ True) (Exx Unit fun y => ((false = decide (x.2.1 ≤ x.1 ∧ x.1 ≤ x.2.2) ∧ True) ∧ true = true ∧ True)
 ∧ True)) = (fnVC tb [] Tryd.f58 withinC (fun _ => {}) (fun _ => none)) := by kernel_rfl 

theorem within_ok : SpecOk Tryd.prog 58 (specOf withinC) := by
  refine specOk mixed tb_ok SPok.nil Tryd.func58 (by decide) (pureC_ok fun _ => rfl) (an := (fun _ => {})) (σ := (fun _ => none)) ?_
  rw [← withinV]
  simp (maxSteps := 10000000) only [and_false, false_and, false_or, or_false, bOf_true, bOf_false, true_bOf, false_bOf, Exx, int_ite, merge_o, Tr_eq, true_and, and_true, exists_const, forall_const, implies_true, forall_eq, exists_eq, exists_eq', exists_eq_left, exists_eq_left', exists_eq_right, Prod.exists, Prod.forall, and_assoc, exists_and_left, BC_iff, Bool.not_eq_true', Bool.not_eq_false', decide_eq_true_eq, decide_eq_false_iff_not, I64, nat_cast_inj, Int.toNat_natCast, nats_iff, nats_iff', ints_iff, ints_iff', natss_iff, natss_iff', nilnil, litL_eq, str_inj, str_append, str_length, str_getD, str_take, lit1_iff, one_iff, two_iff, one_get, Nat.zero_add, Nat.sub_zero, Nat.reduceMul, Nat.reduceDiv, Nat.reduceAdd, Int.reduceToNat, Nat.not_lt_zero, if_false, if_true, Nat.le_refl, List.length_singleton, List.length_cons, List.length_nil, Bool.false_eq_true, not_true_eq_false, false_implies, not_false_eq_true, Prod.mk.injEq]
  rintro n a b ⟨h1, h2, h3⟩
  exact ⟨fun h => decide_eq_decide.2 (by omega), fun h => (decide_eq_false (by omega)).symm⟩

theorem rightSeatV : (∀ (x : SeatT), SeatI x → BC x.live (Exx (Int × Int × Int) fun x_1 => ((Tr 1 (x.gen = x_1.1) ∧ Tr 1 ((1 : Int) = x_1.2.1) ∧ Tr 1
 ((4294967295 : Int) = x_1.2.2) ∧ True) ∧ true = true ∧ True) ∧ (I64 x_1.1 ∧ I64 x_1.2.1 ∧ I64 x_1.2.2) ∧ ∀ (y : Unit), True → BC (decide (x_1.2.1 ≤ x_1.1 ∧
 x_1.1 ≤ x_1.2.2)) (Exx (Int × Int × Int) fun x_2 => ((Tr 1 (x.next = x_2.1) ∧ Tr 1 ((2 : Int) = x_2.2.1) ∧ Tr 1 ((3071 : Int) = x_2.2.2) ∧ True) ∧ true = true ∧
 True) ∧ (I64 x_2.1 ∧ I64 x_2.2.1 ∧ I64 x_2.2.2) ∧ ∀ (y : Unit), True → Exx Unit fun y => ((decide (x_2.2.1 ≤ x_2.1 ∧ x_2.1 ≤ x_2.2.2) = decide (seatOk x) ∧
 True) ∧ true = true ∧ True) ∧ True) (Exx Unit fun y => ((false = decide (seatOk x) ∧ True) ∧ true = true ∧ True) ∧ True)) (Exx (Int × Int × Int) fun x_1 => ((Tr
 1 (x.gen = x_1.1) ∧ Tr 1 ((0 : Int) = x_1.2.1) ∧ Tr 1 ((4294967295 : Int) = x_1.2.2) ∧ True) ∧ true = true ∧ True) ∧ (I64 x_1.1 ∧ I64 x_1.2.1 ∧ I64 x_1.2.2) ∧ ∀
 (y : Unit), True → BC (decide (x_1.2.1 ≤ x_1.1 ∧ x_1.1 ≤ x_1.2.2)) (Exx (Int × Int × Int) fun x_2 => ((Tr 1 (x.next = x_2.1) ∧ Tr 1 ((0 : Int) = x_2.2.1) ∧ Tr 1
 ((1792 : Int) = x_2.2.2) ∧ True) ∧ true = true ∧ True) ∧ (I64 x_2.1 ∧ I64 x_2.2.1 ∧ I64 x_2.2.2) ∧ ∀ (y : Unit), True → BC (decide (x_2.2.1 ≤ x_2.1 ∧ x_2.1 ≤
 x_2.2.2)) (BC (decide ((0 : Int) < x.gen)) (Exx Unit fun y => ((true = decide (seatOk x) ∧ True) ∧ true = true ∧ True) ∧ True) (Exx Unit fun y => ((decide
 (x.next = (0 : Int)) = decide (seatOk x) ∧ True) ∧ true = true ∧ True) ∧ True)) (Exx Unit fun y => ((false = decide (seatOk x) ∧ True) ∧ true = true ∧ True) ∧
 True)) (Exx Unit fun y => ((false = decide (seatOk x) ∧ True) ∧ true = true ∧ True) ∧ True))) = (fnVC tb [(58, specOf withinC)] Tryd.f49 rightSeatC (fun _ => {}) (fun _ => none)) := by kernel_rfl 

theorem rightSeat_ok : SpecOk Tryd.prog 49 (specOf rightSeatC) := by
  refine specOk mixed tb_ok (SPok.cons within_ok SPok.nil) Tryd.func49 (by decide) (pureC_ok fun _ => rfl) (an := (fun _ => {})) (σ := (fun _ => none)) ?_
  rw [← rightSeatV]
  simp (maxSteps := 10000000) only [and_false, false_and, false_or, or_false, bOf_true, bOf_false, true_bOf, false_bOf, Exx, int_ite, merge_o, Tr_eq, true_and, and_true, exists_const, forall_const, implies_true, forall_eq, exists_eq, exists_eq', exists_eq_left, exists_eq_left', exists_eq_right, Prod.exists, Prod.forall, and_assoc, exists_and_left, BC_iff, Bool.not_eq_true', Bool.not_eq_false', decide_eq_true_eq, decide_eq_false_iff_not, I64, nat_cast_inj, Int.toNat_natCast, nats_iff, nats_iff', ints_iff, ints_iff', natss_iff, natss_iff', nilnil, litL_eq, str_inj, str_append, str_length, str_getD, str_take, lit1_iff, one_iff, two_iff, one_get, Nat.zero_add, Nat.sub_zero, Nat.reduceMul, Nat.reduceDiv, Nat.reduceAdd, Int.reduceToNat, Nat.not_lt_zero, if_false, if_true, Nat.le_refl, List.length_singleton, List.length_cons, List.length_nil, Bool.false_eq_true, not_true_eq_false, false_implies, not_false_eq_true, Prod.mk.injEq]
  rintro ⟨l, g, n⟩ ⟨⟨h1, h2⟩, h3, h4⟩
  dsimp only at *
  cases l
  · have e : seatOk ⟨false, g, n⟩ ↔ (0 ≤ g ∧ g ≤ 4294967295 ∧ 0 ≤ n ∧ n ≤ 1792 ∧ (0 < g ∨ n = 0)) := by simp [seatOk]
    exact ⟨fun h => (by cases h), fun _ => ⟨h1, h2, by omega, by omega, by omega, by omega, fun hg => ⟨h3, h4, by omega, by omega, by omega, by omega, fun hn => ⟨fun hp => (decide_eq_true (e.2 (by omega))).symm, fun hp => decide_eq_decide.2 (by rw [e]; omega)⟩, fun hn => (decide_eq_false (fun k => by have := e.1 k; omega)).symm⟩, fun hg => (decide_eq_false (fun k => by have := e.1 k; omega)).symm⟩⟩
  · have e : seatOk ⟨true, g, n⟩ ↔ (1 ≤ g ∧ g ≤ 4294967295 ∧ 2 ≤ n ∧ n ≤ 3071) := by simp [seatOk]
    exact ⟨fun _ => ⟨h1, h2, by omega, by omega, by omega, by omega, fun hg => ⟨h3, h4, by omega, by omega, by omega, by omega, decide_eq_decide.2 (by rw [e]; omega)⟩, fun hg => (decide_eq_false (fun k => by have := e.1 k; omega)).symm⟩, fun h => (by cases h)⟩

def rightFanLA (f : Nat → Int) : LA := { T := Nat, F := fun i => frm 18 [(6, fanA f), (7, i64 (i : Nat))], H := fun i => [.fence, .cells 112 (fanV f)] }

theorem rightFanV : (∀ (x : Nat → Int), (∀ (i : Nat), i < 16 → I64 (x i)) → Exx (Nat → Prop) fun I => Exx (Nat → Nat) fun m => (Exx Nat fun t => I t ∧ Tr 6 (((1
 : Nat) = 1 ∧ (16 : Nat) = 16 ∧ (∀ (i : Nat), i < 16 → [AV.int .i64 (x i)] = [AV.int .i64 (x i)]) ∧ True) ∧ Tr 1 ((0 : Int) = (↑t : Int)) ∧ Tr 10 True) ∧ true =
 true ∧ ((112 : Nat) = (112 : TypeId) ∧ (1 : Nat) = 1 ∧ (16 : Nat) = 16 ∧ (∀ (i : Nat), i < 16 → [AV.int .i64 (x i)] = [AV.int .i64 (x i)]) ∧ True) ∧ True) ∧ ∀
 (t : Nat), I t → BC (decide ((↑t : Int) < (16 : Int))) (((0 : Int) ≤ (↑t : Int) ∧ (↑t : Int) < (↑16 : Int) ∧ (↑t : Int) < (↑16 : Int)) ∧ BC (!decide (x (↑t :
 Int).toNat = (0 : Int))) (Exx (Int × Int × Int) fun x_1 => ((Tr 1 (x (↑t : Int).toNat = x_1.1) ∧ Tr 1 ((2 : Int) = x_1.2.1) ∧ Tr 1 ((3071 : Int) = x_1.2.2) ∧
 True) ∧ true = true ∧ True) ∧ (I64 x_1.1 ∧ I64 x_1.2.1 ∧ I64 x_1.2.2) ∧ ∀ (y : Unit), True → BC (!decide (x_1.2.1 ≤ x_1.1 ∧ x_1.1 ≤ x_1.2.2)) (Exx Unit fun y =>
 ((false = decide (fanOk x) ∧ True) ∧ true = true ∧ True) ∧ True) (I64 ((↑t : Int) + 1) ∧ Exx Nat fun t' => (I t' ∧ m t' < m t) ∧ Tr 6 (((1 : Nat) = 1 ∧ (16 :
 Nat) = 16 ∧ (∀ (i : Nat), i < 16 → [AV.int .i64 (x i)] = [AV.int .i64 (x i)]) ∧ True) ∧ Tr 1 ((↑t : Int) + 1 = (↑t' : Int)) ∧ Tr 10 True) ∧ true = true ∧ ((112
 : TypeId) = 112 ∧ (1 : Nat) = 1 ∧ (16 : Nat) = 16 ∧ (∀ (i : Nat), i < 16 → [AV.int .i64 (x i)] = [AV.int .i64 (x i)]) ∧ True) ∧ True)) (I64 ((↑t : Int) + 1) ∧
 Exx Nat fun t' => (I t' ∧ m t' < m t) ∧ Tr 6 (((1 : Nat) = 1 ∧ (16 : Nat) = 16 ∧ (∀ (i : Nat), i < 16 → [AV.int .i64 (x i)] = [AV.int .i64 (x i)]) ∧ True) ∧ Tr
 1 ((↑t : Int) + 1 = (↑t' : Int)) ∧ Tr 10 True) ∧ true = true ∧ ((112 : TypeId) = 112 ∧ (1 : Nat) = 1 ∧ (16 : Nat) = 16 ∧ (∀ (i : Nat), i < 16 → [AV.int .i64 (x
 i)] = [AV.int .i64 (x i)]) ∧ True) ∧ True)) (Exx Unit fun y => ((true = decide (fanOk x) ∧ True) ∧ true = true ∧ True) ∧ True)) = (fnVC tb [(58, specOf withinC)] Tryd.f63 rightFanC (fun x => { loops := [(2, rightFanLA x)] }) (fun _ => none)) := by kernel_rfl 

theorem rightFan_ok : SpecOk Tryd.prog 63 (specOf rightFanC) := by
  refine specOk mixed tb_ok (SPok.cons within_ok SPok.nil) Tryd.func63 (by decide) (pureC_ok fun _ => rfl) (an := (fun x => { loops := [(2, rightFanLA x)] })) (σ := (fun _ => none)) ?_
  rw [← rightFanV]
  simp (maxSteps := 10000000) only [and_false, false_and, false_or, or_false, bOf_true, bOf_false, true_bOf, false_bOf, Exx, int_ite, merge_o, Tr_eq, true_and, and_true, exists_const, forall_const, implies_true, forall_eq, exists_eq, exists_eq', exists_eq_left, exists_eq_left', exists_eq_right, Prod.exists, Prod.forall, and_assoc, exists_and_left, BC_iff, Bool.not_eq_true', Bool.not_eq_false', decide_eq_true_eq, decide_eq_false_iff_not, I64, nat_cast_inj, Int.toNat_natCast, nats_iff, nats_iff', ints_iff, ints_iff', natss_iff, natss_iff', nilnil, litL_eq, str_inj, str_append, str_length, str_getD, str_take, lit1_iff, one_iff, two_iff, one_get, Nat.zero_add, Nat.sub_zero, Nat.reduceMul, Nat.reduceDiv, Nat.reduceAdd, Int.reduceToNat, Nat.not_lt_zero, if_false, if_true, Nat.le_refl, List.length_singleton, List.length_cons, List.length_nil, Bool.false_eq_true, not_true_eq_false, false_implies, not_false_eq_true, Prod.mk.injEq]
  rintro f hf
  refine ⟨fun i => i ≤ 16 ∧ ∀ j, j < i → kidOk (f j), ⟨0, ⟨by omega, fun j hj => absurd hj (Nat.not_lt_zero _)⟩, rfl⟩, fun i => 16 - i, fun i hi => ⟨fun hlt => ?_, fun hge => (decide_eq_true fun j hj => hi.2 j (by omega)).symm⟩⟩
  have hnx : kidOk (f i) → ∃ x, (x ≤ 16 ∧ ∀ j, j < x → kidOk (f j)) ∧ 16 - x < 16 - i ∧ (i : Int) + 1 = (x : Int) := fun hk => ⟨i + 1, ⟨by omega, fun j hj => by
    by_cases e : j = i
    · rw [e]; exact hk
    · exact hi.2 j (by omega)⟩, by omega, by omega⟩
  exact ⟨by omega, by omega, by omega, fun h0 => ⟨(hf i (by omega)).1, (hf i (by omega)).2, by omega, by omega, by omega, by omega, fun hn => (decide_eq_false fun k => by
    have := k i (by omega); unfold kidOk at this; omega).symm, fun hy => ⟨by omega, by omega, hnx (.inr hy)⟩⟩, fun h0 => ⟨by omega, by omega, hnx (.inl h0)⟩⟩

theorem or_i64 {a b : Nat} (ha : a < 2 ^ 62) (hb : b < 2 ^ 62) : bits .or .i64 (a : Int) (b : Int) = ((a ||| b : Nat) : Int) := by
  unfold bits
  have e1 : (BitVec.ofInt IntKind.i64.bits (a : Int)).toNat = a := ofInt_nat (show a < 2 ^ 64 by omega)
  have e2 : (BitVec.ofInt IntKind.i64.bits (b : Int)).toNat = b := ofInt_nat (show b < 2 ^ 64 by omega)
  simp only [BitVec.toNat_or, e1, e2]
  have := Nat.or_lt_two_pow ha hb
  exact wrap_I64 ⟨by omega, by omega⟩
theorem and_i64 {a b : Nat} (ha : a < 2 ^ 62) (hb : b < 2 ^ 62) : bits .and .i64 (a : Int) (b : Int) = ((a &&& b : Nat) : Int) := by
  unfold bits
  have e1 : (BitVec.ofInt IntKind.i64.bits (a : Int)).toNat = a := ofInt_nat (show a < 2 ^ 64 by omega)
  have e2 : (BitVec.ofInt IntKind.i64.bits (b : Int)).toNat = b := ofInt_nat (show b < 2 ^ 64 by omega)
  simp only [BitVec.toNat_and, e1, e2]
  have := Nat.and_lt_two_pow a hb
  exact wrap_I64 ⟨by omega, by omega⟩
theorem liveN_lt (l : Nat → SeatT) : ∀ k, liveN l k < 2 ^ k
  | 0 => Nat.one_pos
  | k + 1 => by
    have := liveN_lt l k
    rw [liveN, Nat.pow_succ]
    split <;> omega
theorem live_or {l : Nat → SeatT} {a : Nat} (ha : a < 7) (h : (l a).live = true) : bits BinOp.or IntKind.i64 (liveN l a : Nat) (IntKind.i64.wrap (1 * 2 ^ min a IntKind.i64.bits)) = ((liveN l (a + 1) : Nat) : Int) := by
  have h1 := liveN_lt l a
  have hp : (2 : Nat) ^ a ≤ 64 := Nat.pow_le_pow_right (n := 2) (by decide) (show a ≤ 6 by omega)
  have hw : IntKind.i64.wrap (1 * 2 ^ min a IntKind.i64.bits) = ((2 ^ a : Nat) : Int) := by
    rw [Nat.min_eq_left (show a ≤ IntKind.i64.bits from (show a ≤ 64 by omega)), Int.one_mul, show ((2 : Int) ^ a) = ((2 ^ a : Nat) : Int) by norm_cast]
    exact wrap_I64 ⟨by omega, by omega⟩
  rw [hw, or_i64 (by omega) (by omega)]
  have := or_add_nat (a := liveN l a) (b := 1) (i := a) h1
  rw [Nat.one_mul] at this
  rw [this, liveN, if_pos h]
theorem seatsL_succ (l : Nat → SeatT) (k : Nat) : seatsL l (k + 1) = seatsL l k ++ (layN (l k).gen.toNat 4 ++ layN (l k).next.toNat 4) := by
  simp only [seatsL]
  rw [List.range_succ, List.flatMap_append]; simp
theorem seatsL_length (l : Nat → SeatT) : ∀ k, (seatsL l k).length = 8 * k
  | 0 => rfl
  | k + 1 => by rw [seatsL_succ, List.length_append, seatsL_length l k, List.length_append, layN_length, layN_length]; omega
theorem seatsL_lt (l : Nat → SeatT) : ∀ k, ∀ c ∈ seatsL l k, c < 256
  | 0 => fun c hc => (by simp [seatsL] at hc)
  | k + 1 => fun c hc => by
    rw [seatsL_succ] at hc
    rcases List.mem_append.1 hc with h | h
    · exact seatsL_lt l k c h
    · rcases List.mem_append.1 h with h | h
      · exact layN_lt _ _ c h
      · exact layN_lt _ _ c h
theorem kidsL_succ (l : Nat → Int) (k : Nat) : kidsL l (k + 1) = kidsL l k ++ layN (l k).toNat 2 := by
  simp only [kidsL]
  rw [List.range_succ, List.flatMap_append]; simp
theorem kidsL_length (l : Nat → Int) : ∀ k, (kidsL l k).length = 2 * k
  | 0 => rfl
  | k + 1 => by rw [kidsL_succ, List.length_append, kidsL_length l k, layN_length]; omega
theorem kidsL_lt (l : Nat → Int) : ∀ k, ∀ c ∈ kidsL l k, c < 256
  | 0 => fun c hc => (by simp [kidsL] at hc)
  | k + 1 => fun c hc => by
    rw [kidsL_succ] at hc
    rcases List.mem_append.1 hc with h | h
    · exact kidsL_lt l k c h
    · exact layN_lt _ _ c h
theorem snoc1 {α : Type} {q m : List Nat} {n i : Nat} {c : Nat → α} (hn : q.length = n) : (if i < n then c (q.getD i 0) else c (m.getD (i - n) 0)) = c ((q ++ m).getD i 0) := by
  rw [getD_append, hn]; split <;> rfl
theorem snoc2 {α : Type} {q m1 m2 : List Nat} {n i : Nat} {c : Nat → α} (hn : q.length = n) : (if i < n + m1.length then (if i < n then c (q.getD i 0) else c (m1.getD (i - n) 0)) else c (m2.getD (i - (n + m1.length)) 0)) = c ((q ++ (m1 ++ m2)).getD i 0) := by
  rw [← List.append_assoc, getD_append, getD_append, List.length_append, hn]
  split
  · split <;> rfl
  · rfl
theorem seat_nat {x : SeatT} (h : seatOk x) : 0 ≤ x.gen ∧ x.gen ≤ 4294967295 ∧ 0 ≤ x.next ∧ x.next ≤ 3071 := by
  unfold seatOk at h
  split at h <;> omega
theorem layL_4 (v : Nat) : layL v 4 = layN v 4 := layL_in (by omega)
theorem layL_2 (v : Nat) : layL v 2 = layN v 2 := layL_in (by omega)
theorem u64_toNat {z : Int} (h : 0 ≤ z) (h2 : z ≤ 4294967295) : IntKind.u64.wrap z = ((z.toNat : Nat) : Int) := by
  conv => lhs; rw [show z = ((z.toNat : Nat) : Int) by omega]
  exact wrap64 (by unfold U64; omega)

def putLeafLA (l : Nat → SeatT) : LA := { T := Unit, F := fun _ => frm 41 [(1, .ptr 1 [] 0), (4, .nils), (5, i64 0), (9, leafA l), (10, i64 0)], H := fun i => [.fence, .cells 115 (leafV l)] }
def rowRenQ (t n : Nat) (F : Fr) (_ : AH) : Option Ren := match F.getD t .any with
  | .sl q _ _ _ _ _ _ => some (idRen n n ++ [some q])
  | _ => none
def putLeafLB (l : Nat → SeatT) : LA := { T := Nat × Nat, F := fun s => frm 41 [(1, .ptr 1 [] 0), (4, .sl 2 [] 0 1 0 (8 * s.1) s.2), (5, i64 (liveN l s.1 : Nat)), (9, leafA l), (10, i64 (s.1 : Nat))], H := fun s => [.fence, .cells 115 (leafV l), .row 5 1 s.2 (8 * s.1) (fun i => [.int .u8 (((seatsL l s.1).getD i 0 : Nat) : Int)])], ρ₂ := rowRenQ 4 2 }

def tupSl1 (av : AV) : Option Ren := match av with
  | .tup (.sl q _ _ _ _ _ _ :: _) => some [some 0, some q]
  | _ => some [some 0, none]

theorem putLeafV : (∀ (x : Nat → SeatT), (∀ (i : Nat), i < 7 → SeatI (x i)) → Exx (Unit → Prop) fun I => Exx (Nat × Nat → Prop) fun J => Exx (Unit → Nat) fun m
 => Exx (Nat × Nat → Nat) fun n => ((Exx Unit fun t => I t ∧ Tr 1 ((true = true ∧ NilNil ∧ (0 : Nat) = 0) ∧ Tr 3 (Tr 1 ((0 : Int) = 0) ∧ Tr 3 (((3 : Nat) = 3 ∧
 (7 : Nat) = 7 ∧ (∀ (i : Nat), i < 7 → [AV.bool (x i).live, AV.int .i64 (x i).gen, AV.int .i64 (x i).next] = [AV.bool (x i).live, AV.int .i64 (x i).gen, AV.int
 .i64 (x i).next]) ∧ True) ∧ Tr 1 ((0 : Int) = 0) ∧ Tr 30 True))) ∧ true = true ∧ ((115 : Nat) = (115 : TypeId) ∧ (3 : Nat) = 3 ∧ (7 : Nat) = 7 ∧ (∀ (i : Nat), i
 < 7 → [AV.bool (x i).live, AV.int .i64 (x i).gen, AV.int .i64 (x i).next] = [AV.bool (x i).live, AV.int .i64 (x i).gen, AV.int .i64 (x i).next]) ∧ True) ∧ True)
 ∨ Exx (Nat × Nat) fun t => J t ∧ Tr 1 ((true = true ∧ NilNil ∧ (0 : Nat) = 0) ∧ Tr 2 ((8 * t.1 = 0 ∧ t.2 = 0) ∧ Tr 1 ((0 : Int) = (↑(liveN x t.1) : Int)) ∧ Tr 3
 (((3 : Nat) = 3 ∧ (7 : Nat) = 7 ∧ (∀ (i : Nat), i < 7 → [AV.bool (x i).live, AV.int .i64 (x i).gen, AV.int .i64 (x i).next] = [AV.bool (x i).live, AV.int .i64
 (x i).gen, AV.int .i64 (x i).next]) ∧ True) ∧ Tr 1 ((0 : Int) = (↑t.1 : Int)) ∧ Tr 30 True))) ∧ true = true ∧ ((115 : Nat) = (115 : TypeId) ∧ (3 : Nat) = 3 ∧ (7
 : Nat) = 7 ∧ (∀ (i : Nat), i < 7 → [AV.bool (x i).live, AV.int .i64 (x i).gen, AV.int .i64 (x i).next] = [AV.bool (x i).live, AV.int .i64 (x i).gen, AV.int .i64
 (x i).next]) ∧ True) ∧ (t.2 = 0 ∧ 8 * t.1 = 0) ∧ True) ∧ (∀ (t : Unit), I t → ((0 : Int) ≤ (0 : Int) ∧ (0 : Int) < (↑(7 : Nat) : Int) ∧ (0 : Int) < (↑(7 : Nat)
 : Int)) ∧ Exx SeatT fun x_1 => ((((x (Int.toNat 0)).live = x_1.live ∧ Tr 1 ((x (Int.toNat 0)).gen = x_1.gen) ∧ Tr 1 ((x (Int.toNat 0)).next = x_1.next) ∧ True)
 ∧ True) ∧ true = true ∧ True) ∧ SeatI x_1 ∧ ∀ (y : Unit), True → BC (!decide (seatOk x_1)) (Exx Nat fun y => (((((putLeafL x).length = 0 ∧ y = 0) ∧ false =
 decide (leafOk x) ∧ True) ∧ True) ∧ true = true ∧ (y = 0 ∧ (putLeafL x).length = 0) ∧ True) ∧ (putLeafL x).length ≤ y) (BC (x (Int.toNat 0)).live ((0 : Int) ≤
 (0 : Int) ∧ ∀ (n_1 : Int), n_1 = IntKind.i64.wrap (1 * 2 ^ min (Int.toNat 0) IntKind.i64.bits) → ∀ (n_2 : Int), n_2 = bits BinOp.or IntKind.i64 0 n_1 → ∀ (m_1 :
 Int), m_1 = IntKind.u64.wrap (x (Int.toNat 0)).gen → Exx (Nat × Int) fun x_2 => ((Tr 1 (m_1 = (↑x_2.1 : Int)) ∧ Tr 1 ((4 : Int) = x_2.2) ∧ True) ∧ true = true ∧
 True) ∧ (U64 x_2.1 ∧ I64 x_2.2) ∧ ∀ (y : Nat), (layL x_2.1 x_2.2).length ≤ y → 0 + (layL x_2.1 x_2.2).length ≤ (layL x_2.1 x_2.2).length ∧ ((layL x_2.1
 x_2.2).length ≤ 9223372036854775807 ∧ (layL x_2.1 x_2.2).length * 1 ≤ 140737488355328) ∧ ∀ (cap : Nat), (layL x_2.1 x_2.2).length ≤ cap ∧ cap ≤
 9223372036854775807 → ∀ (m_2 : Int), m_2 = IntKind.u64.wrap (x (Int.toNat 0)).next → Exx (Nat × Int) fun x_3 => ((Tr 1 (m_2 = (↑x_3.1 : Int)) ∧ Tr 1 ((4 : Int)
 = x_3.2) ∧ True) ∧ true = true ∧ True) ∧ (U64 x_3.1 ∧ I64 x_3.2) ∧ ∀ (y : Nat), (layL x_3.1 x_3.2).length ≤ y → 0 + (layL x_3.1 x_3.2).length ≤ (layL x_3.1
 x_3.2).length ∧ true = true ∧ ((layL x_2.1 x_2.2).length ≤ (layL x_2.1 x_2.2).length ∧ cap = cap) ∧ ((layL x_2.1 x_2.2).length + (layL x_3.1 x_3.2).length ≤
 9223372036854775807 ∧ ((layL x_2.1 x_2.2).length + (layL x_3.1 x_3.2).length) * 1 ≤ 140737488355328) ∧ ∀ (cap : Nat), (layL x_2.1 x_2.2).length + (layL x_3.1
 x_3.2).length ≤ cap ∧ cap ≤ 9223372036854775807 → I64 (0 + 1) ∧ ((Exx Unit fun t' => (I t' ∧ m t' < m t) ∧ Tr 1 ((true = true ∧ NilNil ∧ (0 : Nat) = 0) ∧ Tr 2
 (False ∧ Tr 1 (n_2 = (0 : Int)) ∧ Tr 3 (((3 : Nat) = 3 ∧ (7 : Nat) = 7 ∧ (∀ (i : Nat), i < 7 → [AV.bool (x i).live, AV.int .i64 (x i).gen, AV.int .i64 (x
 i).next] = [AV.bool (x i).live, AV.int .i64 (x i).gen, AV.int .i64 (x i).next]) ∧ True) ∧ Tr 1 ((0 : Int) + (1 : Int) = 0) ∧ Tr 30 True))) ∧ true = true ∧ ((115
 : TypeId) = 115 ∧ (3 : Nat) = 3 ∧ (7 : Nat) = 7 ∧ (∀ (i : Nat), i < 7 → [AV.bool (x i).live, AV.int .i64 (x i).gen, AV.int .i64 (x i).next] = [AV.bool (x
 i).live, AV.int .i64 (x i).gen, AV.int .i64 (x i).next]) ∧ True) ∧ True) ∨ Exx (Nat × Nat) fun t' => (J t' ∧ n t' < m t) ∧ Tr 1 ((true = true ∧ NilNil ∧ (0 :
 Nat) = 0) ∧ Tr 2 ((true = true ∧ NilNil ∧ (0 : Nat) = 0 ∧ (1 : Nat) = 1 ∧ (0 : Nat) = 0 ∧ (layL x_2.1 x_2.2).length + (layL x_3.1 x_3.2).length = 8 * t'.fst ∧
 cap = t'.snd) ∧ Tr 1 (n_2 = (↑(liveN x t'.fst) : Int)) ∧ Tr 3 (((3 : Nat) = 3 ∧ (7 : Nat) = 7 ∧ (∀ (i : Nat), i < 7 → [AV.bool (x i).live, AV.int .i64 (x
 i).gen, AV.int .i64 (x i).next] = [AV.bool (x i).live, AV.int .i64 (x i).gen, AV.int .i64 (x i).next]) ∧ True) ∧ Tr 1 (0 + 1 = (↑t'.fst : Int)) ∧ Tr 30 True)))
 ∧ true = true ∧ ((115 : TypeId) = 115 ∧ (3 : Nat) = 3 ∧ (7 : Nat) = 7 ∧ (∀ (i : Nat), i < 7 → [AV.bool (x i).live, AV.int .i64 (x i).gen, AV.int .i64 (x
 i).next] = [AV.bool (x i).live, AV.int .i64 (x i).gen, AV.int .i64 (x i).next]) ∧ True) ∧ ((5 : TypeId) = 5 ∧ (1 : Nat) = 1 ∧ cap = t'.snd ∧ 8 * t'.fst ≤ (layL
 x_2.1 x_2.2).length + (layL x_3.1 x_3.2).length ∧ ∀ (i : Nat), i < 8 * t'.fst → (if i < (layL x_2.1 x_2.2).length then [AV.int .u8 (↑((layL x_2.1 x_2.2).getD (0
 + i) 0) : Int)] else [AV.int .u8 (↑((layL x_3.1 x_3.2).getD (0 + (i - (layL x_2.1 x_2.2).length)) 0) : Int)]) = [AV.int .u8 (↑((seatsL x t'.fst).getD i 0) :
 Int)]) ∧ True)) (∀ (m_1 : Int), m_1 = IntKind.u64.wrap (x (Int.toNat 0)).gen → Exx (Nat × Int) fun x_2 => ((Tr 1 (m_1 = (↑x_2.1 : Int)) ∧ Tr 1 ((4 : Int) =
 x_2.2) ∧ True) ∧ true = true ∧ True) ∧ (U64 x_2.1 ∧ I64 x_2.2) ∧ ∀ (y : Nat), (layL x_2.1 x_2.2).length ≤ y → 0 + (layL x_2.1 x_2.2).length ≤ (layL x_2.1
 x_2.2).length ∧ ((layL x_2.1 x_2.2).length ≤ 9223372036854775807 ∧ (layL x_2.1 x_2.2).length * 1 ≤ 140737488355328) ∧ ∀ (cap : Nat), (layL x_2.1 x_2.2).length ≤
 cap ∧ cap ≤ 9223372036854775807 → ∀ (m_2 : Int), m_2 = IntKind.u64.wrap (x (Int.toNat 0)).next → Exx (Nat × Int) fun x_3 => ((Tr 1 (m_2 = (↑x_3.1 : Int)) ∧ Tr 1
 ((4 : Int) = x_3.2) ∧ True) ∧ true = true ∧ True) ∧ (U64 x_3.1 ∧ I64 x_3.2) ∧ ∀ (y : Nat), (layL x_3.1 x_3.2).length ≤ y → 0 + (layL x_3.1 x_3.2).length ≤ (layL
 x_3.1 x_3.2).length ∧ true = true ∧ ((layL x_2.1 x_2.2).length ≤ (layL x_2.1 x_2.2).length ∧ cap = cap) ∧ ((layL x_2.1 x_2.2).length + (layL x_3.1 x_3.2).length
 ≤ 9223372036854775807 ∧ ((layL x_2.1 x_2.2).length + (layL x_3.1 x_3.2).length) * 1 ≤ 140737488355328) ∧ ∀ (cap : Nat), (layL x_2.1 x_2.2).length + (layL x_3.1
 x_3.2).length ≤ cap ∧ cap ≤ 9223372036854775807 → I64 (0 + 1) ∧ ((Exx Unit fun t' => (I t' ∧ m t' < m t) ∧ Tr 1 ((true = true ∧ NilNil ∧ (0 : Nat) = 0) ∧ Tr 2
 (False ∧ Tr 1 ((0 : Int) = 0) ∧ Tr 3 (((3 : Nat) = 3 ∧ (7 : Nat) = 7 ∧ (∀ (i : Nat), i < 7 → [AV.bool (x i).live, AV.int .i64 (x i).gen, AV.int .i64 (x i).next]
 = [AV.bool (x i).live, AV.int .i64 (x i).gen, AV.int .i64 (x i).next]) ∧ True) ∧ Tr 1 ((0 : Int) + (1 : Int) = 0) ∧ Tr 30 True))) ∧ true = true ∧ ((115 :
 TypeId) = 115 ∧ (3 : Nat) = 3 ∧ (7 : Nat) = 7 ∧ (∀ (i : Nat), i < 7 → [AV.bool (x i).live, AV.int .i64 (x i).gen, AV.int .i64 (x i).next] = [AV.bool (x i).live,
 AV.int .i64 (x i).gen, AV.int .i64 (x i).next]) ∧ True) ∧ True) ∨ Exx (Nat × Nat) fun t' => (J t' ∧ n t' < m t) ∧ Tr 1 ((true = true ∧ NilNil ∧ (0 : Nat) = 0) ∧
 Tr 2 ((true = true ∧ NilNil ∧ (0 : Nat) = 0 ∧ (1 : Nat) = 1 ∧ (0 : Nat) = 0 ∧ (layL x_2.1 x_2.2).length + (layL x_3.1 x_3.2).length = 8 * t'.fst ∧ cap = t'.snd)
 ∧ Tr 1 ((0 : Int) = (↑(liveN x t'.fst) : Int)) ∧ Tr 3 (((3 : Nat) = 3 ∧ (7 : Nat) = 7 ∧ (∀ (i : Nat), i < 7 → [AV.bool (x i).live, AV.int .i64 (x i).gen, AV.int
 .i64 (x i).next] = [AV.bool (x i).live, AV.int .i64 (x i).gen, AV.int .i64 (x i).next]) ∧ True) ∧ Tr 1 (0 + 1 = (↑t'.fst : Int)) ∧ Tr 30 True))) ∧ true = true ∧
 ((115 : TypeId) = 115 ∧ (3 : Nat) = 3 ∧ (7 : Nat) = 7 ∧ (∀ (i : Nat), i < 7 → [AV.bool (x i).live, AV.int .i64 (x i).gen, AV.int .i64 (x i).next] = [AV.bool (x
 i).live, AV.int .i64 (x i).gen, AV.int .i64 (x i).next]) ∧ True) ∧ ((5 : TypeId) = 5 ∧ (1 : Nat) = 1 ∧ cap = t'.snd ∧ 8 * t'.fst ≤ (layL x_2.1 x_2.2).length +
 (layL x_3.1 x_3.2).length ∧ ∀ (i : Nat), i < 8 * t'.fst → (if i < (layL x_2.1 x_2.2).length then [AV.int .u8 (↑((layL x_2.1 x_2.2).getD (0 + i) 0) : Int)] else
 [AV.int .u8 (↑((layL x_3.1 x_3.2).getD (0 + (i - (layL x_2.1 x_2.2).length)) 0) : Int)]) = [AV.int .u8 (↑((seatsL x t'.fst).getD i 0) : Int)]) ∧ True)))) ∧ ∀ (t
 : Nat × Nat), J t → BC (decide ((↑t.1 : Int) < (7 : Int))) (((0 : Int) ≤ (↑t.1 : Int) ∧ (↑t.1 : Int) < (↑7 : Int) ∧ (↑t.1 : Int) < (↑7 : Int)) ∧ Exx SeatT fun
 x_1 => ((((x (↑t.1 : Int).toNat).live = x_1.live ∧ Tr 1 ((x (↑t.1 : Int).toNat).gen = x_1.gen) ∧ Tr 1 ((x (↑t.1 : Int).toNat).next = x_1.next) ∧ True) ∧ True) ∧
 true = true ∧ True) ∧ SeatI x_1 ∧ ∀ (y : Unit), True → BC (!decide (seatOk x_1)) (Exx Nat fun y => (((((putLeafL x).length = 0 ∧ y = 0) ∧ false = decide (leafOk
 x) ∧ True) ∧ True) ∧ true = true ∧ (y = 0 ∧ (putLeafL x).length = 0) ∧ True) ∧ (putLeafL x).length ≤ y) (BC (x (↑t.1 : Int).toNat).live ((0 : Int) ≤ (↑t.1 :
 Int) ∧ ∀ (n_1 : Int), n_1 = IntKind.i64.wrap (1 * 2 ^ min (↑t.1 : Int).toNat IntKind.i64.bits) → ∀ (n_2 : Int), n_2 = bits BinOp.or IntKind.i64 (↑(liveN x t.1)
 : Int) n_1 → ∀ (m_1 : Int), m_1 = IntKind.u64.wrap (x (↑t.1 : Int).toNat).gen → Exx (Nat × Int) fun x_2 => ((Tr 1 (m_1 = (↑x_2.1 : Int)) ∧ Tr 1 ((4 : Int) =
 x_2.2) ∧ True) ∧ true = true ∧ True) ∧ (U64 x_2.1 ∧ I64 x_2.2) ∧ ∀ (y : Nat), (layL x_2.1 x_2.2).length ≤ y → 0 + (layL x_2.1 x_2.2).length ≤ (layL x_2.1
 x_2.2).length ∧ true = true ∧ (8 * t.1 ≤ 8 * t.1 ∧ t.2 = t.2) ∧ (8 * t.1 + (layL x_2.1 x_2.2).length ≤ 9223372036854775807 ∧ (8 * t.1 + (layL x_2.1
 x_2.2).length) * 1 ≤ 140737488355328) ∧ ∀ (cap : Nat), 8 * t.1 + (layL x_2.1 x_2.2).length ≤ cap ∧ cap ≤ 9223372036854775807 → ∀ (m_2 : Int), m_2 =
 IntKind.u64.wrap (x (↑t.1 : Int).toNat).next → Exx (Nat × Int) fun x_3 => ((Tr 1 (m_2 = (↑x_3.1 : Int)) ∧ Tr 1 ((4 : Int) = x_3.2) ∧ True) ∧ true = true ∧ True)
 ∧ (U64 x_3.1 ∧ I64 x_3.2) ∧ ∀ (y : Nat), (layL x_3.1 x_3.2).length ≤ y → 0 + (layL x_3.1 x_3.2).length ≤ (layL x_3.1 x_3.2).length ∧ true = true ∧ (8 * t.1 +
 (layL x_2.1 x_2.2).length ≤ 8 * t.1 + (layL x_2.1 x_2.2).length ∧ cap = cap) ∧ (8 * t.1 + (layL x_2.1 x_2.2).length + (layL x_3.1 x_3.2).length ≤
 9223372036854775807 ∧ (8 * t.1 + (layL x_2.1 x_2.2).length + (layL x_3.1 x_3.2).length) * 1 ≤ 140737488355328) ∧ ∀ (cap : Nat), 8 * t.1 + (layL x_2.1
 x_2.2).length + (layL x_3.1 x_3.2).length ≤ cap ∧ cap ≤ 9223372036854775807 → I64 ((↑t.1 : Int) + 1) ∧ ((Exx Unit fun t' => (I t' ∧ m t' < n t) ∧ Tr 1 ((true =
 true ∧ NilNil ∧ (0 : Nat) = 0) ∧ Tr 2 (False ∧ Tr 1 (n_2 = (0 : Int)) ∧ Tr 3 (((3 : Nat) = 3 ∧ (7 : Nat) = 7 ∧ (∀ (i : Nat), i < 7 → [AV.bool (x i).live, AV.int
 .i64 (x i).gen, AV.int .i64 (x i).next] = [AV.bool (x i).live, AV.int .i64 (x i).gen, AV.int .i64 (x i).next]) ∧ True) ∧ Tr 1 ((↑t.1 : Int) + 1 = (0 : Int)) ∧
 Tr 30 True))) ∧ true = true ∧ ((115 : TypeId) = 115 ∧ (3 : Nat) = 3 ∧ (7 : Nat) = 7 ∧ (∀ (i : Nat), i < 7 → [AV.bool (x i).live, AV.int .i64 (x i).gen, AV.int
 .i64 (x i).next] = [AV.bool (x i).live, AV.int .i64 (x i).gen, AV.int .i64 (x i).next]) ∧ True) ∧ True) ∨ Exx (Nat × Nat) fun t' => (J t' ∧ n t' < n t) ∧ Tr 1
 ((true = true ∧ NilNil ∧ (0 : Nat) = 0) ∧ Tr 2 ((true = true ∧ NilNil ∧ (0 : Nat) = 0 ∧ (1 : Nat) = 1 ∧ (0 : Nat) = 0 ∧ 8 * t.1 + (layL x_2.1 x_2.2).length +
 (layL x_3.1 x_3.2).length = 8 * t'.fst ∧ cap = t'.snd) ∧ Tr 1 (n_2 = (↑(liveN x t'.fst) : Int)) ∧ Tr 3 (((3 : Nat) = 3 ∧ (7 : Nat) = 7 ∧ (∀ (i : Nat), i < 7 →
 [AV.bool (x i).live, AV.int .i64 (x i).gen, AV.int .i64 (x i).next] = [AV.bool (x i).live, AV.int .i64 (x i).gen, AV.int .i64 (x i).next]) ∧ True) ∧ Tr 1 ((↑t.1
 : Int) + 1 = (↑t'.fst : Int)) ∧ Tr 30 True))) ∧ true = true ∧ ((115 : TypeId) = 115 ∧ (3 : Nat) = 3 ∧ (7 : Nat) = 7 ∧ (∀ (i : Nat), i < 7 → [AV.bool (x i).live,
 AV.int .i64 (x i).gen, AV.int .i64 (x i).next] = [AV.bool (x i).live, AV.int .i64 (x i).gen, AV.int .i64 (x i).next]) ∧ True) ∧ ((5 : TypeId) = 5 ∧ (1 : Nat) =
 1 ∧ cap = t'.snd ∧ 8 * t'.fst ≤ 8 * t.1 + (layL x_2.1 x_2.2).length + (layL x_3.1 x_3.2).length ∧ ∀ (i : Nat), i < 8 * t'.fst → (if i < 8 * t.1 + (layL x_2.1
 x_2.2).length then if i < 8 * t.1 then [AV.int .u8 (↑((seatsL x t.1).getD i 0) : Int)] else [AV.int .u8 (↑((layL x_2.1 x_2.2).getD (0 + (i - 8 * t.1)) 0) :
 Int)] else [AV.int .u8 (↑((layL x_3.1 x_3.2).getD (0 + (i - (8 * t.1 + (layL x_2.1 x_2.2).length))) 0) : Int)]) = [AV.int .u8 (↑((seatsL x t'.fst).getD i 0) :
 Int)]) ∧ True)) (∀ (m_1 : Int), m_1 = IntKind.u64.wrap (x (↑t.1 : Int).toNat).gen → Exx (Nat × Int) fun x_2 => ((Tr 1 (m_1 = (↑x_2.1 : Int)) ∧ Tr 1 ((4 : Int) =
 x_2.2) ∧ True) ∧ true = true ∧ True) ∧ (U64 x_2.1 ∧ I64 x_2.2) ∧ ∀ (y : Nat), (layL x_2.1 x_2.2).length ≤ y → 0 + (layL x_2.1 x_2.2).length ≤ (layL x_2.1
 x_2.2).length ∧ true = true ∧ (8 * t.1 ≤ 8 * t.1 ∧ t.2 = t.2) ∧ (8 * t.1 + (layL x_2.1 x_2.2).length ≤ 9223372036854775807 ∧ (8 * t.1 + (layL x_2.1
 x_2.2).length) * 1 ≤ 140737488355328) ∧ ∀ (cap : Nat), 8 * t.1 + (layL x_2.1 x_2.2).length ≤ cap ∧ cap ≤ 9223372036854775807 → ∀ (m_2 : Int), m_2 =
 IntKind.u64.wrap (x (↑t.1 : Int).toNat).next → Exx (Nat × Int) fun x_3 => ((Tr 1 (m_2 = (↑x_3.1 : Int)) ∧ Tr 1 ((4 : Int) = x_3.2) ∧ True) ∧ true = true ∧ True)
 ∧ (U64 x_3.1 ∧ I64 x_3.2) ∧ ∀ (y : Nat), (layL x_3.1 x_3.2).length ≤ y → 0 + (layL x_3.1 x_3.2).length ≤ (layL x_3.1 x_3.2).length ∧ true = true ∧ (8 * t.1 +
 (layL x_2.1 x_2.2).length ≤ 8 * t.1 + (layL x_2.1 x_2.2).length ∧ cap = cap) ∧ (8 * t.1 + (layL x_2.1 x_2.2).length + (layL x_3.1 x_3.2).length ≤
 9223372036854775807 ∧ (8 * t.1 + (layL x_2.1 x_2.2).length + (layL x_3.1 x_3.2).length) * 1 ≤ 140737488355328) ∧ ∀ (cap : Nat), 8 * t.1 + (layL x_2.1
 x_2.2).length + (layL x_3.1 x_3.2).length ≤ cap ∧ cap ≤ 9223372036854775807 → I64 ((↑t.1 : Int) + 1) ∧ ((Exx Unit fun t' => (I t' ∧ m t' < n t) ∧ Tr 1 ((true =
 true ∧ NilNil ∧ (0 : Nat) = 0) ∧ Tr 2 (False ∧ Tr 1 ((↑(liveN x t.1) : Int) = (0 : Int)) ∧ Tr 3 (((3 : Nat) = 3 ∧ (7 : Nat) = 7 ∧ (∀ (i : Nat), i < 7 → [AV.bool
 (x i).live, AV.int .i64 (x i).gen, AV.int .i64 (x i).next] = [AV.bool (x i).live, AV.int .i64 (x i).gen, AV.int .i64 (x i).next]) ∧ True) ∧ Tr 1 ((↑t.1 : Int) +
 1 = (0 : Int)) ∧ Tr 30 True))) ∧ true = true ∧ ((115 : TypeId) = 115 ∧ (3 : Nat) = 3 ∧ (7 : Nat) = 7 ∧ (∀ (i : Nat), i < 7 → [AV.bool (x i).live, AV.int .i64 (x
 i).gen, AV.int .i64 (x i).next] = [AV.bool (x i).live, AV.int .i64 (x i).gen, AV.int .i64 (x i).next]) ∧ True) ∧ True) ∨ Exx (Nat × Nat) fun t' => (J t' ∧ n t'
 < n t) ∧ Tr 1 ((true = true ∧ NilNil ∧ (0 : Nat) = 0) ∧ Tr 2 ((true = true ∧ NilNil ∧ (0 : Nat) = 0 ∧ (1 : Nat) = 1 ∧ (0 : Nat) = 0 ∧ 8 * t.1 + (layL x_2.1
 x_2.2).length + (layL x_3.1 x_3.2).length = 8 * t'.fst ∧ cap = t'.snd) ∧ Tr 1 ((↑(liveN x t.1) : Int) = (↑(liveN x t'.fst) : Int)) ∧ Tr 3 (((3 : Nat) = 3 ∧ (7 :
 Nat) = 7 ∧ (∀ (i : Nat), i < 7 → [AV.bool (x i).live, AV.int .i64 (x i).gen, AV.int .i64 (x i).next] = [AV.bool (x i).live, AV.int .i64 (x i).gen, AV.int .i64
 (x i).next]) ∧ True) ∧ Tr 1 ((↑t.1 : Int) + 1 = (↑t'.fst : Int)) ∧ Tr 30 True))) ∧ true = true ∧ ((115 : TypeId) = 115 ∧ (3 : Nat) = 3 ∧ (7 : Nat) = 7 ∧ (∀ (i :
 Nat), i < 7 → [AV.bool (x i).live, AV.int .i64 (x i).gen, AV.int .i64 (x i).next] = [AV.bool (x i).live, AV.int .i64 (x i).gen, AV.int .i64 (x i).next]) ∧ True)
 ∧ ((5 : TypeId) = 5 ∧ (1 : Nat) = 1 ∧ cap = t'.snd ∧ 8 * t'.fst ≤ 8 * t.1 + (layL x_2.1 x_2.2).length + (layL x_3.1 x_3.2).length ∧ ∀ (i : Nat), i < 8 * t'.fst
 → (if i < 8 * t.1 + (layL x_2.1 x_2.2).length then if i < 8 * t.1 then [AV.int .u8 (↑((seatsL x t.1).getD i 0) : Int)] else [AV.int .u8 (↑((layL x_2.1
 x_2.2).getD (0 + (i - 8 * t.1)) 0) : Int)] else [AV.int .u8 (↑((layL x_3.1 x_3.2).getD (0 + (i - (8 * t.1 + (layL x_2.1 x_2.2).length))) 0) : Int)]) = [AV.int
 .u8 (↑((seatsL x t'.fst).getD i 0) : Int)]) ∧ True)))) (Exx (Int × Int × List Nat) fun x_1 => ((Tr 1 ((2 : Int) = x_1.1) ∧ Tr 1 ((↑(liveN x t.1) : Int) =
 x_1.2.1) ∧ (0 + 8 * t.1 ≤ 8 * t.1 ∧ 8 * t.1 = x_1.2.2.length ∧ ∀ (i : Nat), i < x_1.2.2.length → [AV.int .u8 (↑((seatsL x t.1).getD (0 + i) 0) : Int)] = [AV.int
 .u8 (↑(x_1.2.2.getD i 0) : Int)]) ∧ True) ∧ true = true ∧ True) ∧ (I64 x_1.1 ∧ I64 x_1.2.1 ∧ Oct x_1.2.2) ∧ ∀ (y : Nat), (sealL x_1.1 x_1.2.1 x_1.2.2).length ≤
 y → Exx Nat fun y_1 => ((((true = true ∧ NilNil ∧ (0 : Nat) = 0 ∧ (1 : Nat) = 1 ∧ (0 : Nat) = 0 ∧ (sealL x_1.1 x_1.2.1 x_1.2.2).length = (putLeafL x).length ∧ y
 = y_1) ∧ decide (sealOk x_1.1 x_1.2.1 x_1.2.2) = decide (leafOk x) ∧ True) ∧ True) ∧ true = true ∧ ((5 : TypeId) = 5 ∧ (1 : Nat) = 1 ∧ y = y_1 ∧ (putLeafL
 x).length ≤ (sealL x_1.1 x_1.2.1 x_1.2.2).length ∧ ∀ (i : Nat), i < (putLeafL x).length → [AV.int .u8 (↑((sealL x_1.1 x_1.2.1 x_1.2.2).getD i 0) : Int)] =
 [AV.int .u8 (↑((putLeafL x).getD i 0) : Int)]) ∧ True) ∧ (putLeafL x).length ≤ y_1)) = (fnVCo tb [(49, specOf rightSeatC), (59, specOf layC), (60, specOf sealC)] Tryd.f50 putLeafC (fun x => { loops2 := [(4, putLeafLA x, putLeafLB x)] }) (fun _ av _ => tupSl1 av) (fun _ => []) (fun _ _ _ _ => [])) := by kernel_rfl 

theorem putLeaf_ok : SpecOk Tryd.prog 50 (specOf putLeafC) := by
  refine specOko mixed tb_ok (SPok.cons rightSeat_ok (SPok.cons lay_ok (SPok.cons seal_ok SPok.nil))) Tryd.func50 (by decide) (rowC_ok fun _ _ _ => ⟨rfl, rfl, trivial⟩) (an := (fun x => { loops2 := [(4, putLeafLA x, putLeafLB x)] })) (σ := (fun _ av _ => tupSl1 av)) (op := (fun _ => [])) (cl := (fun _ _ _ _ => [])) ?_
  rw [← putLeafV]
  simp (maxSteps := 10000000) only [and_false, false_and, false_or, or_false, bOf_true, bOf_false, true_bOf, false_bOf, Exx, int_ite, merge_o, Tr_eq, true_and, and_true, exists_const, forall_const, implies_true, forall_eq, exists_eq, exists_eq', exists_eq_left, exists_eq_left', exists_eq_right, Prod.exists, Prod.forall, and_assoc, exists_and_left, BC_iff, Bool.not_eq_true', Bool.not_eq_false', decide_eq_true_eq, decide_eq_false_iff_not, I64, nat_cast_inj, Int.toNat_natCast, nats_iff, nats_iff', ints_iff, ints_iff', natss_iff, natss_iff', nilnil, litL_eq, str_inj, str_append, str_length, str_getD, str_take, lit1_iff, one_iff, two_iff, one_get, Nat.zero_add, Nat.sub_zero, Nat.reduceMul, Nat.reduceDiv, Nat.reduceAdd, Int.reduceToNat, Nat.not_lt_zero, if_false, if_true, Nat.le_refl, List.length_singleton, List.length_cons, List.length_nil, Bool.false_eq_true, not_true_eq_false, false_implies, not_false_eq_true, Prod.mk.injEq]
  rintro l hl
  have hbad : ∀ i, i < 7 → ¬ seatOk (l i) → ((putLeafL l).length = 0 ∧ false = decide (leafOk l) ∧ (putLeafL l).length = 0 ∧ (putLeafL l).length ≤ 0) := fun i hi hs => by
    have hn : ¬ leafOk l := fun k => hs (k i hi)
    rw [putLeafL, if_neg hn]; exact ⟨rfl, (decide_eq_false hn).symm, rfl, Nat.le_refl _⟩
  have hone : seatsL l 1 = layN (l 0).gen.toNat 4 ++ layN (l 0).next.toNat 4 := by rw [seatsL_succ]; rfl
  refine ⟨fun _ => True, fun s => 1 ≤ s.1 ∧ s.1 ≤ 7 ∧ ∀ j, j < s.1 → seatOk (l j), .inl ⟨(), trivial⟩, fun _ => 8, fun s => 7 - s.1, fun _ _ => ?_, fun a b hab => ⟨fun hlt => ?_, fun hge => ?_⟩⟩
  · refine ⟨by omega, by omega, by omega, l 0, rfl, rfl, rfl, hl 0 (by omega), hbad 0 (by omega), fun hs => ?_⟩
    have hr := seat_nat hs
    have hinv : 1 ≤ 1 ∧ 1 ≤ 7 ∧ ∀ j, j < 1 → seatOk (l j) := ⟨by omega, by omega, fun j hj => by rw [show j = 0 by omega]; exact hs⟩
    refine ⟨fun hlive => ⟨by omega, (l 0).gen.toNat, u64_toNat hr.1 hr.2.1, by unfold U64; omega, by omega, by omega, fun y hy => ?_⟩, fun hlive => ⟨(l 0).gen.toNat, u64_toNat hr.1 hr.2.1, by unfold U64; omega, by omega, by omega, fun y hy => ?_⟩⟩
    all_goals
      rw [layL_4, layN_length]
      refine ⟨by omega, by omega, fun cap hcap => ⟨(l 0).next.toNat, u64_toNat hr.2.2.1 (by omega), by unfold U64; omega, by omega, by omega, fun y hy => ?_⟩⟩
      rw [layL_4, layN_length]
      refine ⟨by omega, by omega, fun cap2 hcap2 => ⟨by omega, by omega, 1, cap2, hinv, by simp only; omega, rfl, rfl, ?_, rfl, rfl, by omega, fun i hi => ?_⟩⟩
      rotate_left
      · rw [hone, getD_append, layN_length]
        split <;> rfl
    · exact live_or (l := l) (a := 0) (by omega) hlive
    · simp [liveN, hlive]
  · obtain ⟨h1, h7, hall⟩ := hab
    refine ⟨by omega, by omega, by omega, l a, rfl, rfl, rfl, hl a (by omega), hbad a (by omega), fun hs => ?_⟩
    have hr := seat_nat hs
    have hinv : 1 ≤ a + 1 ∧ a + 1 ≤ 7 ∧ ∀ j, j < a + 1 → seatOk (l j) := ⟨by omega, by omega, fun j hj => by
      by_cases e : j = a
      · rw [e]; exact hs
      · exact hall j (by omega)⟩
    refine ⟨fun hlive => ⟨by omega, (l a).gen.toNat, u64_toNat hr.1 hr.2.1, by unfold U64; omega, by omega, by omega, fun y hy => ?_⟩, fun hlive => ⟨(l a).gen.toNat, u64_toNat hr.1 hr.2.1, by unfold U64; omega, by omega, by omega, fun y hy => ?_⟩⟩
    all_goals
      rw [layL_4, layN_length]
      refine ⟨by omega, by omega, fun cap hcap => ⟨(l a).next.toNat, u64_toNat hr.2.2.1 (by omega), by unfold U64; omega, by omega, by omega, fun y hy => ?_⟩⟩
      rw [layL_4, layN_length]
      refine ⟨by omega, by omega, fun cap2 hcap2 => ⟨by omega, by omega, a + 1, cap2, hinv, by simp only; omega, by omega, rfl, ?_, by omega, rfl, by omega, fun i hi => ?_⟩⟩
      rotate_left
      · have := snoc2 (q := seatsL l a) (m1 := layN (l a).gen.toNat 4) (m2 := layN (l a).next.toNat 4) (n := 8 * a) (i := i) (c := fun v => [AV.int IntKind.u8 ((v : Nat) : Int)]) (seatsL_length l a)
        rw [layN_length] at this
        rw [seatsL_succ]; exact this
    · exact live_or (by omega) hlive
    · simp [liveN, hlive]
  · obtain ⟨h1, h7, hall⟩ := hab
    have ha : a = 7 := by omega
    subst ha
    have hok : leafOk l := fun j hj => hall j hj
    have hlv := liveN_lt l 7
    have hsl := seatsL_length l 7
    have hse : sealOk 2 (liveN l 7 : Nat) (seatsL l 7) := ⟨by omega, by omega, by omega, by omega, by omega⟩
    refine ⟨seatsL l 7, hsl.symm, fun _ _ => rfl, by omega, by omega, by omega, by omega, ⟨seatsL_lt l 7, by omega⟩, fun y hy => ?_⟩
    have e : sealL 2 (liveN l 7 : Nat) (seatsL l 7) = putLeafL l := by rw [sealL, if_pos hse, putLeafL, if_pos hok]; rfl
    rw [e] at hy ⊢
    exact ⟨rfl, decide_eq_decide.2 ⟨fun _ => hok, fun _ => hse⟩, Nat.le_refl _, fun _ _ => rfl, hy⟩

def getLeafLA (b : List Nat) : LA := { T := Nat × Nat, F := fun s => frm 64 [(2, .ptr 1 [] 0), (5, i64 (tagN b : Nat)), (6, .sl 2 [] 0 1 0 56 s.2), (8, .ptr 3 [] 0), (30, i64 (s.1 : Nat))], H := fun s => [.fence, .cells 115 (leafV fun _ => seatZ), .row 5 1 s.2 56 (fun i => [.int .u8 (((b.drop 8).getD i 0 : Nat) : Int)]), .cells 115 [.arr 3 7 (fun i => seatV (if i < s.1 then seatAt b i else seatZ))]] }

theorem live_at {t a : Nat} (ht : t < 256) (ha : a < 7) : decide (bits BinOp.and IntKind.i64 ((t : Int).fdiv (2 ^ min a IntKind.i64.bits)) 1 = 1) = (t / 2 ^ a % 2 == 1) := by
  rw [shr_nat (n := IntKind.i64.bits) (show a ≤ 64 by omega)]
  have h1 : t / 2 ^ a ≤ t := Nat.div_le_self _ _
  rw [show (1 : Int) = ((1 : Nat) : Int) from rfl, and_i64 (by omega) (by omega), Nat.and_one_is_mod]
  have h2 : t / 2 ^ a % 2 < 2 := Nat.mod_lt _ (by decide)
  rw [Bool.eq_iff_iff, decide_eq_true_iff, beq_iff_eq]
  omega
theorem numN_k {l : List Nat} {k : Nat} (h : ∀ c ∈ l, c < 256) (hk : k ≤ 4) : numN (l.take k) < 4294967296 := by
  have h1 := numN_lt (l.take k) fun c hc => h c (List.mem_of_mem_take hc)
  have h2 : 256 ^ (l.take k).length ≤ 256 ^ 4 := Nat.pow_le_pow_right (by decide) (by rw [List.length_take]; omega)
  omega
theorem seatAt_I {b : List Nat} (h : ∀ c ∈ b, c < 256) (i : Nat) : SeatI (seatAt b i) := by
  have h1 := numN_k (l := b.drop (8 + 8 * i)) (k := 4) (fun c hc => h c (List.mem_of_mem_drop hc)) (by omega)
  have h2 := numN_k (l := b.drop (12 + 8 * i)) (k := 4) (fun c hc => h c (List.mem_of_mem_drop hc)) (by omega)
  exact ⟨⟨by simp only [seatAt]; omega, by simp only [seatAt]; omega⟩, ⟨by simp only [seatAt]; omega, by simp only [seatAt]; omega⟩⟩
theorem kidAt_I {b : List Nat} (h : ∀ c ∈ b, c < 256) (i : Nat) : I64 (kidAt b i) := by
  have h1 := numN_k (l := b.drop (8 + 2 * i)) (k := 2) (fun c hc => h c (List.mem_of_mem_drop hc)) (by omega)
  exact ⟨by simp only [kidAt]; omega, by simp only [kidAt]; omega⟩

theorem getLeafV : (∀ (x : List Nat), Oct x → Exx (List Nat) fun x_1 => (((x.length = x_1.length ∧ ∀ (i : Nat), i < x_1.length → [AV.int .u8 (↑(x.getD i 0) :
 Int)] = [AV.int .u8 (↑(x_1.getD i 0) : Int)]) ∧ True) ∧ true = true ∧ True) ∧ Oct x_1 ∧ ∀ (y : Nat), (bodyL x_1).length ≤ y → BC (!decide (rightP x_1)) (Exx
 Unit fun y => (((((3 : Nat) = 3 ∧ (7 : Nat) = 7 ∧ (∀ (i : Nat), i < 7 → [AV.bool false, AV.int .i64 0, AV.int .i64 0] = [AV.bool (getLeafF x i).live, AV.int
 .i64 (getLeafF x i).gen, AV.int .i64 (getLeafF x i).next]) ∧ True) ∧ false = decide (isLeaf x) ∧ True) ∧ True) ∧ true = true ∧ True) ∧ True) (BC (!decide
 ((↑(kindN x_1) : Int) = (2 : Int))) (Exx Unit fun y => (((((3 : Nat) = 3 ∧ (7 : Nat) = 7 ∧ (∀ (i : Nat), i < 7 → [AV.bool false, AV.int .i64 0, AV.int .i64 0] =
 [AV.bool (getLeafF x i).live, AV.int .i64 (getLeafF x i).gen, AV.int .i64 (getLeafF x i).next]) ∧ True) ∧ false = decide (isLeaf x) ∧ True) ∧ True) ∧ true =
 true ∧ True) ∧ True) (BC (decide ((128 : Int) ≤ (↑(tagN x_1) : Int))) (Exx Unit fun y => (((((3 : Nat) = 3 ∧ (7 : Nat) = 7 ∧ (∀ (i : Nat), i < 7 → [AV.bool
 false, AV.int .i64 0, AV.int .i64 0] = [AV.bool (getLeafF x i).live, AV.int .i64 (getLeafF x i).gen, AV.int .i64 (getLeafF x i).next]) ∧ True) ∧ false = decide
 (isLeaf x) ∧ True) ∧ True) ∧ true = true ∧ True) ∧ True) (Exx (Nat × Nat → Prop) fun I => Exx (Nat × Nat → Nat) fun m => (Exx (Nat × Nat) fun t => I t ∧ Tr 2
 ((true = true ∧ NilNil ∧ (0 : Nat) = 0) ∧ Tr 2 (Tr 1 ((↑(tagN x_1) : Int) = (↑(tagN x) : Int)) ∧ (true = true ∧ NilNil ∧ (0 : Nat) = 0 ∧ (1 : Nat) = 1 ∧ (0 :
 Nat) = 0 ∧ (bodyL x_1).length = 56 ∧ y = t.2) ∧ Tr 1 ((true = true ∧ NilNil ∧ (0 : Nat) = 0) ∧ Tr 21 (Tr 1 ((0 : Int) = (↑t.1 : Int)) ∧ Tr 33 True)))) ∧ true =
 true ∧ ((115 : Nat) = (115 : TypeId) ∧ (3 : Nat) = 3 ∧ (7 : Nat) = 7 ∧ (∀ (i : Nat), i < 7 → [AV.bool false, AV.int .i64 (0 : Int), AV.int .i64 (0 : Int)] =
 [AV.bool seatZ.live, AV.int .i64 seatZ.gen, AV.int .i64 seatZ.next]) ∧ True) ∧ ((5 : TypeId) = 5 ∧ (1 : Nat) = 1 ∧ y = t.2 ∧ 56 ≤ (bodyL x_1).length ∧ ∀ (i :
 Nat), i < 56 → [AV.int .u8 (↑((bodyL x_1).getD i 0) : Int)] = [AV.int .u8 (↑((List.drop 8 x).getD i 0) : Int)]) ∧ ((115 : Nat) = (115 : TypeId) ∧ (3 : Nat) = 3
 ∧ (7 : Nat) = 7 ∧ (∀ (i : Nat), i < 7 → [AV.bool false, AV.int .i64 0, AV.int .i64 0] = [AV.bool (if i < t.1 then seatAt x i else seatZ).live, AV.int .i64 (if i
 < t.1 then seatAt x i else seatZ).gen, AV.int .i64 (if i < t.1 then seatAt x i else seatZ).next]) ∧ True) ∧ True) ∧ ∀ (t : Nat × Nat), I t → BC (decide ((↑t.1 :
 Int) < (7 : Int))) (I64 (8 * (↑t.1 : Int)) ∧ I64 ((↑t.1 : Int) + 1) ∧ I64 (8 * ((↑t.1 : Int) + 1)) ∧ (0 : Int) ≤ 8 * ((↑t.1 : Int) + 1) ∧ (0 : Int) ≤ 8 * (↑t.1
 : Int) ∧ ((8 * (↑t.1 : Int)).toNat ≤ (8 * ((↑t.1 : Int) + 1)).toNat ∧ (8 * ((↑t.1 : Int) + 1)).toNat ≤ t.2) ∧ (0 : Int) ≤ (↑t.1 : Int) ∧ ∀ (n : Int), n =
 (↑(tagN x) : Int).fdiv (2 ^ min (↑t.1 : Int).toNat IntKind.i64.bits) → ∀ (n_1 : Int), n_1 = bits BinOp.and IntKind.i64 n 1 → (0 : Int) ≤ (4 : Int) ∧ ((0 : Nat)
 ≤ (4 : Int).toNat ∧ Int.toNat 4 ≤ t.2 - (8 * (↑t.1 : Int)).toNat) ∧ (0 : Int) ≤ (4 : Int) ∧ (Int.toNat 4 ≤ (8 * ((↑t.1 : Int) + 1)).toNat - (8 * (↑t.1 :
 Int)).toNat ∧ (8 * ((↑t.1 : Int) + 1)).toNat - (8 * (↑t.1 : Int)).toNat ≤ t.2 - (8 * (↑t.1 : Int)).toNat) ∧ (Exx (List Nat) fun x_2 => (((0 + (8 * (↑t.1 :
 Int)).toNat + 0 + (Int.toNat 4 - 0) ≤ 56 ∧ Int.toNat 4 - 0 = x_2.length ∧ ∀ (i : Nat), i < x_2.length → [AV.int .u8 (↑((List.drop 8 x).getD (0 + (8 * (↑t.1 :
 Int)).toNat + 0 + i) 0) : Int)] = [AV.int .u8 (↑(x_2.getD i 0) : Int)]) ∧ True) ∧ true = true ∧ True) ∧ Oct x_2 ∧ ∀ (y : Unit), True → ∀ (m_1 : Int), m_1 =
 IntKind.i64.wrap (↑(readN x_2) : Int) → (Exx (List Nat) fun x_3 => (((0 + (8 * (↑t.1 : Int)).toNat + Int.toNat 4 + ((8 * ((↑t.1 : Int) + 1)).toNat - (8 * (↑t.1
 : Int)).toNat - Int.toNat 4) ≤ 56 ∧ (8 * ((↑t.1 : Int) + 1)).toNat - (8 * (↑t.1 : Int)).toNat - Int.toNat 4 = x_3.length ∧ ∀ (i : Nat), i < x_3.length → [AV.int
 .u8 (↑((List.drop 8 x).getD (0 + (8 * (↑t.1 : Int)).toNat + Int.toNat 4 + i) 0) : Int)] = [AV.int .u8 (↑(x_3.getD i 0) : Int)]) ∧ True) ∧ true = true ∧ True) ∧
 Oct x_3 ∧ ∀ (y : Unit), True → ∀ (m_2 : Int), m_2 = IntKind.i64.wrap (↑(readN x_3) : Int) → Exx SeatT fun x_4 => (((decide (n_1 = (1 : Int)) = x_4.live ∧ Tr 1
 (m_1 = x_4.gen) ∧ Tr 1 (m_2 = x_4.next) ∧ True) ∧ True) ∧ true = true ∧ True) ∧ SeatI x_4 ∧ ∀ (y : Unit), True → BC (!decide (seatOk x_4)) (Exx Unit fun y =>
 (((((3 : Nat) = 3 ∧ (7 : Nat) = 7 ∧ (∀ (i : Nat), i < 7 → [AV.bool false, AV.int .i64 0, AV.int .i64 0] = [AV.bool (getLeafF x i).live, AV.int .i64 (getLeafF x
 i).gen, AV.int .i64 (getLeafF x i).next]) ∧ True) ∧ false = decide (isLeaf x) ∧ True) ∧ True) ∧ true = true ∧ True) ∧ True) (((0 : Int) ≤ (↑t.1 : Int) ∧ (↑t.1 :
 Int) < (↑7 : Int)) ∧ (↑t.1 : Int).toNat < 7 ∧ I64 ((↑t.1 : Int) + 1) ∧ Exx (Nat × Nat) fun t' => (I t' ∧ m t' < m t) ∧ Tr 2 ((true = true ∧ NilNil ∧ (0 : Nat) =
 0) ∧ Tr 2 (Tr 1 ((↑(tagN x) : Int) = (↑(tagN x) : Int)) ∧ (true = true ∧ NilNil ∧ (0 : Nat) = 0 ∧ (1 : Nat) = 1 ∧ (0 : Nat) = 0 ∧ (56 : Nat) = 56 ∧ t.2 =
 t'.snd) ∧ Tr 1 ((true = true ∧ NilNil ∧ (0 : Nat) = 0) ∧ Tr 21 (Tr 1 ((↑t.1 : Int) + 1 = (↑t'.fst : Int)) ∧ Tr 33 True)))) ∧ true = true ∧ ((115 : TypeId) = 115
 ∧ (3 : Nat) = 3 ∧ (7 : Nat) = 7 ∧ (∀ (i : Nat), i < 7 → [AV.bool seatZ.live, AV.int .i64 seatZ.gen, AV.int .i64 seatZ.next] = [AV.bool seatZ.live, AV.int .i64
 seatZ.gen, AV.int .i64 seatZ.next]) ∧ True) ∧ ((5 : TypeId) = 5 ∧ (1 : Nat) = 1 ∧ t.2 = t'.snd ∧ (56 : Nat) ≤ (56 : Nat) ∧ ∀ (i : Nat), i < 56 → [AV.int .u8
 (↑((List.drop 8 x).getD i 0) : Int)] = [AV.int .u8 (↑((List.drop 8 x).getD i 0) : Int)]) ∧ ((115 : TypeId) = 115 ∧ (3 : Nat) = 3 ∧ (7 : Nat) = 7 ∧ (∀ (i : Nat),
 i < 7 → [AV.bool (if i = (↑t.1 : Int).toNat then decide (n_1 = (1 : Int)) else (if i < t.1 then seatAt x i else seatZ).live), AV.int .i64 (if i = (↑t.1 :
 Int).toNat then m_1 else (if i < t.1 then seatAt x i else seatZ).gen), AV.int .i64 (if i = (↑t.1 : Int).toNat then m_2 else (if i < t.1 then seatAt x i else
 seatZ).next)] = [AV.bool (if i < t'.fst then seatAt x i else seatZ).live, AV.int .i64 (if i < t'.fst then seatAt x i else seatZ).gen, AV.int .i64 (if i < t'.fst
 then seatAt x i else seatZ).next]) ∧ True) ∧ True)) ∧ Exx (List Nat) fun x_3 => (((0 + (8 * (↑t.1 : Int)).toNat + Int.toNat 4 + ((8 * ((↑t.1 : Int) + 1)).toNat
 - (8 * (↑t.1 : Int)).toNat - Int.toNat 4) ≤ 56 ∧ (8 * ((↑t.1 : Int) + 1)).toNat - (8 * (↑t.1 : Int)).toNat - Int.toNat 4 = x_3.length ∧ ∀ (i : Nat), i <
 x_3.length → [AV.int .u8 (↑((List.drop 8 x).getD (0 + (8 * (↑t.1 : Int)).toNat + Int.toNat 4 + i) 0) : Int)] = [AV.int .u8 (↑(x_3.getD i 0) : Int)]) ∧ True) ∧
 true = true ∧ True) ∧ Oct x_3 ∧ ∀ (y : Unit), True → ∀ (m_2 : Int), m_2 = IntKind.i64.wrap (↑(readN x_3) : Int) → Exx SeatT fun x_4 => (((decide (n_1 = (1 :
 Int)) = x_4.live ∧ Tr 1 (m_1 = x_4.gen) ∧ Tr 1 (m_2 = x_4.next) ∧ True) ∧ True) ∧ true = true ∧ True) ∧ SeatI x_4 ∧ ∀ (y : Unit), True → BC (!decide (seatOk
 x_4)) (Exx Unit fun y => (((((3 : Nat) = 3 ∧ (7 : Nat) = 7 ∧ (∀ (i : Nat), i < 7 → [AV.bool false, AV.int .i64 0, AV.int .i64 0] = [AV.bool (getLeafF x i).live,
 AV.int .i64 (getLeafF x i).gen, AV.int .i64 (getLeafF x i).next]) ∧ True) ∧ false = decide (isLeaf x) ∧ True) ∧ True) ∧ true = true ∧ True) ∧ True) (((0 : Int)
 ≤ (↑t.1 : Int) ∧ (↑t.1 : Int) < (↑7 : Int)) ∧ (↑t.1 : Int).toNat < 7 ∧ I64 ((↑t.1 : Int) + 1) ∧ Exx (Nat × Nat) fun t' => (I t' ∧ m t' < m t) ∧ Tr 2 ((true =
 true ∧ NilNil ∧ (0 : Nat) = 0) ∧ Tr 2 (Tr 1 ((↑(tagN x) : Int) = (↑(tagN x) : Int)) ∧ (true = true ∧ NilNil ∧ (0 : Nat) = 0 ∧ (1 : Nat) = 1 ∧ (0 : Nat) = 0 ∧
 (56 : Nat) = 56 ∧ t.2 = t'.snd) ∧ Tr 1 ((true = true ∧ NilNil ∧ (0 : Nat) = 0) ∧ Tr 21 (Tr 1 ((↑t.1 : Int) + 1 = (↑t'.fst : Int)) ∧ Tr 33 True)))) ∧ true = true
 ∧ ((115 : TypeId) = 115 ∧ (3 : Nat) = 3 ∧ (7 : Nat) = 7 ∧ (∀ (i : Nat), i < 7 → [AV.bool seatZ.live, AV.int .i64 seatZ.gen, AV.int .i64 seatZ.next] = [AV.bool
 seatZ.live, AV.int .i64 seatZ.gen, AV.int .i64 seatZ.next]) ∧ True) ∧ ((5 : TypeId) = 5 ∧ (1 : Nat) = 1 ∧ t.2 = t'.snd ∧ (56 : Nat) ≤ (56 : Nat) ∧ ∀ (i : Nat),
 i < 56 → [AV.int .u8 (↑((List.drop 8 x).getD i 0) : Int)] = [AV.int .u8 (↑((List.drop 8 x).getD i 0) : Int)]) ∧ ((115 : TypeId) = 115 ∧ (3 : Nat) = 3 ∧ (7 :
 Nat) = 7 ∧ (∀ (i : Nat), i < 7 → [AV.bool (if i = (↑t.1 : Int).toNat then decide (n_1 = (1 : Int)) else (if i < t.1 then seatAt x i else seatZ).live), AV.int
 .i64 (if i = (↑t.1 : Int).toNat then m_1 else (if i < t.1 then seatAt x i else seatZ).gen), AV.int .i64 (if i = (↑t.1 : Int).toNat then m_2 else (if i < t.1
 then seatAt x i else seatZ).next)] = [AV.bool (if i < t'.fst then seatAt x i else seatZ).live, AV.int .i64 (if i < t'.fst then seatAt x i else seatZ).gen,
 AV.int .i64 (if i < t'.fst then seatAt x i else seatZ).next]) ∧ True) ∧ True)) ∧ Exx (List Nat) fun x_2 => (((0 + (8 * (↑t.1 : Int)).toNat + 0 + (Int.toNat 4 -
 0) ≤ 56 ∧ Int.toNat 4 - 0 = x_2.length ∧ ∀ (i : Nat), i < x_2.length → [AV.int .u8 (↑((List.drop 8 x).getD (0 + (8 * (↑t.1 : Int)).toNat + 0 + i) 0) : Int)] =
 [AV.int .u8 (↑(x_2.getD i 0) : Int)]) ∧ True) ∧ true = true ∧ True) ∧ Oct x_2 ∧ ∀ (y : Unit), True → ∀ (m_1 : Int), m_1 = IntKind.i64.wrap (↑(readN x_2) : Int)
 → Exx (List Nat) fun x_3 => (((0 + (8 * (↑t.1 : Int)).toNat + Int.toNat 4 + ((8 * ((↑t.1 : Int) + 1)).toNat - (8 * (↑t.1 : Int)).toNat - Int.toNat 4) ≤ 56 ∧ (8
 * ((↑t.1 : Int) + 1)).toNat - (8 * (↑t.1 : Int)).toNat - Int.toNat 4 = x_3.length ∧ ∀ (i : Nat), i < x_3.length → [AV.int .u8 (↑((List.drop 8 x).getD (0 + (8 *
 (↑t.1 : Int)).toNat + Int.toNat 4 + i) 0) : Int)] = [AV.int .u8 (↑(x_3.getD i 0) : Int)]) ∧ True) ∧ true = true ∧ True) ∧ Oct x_3 ∧ ∀ (y : Unit), True → ∀ (m_2
 : Int), m_2 = IntKind.i64.wrap (↑(readN x_3) : Int) → Exx SeatT fun x_4 => (((decide (n_1 = (1 : Int)) = x_4.live ∧ Tr 1 (m_1 = x_4.gen) ∧ Tr 1 (m_2 = x_4.next)
 ∧ True) ∧ True) ∧ true = true ∧ True) ∧ SeatI x_4 ∧ ∀ (y : Unit), True → BC (!decide (seatOk x_4)) (Exx Unit fun y => (((((3 : Nat) = 3 ∧ (7 : Nat) = 7 ∧ (∀ (i
 : Nat), i < 7 → [AV.bool false, AV.int .i64 0, AV.int .i64 0] = [AV.bool (getLeafF x i).live, AV.int .i64 (getLeafF x i).gen, AV.int .i64 (getLeafF x i).next])
 ∧ True) ∧ false = decide (isLeaf x) ∧ True) ∧ True) ∧ true = true ∧ True) ∧ True) (((0 : Int) ≤ (↑t.1 : Int) ∧ (↑t.1 : Int) < (↑7 : Int)) ∧ (↑t.1 : Int).toNat <
 7 ∧ I64 ((↑t.1 : Int) + 1) ∧ Exx (Nat × Nat) fun t' => (I t' ∧ m t' < m t) ∧ Tr 2 ((true = true ∧ NilNil ∧ (0 : Nat) = 0) ∧ Tr 2 (Tr 1 ((↑(tagN x) : Int) =
 (↑(tagN x) : Int)) ∧ (true = true ∧ NilNil ∧ (0 : Nat) = 0 ∧ (1 : Nat) = 1 ∧ (0 : Nat) = 0 ∧ (56 : Nat) = 56 ∧ t.2 = t'.snd) ∧ Tr 1 ((true = true ∧ NilNil ∧ (0
 : Nat) = 0) ∧ Tr 21 (Tr 1 ((↑t.1 : Int) + 1 = (↑t'.fst : Int)) ∧ Tr 33 True)))) ∧ true = true ∧ ((115 : TypeId) = 115 ∧ (3 : Nat) = 3 ∧ (7 : Nat) = 7 ∧ (∀ (i :
 Nat), i < 7 → [AV.bool seatZ.live, AV.int .i64 seatZ.gen, AV.int .i64 seatZ.next] = [AV.bool seatZ.live, AV.int .i64 seatZ.gen, AV.int .i64 seatZ.next]) ∧ True)
 ∧ ((5 : TypeId) = 5 ∧ (1 : Nat) = 1 ∧ t.2 = t'.snd ∧ (56 : Nat) ≤ (56 : Nat) ∧ ∀ (i : Nat), i < 56 → [AV.int .u8 (↑((List.drop 8 x).getD i 0) : Int)] = [AV.int
 .u8 (↑((List.drop 8 x).getD i 0) : Int)]) ∧ ((115 : TypeId) = 115 ∧ (3 : Nat) = 3 ∧ (7 : Nat) = 7 ∧ (∀ (i : Nat), i < 7 → [AV.bool (if i = (↑t.1 : Int).toNat
 then decide (n_1 = (1 : Int)) else (if i < t.1 then seatAt x i else seatZ).live), AV.int .i64 (if i = (↑t.1 : Int).toNat then m_1 else (if i < t.1 then seatAt x
 i else seatZ).gen), AV.int .i64 (if i = (↑t.1 : Int).toNat then m_2 else (if i < t.1 then seatAt x i else seatZ).next)] = [AV.bool (if i < t'.fst then seatAt x
 i else seatZ).live, AV.int .i64 (if i < t'.fst then seatAt x i else seatZ).gen, AV.int .i64 (if i < t'.fst then seatAt x i else seatZ).next]) ∧ True) ∧ True))
 (Exx Unit fun y => (((((3 : Nat) = 3 ∧ (7 : Nat) = 7 ∧ (∀ (i : Nat), i < 7 → [AV.bool (if i < t.1 then seatAt x i else seatZ).live, AV.int .i64 (if i < t.1 then
 seatAt x i else seatZ).gen, AV.int .i64 (if i < t.1 then seatAt x i else seatZ).next] = [AV.bool (getLeafF x i).live, AV.int .i64 (getLeafF x i).gen, AV.int
 .i64 (getLeafF x i).next]) ∧ True) ∧ true = decide (isLeaf x) ∧ True) ∧ True) ∧ true = true ∧ True) ∧ True))))) = (fnVC tb [(49, specOf rightSeatC), (76, specOf openC), (78, specOf readC)] Tryd.f68 getLeafC (fun x => { loops := [(6, getLeafLA x)], loose := [(9, [2])] }) (fun _ => none)) := by kernel_rfl 

theorem getLeaf_ok : SpecOk Tryd.prog 68 (specOf getLeafC) := by
  refine specOk mixed tb_ok (SPok.cons rightSeat_ok (SPok.cons open_ok (SPok.cons read_ok SPok.nil))) Tryd.func68 (by decide) (pureC_ok fun _ => ⟨⟨fun _ _ => ⟨rfl, rfl, rfl, trivial⟩, trivial⟩, rfl, trivial⟩) (an := (fun x => { loops := [(6, getLeafLA x)], loose := [(9, [2])] })) (σ := (fun _ => none)) ?_
  rw [← getLeafV]
  simp (maxSteps := 10000000) only [and_false, false_and, false_or, or_false, bOf_true, bOf_false, true_bOf, false_bOf, Exx, int_ite, merge_o, Tr_eq, true_and, and_true, exists_const, forall_const, implies_true, forall_eq, exists_eq, exists_eq', exists_eq_left, exists_eq_left', exists_eq_right, Prod.exists, Prod.forall, and_assoc, exists_and_left, BC_iff, Bool.not_eq_true', Bool.not_eq_false', decide_eq_true_eq, decide_eq_false_iff_not, I64, nat_cast_inj, Int.toNat_natCast, nats_iff, nats_iff', ints_iff, ints_iff', natss_iff, natss_iff', nilnil, litL_eq, str_inj, str_append, str_length, str_getD, str_take, lit1_iff, one_iff, two_iff, one_get, Nat.zero_add, Nat.sub_zero, Nat.reduceMul, Nat.reduceDiv, Nat.reduceAdd, Int.reduceToNat, Nat.not_lt_zero, if_false, if_true, Nat.le_refl, List.length_singleton, List.length_cons, List.length_nil, Bool.false_eq_true, not_true_eq_false, false_implies, not_false_eq_true, Prod.mk.injEq]
  rintro b ⟨hb, hl⟩
  refine ⟨⟨hb, hl⟩, fun y hy => ?_⟩
  have hno : ¬ isLeaf b → ((∀ i, i < 7 → [AV.bool false, AV.int IntKind.i64 0, AV.int IntKind.i64 0] = [AV.bool (getLeafF b i).live, AV.int IntKind.i64 (getLeafF b i).gen, AV.int IntKind.i64 (getLeafF b i).next]) ∧ false = decide (isLeaf b)) := fun h =>
    ⟨fun i _ => by rw [getLeafF, if_neg h]; rfl, (decide_eq_false h).symm⟩
  refine ⟨fun h => hno (fun k => h k.1), fun hr => ⟨fun h => hno (fun k => h (by rw [kindN, if_pos hr, k.2.1]; rfl)), fun hk => ⟨fun h => hno (fun k => by have := k.2.2.1; rw [tagN, if_pos hr] at h; omega), fun ht => ?_⟩⟩⟩
  have h64 := hr.1
  have hB : bodyL b = b.drop 8 := if_pos hr
  have hK : b.getD 4 0 = 2 := by rw [kindN, if_pos hr] at hk; omega
  have hT : tagN b = b.getD 5 0 := if_pos hr
  have hT2 : b.getD 5 0 < 128 := by rw [hT] at ht; omega
  have hlen : (b.drop 8).length = 56 := by rw [List.length_drop]; omega
  rw [hB] at hy ⊢
  rw [hT]
  refine ⟨fun s => s.1 ≤ 7 ∧ 56 ≤ s.2 ∧ ∀ j, j < s.1 → seatOk (seatAt b j), ⟨0, y, ⟨by omega, by omega, fun j hj => absurd hj (Nat.not_lt_zero _)⟩, hlen, rfl, rfl, fun _ _ => rfl, rfl, by omega, fun _ _ => rfl, fun i _ => rfl⟩, fun s => 7 - s.1, fun a c hac => ⟨fun hlt => ?_, fun hge => ?_⟩⟩
  · obtain ⟨ha7, hc, hall⟩ := hac
    have e8 : (8 * (a : Int)).toNat = 8 * a := by omega
    have e9 : (8 * ((a : Int) + 1)).toNat = 8 * a + 8 := by omega
    rw [e8, e9]
    simp only at ha7 hc hall
    have hd1 : ((b.drop (8 + 8 * a)).take 4).length = 4 := by rw [List.length_take, List.length_drop]; omega
    have hd2 : ((b.drop (12 + 8 * a)).take 4).length = 4 := by rw [List.length_take, List.length_drop]; omega
    have g1 : 4 = ((b.drop (8 + 8 * a)).take 4).length := hd1.symm
    have g2 : 8 * a + 8 - 8 * a - 4 = ((b.drop (12 + 8 * a)).take 4).length := by rw [hd2]; omega
    have hg1 : ∀ i, i < ((b.drop (8 + 8 * a)).take 4).length → [AV.int IntKind.u8 (((b.drop 8).getD (8 * a + 0 + i) 0 : Nat) : Int)] = [AV.int IntKind.u8 ((((b.drop (8 + 8 * a)).take 4).getD i 0 : Nat) : Int)] := fun i hi => by
      rw [hd1] at hi
      rw [getD_take, if_pos hi, getD_drop, getD_drop, show 8 + (8 * a + 0 + i) = 8 + 8 * a + i by omega]
    have hg2 : ∀ i, i < ((b.drop (12 + 8 * a)).take 4).length → [AV.int IntKind.u8 (((b.drop 8).getD (8 * a + 4 + i) 0 : Nat) : Int)] = [AV.int IntKind.u8 ((((b.drop (12 + 8 * a)).take 4).getD i 0 : Nat) : Int)] := fun i hi => by
      rw [hd2] at hi
      rw [getD_take, if_pos hi, getD_drop, getD_drop, show 8 + (8 * a + 4 + i) = 12 + 8 * a + i by omega]
    have ho1 : Oct ((b.drop (8 + 8 * a)).take 4) := ⟨fun x hx => hb x (List.mem_of_mem_drop (List.mem_of_mem_take hx)), by omega⟩
    have ho2 : Oct ((b.drop (12 + 8 * a)).take 4) := ⟨fun x hx => hb x (List.mem_of_mem_drop (List.mem_of_mem_take hx)), by omega⟩
    have hn1 := numN_k (l := b.drop (8 + 8 * a)) (k := 4) (fun c hc => hb c (List.mem_of_mem_drop hc)) (by omega)
    have hn2 := numN_k (l := b.drop (12 + 8 * a)) (k := 4) (fun c hc => hb c (List.mem_of_mem_drop hc)) (by omega)
    have hr1 : readN ((b.drop (8 + 8 * a)).take 4) = numN ((b.drop (8 + 8 * a)).take 4) := readN_take (by omega)
    have hr2 : readN ((b.drop (12 + 8 * a)).take 4) = numN ((b.drop (12 + 8 * a)).take 4) := readN_take (by omega)
    have hw1 : IntKind.i64.wrap ((readN ((b.drop (8 + 8 * a)).take 4) : Nat) : Int) = (seatAt b a).gen := by rw [hr1]; exact wrap_I64 ⟨by omega, by omega⟩
    have hw2 : IntKind.i64.wrap ((readN ((b.drop (12 + 8 * a)).take 4) : Nat) : Int) = (seatAt b a).next := by rw [hr2]; exact wrap_I64 ⟨by omega, by omega⟩
    have hlv : decide (bits BinOp.and IntKind.i64 (((b.getD 5 0 : Nat) : Int).fdiv (2 ^ min a IntKind.i64.bits)) 1 = 1) = (seatAt b a).live := live_at (by omega) (by omega)
    have hend : ∃ x : SeatT, decide (bits BinOp.and IntKind.i64 (((b.getD 5 0 : Nat) : Int).fdiv (2 ^ min a IntKind.i64.bits)) 1 = 1) = x.live ∧ IntKind.i64.wrap ((readN ((b.drop (8 + 8 * a)).take 4) : Nat) : Int) = x.gen ∧ IntKind.i64.wrap ((readN ((b.drop (12 + 8 * a)).take 4) : Nat) : Int) = x.next ∧ SeatI x ∧ (¬ seatOk x → (∀ i, i < 7 → [AV.bool false, AV.int IntKind.i64 0, AV.int IntKind.i64 0] = [AV.bool (getLeafF b i).live, AV.int IntKind.i64 (getLeafF b i).gen, AV.int IntKind.i64 (getLeafF b i).next]) ∧ false = decide (isLeaf b)) ∧ (seatOk x → 0 ≤ (a : Int) ∧ (a : Int) < ((7 : Nat) : Int) ∧ a < 7 ∧ -9223372036854775808 ≤ (a : Int) + 1 ∧ (a : Int) + 1 ≤ 9223372036854775807 ∧ ∃ (a_4 : Nat) (b_2 : Nat), (a_4 ≤ 7 ∧ 56 ≤ b_2 ∧ ∀ j, j < a_4 → seatOk (seatAt b j)) ∧ 7 - a_4 < 7 - a ∧ c = b_2 ∧ (a : Int) + 1 = (a_4 : Int) ∧ c = b_2 ∧ ∀ i, i < 7 → (AV.bool (if i = a then decide (bits BinOp.and IntKind.i64 (((b.getD 5 0 : Nat) : Int).fdiv (2 ^ min a IntKind.i64.bits)) 1 = 1) else (if i < a then seatAt b i else seatZ).live) :: AV.int IntKind.i64 (if i = a then IntKind.i64.wrap ((readN ((b.drop (8 + 8 * a)).take 4) : Nat) : Int) else (if i < a then seatAt b i else seatZ).gen) :: if i = a then [AV.int IntKind.i64 (IntKind.i64.wrap ((readN ((b.drop (12 + 8 * a)).take 4) : Nat) : Int))] else [AV.int IntKind.i64 (if i < a then seatAt b i else seatZ).next]) = [AV.bool (if i < a_4 then seatAt b i else seatZ).live, AV.int IntKind.i64 (if i < a_4 then seatAt b i else seatZ).gen, AV.int IntKind.i64 (if i < a_4 then seatAt b i else seatZ).next]) := by
      refine ⟨seatAt b a, hlv, hw1, hw2, seatAt_I hb a, fun hs => hno (fun k => hs (k.2.2.2 a (by omega))), fun hs => ⟨by omega, by omega, by omega, by omega, by omega, a + 1, c, ⟨by omega, hc, fun j hj => ?_⟩, by omega, rfl, by omega, rfl, fun i hi => ?_⟩⟩
      · by_cases e : j = a
        · rw [e]; exact hs
        · exact hall j (by omega)
      · rw [hlv, hw1, hw2]
        by_cases e : i = a
        · subst e; rw [if_pos rfl, if_pos rfl, if_pos rfl, if_pos (by omega)]
        · rw [if_neg e, if_neg e, if_neg e]
          by_cases e2 : i < a
          · rw [if_pos e2, if_pos (by omega)]
          · rw [if_neg e2, if_neg (by omega)]
    have hin : 8 * a + 0 + 4 ≤ 56 := by omega
    have hin2 : 8 * a + 4 + (8 * a + 8 - 8 * a - 4) ≤ 56 := by omega
    refine ⟨by omega, by omega, by omega, by omega, by omega, by omega, by omega, by omega, by omega, by omega, by omega, by omega, by omega, by omega, by omega, by omega, by omega, hin, ?_⟩
    exact ⟨⟨_, g1, hg1, ho1, hin2, ⟨_, g2, hg2, ho2, hend⟩, hin2, ⟨_, g2, hg2, ho2, hend⟩⟩, hin, ⟨_, g1, hg1, ho1, hin2, ⟨_, g2, hg2, ho2, hend⟩⟩⟩
  · obtain ⟨ha7, hc, hall⟩ := hac
    simp only at ha7 hc hall
    have ha : a = 7 := by omega
    subst ha
    have hok : isLeaf b := ⟨hr, hK, hT2, hall⟩
    exact ⟨fun i hi => by rw [if_pos hi, getLeafF, if_pos hok], (decide_eq_true hok).symm⟩

def putFanLA (f : Nat → Int) : LA := { T := Unit, F := fun _ => frm 25 [(4, .nils), (11, fanA f), (12, i64 0)], H := fun i => [.fence, .cells 112 (fanV f)] }
def putFanLB (f : Nat → Int) : LA := { T := Nat × Nat, F := fun s => frm 25 [(4, .sl 2 [] 0 1 0 (2 * s.1) s.2), (11, fanA f), (12, i64 (s.1 : Nat))], H := fun s => [.fence, .cells 112 (fanV f), .row 5 1 s.2 (2 * s.1) (fun i => [.int .u8 (((kidsL f s.1).getD i 0 : Nat) : Int)])], ρ₂ := rowRenQ 4 2 }

theorem putFanV : (∀ (x : Nat → Int), (∀ (i : Nat), i < 16 → I64 (x i)) → Exx (Nat → Int) fun x_1 => ((((1 : Nat) = 1 ∧ (16 : Nat) = 16 ∧ (∀ (i : Nat), i < 16 →
 [AV.int .i64 (x i)] = [AV.int .i64 (x_1 i)]) ∧ True) ∧ True) ∧ true = true ∧ True) ∧ (∀ (i : Nat), i < 16 → I64 (x_1 i)) ∧ ∀ (y : Unit), True → BC (!decide
 (fanOk x_1)) (Exx Nat fun y => (((((putFanL x).length = 0 ∧ y = 0) ∧ false = decide (fanOk x) ∧ True) ∧ True) ∧ true = true ∧ (y = 0 ∧ (putFanL x).length = 0) ∧
 True) ∧ (putFanL x).length ≤ y) (Exx (Unit → Prop) fun I => Exx (Nat × Nat → Prop) fun J => Exx (Unit → Nat) fun m => Exx (Nat × Nat → Nat) fun n => ((Exx Unit
 fun t => I t ∧ Tr 11 (((1 : Nat) = 1 ∧ (16 : Nat) = 16 ∧ (∀ (i : Nat), i < 16 → [AV.int .i64 (x i)] = [AV.int .i64 (x i)]) ∧ True) ∧ Tr 1 ((0 : Int) = 0) ∧ Tr
 12 True) ∧ true = true ∧ ((112 : Nat) = (112 : TypeId) ∧ (1 : Nat) = 1 ∧ (16 : Nat) = 16 ∧ (∀ (i : Nat), i < 16 → [AV.int .i64 (x i)] = [AV.int .i64 (x i)]) ∧
 True) ∧ True) ∨ Exx (Nat × Nat) fun t => J t ∧ Tr 4 ((2 * t.1 = 0 ∧ t.2 = 0) ∧ Tr 6 (((1 : Nat) = 1 ∧ (16 : Nat) = 16 ∧ (∀ (i : Nat), i < 16 → [AV.int .i64 (x
 i)] = [AV.int .i64 (x i)]) ∧ True) ∧ Tr 1 ((0 : Int) = (↑t.1 : Int)) ∧ Tr 12 True)) ∧ true = true ∧ ((112 : Nat) = (112 : TypeId) ∧ (1 : Nat) = 1 ∧ (16 : Nat) =
 16 ∧ (∀ (i : Nat), i < 16 → [AV.int .i64 (x i)] = [AV.int .i64 (x i)]) ∧ True) ∧ (t.2 = 0 ∧ 2 * t.1 = 0) ∧ True) ∧ (∀ (t : Unit), I t → ((0 : Int) ≤ (0 : Int) ∧
 (0 : Int) < (↑(16 : Nat) : Int) ∧ (0 : Int) < (↑(16 : Nat) : Int)) ∧ ∀ (m_1 : Int), m_1 = IntKind.u64.wrap (x (Int.toNat 0)) → Exx (Nat × Int) fun x_2 => ((Tr 1
 (m_1 = (↑x_2.1 : Int)) ∧ Tr 1 ((2 : Int) = x_2.2) ∧ True) ∧ true = true ∧ True) ∧ (U64 x_2.1 ∧ I64 x_2.2) ∧ ∀ (y : Nat), (layL x_2.1 x_2.2).length ≤ y → 0 +
 (layL x_2.1 x_2.2).length ≤ (layL x_2.1 x_2.2).length ∧ ((layL x_2.1 x_2.2).length ≤ 9223372036854775807 ∧ (layL x_2.1 x_2.2).length * 1 ≤ 140737488355328) ∧ ∀
 (cap : Nat), (layL x_2.1 x_2.2).length ≤ cap ∧ cap ≤ 9223372036854775807 → I64 (0 + 1) ∧ ((Exx Unit fun t' => (I t' ∧ m t' < m t) ∧ Tr 4 (False ∧ Tr 6 (((1 :
 Nat) = 1 ∧ (16 : Nat) = 16 ∧ (∀ (i : Nat), i < 16 → [AV.int .i64 (x i)] = [AV.int .i64 (x i)]) ∧ True) ∧ Tr 1 ((0 : Int) + (1 : Int) = 0) ∧ Tr 12 True)) ∧ true
 = true ∧ ((112 : TypeId) = 112 ∧ (1 : Nat) = 1 ∧ (16 : Nat) = 16 ∧ (∀ (i : Nat), i < 16 → [AV.int .i64 (x i)] = [AV.int .i64 (x i)]) ∧ True) ∧ True) ∨ Exx (Nat
 × Nat) fun t' => (J t' ∧ n t' < m t) ∧ Tr 4 ((true = true ∧ NilNil ∧ (0 : Nat) = 0 ∧ (1 : Nat) = 1 ∧ (0 : Nat) = 0 ∧ (layL x_2.1 x_2.2).length = 2 * t'.fst ∧
 cap = t'.snd) ∧ Tr 6 (((1 : Nat) = 1 ∧ (16 : Nat) = 16 ∧ (∀ (i : Nat), i < 16 → [AV.int .i64 (x i)] = [AV.int .i64 (x i)]) ∧ True) ∧ Tr 1 (0 + 1 = (↑t'.fst :
 Int)) ∧ Tr 12 True)) ∧ true = true ∧ ((112 : TypeId) = 112 ∧ (1 : Nat) = 1 ∧ (16 : Nat) = 16 ∧ (∀ (i : Nat), i < 16 → [AV.int .i64 (x i)] = [AV.int .i64 (x i)])
 ∧ True) ∧ ((5 : TypeId) = 5 ∧ (1 : Nat) = 1 ∧ cap = t'.snd ∧ 2 * t'.fst ≤ (layL x_2.1 x_2.2).length ∧ ∀ (i : Nat), i < 2 * t'.fst → [AV.int .u8 (↑((layL x_2.1
 x_2.2).getD (0 + i) 0) : Int)] = [AV.int .u8 (↑((kidsL x t'.fst).getD i 0) : Int)]) ∧ True)) ∧ ∀ (t : Nat × Nat), J t → BC (decide ((↑t.1 : Int) < (16 : Int)))
 (((0 : Int) ≤ (↑t.1 : Int) ∧ (↑t.1 : Int) < (↑16 : Int) ∧ (↑t.1 : Int) < (↑16 : Int)) ∧ ∀ (m_1 : Int), m_1 = IntKind.u64.wrap (x (↑t.1 : Int).toNat) → Exx (Nat
 × Int) fun x_2 => ((Tr 1 (m_1 = (↑x_2.1 : Int)) ∧ Tr 1 ((2 : Int) = x_2.2) ∧ True) ∧ true = true ∧ True) ∧ (U64 x_2.1 ∧ I64 x_2.2) ∧ ∀ (y : Nat), (layL x_2.1
 x_2.2).length ≤ y → 0 + (layL x_2.1 x_2.2).length ≤ (layL x_2.1 x_2.2).length ∧ true = true ∧ (2 * t.1 ≤ 2 * t.1 ∧ t.2 = t.2) ∧ (2 * t.1 + (layL x_2.1
 x_2.2).length ≤ 9223372036854775807 ∧ (2 * t.1 + (layL x_2.1 x_2.2).length) * 1 ≤ 140737488355328) ∧ ∀ (cap : Nat), 2 * t.1 + (layL x_2.1 x_2.2).length ≤ cap ∧
 cap ≤ 9223372036854775807 → I64 ((↑t.1 : Int) + 1) ∧ ((Exx Unit fun t' => (I t' ∧ m t' < n t) ∧ Tr 4 (False ∧ Tr 6 (((1 : Nat) = 1 ∧ (16 : Nat) = 16 ∧ (∀ (i :
 Nat), i < 16 → [AV.int .i64 (x i)] = [AV.int .i64 (x i)]) ∧ True) ∧ Tr 1 ((↑t.1 : Int) + 1 = (0 : Int)) ∧ Tr 12 True)) ∧ true = true ∧ ((112 : TypeId) = 112 ∧
 (1 : Nat) = 1 ∧ (16 : Nat) = 16 ∧ (∀ (i : Nat), i < 16 → [AV.int .i64 (x i)] = [AV.int .i64 (x i)]) ∧ True) ∧ True) ∨ Exx (Nat × Nat) fun t' => (J t' ∧ n t' < n
 t) ∧ Tr 4 ((true = true ∧ NilNil ∧ (0 : Nat) = 0 ∧ (1 : Nat) = 1 ∧ (0 : Nat) = 0 ∧ 2 * t.1 + (layL x_2.1 x_2.2).length = 2 * t'.fst ∧ cap = t'.snd) ∧ Tr 6 (((1
 : Nat) = 1 ∧ (16 : Nat) = 16 ∧ (∀ (i : Nat), i < 16 → [AV.int .i64 (x i)] = [AV.int .i64 (x i)]) ∧ True) ∧ Tr 1 ((↑t.1 : Int) + 1 = (↑t'.fst : Int)) ∧ Tr 12
 True)) ∧ true = true ∧ ((112 : TypeId) = 112 ∧ (1 : Nat) = 1 ∧ (16 : Nat) = 16 ∧ (∀ (i : Nat), i < 16 → [AV.int .i64 (x i)] = [AV.int .i64 (x i)]) ∧ True) ∧ ((5
 : TypeId) = 5 ∧ (1 : Nat) = 1 ∧ cap = t'.snd ∧ 2 * t'.fst ≤ 2 * t.1 + (layL x_2.1 x_2.2).length ∧ ∀ (i : Nat), i < 2 * t'.fst → (if i < 2 * t.1 then [AV.int .u8
 (↑((kidsL x t.1).getD i 0) : Int)] else [AV.int .u8 (↑((layL x_2.1 x_2.2).getD (0 + (i - 2 * t.1)) 0) : Int)]) = [AV.int .u8 (↑((kidsL x t'.fst).getD i 0) :
 Int)]) ∧ True)) (Exx (Int × Int × List Nat) fun x_2 => ((Tr 1 ((3 : Int) = x_2.1) ∧ Tr 1 ((0 : Int) = x_2.2.1) ∧ (0 + 2 * t.1 ≤ 2 * t.1 ∧ 2 * t.1 =
 x_2.2.2.length ∧ ∀ (i : Nat), i < x_2.2.2.length → [AV.int .u8 (↑((kidsL x t.1).getD (0 + i) 0) : Int)] = [AV.int .u8 (↑(x_2.2.2.getD i 0) : Int)]) ∧ True) ∧
 true = true ∧ True) ∧ (I64 x_2.1 ∧ I64 x_2.2.1 ∧ Oct x_2.2.2) ∧ ∀ (y : Nat), (sealL x_2.1 x_2.2.1 x_2.2.2).length ≤ y → Exx Nat fun y_1 => ((((true = true ∧
 NilNil ∧ (0 : Nat) = 0 ∧ (1 : Nat) = 1 ∧ (0 : Nat) = 0 ∧ (sealL x_2.1 x_2.2.1 x_2.2.2).length = (putFanL x).length ∧ y = y_1) ∧ decide (sealOk x_2.1 x_2.2.1
 x_2.2.2) = decide (fanOk x) ∧ True) ∧ True) ∧ true = true ∧ ((5 : TypeId) = 5 ∧ (1 : Nat) = 1 ∧ y = y_1 ∧ (putFanL x).length ≤ (sealL x_2.1 x_2.2.1
 x_2.2.2).length ∧ ∀ (i : Nat), i < (putFanL x).length → [AV.int .u8 (↑((sealL x_2.1 x_2.2.1 x_2.2.2).getD i 0) : Int)] = [AV.int .u8 (↑((putFanL x).getD i 0) :
 Int)]) ∧ True) ∧ (putFanL x).length ≤ y_1))) = (fnVCo tb [(59, specOf layC), (60, specOf sealC), (63, specOf rightFanC)] Tryd.f52 putFanC (fun x => { loops2 := [(5, putFanLA x, putFanLB x)] }) (fun _ av _ => tupSl1 av) (fun _ => []) (fun _ _ _ _ => [])) := by kernel_rfl 

theorem putFan_ok : SpecOk Tryd.prog 52 (specOf putFanC) := by
  refine specOko mixed tb_ok (SPok.cons lay_ok (SPok.cons seal_ok (SPok.cons rightFan_ok SPok.nil))) Tryd.func52 (by decide) (rowC_ok fun _ _ _ => ⟨rfl, rfl, trivial⟩) (an := (fun x => { loops2 := [(5, putFanLA x, putFanLB x)] })) (σ := (fun _ av _ => tupSl1 av)) (op := (fun _ => [])) (cl := (fun _ _ _ _ => [])) ?_
  rw [← putFanV]
  simp (maxSteps := 10000000) only [and_false, false_and, false_or, or_false, bOf_true, bOf_false, true_bOf, false_bOf, Exx, int_ite, merge_o, Tr_eq, true_and, and_true, exists_const, forall_const, implies_true, forall_eq, exists_eq, exists_eq', exists_eq_left, exists_eq_left', exists_eq_right, Prod.exists, Prod.forall, and_assoc, exists_and_left, BC_iff, Bool.not_eq_true', Bool.not_eq_false', decide_eq_true_eq, decide_eq_false_iff_not, I64, nat_cast_inj, Int.toNat_natCast, nats_iff, nats_iff', ints_iff, ints_iff', natss_iff, natss_iff', nilnil, litL_eq, str_inj, str_append, str_length, str_getD, str_take, lit1_iff, one_iff, two_iff, one_get, Nat.zero_add, Nat.sub_zero, Nat.reduceMul, Nat.reduceDiv, Nat.reduceAdd, Int.reduceToNat, Nat.not_lt_zero, if_false, if_true, Nat.le_refl, List.length_singleton, List.length_cons, List.length_nil, Bool.false_eq_true, not_true_eq_false, false_implies, not_false_eq_true, Prod.mk.injEq]
  rintro f hf
  refine ⟨f, fun _ _ => rfl, hf, fun hn => ?_, fun hok => ?_⟩
  · rw [putFanL, if_neg hn]; exact ⟨rfl, (decide_eq_false hn).symm, rfl, Nat.le_refl _⟩
  have hk : ∀ i, i < 16 → 0 ≤ f i ∧ f i ≤ 3071 := fun i hi => by have := hok i hi; unfold kidOk at this; omega
  have hone : kidsL f 1 = layN (f 0).toNat 2 := by rw [kidsL_succ]; rfl
  refine ⟨fun _ => True, fun s => 1 ≤ s.1 ∧ s.1 ≤ 16, .inl ⟨(), trivial⟩, fun _ => 17, fun s => 16 - s.1, fun _ _ => ?_, fun a b hab => ⟨fun hlt => ?_, fun hge => ?_⟩⟩
  · have h0 := hk 0 (by omega)
    refine ⟨by omega, by omega, by omega, (f 0).toNat, u64_toNat h0.1 (by omega), by unfold U64; omega, by omega, by omega, fun y hy => ?_⟩
    rw [layL_2, layN_length]
    exact ⟨by omega, by omega, fun cap hcap => ⟨by omega, by omega, 1, cap, ⟨by omega, by omega⟩, by simp only; omega, rfl, rfl, rfl, rfl, by omega, fun i hi => by rw [hone]⟩⟩
  · obtain ⟨h1, h16⟩ := hab
    have h0 := hk a (by omega)
    refine ⟨by omega, by omega, by omega, (f a).toNat, u64_toNat h0.1 (by omega), by unfold U64; omega, by omega, by omega, fun y hy => ?_⟩
    rw [layL_2, layN_length]
    exact ⟨by omega, by omega, fun cap hcap => ⟨by omega, by omega, a + 1, cap, ⟨by simp only; omega, by simp only; omega⟩, by simp only; omega, by omega, rfl, by omega, rfl, by omega, fun i hi => by
      rw [kidsL_succ]; exact snoc1 (c := fun v => [AV.int IntKind.u8 ((v : Nat) : Int)]) (kidsL_length f a)⟩⟩
  · obtain ⟨h1, h16⟩ := hab
    have ha : a = 16 := by simp only at h16; omega
    subst ha
    have hsl := kidsL_length f 16
    have hse : sealOk 3 0 (kidsL f 16) := ⟨by omega, by omega, by omega, by omega, by omega⟩
    refine ⟨kidsL f 16, hsl.symm, fun _ _ => rfl, by omega, by omega, by omega, by omega, ⟨kidsL_lt f 16, by omega⟩, fun y hy => ?_⟩
    have e : sealL 3 0 (kidsL f 16) = putFanL f := by rw [sealL, if_pos hse, putFanL, if_pos hok]; rfl
    rw [e] at hy ⊢
    exact ⟨rfl, decide_eq_decide.2 ⟨fun _ => hok, fun _ => hse⟩, Nat.le_refl _, fun _ _ => rfl, hy⟩

def getFanLA (b : List Nat) : LA := { T := Nat × Nat, F := fun s => frm 57 [(2, .ptr 1 [] 0), (6, .sl 2 [] 0 1 0 56 s.2), (8, .ptr 3 [] 0), (36, i64 (s.1 : Nat))], H := fun s => [.fence, .cells 112 (fanV fun _ => 0), .row 5 1 s.2 56 (fun i => [.int .u8 (((b.drop 8).getD i 0 : Nat) : Int)]), .cells 112 [.arr 1 16 (fun i => [i64 (if i < s.1 then kidAt b i else 0)])]] }

theorem getFanV : (∀ (x : List Nat), Oct x → Exx (List Nat) fun x_1 => (((x.length = x_1.length ∧ ∀ (i : Nat), i < x_1.length → [AV.int .u8 (↑(x.getD i 0) :
 Int)] = [AV.int .u8 (↑(x_1.getD i 0) : Int)]) ∧ True) ∧ true = true ∧ True) ∧ Oct x_1 ∧ ∀ (y : Nat), (bodyL x_1).length ≤ y → BC (!decide (rightP x_1)) (Exx
 Unit fun y => (((((1 : Nat) = 1 ∧ (16 : Nat) = 16 ∧ (∀ (i : Nat), i < 16 → [AV.int .i64 0] = [AV.int .i64 (getFanF x i)]) ∧ True) ∧ false = decide (isFan x) ∧
 True) ∧ True) ∧ true = true ∧ True) ∧ True) (BC (!decide ((↑(kindN x_1) : Int) = (3 : Int))) (Exx Unit fun y => (((((1 : Nat) = 1 ∧ (16 : Nat) = 16 ∧ (∀ (i :
 Nat), i < 16 → [AV.int .i64 0] = [AV.int .i64 (getFanF x i)]) ∧ True) ∧ false = decide (isFan x) ∧ True) ∧ True) ∧ true = true ∧ True) ∧ True) (BC (!decide
 ((↑(tagN x_1) : Int) = (0 : Int))) (Exx Unit fun y => (((((1 : Nat) = 1 ∧ (16 : Nat) = 16 ∧ (∀ (i : Nat), i < 16 → [AV.int .i64 0] = [AV.int .i64 (getFanF x
 i)]) ∧ True) ∧ false = decide (isFan x) ∧ True) ∧ True) ∧ true = true ∧ True) ∧ True) (I64 ((↑(bodyL x_1).length : Int) - 32) ∧ Exx (List Nat × Int × Int) fun
 x_2 => (((0 + (bodyL x_1).length ≤ (bodyL x_1).length ∧ (bodyL x_1).length = x_2.1.length ∧ ∀ (i : Nat), i < x_2.1.length → [AV.int .u8 (↑((bodyL x_1).getD (0 +
 i) 0) : Int)] = [AV.int .u8 (↑(x_2.1.getD i 0) : Int)]) ∧ Tr 1 ((32 : Int) = x_2.2.1) ∧ Tr 1 ((↑(bodyL x_1).length : Int) - 32 = x_2.2.2) ∧ True) ∧ true = true
 ∧ True) ∧ (Oct x_2.1 ∧ I64 x_2.2.1 ∧ I64 x_2.2.2) ∧ ∀ (y_1 : Unit), True → BC (!noughts x_2.1 x_2.2.1 x_2.2.2) (Exx Unit fun y => (((((1 : Nat) = 1 ∧ (16 : Nat)
 = 16 ∧ (∀ (i : Nat), i < 16 → [AV.int .i64 0] = [AV.int .i64 (getFanF x i)]) ∧ True) ∧ false = decide (isFan x) ∧ True) ∧ True) ∧ true = true ∧ True) ∧ True)
 (Exx (Nat × Nat → Prop) fun I => Exx (Nat × Nat → Nat) fun m => (Exx (Nat × Nat) fun t => I t ∧ Tr 2 ((true = true ∧ NilNil ∧ (0 : Nat) = 0) ∧ Tr 3 ((true =
 true ∧ NilNil ∧ (0 : Nat) = 0 ∧ (1 : Nat) = 1 ∧ (0 : Nat) = 0 ∧ (bodyL x_1).length = 56 ∧ y = t.2) ∧ Tr 1 ((true = true ∧ NilNil ∧ (0 : Nat) = 0) ∧ Tr 27 (Tr 1
 ((0 : Int) = (↑t.1 : Int)) ∧ Tr 20 True)))) ∧ true = true ∧ ((112 : Nat) = (112 : TypeId) ∧ (1 : Nat) = 1 ∧ (16 : Nat) = 16 ∧ (∀ (i : Nat), i < 16 → [AV.int
 .i64 (0 : Int)] = [AV.int .i64 (0 : Int)]) ∧ True) ∧ ((5 : TypeId) = 5 ∧ (1 : Nat) = 1 ∧ y = t.2 ∧ 56 ≤ (bodyL x_1).length ∧ ∀ (i : Nat), i < 56 → [AV.int .u8
 (↑((bodyL x_1).getD i 0) : Int)] = [AV.int .u8 (↑((List.drop 8 x).getD i 0) : Int)]) ∧ ((112 : Nat) = (112 : TypeId) ∧ (1 : Nat) = 1 ∧ (16 : Nat) = 16 ∧ (∀ (i :
 Nat), i < 16 → [AV.int .i64 0] = [AV.int .i64 (if i < t.1 then kidAt x i else 0)]) ∧ True) ∧ True) ∧ ∀ (t : Nat × Nat), I t → BC (decide ((↑t.1 : Int) < (16 :
 Int))) (I64 (2 * (↑t.1 : Int)) ∧ I64 ((↑t.1 : Int) + 1) ∧ I64 (2 * ((↑t.1 : Int) + 1)) ∧ (0 : Int) ≤ 2 * ((↑t.1 : Int) + 1) ∧ (0 : Int) ≤ 2 * (↑t.1 : Int) ∧ ((2
 * (↑t.1 : Int)).toNat ≤ (2 * ((↑t.1 : Int) + 1)).toNat ∧ (2 * ((↑t.1 : Int) + 1)).toNat ≤ t.2) ∧ Exx (List Nat) fun x_3 => (((0 + (2 * (↑t.1 : Int)).toNat + ((2
 * ((↑t.1 : Int) + 1)).toNat - (2 * (↑t.1 : Int)).toNat) ≤ 56 ∧ (2 * ((↑t.1 : Int) + 1)).toNat - (2 * (↑t.1 : Int)).toNat = x_3.length ∧ ∀ (i : Nat), i <
 x_3.length → [AV.int .u8 (↑((List.drop 8 x).getD (0 + (2 * (↑t.1 : Int)).toNat + i) 0) : Int)] = [AV.int .u8 (↑(x_3.getD i 0) : Int)]) ∧ True) ∧ true = true ∧
 True) ∧ Oct x_3 ∧ ∀ (y : Unit), True → ∀ (m_1 : Int), m_1 = IntKind.i64.wrap (↑(readN x_3) : Int) → ((0 : Int) ≤ (↑t.1 : Int) ∧ (↑t.1 : Int) < (↑16 : Int)) ∧
 (↑t.1 : Int).toNat < 16 ∧ I64 ((↑t.1 : Int) + 1) ∧ Exx (Nat × Nat) fun t' => (I t' ∧ m t' < m t) ∧ Tr 2 ((true = true ∧ NilNil ∧ (0 : Nat) = 0) ∧ Tr 3 ((true =
 true ∧ NilNil ∧ (0 : Nat) = 0 ∧ (1 : Nat) = 1 ∧ (0 : Nat) = 0 ∧ (56 : Nat) = 56 ∧ t.2 = t'.snd) ∧ Tr 1 ((true = true ∧ NilNil ∧ (0 : Nat) = 0) ∧ Tr 27 (Tr 1
 ((↑t.1 : Int) + 1 = (↑t'.fst : Int)) ∧ Tr 20 True)))) ∧ true = true ∧ ((112 : TypeId) = 112 ∧ (1 : Nat) = 1 ∧ (16 : Nat) = 16 ∧ (∀ (i : Nat), i < 16 → [AV.int
 .i64 (0 : Int)] = [AV.int .i64 (0 : Int)]) ∧ True) ∧ ((5 : TypeId) = 5 ∧ (1 : Nat) = 1 ∧ t.2 = t'.snd ∧ (56 : Nat) ≤ (56 : Nat) ∧ ∀ (i : Nat), i < 56 → [AV.int
 .u8 (↑((List.drop 8 x).getD i 0) : Int)] = [AV.int .u8 (↑((List.drop 8 x).getD i 0) : Int)]) ∧ ((112 : TypeId) = 112 ∧ (1 : Nat) = 1 ∧ (16 : Nat) = 16 ∧ (∀ (i :
 Nat), i < 16 → [AV.int .i64 (if i = (↑t.1 : Int).toNat then m_1 else if i < t.1 then kidAt x i else 0)] = [AV.int .i64 (if i < t'.fst then kidAt x i else 0)]) ∧
 True) ∧ True) (Exx (Nat → Int) fun x_3 => ((((1 : Nat) = 1 ∧ (16 : Nat) = 16 ∧ (∀ (i : Nat), i < 16 → [AV.int .i64 (if i < t.1 then kidAt x i else 0)] = [AV.int
 .i64 (x_3 i)]) ∧ True) ∧ True) ∧ true = true ∧ True) ∧ (∀ (i : Nat), i < 16 → I64 (x_3 i)) ∧ ∀ (y : Unit), True → BC (!decide (fanOk x_3)) (Exx Unit fun y =>
 (((((1 : Nat) = 1 ∧ (16 : Nat) = 16 ∧ (∀ (i : Nat), i < 16 → [AV.int .i64 0] = [AV.int .i64 (getFanF x i)]) ∧ True) ∧ false = decide (isFan x) ∧ True) ∧ True) ∧
 true = true ∧ True) ∧ True) (Exx Unit fun y => (((((1 : Nat) = 1 ∧ (16 : Nat) = 16 ∧ (∀ (i : Nat), i < 16 → [AV.int .i64 (if i < t.1 then kidAt x i else 0)] =
 [AV.int .i64 (getFanF x i)]) ∧ True) ∧ true = decide (isFan x) ∧ True) ∧ True) ∧ true = true ∧ True) ∧ True))))))) = (fnVC tb [(63, specOf rightFanC), (76, specOf openC), (77, specOf noughtsC), (78, specOf readC)] Tryd.f67 getFanC (fun x => { loops := [(6, getFanLA x)] }) (fun _ => none)) := by kernel_rfl 

theorem getFan_ok : SpecOk Tryd.prog 67 (specOf getFanC) := by
  refine specOk mixed tb_ok (SPok.cons rightFan_ok (SPok.cons open_ok (SPok.cons noughts_ok (SPok.cons read_ok SPok.nil)))) Tryd.func67 (by decide) (pureC_ok fun _ => ⟨⟨fun _ _ => ⟨rfl, trivial⟩, trivial⟩, rfl, trivial⟩) (an := (fun x => { loops := [(6, getFanLA x)] })) (σ := (fun _ => none)) ?_
  rw [← getFanV]
  simp (maxSteps := 10000000) only [and_false, false_and, false_or, or_false, bOf_true, bOf_false, true_bOf, false_bOf, Exx, int_ite, merge_o, Tr_eq, true_and, and_true, exists_const, forall_const, implies_true, forall_eq, exists_eq, exists_eq', exists_eq_left, exists_eq_left', exists_eq_right, Prod.exists, Prod.forall, and_assoc, exists_and_left, BC_iff, Bool.not_eq_true', Bool.not_eq_false', decide_eq_true_eq, decide_eq_false_iff_not, I64, nat_cast_inj, Int.toNat_natCast, nats_iff, nats_iff', ints_iff, ints_iff', natss_iff, natss_iff', nilnil, litL_eq, str_inj, str_append, str_length, str_getD, str_take, lit1_iff, one_iff, two_iff, one_get, Nat.zero_add, Nat.sub_zero, Nat.reduceMul, Nat.reduceDiv, Nat.reduceAdd, Int.reduceToNat, Nat.not_lt_zero, if_false, if_true, Nat.le_refl, List.length_singleton, List.length_cons, List.length_nil, Bool.false_eq_true, not_true_eq_false, false_implies, not_false_eq_true, Prod.mk.injEq]
  rintro b ⟨hb, hl⟩
  refine ⟨⟨hb, hl⟩, fun y hy => ?_⟩
  have hno : ¬ isFan b → ((∀ i, i < 16 → [AV.int IntKind.i64 0] = [AV.int IntKind.i64 (getFanF b i)]) ∧ false = decide (isFan b)) := fun h =>
    ⟨fun i _ => by rw [getFanF, if_neg h], (decide_eq_false h).symm⟩
  refine ⟨fun h => hno (fun k => h k.1), fun hr => ⟨fun h => hno (fun k => h (by rw [kindN, if_pos hr, k.2.1]; rfl)), fun hk => ⟨fun h => hno (fun k => h (by rw [tagN, if_pos hr, k.2.2.1]; rfl)), fun ht => ?_⟩⟩⟩
  have h64 := hr.1
  have hB : bodyL b = b.drop 8 := if_pos hr
  have hK : b.getD 4 0 = 3 := by rw [kindN, if_pos hr] at hk; omega
  have hT : b.getD 5 0 = 0 := by rw [tagN, if_pos hr] at ht; omega
  have hlen : (b.drop 8).length = 56 := by rw [List.length_drop]; omega
  rw [hB] at hy ⊢
  have hob : Oct (b.drop 8) := ⟨fun x hx => hb x (List.mem_of_mem_drop hx), by omega⟩
  rw [hlen, show ((56 : Nat) : Int) - 32 = 24 by rfl]
  rw [hlen] at hy
  refine ⟨by omega, by omega, hob, by omega, by omega, by omega, by omega, fun hn => hno (fun k => by rw [k.2.2.2.1] at hn; cases hn), fun hz => ?_⟩
  refine ⟨fun s => s.1 ≤ 16 ∧ 56 ≤ s.2, ⟨0, y, ⟨by omega, by simpa using hy⟩, rfl, rfl, rfl, rfl, by omega, fun _ _ => rfl, fun i _ => rfl⟩, fun s => 16 - s.1, fun a c hac => ⟨fun hlt => ?_, fun hge => ?_⟩⟩
  · obtain ⟨ha7, hc⟩ := hac
    simp only at ha7 hc
    have e8 : (2 * (a : Int)).toNat = 2 * a := by omega
    have e9 : (2 * ((a : Int) + 1)).toNat = 2 * a + 2 := by omega
    rw [e8, e9, show 2 * a + 2 - 2 * a = 2 by omega]
    have hd1 : ((b.drop (8 + 2 * a)).take 2).length = 2 := by rw [List.length_take, List.length_drop]; omega
    have hn1 := numN_k (l := b.drop (8 + 2 * a)) (k := 2) (fun c hc => hb c (List.mem_of_mem_drop hc)) (by omega)
    have hr1 : readN ((b.drop (8 + 2 * a)).take 2) = numN ((b.drop (8 + 2 * a)).take 2) := readN_take (by omega)
    have hw1 : IntKind.i64.wrap ((readN ((b.drop (8 + 2 * a)).take 2) : Nat) : Int) = kidAt b a := by rw [hr1]; exact wrap_I64 ⟨by omega, by omega⟩
    refine ⟨by omega, by omega, by omega, by omega, by omega, by omega, by omega, by omega, by omega, by omega, by omega, (b.drop (8 + 2 * a)).take 2, hd1.symm, fun i hi => ?_, ⟨fun x hx => hb x (List.mem_of_mem_drop (List.mem_of_mem_take hx)), by omega⟩, by omega, by omega, by omega, by omega, by omega, a + 1, c, ⟨by simp only; omega, hc⟩, by simp only; omega, rfl, by omega, rfl, fun i hi => ?_⟩
    · rw [hd1] at hi
      rw [getD_take, if_pos hi, getD_drop, getD_drop, show 8 + (2 * a + i) = 8 + 2 * a + i by omega]
    · rw [hw1]
      by_cases e : i = a
      · subst e; rw [if_pos rfl, if_pos (by omega)]
      · rw [if_neg e]
        by_cases e2 : i < a
        · rw [if_pos e2, if_pos (by omega)]
        · rw [if_neg e2, if_neg (by omega)]
  · obtain ⟨ha7, hc⟩ := hac
    simp only at ha7 hc
    have ha : a = 16 := by omega
    subst ha
    refine ⟨kidAt b, fun i hi => by rw [if_pos hi], fun i hi => kidAt_I hb i, fun hn => hno (fun k => hn k.2.2.2.2), fun hok => ?_⟩
    have hok2 : isFan b := ⟨hr, hK, hT, hz, hok⟩
    exact ⟨fun i hi => by rw [if_pos hi, getFanF, if_pos hok2], (decide_eq_true hok2).symm⟩

end Yard
