import Derived.Test.YtceockijgbkneaaDoorRef01
import Derived.Test.YtceockijgbkneaaDoorOctetMath

namespace Yard
open Go Go.Sx Go.Proofs
set_option linter.unusedVariables false
set_option linter.unusedSimpArgs false
set_option maxRecDepth 4000

def U64 (n : Nat) : Prop := n < 18446744073709551616
abbrev octA (l : List Nat) : AV := natsA .u8 l
def Oct (l : List Nat) : Prop := (∀ x ∈ l, x < 256) ∧ l.length ≤ 100000000
def layC : Ctr := rowC (Nat × Int) (fun x => U64 x.1 ∧ I64 x.2) (fun x => [u64 x.1, i64 x.2]) 5 .u8 (fun x => layL x.1 x.2) (fun _ r => r)
def readC : Ctr := pureC (List Nat) Oct (fun l => [octA l]) (fun l => u64 (readN l))
def thereC : Ctr := pureC (List Nat × Int × Int) (fun x => Oct x.1 ∧ I64 x.2.1 ∧ I64 x.2.2) (fun x => [octA x.1, i64 x.2.1, i64 x.2.2]) (fun x => .bool (decide (hasB x.1.length x.2.1 x.2.2)))
def getC : Ctr := pureC (List Nat × Int × Int) (fun x => Oct x.1 ∧ I64 x.2.1 ∧ I64 x.2.2) (fun x => [octA x.1, i64 x.2.1, i64 x.2.2]) (fun x => .tup [u64 (getN x.1 x.2.1 x.2.2), .bool (decide (getOk x.1.length x.2.1 x.2.2))])
def putC : Ctr := rowC (List Nat × Int × Int × Nat) (fun x => Oct x.1 ∧ I64 x.2.1 ∧ I64 x.2.2.1 ∧ U64 x.2.2.2) (fun x => [octA x.1, i64 x.2.1, i64 x.2.2.1, u64 x.2.2.2]) 5 .u8
  (fun x => putN x.1 x.2.1 x.2.2.1 x.2.2.2) (fun x r => .tup [r, .bool (decide (getOk x.1.length x.2.1 x.2.2.1))])
def noughtsC : Ctr := pureC (List Nat × Int × Int) (fun x => Oct x.1 ∧ I64 x.2.1 ∧ I64 x.2.2) (fun x => [octA x.1, i64 x.2.1, i64 x.2.2]) (fun x => .bool (noughts x.1 x.2.1 x.2.2))
def wordsC : Ctr := rowC (List Nat) Oct (fun l => [octA l]) 109 .u64 wordsN (fun _ r => r)
def octetsC : Ctr := rowC (List Nat) (fun l => (∀ w ∈ l, U64 w) ∧ l.length ≤ 1000000) (fun l => [natsA .u64 l]) 5 .u8 octetsN (fun _ r => r)

def layF (v i : Nat) : Nat → List AV := fun j => [.int .u8 ((if j < i then v / 256 ^ j % 256 else 0 : Nat) : Int)]
def layLA (x : Nat × Int) : LA := { T := Nat, F := fun i => frm 29 [(0, u64 (x.1 / 256 ^ i)), (5, .sl 1 [] 0 1 0 x.2.toNat x.2.toNat), (16, i64 x.2), (17, i64 (i : Int))], H := fun i => [.fence, .row 5 1 x.2.toNat x.2.toNat (layF x.1 i)] }

theorem wrap8 (n : Nat) : IntKind.u8.wrap (n : Int) = ((n % 256 : Nat) : Int) := by
  unfold IntKind.wrap
  simp only [IntKind.signed, Bool.false_and, Bool.false_eq_true, if_false]
  rfl
theorem wrap64 {n : Nat} (h : U64 n) : IntKind.u64.wrap (n : Int) = n := wrap_nat (k := .u64) rfl h
theorem shr8 (n : Nat) : ((n : Nat) : Int).fdiv (2 ^ min 8 IntKind.u64.bits) = ((n / 256 : Nat) : Int) := shr_nat (i := 8) (n := IntKind.u64.bits) (by decide)
theorem layL_in {v : Nat} {n : Int} (h : 0 ≤ n ∧ n ≤ 8) : layL v n = layN v n.toNat := if_pos h
theorem layL_out {v : Nat} {n : Int} (h : ¬ (0 ≤ n ∧ n ≤ 8)) : layL v n = [] := if_neg h

theorem layV : (∀ (x : Nat × Int), U64 x.1 ∧ I64 x.2 → BC (decide (x.2 < (0 : Int))) (Exx Nat fun y => ((((layL x.1 x.2).length = 0 ∧ y = 0) ∧ True) ∧ true =
 true ∧ (y = 0 ∧ (layL x.1 x.2).length = 0) ∧ True) ∧ (layL x.1 x.2).length ≤ y) (BC (decide ((8 : Int) < x.2)) (Exx Nat fun y => ((((layL x.1 x.2).length = 0 ∧
 y = 0) ∧ True) ∧ true = true ∧ (y = 0 ∧ (layL x.1 x.2).length = 0) ∧ True) ∧ (layL x.1 x.2).length ≤ y) (((0 : Int) ≤ x.2 ∧ x.2 ≤ x.2 ∧ (↑1 : Int) * x.2 ≤
 (281474976710656 : Int) ∧ x.2 ≤ (9223372036854775807 : Int)) ∧ Exx (Nat → Prop) fun I => Exx (Nat → Nat) fun m => (Exx Nat fun t => I t ∧ (Tr 1 ((↑x.1 : Int) =
 (↑(x.1 / 256 ^ t) : Int)) ∧ Tr 4 ((true = true ∧ NilNil ∧ (0 : Nat) = 0 ∧ (1 : Nat) = 1 ∧ (0 : Nat) = 0 ∧ x.2.toNat = x.2.toNat ∧ x.2.toNat = x.2.toNat) ∧ Tr 10
 (Tr 1 ((↑x.2.toNat : Int) = x.2) ∧ Tr 1 ((0 : Int) = (↑t : Int)) ∧ Tr 11 True))) ∧ true = true ∧ ((5 : TypeId) = 5 ∧ (1 : Nat) = 1 ∧ x.2.toNat = x.2.toNat ∧
 x.2.toNat ≤ x.2.toNat ∧ ∀ (i : Nat), i < x.2.toNat → [AV.int .u8 0] = [AV.int .u8 (↑(if i < t then x.1 / 256 ^ i % 256 else 0) : Int)]) ∧ True) ∧ ∀ (t : Nat), I
 t → BC (decide ((↑t : Int) < x.2)) (∀ (m_1 : Int), m_1 = IntKind.u8.wrap (↑(x.1 / 256 ^ t) : Int) → ((0 : Int) ≤ (↑t : Int) ∧ (↑t : Int) < (↑x.2.toNat : Int)) ∧
 0 + (↑t : Int).toNat < x.2.toNat ∧ x.2.toNat = x.2.toNat ∧ (0 : Int) ≤ (8 : Int) ∧ ∀ (n : Int), n = (↑(x.1 / 256 ^ t) : Int).fdiv (2 ^ min (Int.toNat 8)
 IntKind.u64.bits) → I64 ((↑t : Int) + 1) ∧ Exx Nat fun t' => (I t' ∧ m t' < m t) ∧ (Tr 1 (n = (↑(x.1 / 256 ^ t') : Int)) ∧ Tr 4 ((true = true ∧ NilNil ∧ (0 :
 Nat) = 0 ∧ (1 : Nat) = 1 ∧ (0 : Nat) = 0 ∧ x.2.toNat = x.2.toNat ∧ x.2.toNat = x.2.toNat) ∧ Tr 10 (Tr 1 (x.2 = x.2) ∧ Tr 1 ((↑t : Int) + 1 = (↑t' : Int)) ∧ Tr
 11 True))) ∧ true = true ∧ ((5 : TypeId) = 5 ∧ (1 : Nat) = 1 ∧ x.2.toNat = x.2.toNat ∧ x.2.toNat ≤ x.2.toNat ∧ ∀ (i : Nat), i < x.2.toNat → [AV.int .u8 (if i =
 0 + (↑t : Int).toNat then m_1 else (↑(if i < t then x.1 / 256 ^ i % 256 else 0) : Int))] = [AV.int .u8 (↑(if i < t' then x.1 / 256 ^ i % 256 else 0) : Int)]) ∧
 True) (Exx Nat fun y => (((true = true ∧ NilNil ∧ (0 : Nat) = 0 ∧ (1 : Nat) = 1 ∧ (0 : Nat) = 0 ∧ x.2.toNat = (layL x.1 x.2).length ∧ x.2.toNat = y) ∧ True) ∧
 true = true ∧ ((5 : TypeId) = 5 ∧ (1 : Nat) = 1 ∧ x.2.toNat = y ∧ (layL x.1 x.2).length ≤ x.2.toNat ∧ ∀ (i : Nat), i < (layL x.1 x.2).length → [AV.int .u8 (↑(if
 i < t then x.1 / 256 ^ i % 256 else 0) : Int)] = [AV.int .u8 (↑((layL x.1 x.2).getD i 0) : Int)]) ∧ True) ∧ (layL x.1 x.2).length ≤ y)))) = (fnVC tb [] Tryd.f59 layC (fun x => { loops := [(5, layLA x)] }) (fun _ => none)) := by kernel_rfl 

theorem lay_ok : SpecOk Tryd.prog 59 (specOf layC) := by
  refine specOk mixed tb_ok SPok.nil Tryd.func59 (by decide) (rowC_ok fun _ _ _ => rfl) (an := (fun x => { loops := [(5, layLA x)] })) (σ := (fun _ => none)) ?_
  rw [← layV]
  simp (maxSteps := 10000000) only [and_false, false_and, false_or, or_false, bOf_true, bOf_false, true_bOf, false_bOf, Exx, int_ite, merge_o, Tr_eq, true_and, and_true, exists_const, forall_const, implies_true, forall_eq, exists_eq, exists_eq', exists_eq_left, exists_eq_left', exists_eq_right, Prod.exists, Prod.forall, and_assoc, exists_and_left, BC_iff, Bool.not_eq_true', Bool.not_eq_false', decide_eq_true_eq, decide_eq_false_iff_not, I64, nat_cast_inj, Int.toNat_natCast, nats_iff, nats_iff', ints_iff, ints_iff', natss_iff, natss_iff', nilnil, litL_eq, str_inj, str_append, str_length, str_getD, str_take, lit1_iff, one_iff, two_iff, one_get, Nat.zero_add, Nat.sub_zero, Nat.reduceMul, Nat.reduceDiv, Nat.reduceAdd, Int.reduceToNat, Nat.not_lt_zero, if_false, if_true, Nat.le_refl, List.length_singleton, List.length_cons, List.length_nil, Bool.false_eq_true, not_true_eq_false, false_implies, not_false_eq_true, Prod.mk.injEq]
  rintro v n ⟨hv, h1, h2⟩
  refine ⟨fun h => by rw [layL_out (by omega)]; simp, fun h => ⟨fun h' => by rw [layL_out (by omega)]; simp, fun h' => ?_⟩⟩
  rw [layL_in (by omega), layN_length]
  refine ⟨by omega, by omega, by omega, by omega, fun i => i ≤ n.toNat, ⟨0, by omega, by simp, by omega, rfl, fun i _ => by simp⟩, fun i => n.toNat - i, fun i hi => ⟨fun hlt => ?_, fun hlt => ?_⟩⟩
  · rw [shr8, wrap8]
    refine ⟨by omega, by omega, by omega, by omega, by omega, by omega, i + 1, by omega, by simp only; omega, by rw [Nat.pow_succ, Nat.div_div_eq_div_mul], by omega, fun j hj => ?_⟩
    by_cases e : j = i
    · subst e; rw [if_pos rfl, if_pos (by omega)]
    · rw [if_neg e]
      by_cases e2 : j < i
      · rw [if_pos e2, if_pos (by omega)]
      · rw [if_neg e2, if_neg (by omega)]
  · refine ⟨rfl, by omega, fun j hj => ?_, by omega⟩
    rw [if_pos (by omega), layN_getD _ _ _ hj]

def readLA (l : List Nat) : LA := { T := Nat, F := fun i => frm 26 [(3, u64 (numN (l.take i))), (10, .ro 1 (min l.length 8) (fun i => [.int .u8 ((l.getD i 0 : Nat) : Int)])), (11, i64 (min l.length 8 : Nat)), (12, i64 (i : Int))], H := fun _ => [.fence] }

theorem num_or {l : List Nat} {i : Nat} (hl : ∀ c ∈ l, c < 256) (hi : i < l.length) (h8 : i < 8) : bits BinOp.or IntKind.u64 ((numN (l.take i) : Nat) : Int) (IntKind.u64.wrap (IntKind.u64.wrap ((l.getD i 0 : Nat) : Int) * 2 ^ min (8 * (i : Int)).toNat IntKind.u64.bits)) = ((numN (l.take (i + 1)) : Nat) : Int) := by
  have hc : l.getD i 0 < 256 := getD_mem (p := fun c => c < 256) hl (by decide) i
  have h1 := numN_lt (l.take i) fun c hc => hl c (List.mem_of_mem_take hc)
  have hlen : (l.take i).length = i := by simp; omega
  rw [hlen] at h1
  have h256 : (256 : Nat) ^ i = 2 ^ (8 * i) := by rw [Nat.pow_mul]
  have hpow : (2 : Nat) ^ (8 * i) * 256 ≤ 18446744073709551616 := by
    have := Nat.pow_le_pow_right (n := 2) (by decide) (show 8 * i + 8 ≤ 64 by omega)
    rw [Nat.pow_add] at this; simpa using this
  have hb : l.getD i 0 * 2 ^ (8 * i) < 2 ^ IntKind.u64.bits := by
    have : (l.getD i 0 + 1) * 2 ^ (8 * i) ≤ 256 * 2 ^ (8 * i) := Nat.mul_le_mul_right _ hc
    have hp : 0 < 2 ^ (8 * i) := Nat.pos_of_ne_zero (by simp)
    rw [Nat.add_mul, Nat.one_mul] at this
    show _ < 18446744073709551616
    omega
  rw [wrap64 (show l.getD i 0 < _ by omega), show (8 * (i : Int)).toNat = 8 * i by omega, shl_nat (k := .u64) rfl (n := IntKind.u64.bits) (show 8 * i ≤ 64 by omega) hb]
  have h2 : numN (l.take i) < 2 ^ IntKind.u64.bits := by
    rw [h256] at h1
    have : (2 : Nat) ^ (8 * i) ≤ 18446744073709551616 := by omega
    exact Nat.lt_of_lt_of_le h1 this
  rw [bits_or (k := .u64) rfl h2 hb, or_add_nat (by rw [← h256]; exact h1), take_succ_getD 0 hi, numN_snoc, hlen, h256, Nat.mul_comm]

theorem readV : (∀ (x : List Nat), Oct x → (0 : Int) ≤ min (↑x.length : Int) 8 ∧ (0 ≤ (min (↑x.length : Int) 8).toNat ∧ (min (↑x.length : Int) 8).toNat ≤
 x.length) ∧ Exx (Nat → Prop) fun I => Exx (Nat → Nat) fun m => (Exx Nat fun t => I t ∧ Tr 3 (Tr 1 ((0 : Int) = (↑(numN (List.take t x)) : Int)) ∧ Tr 6 (((1 :
 Nat) = 1 ∧ (min (↑x.length : Int) 8).toNat - 0 = min x.length 8 ∧ ∀ (i : Nat), i < (min (↑x.length : Int) 8).toNat - 0 → [AV.int .u8 (↑(x.getD (0 + i) 0) :
 Int)] = [AV.int .u8 (↑(x.getD i 0) : Int)]) ∧ Tr 1 ((↑((min (↑x.length : Int) 8).toNat - 0) : Int) = (↑(min x.length 8) : Int)) ∧ Tr 1 ((0 : Int) = (↑t : Int))
 ∧ Tr 13 True)) ∧ true = true ∧ True) ∧ ∀ (t : Nat), I t → BC (decide ((↑t : Int) < (↑(min x.length 8) : Int))) (((0 : Int) ≤ (↑t : Int) ∧ (↑t : Int) < (↑(min
 x.length 8) : Int)) ∧ ∀ (m_1 : Int), m_1 = IntKind.u64.wrap (↑(x.getD (↑t : Int).toNat 0) : Int) → I64 (8 * (↑t : Int)) ∧ (0 : Int) ≤ 8 * (↑t : Int) ∧ ∀ (n :
 Int), n = IntKind.u64.wrap (m_1 * 2 ^ min (8 * (↑t : Int)).toNat IntKind.u64.bits) → ∀ (n_1 : Int), n_1 = bits BinOp.or IntKind.u64 (↑(numN (List.take t x)) :
 Int) n → I64 ((↑t : Int) + 1) ∧ Exx Nat fun t' => (I t' ∧ m t' < m t) ∧ Tr 3 (Tr 1 (n_1 = (↑(numN (List.take t' x)) : Int)) ∧ Tr 6 (((1 : Nat) = 1 ∧ min
 x.length 8 = min x.length 8 ∧ ∀ (i : Nat), i < min x.length 8 → [AV.int .u8 (↑(x.getD i 0) : Int)] = [AV.int .u8 (↑(x.getD i 0) : Int)]) ∧ Tr 1 ((↑(min x.length
 8) : Int) = (↑(min x.length 8) : Int)) ∧ Tr 1 ((↑t : Int) + 1 = (↑t' : Int)) ∧ Tr 13 True)) ∧ true = true ∧ True) (Exx Unit fun y => ((Tr 1 ((↑(numN (List.take
 t x)) : Int) = (↑(readN x) : Int)) ∧ True) ∧ true = true ∧ True) ∧ True)) = (fnVC tb [] Tryd.f78 readC (fun x => { loops := [(3, readLA x)] }) (fun _ => none)) := by kernel_rfl 

theorem read_ok : SpecOk Tryd.prog 78 (specOf readC) := by
  refine specOk mixed tb_ok SPok.nil Tryd.func78 (by decide) (pureC_ok fun _ => rfl) (an := (fun x => { loops := [(3, readLA x)] })) (σ := (fun _ => none)) ?_
  rw [← readV]
  simp (maxSteps := 10000000) only [and_false, false_and, false_or, or_false, bOf_true, bOf_false, true_bOf, false_bOf, Exx, int_ite, merge_o, Tr_eq, true_and, and_true, exists_const, forall_const, implies_true, forall_eq, exists_eq, exists_eq', exists_eq_left, exists_eq_left', exists_eq_right, Prod.exists, Prod.forall, and_assoc, exists_and_left, BC_iff, Bool.not_eq_true', Bool.not_eq_false', decide_eq_true_eq, decide_eq_false_iff_not, I64, nat_cast_inj, Int.toNat_natCast, nats_iff, nats_iff', ints_iff, ints_iff', natss_iff, natss_iff', nilnil, litL_eq, str_inj, str_append, str_length, str_getD, str_take, lit1_iff, one_iff, two_iff, one_get, Nat.zero_add, Nat.sub_zero, Nat.reduceMul, Nat.reduceDiv, Nat.reduceAdd, Int.reduceToNat, Nat.not_lt_zero, if_false, if_true, Nat.le_refl, List.length_singleton, List.length_cons, List.length_nil, Bool.false_eq_true, not_true_eq_false, false_implies, not_false_eq_true, Prod.mk.injEq]
  rintro l ⟨hl, hlen⟩
  refine ⟨by omega, by omega, by omega, fun i => i ≤ min l.length 8, ⟨0, by omega, rfl, by omega, by omega, rfl⟩, fun i => min l.length 8 - i, fun i hi => ⟨fun hlt => ?_, fun hlt => ?_⟩⟩
  · repeat refine And.intro (by omega) ?_
    exact ⟨i + 1, by omega, by simp only; omega, num_or hl (by omega) (by omega), by omega⟩
  · rw [show i = min l.length 8 by omega, readN]
    congr 1
    by_cases h : l.length ≤ 8
    · rw [List.take_of_length_le (by omega), List.take_of_length_le (by omega)]
    · rw [show min l.length 8 = 8 by omega]

theorem thereV : (∀ (x : List Nat × Int × Int), Oct x.1 ∧ I64 x.2.1 ∧ I64 x.2.2 → BC (decide ((0 : Int) ≤ x.2.1)) (BC (decide ((0 : Int) ≤ x.2.2)) (BC (decide
 (x.2.2 ≤ (↑x.1.length : Int))) (I64 ((↑x.1.length : Int) - x.2.2) ∧ Exx Unit fun y => ((decide (x.2.1 ≤ (↑x.1.length : Int) - x.2.2) = decide (hasB x.1.length
 x.2.1 x.2.2) ∧ True) ∧ true = true ∧ True) ∧ True) (Exx Unit fun y => ((false = decide (hasB x.1.length x.2.1 x.2.2) ∧ True) ∧ true = true ∧ True) ∧ True)) (Exx
 Unit fun y => ((false = decide (hasB x.1.length x.2.1 x.2.2) ∧ True) ∧ true = true ∧ True) ∧ True)) (Exx Unit fun y => ((false = decide (hasB x.1.length x.2.1
 x.2.2) ∧ True) ∧ true = true ∧ True) ∧ True)) = (fnVC tb [] Tryd.f89 thereC (fun _ => {}) (fun _ => none)) := by kernel_rfl 

theorem there_ok : SpecOk Tryd.prog 89 (specOf thereC) := by
  refine specOk mixed tb_ok SPok.nil Tryd.func89 (by decide) (pureC_ok fun _ => rfl) (an := (fun _ => {})) (σ := (fun _ => none)) ?_
  rw [← thereV]
  simp (maxSteps := 10000000) only [and_false, false_and, false_or, or_false, bOf_true, bOf_false, true_bOf, false_bOf, Exx, int_ite, merge_o, Tr_eq, true_and, and_true, exists_const, forall_const, implies_true, forall_eq, exists_eq, exists_eq', exists_eq_left, exists_eq_left', exists_eq_right, Prod.exists, Prod.forall, and_assoc, exists_and_left, BC_iff, Bool.not_eq_true', Bool.not_eq_false', decide_eq_true_eq, decide_eq_false_iff_not, I64, nat_cast_inj, Int.toNat_natCast, nats_iff, nats_iff', ints_iff, ints_iff', natss_iff, natss_iff', nilnil, litL_eq, str_inj, str_append, str_length, str_getD, str_take, lit1_iff, one_iff, two_iff, one_get, Nat.zero_add, Nat.sub_zero, Nat.reduceMul, Nat.reduceDiv, Nat.reduceAdd, Int.reduceToNat, Nat.not_lt_zero, if_false, if_true, Nat.le_refl, List.length_singleton, List.length_cons, List.length_nil, Bool.false_eq_true, not_true_eq_false, false_implies, not_false_eq_true, Prod.mk.injEq]
  rintro l a n ⟨hl, h1, h2, h3, h4⟩
  have hlen := hl.2
  unfold hasB
  refine ⟨fun h => ⟨fun h' => ⟨fun h'' => ⟨by omega, by omega, decide_eq_decide.2 (by omega)⟩, fun h'' => ?_⟩, fun h' => ?_⟩, fun h => ?_⟩
  all_goals exact (decide_eq_false (by omega)).symm

theorem cut_mem {l : List Nat} {a n : Int} {p : Nat → Prop} (h : ∀ x ∈ l, p x) : ∀ x ∈ cut l a n, p x := fun x hx => h x (List.mem_of_mem_drop (List.mem_of_mem_take hx))
theorem cut_length {l : List Nat} {a n : Int} (h : hasB l.length a n) : (cut l a n).length = n.toNat := by
  unfold hasB at h
  simp only [cut, List.length_take, List.length_drop]; omega
theorem cut_getD {l : List Nat} {a n : Int} {i : Nat} (hi : i < n.toNat) : (cut l a n).getD i 0 = l.getD (a.toNat + i) 0 := by
  rw [cut, getD_take, if_pos hi, getD_drop]

def noughtsLA (x : List Nat × Int × Int) : LA := { T := Nat, F := fun i => frm 28 [(19, .ro 1 x.2.2.toNat (fun j => [.int .u8 ((x.1.getD (x.2.1.toNat + j) 0 : Nat) : Int)])), (20, i64 x.2.2), (21, i64 (i : Int))], H := fun _ => [.fence] }

theorem noughtsV : (∀ (x : List Nat × Int × Int), Oct x.1 ∧ I64 x.2.1 ∧ I64 x.2.2 → Exx (List Nat × Int × Int) fun x_1 => (((x.1.length = x_1.1.length ∧ ∀ (i :
 Nat), i < x_1.1.length → [AV.int .u8 (↑(x.1.getD i 0) : Int)] = [AV.int .u8 (↑(x_1.1.getD i 0) : Int)]) ∧ Tr 1 (x.2.1 = x_1.2.1) ∧ Tr 1 (x.2.2 = x_1.2.2) ∧
 True) ∧ true = true ∧ True) ∧ (Oct x_1.1 ∧ I64 x_1.2.1 ∧ I64 x_1.2.2) ∧ ∀ (y : Unit), True → BC (!decide (hasB x_1.1.length x_1.2.1 x_1.2.2)) (Exx Unit fun y =>
 ((false = noughts x.1 x.2.1 x.2.2 ∧ True) ∧ true = true ∧ True) ∧ True) (I64 (x.2.1 + x.2.2) ∧ (0 : Int) ≤ x.2.1 + x.2.2 ∧ (0 : Int) ≤ x.2.1 ∧ (x.2.1.toNat ≤
 (x.2.1 + x.2.2).toNat ∧ (x.2.1 + x.2.2).toNat ≤ x.1.length) ∧ Exx (Nat → Prop) fun I => Exx (Nat → Nat) fun m => (Exx Nat fun t => I t ∧ Tr 19 (((1 : Nat) = 1 ∧
 (x.2.1 + x.2.2).toNat - x.2.1.toNat = x.2.2.toNat ∧ ∀ (i : Nat), i < (x.2.1 + x.2.2).toNat - x.2.1.toNat → [AV.int .u8 (↑(x.1.getD (x.2.1.toNat + i) 0) : Int)]
 = [AV.int .u8 (↑(x.1.getD (x.2.1.toNat + i) 0) : Int)]) ∧ Tr 1 ((↑((x.2.1 + x.2.2).toNat - x.2.1.toNat) : Int) = x.2.2) ∧ Tr 1 ((0 : Int) = (↑t : Int)) ∧ Tr 6
 True) ∧ true = true ∧ True) ∧ ∀ (t : Nat), I t → BC (decide ((↑t : Int) < x.2.2)) (((0 : Int) ≤ (↑t : Int) ∧ (↑t : Int) < (↑x.2.2.toNat : Int)) ∧ BC (!decide
 ((↑(x.1.getD (x.2.1.toNat + (↑t : Int).toNat) 0) : Int) = (0 : Int))) (Exx Unit fun y => ((false = noughts x.1 x.2.1 x.2.2 ∧ True) ∧ true = true ∧ True) ∧ True)
 (I64 ((↑t : Int) + 1) ∧ Exx Nat fun t' => (I t' ∧ m t' < m t) ∧ Tr 19 (((1 : Nat) = 1 ∧ x.2.2.toNat = x.2.2.toNat ∧ ∀ (i : Nat), i < x.2.2.toNat → [AV.int .u8
 (↑(x.1.getD (x.2.1.toNat + i) 0) : Int)] = [AV.int .u8 (↑(x.1.getD (x.2.1.toNat + i) 0) : Int)]) ∧ Tr 1 (x.2.2 = x.2.2) ∧ Tr 1 ((↑t : Int) + 1 = (↑t' : Int)) ∧
 Tr 6 True) ∧ true = true ∧ True)) (Exx Unit fun y => ((true = noughts x.1 x.2.1 x.2.2 ∧ True) ∧ true = true ∧ True) ∧ True))) = (fnVC tb [(89, specOf thereC)] Tryd.f77 noughtsC (fun x => { loops := [(4, noughtsLA x)] }) (fun _ => none)) := by kernel_rfl 

theorem noughts_ok : SpecOk Tryd.prog 77 (specOf noughtsC) := by
  refine specOk mixed tb_ok (SPok.cons there_ok SPok.nil) Tryd.func77 (by decide) (pureC_ok fun _ => rfl) (an := (fun x => { loops := [(4, noughtsLA x)] })) (σ := (fun _ => none)) ?_
  rw [← noughtsV]
  simp (maxSteps := 10000000) only [and_false, false_and, false_or, or_false, bOf_true, bOf_false, true_bOf, false_bOf, Exx, int_ite, merge_o, Tr_eq, true_and, and_true, exists_const, forall_const, implies_true, forall_eq, exists_eq, exists_eq', exists_eq_left, exists_eq_left', exists_eq_right, Prod.exists, Prod.forall, and_assoc, exists_and_left, BC_iff, Bool.not_eq_true', Bool.not_eq_false', decide_eq_true_eq, decide_eq_false_iff_not, I64, nat_cast_inj, Int.toNat_natCast, nats_iff, nats_iff', ints_iff, ints_iff', natss_iff, natss_iff', nilnil, litL_eq, str_inj, str_append, str_length, str_getD, str_take, lit1_iff, one_iff, two_iff, one_get, Nat.zero_add, Nat.sub_zero, Nat.reduceMul, Nat.reduceDiv, Nat.reduceAdd, Int.reduceToNat, Nat.not_lt_zero, if_false, if_true, Nat.le_refl, List.length_singleton, List.length_cons, List.length_nil, Bool.false_eq_true, not_true_eq_false, false_implies, not_false_eq_true, Prod.mk.injEq]
  rintro l a n ⟨hl, h1, h2, h3, h4⟩
  refine ⟨hl, h1, h2, h3, h4, fun h => by rw [noughts, decide_eq_false h]; rfl, fun h => ?_⟩
  have hb := h
  unfold hasB at hb
  have hlen := hl.2
  have hc := cut_length h
  have hn : noughts l a n = (cut l a n).all (fun c => decide (c = 0)) := by rw [noughts, decide_eq_true h]; rfl
  repeat refine And.intro (by omega) ?_
  refine ⟨fun i => i ≤ n.toNat ∧ ∀ j, j < i → l.getD (a.toNat + j) 0 = 0, ⟨0, ⟨by omega, fun j hj => absurd hj (Nat.not_lt_zero _)⟩, by omega, by omega, rfl⟩, fun i => n.toNat - i, fun i hi => ⟨fun hlt => ⟨by omega, by omega, fun hz => ?_, fun hz => ⟨by omega, by omega, i + 1, ⟨by omega, fun j hj => ?_⟩, by simp only; omega, by omega⟩⟩, fun hlt => ?_⟩⟩
  · rw [hn]
    symm
    rw [List.all_eq_false]
    refine ⟨(cut l a n).getD i 0, ?_, ?_⟩
    · rw [List.getD_eq_getElem?_getD, List.getElem?_eq_getElem (by omega)]; exact List.getElem_mem _
    · rw [cut_getD (by omega)]; simpa using hz
  · by_cases e : j = i
    · subst e; omega
    · exact hi.2 j (by omega)
  · rw [hn]
    symm
    rw [List.all_eq_true]
    intro c hcm
    obtain ⟨j, hj, rfl⟩ := mem_getD (d := 0) hcm
    rw [cut_getD (by omega), hi.2 j (by omega)]; rfl

def wordsLA (l : List Nat) : LA := { T := Nat × Nat, F := fun s => frm 15 [(0, octA (l.drop (8 * s.1))), (3, .sl 1 [] 0 1 0 s.1 s.2)], H := fun s => [.fence, rowN 109 .u64 s.2 ((wordsN l).take s.1)] }
theorem wordsN_length (l : List Nat) : (wordsN l).length = l.length / 8 := by simp [wordsN]
theorem wordsN_getD {l : List Nat} {i : Nat} (h : i < l.length / 8) : (wordsN l).getD i 0 = readN (l.drop (8 * i)) := by
  rw [wordsN, getD_mapRange, if_pos h]; rfl
theorem Oct.drop {l : List Nat} (h : Oct l) (n : Nat) : Oct (l.drop n) := ⟨fun x hx => h.1 x (List.mem_of_mem_drop hx), by have := h.2; simp; omega⟩

theorem wordsV : (∀ (x : List Nat), Oct x → Exx (Nat × Nat → Prop) fun I => Exx (Nat × Nat → Nat) fun m => (Exx (Nat × Nat) fun t => I t ∧ (((1 : Nat) = 1 ∧
 x.length = (List.drop (8 * t.1) x).length ∧ ∀ (i : Nat), i < x.length → [AV.int .u8 (↑(x.getD i 0) : Int)] = [AV.int .u8 (↑((List.drop (8 * t.1) x).getD i 0) :
 Int)]) ∧ Tr 2 ((t.1 = 0 ∧ t.2 = 0) ∧ Tr 11 True)) ∧ true = true ∧ (t.2 = 0 ∧ (List.take t.1 (wordsN x)).length = 0) ∧ True) ∧ ∀ (t : Nat × Nat), I t → BC
 (decide ((8 : Int) ≤ (↑(List.drop (8 * t.1) x).length : Int))) (Exx (List Nat) fun x_1 => ((((List.drop (8 * t.1) x).length = x_1.length ∧ ∀ (i : Nat), i <
 x_1.length → [AV.int .u8 (↑((List.drop (8 * t.1) x).getD i 0) : Int)] = [AV.int .u8 (↑(x_1.getD i 0) : Int)]) ∧ True) ∧ true = true ∧ True) ∧ Oct x_1 ∧ ∀ (y :
 Unit), True → (0 : Nat) + (1 : Nat) ≤ (1 : Nat) ∧ true = true ∧ (t.1 ≤ (List.take t.1 (wordsN x)).length ∧ t.2 = t.2) ∧ (t.1 + 1 ≤ 9223372036854775807 ∧ (t.1 +
 1) * 8 ≤ 140737488355328) ∧ ∀ (cap : Nat), t.1 + 1 ≤ cap ∧ cap ≤ 9223372036854775807 → (0 : Int) ≤ (8 : Int) ∧ (Int.toNat 8 ≤ (List.drop (8 * t.1) x).length ∧
 (List.drop (8 * t.1) x).length ≤ (List.drop (8 * t.1) x).length) ∧ Exx (Nat × Nat) fun t' => (I t' ∧ m t' < m t) ∧ (((1 : Nat) = 1 ∧ (List.drop (8 * t.1)
 x).length - Int.toNat 8 = (List.drop (8 * t'.fst) x).length ∧ ∀ (i : Nat), i < (List.drop (8 * t.1) x).length - Int.toNat 8 → [AV.int .u8 (↑((List.drop (8 *
 t.1) x).getD (Int.toNat 8 + i) 0) : Int)] = [AV.int .u8 (↑((List.drop (8 * t'.fst) x).getD i 0) : Int)]) ∧ Tr 2 ((true = true ∧ NilNil ∧ (0 : Nat) = 0 ∧ (1 :
 Nat) = 1 ∧ (0 : Nat) = 0 ∧ t.1 + 1 = t'.fst ∧ cap = t'.snd) ∧ Tr 11 True)) ∧ true = true ∧ ((109 : TypeId) = 109 ∧ (1 : Nat) = 1 ∧ cap = t'.snd ∧ (List.take
 t'.fst (wordsN x)).length ≤ t.1 + 1 ∧ ∀ (i : Nat), i < (List.take t'.fst (wordsN x)).length → (if i < t.1 then [AV.int .u64 (↑((List.take t.1 (wordsN x)).getD i
 0) : Int)] else [AV.int .u64 (if 0 + (i - t.1) = 0 * 1 / 1 then (↑(readN x_1) : Int) else 0)]) = [AV.int .u64 (↑((List.take t'.fst (wordsN x)).getD i 0) :
 Int)]) ∧ True) (Exx Nat fun y => (((true = true ∧ NilNil ∧ (0 : Nat) = 0 ∧ (1 : Nat) = 1 ∧ (0 : Nat) = 0 ∧ t.1 = (wordsN x).length ∧ t.2 = y) ∧ True) ∧ true =
 true ∧ ((109 : TypeId) = 109 ∧ (1 : Nat) = 1 ∧ t.2 = y ∧ (wordsN x).length ≤ (List.take t.1 (wordsN x)).length ∧ ∀ (i : Nat), i < (wordsN x).length → [AV.int
 .u64 (↑((List.take t.1 (wordsN x)).getD i 0) : Int)] = [AV.int .u64 (↑((wordsN x).getD i 0) : Int)]) ∧ True) ∧ (wordsN x).length ≤ y)) = (fnVC tb [(78, specOf readC)] Tryd.f95 wordsC (fun x => { loops := [(2, wordsLA x)] }) (fun _ => none)) := by kernel_rfl 

theorem words_ok : SpecOk Tryd.prog 95 (specOf wordsC) := by
  refine specOk mixed tb_ok (SPok.cons read_ok SPok.nil) Tryd.func95 (by decide) (rowC_ok fun _ _ _ => rfl) (an := (fun x => { loops := [(2, wordsLA x)] })) (σ := (fun _ => none)) ?_
  rw [← wordsV]
  simp (maxSteps := 10000000) only [and_false, false_and, false_or, or_false, bOf_true, bOf_false, true_bOf, false_bOf, Exx, int_ite, merge_o, Tr_eq, true_and, and_true, exists_const, forall_const, implies_true, forall_eq, exists_eq, exists_eq', exists_eq_left, exists_eq_left', exists_eq_right, Prod.exists, Prod.forall, and_assoc, exists_and_left, BC_iff, Bool.not_eq_true', Bool.not_eq_false', decide_eq_true_eq, decide_eq_false_iff_not, I64, nat_cast_inj, Int.toNat_natCast, nats_iff, nats_iff', ints_iff, ints_iff', natss_iff, natss_iff', nilnil, litL_eq, str_inj, str_append, str_length, str_getD, str_take, lit1_iff, one_iff, two_iff, one_get, Nat.zero_add, Nat.sub_zero, Nat.reduceMul, Nat.reduceDiv, Nat.reduceAdd, Int.reduceToNat, Nat.not_lt_zero, if_false, if_true, Nat.le_refl, List.length_singleton, List.length_cons, List.length_nil, Bool.false_eq_true, not_true_eq_false, false_implies, not_false_eq_true, Prod.mk.injEq]
  rintro l hl
  have hlen := hl.2
  have hw := wordsN_length l
  refine ⟨fun s => s.1 ≤ l.length / 8 ∧ s.1 ≤ s.2, ⟨0, 0, by simp, by simp, fun i _ => by simp, rfl, rfl, rfl, by simp⟩, fun s => l.length / 8 - s.1, ?_⟩
  rintro k cap ⟨hk, hkc⟩
  simp only at hk hkc
  have e1 : (l.drop (8 * k)).length = l.length - 8 * k := by simp
  have e2 : ((wordsN l).take k).length = k := by rw [List.length_take, hw]; omega
  rw [e1, e2]
  refine ⟨fun h => ⟨hl.drop _, by omega, by omega, by omega, ?_⟩, fun h => ?_⟩
  · rintro cap' ⟨hc1, hc2⟩
    have e3 : ((wordsN l).take (k + 1)).length = k + 1 := by rw [List.length_take, hw]; omega
    refine ⟨by omega, by omega, k + 1, cap', ⟨by simp only; omega, by simp only; omega⟩, by simp only; omega, by simp; omega, fun i hi => ?_, rfl, rfl, rfl, by rw [e3]; omega, fun i hi => ?_⟩
    · rw [getD_drop, getD_drop, show 8 * k + (8 + i) = 8 * (k + 1) + i by omega]
    · rw [e3] at hi
      by_cases e : i < k
      · rw [if_pos e, getD_take, getD_take, if_pos e, if_pos hi]
      · have : i = k := by omega
        subst this
        rw [if_neg e, if_pos (Nat.sub_self _), getD_take, if_pos hi, wordsN_getD (by omega)]
  · have : k = l.length / 8 := by omega
    refine ⟨by omega, by omega, fun i hi => ?_, by omega⟩
    rw [getD_take, if_pos (by omega)]

def octetsLA (l : List Nat) : LA := { T := Nat × Nat, F := fun s => frm 18 [(3, .sl 1 [] 0 1 0 (octetsN (l.take s.1)).length s.2), (6, natsA .u64 l), (7, i64 (l.length : Int)), (8, i64 (s.1 : Int))], H := fun s => [.fence, rowN 5 .u8 s.2 (octetsN (l.take s.1))] }

theorem octetsV : (∀ (x : List Nat), (∀ (w : Nat), w ∈ x → U64 w) ∧ x.length ≤ 1000000 → Exx (Nat × Nat → Prop) fun I => Exx (Nat × Nat → Nat) fun m => (Exx
 (Nat × Nat) fun t => I t ∧ Tr 3 (((octetsN (List.take t.1 x)).length = 0 ∧ t.2 = 0) ∧ Tr 2 (((1 : Nat) = 1 ∧ x.length = x.length ∧ ∀ (i : Nat), i < x.length →
 [AV.int .u64 (↑(x.getD i 0) : Int)] = [AV.int .u64 (↑(x.getD i 0) : Int)]) ∧ Tr 1 ((↑x.length : Int) = (↑x.length : Int)) ∧ Tr 1 ((0 : Int) = (↑t.1 : Int)) ∧ Tr
 9 True)) ∧ true = true ∧ (t.2 = 0 ∧ (octetsN (List.take t.1 x)).length = 0) ∧ True) ∧ ∀ (t : Nat × Nat), I t → BC (decide ((↑t.1 : Int) < (↑x.length : Int)))
 (((0 : Int) ≤ (↑t.1 : Int) ∧ (↑t.1 : Int) < (↑x.length : Int)) ∧ Exx (Nat × Int) fun x_1 => ((Tr 1 ((↑(x.getD (↑t.1 : Int).toNat 0) : Int) = (↑x_1.1 : Int)) ∧
 Tr 1 ((8 : Int) = x_1.2) ∧ True) ∧ true = true ∧ True) ∧ (U64 x_1.1 ∧ I64 x_1.2) ∧ ∀ (y : Nat), (layL x_1.1 x_1.2).length ≤ y → 0 + (layL x_1.1 x_1.2).length ≤
 (layL x_1.1 x_1.2).length ∧ true = true ∧ ((octetsN (List.take t.1 x)).length ≤ (octetsN (List.take t.1 x)).length ∧ t.2 = t.2) ∧ ((octetsN (List.take t.1
 x)).length + (layL x_1.1 x_1.2).length ≤ 9223372036854775807 ∧ ((octetsN (List.take t.1 x)).length + (layL x_1.1 x_1.2).length) * 1 ≤ 140737488355328) ∧ ∀ (cap
 : Nat), (octetsN (List.take t.1 x)).length + (layL x_1.1 x_1.2).length ≤ cap ∧ cap ≤ 9223372036854775807 → I64 ((↑t.1 : Int) + 1) ∧ Exx (Nat × Nat) fun t' => (I
 t' ∧ m t' < m t) ∧ Tr 3 ((true = true ∧ NilNil ∧ (0 : Nat) = 0 ∧ (1 : Nat) = 1 ∧ (0 : Nat) = 0 ∧ (octetsN (List.take t.1 x)).length + (layL x_1.1 x_1.2).length
 = (octetsN (List.take t'.fst x)).length ∧ cap = t'.snd) ∧ Tr 2 (((1 : Nat) = 1 ∧ x.length = x.length ∧ ∀ (i : Nat), i < x.length → [AV.int .u64 (↑(x.getD i 0) :
 Int)] = [AV.int .u64 (↑(x.getD i 0) : Int)]) ∧ Tr 1 ((↑x.length : Int) = (↑x.length : Int)) ∧ Tr 1 ((↑t.1 : Int) + 1 = (↑t'.fst : Int)) ∧ Tr 9 True)) ∧ true =
 true ∧ ((5 : TypeId) = 5 ∧ (1 : Nat) = 1 ∧ cap = t'.snd ∧ (octetsN (List.take t'.fst x)).length ≤ (octetsN (List.take t.1 x)).length + (layL x_1.1 x_1.2).length
 ∧ ∀ (i : Nat), i < (octetsN (List.take t'.fst x)).length → (if i < (octetsN (List.take t.1 x)).length then [AV.int .u8 (↑((octetsN (List.take t.1 x)).getD i 0)
 : Int)] else [AV.int .u8 (↑((layL x_1.1 x_1.2).getD (0 + (i - (octetsN (List.take t.1 x)).length)) 0) : Int)]) = [AV.int .u8 (↑((octetsN (List.take t'.fst
 x)).getD i 0) : Int)]) ∧ True) (Exx Nat fun y => (((true = true ∧ NilNil ∧ (0 : Nat) = 0 ∧ (1 : Nat) = 1 ∧ (0 : Nat) = 0 ∧ (octetsN (List.take t.1 x)).length =
 (octetsN x).length ∧ t.2 = y) ∧ True) ∧ true = true ∧ ((5 : TypeId) = 5 ∧ (1 : Nat) = 1 ∧ t.2 = y ∧ (octetsN x).length ≤ (octetsN (List.take t.1 x)).length ∧ ∀
 (i : Nat), i < (octetsN x).length → [AV.int .u8 (↑((octetsN (List.take t.1 x)).getD i 0) : Int)] = [AV.int .u8 (↑((octetsN x).getD i 0) : Int)]) ∧ True) ∧
 (octetsN x).length ≤ y)) = (fnVC tb [(59, specOf layC)] Tryd.f86 octetsC (fun x => { loops := [(3, octetsLA x)] }) (fun _ => none)) := by kernel_rfl 

theorem octets_ok : SpecOk Tryd.prog 86 (specOf octetsC) := by
  refine specOk mixed tb_ok (SPok.cons lay_ok SPok.nil) Tryd.func86 (by decide) (rowC_ok fun _ _ _ => rfl) (an := (fun x => { loops := [(3, octetsLA x)] })) (σ := (fun _ => none)) ?_
  rw [← octetsV]
  simp (maxSteps := 10000000) only [and_false, false_and, false_or, or_false, bOf_true, bOf_false, true_bOf, false_bOf, Exx, int_ite, merge_o, Tr_eq, true_and, and_true, exists_const, forall_const, implies_true, forall_eq, exists_eq, exists_eq', exists_eq_left, exists_eq_left', exists_eq_right, Prod.exists, Prod.forall, and_assoc, exists_and_left, BC_iff, Bool.not_eq_true', Bool.not_eq_false', decide_eq_true_eq, decide_eq_false_iff_not, I64, nat_cast_inj, Int.toNat_natCast, nats_iff, nats_iff', ints_iff, ints_iff', natss_iff, natss_iff', nilnil, litL_eq, str_inj, str_append, str_length, str_getD, str_take, lit1_iff, one_iff, two_iff, one_get, Nat.zero_add, Nat.sub_zero, Nat.reduceMul, Nat.reduceDiv, Nat.reduceAdd, Int.reduceToNat, Nat.not_lt_zero, if_false, if_true, Nat.le_refl, List.length_singleton, List.length_cons, List.length_nil, Bool.false_eq_true, not_true_eq_false, false_implies, not_false_eq_true, Prod.mk.injEq]
  rintro l ⟨hl, hlen⟩
  refine ⟨fun s => s.1 ≤ l.length ∧ (octetsN (l.take s.1)).length ≤ s.2, ⟨0, 0, by simp [octetsN], by simp [octetsN], rfl, rfl, rfl, by simp [octetsN]⟩, fun s => l.length - s.1, ?_⟩
  rintro k cap ⟨hk, hkc⟩
  simp only at hk hkc
  have e1 : (octetsN (l.take k)).length = 8 * k := by rw [octetsN_length, List.length_take]; omega
  have e2 : (layL (l.getD k 0) 8).length = 8 := by rw [layL_in (by omega), layN_length]; rfl
  rw [e1, e2]
  rw [e1] at hkc
  refine ⟨fun h => ⟨by omega, by omega, getD_mem hl (by unfold U64; omega) k, by omega, by omega, fun y hy => ⟨by omega, by omega, ?_⟩⟩, fun h => ?_⟩
  · rintro cap' ⟨hc1, hc2⟩
    have e3 : (octetsN (l.take (k + 1))).length = 8 * (k + 1) := by rw [octetsN_length, List.length_take]; omega
    refine ⟨by omega, by omega, k + 1, cap', ⟨by simp only; omega, by simp only; omega⟩, by simp only; omega, by omega, rfl, by omega, rfl, by omega, fun i hi => ?_⟩
    rw [take_succ_getD 0 (by omega), octetsN_snoc, getD_append, e1]
    by_cases e : i < 8 * k
    · rw [if_pos e, if_pos e]
    · rw [if_neg e, if_neg e, layL_in (by omega)]; rfl
  · have : k = l.length := by omega
    subst this
    rw [List.take_length] at e1 ⊢
    exact ⟨by omega, by omega, fun _ _ => rfl, by omega⟩

theorem octetsN_cut {ws : List Nat} {j : Nat} (h : j < ws.length) : ((octetsN ws).drop (8 * j)).take 8 = layN (ws.getD j 0) 8 := by
  have e : ws = ws.take j ++ (ws.getD j 0 :: ws.drop (j + 1)) := by
    conv => lhs; rw [← List.take_append_drop j ws]
    congr 1
    rw [List.drop_eq_getElem_cons h, List.getD_eq_getElem?_getD, List.getElem?_eq_getElem h]; rfl
  have e1 : octetsN ws = octetsN (ws.take j) ++ (layN (ws.getD j 0) 8 ++ octetsN (ws.drop (j + 1))) := by
    conv => lhs; rw [e]
    simp [octetsN]
  have l1 : (octetsN (ws.take j)).length = 8 * j := by rw [octetsN_length, List.length_take]; omega
  rw [e1, List.drop_append, List.drop_of_length_le (by omega), List.nil_append, l1, Nat.sub_self, List.drop_zero, List.take_append, layN_length, Nat.sub_self, List.take_zero, List.append_nil, List.take_of_length_le (by rw [layN_length]; omega)]
theorem words_octets {ws : List Nat} (h : ∀ w ∈ ws, U64 w) : wordsN (octetsN ws) = ws := by
  have hl := octetsN_length ws
  refine list_ext_getD 0 (by rw [wordsN_length, hl]; omega) fun i hi => ?_
  rw [wordsN_getD (by omega), readN, octetsN_cut hi, numN_lay _ _ (getD_mem h (by unfold U64; omega) i)]
theorem octets_words {l : List Nat} (h : ∀ c ∈ l, c < 256) : octetsN (wordsN l) = l.take (8 * (l.length / 8)) := by
  have hw := wordsN_length l
  have hl := octetsN_length (wordsN l)
  have ht : (l.take (8 * (l.length / 8))).length = 8 * (l.length / 8) := by rw [List.length_take]; omega
  refine list_ext_getD 0 (by omega) fun i hi => ?_
  have hc := octetsN_cut (ws := wordsN l) (j := i / 8) (by omega)
  have hx : ((l.drop (8 * (i / 8))).take 8).length = 8 := by simp; omega
  have hm : ∀ c ∈ (l.drop (8 * (i / 8))).take 8, c < 256 := fun c hc => h c (List.mem_of_mem_drop (List.mem_of_mem_take hc))
  have e := lay_num _ hm
  rw [hx] at e
  rw [wordsN_getD (by omega), readN, e] at hc
  have h1 : (octetsN (wordsN l)).getD i 0 = (((octetsN (wordsN l)).drop (8 * (i / 8))).take 8).getD (i % 8) 0 := by
    rw [getD_take, if_pos (Nat.mod_lt _ (by decide)), getD_drop]; congr 1; omega
  rw [h1, hc, getD_take, if_pos (Nat.mod_lt _ (by decide)), getD_drop, getD_take, if_pos (by omega)]
  congr 1; omega

end Yard
