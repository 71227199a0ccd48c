import Derived.Test.YtlicnnoljbfhfaaDoorBits
import Derived.Test.YtlicnnoljbfhfaaDoorBitsPop

namespace Yard
open Go Go.Sx Go.Proofs
set_option linter.unusedVariables false
set_option linter.unusedSimpArgs false
set_option maxRecDepth 4000

def tzN (w : Nat) : Nat := (bitsL 64 w).headD 64
def tzerosC : Ctr := pureC Nat (fun w => w < 18446744073709551616) (fun w => [u64 w]) (fun w => i64 (tzN w : Nat))
def popC : Ctr := pureC Nat (fun w => w < 18446744073709551616) (fun w => [u64 w]) (fun w => i64 (popN w : Nat))

theorem shrU {a i : Nat} (h : i ≤ 64) : (a : Int).fdiv (2 ^ min i IntKind.u64.bits) = ((a / 2 ^ i : Nat) : Int) := shr_nat (n := IntKind.u64.bits) h
theorem wrapU {a : Nat} (h : a < 18446744073709551616) : IntKind.u64.wrap (a : Int) = (a : Int) := wrap_nat (k := .u64) rfl h
theorem andU {a b : Nat} (ha : a < 18446744073709551616) (hb : b < 18446744073709551616) : bits .and .u64 (a : Int) (b : Int) = ((a &&& b : Nat) : Int) := bits_and (k := .u64) rfl ha hb
theorem neg_u {w : Nat} (h0 : w ≠ 0) (h : w < 18446744073709551616) : IntKind.u64.wrap (0 - (w : Int)) = ((2 ^ 64 - w : Nat) : Int) := by
  unfold IntKind.wrap
  have e : (0 - (w : Int)) % 2 ^ 64 = ((2 ^ 64 - w : Nat) : Int) := by omega
  have e2 : (0 - (w : Int)) % 2 ^ IntKind.u64.bits = ((2 ^ 64 - w : Nat) : Int) := e
  simp only [e2]; rfl
theorem mul_u (a b : Nat) : IntKind.u64.wrap ((a : Int) * (b : Int)) = ((a * b % 2 ^ 64 : Nat) : Int) := by
  have e := wrap_nat (k := .u64) rfl (a := a * b % 2 ^ 64) (Nat.mod_lt _ (by decide))
  rw [← e]
  unfold IntKind.wrap
  have e2 : ((a : Int) * (b : Int)) % 2 ^ IntKind.u64.bits = ((a * b % 2 ^ 64 : Nat) : Int) % 2 ^ IntKind.u64.bits := by
    rw [← Int.natCast_mul]
    show ((a * b : Nat) : Int) % 2 ^ 64 = ((a * b % 2 ^ 64 : Nat) : Int) % 2 ^ 64
    omega
  simp only [e2]

theorem tzerosV : (∀ (x : Nat), x < 18446744073709551616 → BC (decide ((↑x : Int) = (0 : Int))) (Exx Unit fun y => ((Tr 1 ((64 : Int) = (↑(tzN x) : Int)) ∧
 True) ∧ true = true ∧ True) ∧ True) (∀ (n : Int), n = IntKind.u64.wrap (0 - (↑x : Int)) → ∀ (n_1 : Int), n_1 = bits BinOp.and IntKind.u64 (↑x : Int) n → ∀ (n :
 Int), n = IntKind.u64.wrap (n_1 * 285870213051353865) → (0 : Int) ≤ (58 : Int) ∧ ∀ (n_2 : Int), n_2 = n.fdiv (2 ^ min (Int.toNat 58) IntKind.u64.bits) → ((0 :
 Int) ≤ n_2 ∧ n_2 < (↑64 : Int)) ∧ n_2 < (↑64 : Int) ∧ ∀ (m : Int), m = IntKind.i64.wrap (↑(tabList.getD n_2.toNat 0) : Int) → Exx Unit fun y => ((Tr 1 (m =
 (↑(tzN x) : Int)) ∧ True) ∧ true = true ∧ True) ∧ True)) = (fnVC tb [] Tryd.f38 tzerosC (fun _ => {}) (fun _ => none)) := by kernel_rfl 

theorem tzeros_ok : SpecOk Tryd.prog 38 (specOf tzerosC) := by
  refine specOk mixed tb_ok SPok.nil Tryd.func38 (by decide) (pureC_ok fun _ => rfl) (an := (fun _ => {})) (σ := (fun _ => none)) ?_
  rw [← tzerosV]
  simp (maxSteps := 10000000) only [and_false, false_and, false_or, or_false, bOf_true, bOf_false, true_bOf, false_bOf, Exx, int_ite, merge_o, Tr_eq, true_and, and_true, exists_const, forall_const, implies_true, forall_eq, exists_eq, exists_eq', exists_eq_left, exists_eq_left', exists_eq_right, Prod.exists, Prod.forall, and_assoc, exists_and_left, BC_iff, Bool.not_eq_true', Bool.not_eq_false', decide_eq_true_eq, decide_eq_false_iff_not, I64, nat_cast_inj, Int.toNat_natCast, nats_iff, nats_iff', ints_iff, ints_iff', natss_iff, natss_iff', nilnil, litL_eq, str_inj, str_append, str_length, str_getD, str_take, lit1_iff, one_iff, two_iff, one_get, Nat.zero_add, Nat.sub_zero, Nat.reduceMul, Nat.reduceDiv, Nat.reduceAdd, Int.reduceToNat, Nat.not_lt_zero, if_false, if_true, Nat.le_refl, List.length_singleton, List.length_cons, List.length_nil, Bool.false_eq_true, not_true_eq_false, false_implies, not_false_eq_true, Prod.mk.injEq]
  intro w hw
  refine ⟨fun h => ?_, fun h => ?_⟩
  · have : w = 0 := by omega
    subst this; rfl
  · obtain ⟨k, q, hk⟩ := low_exists (w := w) (by omega)
    obtain ⟨h1, h2, h3, h4⟩ := low_step hk hw
    have e : IntKind.u64.wrap (bits BinOp.and IntKind.u64 (w : Int) (IntKind.u64.wrap (0 - (w : Int))) * 285870213051353865) = ((2 ^ k * 285870213051353865 % 2 ^ 64 : Nat) : Int) := by
      rw [neg_u (by omega) hw, andU hw (by omega), h4]
      exact mul_u _ _
    have ht : tzN w = k := by rw [tzN, h2]; rfl
    have hm : 2 ^ k * 285870213051353865 % 2 ^ 64 < 2 ^ 64 := Nat.mod_lt _ (by decide)
    have hb := tz_ok k h1
    rw [e, shrU (by decide), ht]
    generalize 2 ^ k * 285870213051353865 % 2 ^ 64 = n at *
    have hn : n / 2 ^ 58 < 64 := by omega
    refine ⟨by omega, by omega, by omega, by omega, ?_⟩
    rw [Int.toNat_natCast]
    rw [hb]
    exact wrap_I64 ⟨by omega, by omega⟩

theorem popA_go {x : Nat} (hx : x < 18446744073709551616) : IntKind.u64.wrap (bits BinOp.and IntKind.u64 ((x : Int).fdiv (2 ^ min 1 IntKind.u64.bits)) 6148914691236517205 + bits BinOp.and IntKind.u64 (x : Int) 6148914691236517205) = ((popA 8 x : Nat) : Int) := by
  have h := popA_lt (k := 8) (x := x)
  rw [mask5] at h
  rw [shrU (by decide), show (6148914691236517205 : Int) = ((6148914691236517205 : Nat) : Int) from rfl, andU (by omega) (by decide), andU hx (by decide), ← Int.natCast_add]
  rw [popA, mask5] at *
  exact wrapU (by simp only [Nat.pow_one]; omega)
theorem popB_go {x : Nat} (hx : x < 18446744073709551616) : IntKind.u64.wrap (bits BinOp.and IntKind.u64 ((x : Int).fdiv (2 ^ min 2 IntKind.u64.bits)) 3689348814741910323 + bits BinOp.and IntKind.u64 (x : Int) 3689348814741910323) = ((popB 8 x : Nat) : Int) := by
  have h := popB_lt (k := 8) (x := x)
  rw [mask3] at h
  rw [shrU (by decide), show (3689348814741910323 : Int) = ((3689348814741910323 : Nat) : Int) from rfl, andU (by omega) (by decide), andU hx (by decide), ← Int.natCast_add]
  rw [popB, mask3] at *
  exact wrapU (by simp only [Nat.reducePow]; omega)
theorem popD_go {x : Nat} (hx : x < 16000000000000000000) : bits BinOp.and IntKind.u64 (IntKind.u64.wrap ((x : Int).fdiv (2 ^ min 4 IntKind.u64.bits) + (x : Int))) 1085102592571150095 = ((popD 8 x : Nat) : Int) := by
  rw [shrU (by decide), show (1085102592571150095 : Int) = ((1085102592571150095 : Nat) : Int) from rfl, ← Int.natCast_add, wrapU (by simp only [Nat.reducePow]; omega), andU (by simp only [Nat.reducePow]; omega) (by decide)]
  rw [popD, mask0]
theorem popE_go {x i : Nat} (hi : i ≤ 64) (hx : x + x / 2 ^ i < 18446744073709551616) : IntKind.u64.wrap ((x : Int) + (x : Int).fdiv (2 ^ min i IntKind.u64.bits)) = ((x + x / 2 ^ i : Nat) : Int) := by
  rw [shrU hi, ← Int.natCast_add, wrapU hx]

theorem and127 {d : Nat} : bits BinOp.and IntKind.i64 (d : Int) 127 = ((d % 128 : Nat) : Int) := by
  unfold bits
  have e : ((BitVec.ofInt 64 (d : Int)) &&& (BitVec.ofInt 64 (127 : Int))).toNat = d % 128 := by
    have e1 : (BitVec.ofInt 64 (d : Int)).toNat = d % 2 ^ 64 := by simp [BitVec.toNat_ofInt]
    rw [BitVec.toNat_and, e1, show (BitVec.ofInt 64 (127 : Int)).toNat = 2 ^ 7 - 1 by decide, Nat.and_two_pow_sub_one_eq_mod]
    omega
  have h : IntKind.i64.wrap ((d % 128 : Nat) : Int) = ((d % 128 : Nat) : Int) := wrap_I64 ⟨by omega, by omega⟩
  rw [← e] at h
  exact h.trans (by rw [e])

theorem popV : (∀ (x : Nat), x < 18446744073709551616 → (0 : Int) ≤ (1 : Int) ∧ ∀ (n : Int), n = (↑x : Int).fdiv (2 ^ min (Int.toNat 1) IntKind.u64.bits) → ∀
 (n_1 : Int), n_1 = bits BinOp.and IntKind.u64 n 6148914691236517205 → ∀ (n : Int), n = bits BinOp.and IntKind.u64 (↑x : Int) 6148914691236517205 → ∀ (n_2 :
 Int), n_2 = IntKind.u64.wrap (n_1 + n) → (0 : Int) ≤ (2 : Int) ∧ ∀ (n : Int), n = n_2.fdiv (2 ^ min (Int.toNat 2) IntKind.u64.bits) → ∀ (n_3 : Int), n_3 = bits
 BinOp.and IntKind.u64 n 3689348814741910323 → ∀ (n : Int), n = bits BinOp.and IntKind.u64 n_2 3689348814741910323 → ∀ (n_4 : Int), n_4 = IntKind.u64.wrap (n_3 +
 n) → (0 : Int) ≤ (4 : Int) ∧ ∀ (n : Int), n = n_4.fdiv (2 ^ min (Int.toNat 4) IntKind.u64.bits) → ∀ (n_5 : Int), n_5 = IntKind.u64.wrap (n + n_4) → ∀ (n : Int),
 n = bits BinOp.and IntKind.u64 n_5 1085102592571150095 → (0 : Int) ≤ (8 : Int) ∧ ∀ (n_6 : Int), n_6 = n.fdiv (2 ^ min (Int.toNat 8) IntKind.u64.bits) → ∀ (n_7 :
 Int), n_7 = IntKind.u64.wrap (n + n_6) → (0 : Int) ≤ (16 : Int) ∧ ∀ (n : Int), n = n_7.fdiv (2 ^ min (Int.toNat 16) IntKind.u64.bits) → ∀ (n_8 : Int), n_8 =
 IntKind.u64.wrap (n_7 + n) → (0 : Int) ≤ (32 : Int) ∧ ∀ (n : Int), n = n_8.fdiv (2 ^ min (Int.toNat 32) IntKind.u64.bits) → ∀ (n_9 : Int), n_9 =
 IntKind.u64.wrap (n_8 + n) → ∀ (m : Int), m = IntKind.i64.wrap n_9 → ∀ (n : Int), n = bits BinOp.and IntKind.i64 m 127 → Exx Unit fun y => ((Tr 1 (n = (↑(popN
 x) : Int)) ∧ True) ∧ true = true ∧ True) ∧ True) = (fnVC tb [] Tryd.f46 popC (fun _ => {}) (fun _ => none)) := by kernel_rfl

theorem pop_ok : SpecOk Tryd.prog 46 (specOf popC) := by
  refine specOk mixed tb_ok SPok.nil Tryd.func46 (by decide) (pureC_ok fun _ => rfl) (an := (fun _ => {})) (σ := (fun _ => none)) ?_
  rw [← popV]
  simp (maxSteps := 10000000) only [and_false, false_and, false_or, or_false, bOf_true, bOf_false, true_bOf, false_bOf, Exx, int_ite, merge_o, Tr_eq, true_and, and_true, exists_const, forall_const, implies_true, forall_eq, exists_eq, exists_eq', exists_eq_left, exists_eq_left', exists_eq_right, Prod.exists, Prod.forall, and_assoc, exists_and_left, BC_iff, Bool.not_eq_true', Bool.not_eq_false', decide_eq_true_eq, decide_eq_false_iff_not, I64, nat_cast_inj, Int.toNat_natCast, nats_iff, nats_iff', ints_iff, ints_iff', natss_iff, natss_iff', nilnil, litL_eq, str_inj, str_append, str_length, str_getD, str_take, lit1_iff, one_iff, two_iff, one_get, Nat.zero_add, Nat.sub_zero, Nat.reduceMul, Nat.reduceDiv, Nat.reduceAdd, Int.reduceToNat, Nat.not_lt_zero, if_false, if_true, Nat.le_refl, List.length_singleton, List.length_cons, List.length_nil, Bool.false_eq_true, not_true_eq_false, false_implies, not_false_eq_true, Prod.mk.injEq]
  intro x hx
  have hA := popA_lt (k := 8) (x := x)
  rw [mask5] at hA
  have hB := popB_lt (k := 8) (x := popA 8 x)
  rw [mask3] at hB
  obtain ⟨h1, h2, h3, h4, h5⟩ := popN_sum (w := x) hx rfl rfl rfl rfl
  refine ⟨by omega, by omega, by omega, by omega, by omega, by omega, ?_⟩
  rw [popA_go hx, popB_go (by omega), popD_go (x := popB 8 (popA 8 x)) (by omega)]
  simp only [popU] at h1 h2 h3 h4 h5
  generalize popD 8 (popB 8 (popA 8 x)) = a at *
  rw [popE_go (i := 8) (by decide) (by omega), popE_go (i := 16) (by decide) (by omega), popE_go (i := 32) (by decide) (by omega)]
  simp only [Nat.reducePow]
  generalize a + a / 256 = b at *
  generalize b + b / 65536 = c at *
  generalize c + c / 4294967296 = d at *
  have hw : IntKind.i64.wrap ((d : Nat) : Int) = (d : Int) := wrap_I64 ⟨by omega, by omega⟩
  rw [hw, and127, h5]

def setCountC : Ctr := setGetC Unit (fun _ => True) (fun _ => []) (fun x => i64 ((bitsL x.1.1 x.1.2).length : Nat))

def cntN (m i : Nat) : Nat := (bitsL (64 * i) m).length
def countLA (x : (Nat × Nat) × Unit) : LA := { T := Nat × Nat, F := fun s => frm 21 [(3, i64 (cntN x.1.2 s.1 : Nat)), (9, .sl 2 [] 0 1 0 (wcount x.1.1) s.2), (10, i64 (wcount x.1.1 : Nat)), (11, i64 (s.1 : Nat))], H := fun s => [.cells 65 [i64 (x.1.1 : Int), .sl 2 [] 0 1 0 (wcount x.1.1) s.2], .fence, .row 66 1 s.2 (wcount x.1.1) (fun j => [u64 (wordN x.1.2 j)])] }

theorem setCountV : (∀ (x : (Nat × Nat) × Unit), SetW x.1 ∧ True → setB x.1 = (setO x.1).ob ∧ ∀ (g : Nat), Exx (Nat × Nat → Prop) fun I => Exx (Nat × Nat → Nat)
 fun m => (Exx (Nat × Nat) fun t => I t ∧ Tr 3 (Tr 1 ((0 : Int) = (↑(cntN x.1.2 t.1) : Int)) ∧ Tr 5 ((true = true ∧ NilNil ∧ (0 : Nat) = 0 ∧ (1 : Nat) = 1 ∧ (0 :
 Nat) = 0 ∧ wcount x.1.1 = wcount x.1.1 ∧ g = t.2) ∧ Tr 1 ((↑(wcount x.1.1) : Int) = (↑(wcount x.1.1) : Int)) ∧ Tr 1 ((0 : Int) = (↑t.1 : Int)) ∧ Tr 9 True)) ∧
 ((65 : TypeId) = 65 ∧ Tr 1 ((↑x.1.1 : Int) = (↑x.1.1 : Int)) ∧ (true = true ∧ NilNil ∧ (0 : Nat) = 0 ∧ (1 : Nat) = 1 ∧ (0 : Nat) = 0 ∧ wcount x.1.1 = wcount
 x.1.1 ∧ g = t.2) ∧ True) ∧ true = true ∧ ((66 : TypeId) = 66 ∧ (1 : Nat) = 1 ∧ g = t.2 ∧ wcount x.1.1 ≤ wcount x.1.1 ∧ ∀ (i : Nat), i < wcount x.1.1 → [AV.int
 .u64 (↑(wordN x.1.2 i) : Int)] = [AV.int .u64 (↑(wordN x.1.2 i) : Int)]) ∧ True) ∧ ∀ (t : Nat × Nat), I t → BC (decide ((↑t.1 : Int) < (↑(wcount x.1.1) : Int)))
 (((0 : Int) ≤ (↑t.1 : Int) ∧ (↑t.1 : Int) < (↑(wcount x.1.1) : Int)) ∧ 0 + (↑t.1 : Int).toNat < wcount x.1.1 ∧ Exx Nat fun x_1 => ((Tr 1 ((↑(wordN x.1.2 (0 +
 (↑t.1 : Int).toNat)) : Int) = (↑x_1 : Int)) ∧ True) ∧ true = true ∧ True) ∧ x_1 < 18446744073709551616 ∧ ∀ (y : Unit), True → I64 ((↑(cntN x.1.2 t.1) : Int) +
 (↑(popN x_1) : Int)) ∧ I64 ((↑t.1 : Int) + 1) ∧ Exx (Nat × Nat) fun t' => (I t' ∧ m t' < m t) ∧ Tr 3 (Tr 1 ((↑(cntN x.1.2 t.1) : Int) + (↑(popN x_1) : Int) =
 (↑(cntN x.1.2 t'.fst) : Int)) ∧ Tr 5 ((true = true ∧ NilNil ∧ (0 : Nat) = 0 ∧ (1 : Nat) = 1 ∧ (0 : Nat) = 0 ∧ wcount x.1.1 = wcount x.1.1 ∧ t.2 = t'.snd) ∧ Tr 1
 ((↑(wcount x.1.1) : Int) = (↑(wcount x.1.1) : Int)) ∧ Tr 1 ((↑t.1 : Int) + 1 = (↑t'.fst : Int)) ∧ Tr 9 True)) ∧ ((65 : TypeId) = 65 ∧ Tr 1 ((↑x.1.1 : Int) =
 (↑x.1.1 : Int)) ∧ (true = true ∧ NilNil ∧ (0 : Nat) = 0 ∧ (1 : Nat) = 1 ∧ (0 : Nat) = 0 ∧ wcount x.1.1 = wcount x.1.1 ∧ t.2 = t'.snd) ∧ True) ∧ true = true ∧
 ((66 : TypeId) = 66 ∧ (1 : Nat) = 1 ∧ t.2 = t'.snd ∧ wcount x.1.1 ≤ wcount x.1.1 ∧ ∀ (i : Nat), i < wcount x.1.1 → [AV.int .u64 (↑(wordN x.1.2 i) : Int)] =
 [AV.int .u64 (↑(wordN x.1.2 i) : Int)]) ∧ True) (Exx Unit fun y => Exx Nat fun g => Tr 1 (((65 : TypeId) = 65 ∧ Tr 1 ((↑x.1.1 : Int) = (↑x.1.1 : Int)) ∧ (true =
 true ∧ NilNil ∧ (0 : Nat) = 0 ∧ (1 : Nat) = 1 ∧ (0 : Nat) = 0 ∧ wcount x.1.1 = wcount x.1.1 ∧ t.2 = g) ∧ True) ∧ ((66 : TypeId) = 66 ∧ (1 : Nat) = 1 ∧ t.2 = g ∧
 wcount x.1.1 ≤ wcount x.1.1 ∧ ∀ (i : Nat), i < wcount x.1.1 → [AV.int .u64 (↑(wordN x.1.2 i) : Int)] = [AV.int .u64 (↑(wordN x.1.2 i) : Int)]) ∧ True) ∧ ((Tr 1
 ((↑(cntN x.1.2 t.1) : Int) = (↑(bitsL x.1.1 x.1.2).length : Int)) ∧ True) ∧ (setO x.1).ob = setB x.1 ∧ true = true ∧ True) ∧ True)) = (fnVCo tb [(46, specOf popC)] Tryd.f33 setCountC (fun x => { loops := [(3, countLA x)] }) (fun _ _ _ => none) (fun x => [(0, setO x.1)]) (fun x y av H => [(0, [2], setO x.1)])) := by kernel_rfl 

theorem setCount_ok : SpecOk Tryd.prog 33 (specOf setCountC) := by
  refine specOko mixed tb_ok (SPok.cons pop_ok SPok.nil) Tryd.func33 (by decide) (setGetC_ok fun _ => rfl) (an := (fun x => { loops := [(3, countLA x)] })) (σ := (fun _ _ _ => none)) (op := (fun x => [(0, setO x.1)])) (cl := (fun x y av H => [(0, [2], setO x.1)])) ?_
  rw [← setCountV]
  simp (maxSteps := 10000000) only [and_false, false_and, false_or, or_false, bOf_true, bOf_false, true_bOf, false_bOf, Exx, int_ite, merge_o, Tr_eq, true_and, and_true, exists_const, forall_const, implies_true, forall_eq, exists_eq, exists_eq', exists_eq_left, exists_eq_left', exists_eq_right, Prod.exists, Prod.forall, and_assoc, exists_and_left, BC_iff, Bool.not_eq_true', Bool.not_eq_false', decide_eq_true_eq, decide_eq_false_iff_not, I64, nat_cast_inj, Int.toNat_natCast, nats_iff, nats_iff', ints_iff, ints_iff', natss_iff, natss_iff', nilnil, litL_eq, str_inj, str_append, str_length, str_getD, str_take, lit1_iff, one_iff, two_iff, one_get, Nat.zero_add, Nat.sub_zero, Nat.reduceMul, Nat.reduceDiv, Nat.reduceAdd, Int.reduceToNat, Nat.not_lt_zero, if_false, if_true, Nat.le_refl, List.length_singleton, List.length_cons, List.length_nil, Bool.false_eq_true, not_true_eq_false, false_implies, not_false_eq_true, Prod.mk.injEq, setB_open, setB_close, setB_inj]
  rintro n m hs cap
  have hn := hs.1
  simp only at hn
  have hw : wcount n ≤ 48 := by unfold wcount; omega
  refine ⟨fun s => s.1 ≤ wcount n ∧ s.2 = cap, ⟨0, cap, ⟨by simp, rfl⟩, rfl, rfl, rfl, rfl, rfl⟩, fun s => wcount n - s.1, ?_⟩
  rintro i cap' ⟨hi, hc⟩
  simp only at hi hc
  subst hc
  have h1 : cntN m i ≤ 64 * i := bitsL_len _ _
  have h2 := popN_le (wordN m i)
  refine ⟨fun hlt => ⟨by omega, by omega, by omega, wordN_lt _ _, by omega, by omega, by omega, by omega, i + 1, _, ⟨by simp only; omega, rfl⟩, by simp only; omega, ?_, rfl, by omega, rfl, rfl⟩, fun hge => ?_⟩
  · rw [cntN, cntN, bitsL_step, List.length_append, List.length_map]; rfl
  · rw [show i = wcount n by omega, cntN, bitsL_words hs.2]

def setListC : Ctr where
  X := Nat × Nat
  Y := Nat
  conv := true
  tau := ptrTau
  pre := SetW
  args := fun _ => [.ptr 0 [] 0]
  heap := fun s => [setI s]
  Q := fun s cap => (listN s).length ≤ cap
  res := fun s cap => .sl 2 [] 0 1 0 (listN s).length cap
  its := fun s _ => [setI s]
  new := fun s cap => [rowI 3 .i64 cap (listN s)]
theorem setListC_ok : CtrOk setListC :=
  ⟨fun _ _ _ _ => (rfl : 1 = 1), fun _ _ _ _ => ⟨rfl, rfl⟩, fun x _ _ _ _ => ⟨⟨⟨trivial, trivial⟩, ⟨⟨fun _ _ => ⟨rfl, trivial⟩, trivial⟩, trivial⟩⟩, rfl⟩⟩
abbrev listFam (x : Nat × Nat) (scap cap : Nat) (l : List Int) : AH := [.cells 65 [i64 (x.1 : Int), .sl 2 [] 0 1 0 (wcount x.1) scap], .fence, .row 66 1 scap (wcount x.1) (fun j => [u64 (wordN x.2 j)]), .row 3 1 cap l.length (fun j => [i64 (l.getD j 0)])]
def preN (m i : Nat) : List Int := (bitsL (64 * i) m).map fun j : Nat => (j : Int)
theorem preN_step (m i : Nat) : preN m (i + 1) = preN m i ++ (bitsL 64 (wordN m i)).map (fun j : Nat => ((64 * i + j : Nat) : Int)) := by
  rw [preN, bitsL_step, List.map_append, List.map_map]; rfl
theorem appendI_getD {l m : List Int} {i : Nat} : (l ++ m).getD i 0 = if i < l.length then l.getD i 0 else m.getD (i - l.length) 0 := by
  rw [List.getD_eq_getElem?_getD, List.getD_eq_getElem?_getD, List.getD_eq_getElem?_getD]
  by_cases h : i < l.length
  · rw [if_pos h, List.getElem?_append_left h]
  · rw [if_neg h, List.getElem?_append_right (by omega)]
def listLA (x : Nat × Nat) : LA := { T := Nat × Nat × Nat × List Int, F := fun s => frm 32 [(3, .sl 3 [] 0 1 0 s.2.2.2.length s.2.2.1), (9, .sl 2 [] 0 1 0 (wcount x.1) s.2.1), (10, i64 (wcount x.1 : Nat)), (11, i64 (s.1 : Nat))], H := fun s => listFam x s.2.1 s.2.2.1 s.2.2.2 }
def listLB (x : Nat × Nat) : LA := { T := Nat × Nat × Nat × Nat × List Int, F := fun s => frm 32 [(3, .sl 3 [] 0 1 0 s.2.2.2.2.length s.2.2.2.1), (4, i64 (s.1 : Nat)), (5, u64 s.2.1), (9, .sl 2 [] 0 1 0 (wcount x.1) s.2.2.1), (10, i64 (wcount x.1 : Nat)), (11, i64 (s.1 : Nat))], H := fun s => listFam x s.2.2.1 s.2.2.2.1 s.2.2.2.2 }

theorem setListV : (∀ (x : Nat × Nat), SetW x → setB x = (setO x).ob ∧ ∀ (g : Nat), Exx (Nat × Nat × Nat × List Int → Prop) fun I => Exx (Nat × Nat × Nat × List
 Int → Nat) fun m => (Exx (Nat × Nat × Nat × List Int) fun t => I t ∧ Tr 3 ((t.2.2.2.length = 0 ∧ t.2.2.1 = 0) ∧ Tr 5 ((true = true ∧ NilNil ∧ (0 : Nat) = 0 ∧ (1
 : Nat) = 1 ∧ (0 : Nat) = 0 ∧ wcount x.1 = wcount x.1 ∧ g = t.2.1) ∧ Tr 1 ((↑(wcount x.1) : Int) = (↑(wcount x.1) : Int)) ∧ Tr 1 ((0 : Int) = (↑t.1 : Int)) ∧ Tr
 20 True)) ∧ ((65 : TypeId) = 65 ∧ Tr 1 ((↑x.1 : Int) = (↑x.1 : Int)) ∧ (true = true ∧ NilNil ∧ (0 : Nat) = 0 ∧ (1 : Nat) = 1 ∧ (0 : Nat) = 0 ∧ wcount x.1 =
 wcount x.1 ∧ g = t.2.1) ∧ True) ∧ true = true ∧ ((66 : TypeId) = 66 ∧ (1 : Nat) = 1 ∧ g = t.2.1 ∧ wcount x.1 ≤ wcount x.1 ∧ ∀ (i : Nat), i < wcount x.1 →
 [AV.int .u64 (↑(wordN x.2 i) : Int)] = [AV.int .u64 (↑(wordN x.2 i) : Int)]) ∧ (t.2.2.1 = 0 ∧ t.2.2.2.length = 0) ∧ True) ∧ ∀ (t : Nat × Nat × Nat × List Int),
 I t → BC (decide ((↑t.1 : Int) < (↑(wcount x.1) : Int))) (((0 : Int) ≤ (↑t.1 : Int) ∧ (↑t.1 : Int) < (↑(wcount x.1) : Int)) ∧ 0 + (↑t.1 : Int).toNat < wcount
 x.1 ∧ Exx (Nat × Nat × Nat × Nat × List Int → Prop) fun I_1 => Exx (Nat × Nat × Nat × Nat × List Int → Nat) fun m_1 => (Exx (Nat × Nat × Nat × Nat × List Int)
 fun t_1 => I_1 t_1 ∧ Tr 3 ((true = true ∧ NilNil ∧ (0 : Nat) = 0 ∧ (1 : Nat) = 1 ∧ (0 : Nat) = 0 ∧ t.2.2.2.length = t_1.2.2.2.2.length ∧ t.2.2.1 = t_1.2.2.2.1)
 ∧ Tr 1 ((↑t.1 : Int) = (↑t_1.1 : Int)) ∧ Tr 1 ((↑(wordN x.2 (0 + (↑t.1 : Int).toNat)) : Int) = (↑t_1.2.1 : Int)) ∧ Tr 3 ((true = true ∧ NilNil ∧ (0 : Nat) = 0 ∧
 (1 : Nat) = 1 ∧ (0 : Nat) = 0 ∧ wcount x.1 = wcount x.1 ∧ t.2.1 = t_1.2.2.1) ∧ Tr 1 ((↑(wcount x.1) : Int) = (↑(wcount x.1) : Int)) ∧ Tr 1 ((↑t.1 : Int) =
 (↑t_1.1 : Int)) ∧ Tr 20 True)) ∧ ((65 : TypeId) = 65 ∧ Tr 1 ((↑x.1 : Int) = (↑x.1 : Int)) ∧ (true = true ∧ NilNil ∧ (0 : Nat) = 0 ∧ (1 : Nat) = 1 ∧ (0 : Nat) =
 0 ∧ wcount x.1 = wcount x.1 ∧ t.2.1 = t_1.2.2.1) ∧ True) ∧ true = true ∧ ((66 : TypeId) = 66 ∧ (1 : Nat) = 1 ∧ t.2.1 = t_1.2.2.1 ∧ wcount x.1 ≤ wcount x.1 ∧ ∀
 (i : Nat), i < wcount x.1 → [AV.int .u64 (↑(wordN x.2 i) : Int)] = [AV.int .u64 (↑(wordN x.2 i) : Int)]) ∧ ((3 : TypeId) = 3 ∧ (1 : Nat) = 1 ∧ t.2.2.1 =
 t_1.2.2.2.1 ∧ t_1.2.2.2.2.length ≤ t.2.2.2.length ∧ ∀ (i : Nat), i < t_1.2.2.2.2.length → [AV.int .i64 (t.2.2.2.getD i 0)] = [AV.int .i64 (t_1.2.2.2.2.getD i
 0)]) ∧ True) ∧ ∀ (t_1 : Nat × Nat × Nat × Nat × List Int), I_1 t_1 → BC (!decide ((↑t_1.2.1 : Int) = (0 : Int))) (I64 ((↑t_1.1 : Int) * 64) ∧ Exx Nat fun x_1 =>
 ((Tr 1 ((↑t_1.2.1 : Int) = (↑x_1 : Int)) ∧ True) ∧ true = true ∧ True) ∧ x_1 < 18446744073709551616 ∧ ∀ (y : Unit), True → I64 ((↑t_1.1 : Int) * 64 + (↑(tzN
 x_1) : Int)) ∧ (0 : Nat) + (1 : Nat) ≤ (1 : Nat) ∧ true = true ∧ (t_1.2.2.2.2.length ≤ t_1.2.2.2.2.length ∧ t_1.2.2.2.1 = t_1.2.2.2.1) ∧ (t_1.2.2.2.2.length + 1
 ≤ 9223372036854775807 ∧ (t_1.2.2.2.2.length + 1) * 8 ≤ 140737488355328) ∧ ∀ (cap : Nat), t_1.2.2.2.2.length + 1 ≤ cap ∧ cap ≤ 9223372036854775807 → ∀ (n : Int),
 n = IntKind.u64.wrap ((↑t_1.2.1 : Int) - 1) → ∀ (n_1 : Int), n_1 = bits BinOp.and IntKind.u64 (↑t_1.2.1 : Int) n → Exx (Nat × Nat × Nat × Nat × List Int) fun t'
 => (I_1 t' ∧ m_1 t' < m_1 t_1) ∧ Tr 3 ((true = true ∧ NilNil ∧ (0 : Nat) = 0 ∧ (1 : Nat) = 1 ∧ (0 : Nat) = 0 ∧ t_1.2.2.2.2.length + 1 = t'.snd.2.2.2.length ∧
 cap = t'.snd.2.2.1) ∧ Tr 1 ((↑t_1.1 : Int) = (↑t'.fst : Int)) ∧ Tr 1 (n_1 = (↑t'.snd.1 : Int)) ∧ Tr 3 ((true = true ∧ NilNil ∧ (0 : Nat) = 0 ∧ (1 : Nat) = 1 ∧
 (0 : Nat) = 0 ∧ wcount x.1 = wcount x.1 ∧ t_1.2.2.1 = t'.snd.2.1) ∧ Tr 1 ((↑(wcount x.1) : Int) = (↑(wcount x.1) : Int)) ∧ Tr 1 ((↑t_1.1 : Int) = (↑t'.fst :
 Int)) ∧ Tr 20 True)) ∧ ((65 : TypeId) = 65 ∧ Tr 1 ((↑x.1 : Int) = (↑x.1 : Int)) ∧ (true = true ∧ NilNil ∧ (0 : Nat) = 0 ∧ (1 : Nat) = 1 ∧ (0 : Nat) = 0 ∧ wcount
 x.1 = wcount x.1 ∧ t_1.2.2.1 = t'.snd.2.1) ∧ True) ∧ true = true ∧ ((66 : TypeId) = 66 ∧ (1 : Nat) = 1 ∧ t_1.2.2.1 = t'.snd.2.1 ∧ wcount x.1 ≤ wcount x.1 ∧ ∀ (i
 : Nat), i < wcount x.1 → [AV.int .u64 (↑(wordN x.2 i) : Int)] = [AV.int .u64 (↑(wordN x.2 i) : Int)]) ∧ ((3 : TypeId) = 3 ∧ (1 : Nat) = 1 ∧ cap = t'.snd.2.2.1 ∧
 t'.snd.2.2.2.length ≤ t_1.2.2.2.2.length + 1 ∧ ∀ (i : Nat), i < t'.snd.2.2.2.length → (if i < t_1.2.2.2.2.length then [AV.int .i64 (t_1.2.2.2.2.getD i 0)] else
 [AV.int .i64 (if 0 + (i - t_1.2.2.2.2.length) = 0 * 1 / 1 then (↑t_1.1 : Int) * 64 + (↑(tzN x_1) : Int) else 0)]) = [AV.int .i64 (t'.snd.2.2.2.getD i 0)]) ∧
 True) (I64 ((↑t_1.1 : Int) + 1) ∧ Exx (Nat × Nat × Nat × List Int) fun t' => (I t' ∧ m t' < m t) ∧ Tr 3 ((true = true ∧ NilNil ∧ (0 : Nat) = 0 ∧ (1 : Nat) = 1 ∧
 (0 : Nat) = 0 ∧ t_1.2.2.2.2.length = t'.snd.2.2.length ∧ t_1.2.2.2.1 = t'.snd.2.1) ∧ Tr 5 ((true = true ∧ NilNil ∧ (0 : Nat) = 0 ∧ (1 : Nat) = 1 ∧ (0 : Nat) = 0
 ∧ wcount x.1 = wcount x.1 ∧ t_1.2.2.1 = t'.snd.1) ∧ Tr 1 ((↑(wcount x.1) : Int) = (↑(wcount x.1) : Int)) ∧ Tr 1 ((↑t_1.1 : Int) + 1 = (↑t'.fst : Int)) ∧ Tr 20
 True)) ∧ ((65 : TypeId) = 65 ∧ Tr 1 ((↑x.1 : Int) = (↑x.1 : Int)) ∧ (true = true ∧ NilNil ∧ (0 : Nat) = 0 ∧ (1 : Nat) = 1 ∧ (0 : Nat) = 0 ∧ wcount x.1 = wcount
 x.1 ∧ t_1.2.2.1 = t'.snd.1) ∧ True) ∧ true = true ∧ ((66 : TypeId) = 66 ∧ (1 : Nat) = 1 ∧ t_1.2.2.1 = t'.snd.1 ∧ wcount x.1 ≤ wcount x.1 ∧ ∀ (i : Nat), i <
 wcount x.1 → [AV.int .u64 (↑(wordN x.2 i) : Int)] = [AV.int .u64 (↑(wordN x.2 i) : Int)]) ∧ ((3 : TypeId) = 3 ∧ (1 : Nat) = 1 ∧ t_1.2.2.2.1 = t'.snd.2.1 ∧
 t'.snd.2.2.length ≤ t_1.2.2.2.2.length ∧ ∀ (i : Nat), i < t'.snd.2.2.length → [AV.int .i64 (t_1.2.2.2.2.getD i 0)] = [AV.int .i64 (t'.snd.2.2.getD i 0)]) ∧
 True)) (Exx Nat fun y => Exx Nat fun g => Tr 1 (((65 : TypeId) = 65 ∧ Tr 1 ((↑x.1 : Int) = (↑x.1 : Int)) ∧ (true = true ∧ NilNil ∧ (0 : Nat) = 0 ∧ (1 : Nat) = 1
 ∧ (0 : Nat) = 0 ∧ wcount x.1 = wcount x.1 ∧ t.2.1 = g) ∧ True) ∧ ((66 : TypeId) = 66 ∧ (1 : Nat) = 1 ∧ t.2.1 = g ∧ wcount x.1 ≤ wcount x.1 ∧ ∀ (i : Nat), i <
 wcount x.1 → [AV.int .u64 (↑(wordN x.2 i) : Int)] = [AV.int .u64 (↑(wordN x.2 i) : Int)]) ∧ True) ∧ (((true = true ∧ NilNil ∧ (0 : Nat) = 0 ∧ (1 : Nat) = 1 ∧ (0
 : Nat) = 0 ∧ t.2.2.2.length = (listN x).length ∧ t.2.2.1 = y) ∧ True) ∧ (setO x).ob = setB x ∧ true = true ∧ ((3 : TypeId) = 3 ∧ (1 : Nat) = 1 ∧ t.2.2.1 = y ∧
 (listN x).length ≤ t.2.2.2.length ∧ ∀ (i : Nat), i < (listN x).length → [AV.int .i64 (t.2.2.2.getD i 0)] = [AV.int .i64 ((listN x).getD i 0)]) ∧ True) ∧ (listN
 x).length ≤ y)) = (fnVCo tb [(38, specOf tzerosC)] Tryd.f20 setListC (fun x => { loops := [(3, listLA x), (5, listLB x)] }) (fun _ _ _ => some [some 0, some 1, some 3]) (fun x => [(0, setO x)]) (fun x y av H => [(0, [2], setO x)])) := by kernel_rfl 

theorem setList_ok : SpecOk Tryd.prog 20 (specOf setListC) := by
  refine specOko mixed tb_ok (SPok.cons tzeros_ok SPok.nil) Tryd.func20 (by decide) setListC_ok (an := (fun x => { loops := [(3, listLA x), (5, listLB x)] })) (σ := (fun _ _ _ => some [some 0, some 1, some 3])) (op := (fun x => [(0, setO x)])) (cl := (fun x y av H => [(0, [2], setO x)])) ?_
  rw [← setListV]
  simp (maxSteps := 10000000) only [and_false, false_and, false_or, or_false, bOf_true, bOf_false, true_bOf, false_bOf, Exx, int_ite, merge_o, Tr_eq, true_and, and_true, exists_const, forall_const, implies_true, forall_eq, exists_eq, exists_eq', exists_eq_left, exists_eq_left', exists_eq_right, Prod.exists, Prod.forall, and_assoc, exists_and_left, BC_iff, Bool.not_eq_true', Bool.not_eq_false', decide_eq_true_eq, decide_eq_false_iff_not, I64, nat_cast_inj, Int.toNat_natCast, nats_iff, nats_iff', ints_iff, ints_iff', natss_iff, natss_iff', nilnil, litL_eq, str_inj, str_append, str_length, str_getD, str_take, lit1_iff, one_iff, two_iff, one_get, Nat.zero_add, Nat.sub_zero, Nat.reduceMul, Nat.reduceDiv, Nat.reduceAdd, Int.reduceToNat, Nat.not_lt_zero, if_false, if_true, Nat.le_refl, List.length_singleton, List.length_cons, List.length_nil, Bool.false_eq_true, not_true_eq_false, false_implies, not_false_eq_true, Prod.mk.injEq, setB_open, setB_close, setB_inj]
  rintro n m hs cap
  have hn := hs.1
  simp only at hn
  have hw : wcount n ≤ 48 := by unfold wcount; omega
  refine ⟨fun s => s.1 ≤ wcount n ∧ s.2.1 = cap ∧ s.2.2.2 = preN m s.1 ∧ s.2.2.2.length ≤ s.2.2.1, ⟨0, cap, 0, [], ⟨by simp, rfl, rfl, Nat.le_refl _⟩, rfl, rfl, rfl, rfl, rfl, rfl, rfl, rfl⟩, fun s => wcount n - s.1, ?_⟩
  rintro i cap' oc l ⟨hi, hc, hl, hoc⟩
  simp only at hi hc hl hoc
  subst hc
  refine ⟨fun hlt => ⟨by omega, by omega, by omega, fun s => s.1 = i ∧ s.2.2.1 = cap' ∧ s.2.1 < 18446744073709551616 ∧ s.2.2.2.2 ++ (bitsL 64 s.2.1).map (fun j : Nat => ((64 * i + j : Nat) : Int)) = preN m (i + 1) ∧ s.2.2.2.2.length ≤ s.2.2.2.1, ⟨i, wordN m i, cap', oc, l, ⟨rfl, rfl, wordN_lt _ _, ?_, hoc⟩, rfl, rfl, rfl, rfl, rfl, rfl, rfl, rfl, rfl, by omega, fun _ _ => rfl⟩, fun s => s.2.1, ?_⟩, fun hge => ?_⟩
  · simp only
    rw [hl, preN_step]
  · rintro j w cap2 oc2 l2 ⟨hj, hc2, hw2, hl2, hoc2⟩
    simp only at hj hc2 hw2 hl2 hoc2
    subst hj hc2
    have hlen : l2.length + (bitsL 64 w).length = (preN m (j + 1)).length := by rw [← hl2, List.length_append, List.length_map]
    have hlen2 : (preN m (j + 1)).length ≤ 64 * (j + 1) := by rw [preN, List.length_map]; exact bitsL_len _ _
    refine ⟨fun h => ?_, fun h => ?_⟩
    · obtain ⟨k, q, hk⟩ := low_exists (w := w) (by omega)
      obtain ⟨h1, h2, h3, h4⟩ := low_step hk hw2
      have ht : tzN w = k := by rw [tzN, h2]; rfl
      rw [ht]
      have hsub : IntKind.u64.wrap ((w : Int) - 1) = ((w - 1 : Nat) : Int) := by
        rw [show (w : Int) - 1 = ((w - 1 : Nat) : Int) by omega, wrapU (by omega)]
      have hand : bits BinOp.and IntKind.u64 (w : Int) (IntKind.u64.wrap ((w : Int) - 1)) = ((clr w k : Nat) : Int) := by
        rw [hsub, andU hw2 (by omega), h3]
      have hclr : clr w k < w := by
        rw [← h3]; exact Nat.lt_of_le_of_lt Nat.and_le_right (by omega)
      have e1 : (j : Int) * 64 + (k : Int) = ((64 * j + k : Nat) : Int) := by omega
      rw [hand, e1]
      refine ⟨by omega, by omega, by omega, by omega, by omega, by omega, by omega, ?_⟩
      rintro oc3 ⟨hc3, hc4⟩
      refine ⟨j, clr w k, cap2, oc3, l2 ++ [((64 * j + k : Nat) : Int)], ⟨rfl, rfl, by simp only; omega, ?_, by simpa using hc3⟩, hclr, by simp, rfl, rfl, rfl, rfl, rfl, rfl, rfl, rfl, by simp, fun i hi => ?_⟩
      · simp only
        rw [← hl2, h2, List.map_cons, List.append_assoc]; rfl
      · rw [appendI_getD]
        by_cases e : i < l2.length
        · rw [if_pos e, if_pos e]
        · have : i - l2.length = 0 := by simp at hi; omega
          rw [if_neg e, if_neg e, this]; rfl
    · have h0 : w = 0 := by omega
      subst h0
      rw [bitsL_zero, List.map_nil, List.append_nil] at hl2
      exact ⟨by omega, by omega, j + 1, cap2, oc2, l2, ⟨by simp only; omega, rfl, hl2, hoc2⟩, by simp only; omega, rfl, rfl, rfl, by omega, rfl, rfl, rfl, by omega, fun _ _ => rfl⟩
  · have : l = listN (n, m) := by
      rw [hl, show i = wcount n by omega, preN, bitsL_words hs.2]; rfl
    subst this
    exact ⟨rfl, by omega, fun _ _ => rfl, hoc⟩

end Yard
