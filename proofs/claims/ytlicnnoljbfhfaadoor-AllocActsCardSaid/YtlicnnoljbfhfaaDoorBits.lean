import Derived.Test.YtlicnnoljbfhfaaDoorRef01
import Derived.Test.YtlicnnoljbfhfaaDoorBitsMath

namespace Yard
open Go Go.Sx Go.Proofs
set_option linter.unusedVariables false
set_option linter.unusedSimpArgs false
set_option maxRecDepth 4000

abbrev setFam (s : Nat × Nat) (cap : Nat) : AH := [.cells 65 [i64 (s.1 : Int), .sl 1 [] 0 1 0 (wcount s.1) cap], .row 66 1 cap (wcount s.1) (fun j => [u64 (wordN s.2 j)])]
abbrev setO (s : Nat × Nat) : Opn := { tag := [[(s.1 : Int)], [(s.2 : Int)]], G := Nat, fam := setFam s, pl := fun _ => ⟨⟨rfl, rfl, trivial⟩, ⟨fun _ _ => ⟨rfl, trivial⟩, trivial⟩, trivial⟩, nf := fun _ => rfl, root := fun _ => rfl }
def setB (s : Nat × Nat) : Ob := (setO s).ob
abbrev setI (s : Nat × Nat) : Sx.Item := .obj (setB s)
theorem setB_inj {s t : Nat × Nat} : (setB s = setB t) ↔ s = t := by
  constructor
  · intro h
    have := congrArg Ob.tag h
    simp only [setB, Opn.ob, List.cons.injEq, and_true] at this
    exact Prod.ext (Int.ofNat_inj.1 this.1) (Int.ofNat_inj.1 this.2)
  · intro h; rw [h]
theorem setB_open {s t : Nat × Nat} : (setB s = (setO t).ob) ↔ s = t := setB_inj
theorem setB_close {s t : Nat × Nat} : ((setO s).ob = setB t) ↔ s = t := setB_inj
def SetW (s : Nat × Nat) : Prop := s.1 ≤ 3072 ∧ s.2 < 2 ^ s.1
def ptrTau (args : List AV) (H : AH) : List Nat := match args with
  | .ptr p _ _ :: _ => [p]
  | _ => []

def setGetC (Y : Type) (pre : (Nat × Nat) × Y → Prop) (args : (Nat × Nat) × Y → List AV) (res : (Nat × Nat) × Y → AV) : Ctr where
  X := (Nat × Nat) × Y
  Y := Unit
  conv := true
  tau := ptrTau
  pre := fun x => SetW x.1 ∧ pre x
  args := fun x => .ptr 0 [] 0 :: args x
  heap := fun x => [setI x.1]
  Q := fun _ _ => True
  res := fun x _ => res x
  its := fun x _ => [setI x.1]
  new := fun _ _ => []
theorem setGetC_ok {Y : Type} {pre : (Nat × Nat) × Y → Prop} {args : (Nat × Nat) × Y → List AV} {res : (Nat × Nat) × Y → AV} (h : ∀ x, plV 2 (res x)) : CtrOk (setGetC Y pre args res) :=
  ⟨fun _ _ _ _ => rfl, fun _ _ _ _ => ⟨rfl, rfl⟩, fun x _ _ _ _ => ⟨⟨⟨trivial, trivial⟩, trivial⟩, h x⟩⟩

def setTauO (args : List AV) (H : AH) : List Nat := match args with
  | .ptr p _ _ :: _ => match H[p]? with
    | some (.cells _ (_ :: .sl q _ _ _ _ _ _ :: _)) => [p, q]
    | _ => [p]
  | _ => []
def setGetOC (Y : Type) (pre : (Nat × Nat) × Y → Prop) (args : (Nat × Nat) × Y → List AV) (res : (Nat × Nat) × Y → AV) : Ctr where
  X := Nat × (Nat × Nat) × Y
  Y := Unit
  conv := true
  tau := setTauO
  pre := fun x => SetW x.2.1 ∧ pre x.2
  args := fun x => .ptr 0 [] 0 :: args x.2
  heap := fun x => setFam x.2.1 x.1
  Q := fun _ _ => True
  res := fun x _ => res x.2
  its := fun x _ => setFam x.2.1 x.1
  new := fun _ _ => []
theorem setPl (s : Nat × Nat) (cap : Nat) : plH (setFam s cap) := ⟨⟨rfl, rfl, trivial⟩, ⟨fun _ _ => ⟨rfl, trivial⟩, trivial⟩, trivial⟩
theorem setGetOC_ok {Y : Type} {pre : (Nat × Nat) × Y → Prop} {args : (Nat × Nat) × Y → List AV} {res : (Nat × Nat) × Y → AV} (h : ∀ x, plV 2 (res x)) : CtrOk (setGetOC Y pre args res) :=
  ⟨fun _ _ _ _ => rfl, fun _ _ _ _ => ⟨rfl, rfl⟩, fun x _ _ _ _ => ⟨⟨setPl _ _, trivial⟩, h x.2⟩⟩

def inSet (s : Nat × Nat) (at_ : Int) : Prop := 0 ≤ at_ ∧ at_ < (s.1 : Int)
instance (s : Nat × Nat) (at_ : Int) : Decidable (inSet s at_) := by unfold inSet; infer_instance
def hasN (s : Nat × Nat) (at_ : Int) : Bool := decide (inSet s at_) && s.2.testBit at_.toNat
def setSizeC : Ctr := setGetC Unit (fun _ => True) (fun _ => []) (fun x => i64 (x.1.1 : Int))
def setMayOC : Ctr := setGetOC Int (fun x => I64 x.2) (fun x => [i64 x.2]) (fun x => .bool (decide (inSet x.1 x.2)))
def setHasC : Ctr := setGetC Int (fun x => I64 x.2) (fun x => [i64 x.2]) (fun x => .bool (hasN x.1 x.2))
def setHasOC : Ctr := setGetOC Int (fun x => I64 x.2) (fun x => [i64 x.2]) (fun x => .bool (hasN x.1 x.2))

theorem may_iff {s : Nat × Nat} {a : Int} : (0 ≤ a → decide (a < (s.1 : Int)) = decide (inSet s a)) ∧ (¬0 ≤ a → false = decide (inSet s a)) := by
  unfold inSet
  exact ⟨fun h => decide_eq_decide.2 (by omega), fun h => (decide_eq_false (by omega)).symm⟩

theorem row_refl {k : IntKind} {f : Nat → Int} {n : Nat} : ∀ i : Nat, i < n → [AV.int k (f i)] = [AV.int k (f i)] := fun _ _ => rfl

theorem setSizeV : (∀ (x : (Nat × Nat) × Unit), SetW x.1 ∧ True → setB x.1 = (setO x.1).ob ∧ ∀ (g : Nat), Exx Unit fun y => Exx Nat fun g_1 => Tr 1 (((65 :
 TypeId) = 65 ∧ Tr 1 ((↑x.1.1 : Int) = (↑x.1.1 : Int)) ∧ (true = true ∧ NilNil ∧ (0 : Nat) = 0 ∧ (1 : Nat) = 1 ∧ (0 : Nat) = 0 ∧ wcount x.1.1 = wcount x.1.1 ∧ g
 = g_1) ∧ True) ∧ ((66 : TypeId) = 66 ∧ (1 : Nat) = 1 ∧ g = g_1 ∧ wcount x.1.1 ≤ wcount x.1.1 ∧ ∀ (i : Nat), i < wcount x.1.1 → [AV.int .u64 (↑(wordN x.1.2 i) :
 Int)] = [AV.int .u64 (↑(wordN x.1.2 i) : Int)]) ∧ True) ∧ ((Tr 1 ((↑x.1.1 : Int) = (↑x.1.1 : Int)) ∧ True) ∧ (setO x.1).ob = setB x.1 ∧ true = true ∧ True) ∧
 True) = (fnVCo tb [] Tryd.f32 setSizeC (fun _ => {}) (fun _ _ _ => none) (fun x => [(0, setO x.1)]) (fun x y av H => [(0, [2], setO x.1)])) := by kernel_rfl

theorem setSize_ok : SpecOk Tryd.prog 32 (specOf setSizeC) := by
  refine specOko mixed tb_ok SPok.nil Tryd.func32 (by decide) (setGetC_ok fun _ => rfl) (an := (fun _ => {})) (σ := (fun _ _ _ => none)) (op := (fun x => [(0, setO x.1)])) (cl := (fun x y av H => [(0, [2], setO x.1)])) ?_
  rw [← setSizeV]
  simp (maxSteps := 10000000) only [and_false, false_and, false_or, or_false, bOf_true, bOf_false, true_bOf, false_bOf, Exx, int_ite, merge_o, Tr_eq, true_and, and_true, exists_const, forall_const, implies_true, forall_eq, exists_eq, exists_eq', exists_eq_left, exists_eq_left', exists_eq_right, Prod.exists, Prod.forall, and_assoc, exists_and_left, BC_iff, Bool.not_eq_true', Bool.not_eq_false', decide_eq_true_eq, decide_eq_false_iff_not, I64, nat_cast_inj, Int.toNat_natCast, nats_iff, nats_iff', ints_iff, ints_iff', natss_iff, natss_iff', nilnil, litL_eq, str_inj, str_append, str_length, str_getD, str_take, lit1_iff, one_iff, two_iff, one_get, Nat.zero_add, Nat.sub_zero, Nat.reduceMul, Nat.reduceDiv, Nat.reduceAdd, Int.reduceToNat, Nat.not_lt_zero, if_false, if_true, Nat.le_refl, List.length_singleton, List.length_cons, List.length_nil, Bool.false_eq_true, not_true_eq_false, false_implies, not_false_eq_true, Prod.mk.injEq, setB_open, setB_close, setB_inj]

theorem setMayOV : (∀ (x : Nat × (Nat × Nat) × Int), SetW x.2.1 ∧ I64 x.2.2 → BC (decide ((0 : Int) ≤ x.2.2)) (Exx Unit fun y => ((decide (x.2.2 < (↑x.2.1.1 :
 Int)) = decide (inSet x.2.1 x.2.2) ∧ True) ∧ ((65 : TypeId) = 65 ∧ Tr 1 ((↑x.2.1.1 : Int) = (↑x.2.1.1 : Int)) ∧ (true = true ∧ NilNil ∧ (0 : Nat) = 0 ∧ (1 :
 Nat) = 1 ∧ (0 : Nat) = 0 ∧ wcount x.2.1.1 = wcount x.2.1.1 ∧ x.1 = x.1) ∧ True) ∧ ((66 : TypeId) = 66 ∧ (1 : Nat) = 1 ∧ x.1 = x.1 ∧ wcount x.2.1.1 ≤ wcount
 x.2.1.1 ∧ ∀ (i : Nat), i < wcount x.2.1.1 → [AV.int .u64 (↑(wordN x.2.1.2 i) : Int)] = [AV.int .u64 (↑(wordN x.2.1.2 i) : Int)]) ∧ true = true ∧ True) ∧ True)
 (Exx Unit fun y => ((false = decide (inSet x.2.1 x.2.2) ∧ True) ∧ ((65 : TypeId) = 65 ∧ Tr 1 ((↑x.2.1.1 : Int) = (↑x.2.1.1 : Int)) ∧ (true = true ∧ NilNil ∧ (0
 : Nat) = 0 ∧ (1 : Nat) = 1 ∧ (0 : Nat) = 0 ∧ wcount x.2.1.1 = wcount x.2.1.1 ∧ x.1 = x.1) ∧ True) ∧ ((66 : TypeId) = 66 ∧ (1 : Nat) = 1 ∧ x.1 = x.1 ∧ wcount
 x.2.1.1 ≤ wcount x.2.1.1 ∧ ∀ (i : Nat), i < wcount x.2.1.1 → [AV.int .u64 (↑(wordN x.2.1.2 i) : Int)] = [AV.int .u64 (↑(wordN x.2.1.2 i) : Int)]) ∧ true = true
 ∧ True) ∧ True)) = (fnVC tb [] Tryd.f47 setMayOC (fun _ => {}) (fun _ => none)) := by kernel_rfl 

theorem setMayO_ok : SpecOk Tryd.prog 47 (specOf setMayOC) := by
  refine specOk mixed tb_ok SPok.nil Tryd.func47 (by decide) (setGetOC_ok fun _ => rfl) (an := (fun _ => {})) (σ := (fun _ => none)) ?_
  rw [← setMayOV]
  simp (maxSteps := 10000000) only [and_false, false_and, false_or, or_false, bOf_true, bOf_false, true_bOf, false_bOf, Exx, int_ite, merge_o, Tr_eq, true_and, and_true, exists_const, forall_const, implies_true, forall_eq, exists_eq, exists_eq', exists_eq_left, exists_eq_left', exists_eq_right, Prod.exists, Prod.forall, and_assoc, exists_and_left, BC_iff, Bool.not_eq_true', Bool.not_eq_false', decide_eq_true_eq, decide_eq_false_iff_not, I64, nat_cast_inj, Int.toNat_natCast, nats_iff, nats_iff', ints_iff, ints_iff', natss_iff, natss_iff', nilnil, litL_eq, str_inj, str_append, str_length, str_getD, str_take, lit1_iff, one_iff, two_iff, one_get, Nat.zero_add, Nat.sub_zero, Nat.reduceMul, Nat.reduceDiv, Nat.reduceAdd, Int.reduceToNat, Nat.not_lt_zero, if_false, if_true, Nat.le_refl, List.length_singleton, List.length_cons, List.length_nil, Bool.false_eq_true, not_true_eq_false, false_implies, not_false_eq_true, Prod.mk.injEq]
  exact fun _ _ _ _ _ => may_iff (s := (_, _))

theorem and1 {w : Nat} (h : w < 2 ^ 64) : bits .and .u64 (w : Int) 1 = ((w % 2 : Nat) : Int) := by
  rw [show (1 : Int) = ((1 : Nat) : Int) from rfl, bits_and (k := .u64) rfl h (by decide), Nat.and_one_is_mod]
theorem has_word {s : Nat × Nat} {a : Int} (h : inSet s a) : decide (bits BinOp.and IntKind.u64 ((wordN s.2 (a.tdiv 64).toNat : Int).fdiv (2 ^ min (a.tmod 64).toNat IntKind.u64.bits)) 1 = 1) = hasN s a := by
  have h0 := h
  unfold inSet at h
  obtain ⟨n, rfl⟩ : ∃ n : Nat, a = (n : Int) := ⟨a.toNat, by omega⟩
  have e1 : ((n : Int).tdiv 64).toNat = n / 64 := rfl
  have e2 : ((n : Int).tmod 64).toNat = n % 64 := rfl
  have h1 := wordN_lt s.2 (n / 64)
  rw [e1, e2, shr_nat (n := IntKind.u64.bits) (show n % 64 ≤ 64 by omega), and1 (Nat.lt_of_le_of_lt (Nat.div_le_self _ _) h1), hasN, decide_eq_true h0, Bool.true_and]
  have : (((wordN s.2 (n / 64) / 2 ^ (n % 64) % 2 : Nat) : Int) = 1) ↔ (wordN s.2 (n / 64)).testBit (n % 64) = true := by rw [← bit_shift]; omega
  have this : decide (((wordN s.2 (n / 64) / 2 ^ (n % 64) % 2 : Nat) : Int) = 1) = (wordN s.2 (n / 64)).testBit (n % 64) := by rw [Bool.eq_iff_iff, decide_eq_true_eq]; exact this
  rw [this, wordN_bit, Int.toNat_natCast]
  have e3 : 64 * (n / 64) + n % 64 = n := by omega
  have e4 : n % 64 < 64 := by omega
  simp [e3, e4]
theorem inSet_word {s : Nat × Nat} {a : Int} (hs : SetW s) (h : inSet s a) : 0 ≤ a.tdiv 64 ∧ a.tdiv 64 < (wcount s.1 : Int) ∧ (a.tdiv 64).toNat < wcount s.1 ∧ 0 ≤ a.tmod 64 ∧ -9223372036854775808 ≤ a.tdiv 64 ∧ a.tdiv 64 ≤ 9223372036854775807 := by
  unfold inSet at h
  unfold SetW at hs
  obtain ⟨n, rfl⟩ : ∃ n : Nat, a = (n : Int) := ⟨a.toNat, by omega⟩
  have e1 : (n : Int).tdiv 64 = ((n / 64 : Nat) : Int) := rfl
  have e2 : (n : Int).tmod 64 = ((n % 64 : Nat) : Int) := rfl
  rw [e1, e2]
  unfold wcount
  omega

theorem setHasV : (∀ (x : (Nat × Nat) × Int), SetW x.1 ∧ I64 x.2 → setB x.1 = (setO x.1).ob ∧ ∀ (g : Nat), Exx (Nat × (Nat × Nat) × Int) fun x_1 => (((true =
 true ∧ NilNil ∧ (0 : Nat) = 0) ∧ Tr 1 (x.2 = x_1.2.2) ∧ True) ∧ true = true ∧ ((65 : TypeId) = 65 ∧ Tr 1 ((↑x.1.1 : Int) = (↑x_1.2.1.1 : Int)) ∧ (true = true ∧
 NilNil ∧ (0 : Nat) = 0 ∧ (1 : Nat) = 1 ∧ (0 : Nat) = 0 ∧ wcount x.1.1 = wcount x_1.2.1.1 ∧ g = x_1.1) ∧ True) ∧ ((66 : TypeId) = 66 ∧ (1 : Nat) = 1 ∧ g = x_1.1
 ∧ wcount x_1.2.1.1 ≤ wcount x.1.1 ∧ ∀ (i : Nat), i < wcount x_1.2.1.1 → [AV.int .u64 (↑(wordN x.1.2 i) : Int)] = [AV.int .u64 (↑(wordN x_1.2.1.2 i) : Int)]) ∧
 True) ∧ (SetW x_1.2.1 ∧ I64 x_1.2.2) ∧ ∀ (y : Unit), True → BC (decide (inSet x_1.2.1 x_1.2.2)) ((64 : Int) ≠ (0 : Int) ∧ I64 (x.2.tdiv 64) ∧ ((0 : Int) ≤
 x.2.tdiv 64 ∧ x.2.tdiv 64 < (↑(wcount x_1.2.1.1) : Int)) ∧ 0 + (x.2.tdiv 64).toNat < wcount x_1.2.1.1 ∧ (64 : Int) ≠ (0 : Int) ∧ ∀ (n : Int), n = x.2.tmod 64 →
 (0 : Int) ≤ n ∧ ∀ (n_1 : Int), n_1 = (↑(wordN x_1.2.1.2 (0 + (x.2.tdiv 64).toNat)) : Int).fdiv (2 ^ min n.toNat IntKind.u64.bits) → ∀ (n : Int), n = bits
 BinOp.and IntKind.u64 n_1 1 → Exx Unit fun y => Exx Nat fun g => Tr 1 (((65 : TypeId) = 65 ∧ Tr 1 ((↑x_1.2.1.1 : Int) = (↑x.1.1 : Int)) ∧ (true = true ∧ NilNil
 ∧ (0 : Nat) = 0 ∧ (1 : Nat) = 1 ∧ (0 : Nat) = 0 ∧ wcount x_1.2.1.1 = wcount x.1.1 ∧ x_1.1 = g) ∧ True) ∧ ((66 : TypeId) = 66 ∧ (1 : Nat) = 1 ∧ x_1.1 = g ∧
 wcount x.1.1 ≤ wcount x_1.2.1.1 ∧ ∀ (i : Nat), i < wcount x.1.1 → [AV.int .u64 (↑(wordN x_1.2.1.2 i) : Int)] = [AV.int .u64 (↑(wordN x.1.2 i) : Int)]) ∧ True) ∧
 ((decide (n = (1 : Int)) = hasN x.1 x.2 ∧ True) ∧ (setO x.1).ob = setB x.1 ∧ true = true ∧ True) ∧ True) (Exx Unit fun y => Exx Nat fun g => Tr 1 (((65 :
 TypeId) = 65 ∧ Tr 1 ((↑x_1.2.1.1 : Int) = (↑x.1.1 : Int)) ∧ (true = true ∧ NilNil ∧ (0 : Nat) = 0 ∧ (1 : Nat) = 1 ∧ (0 : Nat) = 0 ∧ wcount x_1.2.1.1 = wcount
 x.1.1 ∧ x_1.1 = g) ∧ True) ∧ ((66 : TypeId) = 66 ∧ (1 : Nat) = 1 ∧ x_1.1 = g ∧ wcount x.1.1 ≤ wcount x_1.2.1.1 ∧ ∀ (i : Nat), i < wcount x.1.1 → [AV.int .u64
 (↑(wordN x_1.2.1.2 i) : Int)] = [AV.int .u64 (↑(wordN x.1.2 i) : Int)]) ∧ True) ∧ ((false = hasN x.1 x.2 ∧ True) ∧ (setO x.1).ob = setB x.1 ∧ true = true ∧
 True) ∧ True)) = (fnVCo tb [(47, specOf setMayOC)] Tryd.f34 setHasC (fun _ => {}) (fun _ _ _ => none) (fun x => [(0, setO x.1)]) (fun x y av H => [(0, [2], setO x.1)])) := by kernel_rfl 

theorem setHas_ok : SpecOk Tryd.prog 34 (specOf setHasC) := by
  refine specOko mixed tb_ok (SPok.cons setMayO_ok SPok.nil) Tryd.func34 (by decide) (setGetC_ok fun _ => rfl) (an := (fun _ => {})) (σ := (fun _ _ _ => none)) (op := (fun x => [(0, setO x.1)])) (cl := (fun x y av H => [(0, [2], setO x.1)])) ?_
  rw [← setHasV]
  simp (maxSteps := 10000000) only [and_false, false_and, false_or, or_false, bOf_true, bOf_false, true_bOf, false_bOf, Exx, int_ite, merge_o, Tr_eq, true_and, and_true, exists_const, forall_const, implies_true, forall_eq, exists_eq, exists_eq', exists_eq_left, exists_eq_left', exists_eq_right, Prod.exists, Prod.forall, and_assoc, exists_and_left, BC_iff, Bool.not_eq_true', Bool.not_eq_false', decide_eq_true_eq, decide_eq_false_iff_not, I64, nat_cast_inj, Int.toNat_natCast, nats_iff, nats_iff', ints_iff, ints_iff', natss_iff, natss_iff', nilnil, litL_eq, str_inj, str_append, str_length, str_getD, str_take, lit1_iff, one_iff, two_iff, one_get, Nat.zero_add, Nat.sub_zero, Nat.reduceMul, Nat.reduceDiv, Nat.reduceAdd, Int.reduceToNat, Nat.not_lt_zero, if_false, if_true, Nat.le_refl, List.length_singleton, List.length_cons, List.length_nil, Bool.false_eq_true, not_true_eq_false, false_implies, not_false_eq_true, Prod.mk.injEq, setB_open, setB_close, setB_inj]
  rintro n m a ⟨hs, h1, h2⟩ cap
  refine ⟨m, fun _ _ => rfl, hs, h1, h2, fun h => ?_, fun h => ⟨fun _ _ => rfl, ?_⟩⟩
  · obtain ⟨k1, k2, k3, k4, k5, k6⟩ := inSet_word hs h
    exact ⟨by omega, k5, k6, k1, k2, k3, by omega, k4, fun _ _ => rfl, has_word (s := (n, m)) h⟩
  · rw [hasN, decide_eq_false h]; rfl

theorem setHasOV : (∀ (x : Nat × (Nat × Nat) × Int), SetW x.2.1 ∧ I64 x.2.2 → Exx (Nat × (Nat × Nat) × Int) fun x_1 => (((true = true ∧ NilNil ∧ (0 : Nat) = 0)
 ∧ Tr 1 (x.2.2 = x_1.2.2) ∧ True) ∧ true = true ∧ ((65 : TypeId) = 65 ∧ Tr 1 ((↑x.2.1.1 : Int) = (↑x_1.2.1.1 : Int)) ∧ (true = true ∧ NilNil ∧ (0 : Nat) = 0 ∧ (1
 : Nat) = 1 ∧ (0 : Nat) = 0 ∧ wcount x.2.1.1 = wcount x_1.2.1.1 ∧ x.1 = x_1.1) ∧ True) ∧ ((66 : TypeId) = 66 ∧ (1 : Nat) = 1 ∧ x.1 = x_1.1 ∧ wcount x_1.2.1.1 ≤
 wcount x.2.1.1 ∧ ∀ (i : Nat), i < wcount x_1.2.1.1 → [AV.int .u64 (↑(wordN x.2.1.2 i) : Int)] = [AV.int .u64 (↑(wordN x_1.2.1.2 i) : Int)]) ∧ True) ∧ (SetW
 x_1.2.1 ∧ I64 x_1.2.2) ∧ ∀ (y : Unit), True → BC (decide (inSet x_1.2.1 x_1.2.2)) ((64 : Int) ≠ (0 : Int) ∧ I64 (x.2.2.tdiv 64) ∧ ((0 : Int) ≤ x.2.2.tdiv 64 ∧
 x.2.2.tdiv 64 < (↑(wcount x_1.2.1.1) : Int)) ∧ 0 + (x.2.2.tdiv 64).toNat < wcount x_1.2.1.1 ∧ (64 : Int) ≠ (0 : Int) ∧ ∀ (n : Int), n = x.2.2.tmod 64 → (0 :
 Int) ≤ n ∧ ∀ (n_1 : Int), n_1 = (↑(wordN x_1.2.1.2 (0 + (x.2.2.tdiv 64).toNat)) : Int).fdiv (2 ^ min n.toNat IntKind.u64.bits) → ∀ (n : Int), n = bits BinOp.and
 IntKind.u64 n_1 1 → Exx Unit fun y => ((decide (n = (1 : Int)) = hasN x.2.1 x.2.2 ∧ True) ∧ ((65 : TypeId) = 65 ∧ Tr 1 ((↑x_1.2.1.1 : Int) = (↑x.2.1.1 : Int)) ∧
 (true = true ∧ NilNil ∧ (0 : Nat) = 0 ∧ (1 : Nat) = 1 ∧ (0 : Nat) = 0 ∧ wcount x_1.2.1.1 = wcount x.2.1.1 ∧ x_1.1 = x.1) ∧ True) ∧ ((66 : TypeId) = 66 ∧ (1 :
 Nat) = 1 ∧ x_1.1 = x.1 ∧ wcount x.2.1.1 ≤ wcount x_1.2.1.1 ∧ ∀ (i : Nat), i < wcount x.2.1.1 → [AV.int .u64 (↑(wordN x_1.2.1.2 i) : Int)] = [AV.int .u64
 (↑(wordN x.2.1.2 i) : Int)]) ∧ true = true ∧ True) ∧ True) (Exx Unit fun y => ((false = hasN x.2.1 x.2.2 ∧ True) ∧ ((65 : TypeId) = 65 ∧ Tr 1 ((↑x_1.2.1.1 :
 Int) = (↑x.2.1.1 : Int)) ∧ (true = true ∧ NilNil ∧ (0 : Nat) = 0 ∧ (1 : Nat) = 1 ∧ (0 : Nat) = 0 ∧ wcount x_1.2.1.1 = wcount x.2.1.1 ∧ x_1.1 = x.1) ∧ True) ∧
 ((66 : TypeId) = 66 ∧ (1 : Nat) = 1 ∧ x_1.1 = x.1 ∧ wcount x.2.1.1 ≤ wcount x_1.2.1.1 ∧ ∀ (i : Nat), i < wcount x.2.1.1 → [AV.int .u64 (↑(wordN x_1.2.1.2 i) :
 Int)] = [AV.int .u64 (↑(wordN x.2.1.2 i) : Int)]) ∧ true = true ∧ True) ∧ True)) = (fnVC tb [(47, specOf setMayOC)] Tryd.f34 setHasOC (fun _ => {}) (fun _ => none)) := by kernel_rfl 

theorem setHasO_ok : SpecOk Tryd.prog 34 (specOf setHasOC) := by
  refine specOk mixed tb_ok (SPok.cons setMayO_ok SPok.nil) Tryd.func34 (by decide) (setGetOC_ok fun _ => rfl) (an := (fun _ => {})) (σ := (fun _ => none)) ?_
  rw [← setHasOV]
  simp (maxSteps := 10000000) only [and_false, false_and, false_or, or_false, bOf_true, bOf_false, true_bOf, false_bOf, Exx, int_ite, merge_o, Tr_eq, true_and, and_true, exists_const, forall_const, implies_true, forall_eq, exists_eq, exists_eq', exists_eq_left, exists_eq_left', exists_eq_right, Prod.exists, Prod.forall, and_assoc, exists_and_left, BC_iff, Bool.not_eq_true', Bool.not_eq_false', decide_eq_true_eq, decide_eq_false_iff_not, I64, nat_cast_inj, Int.toNat_natCast, nats_iff, nats_iff', ints_iff, ints_iff', natss_iff, natss_iff', nilnil, litL_eq, str_inj, str_append, str_length, str_getD, str_take, lit1_iff, one_iff, two_iff, one_get, Nat.zero_add, Nat.sub_zero, Nat.reduceMul, Nat.reduceDiv, Nat.reduceAdd, Int.reduceToNat, Nat.not_lt_zero, if_false, if_true, Nat.le_refl, List.length_singleton, List.length_cons, List.length_nil, Bool.false_eq_true, not_true_eq_false, false_implies, not_false_eq_true, Prod.mk.injEq]
  rintro cap n m a ⟨hs, h1, h2⟩
  refine ⟨m, fun _ _ => rfl, hs, h1, h2, fun h => ?_, fun h => ⟨?_, fun _ _ => rfl⟩⟩
  · obtain ⟨k1, k2, k3, k4, k5, k6⟩ := inSet_word hs h
    exact ⟨by omega, k5, k6, k1, k2, k3, by omega, k4, has_word (s := (n, m)) h, fun _ _ => rfl⟩
  · rw [hasN, decide_eq_false h]; rfl

abbrev intA (l : List Int) : AV := .ro 1 l.length (fun i => [.int .i64 (l.getD i 0)])
def Ints (l : List Int) : Prop := (∀ x ∈ l, I64 x) ∧ l.length ≤ 100000000
def setActC (g : Nat → Nat → List Int → Nat) : Ctr where
  X := (Nat × Nat) × List Int
  Y := Unit
  conv := true
  tau := ptrTau
  pre := fun x => SetW x.1 ∧ Ints x.2
  args := fun x => [.ptr 0 [] 0, intA x.2]
  heap := fun x => [setI x.1]
  Q := fun _ _ => True
  res := fun x _ => .tup []
  its := fun x _ => [setI (x.1.1, g x.1.1 x.1.2 x.2)]
  new := fun _ _ => []
theorem setActC_ok (g : Nat → Nat → List Int → Nat) : CtrOk (setActC g) :=
  ⟨fun _ _ _ _ => (rfl : 1 = 1), fun _ _ _ _ => ⟨rfl, rfl⟩, fun x _ _ _ _ => ⟨⟨⟨trivial, trivial⟩, trivial⟩, trivial⟩⟩
def setActOC (g : Nat → Nat → List Int → Nat) : Ctr where
  X := Nat × (Nat × Nat) × List Int
  Y := Unit
  conv := true
  tau := setTauO
  pre := fun x => SetW x.2.1 ∧ Ints x.2.2
  args := fun x => [.ptr 0 [] 0, intA x.2.2]
  heap := fun x => setFam x.2.1 x.1
  Q := fun _ _ => True
  res := fun x _ => .tup []
  its := fun x _ => setFam (x.2.1.1, g x.2.1.1 x.2.1.2 x.2.2) x.1
  new := fun _ _ => []
theorem setActOC_ok (g : Nat → Nat → List Int → Nat) : CtrOk (setActOC g) :=
  ⟨fun _ _ _ _ => (rfl : 2 = 2), fun _ _ _ _ => ⟨rfl, rfl⟩, fun x _ _ _ _ => ⟨⟨setPl _ _, trivial⟩, trivial⟩⟩
def setAddC : Ctr := setActC addL
def setAddOC : Ctr := setActOC addL
def setDropC : Ctr := setActC dropL

def setActLA (g : Nat → Nat → List Int → Nat) (n : Nat) (s : Nat × Nat) (l : List Int) (q : Nat) (H : AH → AH → AH) : LA := { T := Nat × Nat, F := fun i => frm n [(0, .ptr 0 [] 0), (6, intA l), (7, i64 (l.length : Int)), (8, i64 (i.1 : Int))], H := fun i => H [.cells 65 [i64 (s.1 : Int), .sl q [] 0 1 0 (wcount s.1) i.2]] [.row 66 1 i.2 (wcount s.1) (fun j => [u64 (wordN (g s.1 s.2 (l.take i.1)) j)])] }

theorem addL_snoc {n m : Nat} {l : List Int} {i : Nat} (h : i < l.length) : addL n m (l.take (i + 1)) = add1 n (addL n m (l.take i)) (l.getD i 0) := by
  rw [take_succ_getD 0 h]; simp [addL]
theorem dropL_snoc {n m : Nat} {l : List Int} {i : Nat} (h : i < l.length) : dropL n m (l.take (i + 1)) = drop1 n (dropL n m (l.take i)) (l.getD i 0) := by
  rw [take_succ_getD 0 h]; simp [dropL]
theorem add1_lt {n m : Nat} {a : Int} (h : m < 2 ^ n) : add1 n m a < 2 ^ n := by
  unfold add1 inB
  split
  · rename_i hb; rw [decide_eq_true_eq] at hb; exact or_lt h (by omega)
  · exact h
theorem drop1_lt {n m : Nat} {a : Int} (h : m < 2 ^ n) : drop1 n m a < 2 ^ n := by
  unfold drop1
  split
  · exact clr_lt h
  · exact h
theorem addL_lt {n : Nat} : ∀ {l : List Int} {m : Nat}, m < 2 ^ n → addL n m l < 2 ^ n
  | [], _, h => h
  | a :: r, m, h => addL_lt (l := r) (add1_lt (a := a) h)
theorem dropL_lt {n : Nat} : ∀ {l : List Int} {m : Nat}, m < 2 ^ n → dropL n m l < 2 ^ n
  | [], _, h => h
  | a :: r, m, h => dropL_lt (l := r) (drop1_lt (a := a) h)

theorem shl1 {r : Nat} (h : r < 64) : IntKind.u64.wrap (1 * 2 ^ min r IntKind.u64.bits) = ((2 ^ r : Nat) : Int) := by
  have := shl_nat (k := .u64) rfl (a := 1) (i := r) (n := IntKind.u64.bits) (Nat.le_of_lt h) (by rw [Nat.one_mul]; exact Nat.pow_lt_pow_right (by decide) h)
  rw [Nat.one_mul] at this; exact this
theorem pow_lt64 {r : Nat} (h : r < 64) : 2 ^ r < 2 ^ IntKind.u64.bits := Nat.pow_lt_pow_right (by decide) h
theorem bits_clr {w r : Nat} (hw : w < 18446744073709551616) (h : r < 64) : bits .andNot .u64 (w : Int) ((2 ^ r : Nat) : Int) = ((clr w r : Nat) : Int) := by
  unfold bits
  have e1 : (BitVec.ofInt 64 (w : Int)).toNat = w := ofInt_nat hw
  have e2 : (BitVec.ofInt 64 ((2 ^ r : Nat) : Int)).toNat = 2 ^ r := ofInt_nat (Nat.pow_lt_pow_right (by decide) h)
  have e3 : ((BitVec.ofInt 64 (w : Int)) &&& ~~~(BitVec.ofInt 64 ((2 ^ r : Nat) : Int))).toNat = clr w r := by
    apply Nat.eq_of_testBit_eq
    intro i
    rw [BitVec.toNat_and, BitVec.toNat_not, e1, e2, Nat.testBit_and, clr_bit, show 2 ^ 64 - 1 - 2 ^ r = 2 ^ 64 - (2 ^ r + 1) by omega, Nat.testBit_two_pow_sub_succ (Nat.pow_lt_pow_right (by decide) h), Nat.testBit_two_pow]
    by_cases hi : i < 64
    · simp [hi]
    · have : w.testBit i = false := Nat.testBit_lt_two_pow (Nat.lt_of_lt_of_le hw (Nat.pow_le_pow_right (n := 2) (by decide) (show 64 ≤ i by omega)))
      simp [this]
  have e5 := wrap_nat (k := .u64) rfl (clr_lt (n := 64) (a := r) hw)
  rw [← e3] at e5
  exact e5.trans (by rw [e3])

theorem add_word {s : Nat × Nat} {a : Int} (h : inSet s a) (i : Nat) : (if i = (a.tdiv 64).toNat then [AV.int IntKind.u64 (bits BinOp.or IntKind.u64 (wordN s.2 (a.tdiv 64).toNat : Int) (IntKind.u64.wrap (1 * 2 ^ min (a.tmod 64).toNat IntKind.u64.bits)))] else [AV.int IntKind.u64 (wordN s.2 i : Int)]) = [AV.int IntKind.u64 ((wordN (add1 s.1 s.2 a) i : Nat) : Int)] := by
  have h0 := h
  unfold inSet at h
  obtain ⟨n, rfl⟩ : ∃ n : Nat, a = (n : Int) := ⟨a.toNat, by omega⟩
  have e1 : ((n : Int).tdiv 64).toNat = n / 64 := rfl
  have e2 : ((n : Int).tmod 64).toNat = n % 64 := rfl
  have hr : n % 64 < 64 := Nat.mod_lt _ (by decide)
  have hb : inB s.1 (n : Int) = true := decide_eq_true h
  rw [e1, e2, shl1 hr, bits_or (k := .u64) rfl (wordN_lt _ _) (pow_lt64 hr), add1, if_pos hb, Int.toNat_natCast, wordN_or]
  by_cases e : i = n / 64
  · subst e; rw [if_pos rfl, if_pos rfl]
  · rw [if_neg e, if_neg e]
theorem drop_word {s : Nat × Nat} {a : Int} (h : inSet s a) (i : Nat) : (if i = (a.tdiv 64).toNat then [AV.int IntKind.u64 (bits BinOp.andNot IntKind.u64 (wordN s.2 (a.tdiv 64).toNat : Int) (IntKind.u64.wrap (1 * 2 ^ min (a.tmod 64).toNat IntKind.u64.bits)))] else [AV.int IntKind.u64 (wordN s.2 i : Int)]) = [AV.int IntKind.u64 ((wordN (drop1 s.1 s.2 a) i : Nat) : Int)] := by
  have h0 := h
  unfold inSet at h
  obtain ⟨n, rfl⟩ : ∃ n : Nat, a = (n : Int) := ⟨a.toNat, by omega⟩
  have e1 : ((n : Int).tdiv 64).toNat = n / 64 := rfl
  have e2 : ((n : Int).tmod 64).toNat = n % 64 := rfl
  have hr : n % 64 < 64 := Nat.mod_lt _ (by decide)
  have hb : inB s.1 (n : Int) = true := decide_eq_true h
  rw [e1, e2, shl1 hr, bits_clr (wordN_lt _ _) hr, drop1, if_pos hb, Int.toNat_natCast, wordN_clr]
  by_cases e : i = n / 64
  · subst e; rw [if_pos rfl, if_pos rfl]
  · rw [if_neg e, if_neg e]
theorem add_out {s : Nat × Nat} {a : Int} (h : ¬ inSet s a) : add1 s.1 s.2 a = s.2 := by
  have : inB s.1 a = false := decide_eq_false h
  rw [add1, this]; rfl
theorem drop_out {s : Nat × Nat} {a : Int} (h : ¬ inSet s a) : drop1 s.1 s.2 a = s.2 := by
  have : inB s.1 a = false := decide_eq_false h
  rw [drop1, this]; rfl

theorem setAddOV : (∀ (x : Nat × (Nat × Nat) × List Int), SetW x.2.1 ∧ Ints x.2.2 → Exx (Nat × Nat → Prop) fun I => Exx (Nat × Nat → Nat) fun m => (Exx (Nat ×
 Nat) fun t => I t ∧ ((true = true ∧ NilNil ∧ (0 : Nat) = 0) ∧ Tr 5 (((1 : Nat) = 1 ∧ x.2.2.length = x.2.2.length ∧ ∀ (i : Nat), i < x.2.2.length → [AV.int .i64
 (x.2.2.getD i 0)] = [AV.int .i64 (x.2.2.getD i 0)]) ∧ Tr 1 ((↑x.2.2.length : Int) = (↑x.2.2.length : Int)) ∧ Tr 1 ((0 : Int) = (↑t.1 : Int)) ∧ Tr 20 True)) ∧
 ((65 : TypeId) = 65 ∧ Tr 1 ((↑x.2.1.1 : Int) = (↑x.2.1.1 : Int)) ∧ (true = true ∧ NilNil ∧ (0 : Nat) = 0 ∧ (1 : Nat) = 1 ∧ (0 : Nat) = 0 ∧ wcount x.2.1.1 =
 wcount x.2.1.1 ∧ x.1 = t.2) ∧ True) ∧ ((66 : TypeId) = 66 ∧ (1 : Nat) = 1 ∧ x.1 = t.2 ∧ wcount x.2.1.1 ≤ wcount x.2.1.1 ∧ ∀ (i : Nat), i < wcount x.2.1.1 →
 [AV.int .u64 (↑(wordN x.2.1.2 i) : Int)] = [AV.int .u64 (↑(wordN (addL x.2.1.1 x.2.1.2 (List.take t.1 x.2.2)) i) : Int)]) ∧ true = true ∧ True) ∧ ∀ (t : Nat ×
 Nat), I t → BC (decide ((↑t.1 : Int) < (↑x.2.2.length : Int))) (((0 : Int) ≤ (↑t.1 : Int) ∧ (↑t.1 : Int) < (↑x.2.2.length : Int)) ∧ Exx (Nat × (Nat × Nat) ×
 Int) fun x_1 => (((true = true ∧ NilNil ∧ (0 : Nat) = 0) ∧ Tr 1 (x.2.2.getD (↑t.1 : Int).toNat 0 = x_1.2.2) ∧ True) ∧ true = true ∧ ((65 : TypeId) = 65 ∧ Tr 1
 ((↑x.2.1.1 : Int) = (↑x_1.2.1.1 : Int)) ∧ (true = true ∧ NilNil ∧ (0 : Nat) = 0 ∧ (1 : Nat) = 1 ∧ (0 : Nat) = 0 ∧ wcount x.2.1.1 = wcount x_1.2.1.1 ∧ t.2 =
 x_1.1) ∧ True) ∧ ((66 : TypeId) = 66 ∧ (1 : Nat) = 1 ∧ t.2 = x_1.1 ∧ wcount x_1.2.1.1 ≤ wcount x.2.1.1 ∧ ∀ (i : Nat), i < wcount x_1.2.1.1 → [AV.int .u64
 (↑(wordN (addL x.2.1.1 x.2.1.2 (List.take t.1 x.2.2)) i) : Int)] = [AV.int .u64 (↑(wordN x_1.2.1.2 i) : Int)]) ∧ True) ∧ (SetW x_1.2.1 ∧ I64 x_1.2.2) ∧ ∀ (y :
 Unit), True → BC (decide (inSet x_1.2.1 x_1.2.2)) ((64 : Int) ≠ (0 : Int) ∧ I64 ((x.2.2.getD (↑t.1 : Int).toNat 0).tdiv 64) ∧ ((0 : Int) ≤ (x.2.2.getD (↑t.1 :
 Int).toNat 0).tdiv 64 ∧ (x.2.2.getD (↑t.1 : Int).toNat 0).tdiv 64 < (↑(wcount x_1.2.1.1) : Int)) ∧ 0 + ((x.2.2.getD (↑t.1 : Int).toNat 0).tdiv 64).toNat <
 wcount x_1.2.1.1 ∧ (64 : Int) ≠ (0 : Int) ∧ ∀ (n : Int), n = (x.2.2.getD (↑t.1 : Int).toNat 0).tmod 64 → (0 : Int) ≤ n ∧ ∀ (n_1 : Int), n_1 = IntKind.u64.wrap
 (1 * 2 ^ min n.toNat IntKind.u64.bits) → ∀ (n : Int), n = bits BinOp.or IntKind.u64 (↑(wordN x_1.2.1.2 (0 + ((x.2.2.getD (↑t.1 : Int).toNat 0).tdiv 64).toNat))
 : Int) n_1 → ((0 : Int) ≤ (x.2.2.getD (↑t.1 : Int).toNat 0).tdiv 64 ∧ (x.2.2.getD (↑t.1 : Int).toNat 0).tdiv 64 < (↑(wcount x_1.2.1.1) : Int)) ∧ 0 +
 ((x.2.2.getD (↑t.1 : Int).toNat 0).tdiv 64).toNat < wcount x_1.2.1.1 ∧ wcount x_1.2.1.1 = wcount x_1.2.1.1 ∧ I64 ((↑t.1 : Int) + 1) ∧ Exx (Nat × Nat) fun t' =>
 (I t' ∧ m t' < m t) ∧ ((true = true ∧ NilNil ∧ (0 : Nat) = 0) ∧ Tr 5 (((1 : Nat) = 1 ∧ x.2.2.length = x.2.2.length ∧ ∀ (i : Nat), i < x.2.2.length → [AV.int
 .i64 (x.2.2.getD i 0)] = [AV.int .i64 (x.2.2.getD i 0)]) ∧ Tr 1 ((↑x.2.2.length : Int) = (↑x.2.2.length : Int)) ∧ Tr 1 ((↑t.1 : Int) + 1 = (↑t'.fst : Int)) ∧ Tr
 20 True)) ∧ ((65 : TypeId) = 65 ∧ Tr 1 ((↑x_1.2.1.1 : Int) = (↑x.2.1.1 : Int)) ∧ (true = true ∧ NilNil ∧ (0 : Nat) = 0 ∧ (1 : Nat) = 1 ∧ (0 : Nat) = 0 ∧ wcount
 x_1.2.1.1 = wcount x.2.1.1 ∧ x_1.1 = t'.snd) ∧ True) ∧ ((66 : TypeId) = 66 ∧ (1 : Nat) = 1 ∧ x_1.1 = t'.snd ∧ wcount x.2.1.1 ≤ wcount x_1.2.1.1 ∧ ∀ (i : Nat), i
 < wcount x.2.1.1 → [AV.int .u64 (if i = 0 + ((x.2.2.getD (↑t.1 : Int).toNat 0).tdiv 64).toNat then n else (↑(wordN x_1.2.1.2 i) : Int))] = [AV.int .u64 (↑(wordN
 (addL x.2.1.1 x.2.1.2 (List.take t'.fst x.2.2)) i) : Int)]) ∧ true = true ∧ True) (I64 ((↑t.1 : Int) + 1) ∧ Exx (Nat × Nat) fun t' => (I t' ∧ m t' < m t) ∧
 ((true = true ∧ NilNil ∧ (0 : Nat) = 0) ∧ Tr 5 (((1 : Nat) = 1 ∧ x.2.2.length = x.2.2.length ∧ ∀ (i : Nat), i < x.2.2.length → [AV.int .i64 (x.2.2.getD i 0)] =
 [AV.int .i64 (x.2.2.getD i 0)]) ∧ Tr 1 ((↑x.2.2.length : Int) = (↑x.2.2.length : Int)) ∧ Tr 1 ((↑t.1 : Int) + 1 = (↑t'.fst : Int)) ∧ Tr 20 True)) ∧ ((65 :
 TypeId) = 65 ∧ Tr 1 ((↑x_1.2.1.1 : Int) = (↑x.2.1.1 : Int)) ∧ (true = true ∧ NilNil ∧ (0 : Nat) = 0 ∧ (1 : Nat) = 1 ∧ (0 : Nat) = 0 ∧ wcount x_1.2.1.1 = wcount
 x.2.1.1 ∧ x_1.1 = t'.snd) ∧ True) ∧ ((66 : TypeId) = 66 ∧ (1 : Nat) = 1 ∧ x_1.1 = t'.snd ∧ wcount x.2.1.1 ≤ wcount x_1.2.1.1 ∧ ∀ (i : Nat), i < wcount x.2.1.1 →
 [AV.int .u64 (↑(wordN x_1.2.1.2 i) : Int)] = [AV.int .u64 (↑(wordN (addL x.2.1.1 x.2.1.2 (List.take t'.fst x.2.2)) i) : Int)]) ∧ true = true ∧ True)) (Exx Unit
 fun y => (Tr 1 True ∧ ((65 : TypeId) = 65 ∧ Tr 1 ((↑x.2.1.1 : Int) = (↑x.2.1.1 : Int)) ∧ (true = true ∧ NilNil ∧ (0 : Nat) = 0 ∧ (1 : Nat) = 1 ∧ (0 : Nat) = 0 ∧
 wcount x.2.1.1 = wcount x.2.1.1 ∧ t.2 = x.1) ∧ True) ∧ ((66 : TypeId) = 66 ∧ (1 : Nat) = 1 ∧ t.2 = x.1 ∧ wcount x.2.1.1 ≤ wcount x.2.1.1 ∧ ∀ (i : Nat), i <
 wcount x.2.1.1 → [AV.int .u64 (↑(wordN (addL x.2.1.1 x.2.1.2 (List.take t.1 x.2.2)) i) : Int)] = [AV.int .u64 (↑(wordN (addL x.2.1.1 x.2.1.2 x.2.2) i) : Int)])
 ∧ true = true ∧ True) ∧ True)) = (fnVC tb [(47, specOf setMayOC)] Tryd.f42 setAddOC (fun x => { loops := [(1, setActLA addL 29 x.2.1 x.2.2 1 (fun a b => a ++ b ++ [.fence]))], loose := [(4, [1])] }) (fun _ => none)) := by kernel_rfl 

theorem setAddO_ok : SpecOk Tryd.prog 42 (specOf setAddOC) := by
  refine specOk mixed tb_ok (SPok.cons setMayO_ok SPok.nil) Tryd.func42 (by decide) (setActOC_ok _) (an := (fun x => { loops := [(1, setActLA addL 29 x.2.1 x.2.2 1 (fun a b => a ++ b ++ [.fence]))], loose := [(4, [1])] })) (σ := (fun _ => none)) ?_
  rw [← setAddOV]
  simp (maxSteps := 10000000) only [and_false, false_and, false_or, or_false, bOf_true, bOf_false, true_bOf, false_bOf, Exx, int_ite, merge_o, Tr_eq, true_and, and_true, exists_const, forall_const, implies_true, forall_eq, exists_eq, exists_eq', exists_eq_left, exists_eq_left', exists_eq_right, Prod.exists, Prod.forall, and_assoc, exists_and_left, BC_iff, Bool.not_eq_true', Bool.not_eq_false', decide_eq_true_eq, decide_eq_false_iff_not, I64, nat_cast_inj, Int.toNat_natCast, nats_iff, nats_iff', ints_iff, ints_iff', natss_iff, natss_iff', nilnil, litL_eq, str_inj, str_append, str_length, str_getD, str_take, lit1_iff, one_iff, two_iff, one_get, Nat.zero_add, Nat.sub_zero, Nat.reduceMul, Nat.reduceDiv, Nat.reduceAdd, Int.reduceToNat, Nat.not_lt_zero, if_false, if_true, Nat.le_refl, List.length_singleton, List.length_cons, List.length_nil, Bool.false_eq_true, not_true_eq_false, false_implies, not_false_eq_true, Prod.mk.injEq]
  rintro cap n m l ⟨hs, hl, hlen⟩
  refine ⟨fun s => s.1 ≤ l.length ∧ s.2 = cap, ⟨0, cap, ⟨by simp, rfl⟩, rfl, rfl, rfl, fun _ _ => rfl⟩, fun s => l.length - s.1, ?_⟩
  rintro i cap' ⟨hi, hc⟩
  simp only at hi hc
  subst hc
  have hi64 : I64 (l.getD i 0) := getD_mem (p := I64) hl (by unfold I64; omega) i
  have hs' : SetW (n, addL n m (l.take i)) := ⟨hs.1, addL_lt hs.2⟩
  refine ⟨fun hlt => ⟨by omega, by omega, addL n m (l.take i), fun _ _ => rfl, hs', hi64.1, hi64.2, fun h => ?_, fun h => ⟨by omega, by omega, i + 1, _, ⟨by simp only; omega, rfl⟩, by simp only; omega, by omega, rfl, rfl, fun j _ => ?_⟩⟩, fun hge => ?_⟩
  · obtain ⟨k1, k2, k3, k4, k5, k6⟩ := inSet_word hs' h
    refine ⟨by omega, k5, k6, k1, k2, k3, by omega, k4, k1, k2, k3, by omega, by omega, i + 1, _, ⟨by simp only; omega, rfl⟩, by simp only; omega, by omega, rfl, rfl, fun j _ => ?_⟩
    rw [addL_snoc (by omega)]; exact add_word (s := (n, addL n m (l.take i))) h j
  · rw [addL_snoc (by omega), add_out (s := (n, addL n m (l.take i))) h]
  · rw [show i = l.length by omega, List.take_length]
    exact ⟨rfl, rfl, fun _ _ => rfl⟩

theorem setAddV : (∀ (x : (Nat × Nat) × List Int), SetW x.1 ∧ Ints x.2 → setB x.1 = (setO x.1).ob ∧ ∀ (g : Nat), Exx (Nat × Nat → Prop) fun I => Exx (Nat × Nat
 → Nat) fun m => (Exx (Nat × Nat) fun t => I t ∧ ((true = true ∧ NilNil ∧ (0 : Nat) = 0) ∧ Tr 5 (((1 : Nat) = 1 ∧ x.2.length = x.2.length ∧ ∀ (i : Nat), i <
 x.2.length → [AV.int .i64 (x.2.getD i 0)] = [AV.int .i64 (x.2.getD i 0)]) ∧ Tr 1 ((↑x.2.length : Int) = (↑x.2.length : Int)) ∧ Tr 1 ((0 : Int) = (↑t.1 : Int)) ∧
 Tr 20 True)) ∧ ((65 : TypeId) = 65 ∧ Tr 1 ((↑x.1.1 : Int) = (↑x.1.1 : Int)) ∧ (true = true ∧ NilNil ∧ (0 : Nat) = 0 ∧ (1 : Nat) = 1 ∧ (0 : Nat) = 0 ∧ wcount
 x.1.1 = wcount x.1.1 ∧ g = t.2) ∧ True) ∧ true = true ∧ ((66 : TypeId) = 66 ∧ (1 : Nat) = 1 ∧ g = t.2 ∧ wcount x.1.1 ≤ wcount x.1.1 ∧ ∀ (i : Nat), i < wcount
 x.1.1 → [AV.int .u64 (↑(wordN x.1.2 i) : Int)] = [AV.int .u64 (↑(wordN (addL x.1.1 x.1.2 (List.take t.1 x.2)) i) : Int)]) ∧ True) ∧ ∀ (t : Nat × Nat), I t → BC
 (decide ((↑t.1 : Int) < (↑x.2.length : Int))) (((0 : Int) ≤ (↑t.1 : Int) ∧ (↑t.1 : Int) < (↑x.2.length : Int)) ∧ Exx (Nat × (Nat × Nat) × Int) fun x_1 =>
 (((true = true ∧ NilNil ∧ (0 : Nat) = 0) ∧ Tr 1 (x.2.getD (↑t.1 : Int).toNat 0 = x_1.2.2) ∧ True) ∧ true = true ∧ ((65 : TypeId) = 65 ∧ Tr 1 ((↑x.1.1 : Int) =
 (↑x_1.2.1.1 : Int)) ∧ (true = true ∧ NilNil ∧ (0 : Nat) = 0 ∧ (1 : Nat) = 1 ∧ (0 : Nat) = 0 ∧ wcount x.1.1 = wcount x_1.2.1.1 ∧ t.2 = x_1.1) ∧ True) ∧ ((66 :
 TypeId) = 66 ∧ (1 : Nat) = 1 ∧ t.2 = x_1.1 ∧ wcount x_1.2.1.1 ≤ wcount x.1.1 ∧ ∀ (i : Nat), i < wcount x_1.2.1.1 → [AV.int .u64 (↑(wordN (addL x.1.1 x.1.2
 (List.take t.1 x.2)) i) : Int)] = [AV.int .u64 (↑(wordN x_1.2.1.2 i) : Int)]) ∧ True) ∧ (SetW x_1.2.1 ∧ I64 x_1.2.2) ∧ ∀ (y : Unit), True → BC (decide (inSet
 x_1.2.1 x_1.2.2)) ((64 : Int) ≠ (0 : Int) ∧ I64 ((x.2.getD (↑t.1 : Int).toNat 0).tdiv 64) ∧ ((0 : Int) ≤ (x.2.getD (↑t.1 : Int).toNat 0).tdiv 64 ∧ (x.2.getD
 (↑t.1 : Int).toNat 0).tdiv 64 < (↑(wcount x_1.2.1.1) : Int)) ∧ 0 + ((x.2.getD (↑t.1 : Int).toNat 0).tdiv 64).toNat < wcount x_1.2.1.1 ∧ (64 : Int) ≠ (0 : Int) ∧
 ∀ (n : Int), n = (x.2.getD (↑t.1 : Int).toNat 0).tmod 64 → (0 : Int) ≤ n ∧ ∀ (n_1 : Int), n_1 = IntKind.u64.wrap (1 * 2 ^ min n.toNat IntKind.u64.bits) → ∀ (n :
 Int), n = bits BinOp.or IntKind.u64 (↑(wordN x_1.2.1.2 (0 + ((x.2.getD (↑t.1 : Int).toNat 0).tdiv 64).toNat)) : Int) n_1 → ((0 : Int) ≤ (x.2.getD (↑t.1 :
 Int).toNat 0).tdiv 64 ∧ (x.2.getD (↑t.1 : Int).toNat 0).tdiv 64 < (↑(wcount x_1.2.1.1) : Int)) ∧ 0 + ((x.2.getD (↑t.1 : Int).toNat 0).tdiv 64).toNat < wcount
 x_1.2.1.1 ∧ wcount x_1.2.1.1 = wcount x_1.2.1.1 ∧ I64 ((↑t.1 : Int) + 1) ∧ Exx (Nat × Nat) fun t' => (I t' ∧ m t' < m t) ∧ ((true = true ∧ NilNil ∧ (0 : Nat) =
 0) ∧ Tr 5 (((1 : Nat) = 1 ∧ x.2.length = x.2.length ∧ ∀ (i : Nat), i < x.2.length → [AV.int .i64 (x.2.getD i 0)] = [AV.int .i64 (x.2.getD i 0)]) ∧ Tr 1
 ((↑x.2.length : Int) = (↑x.2.length : Int)) ∧ Tr 1 ((↑t.1 : Int) + 1 = (↑t'.fst : Int)) ∧ Tr 20 True)) ∧ ((65 : TypeId) = 65 ∧ Tr 1 ((↑x_1.2.1.1 : Int) =
 (↑x.1.1 : Int)) ∧ (true = true ∧ NilNil ∧ (0 : Nat) = 0 ∧ (1 : Nat) = 1 ∧ (0 : Nat) = 0 ∧ wcount x_1.2.1.1 = wcount x.1.1 ∧ x_1.1 = t'.snd) ∧ True) ∧ true =
 true ∧ ((66 : TypeId) = 66 ∧ (1 : Nat) = 1 ∧ x_1.1 = t'.snd ∧ wcount x.1.1 ≤ wcount x_1.2.1.1 ∧ ∀ (i : Nat), i < wcount x.1.1 → [AV.int .u64 (if i = 0 +
 ((x.2.getD (↑t.1 : Int).toNat 0).tdiv 64).toNat then n else (↑(wordN x_1.2.1.2 i) : Int))] = [AV.int .u64 (↑(wordN (addL x.1.1 x.1.2 (List.take t'.fst x.2)) i)
 : Int)]) ∧ True) (I64 ((↑t.1 : Int) + 1) ∧ Exx (Nat × Nat) fun t' => (I t' ∧ m t' < m t) ∧ ((true = true ∧ NilNil ∧ (0 : Nat) = 0) ∧ Tr 5 (((1 : Nat) = 1 ∧
 x.2.length = x.2.length ∧ ∀ (i : Nat), i < x.2.length → [AV.int .i64 (x.2.getD i 0)] = [AV.int .i64 (x.2.getD i 0)]) ∧ Tr 1 ((↑x.2.length : Int) = (↑x.2.length
 : Int)) ∧ Tr 1 ((↑t.1 : Int) + 1 = (↑t'.fst : Int)) ∧ Tr 20 True)) ∧ ((65 : TypeId) = 65 ∧ Tr 1 ((↑x_1.2.1.1 : Int) = (↑x.1.1 : Int)) ∧ (true = true ∧ NilNil ∧
 (0 : Nat) = 0 ∧ (1 : Nat) = 1 ∧ (0 : Nat) = 0 ∧ wcount x_1.2.1.1 = wcount x.1.1 ∧ x_1.1 = t'.snd) ∧ True) ∧ true = true ∧ ((66 : TypeId) = 66 ∧ (1 : Nat) = 1 ∧
 x_1.1 = t'.snd ∧ wcount x.1.1 ≤ wcount x_1.2.1.1 ∧ ∀ (i : Nat), i < wcount x.1.1 → [AV.int .u64 (↑(wordN x_1.2.1.2 i) : Int)] = [AV.int .u64 (↑(wordN (addL
 x.1.1 x.1.2 (List.take t'.fst x.2)) i) : Int)]) ∧ True)) (Exx Unit fun y => Exx Nat fun g => Tr 1 (((65 : TypeId) = 65 ∧ Tr 1 ((↑x.1.1 : Int) = (↑x.1.1 : Int))
 ∧ (true = true ∧ NilNil ∧ (0 : Nat) = 0 ∧ (1 : Nat) = 1 ∧ (0 : Nat) = 0 ∧ wcount x.1.1 = wcount x.1.1 ∧ t.2 = g) ∧ True) ∧ ((66 : TypeId) = 66 ∧ (1 : Nat) = 1 ∧
 t.2 = g ∧ wcount x.1.1 ≤ wcount x.1.1 ∧ ∀ (i : Nat), i < wcount x.1.1 → [AV.int .u64 (↑(wordN (addL x.1.1 x.1.2 (List.take t.1 x.2)) i) : Int)] = [AV.int .u64
 (↑(wordN (addL x.1.1 x.1.2 x.2) i) : Int)]) ∧ True) ∧ (Tr 1 True ∧ (setO (x.1.1, addL x.1.1 x.1.2 x.2)).ob = setB (x.1.1, addL x.1.1 x.1.2 x.2) ∧ true = true ∧
 True) ∧ True)) = (fnVCo tb [(47, specOf setMayOC)] Tryd.f42 setAddC (fun x => { loops := [(1, setActLA addL 29 x.1 x.2 2 (fun a b => a ++ [.fence] ++ b))], loose := [(4, [2])] }) (fun _ _ _ => none) (fun x => [(0, setO x.1)]) (fun x y av H => [(0, [2], setO (x.1.1, addL x.1.1 x.1.2 x.2))])) := by kernel_rfl 

theorem setAdd_ok : SpecOk Tryd.prog 42 (specOf setAddC) := by
  refine specOko mixed tb_ok (SPok.cons setMayO_ok SPok.nil) Tryd.func42 (by decide) (setActC_ok _) (an := (fun x => { loops := [(1, setActLA addL 29 x.1 x.2 2 (fun a b => a ++ [.fence] ++ b))], loose := [(4, [2])] })) (σ := (fun _ _ _ => none)) (op := (fun x => [(0, setO x.1)])) (cl := (fun x y av H => [(0, [2], setO (x.1.1, addL x.1.1 x.1.2 x.2))])) ?_
  rw [← setAddV]
  simp (maxSteps := 10000000) only [and_false, false_and, false_or, or_false, bOf_true, bOf_false, true_bOf, false_bOf, Exx, int_ite, merge_o, Tr_eq, true_and, and_true, exists_const, forall_const, implies_true, forall_eq, exists_eq, exists_eq', exists_eq_left, exists_eq_left', exists_eq_right, Prod.exists, Prod.forall, and_assoc, exists_and_left, BC_iff, Bool.not_eq_true', Bool.not_eq_false', decide_eq_true_eq, decide_eq_false_iff_not, I64, nat_cast_inj, Int.toNat_natCast, nats_iff, nats_iff', ints_iff, ints_iff', natss_iff, natss_iff', nilnil, litL_eq, str_inj, str_append, str_length, str_getD, str_take, lit1_iff, one_iff, two_iff, one_get, Nat.zero_add, Nat.sub_zero, Nat.reduceMul, Nat.reduceDiv, Nat.reduceAdd, Int.reduceToNat, Nat.not_lt_zero, if_false, if_true, Nat.le_refl, List.length_singleton, List.length_cons, List.length_nil, Bool.false_eq_true, not_true_eq_false, false_implies, not_false_eq_true, Prod.mk.injEq, setB_open, setB_close, setB_inj]
  rintro n m l ⟨hs, hl, hlen⟩ cap
  refine ⟨fun s => s.1 ≤ l.length ∧ s.2 = cap, ⟨0, cap, ⟨by simp, rfl⟩, rfl, rfl, rfl, fun _ _ => rfl⟩, fun s => l.length - s.1, ?_⟩
  rintro i cap' ⟨hi, hc⟩
  simp only at hi hc
  subst hc
  have hi64 : I64 (l.getD i 0) := getD_mem (p := I64) hl (by unfold I64; omega) i
  have hs' : SetW (n, addL n m (l.take i)) := ⟨hs.1, addL_lt hs.2⟩
  refine ⟨fun hlt => ⟨by omega, by omega, addL n m (l.take i), fun _ _ => rfl, hs', hi64.1, hi64.2, fun h => ?_, fun h => ⟨by omega, by omega, i + 1, _, ⟨by simp only; omega, rfl⟩, by simp only; omega, by omega, rfl, rfl, fun j _ => ?_⟩⟩, fun hge => ?_⟩
  · obtain ⟨k1, k2, k3, k4, k5, k6⟩ := inSet_word hs' h
    refine ⟨by omega, k5, k6, k1, k2, k3, by omega, k4, k1, k2, k3, by omega, by omega, i + 1, _, ⟨by simp only; omega, rfl⟩, by simp only; omega, by omega, rfl, rfl, fun j _ => ?_⟩
    rw [addL_snoc (by omega)]; exact add_word (s := (n, addL n m (l.take i))) h j
  · rw [addL_snoc (by omega), add_out (s := (n, addL n m (l.take i))) h]
  · rw [show i = l.length by omega, List.take_length]
    exact fun _ _ => rfl

theorem setDropV : (∀ (x : (Nat × Nat) × List Int), SetW x.1 ∧ Ints x.2 → setB x.1 = (setO x.1).ob ∧ ∀ (g : Nat), Exx (Nat × Nat → Prop) fun I => Exx (Nat × Nat
 → Nat) fun m => (Exx (Nat × Nat) fun t => I t ∧ ((true = true ∧ NilNil ∧ (0 : Nat) = 0) ∧ Tr 5 (((1 : Nat) = 1 ∧ x.2.length = x.2.length ∧ ∀ (i : Nat), i <
 x.2.length → [AV.int .i64 (x.2.getD i 0)] = [AV.int .i64 (x.2.getD i 0)]) ∧ Tr 1 ((↑x.2.length : Int) = (↑x.2.length : Int)) ∧ Tr 1 ((0 : Int) = (↑t.1 : Int)) ∧
 Tr 20 True)) ∧ ((65 : TypeId) = 65 ∧ Tr 1 ((↑x.1.1 : Int) = (↑x.1.1 : Int)) ∧ (true = true ∧ NilNil ∧ (0 : Nat) = 0 ∧ (1 : Nat) = 1 ∧ (0 : Nat) = 0 ∧ wcount
 x.1.1 = wcount x.1.1 ∧ g = t.2) ∧ True) ∧ true = true ∧ ((66 : TypeId) = 66 ∧ (1 : Nat) = 1 ∧ g = t.2 ∧ wcount x.1.1 ≤ wcount x.1.1 ∧ ∀ (i : Nat), i < wcount
 x.1.1 → [AV.int .u64 (↑(wordN x.1.2 i) : Int)] = [AV.int .u64 (↑(wordN (dropL x.1.1 x.1.2 (List.take t.1 x.2)) i) : Int)]) ∧ True) ∧ ∀ (t : Nat × Nat), I t → BC
 (decide ((↑t.1 : Int) < (↑x.2.length : Int))) (((0 : Int) ≤ (↑t.1 : Int) ∧ (↑t.1 : Int) < (↑x.2.length : Int)) ∧ Exx (Nat × (Nat × Nat) × Int) fun x_1 =>
 (((true = true ∧ NilNil ∧ (0 : Nat) = 0) ∧ Tr 1 (x.2.getD (↑t.1 : Int).toNat 0 = x_1.2.2) ∧ True) ∧ true = true ∧ ((65 : TypeId) = 65 ∧ Tr 1 ((↑x.1.1 : Int) =
 (↑x_1.2.1.1 : Int)) ∧ (true = true ∧ NilNil ∧ (0 : Nat) = 0 ∧ (1 : Nat) = 1 ∧ (0 : Nat) = 0 ∧ wcount x.1.1 = wcount x_1.2.1.1 ∧ t.2 = x_1.1) ∧ True) ∧ ((66 :
 TypeId) = 66 ∧ (1 : Nat) = 1 ∧ t.2 = x_1.1 ∧ wcount x_1.2.1.1 ≤ wcount x.1.1 ∧ ∀ (i : Nat), i < wcount x_1.2.1.1 → [AV.int .u64 (↑(wordN (dropL x.1.1 x.1.2
 (List.take t.1 x.2)) i) : Int)] = [AV.int .u64 (↑(wordN x_1.2.1.2 i) : Int)]) ∧ True) ∧ (SetW x_1.2.1 ∧ I64 x_1.2.2) ∧ ∀ (y : Unit), True → BC (decide (inSet
 x_1.2.1 x_1.2.2)) ((64 : Int) ≠ (0 : Int) ∧ I64 ((x.2.getD (↑t.1 : Int).toNat 0).tdiv 64) ∧ ((0 : Int) ≤ (x.2.getD (↑t.1 : Int).toNat 0).tdiv 64 ∧ (x.2.getD
 (↑t.1 : Int).toNat 0).tdiv 64 < (↑(wcount x_1.2.1.1) : Int)) ∧ 0 + ((x.2.getD (↑t.1 : Int).toNat 0).tdiv 64).toNat < wcount x_1.2.1.1 ∧ (64 : Int) ≠ (0 : Int) ∧
 ∀ (n : Int), n = (x.2.getD (↑t.1 : Int).toNat 0).tmod 64 → (0 : Int) ≤ n ∧ ∀ (n_1 : Int), n_1 = IntKind.u64.wrap (1 * 2 ^ min n.toNat IntKind.u64.bits) → ∀ (n :
 Int), n = bits BinOp.andNot IntKind.u64 (↑(wordN x_1.2.1.2 (0 + ((x.2.getD (↑t.1 : Int).toNat 0).tdiv 64).toNat)) : Int) n_1 → ((0 : Int) ≤ (x.2.getD (↑t.1 :
 Int).toNat 0).tdiv 64 ∧ (x.2.getD (↑t.1 : Int).toNat 0).tdiv 64 < (↑(wcount x_1.2.1.1) : Int)) ∧ 0 + ((x.2.getD (↑t.1 : Int).toNat 0).tdiv 64).toNat < wcount
 x_1.2.1.1 ∧ wcount x_1.2.1.1 = wcount x_1.2.1.1 ∧ I64 ((↑t.1 : Int) + 1) ∧ Exx (Nat × Nat) fun t' => (I t' ∧ m t' < m t) ∧ ((true = true ∧ NilNil ∧ (0 : Nat) =
 0) ∧ Tr 5 (((1 : Nat) = 1 ∧ x.2.length = x.2.length ∧ ∀ (i : Nat), i < x.2.length → [AV.int .i64 (x.2.getD i 0)] = [AV.int .i64 (x.2.getD i 0)]) ∧ Tr 1
 ((↑x.2.length : Int) = (↑x.2.length : Int)) ∧ Tr 1 ((↑t.1 : Int) + 1 = (↑t'.fst : Int)) ∧ Tr 20 True)) ∧ ((65 : TypeId) = 65 ∧ Tr 1 ((↑x_1.2.1.1 : Int) =
 (↑x.1.1 : Int)) ∧ (true = true ∧ NilNil ∧ (0 : Nat) = 0 ∧ (1 : Nat) = 1 ∧ (0 : Nat) = 0 ∧ wcount x_1.2.1.1 = wcount x.1.1 ∧ x_1.1 = t'.snd) ∧ True) ∧ true =
 true ∧ ((66 : TypeId) = 66 ∧ (1 : Nat) = 1 ∧ x_1.1 = t'.snd ∧ wcount x.1.1 ≤ wcount x_1.2.1.1 ∧ ∀ (i : Nat), i < wcount x.1.1 → [AV.int .u64 (if i = 0 +
 ((x.2.getD (↑t.1 : Int).toNat 0).tdiv 64).toNat then n else (↑(wordN x_1.2.1.2 i) : Int))] = [AV.int .u64 (↑(wordN (dropL x.1.1 x.1.2 (List.take t'.fst x.2)) i)
 : Int)]) ∧ True) (I64 ((↑t.1 : Int) + 1) ∧ Exx (Nat × Nat) fun t' => (I t' ∧ m t' < m t) ∧ ((true = true ∧ NilNil ∧ (0 : Nat) = 0) ∧ Tr 5 (((1 : Nat) = 1 ∧
 x.2.length = x.2.length ∧ ∀ (i : Nat), i < x.2.length → [AV.int .i64 (x.2.getD i 0)] = [AV.int .i64 (x.2.getD i 0)]) ∧ Tr 1 ((↑x.2.length : Int) = (↑x.2.length
 : Int)) ∧ Tr 1 ((↑t.1 : Int) + 1 = (↑t'.fst : Int)) ∧ Tr 20 True)) ∧ ((65 : TypeId) = 65 ∧ Tr 1 ((↑x_1.2.1.1 : Int) = (↑x.1.1 : Int)) ∧ (true = true ∧ NilNil ∧
 (0 : Nat) = 0 ∧ (1 : Nat) = 1 ∧ (0 : Nat) = 0 ∧ wcount x_1.2.1.1 = wcount x.1.1 ∧ x_1.1 = t'.snd) ∧ True) ∧ true = true ∧ ((66 : TypeId) = 66 ∧ (1 : Nat) = 1 ∧
 x_1.1 = t'.snd ∧ wcount x.1.1 ≤ wcount x_1.2.1.1 ∧ ∀ (i : Nat), i < wcount x.1.1 → [AV.int .u64 (↑(wordN x_1.2.1.2 i) : Int)] = [AV.int .u64 (↑(wordN (dropL
 x.1.1 x.1.2 (List.take t'.fst x.2)) i) : Int)]) ∧ True)) (Exx Unit fun y => Exx Nat fun g => Tr 1 (((65 : TypeId) = 65 ∧ Tr 1 ((↑x.1.1 : Int) = (↑x.1.1 : Int))
 ∧ (true = true ∧ NilNil ∧ (0 : Nat) = 0 ∧ (1 : Nat) = 1 ∧ (0 : Nat) = 0 ∧ wcount x.1.1 = wcount x.1.1 ∧ t.2 = g) ∧ True) ∧ ((66 : TypeId) = 66 ∧ (1 : Nat) = 1 ∧
 t.2 = g ∧ wcount x.1.1 ≤ wcount x.1.1 ∧ ∀ (i : Nat), i < wcount x.1.1 → [AV.int .u64 (↑(wordN (dropL x.1.1 x.1.2 (List.take t.1 x.2)) i) : Int)] = [AV.int .u64
 (↑(wordN (dropL x.1.1 x.1.2 x.2) i) : Int)]) ∧ True) ∧ (Tr 1 True ∧ (setO (x.1.1, dropL x.1.1 x.1.2 x.2)).ob = setB (x.1.1, dropL x.1.1 x.1.2 x.2) ∧ true = true
 ∧ True) ∧ True)) = (fnVCo tb [(47, specOf setMayOC)] Tryd.f35 setDropC (fun x => { loops := [(1, setActLA dropL 29 x.1 x.2 2 (fun a b => a ++ [.fence] ++ b))], loose := [(4, [2])] }) (fun _ _ _ => none) (fun x => [(0, setO x.1)]) (fun x y av H => [(0, [2], setO (x.1.1, dropL x.1.1 x.1.2 x.2))])) := by kernel_rfl 

theorem setDrop_ok : SpecOk Tryd.prog 35 (specOf setDropC) := by
  refine specOko mixed tb_ok (SPok.cons setMayO_ok SPok.nil) Tryd.func35 (by decide) (setActC_ok _) (an := (fun x => { loops := [(1, setActLA dropL 29 x.1 x.2 2 (fun a b => a ++ [.fence] ++ b))], loose := [(4, [2])] })) (σ := (fun _ _ _ => none)) (op := (fun x => [(0, setO x.1)])) (cl := (fun x y av H => [(0, [2], setO (x.1.1, dropL x.1.1 x.1.2 x.2))])) ?_
  rw [← setDropV]
  simp (maxSteps := 10000000) only [and_false, false_and, false_or, or_false, bOf_true, bOf_false, true_bOf, false_bOf, Exx, int_ite, merge_o, Tr_eq, true_and, and_true, exists_const, forall_const, implies_true, forall_eq, exists_eq, exists_eq', exists_eq_left, exists_eq_left', exists_eq_right, Prod.exists, Prod.forall, and_assoc, exists_and_left, BC_iff, Bool.not_eq_true', Bool.not_eq_false', decide_eq_true_eq, decide_eq_false_iff_not, I64, nat_cast_inj, Int.toNat_natCast, nats_iff, nats_iff', ints_iff, ints_iff', natss_iff, natss_iff', nilnil, litL_eq, str_inj, str_append, str_length, str_getD, str_take, lit1_iff, one_iff, two_iff, one_get, Nat.zero_add, Nat.sub_zero, Nat.reduceMul, Nat.reduceDiv, Nat.reduceAdd, Int.reduceToNat, Nat.not_lt_zero, if_false, if_true, Nat.le_refl, List.length_singleton, List.length_cons, List.length_nil, Bool.false_eq_true, not_true_eq_false, false_implies, not_false_eq_true, Prod.mk.injEq, setB_open, setB_close, setB_inj]
  rintro n m l ⟨hs, hl, hlen⟩ cap
  refine ⟨fun s => s.1 ≤ l.length ∧ s.2 = cap, ⟨0, cap, ⟨by simp, rfl⟩, rfl, rfl, rfl, fun _ _ => rfl⟩, fun s => l.length - s.1, ?_⟩
  rintro i cap' ⟨hi, hc⟩
  simp only at hi hc
  subst hc
  have hi64 : I64 (l.getD i 0) := getD_mem (p := I64) hl (by unfold I64; omega) i
  have hs' : SetW (n, dropL n m (l.take i)) := ⟨hs.1, dropL_lt hs.2⟩
  refine ⟨fun hlt => ⟨by omega, by omega, dropL n m (l.take i), fun _ _ => rfl, hs', hi64.1, hi64.2, fun h => ?_, fun h => ⟨by omega, by omega, i + 1, _, ⟨by simp only; omega, rfl⟩, by simp only; omega, by omega, rfl, rfl, fun j _ => ?_⟩⟩, fun hge => ?_⟩
  · obtain ⟨k1, k2, k3, k4, k5, k6⟩ := inSet_word hs' h
    refine ⟨by omega, k5, k6, k1, k2, k3, by omega, k4, k1, k2, k3, by omega, by omega, i + 1, _, ⟨by simp only; omega, rfl⟩, by simp only; omega, by omega, rfl, rfl, fun j _ => ?_⟩
    rw [dropL_snoc (by omega)]; exact drop_word (s := (n, dropL n m (l.take i))) h j
  · rw [dropL_snoc (by omega), drop_out (s := (n, dropL n m (l.take i))) h]
  · rw [show i = l.length by omega, List.take_length]
    exact fun _ _ => rfl

def clampN (n : Int) : Nat := (min (max n 0) 3072).toNat
def setNewC (X : Type) (pre : X → Prop) (args : X → List AV) (s : X → Nat × Nat) : Ctr where
  X := X
  Y := Unit
  conv := true
  tau := fun _ _ => []
  pre := pre
  args := args
  heap := fun _ => []
  Q := fun _ _ => True
  res := fun x _ => .ptr 1 [] 0
  its := fun _ _ => []
  new := fun x _ => [setI (s x)]
theorem setNewC_ok {X : Type} {pre : X → Prop} {args : X → List AV} {s : X → Nat × Nat} : CtrOk (setNewC X pre args s) :=
  ⟨fun _ _ _ _ => rfl, fun _ _ _ _ => ⟨rfl, rfl⟩, fun x _ _ _ _ => ⟨⟨trivial, ⟨trivial, trivial⟩⟩, rfl⟩⟩
def setOfC : Ctr := setNewC (Int × List Int) (fun x => I64 x.1 ∧ Ints x.2) (fun x => [i64 x.1, intA x.2]) (fun x => (clampN x.1, addL (clampN x.1) 0 x.2))

theorem setOfV : (∀ (x : Int × List Int), I64 x.1 ∧ Ints x.2 → I64 (min (max x.1 0) 3072 + 64) ∧ I64 (min (max x.1 0) 3072 + 64 - 1) ∧ (64 : Int) ≠ (0 : Int) ∧
 I64 ((min (max x.1 0) 3072 + 64 - 1).tdiv 64) ∧ ((0 : Int) ≤ (min (max x.1 0) 3072 + 64 - 1).tdiv 64 ∧ (min (max x.1 0) 3072 + 64 - 1).tdiv 64 ≤ (min (max x.1
 0) 3072 + 64 - 1).tdiv 64 ∧ (↑8 : Int) * (min (max x.1 0) 3072 + 64 - 1).tdiv 64 ≤ (281474976710656 : Int) ∧ (min (max x.1 0) 3072 + 64 - 1).tdiv 64 ≤
 (9223372036854775807 : Int)) ∧ Exx (Nat × (Nat × Nat) × List Int) fun x_1 => (((true = true ∧ NilNil ∧ (0 : Nat) = 0) ∧ (x.2.length = x_1.2.2.length ∧ ∀ (i :
 Nat), i < x_1.2.2.length → [AV.int .i64 (x.2.getD i 0)] = [AV.int .i64 (x_1.2.2.getD i 0)]) ∧ True) ∧ true = true ∧ ((65 : Nat) = (65 : TypeId) ∧ Tr 1 (min (max
 x.1 0) 3072 = (↑x_1.2.1.1 : Int)) ∧ (true = true ∧ NilNil ∧ (0 : Nat) = 0 ∧ (1 : Nat) = 1 ∧ (0 : Nat) = 0 ∧ ((min (max x.1 0) 3072 + 64 - 1).tdiv 64).toNat =
 wcount x_1.2.1.1 ∧ ((min (max x.1 0) 3072 + 64 - 1).tdiv 64).toNat = x_1.1) ∧ True) ∧ ((66 : TypeId) = 66 ∧ (1 : Nat) = 1 ∧ ((min (max x.1 0) 3072 + 64 -
 1).tdiv 64).toNat = x_1.1 ∧ wcount x_1.2.1.1 ≤ ((min (max x.1 0) 3072 + 64 - 1).tdiv 64).toNat ∧ ∀ (i : Nat), i < wcount x_1.2.1.1 → [AV.int .u64 0] = [AV.int
 .u64 (↑(wordN x_1.2.1.2 i) : Int)]) ∧ True) ∧ (SetW x_1.2.1 ∧ Ints x_1.2.2) ∧ ∀ (y : Unit), True → Exx Unit fun y => Exx Nat fun g => Tr 1 (((65 : TypeId) = 65
 ∧ Tr 1 ((↑x_1.2.1.1 : Int) = (↑(clampN x.1) : Int)) ∧ (true = true ∧ NilNil ∧ (0 : Nat) = 0 ∧ (1 : Nat) = 1 ∧ (0 : Nat) = 0 ∧ wcount x_1.2.1.1 = wcount (clampN
 x.1) ∧ x_1.1 = g) ∧ True) ∧ ((66 : TypeId) = 66 ∧ (1 : Nat) = 1 ∧ x_1.1 = g ∧ wcount (clampN x.1) ≤ wcount x_1.2.1.1 ∧ ∀ (i : Nat), i < wcount (clampN x.1) →
 [AV.int .u64 (↑(wordN (addL x_1.2.1.1 x_1.2.1.2 x_1.2.2) i) : Int)] = [AV.int .u64 (↑(wordN (addL (clampN x.1) 0 x.2) i) : Int)]) ∧ True) ∧ (((true = true ∧
 NilNil ∧ (0 : Nat) = 0) ∧ True) ∧ true = true ∧ (setO (clampN x.1, addL (clampN x.1) 0 x.2)).ob = setB (clampN x.1, addL (clampN x.1) 0 x.2) ∧ True) ∧ True) =
 (fnVCo tb [(42, specObj (specOf setAddC) (specOf setAddOC))] Tryd.f27 setOfC (fun _ => {}) (fun _ _ _ => some [some 0, some 2]) (fun _ => []) (fun x y av H =>
 [(2, [1], setO (clampN x.1, addL (clampN x.1) 0 x.2))])) := by kernel_rfl

theorem setOf_ok : SpecOk Tryd.prog 27 (specOf setOfC) := by
  refine specOko mixed tb_ok (SPok.cons (specObj_ok setAdd_ok setAddO_ok) SPok.nil) Tryd.func27 (by decide) setNewC_ok (an := (fun _ => {})) (σ := (fun _ _ _ => some [some 0, some 2])) (op := (fun _ => [])) (cl := (fun x y av H => [(2, [1], setO (clampN x.1, addL (clampN x.1) 0 x.2))])) ?_
  rw [← setOfV]
  simp (maxSteps := 10000000) only [and_false, false_and, false_or, or_false, bOf_true, bOf_false, true_bOf, false_bOf, Exx, int_ite, merge_o, Tr_eq, true_and, and_true, exists_const, forall_const, implies_true, forall_eq, exists_eq, exists_eq', exists_eq_left, exists_eq_left', exists_eq_right, Prod.exists, Prod.forall, and_assoc, exists_and_left, BC_iff, Bool.not_eq_true', Bool.not_eq_false', decide_eq_true_eq, decide_eq_false_iff_not, I64, nat_cast_inj, Int.toNat_natCast, nats_iff, nats_iff', ints_iff, ints_iff', natss_iff, natss_iff', nilnil, litL_eq, str_inj, str_append, str_length, str_getD, str_take, lit1_iff, one_iff, two_iff, one_get, Nat.zero_add, Nat.sub_zero, Nat.reduceMul, Nat.reduceDiv, Nat.reduceAdd, Int.reduceToNat, Nat.not_lt_zero, if_false, if_true, Nat.le_refl, List.length_singleton, List.length_cons, List.length_nil, Bool.false_eq_true, not_true_eq_false, false_implies, not_false_eq_true, Prod.mk.injEq, setB_open, setB_close, setB_inj]
  rintro n l ⟨h1, h2, hl⟩
  have hc : min (max n 0) 3072 = ((clampN n : Nat) : Int) := by unfold clampN; omega
  have hcl : clampN n ≤ 3072 := by unfold clampN; omega
  have e : ((clampN n : Nat) : Int) + 64 - 1 = ((clampN n + 63 : Nat) : Int) := by omega
  have e2 : ((clampN n + 63 : Nat) : Int).tdiv 64 = ((wcount (clampN n) : Nat) : Int) := rfl
  have hw : wcount (clampN n) ≤ 100 := by unfold wcount; omega
  rw [hc, e, e2]
  repeat refine And.intro (by omega) ?_
  exact ⟨wcount (clampN n), clampN n, rfl, rfl, rfl, rfl, Nat.le_refl _, 0, fun i _ => by simp [wordN], ⟨hcl, Nat.pos_of_ne_zero (by simp)⟩, hl, rfl, rfl, Nat.le_refl _, fun _ _ => rfl⟩

theorem gapAux (s : Nat × Nat) : ∀ k a : Nat, s.1 - a ≤ k → ∃ r : Option Nat, (match r with
    | some g => a ≤ g ∧ g < s.1 ∧ s.2.testBit g = false ∧ ∀ i, a ≤ i → i < g → s.2.testBit i = true
    | none => ∀ i, a ≤ i → i < s.1 → s.2.testBit i = true)
  | 0, a, h => ⟨none, fun i h1 h2 => by omega⟩
  | k + 1, a, h => by
    by_cases ha : a < s.1
    · cases hb : s.2.testBit a with
      | false => exact ⟨some a, Nat.le_refl _, ha, hb, fun i h1 h2 => by omega⟩
      | true =>
        obtain ⟨r, hr⟩ := gapAux s k (a + 1) (by omega)
        refine ⟨r, ?_⟩
        cases r with
        | none =>
          intro i h1 h2
          by_cases e : i = a
          · subst e; exact hb
          · exact hr i (by omega) h2
        | some g =>
          refine ⟨by have := hr.1; omega, hr.2.1, hr.2.2.1, fun i h1 h2 => ?_⟩
          by_cases e : i = a
          · subst e; exact hb
          · exact hr.2.2.2 i (by omega) h2
    · exact ⟨none, fun i h1 h2 => by omega⟩

def gapF (s : Nat × Nat) : Nat → Nat → Int
  | 0, _ => -1
  | k + 1, a => if a < s.1 then if s.2.testBit a then gapF s k (a + 1) else (a : Int) else -1
def gapN (s : Nat × Nat) (a : Int) : Int := gapF s (s.1 + 1) a.toNat
theorem gapF_more (s : Nat × Nat) : ∀ k a : Nat, s.1 < a + k → gapF s (k + 1) a = gapF s k a
  | 0, a, h => by simp [gapF]; omega
  | k + 1, a, h => by
    have ih := gapF_more s k (a + 1) (by omega)
    conv => lhs; unfold gapF
    conv => rhs; unfold gapF
    rw [ih]
theorem gapF_any (s : Nat × Nat) (a : Nat) : ∀ k j : Nat, s.1 < a + k → gapF s (k + j) a = gapF s k a
  | k, 0, _ => rfl
  | k, j + 1, h => by rw [← Nat.add_assoc, gapF_more s (k + j) a (by omega), gapF_any s a k j h]
theorem gap_step {s : Nat × Nat} {a : Nat} (h : a < s.1) : gapF s (s.1 + 1) a = if s.2.testBit a then gapF s (s.1 + 1) (a + 1) else (a : Int) := by
  rw [gapF, if_pos h, ← gapF_more s s.1 (a + 1) (by omega)]
theorem gap_end {s : Nat × Nat} {a : Nat} (h : ¬ a < s.1) : gapF s (s.1 + 1) a = -1 := by rw [gapF, if_neg h]

def setGapC : Ctr := setGetC Int (fun x => I64 x.2) (fun x => [i64 x.2]) (fun x => i64 (gapN x.1 x.2))
def gapLA (x : (Nat × Nat) × Int) : LA := { T := Nat × Nat, F := fun s => frm 21 [(0, .ptr 0 [] 0), (5, i64 (s.1 : Int))], H := fun s => [.cells 65 [i64 (x.1.1 : Int), .sl 2 [] 0 1 0 (wcount x.1.1) s.2], .fence, .row 66 1 s.2 (wcount x.1.1) (fun j => [u64 (wordN x.1.2 j)])] }

theorem setGapV : (∀ (x : (Nat × Nat) × Int), SetW x.1 ∧ I64 x.2 → setB x.1 = (setO x.1).ob ∧ ∀ (g : Nat), Exx (Nat × Nat → Prop) fun I => Exx (Nat × Nat → Nat)
 fun m => (Exx (Nat × Nat) fun t => I t ∧ ((true = true ∧ NilNil ∧ (0 : Nat) = 0) ∧ Tr 4 (Tr 1 (max x.2 0 = (↑t.1 : Int)) ∧ Tr 15 True)) ∧ ((65 : TypeId) = 65 ∧
 Tr 1 ((↑x.1.1 : Int) = (↑x.1.1 : Int)) ∧ (true = true ∧ NilNil ∧ (0 : Nat) = 0 ∧ (1 : Nat) = 1 ∧ (0 : Nat) = 0 ∧ wcount x.1.1 = wcount x.1.1 ∧ g = t.2) ∧ True)
 ∧ true = true ∧ ((66 : TypeId) = 66 ∧ (1 : Nat) = 1 ∧ g = t.2 ∧ wcount x.1.1 ≤ wcount x.1.1 ∧ ∀ (i : Nat), i < wcount x.1.1 → [AV.int .u64 (↑(wordN x.1.2 i) :
 Int)] = [AV.int .u64 (↑(wordN x.1.2 i) : Int)]) ∧ True) ∧ ∀ (t : Nat × Nat), I t → BC (decide ((↑t.1 : Int) < (↑x.1.1 : Int))) (Exx (Nat × (Nat × Nat) × Int)
 fun x_1 => (((true = true ∧ NilNil ∧ (0 : Nat) = 0) ∧ Tr 1 ((↑t.1 : Int) = x_1.2.2) ∧ True) ∧ true = true ∧ ((65 : TypeId) = 65 ∧ Tr 1 ((↑x.1.1 : Int) =
 (↑x_1.2.1.1 : Int)) ∧ (true = true ∧ NilNil ∧ (0 : Nat) = 0 ∧ (1 : Nat) = 1 ∧ (0 : Nat) = 0 ∧ wcount x.1.1 = wcount x_1.2.1.1 ∧ t.2 = x_1.1) ∧ True) ∧ ((66 :
 TypeId) = 66 ∧ (1 : Nat) = 1 ∧ t.2 = x_1.1 ∧ wcount x_1.2.1.1 ≤ wcount x.1.1 ∧ ∀ (i : Nat), i < wcount x_1.2.1.1 → [AV.int .u64 (↑(wordN x.1.2 i) : Int)] =
 [AV.int .u64 (↑(wordN x_1.2.1.2 i) : Int)]) ∧ True) ∧ (SetW x_1.2.1 ∧ I64 x_1.2.2) ∧ ∀ (y : Unit), True → BC (!hasN x_1.2.1 x_1.2.2) (Exx Unit fun y => Exx Nat
 fun g => Tr 1 (((65 : TypeId) = 65 ∧ Tr 1 ((↑x_1.2.1.1 : Int) = (↑x.1.1 : Int)) ∧ (true = true ∧ NilNil ∧ (0 : Nat) = 0 ∧ (1 : Nat) = 1 ∧ (0 : Nat) = 0 ∧ wcount
 x_1.2.1.1 = wcount x.1.1 ∧ x_1.1 = g) ∧ True) ∧ ((66 : TypeId) = 66 ∧ (1 : Nat) = 1 ∧ x_1.1 = g ∧ wcount x.1.1 ≤ wcount x_1.2.1.1 ∧ ∀ (i : Nat), i < wcount
 x.1.1 → [AV.int .u64 (↑(wordN x_1.2.1.2 i) : Int)] = [AV.int .u64 (↑(wordN x.1.2 i) : Int)]) ∧ True) ∧ ((Tr 1 ((↑t.1 : Int) = gapN x.1 x.2) ∧ True) ∧ (setO
 x.1).ob = setB x.1 ∧ true = true ∧ True) ∧ True) (I64 ((↑t.1 : Int) + 1) ∧ Exx (Nat × Nat) fun t' => (I t' ∧ m t' < m t) ∧ ((true = true ∧ NilNil ∧ (0 : Nat) =
 0) ∧ Tr 4 (Tr 1 ((↑t.1 : Int) + 1 = (↑t'.fst : Int)) ∧ Tr 15 True)) ∧ ((65 : TypeId) = 65 ∧ Tr 1 ((↑x_1.2.1.1 : Int) = (↑x.1.1 : Int)) ∧ (true = true ∧ NilNil ∧
 (0 : Nat) = 0 ∧ (1 : Nat) = 1 ∧ (0 : Nat) = 0 ∧ wcount x_1.2.1.1 = wcount x.1.1 ∧ x_1.1 = t'.snd) ∧ True) ∧ true = true ∧ ((66 : TypeId) = 66 ∧ (1 : Nat) = 1 ∧
 x_1.1 = t'.snd ∧ wcount x.1.1 ≤ wcount x_1.2.1.1 ∧ ∀ (i : Nat), i < wcount x.1.1 → [AV.int .u64 (↑(wordN x_1.2.1.2 i) : Int)] = [AV.int .u64 (↑(wordN x.1.2 i) :
 Int)]) ∧ True)) (Exx Unit fun y => Exx Nat fun g => Tr 1 (((65 : TypeId) = 65 ∧ Tr 1 ((↑x.1.1 : Int) = (↑x.1.1 : Int)) ∧ (true = true ∧ NilNil ∧ (0 : Nat) = 0 ∧
 (1 : Nat) = 1 ∧ (0 : Nat) = 0 ∧ wcount x.1.1 = wcount x.1.1 ∧ t.2 = g) ∧ True) ∧ ((66 : TypeId) = 66 ∧ (1 : Nat) = 1 ∧ t.2 = g ∧ wcount x.1.1 ≤ wcount x.1.1 ∧ ∀
 (i : Nat), i < wcount x.1.1 → [AV.int .u64 (↑(wordN x.1.2 i) : Int)] = [AV.int .u64 (↑(wordN x.1.2 i) : Int)]) ∧ True) ∧ ((Tr 1 (-1 = gapN x.1 x.2) ∧ True) ∧
 (setO x.1).ob = setB x.1 ∧ true = true ∧ True) ∧ True)) = (fnVCo tb [(34, specObj (specOf setHasC) (specOf setHasOC))] Tryd.f44 setGapC (fun x => { loops := [(2, gapLA x)] }) (fun _ _ _ => none) (fun x => [(0, setO x.1)]) (fun x y av H => [(0, [2], setO x.1)])) := by kernel_rfl 

theorem setGap_ok : SpecOk Tryd.prog 44 (specOf setGapC) := by
  refine specOko mixed tb_ok (SPok.cons (specObj_ok setHas_ok setHasO_ok) SPok.nil) Tryd.func44 (by decide) (setGetC_ok fun _ => rfl) (an := (fun x => { loops := [(2, gapLA x)] })) (σ := (fun _ _ _ => none)) (op := (fun x => [(0, setO x.1)])) (cl := (fun x y av H => [(0, [2], setO x.1)])) ?_
  rw [← setGapV]
  simp (maxSteps := 10000000) only [and_false, false_and, false_or, or_false, bOf_true, bOf_false, true_bOf, false_bOf, Exx, int_ite, merge_o, Tr_eq, true_and, and_true, exists_const, forall_const, implies_true, forall_eq, exists_eq, exists_eq', exists_eq_left, exists_eq_left', exists_eq_right, Prod.exists, Prod.forall, and_assoc, exists_and_left, BC_iff, Bool.not_eq_true', Bool.not_eq_false', decide_eq_true_eq, decide_eq_false_iff_not, I64, nat_cast_inj, Int.toNat_natCast, nats_iff, nats_iff', ints_iff, ints_iff', natss_iff, natss_iff', nilnil, litL_eq, str_inj, str_append, str_length, str_getD, str_take, lit1_iff, one_iff, two_iff, one_get, Nat.zero_add, Nat.sub_zero, Nat.reduceMul, Nat.reduceDiv, Nat.reduceAdd, Int.reduceToNat, Nat.not_lt_zero, if_false, if_true, Nat.le_refl, List.length_singleton, List.length_cons, List.length_nil, Bool.false_eq_true, not_true_eq_false, false_implies, not_false_eq_true, Prod.mk.injEq, setB_open, setB_close, setB_inj]
  rintro n m a ⟨hs, h1, h2⟩ cap
  have hn := hs.1
  simp only at hn
  refine ⟨fun s => gapF (n, m) (n + 1) s.1 = gapN (n, m) a ∧ s.1 ≤ 9223372036854775807 ∧ s.2 = cap, ⟨a.toNat, cap, ⟨rfl, by simp only; omega, rfl⟩, by omega, rfl, rfl⟩, fun s => n - s.1, ?_⟩
  rintro k cap' ⟨hk, hk2, hc⟩
  simp only at hk hk2 hc
  subst hc
  refine ⟨fun hlt => ?_, fun hge => by rw [← hk, gap_end (s := (n, m)) (by simp only; omega)]⟩
  have hin : inSet (n, m) (k : Int) := ⟨by omega, hlt⟩
  have hh : hasN (n, m) (k : Int) = m.testBit k := by rw [hasN, decide_eq_true hin]; rfl
  have hst := gap_step (s := (n, m)) (a := k) (by simp only; omega)
  simp only at hst
  refine ⟨m, fun _ _ => rfl, hs, by omega, by omega, fun h => ⟨fun _ _ => rfl, ?_⟩, fun h => ⟨by omega, by omega, k + 1, cap', ⟨?_, by simp only; omega, rfl⟩, by simp only; omega, by omega, rfl, rfl, fun _ _ => rfl⟩⟩
  · rw [hh] at h; rw [h] at hst; rw [← hk, hst]; rfl
  · rw [hh] at h; rw [h] at hst; rw [← hk, hst]; rfl

def cloneU64C : Ctr := rowC (List Nat) (fun l => l.length ≤ 100000000) (fun l => [natsA .u64 l]) 66 .u64 (fun l => l) (fun _ r => r)

theorem cloneU64V : (∀ (x : List Nat), x.length ≤ 100000000 → ∀ (b : Bool), (x.length ≠ 0 → b = false) → BC b (Exx Nat fun y => (((x.length = 0 ∧ y = 0) ∧ True)
 ∧ true = true ∧ (y = 0 ∧ x.length = 0) ∧ True) ∧ x.length ≤ y) (true = true ∧ ((0 : Nat) ≤ (0 : Nat) ∧ (0 : Nat) = 0) ∧ (0 + x.length ≤ 9223372036854775807 ∧ (0
 + x.length) * 8 ≤ 140737488355328) ∧ ∀ (cap : Nat), 0 + x.length ≤ cap ∧ cap ≤ 9223372036854775807 → Exx Nat fun y => (((true = true ∧ NilNil ∧ (0 : Nat) = 0 ∧
 (1 : Nat) = 1 ∧ (0 : Nat) = 0 ∧ 0 + x.length = x.length ∧ cap = y) ∧ True) ∧ true = true ∧ ((66 : TypeId) = 66 ∧ (1 : Nat) = 1 ∧ cap = y ∧ x.length ≤ 0 +
 x.length ∧ ∀ (i : Nat), i < x.length → (if i < 0 then [] else [AV.int .u64 (↑(x.getD (i - 0) 0) : Int)]) = [AV.int .u64 (↑(x.getD i 0) : Int)]) ∧ True) ∧
 x.length ≤ y)) = (fnVC tb [] Tryd.f50 cloneU64C (fun _ => {}) (fun _ => none)) := by kernel_rfl 

theorem cloneU64_ok : SpecOk Tryd.prog 50 (specOf cloneU64C) := by
  refine specOk mixed tb_ok SPok.nil Tryd.func50 (by decide) (rowC_ok fun _ _ _ => rfl) (an := (fun _ => {})) (σ := (fun _ => none)) ?_
  rw [← cloneU64V]
  simp (maxSteps := 10000000) only [and_false, false_and, false_or, or_false, bOf_true, bOf_false, true_bOf, false_bOf, Exx, int_ite, merge_o, Tr_eq, true_and, and_true, exists_const, forall_const, implies_true, forall_eq, exists_eq, exists_eq', exists_eq_left, exists_eq_left', exists_eq_right, Prod.exists, Prod.forall, and_assoc, exists_and_left, BC_iff, Bool.not_eq_true', Bool.not_eq_false', decide_eq_true_eq, decide_eq_false_iff_not, I64, nat_cast_inj, Int.toNat_natCast, nats_iff, nats_iff', ints_iff, ints_iff', natss_iff, natss_iff', nilnil, litL_eq, str_inj, str_append, str_length, str_getD, str_take, lit1_iff, one_iff, two_iff, one_get, Nat.zero_add, Nat.sub_zero, Nat.reduceMul, Nat.reduceDiv, Nat.reduceAdd, Int.reduceToNat, Nat.not_lt_zero, if_false, if_true, Nat.le_refl, List.length_singleton, List.length_cons, List.length_nil, Bool.false_eq_true, not_true_eq_false, false_implies, not_false_eq_true, Prod.mk.injEq]
  intro l hl b hb
  refine ⟨fun h => ?_, fun h => ⟨by omega, by omega, fun cap hc => hc.1⟩⟩
  have : l.length = 0 := by
    rcases Nat.eq_zero_or_pos l.length with k | k
    · exact k
    · rw [hb (by omega)] at h; cases h
  omega

def setCloneC : Ctr where
  X := Nat × Nat
  Y := Unit
  conv := true
  tau := ptrTau
  pre := SetW
  args := fun _ => [.ptr 0 [] 0]
  heap := fun s => [setI s]
  Q := fun _ _ => True
  res := fun _ _ => .ptr 2 [] 0
  its := fun s _ => [setI s]
  new := fun s _ => [setI s]
theorem setCloneC_ok : CtrOk setCloneC :=
  ⟨fun _ _ _ _ => (rfl : 1 = 1), fun _ _ _ _ => ⟨rfl, rfl⟩, fun x _ _ _ _ => ⟨⟨⟨trivial, trivial⟩, ⟨trivial, trivial⟩⟩, rfl⟩⟩

theorem setCloneV : (∀ (x : Nat × Nat), SetW x → setB x = (setO x).ob ∧ ∀ (g : Nat), (Exx (List Nat) fun x_1 => (((0 + wcount x.1 ≤ wcount x.1 ∧ wcount x.1 =
 x_1.length ∧ ∀ (i : Nat), i < x_1.length → [AV.int .u64 (↑(wordN x.2 (0 + i)) : Int)] = [AV.int .u64 (↑(x_1.getD i 0) : Int)]) ∧ True) ∧ true = true ∧ True) ∧
 x_1.length ≤ 100000000 ∧ ∀ (y : Nat), x_1.length ≤ y → Exx Unit fun y_1 => Exx Nat fun g_1 => Tr 1 (((65 : TypeId) = 65 ∧ Tr 1 ((↑x.1 : Int) = (↑x.1 : Int)) ∧
 (true = true ∧ NilNil ∧ (0 : Nat) = 0 ∧ (1 : Nat) = 1 ∧ (0 : Nat) = 0 ∧ wcount x.1 = wcount x.1 ∧ g = g_1) ∧ True) ∧ ((66 : TypeId) = 66 ∧ (1 : Nat) = 1 ∧ g =
 g_1 ∧ wcount x.1 ≤ wcount x.1 ∧ ∀ (i : Nat), i < wcount x.1 → [AV.int .u64 (↑(wordN x.2 i) : Int)] = [AV.int .u64 (↑(wordN x.2 i) : Int)]) ∧ True) ∧ Exx Nat fun
 g => Tr 1 (((65 : Nat) = (65 : TypeId) ∧ Tr 1 ((↑x.1 : Int) = (↑x.1 : Int)) ∧ (true = true ∧ NilNil ∧ (0 : Nat) = 0 ∧ (1 : Nat) = 1 ∧ (0 : Nat) = 0 ∧ x_1.length
 = wcount x.1 ∧ y = g) ∧ True) ∧ ((66 : TypeId) = 66 ∧ (1 : Nat) = 1 ∧ y = g ∧ wcount x.1 ≤ x_1.length ∧ ∀ (i : Nat), i < wcount x.1 → [AV.int .u64 (↑(x_1.getD i
 0) : Int)] = [AV.int .u64 (↑(wordN x.2 i) : Int)]) ∧ True) ∧ (((true = true ∧ NilNil ∧ (0 : Nat) = 0) ∧ True) ∧ (setO x).ob = setB x ∧ true = true ∧ (setO x).ob
 = setB x ∧ True) ∧ True) ∧ (Exx (List Nat) fun x_1 => (((0 + wcount x.1 ≤ wcount x.1 ∧ wcount x.1 = x_1.length ∧ ∀ (i : Nat), i < x_1.length → [AV.int .u64
 (↑(wordN x.2 (0 + i)) : Int)] = [AV.int .u64 (↑(x_1.getD i 0) : Int)]) ∧ True) ∧ true = true ∧ True) ∧ x_1.length ≤ 100000000 ∧ ∀ (y : Nat), x_1.length ≤ y →
 Exx Unit fun y_1 => Exx Nat fun g_1 => Tr 1 (((65 : TypeId) = 65 ∧ Tr 1 ((↑x.1 : Int) = (↑x.1 : Int)) ∧ (true = true ∧ NilNil ∧ (0 : Nat) = 0 ∧ (1 : Nat) = 1 ∧
 (0 : Nat) = 0 ∧ wcount x.1 = wcount x.1 ∧ g = g_1) ∧ True) ∧ ((66 : TypeId) = 66 ∧ (1 : Nat) = 1 ∧ g = g_1 ∧ wcount x.1 ≤ wcount x.1 ∧ ∀ (i : Nat), i < wcount
 x.1 → [AV.int .u64 (↑(wordN x.2 i) : Int)] = [AV.int .u64 (↑(wordN x.2 i) : Int)]) ∧ True) ∧ Exx Nat fun g => Tr 1 (((65 : Nat) = (65 : TypeId) ∧ Tr 1 ((↑x.1 :
 Int) = (↑x.1 : Int)) ∧ (true = true ∧ NilNil ∧ (0 : Nat) = 0 ∧ (1 : Nat) = 1 ∧ (0 : Nat) = 0 ∧ x_1.length = wcount x.1 ∧ y = g) ∧ True) ∧ ((66 : TypeId) = 66 ∧
 (1 : Nat) = 1 ∧ y = g ∧ wcount x.1 ≤ x_1.length ∧ ∀ (i : Nat), i < wcount x.1 → [AV.int .u64 (↑(x_1.getD i 0) : Int)] = [AV.int .u64 (↑(wordN x.2 i) : Int)]) ∧
 True) ∧ (((true = true ∧ NilNil ∧ (0 : Nat) = 0) ∧ True) ∧ (setO x).ob = setB x ∧ true = true ∧ (setO x).ob = setB x ∧ True) ∧ True) ∧ Exx (List Nat) fun x_1 =>
 (((0 + wcount x.1 ≤ wcount x.1 ∧ wcount x.1 = x_1.length ∧ ∀ (i : Nat), i < x_1.length → [AV.int .u64 (↑(wordN x.2 (0 + i)) : Int)] = [AV.int .u64 (↑(x_1.getD i
 0) : Int)]) ∧ True) ∧ true = true ∧ True) ∧ x_1.length ≤ 100000000 ∧ ∀ (y : Nat), x_1.length ≤ y → Exx Unit fun y_1 => Exx Nat fun g_1 => Tr 1 (((65 : TypeId) =
 65 ∧ Tr 1 ((↑x.1 : Int) = (↑x.1 : Int)) ∧ (true = true ∧ NilNil ∧ (0 : Nat) = 0 ∧ (1 : Nat) = 1 ∧ (0 : Nat) = 0 ∧ wcount x.1 = wcount x.1 ∧ g = g_1) ∧ True) ∧
 ((66 : TypeId) = 66 ∧ (1 : Nat) = 1 ∧ g = g_1 ∧ wcount x.1 ≤ wcount x.1 ∧ ∀ (i : Nat), i < wcount x.1 → [AV.int .u64 (↑(wordN x.2 i) : Int)] = [AV.int .u64
 (↑(wordN x.2 i) : Int)]) ∧ True) ∧ Exx Nat fun g => Tr 1 (((65 : Nat) = (65 : TypeId) ∧ Tr 1 ((↑x.1 : Int) = (↑x.1 : Int)) ∧ (true = true ∧ NilNil ∧ (0 : Nat) =
 0 ∧ (1 : Nat) = 1 ∧ (0 : Nat) = 0 ∧ x_1.length = wcount x.1 ∧ y = g) ∧ True) ∧ ((66 : TypeId) = 66 ∧ (1 : Nat) = 1 ∧ y = g ∧ wcount x.1 ≤ x_1.length ∧ ∀ (i :
 Nat), i < wcount x.1 → [AV.int .u64 (↑(x_1.getD i 0) : Int)] = [AV.int .u64 (↑(wordN x.2 i) : Int)]) ∧ True) ∧ (((true = true ∧ NilNil ∧ (0 : Nat) = 0) ∧ True)
 ∧ (setO x).ob = setB x ∧ true = true ∧ (setO x).ob = setB x ∧ True) ∧ True) = (fnVCo tb [(50, specOf cloneU64C)] Tryd.f49 setCloneC (fun x => { loose := [(1,
 [0, 2])] }) (fun _ _ _ => some [some 0, some 1, some 4]) (fun x => [(0, setO x)]) (fun x y av H => [(0, [2], setO x), (4, [3], setO x)])) := by kernel_rfl

theorem setClone_ok : SpecOk Tryd.prog 49 (specOf setCloneC) := by
  refine specOko mixed tb_ok (SPok.cons cloneU64_ok SPok.nil) Tryd.func49 (by decide) setCloneC_ok (an := (fun x => { loose := [(1, [0, 2])] })) (σ := (fun _ _ _ => some [some 0, some 1, some 4])) (op := (fun x => [(0, setO x)])) (cl := (fun x y av H => [(0, [2], setO x), (4, [3], setO x)])) ?_
  rw [← setCloneV]
  simp (maxSteps := 10000000) only [and_false, false_and, false_or, or_false, bOf_true, bOf_false, true_bOf, false_bOf, Exx, int_ite, merge_o, Tr_eq, true_and, and_true, exists_const, forall_const, implies_true, forall_eq, exists_eq, exists_eq', exists_eq_left, exists_eq_left', exists_eq_right, Prod.exists, Prod.forall, and_assoc, exists_and_left, BC_iff, Bool.not_eq_true', Bool.not_eq_false', decide_eq_true_eq, decide_eq_false_iff_not, I64, nat_cast_inj, Int.toNat_natCast, nats_iff, nats_iff', ints_iff, ints_iff', natss_iff, natss_iff', nilnil, litL_eq, str_inj, str_append, str_length, str_getD, str_take, lit1_iff, one_iff, two_iff, one_get, Nat.zero_add, Nat.sub_zero, Nat.reduceMul, Nat.reduceDiv, Nat.reduceAdd, Int.reduceToNat, Nat.not_lt_zero, if_false, if_true, Nat.le_refl, List.length_singleton, List.length_cons, List.length_nil, Bool.false_eq_true, not_true_eq_false, false_implies, not_false_eq_true, Prod.mk.injEq, setB_open, setB_close, setB_inj]
  rintro n m hs
  have w1 := wordsL_length n m
  have hw : wcount n ≤ 100 := by have := hs.1; simp only at this; unfold wcount; omega
  have key := fun (y : Nat) (hy : (wordsL n m).length ≤ y) => (⟨w1, by omega, fun i hi => by rw [wordsL_getD hi]⟩ : (wordsL n m).length = wcount n ∧ wcount n ≤ (wordsL n m).length ∧ ∀ i : Nat, i < wcount n → [AV.int IntKind.u64 (((wordsL n m).getD i 0 : Nat) : Int)] = [AV.int IntKind.u64 ((wordN m i : Nat) : Int)])
  have key2 : ∀ i : Nat, i < (wordsL n m).length → [AV.int IntKind.u64 ((wordN m i : Nat) : Int)] = [AV.int IntKind.u64 (((wordsL n m).getD i 0 : Nat) : Int)] := fun i hi => by rw [wordsL_getD (by omega)]
  exact ⟨⟨wordsL n m, w1.symm, key2, by omega, key⟩, ⟨wordsL n m, w1.symm, key2, by omega, key⟩, wordsL n m, w1.symm, key2, by omega, key⟩

def tau2 (args : List AV) (H : AH) : List Nat := match args with
  | .ptr p _ _ :: .ptr q _ _ :: _ => [p, q]
  | _ => []
def setSameC : Ctr where
  X := (Nat × Nat) × (Nat × Nat)
  Y := Unit
  conv := true
  tau := tau2
  pre := fun x => SetW x.1 ∧ SetW x.2
  args := fun _ => [.ptr 0 [] 0, .ptr 1 [] 0]
  heap := fun x => [setI x.1, setI x.2]
  Q := fun _ _ => True
  res := fun x _ => .bool (decide (x.1 = x.2))
  its := fun x _ => [setI x.1, setI x.2]
  new := fun _ _ => []
theorem setSameC_ok : CtrOk setSameC :=
  ⟨fun _ _ _ _ => (rfl : 2 = 2), fun _ _ _ _ => ⟨rfl, rfl⟩, fun x _ _ _ _ => ⟨⟨⟨trivial, trivial, trivial⟩, trivial⟩, rfl⟩⟩

def equalU64C : Ctr := pureC (List Nat × List Nat) (fun x => x.1.length ≤ 100000000 ∧ x.2.length ≤ 100000000) (fun x => [natsA .u64 x.1, natsA .u64 x.2]) (fun x => .bool (decide (x.1 = x.2)))
def equalLA (x : List Nat × List Nat) : LA := { T := Nat, F := fun i => frm 26 [(0, natsA .u64 x.1), (1, natsA .u64 x.2), (12, i64 (x.1.length : Int)), (13, i64 (i : Int))], H := fun _ => [.fence] }

end Yard
