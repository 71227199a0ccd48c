/- The sums' functions. -/
import Derived.Test.YtoajfhpiepkjkaaRef01
import Derived.Test.YtoajfhpiepkjkaaCrcMath
namespace Yard
open Go Go.Sx Go.Proofs
set_option linter.unusedVariables false
set_option linter.unusedSimpArgs false
set_option maxRecDepth 4000

def tableN (i : Nat) : Nat := stepsN 4 i
def u32 (n : Nat) : AV := .int .u32 (n : Int)
def octs (l : List Nat) : AV := .ro 1 l.length (fun i => [.int .u8 ((l.getD i 0 : Nat) : Int)])
def tabA (f : Nat → Nat) : AV := .agg [.arr 1 16 (fun i => [u32 (f i)])]

def takeN (f : Nat → Nat) (x c : Nat) : Nat := halfN f (halfN f (x ^^^ c))
def regN (f : Nat → Nat) (x : Nat) (l : List Nat) : Nat := l.foldl (takeN f) x
theorem xor32 {a b : Nat} (ha : a < 4294967296) (hb : b < 4294967296) : a ^^^ b < 4294967296 := Nat.xor_lt_two_pow (n := 32) ha hb
theorem halfN_lt {f : Nat → Nat} (hf : ∀ i, i < 16 → f i < 4294967296) {x : Nat} (hx : x < 4294967296) : halfN f x < 4294967296 := xor32 (by omega) (hf _ (by omega))
theorem takeN_lt {f : Nat → Nat} (hf : ∀ i, i < 16 → f i < 4294967296) {x c : Nat} (hx : x < 4294967296) (hc : c < 256) : takeN f x c < 4294967296 := halfN_lt hf (halfN_lt hf (xor32 hx (by omega)))

theorem xor_poly {a : Nat} (h : a < 4294967296) : bits .xor .u32 (a : Int) 2197175160 = ((a ^^^ 2197175160 : Nat) : Int) := bits_xor (k := .u32) rfl (b := 2197175160) h (by decide)
theorem xor_ones {a : Nat} (h : a < 4294967296) : bits .xor .u32 (a : Int) 4294967295 = ((a ^^^ 4294967295 : Nat) : Int) := bits_xor (k := .u32) rfl (b := 4294967295) h (by decide)
theorem and_one {a : Nat} (h : a < 4294967296) : bits .and .u32 (a : Int) 1 = ((a % 2 : Nat) : Int) := by
  rw [show (1 : Int) = ((1 : Nat) : Int) from rfl, bits_and (k := .u32) rfl h (by decide), Nat.and_one_is_mod]
theorem and_15 {a : Nat} (h : a < 4294967296) : bits .and .u32 (a : Int) 15 = ((a % 16 : Nat) : Int) := by
  rw [show (15 : Int) = ((15 : Nat) : Int) from rfl, bits_and (k := .u32) rfl h (by decide), show 15 = 2 ^ 4 - 1 from rfl, Nat.and_two_pow_sub_one_eq_mod]
theorem shr_one (a : Nat) : (a : Int).fdiv (2 ^ min 1 IntKind.u32.bits) = ((a / 2 : Nat) : Int) := by
  show (a : Int).fdiv 2 = _
  rw [Int.fdiv_eq_ediv_of_nonneg _ (by decide)]; rfl
theorem shr_four (a : Nat) : (a : Int).fdiv (2 ^ min (Int.toNat 4) IntKind.u32.bits) = ((a / 16 : Nat) : Int) := by
  show (a : Int).fdiv 16 = _
  rw [Int.fdiv_eq_ediv_of_nonneg _ (by decide)]; rfl
theorem wrap32 {a : Nat} (h : a < 4294967296) : IntKind.u32.wrap (a : Int) = a := wrap_nat rfl h
theorem cast_inj {a b : Nat} : ((a : Int) = (b : Int)) ↔ a = b := Int.ofNat_inj

def stepC : Ctr := pureC Nat (fun x => x < 4294967296) (fun x => [u32 x]) (fun x => u32 (stepN x))
def stepsC : Ctr := pureC (Nat × Nat) (fun x => x.1 < 4294967296 ∧ x.2 ≤ 1000) (fun x => [u32 x.1, .int .i64 (x.2 : Int)]) (fun x => u32 (stepsN x.2 x.1))
def tableC : Ctr := pureC Unit (fun _ => True) (fun _ => []) (fun _ => tabA tableN)
def takeC : Ctr := pureC ((Nat → Nat) × Nat × Nat) (fun x => (∀ i, i < 16 → x.1 i < 4294967296) ∧ x.2.1 < 4294967296 ∧ x.2.2 < 256) (fun x => [tabA x.1, u32 x.2.1, .int .u8 (x.2.2 : Int)]) (fun x => u32 (takeN x.1 x.2.1 x.2.2))

-- callees: 
theorem stepV : (∀ (x : Nat),
  x < 4294967296 →
    ∀ (n : Int),
      n = bits BinOp.and IntKind.u32 (↑x : Int) 1 →
        BC (decide (n = 1))
          ((0 : Int) ≤ (1 : Int) ∧
            ∀ (n : Int),
              n = (↑x : Int).fdiv (2 ^ min (Int.toNat 1) IntKind.u32.bits) →
                ∀ (n_1 : Int), n_1 = bits BinOp.xor IntKind.u32 n 2197175160 → Exx Unit fun y => ((Tr 1 (n_1 = (↑(stepN x) : Int)) ∧ True) ∧ true = true ∧ True) ∧ True)
          ((0 : Int) ≤ (1 : Int) ∧
            ∀ (n : Int), n = (↑x : Int).fdiv (2 ^ min (Int.toNat 1) IntKind.u32.bits) → Exx Unit fun y => ((Tr 1 (n = (↑(stepN x) : Int)) ∧ True) ∧ true = true ∧ True) ∧ True)) =
    (fnVC tb [] Try.f51 stepC (fun _ => {}) (fun _ => none)) := by kernel_rfl

theorem step_ok : SpecOk Try.prog 51 (specOf stepC) := by
  refine specOk mixed tb_ok SPok.nil Try.func51 (by decide) (pureC_ok fun _ => rfl) (an := (fun _ => {})) (σ := (fun _ => none)) ?_
  rw [← stepV]
  simp only [Exx, Tr_eq, true_and, and_true, exists_const, forall_const, implies_true, forall_eq, exists_eq, exists_eq', exists_eq_left, exists_eq_left', exists_eq_right, Prod.exists, Prod.forall, and_assoc, exists_and_left, BC_iff, Bool.not_eq_true', Bool.not_eq_false', decide_eq_true_eq, decide_eq_false_iff_not, I64, nat_cast_inj, Int.toNat_natCast, nats_iff, nats_iff', ints_iff, ints_iff', natss_iff, natss_iff', nilnil, litL_eq, str_inj, str_append, str_length, str_getD, str_take, lit1_iff, one_iff, two_iff, one_get, Nat.zero_add, Nat.sub_zero, Nat.reduceMul, Nat.reduceDiv, Nat.reduceAdd, Int.reduceToNat, Nat.not_lt_zero, if_false, if_true, Nat.le_refl, List.length_singleton, List.length_cons, List.length_nil, Bool.false_eq_true, not_true_eq_false, false_implies, not_false_eq_true, Prod.mk.injEq]
  intro x hx
  rw [and_one hx, shr_one, xor_poly (by omega), show (1 : Int) = ((1 : Nat) : Int) from rfl]
  simp only [cast_inj]
  exact ⟨fun h => ⟨by omega, by rw [stepN, if_pos h]⟩, fun h => ⟨by omega, by rw [stepN, if_neg h]⟩⟩

def step'C : Ctr := stepC

-- callees: 
theorem step'V : (∀ (x : Nat),
  x < 4294967296 →
    (2 : Int) ≠ (0 : Int) ∧
      ∀ (n : Int),
        n = (↑x : Int).tmod 2 →
          BC (decide (n = 1))
            ((2 : Int) ≠ (0 : Int) ∧
              ∀ (n : Int),
                n = IntKind.u32.wrap ((↑x : Int).tdiv 2) →
                  ∀ (n_1 : Int), n_1 = bits BinOp.xor IntKind.u32 n 2197175160 → Exx Unit fun y => ((Tr 1 (n_1 = (↑(stepN x) : Int)) ∧ True) ∧ true = true ∧ True) ∧ True)
            ((2 : Int) ≠ (0 : Int) ∧ ∀ (n : Int), n = IntKind.u32.wrap ((↑x : Int).tdiv 2) → Exx Unit fun y => ((Tr 1 (n = (↑(stepN x) : Int)) ∧ True) ∧ true = true ∧ True) ∧ True)) =
    (fnVC tb [] Try.f52 step'C (fun _ => {}) (fun _ => none)) := by kernel_rfl

theorem step'_ok : SpecOk Try.prog 52 (specOf step'C) := by
  refine specOk mixed tb_ok SPok.nil Try.func52 (by decide) (pureC_ok fun _ => rfl) (an := (fun _ => {})) (σ := (fun _ => none)) ?_
  rw [← step'V]
  simp only [Exx, Tr_eq, true_and, and_true, exists_const, forall_const, implies_true, forall_eq, exists_eq, exists_eq', exists_eq_left, exists_eq_left', exists_eq_right, Prod.exists, Prod.forall, and_assoc, exists_and_left, BC_iff, Bool.not_eq_true', Bool.not_eq_false', decide_eq_true_eq, decide_eq_false_iff_not, I64, nat_cast_inj, Int.toNat_natCast, nats_iff, nats_iff', ints_iff, ints_iff', natss_iff, natss_iff', nilnil, litL_eq, str_inj, str_append, str_length, str_getD, str_take, lit1_iff, one_iff, two_iff, one_get, Nat.zero_add, Nat.sub_zero, Nat.reduceMul, Nat.reduceDiv, Nat.reduceAdd, Int.reduceToNat, Nat.not_lt_zero, if_false, if_true, Nat.le_refl, List.length_singleton, List.length_cons, List.length_nil, Bool.false_eq_true, not_true_eq_false, false_implies, not_false_eq_true, Prod.mk.injEq]
  intro x hx
  have e1 : (x : Int).tmod 2 = ((x % 2 : Nat) : Int) := rfl
  have e2 : (x : Int).tdiv 2 = ((x / 2 : Nat) : Int) := rfl
  rw [e1, e2, wrap32 (by omega), xor_poly (by omega), show (1 : Int) = ((1 : Nat) : Int) from rfl]
  simp only [cast_inj]
  exact ⟨by omega, fun h => ⟨by omega, by rw [stepN, if_pos h]⟩, fun h => ⟨by omega, by rw [stepN, if_neg h]⟩⟩

def stepsL (x : Nat × Nat) : LA := { T := Nat, F := fun k => frm 14 [(0, u32 (stepsN k x.1)), (1, .int .i64 (x.2 : Int)), (5, .int .i64 (k : Int))], H := fun _ => [.fence] }

-- callees: 52=step'_ok
theorem stepsV : (∀ (x : Nat × Nat),
  x.fst < 4294967296 ∧ x.snd ≤ 1000 →
    Exx (Nat → Prop) fun I =>
      Exx (Nat → Nat) fun m =>
        (Exx Nat fun t =>
            I t ∧ (Tr 1 ((↑x.fst : Int) = (↑(stepsN t x.fst) : Int)) ∧ Tr 1 ((↑x.snd : Int) = (↑x.snd : Int)) ∧ Tr 3 (Tr 1 (0 = (↑t : Int)) ∧ Tr 8 True)) ∧ true = true ∧ True) ∧
          ∀ (t : Nat),
            I t →
              BC (decide ((↑t : Int) < (↑x.snd : Int)))
                (Exx Nat fun x_1 =>
                  ((Tr 1 ((↑(stepsN t x.fst) : Int) = (↑x_1 : Int)) ∧ True) ∧ true = true ∧ True) ∧
                    x_1 < 4294967296 ∧
                      ∀ (y : Unit),
                        True →
                          I64 ((↑t : Int) + 1) ∧
                            Exx Nat fun t' =>
                              (I t' ∧ m t' < m t) ∧
                                (Tr 1 ((↑(stepN x_1) : Int) = (↑(stepsN t' x.fst) : Int)) ∧
                                    Tr 1 ((↑x.snd : Int) = (↑x.snd : Int)) ∧ Tr 3 (Tr 1 ((↑t : Int) + 1 = (↑t' : Int)) ∧ Tr 8 True)) ∧
                                  true = true ∧ True)
                (Exx Unit fun y => ((Tr 1 ((↑(stepsN t x.fst) : Int) = (↑(stepsN x.snd x.fst) : Int)) ∧ True) ∧ true = true ∧ True) ∧ True)) =
    (fnVC tb [(52, specOf step'C)] Try.f21 stepsC (fun x => { loops := [(2, stepsL x)] }) (fun _ => none)) := by kernel_rfl

theorem steps_ok : SpecOk Try.prog 21 (specOf stepsC) := by
  refine specOk mixed tb_ok (SPok.cons step'_ok SPok.nil) Try.func21 (by decide) (pureC_ok fun _ => rfl) (an := (fun x => { loops := [(2, stepsL x)] })) (σ := (fun _ => none)) ?_
  rw [← stepsV]
  simp only [Exx, Tr_eq, true_and, and_true, exists_const, forall_const, implies_true, forall_eq, exists_eq, exists_eq', exists_eq_left, exists_eq_left', exists_eq_right, Prod.exists, Prod.forall, and_assoc, exists_and_left, BC_iff, Bool.not_eq_true', Bool.not_eq_false', decide_eq_true_eq, decide_eq_false_iff_not, I64, nat_cast_inj, Int.toNat_natCast, nats_iff, nats_iff', ints_iff, ints_iff', natss_iff, natss_iff', nilnil, litL_eq, str_inj, str_append, str_length, str_getD, str_take, lit1_iff, one_iff, two_iff, one_get, Nat.zero_add, Nat.sub_zero, Nat.reduceMul, Nat.reduceDiv, Nat.reduceAdd, Int.reduceToNat, Nat.not_lt_zero, if_false, if_true, Nat.le_refl, List.length_singleton, List.length_cons, List.length_nil, Bool.false_eq_true, not_true_eq_false, false_implies, not_false_eq_true, Prod.mk.injEq]
  rintro x n ⟨h1, h2⟩
  refine ⟨fun k => k ≤ n, ⟨0, by omega, rfl, rfl⟩, fun k => n - k, fun k hk => ⟨fun hl => ⟨stepsN_lt h1 k, by omega, by omega, k + 1, by omega, by simp only; omega, rfl, by omega⟩, fun hl => ?_⟩⟩
  have : k = n := by omega
  rw [this]

def tabF (i : Nat) : Nat → List AV := fun j => [u32 (if j < i then tableN j else 0)]
def tabH (i : Nat) : AH := [.fence, .cells 25 [.arr 1 16 (fun _ => [.int .u32 0])], .cells 25 [.arr 1 16 (tabF i)]]
def tabL1 : LA := { T := Nat, F := fun i => frm 19 [(0, .ptr 1 [] 0), (1, .ptr 2 [] 0), (4, .int .i64 (i : Int))], H := tabH }
def tabL2 : LA := { T := Nat × Nat, F := fun x => frm 19 [(0, .ptr 1 [] 0), (1, .ptr 2 [] 0), (4, .int .i64 (x.1 : Int)), (2, .int .i64 (x.1 : Int)), (3, u32 (stepsN x.2 x.1)), (9, .int .i64 (x.2 : Int))], H := fun x => tabH x.1 }

-- callees: 51=step_ok
theorem tableV : (∀ (x : Unit),
  True →
    Exx (Nat → Prop) fun I =>
      Exx (Nat → Nat) fun m =>
        (Exx Nat fun t =>
            I t ∧
              ((true = true ∧ NilNil ∧ (0 : Nat) = (0 : Nat)) ∧ (true = true ∧ NilNil ∧ (0 : Nat) = (0 : Nat)) ∧ Tr 2 (Tr 1 (0 = (↑t : Int)) ∧ Tr 14 True)) ∧
                true = true ∧
                  ((25 : Nat) = (25 : TypeId) ∧
                      (1 : Nat) = (1 : Nat) ∧ (16 : Nat) = (16 : Nat) ∧ (∀ (i : Nat), i < 16 → [AV.int IntKind.u32 (0 : Int)] = [AV.int IntKind.u32 (0 : Int)]) ∧ True) ∧
                    ((25 : Nat) = (25 : TypeId) ∧
                        (1 : Nat) = (1 : Nat) ∧
                          (16 : Nat) = (16 : Nat) ∧ (∀ (i : Nat), i < 16 → [AV.int IntKind.u32 0] = [AV.int IntKind.u32 (↑(if i < t then tableN i else 0) : Int)]) ∧ True) ∧
                      True) ∧
          ∀ (t : Nat),
            I t →
              BC (decide ((↑t : Int) < 16))
                (∀ (m_1 : Int),
                  m_1 = IntKind.u32.wrap (↑t : Int) →
                    Exx (Nat × Nat → Prop) fun I_1 =>
                      Exx (Nat × Nat → Nat) fun m_2 =>
                        (Exx (Nat × Nat) fun t_1 =>
                            I_1 t_1 ∧
                              ((true = true ∧ NilNil ∧ (0 : Nat) = (0 : Nat)) ∧
                                  (true = true ∧ NilNil ∧ (0 : Nat) = (0 : Nat)) ∧
                                    Tr 1 ((↑t : Int) = (↑t_1.fst : Int)) ∧
                                      Tr 1 (m_1 = (↑(stepsN t_1.snd t_1.fst) : Int)) ∧ Tr 1 ((↑t : Int) = (↑t_1.fst : Int)) ∧ Tr 4 (Tr 1 (0 = (↑t_1.snd : Int)) ∧ Tr 9 True)) ∧
                                true = true ∧
                                  ((25 : TypeId) = (25 : TypeId) ∧
                                      (1 : Nat) = (1 : Nat) ∧
                                        (16 : Nat) = (16 : Nat) ∧ (∀ (i : Nat), i < 16 → [AV.int IntKind.u32 (0 : Int)] = [AV.int IntKind.u32 (0 : Int)]) ∧ True) ∧
                                    ((25 : TypeId) = (25 : TypeId) ∧
                                        (1 : Nat) = (1 : Nat) ∧
                                          (16 : Nat) = (16 : Nat) ∧
                                            (∀ (i : Nat),
                                                i < 16 →
                                                  [AV.int IntKind.u32 (↑(if i < t then tableN i else 0) : Int)] =
                                                    [AV.int IntKind.u32 (↑(if i < t_1.fst then tableN i else 0) : Int)]) ∧
                                              True) ∧
                                      True) ∧
                          ∀ (t_1 : Nat × Nat),
                            I_1 t_1 →
                              BC (decide ((↑t_1.snd : Int) < 4))
                                (Exx Nat fun x =>
                                  ((Tr 1 ((↑(stepsN t_1.snd t_1.fst) : Int) = (↑x : Int)) ∧ True) ∧ true = true ∧ True) ∧
                                    x < 4294967296 ∧
                                      ∀ (y : Unit),
                                        True →
                                          I64 ((↑t_1.snd : Int) + 1) ∧
                                            Exx (Nat × Nat) fun t' =>
                                              (I_1 t' ∧ m_2 t' < m_2 t_1) ∧
                                                ((true = true ∧ NilNil ∧ (0 : Nat) = (0 : Nat)) ∧
                                                    (true = true ∧ NilNil ∧ (0 : Nat) = (0 : Nat)) ∧
                                                      Tr 1 ((↑t_1.fst : Int) = (↑t'.fst : Int)) ∧
                                                        Tr 1 ((↑(stepN x) : Int) = (↑(stepsN t'.snd t'.fst) : Int)) ∧
                                                          Tr 1 ((↑t_1.fst : Int) = (↑t'.fst : Int)) ∧ Tr 4 (Tr 1 ((↑t_1.snd : Int) + 1 = (↑t'.snd : Int)) ∧ Tr 9 True)) ∧
                                                  true = true ∧
                                                    ((25 : TypeId) = (25 : TypeId) ∧
                                                        (1 : Nat) = (1 : Nat) ∧
                                                          (16 : Nat) = (16 : Nat) ∧
                                                            (∀ (i : Nat), i < 16 → [AV.int IntKind.u32 (0 : Int)] = [AV.int IntKind.u32 (0 : Int)]) ∧ True) ∧
                                                      ((25 : TypeId) = (25 : TypeId) ∧
                                                          (1 : Nat) = (1 : Nat) ∧
                                                            (16 : Nat) = (16 : Nat) ∧
                                                              (∀ (i : Nat),
                                                                  i < 16 →
                                                                    [AV.int IntKind.u32 (↑(if i < t_1.fst then tableN i else 0) : Int)] =
                                                                      [AV.int IntKind.u32 (↑(if i < t'.fst then tableN i else 0) : Int)]) ∧
                                                                True) ∧
                                                        True)
                                ((0 ≤ (↑t_1.fst : Int) ∧ (↑t_1.fst : Int) < (↑16 : Int)) ∧
                                  (↑t_1.fst : Int).toNat < 16 ∧
                                    I64 ((↑t_1.fst : Int) + 1) ∧
                                      Exx Nat fun t' =>
                                        (I t' ∧ m t' < m t) ∧
                                          ((true = true ∧ NilNil ∧ (0 : Nat) = (0 : Nat)) ∧
                                              (true = true ∧ NilNil ∧ (0 : Nat) = (0 : Nat)) ∧ Tr 2 (Tr 1 ((↑t_1.fst : Int) + 1 = (↑t' : Int)) ∧ Tr 14 True)) ∧
                                            true = true ∧
                                              ((25 : TypeId) = (25 : TypeId) ∧
                                                  (1 : Nat) = (1 : Nat) ∧
                                                    (16 : Nat) = (16 : Nat) ∧ (∀ (i : Nat), i < 16 → [AV.int IntKind.u32 (0 : Int)] = [AV.int IntKind.u32 (0 : Int)]) ∧ True) ∧
                                                ((25 : TypeId) = (25 : TypeId) ∧
                                                    (1 : Nat) = (1 : Nat) ∧
                                                      (16 : Nat) = (16 : Nat) ∧
                                                        (∀ (i : Nat),
                                                            i < 16 →
                                                              (if i = (↑t_1.fst : Int).toNat then [AV.int IntKind.u32 (↑(stepsN t_1.snd t_1.fst) : Int)]
                                                                else [AV.int IntKind.u32 (↑(if i < t_1.fst then tableN i else 0) : Int)]) =
                                                                [AV.int IntKind.u32 (↑(if i < t' then tableN i else 0) : Int)]) ∧
                                                          True) ∧
                                                  True))
                (Exx Unit fun y =>
                  ((((1 : Nat) = (1 : Nat) ∧
                          (16 : Nat) = (16 : Nat) ∧
                            (∀ (i : Nat), i < 16 → [AV.int IntKind.u32 (↑(if i < t then tableN i else 0) : Int)] = [AV.int IntKind.u32 (↑(tableN i) : Int)]) ∧ True) ∧
                        True) ∧
                      true = true ∧ True) ∧
                    True)) =
    (fnVC tb [(51, specOf stepC)] Try.f20 tableC (fun x => { loops := [(3, tabL1), (7, tabL2)] }) (fun _ => none)) := by kernel_rfl

theorem table_ok : SpecOk Try.prog 20 (specOf tableC) := by
  refine specOk mixed tb_ok (SPok.cons step_ok SPok.nil) Try.func20 (by decide) (pureC_ok fun _ => ⟨fun _ _ => ⟨rfl, trivial⟩, trivial⟩) (an := (fun x => { loops := [(3, tabL1), (7, tabL2)] })) (σ := (fun _ => none)) ?_
  rw [← tableV]
  simp only [Exx, Tr_eq, true_and, and_true, exists_const, forall_const, implies_true, forall_eq, exists_eq, exists_eq', exists_eq_left, exists_eq_left', exists_eq_right, Prod.exists, Prod.forall, and_assoc, exists_and_left, BC_iff, Bool.not_eq_true', Bool.not_eq_false', decide_eq_true_eq, decide_eq_false_iff_not, I64, nat_cast_inj, Int.toNat_natCast, nats_iff, nats_iff', ints_iff, ints_iff', natss_iff, natss_iff', nilnil, litL_eq, str_inj, str_append, str_length, str_getD, str_take, lit1_iff, one_iff, two_iff, one_get, Nat.zero_add, Nat.sub_zero, Nat.reduceMul, Nat.reduceDiv, Nat.reduceAdd, Int.reduceToNat, Nat.not_lt_zero, if_false, if_true, Nat.le_refl, List.length_singleton, List.length_cons, List.length_nil, Bool.false_eq_true, not_true_eq_false, false_implies, not_false_eq_true, Prod.mk.injEq]
  refine ⟨fun i => i ≤ 16, ⟨0, by omega, rfl, fun j _ => rfl⟩, fun i => 16 - i, fun i hi => ⟨fun hl => ?_, fun hl => fun j hj => by rw [if_pos (by omega)]⟩⟩
  refine ⟨fun x => x.1 = i ∧ x.2 ≤ 4, ⟨i, 0, ⟨rfl, by simp⟩, rfl, wrap32 (by omega), rfl, rfl, fun j _ => rfl⟩, fun x => 4 - x.2, ?_⟩
  rintro i' k ⟨rfl, hk⟩
  simp only at *
  refine ⟨fun hl2 => ⟨stepsN_lt (by omega) k, by omega, by omega, i', k + 1, ⟨rfl, by omega⟩, by omega, rfl, rfl, rfl, by omega, fun _ _ => rfl⟩, fun hl2 => ⟨by omega, by omega, by omega, by omega, by omega, i' + 1, by omega, by omega, by omega, fun j hj => ?_⟩⟩
  have hk4 : k = 4 := by omega
  subst hk4
  by_cases hji : j = i'
  · subst hji
    rw [if_pos rfl, if_pos (by omega)]; rfl
  · rw [if_neg hji]
    by_cases h3 : j < i'
    · rw [if_pos h3, if_pos (by omega)]
    · rw [if_neg h3, if_neg (by omega)]

theorem tmod16 (n : Nat) : (n : Int).tmod 16 = ((n % 16 : Nat) : Int) := rfl
theorem tdiv16 (n : Nat) : (n : Int).tdiv 16 = ((n / 16 : Nat) : Int) := rfl
theorem xor_nat {a b : Nat} (ha : a < 4294967296) (hb : b < 4294967296) : bits .xor .u32 (a : Int) (b : Int) = ((a ^^^ b : Nat) : Int) := bits_xor (k := .u32) rfl ha hb

-- callees: 
theorem takeV : (∀ (x : (Nat → Nat) × Nat × Nat),
  (∀ (i : Nat), i < 16 → x.fst i < 4294967296) ∧ x.snd.fst < 4294967296 ∧ x.snd.snd < 256 →
    ∀ (m : Int),
      m = IntKind.u32.wrap (↑x.snd.snd : Int) →
        ∀ (n : Int),
          n = bits BinOp.xor IntKind.u32 (↑x.snd.fst : Int) m →
            (16 : Int) ≠ (0 : Int) ∧
              ∀ (n_1 : Int),
                n_1 = IntKind.u32.wrap (n.tdiv 16) →
                  (16 : Int) ≠ (0 : Int) ∧
                    ∀ (n_2 : Int),
                      n_2 = n.tmod 16 →
                        (0 ≤ n_2 ∧ n_2 < (↑16 : Int)) ∧
                          n_2.toNat < 16 ∧
                            ∀ (n : Int),
                              n = bits BinOp.xor IntKind.u32 n_1 (↑(x.fst n_2.toNat) : Int) →
                                (16 : Int) ≠ (0 : Int) ∧
                                  ∀ (n_3 : Int),
                                    n_3 = IntKind.u32.wrap (n.tdiv 16) →
                                      (16 : Int) ≠ (0 : Int) ∧
                                        ∀ (n_4 : Int),
                                          n_4 = n.tmod 16 →
                                            (0 ≤ n_4 ∧ n_4 < (↑16 : Int)) ∧
                                              n_4.toNat < 16 ∧
                                                ∀ (n : Int),
                                                  n = bits BinOp.xor IntKind.u32 n_3 (↑(x.fst n_4.toNat) : Int) →
                                                    Exx Unit fun y => ((Tr 1 (n = (↑(takeN x.fst x.snd.fst x.snd.snd) : Int)) ∧ True) ∧ true = true ∧ True) ∧ True) =
    (fnVC tb [] Try.f30 takeC (fun _ => {}) (fun _ => none)) := by kernel_rfl

theorem take_ok : SpecOk Try.prog 30 (specOf takeC) := by
  refine specOk mixed tb_ok SPok.nil Try.func30 (by decide) (pureC_ok fun _ => rfl) (an := (fun _ => {})) (σ := (fun _ => none)) ?_
  rw [← takeV]
  simp only [Exx, Tr_eq, forall_eq, true_and, and_true, exists_const, forall_const, cast_inj]
  rintro ⟨f, x, c⟩ ⟨hf, hx, hc⟩
  simp only at *
  have h1 := xor32 hx (show c < 4294967296 by omega)
  have h2 := halfN_lt hf h1
  rw [wrap32 (by omega), xor_nat hx (by omega), tmod16, tdiv16, wrap32 (by omega), Int.toNat_natCast, xor_nat (by omega) (hf _ (by omega))]
  rw [show (x ^^^ c) / 16 ^^^ f ((x ^^^ c) % 16) = halfN f (x ^^^ c) from rfl, tmod16, tdiv16, wrap32 (by omega), Int.toNat_natCast, xor_nat (by omega) (hf _ (by omega))]
  simp only [cast_inj]
  exact ⟨by omega, by omega, ⟨by omega, by omega⟩, by omega, by omega, by omega, ⟨by omega, by omega⟩, by omega, rfl⟩

def ptrTau (args : List AV) (H : AH) : List Nat := match args with
  | .ptr p _ _ :: _ => [p]
  | _ => []
def tabI (f : Nat → Nat) : Sx.Item := .cells 25 [.arr 1 16 (fun i => [u32 (f i)])]
def Bytes (l : List Nat) : Prop := (∀ x ∈ l, x < 256) ∧ l.length ≤ 1000000
def registerC : Ctr where
  X := (Nat → Nat) × Nat × List Nat
  Y := Unit
  conv := true
  tau := ptrTau
  pre := fun x => (∀ i, i < 16 → x.1 i < 4294967296) ∧ x.2.1 < 4294967296 ∧ Bytes x.2.2
  args := fun x => [.ptr 0 [] 0, u32 x.2.1, octs x.2.2]
  heap := fun x => [tabI x.1]
  Q := fun _ _ => True
  res := fun x _ => u32 (regN x.1 x.2.1 x.2.2)
  its := fun x _ => [tabI x.1]
  new := fun _ _ => []
def regL (x : (Nat → Nat) × Nat × List Nat) : LA := { T := Nat, F := fun i => frm 39 [(0, .ptr 0 [] 0), (1, u32 (regN x.1 x.2.1 (x.2.2.take i))), (9, octs x.2.2), (10, .int .i64 (x.2.2.length : Int)), (11, .int .i64 (i : Int))], H := fun _ => [tabI x.1, .fence] }

theorem registerC_ok : CtrOk registerC := ⟨fun _ _ _ _ => rfl, fun _ _ _ _ => ⟨rfl, rfl⟩, fun _ _ _ _ _ => ⟨⟨⟨⟨fun _ _ => ⟨rfl, trivial⟩, trivial⟩, trivial⟩, trivial⟩, rfl⟩⟩
theorem bytes_get {l : List Nat} (h : Bytes l) (i : Nat) : l.getD i 0 < 256 := by
  rw [List.getD_eq_getElem?_getD]
  cases e : l[i]? with
  | none => simp
  | some x => exact h.1 x (List.mem_of_getElem? e)
theorem regN_lt {f : Nat → Nat} (hf : ∀ i, i < 16 → f i < 4294967296) : ∀ {l : List Nat} {x : Nat}, (∀ c ∈ l, c < 256) → x < 4294967296 → regN f x l < 4294967296
  | [], x, _, hx => hx
  | c :: r, x, hl, hx => regN_lt hf (l := r) (fun c hc => hl c (List.mem_cons_of_mem _ hc)) (takeN_lt hf hx (hl c List.mem_cons_self))
theorem regN_snoc (f : Nat → Nat) (x : Nat) {l : List Nat} {i : Nat} (hi : i < l.length) : regN f x (l.take (i + 1)) = takeN f (regN f x (l.take i)) (l.getD i 0) := by
  rw [List.take_add_one, List.getElem?_eq_getElem hi, List.getD_eq_getElem?_getD, List.getElem?_eq_getElem hi]
  simp only [regN, Option.toList, List.foldl_append, List.foldl, Option.getD]

-- callees: 
theorem registerV : (∀ (x : (Nat → Nat) × Nat × List Nat),
  (∀ (i : Nat), i < 16 → x.fst i < 4294967296) ∧ x.snd.fst < 4294967296 ∧ Bytes x.snd.snd →
    Exx (Nat → Prop) fun I =>
      Exx (Nat → Nat) fun m =>
        (Exx Nat fun t =>
            I t ∧
              ((true = true ∧ NilNil ∧ (0 : Nat) = (0 : Nat)) ∧
                  Tr 1 ((↑x.snd.fst : Int) = (↑(regN x.fst x.snd.fst (List.take t x.snd.snd)) : Int)) ∧
                    Tr 7
                      (((1 : Nat) = (1 : Nat) ∧
                          x.snd.snd.length = x.snd.snd.length ∧
                            ∀ (i : Nat), i < x.snd.snd.length → [AV.int IntKind.u8 (↑(x.snd.snd.getD i 0) : Int)] = [AV.int IntKind.u8 (↑(x.snd.snd.getD i 0) : Int)]) ∧
                        Tr 1 ((↑x.snd.snd.length : Int) = (↑x.snd.snd.length : Int)) ∧ Tr 1 (0 = (↑t : Int)) ∧ Tr 27 True)) ∧
                ((25 : TypeId) = (25 : TypeId) ∧
                    (1 : Nat) = (1 : Nat) ∧
                      (16 : Nat) = (16 : Nat) ∧ (∀ (i : Nat), i < 16 → [AV.int IntKind.u32 (↑(x.fst i) : Int)] = [AV.int IntKind.u32 (↑(x.fst i) : Int)]) ∧ True) ∧
                  true = true ∧ True) ∧
          ∀ (t : Nat),
            I t →
              BC (decide ((↑t : Int) < (↑x.snd.snd.length : Int)))
                ((0 ≤ (↑t : Int) ∧ (↑t : Int) < (↑x.snd.snd.length : Int)) ∧
                  ∀ (m_1 : Int),
                    m_1 = IntKind.u32.wrap (↑(x.snd.snd.getD (↑t : Int).toNat 0) : Int) →
                      ∀ (n : Int),
                        n = bits BinOp.xor IntKind.u32 (↑(regN x.fst x.snd.fst (List.take t x.snd.snd)) : Int) m_1 →
                          (0 : Int) ≤ (4 : Int) ∧
                            ∀ (n_1 : Int),
                              n_1 = n.fdiv (2 ^ min (Int.toNat 4) IntKind.u32.bits) →
                                ∀ (n_2 : Int),
                                  n_2 = bits BinOp.and IntKind.u32 n 15 →
                                    (0 ≤ n_2 ∧ n_2 < (↑16 : Int)) ∧
                                      n_2.toNat < 16 ∧
                                        ∀ (n : Int),
                                          n = bits BinOp.xor IntKind.u32 n_1 (↑(x.fst n_2.toNat) : Int) →
                                            (0 : Int) ≤ (4 : Int) ∧
                                              ∀ (n_3 : Int),
                                                n_3 = n.fdiv (2 ^ min (Int.toNat 4) IntKind.u32.bits) →
                                                  ∀ (n_4 : Int),
                                                    n_4 = bits BinOp.and IntKind.u32 n 15 →
                                                      (0 ≤ n_4 ∧ n_4 < (↑16 : Int)) ∧
                                                        n_4.toNat < 16 ∧
                                                          ∀ (n : Int),
                                                            n = bits BinOp.xor IntKind.u32 n_3 (↑(x.fst n_4.toNat) : Int) →
                                                              I64 ((↑t : Int) + 1) ∧
                                                                Exx Nat fun t' =>
                                                                  (I t' ∧ m t' < m t) ∧
                                                                    ((true = true ∧ NilNil ∧ (0 : Nat) = (0 : Nat)) ∧
                                                                        Tr 1 (n = (↑(regN x.fst x.snd.fst (List.take t' x.snd.snd)) : Int)) ∧
                                                                          Tr 7
                                                                            (((1 : Nat) = (1 : Nat) ∧
                                                                                x.snd.snd.length = x.snd.snd.length ∧
                                                                                  ∀ (i : Nat),
                                                                                    i < x.snd.snd.length →
                                                                                      [AV.int IntKind.u8 (↑(x.snd.snd.getD i 0) : Int)] =
                                                                                        [AV.int IntKind.u8 (↑(x.snd.snd.getD i 0) : Int)]) ∧
                                                                              Tr 1 ((↑x.snd.snd.length : Int) = (↑x.snd.snd.length : Int)) ∧
                                                                                Tr 1 ((↑t : Int) + 1 = (↑t' : Int)) ∧ Tr 27 True)) ∧
                                                                      ((25 : TypeId) = (25 : TypeId) ∧
                                                                          (1 : Nat) = (1 : Nat) ∧
                                                                            (16 : Nat) = (16 : Nat) ∧
                                                                              (∀ (i : Nat),
                                                                                  i < 16 → [AV.int IntKind.u32 (↑(x.fst i) : Int)] = [AV.int IntKind.u32 (↑(x.fst i) : Int)]) ∧
                                                                                True) ∧
                                                                        true = true ∧ True)
                (Exx Unit fun y =>
                  ((Tr 1 ((↑(regN x.fst x.snd.fst (List.take t x.snd.snd)) : Int) = (↑(regN x.fst x.snd.fst x.snd.snd) : Int)) ∧ True) ∧
                      ((25 : TypeId) = (25 : TypeId) ∧
                          (1 : Nat) = (1 : Nat) ∧
                            (16 : Nat) = (16 : Nat) ∧ (∀ (i : Nat), i < 16 → [AV.int IntKind.u32 (↑(x.fst i) : Int)] = [AV.int IntKind.u32 (↑(x.fst i) : Int)]) ∧ True) ∧
                        true = true ∧ True) ∧
                    True)) =
    (fnVC tb [] Try.f53 registerC (fun x => { loops := [(2, regL x)] }) (fun _ => none)) := by kernel_rfl

theorem register_ok : SpecOk Try.prog 53 (specOf registerC) := by
  refine specOk mixed tb_ok SPok.nil Try.func53 (by decide) registerC_ok (an := (fun x => { loops := [(2, regL x)] })) (σ := (fun _ => none)) ?_
  rw [← registerV]
  simp only [Exx, nilnil, Tr_eq, true_and, and_true, exists_const, forall_const, BC_iff, decide_eq_true_eq, decide_eq_false_iff_not, cast_inj, I64, implies_true]
  rintro ⟨f, x, l⟩ ⟨hf, hx, hl⟩
  simp only at *
  have hlen := hl.2
  have htl : ∀ i, ∀ c ∈ l.take i, c < 256 := fun i c hc => hl.1 c (List.mem_of_mem_take hc)
  refine ⟨fun i => i ≤ l.length, fun i => l.length - i, ⟨0, by omega, rfl, rfl⟩, fun i hi => ⟨fun hlt => ⟨by omega, ?_⟩, fun hge => ?_⟩⟩
  · have hr := regN_lt hf (htl i) hx
    have hc := bytes_get hl i
    have hs := regN_snoc f x (l := l) (i := i) (by omega)
    generalize regN f x (l.take i) = r at *
    generalize hcc : l.getD i 0 = c at *
    have h1 := xor32 hr (show c < 4294967296 by omega)
    have h2 := halfN_lt hf h1
    rintro m1 rfl n rfl
    have e1 : ((i : Int)).toNat = i := Int.toNat_natCast i
    rw [e1, hcc, wrap32 (by omega), xor_nat hr (by omega)]
    refine ⟨by omega, ?_⟩
    rintro n1 rfl n2 rfl
    rw [and_15 h1, shr_four, Int.toNat_natCast]
    refine ⟨⟨by omega, by omega⟩, by omega, ?_⟩
    rintro n rfl
    rw [xor_nat (by omega) (hf _ (by omega)), show (r ^^^ c) / 16 ^^^ f ((r ^^^ c) % 16) = halfN f (r ^^^ c) from rfl]
    refine ⟨by omega, ?_⟩
    rintro n3 rfl n4 rfl
    rw [and_15 h2, shr_four, Int.toNat_natCast]
    refine ⟨⟨by omega, by omega⟩, by omega, ?_⟩
    rintro n rfl
    rw [xor_nat (by omega) (hf _ (by omega))]
    refine ⟨by omega, i + 1, ⟨by omega, by simp only; omega⟩, ?_, by omega⟩
    rw [hs]; rfl
  · rw [show i = l.length by omega, List.take_length]

def ones : Nat := 4294967295
def octss (x : List (List Nat)) : AV := .ro 1 x.length (fun i => [octs (x.getD i [])])
def Bytess (x : List (List Nat)) : Prop := (∀ l ∈ x, Bytes l) ∧ x.length ≤ 1000
def accN (x : List (List Nat)) : Nat := x.foldl (regN tableN) ones
def sumN (x : List (List Nat)) : Nat := accN x ^^^ ones
def moreC : Ctr := pureC ((Nat → Nat) × Nat × List Nat) (fun x => (∀ i, i < 16 → x.1 i < 4294967296) ∧ x.2.1 < 4294967296 ∧ Bytes x.2.2) (fun x => [tabA x.1, u32 x.2.1, octs x.2.2]) (fun x => u32 (regN x.1 (x.2.1 ^^^ ones) x.2.2 ^^^ ones))
def sumC : Ctr := pureC (List (List Nat)) Bytess (fun x => [octss x]) (fun x => u32 (sumN x))
def sumFitsC : Ctr := pureC (Nat × List (List Nat)) (fun x => x.1 < 4294967296 ∧ Bytess x.2) (fun x => [u32 x.1, octss x.2]) (fun x => .bool (decide (sumN x.2 = x.1)))
def sumL (x : List (List Nat)) : LA := { T := Nat, F := fun i => frm 20 [(3, .ptr 1 [] 0), (4, u32 (accN (x.take i))), (8, octss x), (9, .int .i64 (x.length : Int)), (10, .int .i64 (i : Int))], H := fun _ => [.fence, tabI tableN] }
def refAcc (l : List Nat) : Nat := l.foldl (fun x c => stepsN 8 (x ^^^ c)) ones
def refSumC : Ctr := pureC (List Nat) Bytes (fun l => [octs l]) (fun l => u32 (ones - refAcc l))
def refSumL (l : List Nat) : LA := { T := Nat, F := fun i => frm 21 [(0, octs l), (3, u32 (refAcc (l.take i))), (4, .int .i64 (i : Int))], H := fun _ => [.fence] }
def crcAwakeC : Ctr := pureC Unit (fun _ => True) (fun _ => []) (fun _ => .bool true)


theorem xor_ones_lt {x : Nat} (h : x < 4294967296) : x ^^^ ones < 4294967296 := xor32 h (by decide)

-- callees: 53=register_ok
theorem moreV : (∀ (x : (Nat → Nat) × Nat × List Nat),
  (∀ (i : Nat), i < 16 → x.fst i < 4294967296) ∧ x.snd.fst < 4294967296 ∧ Bytes x.snd.snd →
    ∀ (n : Int),
      n = bits BinOp.xor IntKind.u32 (↑x.snd.fst : Int) 4294967295 →
        Exx ((Nat → Nat) × Nat × List Nat) fun x_1 =>
          (((true = true ∧ NilNil ∧ (0 : Nat) = (0 : Nat)) ∧
                Tr 1 (n = (↑x_1.snd.fst : Int)) ∧
                  (x.snd.snd.length = x_1.snd.snd.length ∧
                      ∀ (i : Nat), i < x_1.snd.snd.length → [AV.int IntKind.u8 (↑(x.snd.snd.getD i 0) : Int)] = [AV.int IntKind.u8 (↑(x_1.snd.snd.getD i 0) : Int)]) ∧
                    True) ∧
              true = true ∧
                ((25 : Nat) = (25 : TypeId) ∧
                    (1 : Nat) = (1 : Nat) ∧
                      (16 : Nat) = (16 : Nat) ∧ (∀ (i : Nat), i < 16 → [AV.int IntKind.u32 (↑(x.fst i) : Int)] = [AV.int IntKind.u32 (↑(x_1.fst i) : Int)]) ∧ True) ∧
                  True) ∧
            ((∀ (i : Nat), i < 16 → x_1.fst i < 4294967296) ∧ x_1.snd.fst < 4294967296 ∧ Bytes x_1.snd.snd) ∧
              ∀ (y : Unit),
                True →
                  ∀ (n : Int),
                    n = bits BinOp.xor IntKind.u32 (↑(regN x_1.fst x_1.snd.fst x_1.snd.snd) : Int) 4294967295 →
                      Exx Unit fun y => ((Tr 1 (n = (↑(regN x.fst (x.snd.fst ^^^ ones) x.snd.snd ^^^ ones) : Int)) ∧ True) ∧ true = true ∧ True) ∧ True) =
    (fnVC tb [(53, specOf registerC)] Try.f31 moreC (fun _ => {}) (fun _ => none)) := by kernel_rfl

theorem more_ok : SpecOk Try.prog 31 (specOf moreC) := by
  refine specOk mixed tb_ok (SPok.cons register_ok SPok.nil) Try.func31 (by decide) (pureC_ok fun _ => rfl) (an := (fun _ => {})) (σ := (fun _ => none)) ?_
  rw [← moreV]
  simp only [Exx, Tr_eq, true_and, and_true, exists_const, forall_const, implies_true, forall_eq, exists_eq, exists_eq', exists_eq_left, exists_eq_left', exists_eq_right, Prod.exists, Prod.forall, and_assoc, exists_and_left, BC_iff, Bool.not_eq_true', Bool.not_eq_false', decide_eq_true_eq, decide_eq_false_iff_not, I64, nat_cast_inj, Int.toNat_natCast, nats_iff, nats_iff', ints_iff, ints_iff', natss_iff, natss_iff', nilnil, litL_eq, str_inj, str_append, str_length, str_getD, str_take, lit1_iff, one_iff, two_iff, one_get, Nat.zero_add, Nat.sub_zero, Nat.reduceMul, Nat.reduceDiv, Nat.reduceAdd, Int.reduceToNat, Nat.not_lt_zero, if_false, if_true, Nat.le_refl, List.length_singleton, List.length_cons, List.length_nil, Bool.false_eq_true, not_true_eq_false, false_implies, not_false_eq_true, Prod.mk.injEq]
  intro f x l ⟨hf, hx, hl⟩
  refine ⟨f, x ^^^ ones, xor_ones hx, fun _ _ => rfl, hf, xor_ones_lt hx, hl, ?_⟩
  rw [xor_ones (regN_lt hf hl.1 (xor_ones_lt hx))]; rfl

theorem tableN_lt {i : Nat} (h : i < 16) : tableN i < 4294967296 := stepsN_lt (by omega) 4
theorem bytess_get {x : List (List Nat)} (h : Bytess x) (i : Nat) : Bytes (x.getD i []) := by
  rw [List.getD_eq_getElem?_getD]
  cases e : x[i]? with
  | none => exact ⟨fun c hc => (by cases hc), by simp⟩
  | some l => exact h.1 l (List.mem_of_getElem? e)
theorem foldl_take_snoc {α β : Type} (g : α → β → α) (a : α) {l : List β} {i : Nat} (d : β) (hi : i < l.length) : (l.take (i + 1)).foldl g a = g ((l.take i).foldl g a) (l.getD i d) := by
  rw [List.take_add_one, List.getElem?_eq_getElem hi, List.getD_eq_getElem?_getD, List.getElem?_eq_getElem hi]
  simp only [Option.toList, List.foldl_append, List.foldl, Option.getD]
theorem acc_lt : ∀ {x : List (List Nat)} {a : Nat}, (∀ l ∈ x, ∀ c ∈ l, c < 256) → a < 4294967296 → x.foldl (regN tableN) a < 4294967296
  | [], a, _, ha => ha
  | l :: r, a, h, ha => acc_lt (x := r) (fun l hl => h l (List.mem_cons_of_mem _ hl)) (regN_lt (fun _ hi => tableN_lt hi) (h l List.mem_cons_self) ha)
theorem accN_lt {x : List (List Nat)} (h : ∀ l ∈ x, ∀ c ∈ l, c < 256) : accN x < 4294967296 := acc_lt h (by decide)
theorem accN_take_lt {x : List (List Nat)} (h : Bytess x) (i : Nat) : accN (x.take i) < 4294967296 := accN_lt fun l hl => (h.1 l (List.mem_of_mem_take hl)).1

-- callees: 20=table_ok 53=register_ok
theorem sumV : (∀ (x : List (List Nat)),
  Bytess x →
    Exx Unit fun x_1 =>
      Tr 1 (true = true ∧ True) ∧
        Tr 1
          (∀ (y : Unit),
            True →
              Exx (Nat → Prop) fun I =>
                Exx (Nat → Nat) fun m =>
                  (Exx Nat fun t =>
                      I t ∧
                        Tr 3
                            ((true = true ∧ NilNil ∧ (0 : Nat) = (0 : Nat)) ∧
                              Tr 1 (4294967295 = (↑(accN (List.take t x)) : Int)) ∧
                                Tr 3
                                  (((1 : Nat) = (1 : Nat) ∧
                                      x.length = x.length ∧
                                        ∀ (i : Nat),
                                          i < x.length →
                                            [AV.ro 1 (x.getD i []).length fun i_1 => [AV.int IntKind.u8 (↑((x.getD i []).getD i_1 0) : Int)]] =
                                              [AV.ro 1 (x.getD i []).length fun i_1 => [AV.int IntKind.u8 (↑((x.getD i []).getD i_1 0) : Int)]]) ∧
                                    Tr 1 ((↑x.length : Int) = (↑x.length : Int)) ∧ Tr 1 (0 = (↑t : Int)) ∧ Tr 9 True)) ∧
                          true = true ∧
                            ((25 : Nat) = (25 : TypeId) ∧
                                (1 : Nat) = (1 : Nat) ∧
                                  (16 : Nat) = (16 : Nat) ∧ (∀ (i : Nat), i < 16 → [AV.int IntKind.u32 (↑(tableN i) : Int)] = [AV.int IntKind.u32 (↑(tableN i) : Int)]) ∧ True) ∧
                              True) ∧
                    ∀ (t : Nat),
                      I t →
                        BC (decide ((↑t : Int) < (↑x.length : Int)))
                          ((0 ≤ (↑t : Int) ∧ (↑t : Int) < (↑x.length : Int)) ∧
                            Exx ((Nat → Nat) × Nat × List Nat) fun x_2 =>
                              (((true = true ∧ NilNil ∧ (0 : Nat) = (0 : Nat)) ∧
                                    Tr 1 ((↑(accN (List.take t x)) : Int) = (↑x_2.snd.fst : Int)) ∧
                                      ((x.getD (↑t : Int).toNat []).length = x_2.snd.snd.length ∧
                                          ∀ (i : Nat),
                                            i < x_2.snd.snd.length →
                                              [AV.int IntKind.u8 (↑((x.getD (↑t : Int).toNat []).getD i 0) : Int)] = [AV.int IntKind.u8 (↑(x_2.snd.snd.getD i 0) : Int)]) ∧
                                        True) ∧
                                  true = true ∧
                                    ((25 : TypeId) = (25 : TypeId) ∧
                                        (1 : Nat) = (1 : Nat) ∧
                                          (16 : Nat) = (16 : Nat) ∧
                                            (∀ (i : Nat), i < 16 → [AV.int IntKind.u32 (↑(tableN i) : Int)] = [AV.int IntKind.u32 (↑(x_2.fst i) : Int)]) ∧ True) ∧
                                      True) ∧
                                ((∀ (i : Nat), i < 16 → x_2.fst i < 4294967296) ∧ x_2.snd.fst < 4294967296 ∧ Bytes x_2.snd.snd) ∧
                                  ∀ (y : Unit),
                                    True →
                                      I64 ((↑t : Int) + 1) ∧
                                        Exx Nat fun t' =>
                                          (I t' ∧ m t' < m t) ∧
                                            Tr 3
                                                ((true = true ∧ NilNil ∧ (0 : Nat) = (0 : Nat)) ∧
                                                  Tr 1 ((↑(regN x_2.fst x_2.snd.fst x_2.snd.snd) : Int) = (↑(accN (List.take t' x)) : Int)) ∧
                                                    Tr 3
                                                      (((1 : Nat) = (1 : Nat) ∧
                                                          x.length = x.length ∧
                                                            ∀ (i : Nat),
                                                              i < x.length →
                                                                [AV.ro 1 (x.getD i []).length fun i_1 => [AV.int IntKind.u8 (↑((x.getD i []).getD i_1 0) : Int)]] =
                                                                  [AV.ro 1 (x.getD i []).length fun i_1 => [AV.int IntKind.u8 (↑((x.getD i []).getD i_1 0) : Int)]]) ∧
                                                        Tr 1 ((↑x.length : Int) = (↑x.length : Int)) ∧ Tr 1 ((↑t : Int) + 1 = (↑t' : Int)) ∧ Tr 9 True)) ∧
                                              true = true ∧
                                                ((25 : TypeId) = (25 : TypeId) ∧
                                                    (1 : Nat) = (1 : Nat) ∧
                                                      (16 : Nat) = (16 : Nat) ∧
                                                        (∀ (i : Nat), i < 16 → [AV.int IntKind.u32 (↑(x_2.fst i) : Int)] = [AV.int IntKind.u32 (↑(tableN i) : Int)]) ∧ True) ∧
                                                  True)
                          (∀ (n : Int),
                            n = bits BinOp.xor IntKind.u32 (↑(accN (List.take t x)) : Int) 4294967295 →
                              Exx Unit fun y => ((Tr 1 (n = (↑(sumN x) : Int)) ∧ True) ∧ true = true ∧ True) ∧ True))) =
    (fnVC tb [(20, specOf tableC), (53, specOf registerC)] Try.f22 sumC (fun x => { loops := [(3, sumL x)] }) (fun _ => none)) := by kernel_rfl

theorem sum_ok : SpecOk Try.prog 22 (specOf sumC) := by
  refine specOk mixed tb_ok (SPok.cons table_ok (SPok.cons register_ok SPok.nil)) Try.func22 (by decide) (pureC_ok fun _ => rfl) (an := (fun x => { loops := [(3, sumL x)] })) (σ := (fun _ => none)) ?_
  rw [← sumV]
  simp only [Exx, Tr_eq, true_and, and_true, exists_const, forall_const, implies_true, forall_eq, exists_eq, exists_eq', exists_eq_left, exists_eq_left', exists_eq_right, Prod.exists, Prod.forall, and_assoc, exists_and_left, BC_iff, Bool.not_eq_true', Bool.not_eq_false', decide_eq_true_eq, decide_eq_false_iff_not, I64, nat_cast_inj, Int.toNat_natCast, nats_iff, nats_iff', ints_iff, ints_iff', natss_iff, natss_iff', nilnil, litL_eq, str_inj, str_append, str_length, str_getD, str_take, lit1_iff, one_iff, two_iff, one_get, Nat.zero_add, Nat.sub_zero, Nat.reduceMul, Nat.reduceDiv, Nat.reduceAdd, Int.reduceToNat, Nat.not_lt_zero, if_false, if_true, Nat.le_refl, List.length_singleton, List.length_cons, List.length_nil, Bool.false_eq_true, not_true_eq_false, false_implies, not_false_eq_true, Prod.mk.injEq]
  intro x hx
  have hlen := hx.2
  refine ⟨fun i => i ≤ x.length, ⟨0, by omega, rfl, rfl⟩, fun i => x.length - i, fun i hi => ⟨fun hlt => ⟨by omega, by omega, tableN, fun _ _ => rfl, fun _ h => tableN_lt h, accN_take_lt hx i, bytess_get hx i, by omega, by omega, i + 1, by omega, by simp only; omega, ?_, by omega, fun _ _ => rfl⟩, fun hge => ?_⟩⟩
  · exact (foldl_take_snoc (regN tableN) ones [] (by omega)).symm
  · rw [show i = x.length by omega, List.take_length, xor_ones (accN_lt fun l hl => (hx.1 l hl).1)]
    rfl

theorem refAcc_lt : ∀ {l : List Nat} {a : Nat}, (∀ c ∈ l, c < 256) → a < 4294967296 → l.foldl (fun x c => stepsN 8 (x ^^^ c)) a < 4294967296
  | [], a, _, ha => ha
  | c :: r, a, h, ha => refAcc_lt (l := r) (fun l hl => h l (List.mem_cons_of_mem _ hl)) (stepsN_lt (xor32 ha (by have := h c List.mem_cons_self; omega)) 8)

-- callees: 21=steps_ok
theorem refSumV : (∀ (x : List Nat),
  Bytes x →
    Exx (Nat → Prop) fun I =>
      Exx (Nat → Nat) fun m =>
        (Exx Nat fun t =>
            I t ∧
              (((1 : Nat) = (1 : Nat) ∧ x.length = x.length ∧ ∀ (i : Nat), i < x.length → [AV.int IntKind.u8 (↑(x.getD i 0) : Int)] = [AV.int IntKind.u8 (↑(x.getD i 0) : Int)]) ∧
                  Tr 2 (Tr 1 (4294967295 = (↑(refAcc (List.take t x)) : Int)) ∧ Tr 1 (0 = (↑t : Int)) ∧ Tr 16 True)) ∧
                true = true ∧ True) ∧
          ∀ (t : Nat),
            I t →
              BC (decide ((↑t : Int) < (↑x.length : Int)))
                ((0 ≤ (↑t : Int) ∧ (↑t : Int) < (↑x.length : Int)) ∧
                  ∀ (m_1 : Int),
                    m_1 = IntKind.u32.wrap (↑(x.getD (↑t : Int).toNat 0) : Int) →
                      ∀ (n : Int),
                        n = bits BinOp.xor IntKind.u32 (↑(refAcc (List.take t x)) : Int) m_1 →
                          Exx (Nat × Nat) fun x_1 =>
                            ((Tr 1 (n = (↑x_1.fst : Int)) ∧ Tr 1 (8 = (↑x_1.snd : Int)) ∧ True) ∧ true = true ∧ True) ∧
                              (x_1.fst < 4294967296 ∧ x_1.snd ≤ 1000) ∧
                                ∀ (y : Unit),
                                  True →
                                    I64 ((↑t : Int) + 1) ∧
                                      Exx Nat fun t' =>
                                        (I t' ∧ m t' < m t) ∧
                                          (((1 : Nat) = (1 : Nat) ∧
                                                x.length = x.length ∧
                                                  ∀ (i : Nat), i < x.length → [AV.int IntKind.u8 (↑(x.getD i 0) : Int)] = [AV.int IntKind.u8 (↑(x.getD i 0) : Int)]) ∧
                                              Tr 2
                                                (Tr 1 ((↑(stepsN x_1.snd x_1.fst) : Int) = (↑(refAcc (List.take t' x)) : Int)) ∧
                                                  Tr 1 ((↑t : Int) + 1 = (↑t' : Int)) ∧ Tr 16 True)) ∧
                                            true = true ∧ True)
                (∀ (n : Int),
                  n = IntKind.u32.wrap (4294967295 - (↑(refAcc (List.take t x)) : Int)) →
                    Exx Unit fun y => ((Tr 1 (n = (↑(ones - refAcc x) : Int)) ∧ True) ∧ true = true ∧ True) ∧ True)) =
    (fnVC tb [(21, specOf stepsC)] Try.f23 refSumC (fun x => { loops := [(3, refSumL x)] }) (fun _ => none)) := by kernel_rfl

theorem refSum_ok : SpecOk Try.prog 23 (specOf refSumC) := by
  refine specOk mixed tb_ok (SPok.cons steps_ok SPok.nil) Try.func23 (by decide) (pureC_ok fun _ => rfl) (an := (fun x => { loops := [(3, refSumL x)] })) (σ := (fun _ => none)) ?_
  rw [← refSumV]
  simp only [Exx, Tr_eq, true_and, and_true, exists_const, forall_const, implies_true, forall_eq, exists_eq, exists_eq', exists_eq_left, exists_eq_left', exists_eq_right, Prod.exists, Prod.forall, and_assoc, exists_and_left, BC_iff, Bool.not_eq_true', Bool.not_eq_false', decide_eq_true_eq, decide_eq_false_iff_not, I64, nat_cast_inj, Int.toNat_natCast, nats_iff, nats_iff', ints_iff, ints_iff', natss_iff, natss_iff', nilnil, litL_eq, str_inj, str_append, str_length, str_getD, str_take, lit1_iff, one_iff, two_iff, one_get, Nat.zero_add, Nat.sub_zero, Nat.reduceMul, Nat.reduceDiv, Nat.reduceAdd, Int.reduceToNat, Nat.not_lt_zero, if_false, if_true, Nat.le_refl, List.length_singleton, List.length_cons, List.length_nil, Bool.false_eq_true, not_true_eq_false, false_implies, not_false_eq_true, Prod.mk.injEq]
  intro l hl
  have hlen := hl.2
  refine ⟨fun i => i ≤ l.length, ⟨0, by omega, rfl, rfl⟩, fun i => l.length - i, fun i hi => ⟨fun hlt => ⟨by omega, by omega, ?_⟩, fun hge => ?_⟩⟩
  · have hc := bytes_get hl i
    have hr : refAcc (l.take i) < 4294967296 := refAcc_lt (fun c hc => hl.1 c (List.mem_of_mem_take hc)) (by decide)
    rw [wrap32 (by omega), xor_nat hr (by omega)]
    refine ⟨refAcc (l.take i) ^^^ l.getD i 0, rfl, 8, rfl, xor32 hr (by omega), by omega, by omega, by omega, i + 1, by omega, by simp only; omega, ?_, by omega⟩
    exact (foldl_take_snoc (fun x c => stepsN 8 (x ^^^ c)) ones 0 (by omega)).symm
  · rw [show i = l.length by omega, List.take_length]
    have hr : refAcc l < 4294967296 := refAcc_lt hl.1 (by decide)
    have e : (4294967295 : Int) - ((refAcc l : Nat) : Int) = ((ones - refAcc l : Nat) : Int) := by unfold ones; omega
    rw [e, wrap32 (by unfold ones; omega)]

-- callees: 22=sum_ok
theorem sumFitsV : (∀ (x : Nat × List (List Nat)),
  x.fst < 4294967296 ∧ Bytess x.snd →
    Exx (List (List Nat)) fun x_1 =>
      (((x.snd.length = x_1.length ∧
              ∀ (i : Nat),
                i < x_1.length →
                  [AV.ro 1 (x.snd.getD i []).length fun i_1 => [AV.int IntKind.u8 (↑((x.snd.getD i []).getD i_1 0) : Int)]] =
                    [AV.ro 1 (x_1.getD i []).length fun i_1 => [AV.int IntKind.u8 (↑((x_1.getD i []).getD i_1 0) : Int)]]) ∧
            True) ∧
          true = true ∧ True) ∧
        Bytess x_1 ∧ ∀ (y : Unit), True → Exx Unit fun y => ((decide ((↑(sumN x_1) : Int) = (↑x.fst : Int)) = decide (sumN x.snd = x.fst) ∧ True) ∧ true = true ∧ True) ∧ True) =
    (fnVC tb [(22, specOf sumC)] Try.f24 sumFitsC (fun _ => {}) (fun _ => none)) := by kernel_rfl

theorem sumFits_ok : SpecOk Try.prog 24 (specOf sumFitsC) := by
  refine specOk mixed tb_ok (SPok.cons sum_ok SPok.nil) Try.func24 (by decide) (pureC_ok fun _ => rfl) (an := (fun _ => {})) (σ := (fun _ => none)) ?_
  rw [← sumFitsV]
  simp only [Exx, Tr_eq, true_and, and_true, exists_const, forall_const, implies_true, forall_eq, exists_eq, exists_eq', exists_eq_left, exists_eq_left', exists_eq_right, Prod.exists, Prod.forall, and_assoc, exists_and_left, BC_iff, Bool.not_eq_true', Bool.not_eq_false', decide_eq_true_eq, decide_eq_false_iff_not, I64, nat_cast_inj, Int.toNat_natCast, nats_iff, nats_iff', ints_iff, ints_iff', natss_iff, natss_iff', nilnil, litL_eq, str_inj, str_append, str_length, str_getD, str_take, lit1_iff, one_iff, two_iff, one_get, Nat.zero_add, Nat.sub_zero, Nat.reduceMul, Nat.reduceDiv, Nat.reduceAdd, Int.reduceToNat, Nat.not_lt_zero, if_false, if_true, Nat.le_refl, List.length_singleton, List.length_cons, List.length_nil, Bool.false_eq_true, not_true_eq_false, false_implies, not_false_eq_true, Prod.mk.injEq]
  exact fun _ _ h => h.2

-- callees: 22=sum_ok
theorem crcAwakeV : (∀ (x : Unit),
  True →
    (9 : Nat) ≠ (0 : Nat) ∧
      Exx (List (List Nat)) fun x =>
        ((((1 : Nat) = (1 : Nat) ∧
                1 = x.length ∧
                  (1 : Nat) ≤ [AV.sl [Item.fence].length [] (0 : Nat) (1 : Nat) (0 : Nat) (9 : Nat) (9 : Nat)].length ∧
                    ((0 : Nat) + (9 : Nat) ≤ (9 : Nat) ∧
                        9 = (x.getD 0 []).length ∧
                          ∀ (j : Nat),
                            j < (x.getD 0 []).length →
                              (if 0 + j = 8 * 1 / 1 then [AV.int IntKind.u8 57]
                                else
                                  if 0 + j = 7 * 1 / 1 then [AV.int IntKind.u8 56]
                                  else
                                    if 0 + j = 6 * 1 / 1 then [AV.int IntKind.u8 55]
                                    else
                                      if 0 + j = 5 * 1 / 1 then [AV.int IntKind.u8 54]
                                      else
                                        if 0 + j = 4 * 1 / 1 then [AV.int IntKind.u8 53]
                                        else
                                          if 0 + j = 3 * 1 / 1 then [AV.int IntKind.u8 52]
                                          else
                                            if 0 + j = 2 * 1 / 1 then [AV.int IntKind.u8 51]
                                            else
                                              if 0 + j = 1 * 1 / 1 then [AV.int IntKind.u8 50] else if 0 + j = 0 * 1 / 1 then [AV.int IntKind.u8 49] else [AV.int IntKind.u8 0]) =
                                [AV.int IntKind.u8 (↑((x.getD 0 []).getD j 0) : Int)]) ∧
                      True) ∧
              True) ∧
            true = true ∧ True) ∧
          Bytess x ∧ ∀ (y : Unit), True → Exx Unit fun y => ((decide ((↑(sumN x) : Int) = 3808858755) = true ∧ True) ∧ true = true ∧ True) ∧ True) =
    (fnVC tb [(22, specOf sumC)] Try.f18 crcAwakeC (fun _ => {}) (fun _ => none)) := by kernel_rfl

theorem crcAwake_ok : SpecOk Try.prog 18 (specOf crcAwakeC) := by
  refine specOk mixed tb_ok (SPok.cons sum_ok SPok.nil) Try.func18 (by decide) (pureC_ok fun _ => rfl) (an := (fun _ => {})) (σ := (fun _ => none)) ?_
  rw [← crcAwakeV]
  simp only [Exx, Tr_eq, true_and, and_true, exists_const, forall_const, implies_true, forall_eq, exists_eq, exists_eq', exists_eq_left, exists_eq_left', exists_eq_right, Prod.exists, Prod.forall, and_assoc, exists_and_left, BC_iff, Bool.not_eq_true', Bool.not_eq_false', decide_eq_true_eq, decide_eq_false_iff_not, I64, nat_cast_inj, Int.toNat_natCast, nats_iff, nats_iff', ints_iff, ints_iff', natss_iff, natss_iff', nilnil, litL_eq, str_inj, str_append, str_length, str_getD, str_take, lit1_iff, one_iff, two_iff, one_get, Nat.zero_add, Nat.sub_zero, Nat.reduceMul, Nat.reduceDiv, Nat.reduceAdd, Int.reduceToNat, Nat.not_lt_zero, if_false, if_true, Nat.le_refl, List.length_singleton, List.length_cons, List.length_nil, Bool.false_eq_true, not_true_eq_false, false_implies, not_false_eq_true, Prod.mk.injEq]
  have hb : Bytess [[49, 50, 51, 52, 53, 54, 55, 56, 57]] := ⟨fun l hl => by simp at hl; subst hl; exact ⟨by decide, by decide⟩, by decide⟩
  have hs : decide (((sumN [[49, 50, 51, 52, 53, 54, 55, 56, 57]] : Nat) : Int) = 3808858755) = true := by kernel_rfl
  refine ⟨by decide, [[49, 50, 51, 52, 53, 54, 55, 56, 57]], rfl, rfl, fun j hj => ?_, hb, of_decide_eq_true hs⟩
  have hj' : j < 9 := hj
  have : j = 0 ∨ j = 1 ∨ j = 2 ∨ j = 3 ∨ j = 4 ∨ j = 5 ∨ j = 6 ∨ j = 7 ∨ j = 8 := by omega
  rcases this with rfl | rfl | rfl | rfl | rfl | rfl | rfl | rfl | rfl <;> rfl

end Yard
