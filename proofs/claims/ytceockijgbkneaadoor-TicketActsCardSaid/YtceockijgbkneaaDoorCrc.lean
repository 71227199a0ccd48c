import Derived.Test.YtceockijgbkneaaDoorRef01
import Derived.Test.YtceockijgbkneaaDoorCrcMath

namespace Yard
open Go Go.Sx Go.Proofs
set_option linter.unusedVariables false
set_option linter.unusedSimpArgs false
set_option maxRecDepth 4000

def tableN (i : Nat) : Nat := stepsN 4 i
def u32 (n : Nat) : AV := .int .u32 (n : Int)
def octs (l : List Nat) : AV := .ro 1 l.length (fun i => [.int .u8 ((l.getD i 0 : Nat) : Int)])
def tabA (f : Nat → Nat) : AV := .agg [.arr 1 16 (fun i => [u32 (f i)])]

def takeN (f : Nat → Nat) (x c : Nat) : Nat := halfN f (halfN f (x ^^^ c))
def regN (f : Nat → Nat) (x : Nat) (l : List Nat) : Nat := l.foldl (takeN f) x
theorem xor32 {a b : Nat} (ha : a < 4294967296) (hb : b < 4294967296) : a ^^^ b < 4294967296 := Nat.xor_lt_two_pow (n := 32) ha hb
theorem halfN_lt {f : Nat → Nat} (hf : ∀ i, i < 16 → f i < 4294967296) {x : Nat} (hx : x < 4294967296) : halfN f x < 4294967296 := xor32 (by omega) (hf _ (by omega))
theorem takeN_lt {f : Nat → Nat} (hf : ∀ i, i < 16 → f i < 4294967296) {x c : Nat} (hx : x < 4294967296) (hc : c < 256) : takeN f x c < 4294967296 := halfN_lt hf (halfN_lt hf (xor32 hx (by omega)))

theorem xor_poly {a : Nat} (h : a < 4294967296) : bits .xor .u32 (a : Int) 2197175160 = ((a ^^^ 2197175160 : Nat) : Int) := bits_xor (k := .u32) rfl (b := 2197175160) h (by decide)
theorem xor_ones {a : Nat} (h : a < 4294967296) : bits .xor .u32 (a : Int) 4294967295 = ((a ^^^ 4294967295 : Nat) : Int) := bits_xor (k := .u32) rfl (b := 4294967295) h (by decide)
theorem and_one {a : Nat} (h : a < 4294967296) : bits .and .u32 (a : Int) 1 = ((a % 2 : Nat) : Int) := by
  rw [show (1 : Int) = ((1 : Nat) : Int) from rfl, bits_and (k := .u32) rfl h (by decide), Nat.and_one_is_mod]
theorem and_15 {a : Nat} (h : a < 4294967296) : bits .and .u32 (a : Int) 15 = ((a % 16 : Nat) : Int) := by
  rw [show (15 : Int) = ((15 : Nat) : Int) from rfl, bits_and (k := .u32) rfl h (by decide), show 15 = 2 ^ 4 - 1 from rfl, Nat.and_two_pow_sub_one_eq_mod]
theorem shr_one (a : Nat) : (a : Int).fdiv (2 ^ min 1 IntKind.u32.bits) = ((a / 2 : Nat) : Int) := by
  show (a : Int).fdiv 2 = _
  rw [Int.fdiv_eq_ediv_of_nonneg _ (by decide)]; rfl
theorem shr_four (a : Nat) : (a : Int).fdiv (2 ^ min (Int.toNat 4) IntKind.u32.bits) = ((a / 16 : Nat) : Int) := by
  show (a : Int).fdiv 16 = _
  rw [Int.fdiv_eq_ediv_of_nonneg _ (by decide)]; rfl
theorem wrap32 {a : Nat} (h : a < 4294967296) : IntKind.u32.wrap (a : Int) = a := wrap_nat rfl h
theorem cast_inj {a b : Nat} : ((a : Int) = (b : Int)) ↔ a = b := Int.ofNat_inj

def stepC : Ctr := pureC Nat (fun x => x < 4294967296) (fun x => [u32 x]) (fun x => u32 (stepN x))
def stepsC : Ctr := pureC (Nat × Nat) (fun x => x.1 < 4294967296 ∧ x.2 ≤ 1000) (fun x => [u32 x.1, .int .i64 (x.2 : Int)]) (fun x => u32 (stepsN x.2 x.1))
def tableC : Ctr := pureC Unit (fun _ => True) (fun _ => []) (fun _ => tabA tableN)
def takeC : Ctr := pureC ((Nat → Nat) × Nat × Nat) (fun x => (∀ i, i < 16 → x.1 i < 4294967296) ∧ x.2.1 < 4294967296 ∧ x.2.2 < 256) (fun x => [tabA x.1, u32 x.2.1, .int .u8 (x.2.2 : Int)]) (fun x => u32 (takeN x.1 x.2.1 x.2.2))

theorem stepV : (∀ (x : Nat), x < 4294967296 → ∀ (n : Int), n = bits BinOp.and IntKind.u32 (↑x : Int) 1 → BC (decide (n = (1 : Int))) ((0 : Int) ≤ (1 : Int) ∧ ∀
 (n : Int), n = (↑x : Int).fdiv (2 ^ min (Int.toNat 1) IntKind.u32.bits) → ∀ (n_1 : Int), n_1 = bits BinOp.xor IntKind.u32 n 2197175160 → Exx Unit fun y => ((Tr
 1 (n_1 = (↑(stepN x) : Int)) ∧ True) ∧ true = true ∧ True) ∧ True) ((0 : Int) ≤ (1 : Int) ∧ ∀ (n : Int), n = (↑x : Int).fdiv (2 ^ min (Int.toNat 1)
 IntKind.u32.bits) → Exx Unit fun y => ((Tr 1 (n = (↑(stepN x) : Int)) ∧ True) ∧ true = true ∧ True) ∧ True)) = (fnVC tb [] Tryd.f90 stepC (fun _ => {}) (fun _ => none)) := by kernel_rfl 

theorem step_ok : SpecOk Tryd.prog 90 (specOf stepC) := by
  refine specOk mixed tb_ok SPok.nil Tryd.func90 (by decide) (pureC_ok fun _ => rfl) (an := (fun _ => {})) (σ := (fun _ => none)) ?_
  rw [← stepV]
  simp (maxSteps := 10000000) only [and_false, false_and, false_or, or_false, bOf_true, bOf_false, true_bOf, false_bOf, Exx, int_ite, merge_o, Tr_eq, true_and, and_true, exists_const, forall_const, implies_true, forall_eq, exists_eq, exists_eq', exists_eq_left, exists_eq_left', exists_eq_right, Prod.exists, Prod.forall, and_assoc, exists_and_left, BC_iff, Bool.not_eq_true', Bool.not_eq_false', decide_eq_true_eq, decide_eq_false_iff_not, I64, nat_cast_inj, Int.toNat_natCast, nats_iff, nats_iff', ints_iff, ints_iff', natss_iff, natss_iff', nilnil, litL_eq, str_inj, str_append, str_length, str_getD, str_take, lit1_iff, one_iff, two_iff, one_get, Nat.zero_add, Nat.sub_zero, Nat.reduceMul, Nat.reduceDiv, Nat.reduceAdd, Int.reduceToNat, Nat.not_lt_zero, if_false, if_true, Nat.le_refl, List.length_singleton, List.length_cons, List.length_nil, Bool.false_eq_true, not_true_eq_false, false_implies, not_false_eq_true, Prod.mk.injEq]
  intro x hx
  rw [and_one hx, shr_one, xor_poly (by omega), show (1 : Int) = ((1 : Nat) : Int) from rfl]
  simp only [cast_inj]
  exact ⟨fun h => ⟨by omega, by rw [stepN, if_pos h]⟩, fun h => ⟨by omega, by rw [stepN, if_neg h]⟩⟩

def step'C : Ctr := stepC

def stepsL (x : Nat × Nat) : LA := { T := Nat, F := fun k => frm 14 [(0, u32 (stepsN k x.1)), (1, .int .i64 (x.2 : Int)), (5, .int .i64 (k : Int))], H := fun _ => [.fence] }

def tabF (i : Nat) : Nat → List AV := fun j => [u32 (if j < i then tableN j else 0)]
def tabH (i : Nat) : AH := [.fence, .cells 158 [.arr 1 16 (fun _ => [.int .u32 0])], .cells 158 [.arr 1 16 (tabF i)]]
def tabL1 : LA := { T := Nat, F := fun i => frm 19 [(0, .ptr 1 [] 0), (1, .ptr 2 [] 0), (4, .int .i64 (i : Int))], H := tabH }
def tabL2 : LA := { T := Nat × Nat, F := fun x => frm 19 [(0, .ptr 1 [] 0), (1, .ptr 2 [] 0), (4, .int .i64 (x.1 : Int)), (2, .int .i64 (x.1 : Int)), (3, u32 (stepsN x.2 x.1)), (9, .int .i64 (x.2 : Int))], H := fun x => tabH x.1 }

theorem tableV : (∀ (x : Unit), True → Exx (Nat → Prop) fun I => Exx (Nat → Nat) fun m => (Exx Nat fun t => I t ∧ ((true = true ∧ NilNil ∧ (0 : Nat) = 0) ∧
 (true = true ∧ NilNil ∧ (0 : Nat) = 0) ∧ Tr 2 (Tr 1 ((0 : Int) = (↑t : Int)) ∧ Tr 14 True)) ∧ true = true ∧ ((158 : Nat) = (158 : TypeId) ∧ (1 : Nat) = 1 ∧ (16
 : Nat) = 16 ∧ (∀ (i : Nat), i < 16 → [AV.int .u32 (0 : Int)] = [AV.int .u32 (0 : Int)]) ∧ True) ∧ ((158 : Nat) = (158 : TypeId) ∧ (1 : Nat) = 1 ∧ (16 : Nat) =
 16 ∧ (∀ (i : Nat), i < 16 → [AV.int .u32 0] = [AV.int .u32 (↑(if i < t then tableN i else 0) : Int)]) ∧ True) ∧ True) ∧ ∀ (t : Nat), I t → BC (decide ((↑t :
 Int) < (16 : Int))) (∀ (m_1 : Int), m_1 = IntKind.u32.wrap (↑t : Int) → Exx (Nat × Nat → Prop) fun I_1 => Exx (Nat × Nat → Nat) fun m_2 => (Exx (Nat × Nat) fun
 t_1 => I_1 t_1 ∧ ((true = true ∧ NilNil ∧ (0 : Nat) = 0) ∧ (true = true ∧ NilNil ∧ (0 : Nat) = 0) ∧ Tr 1 ((↑t : Int) = (↑t_1.1 : Int)) ∧ Tr 1 (m_1 = (↑(stepsN
 t_1.2 t_1.1) : Int)) ∧ Tr 1 ((↑t : Int) = (↑t_1.1 : Int)) ∧ Tr 4 (Tr 1 ((0 : Int) = (↑t_1.2 : Int)) ∧ Tr 9 True)) ∧ true = true ∧ ((158 : TypeId) = 158 ∧ (1 :
 Nat) = 1 ∧ (16 : Nat) = 16 ∧ (∀ (i : Nat), i < 16 → [AV.int .u32 (0 : Int)] = [AV.int .u32 (0 : Int)]) ∧ True) ∧ ((158 : TypeId) = 158 ∧ (1 : Nat) = 1 ∧ (16 :
 Nat) = 16 ∧ (∀ (i : Nat), i < 16 → [AV.int .u32 (↑(if i < t then tableN i else 0) : Int)] = [AV.int .u32 (↑(if i < t_1.1 then tableN i else 0) : Int)]) ∧ True)
 ∧ True) ∧ ∀ (t_1 : Nat × Nat), I_1 t_1 → BC (decide ((↑t_1.2 : Int) < (4 : Int))) (Exx Nat fun x => ((Tr 1 ((↑(stepsN t_1.2 t_1.1) : Int) = (↑x : Int)) ∧ True)
 ∧ true = true ∧ True) ∧ x < 4294967296 ∧ ∀ (y : Unit), True → I64 ((↑t_1.2 : Int) + 1) ∧ Exx (Nat × Nat) fun t' => (I_1 t' ∧ m_2 t' < m_2 t_1) ∧ ((true = true ∧
 NilNil ∧ (0 : Nat) = 0) ∧ (true = true ∧ NilNil ∧ (0 : Nat) = 0) ∧ Tr 1 ((↑t_1.1 : Int) = (↑t'.fst : Int)) ∧ Tr 1 ((↑(stepN x) : Int) = (↑(stepsN t'.snd t'.fst)
 : Int)) ∧ Tr 1 ((↑t_1.1 : Int) = (↑t'.fst : Int)) ∧ Tr 4 (Tr 1 ((↑t_1.2 : Int) + 1 = (↑t'.snd : Int)) ∧ Tr 9 True)) ∧ true = true ∧ ((158 : TypeId) = 158 ∧ (1 :
 Nat) = 1 ∧ (16 : Nat) = 16 ∧ (∀ (i : Nat), i < 16 → [AV.int .u32 (0 : Int)] = [AV.int .u32 (0 : Int)]) ∧ True) ∧ ((158 : TypeId) = 158 ∧ (1 : Nat) = 1 ∧ (16 :
 Nat) = 16 ∧ (∀ (i : Nat), i < 16 → [AV.int .u32 (↑(if i < t_1.1 then tableN i else 0) : Int)] = [AV.int .u32 (↑(if i < t'.fst then tableN i else 0) : Int)]) ∧
 True) ∧ True) (((0 : Int) ≤ (↑t_1.1 : Int) ∧ (↑t_1.1 : Int) < (↑16 : Int)) ∧ (↑t_1.1 : Int).toNat < 16 ∧ I64 ((↑t_1.1 : Int) + 1) ∧ Exx Nat fun t' => (I t' ∧ m
 t' < m t) ∧ ((true = true ∧ NilNil ∧ (0 : Nat) = 0) ∧ (true = true ∧ NilNil ∧ (0 : Nat) = 0) ∧ Tr 2 (Tr 1 ((↑t_1.1 : Int) + 1 = (↑t' : Int)) ∧ Tr 14 True)) ∧
 true = true ∧ ((158 : TypeId) = 158 ∧ (1 : Nat) = 1 ∧ (16 : Nat) = 16 ∧ (∀ (i : Nat), i < 16 → [AV.int .u32 (0 : Int)] = [AV.int .u32 (0 : Int)]) ∧ True) ∧
 ((158 : TypeId) = 158 ∧ (1 : Nat) = 1 ∧ (16 : Nat) = 16 ∧ (∀ (i : Nat), i < 16 → [AV.int .u32 (if i = (↑t_1.1 : Int).toNat then (↑(stepsN t_1.2 t_1.1) : Int)
 else (↑(if i < t_1.1 then tableN i else 0) : Int))] = [AV.int .u32 (↑(if i < t' then tableN i else 0) : Int)]) ∧ True) ∧ True)) (Exx Unit fun y => ((((1 : Nat)
 = 1 ∧ (16 : Nat) = 16 ∧ (∀ (i : Nat), i < 16 → [AV.int .u32 (↑(if i < t then tableN i else 0) : Int)] = [AV.int .u32 (↑(tableN i) : Int)]) ∧ True) ∧ True) ∧
 true = true ∧ True) ∧ True)) = (fnVC tb [(90, specOf stepC)] Tryd.f79 tableC (fun x => { loops := [(3, tabL1), (7, tabL2)] }) (fun _ => none)) := by kernel_rfl 

theorem table_ok : SpecOk Tryd.prog 79 (specOf tableC) := by
  refine specOk mixed tb_ok (SPok.cons step_ok SPok.nil) Tryd.func79 (by decide) (pureC_ok fun _ => ⟨fun _ _ => ⟨rfl, trivial⟩, trivial⟩) (an := (fun x => { loops := [(3, tabL1), (7, tabL2)] })) (σ := (fun _ => none)) ?_
  rw [← tableV]
  simp (maxSteps := 10000000) only [and_false, false_and, false_or, or_false, bOf_true, bOf_false, true_bOf, false_bOf, Exx, int_ite, merge_o, Tr_eq, true_and, and_true, exists_const, forall_const, implies_true, forall_eq, exists_eq, exists_eq', exists_eq_left, exists_eq_left', exists_eq_right, Prod.exists, Prod.forall, and_assoc, exists_and_left, BC_iff, Bool.not_eq_true', Bool.not_eq_false', decide_eq_true_eq, decide_eq_false_iff_not, I64, nat_cast_inj, Int.toNat_natCast, nats_iff, nats_iff', ints_iff, ints_iff', natss_iff, natss_iff', nilnil, litL_eq, str_inj, str_append, str_length, str_getD, str_take, lit1_iff, one_iff, two_iff, one_get, Nat.zero_add, Nat.sub_zero, Nat.reduceMul, Nat.reduceDiv, Nat.reduceAdd, Int.reduceToNat, Nat.not_lt_zero, if_false, if_true, Nat.le_refl, List.length_singleton, List.length_cons, List.length_nil, Bool.false_eq_true, not_true_eq_false, false_implies, not_false_eq_true, Prod.mk.injEq]
  refine ⟨fun i => i ≤ 16, ⟨0, by omega, rfl, fun j _ => rfl⟩, fun i => 16 - i, fun i hi => ⟨fun hl => ?_, fun hl => fun j hj => by rw [if_pos (by omega)]⟩⟩
  refine ⟨fun x => x.1 = i ∧ x.2 ≤ 4, ⟨i, 0, ⟨rfl, by simp⟩, rfl, wrap32 (by omega), rfl, rfl, fun j _ => rfl⟩, fun x => 4 - x.2, ?_⟩
  rintro i' k ⟨rfl, hk⟩
  simp only at *
  refine ⟨fun hl2 => ⟨stepsN_lt (by omega) k, by omega, by omega, i', k + 1, ⟨rfl, by omega⟩, by omega, rfl, rfl, rfl, by omega, fun _ _ => rfl⟩, fun hl2 => ⟨by omega, by omega, by omega, by omega, by omega, i' + 1, by omega, by omega, by omega, fun j hj => ?_⟩⟩
  have hk4 : k = 4 := by omega
  subst hk4
  by_cases hji : j = i'
  · subst hji
    rw [if_pos rfl, if_pos (by omega)]; rfl
  · rw [if_neg hji]
    by_cases h3 : j < i'
    · rw [if_pos h3, if_pos (by omega)]
    · rw [if_neg h3, if_neg (by omega)]

theorem tmod16 (n : Nat) : (n : Int).tmod 16 = ((n % 16 : Nat) : Int) := rfl
theorem tdiv16 (n : Nat) : (n : Int).tdiv 16 = ((n / 16 : Nat) : Int) := rfl
theorem xor_nat {a b : Nat} (ha : a < 4294967296) (hb : b < 4294967296) : bits .xor .u32 (a : Int) (b : Int) = ((a ^^^ b : Nat) : Int) := bits_xor (k := .u32) rfl ha hb

def crcTau (args : List AV) (H : AH) : List Nat := match args with
  | .ptr p _ _ :: _ => [p]
  | _ => []
def tabI (f : Nat → Nat) : Sx.Item := .cells 158 [.arr 1 16 (fun i => [u32 (f i)])]
def Bytes (l : List Nat) : Prop := (∀ x ∈ l, x < 256) ∧ l.length ≤ 1000000
def registerC : Ctr where
  X := (Nat → Nat) × Nat × List Nat
  Y := Unit
  conv := true
  tau := crcTau
  pre := fun x => (∀ i, i < 16 → x.1 i < 4294967296) ∧ x.2.1 < 4294967296 ∧ Bytes x.2.2
  args := fun x => [.ptr 0 [] 0, u32 x.2.1, octs x.2.2]
  heap := fun x => [tabI x.1]
  Q := fun _ _ => True
  res := fun x _ => u32 (regN x.1 x.2.1 x.2.2)
  its := fun x _ => [tabI x.1]
  new := fun _ _ => []
def regL (x : (Nat → Nat) × Nat × List Nat) : LA := { T := Nat, F := fun i => frm 39 [(0, .ptr 0 [] 0), (1, u32 (regN x.1 x.2.1 (x.2.2.take i))), (9, octs x.2.2), (10, .int .i64 (x.2.2.length : Int)), (11, .int .i64 (i : Int))], H := fun _ => [tabI x.1, .fence] }

theorem registerC_ok : CtrOk registerC := ⟨fun _ _ _ _ => rfl, fun _ _ _ _ => ⟨rfl, rfl⟩, fun _ _ _ _ _ => ⟨⟨⟨⟨fun _ _ => ⟨rfl, trivial⟩, trivial⟩, trivial⟩, trivial⟩, rfl⟩⟩
theorem bytes_get {l : List Nat} (h : Bytes l) (i : Nat) : l.getD i 0 < 256 := by
  rw [List.getD_eq_getElem?_getD]
  cases e : l[i]? with
  | none => simp
  | some x => exact h.1 x (List.mem_of_getElem? e)
theorem regN_lt {f : Nat → Nat} (hf : ∀ i, i < 16 → f i < 4294967296) : ∀ {l : List Nat} {x : Nat}, (∀ c ∈ l, c < 256) → x < 4294967296 → regN f x l < 4294967296
  | [], x, _, hx => hx
  | c :: r, x, hl, hx => regN_lt hf (l := r) (fun c hc => hl c (List.mem_cons_of_mem _ hc)) (takeN_lt hf hx (hl c List.mem_cons_self))
theorem regN_snoc (f : Nat → Nat) (x : Nat) {l : List Nat} {i : Nat} (hi : i < l.length) : regN f x (l.take (i + 1)) = takeN f (regN f x (l.take i)) (l.getD i 0) := by
  rw [List.take_add_one, List.getElem?_eq_getElem hi, List.getD_eq_getElem?_getD, List.getElem?_eq_getElem hi]
  simp only [regN, Option.toList, List.foldl_append, List.foldl, Option.getD]

theorem registerV : (∀ (x : (Nat → Nat) × Nat × List Nat), (∀ (i : Nat), i < 16 → x.1 i < 4294967296) ∧ x.2.1 < 4294967296 ∧ Bytes x.2.2 → Exx (Nat → Prop) fun
 I => Exx (Nat → Nat) fun m => (Exx Nat fun t => I t ∧ ((true = true ∧ NilNil ∧ (0 : Nat) = 0) ∧ Tr 1 ((↑x.2.1 : Int) = (↑(regN x.1 x.2.1 (List.take t x.2.2)) :
 Int)) ∧ Tr 7 (((1 : Nat) = 1 ∧ x.2.2.length = x.2.2.length ∧ ∀ (i : Nat), i < x.2.2.length → [AV.int .u8 (↑(x.2.2.getD i 0) : Int)] = [AV.int .u8 (↑(x.2.2.getD
 i 0) : Int)]) ∧ Tr 1 ((↑x.2.2.length : Int) = (↑x.2.2.length : Int)) ∧ Tr 1 ((0 : Int) = (↑t : Int)) ∧ Tr 27 True)) ∧ ((158 : TypeId) = 158 ∧ (1 : Nat) = 1 ∧
 (16 : Nat) = 16 ∧ (∀ (i : Nat), i < 16 → [AV.int .u32 (↑(x.1 i) : Int)] = [AV.int .u32 (↑(x.1 i) : Int)]) ∧ True) ∧ true = true ∧ True) ∧ ∀ (t : Nat), I t → BC
 (decide ((↑t : Int) < (↑x.2.2.length : Int))) (((0 : Int) ≤ (↑t : Int) ∧ (↑t : Int) < (↑x.2.2.length : Int)) ∧ ∀ (m_1 : Int), m_1 = IntKind.u32.wrap
 (↑(x.2.2.getD (↑t : Int).toNat 0) : Int) → ∀ (n : Int), n = bits BinOp.xor IntKind.u32 (↑(regN x.1 x.2.1 (List.take t x.2.2)) : Int) m_1 → (0 : Int) ≤ (4 : Int)
 ∧ ∀ (n_1 : Int), n_1 = n.fdiv (2 ^ min (Int.toNat 4) IntKind.u32.bits) → ∀ (n_2 : Int), n_2 = bits BinOp.and IntKind.u32 n 15 → ((0 : Int) ≤ n_2 ∧ n_2 < (↑16 :
 Int)) ∧ n_2.toNat < 16 ∧ ∀ (n : Int), n = bits BinOp.xor IntKind.u32 n_1 (↑(x.1 n_2.toNat) : Int) → (0 : Int) ≤ (4 : Int) ∧ ∀ (n_3 : Int), n_3 = n.fdiv (2 ^ min
 (Int.toNat 4) IntKind.u32.bits) → ∀ (n_4 : Int), n_4 = bits BinOp.and IntKind.u32 n 15 → ((0 : Int) ≤ n_4 ∧ n_4 < (↑16 : Int)) ∧ n_4.toNat < 16 ∧ ∀ (n : Int), n
 = bits BinOp.xor IntKind.u32 n_3 (↑(x.1 n_4.toNat) : Int) → I64 ((↑t : Int) + 1) ∧ Exx Nat fun t' => (I t' ∧ m t' < m t) ∧ ((true = true ∧ NilNil ∧ (0 : Nat) =
 0) ∧ Tr 1 (n = (↑(regN x.1 x.2.1 (List.take t' x.2.2)) : Int)) ∧ Tr 7 (((1 : Nat) = 1 ∧ x.2.2.length = x.2.2.length ∧ ∀ (i : Nat), i < x.2.2.length → [AV.int
 .u8 (↑(x.2.2.getD i 0) : Int)] = [AV.int .u8 (↑(x.2.2.getD i 0) : Int)]) ∧ Tr 1 ((↑x.2.2.length : Int) = (↑x.2.2.length : Int)) ∧ Tr 1 ((↑t : Int) + 1 = (↑t' :
 Int)) ∧ Tr 27 True)) ∧ ((158 : TypeId) = 158 ∧ (1 : Nat) = 1 ∧ (16 : Nat) = 16 ∧ (∀ (i : Nat), i < 16 → [AV.int .u32 (↑(x.1 i) : Int)] = [AV.int .u32 (↑(x.1 i)
 : Int)]) ∧ True) ∧ true = true ∧ True) (Exx Unit fun y => ((Tr 1 ((↑(regN x.1 x.2.1 (List.take t x.2.2)) : Int) = (↑(regN x.1 x.2.1 x.2.2) : Int)) ∧ True) ∧
 ((158 : TypeId) = 158 ∧ (1 : Nat) = 1 ∧ (16 : Nat) = 16 ∧ (∀ (i : Nat), i < 16 → [AV.int .u32 (↑(x.1 i) : Int)] = [AV.int .u32 (↑(x.1 i) : Int)]) ∧ True) ∧ true
 = true ∧ True) ∧ True)) = (fnVC tb [] Tryd.f80 registerC (fun x => { loops := [(2, regL x)] }) (fun _ => none)) := by kernel_rfl 

theorem register_ok : SpecOk Tryd.prog 80 (specOf registerC) := by
  refine specOk mixed tb_ok SPok.nil Tryd.func80 (by decide) registerC_ok (an := (fun x => { loops := [(2, regL x)] })) (σ := (fun _ => none)) ?_
  rw [← registerV]
  simp only [Exx, nilnil, Tr_eq, true_and, and_true, exists_const, forall_const, BC_iff, decide_eq_true_eq, decide_eq_false_iff_not, cast_inj, I64, implies_true]
  rintro ⟨f, x, l⟩ ⟨hf, hx, hl⟩
  simp only at *
  have hlen := hl.2
  have htl : ∀ i, ∀ c ∈ l.take i, c < 256 := fun i c hc => hl.1 c (List.mem_of_mem_take hc)
  refine ⟨fun i => i ≤ l.length, fun i => l.length - i, ⟨0, by omega, rfl, rfl⟩, fun i hi => ⟨fun hlt => ⟨by omega, ?_⟩, fun hge => ?_⟩⟩
  · have hr := regN_lt hf (htl i) hx
    have hc := bytes_get hl i
    have hs := regN_snoc f x (l := l) (i := i) (by omega)
    generalize regN f x (l.take i) = r at *
    generalize hcc : l.getD i 0 = c at *
    have h1 := xor32 hr (show c < 4294967296 by omega)
    have h2 := halfN_lt hf h1
    rintro m1 rfl n rfl
    have e1 : ((i : Int)).toNat = i := Int.toNat_natCast i
    rw [e1, hcc, wrap32 (by omega), xor_nat hr (by omega)]
    refine ⟨by omega, ?_⟩
    rintro n1 rfl n2 rfl
    rw [and_15 h1, shr_four, Int.toNat_natCast]
    refine ⟨⟨by omega, by omega⟩, by omega, ?_⟩
    rintro n rfl
    rw [xor_nat (by omega) (hf _ (by omega)), show (r ^^^ c) / 16 ^^^ f ((r ^^^ c) % 16) = halfN f (r ^^^ c) from rfl]
    refine ⟨by omega, ?_⟩
    rintro n3 rfl n4 rfl
    rw [and_15 h2, shr_four, Int.toNat_natCast]
    refine ⟨⟨by omega, by omega⟩, by omega, ?_⟩
    rintro n rfl
    rw [xor_nat (by omega) (hf _ (by omega))]
    refine ⟨by omega, i + 1, ⟨by omega, by simp only; omega⟩, ?_, by omega⟩
    rw [hs]; rfl
  · rw [show i = l.length by omega, List.take_length]

def ones : Nat := 4294967295
def octss (x : List (List Nat)) : AV := .ro 1 x.length (fun i => [octs (x.getD i [])])
def Bytess (x : List (List Nat)) : Prop := (∀ l ∈ x, Bytes l) ∧ x.length ≤ 1000
def accN (x : List (List Nat)) : Nat := x.foldl (regN tableN) ones
def sumN (x : List (List Nat)) : Nat := accN x ^^^ ones
def moreC : Ctr := pureC ((Nat → Nat) × Nat × List Nat) (fun x => (∀ i, i < 16 → x.1 i < 4294967296) ∧ x.2.1 < 4294967296 ∧ Bytes x.2.2) (fun x => [tabA x.1, u32 x.2.1, octs x.2.2]) (fun x => u32 (regN x.1 (x.2.1 ^^^ ones) x.2.2 ^^^ ones))
def sumC : Ctr := pureC (List (List Nat)) Bytess (fun x => [octss x]) (fun x => u32 (sumN x))
def sumFitsC : Ctr := pureC (Nat × List (List Nat)) (fun x => x.1 < 4294967296 ∧ Bytess x.2) (fun x => [u32 x.1, octss x.2]) (fun x => .bool (decide (sumN x.2 = x.1)))
def sumL (x : List (List Nat)) : LA := { T := Nat, F := fun i => frm 20 [(3, .ptr 1 [] 0), (4, u32 (accN (x.take i))), (8, octss x), (9, .int .i64 (x.length : Int)), (10, .int .i64 (i : Int))], H := fun _ => [.fence, tabI tableN] }
def refAcc (l : List Nat) : Nat := l.foldl (fun x c => stepsN 8 (x ^^^ c)) ones
def refSumC : Ctr := pureC (List Nat) Bytes (fun l => [octs l]) (fun l => u32 (ones - refAcc l))
def refSumL (l : List Nat) : LA := { T := Nat, F := fun i => frm 21 [(0, octs l), (3, u32 (refAcc (l.take i))), (4, .int .i64 (i : Int))], H := fun _ => [.fence] }
def crcAwakeC : Ctr := pureC Unit (fun _ => True) (fun _ => []) (fun _ => .bool true)

theorem xor_ones_lt {x : Nat} (h : x < 4294967296) : x ^^^ ones < 4294967296 := xor32 h (by decide)

theorem tableN_lt {i : Nat} (h : i < 16) : tableN i < 4294967296 := stepsN_lt (by omega) 4
theorem bytess_get {x : List (List Nat)} (h : Bytess x) (i : Nat) : Bytes (x.getD i []) := by
  rw [List.getD_eq_getElem?_getD]
  cases e : x[i]? with
  | none => exact ⟨fun c hc => (by cases hc), by simp⟩
  | some l => exact h.1 l (List.mem_of_getElem? e)
theorem foldl_take_snoc {α β : Type} (g : α → β → α) (a : α) {l : List β} {i : Nat} (d : β) (hi : i < l.length) : (l.take (i + 1)).foldl g a = g ((l.take i).foldl g a) (l.getD i d) := by
  rw [List.take_add_one, List.getElem?_eq_getElem hi, List.getD_eq_getElem?_getD, List.getElem?_eq_getElem hi]
  simp only [Option.toList, List.foldl_append, List.foldl, Option.getD]
theorem acc_lt : ∀ {x : List (List Nat)} {a : Nat}, (∀ l ∈ x, ∀ c ∈ l, c < 256) → a < 4294967296 → x.foldl (regN tableN) a < 4294967296
  | [], a, _, ha => ha
  | l :: r, a, h, ha => acc_lt (x := r) (fun l hl => h l (List.mem_cons_of_mem _ hl)) (regN_lt (fun _ hi => tableN_lt hi) (h l List.mem_cons_self) ha)
theorem accN_lt {x : List (List Nat)} (h : ∀ l ∈ x, ∀ c ∈ l, c < 256) : accN x < 4294967296 := acc_lt h (by decide)
theorem accN_take_lt {x : List (List Nat)} (h : Bytess x) (i : Nat) : accN (x.take i) < 4294967296 := accN_lt fun l hl => (h.1 l (List.mem_of_mem_take hl)).1

theorem sumV : (∀ (x : List (List Nat)), Bytess x → Exx Unit fun x_1 => Tr 1 (true = true ∧ True) ∧ Tr 1 (∀ (y : Unit), True → Exx (Nat → Prop) fun I => Exx
 (Nat → Nat) fun m => (Exx Nat fun t => I t ∧ Tr 3 ((true = true ∧ NilNil ∧ (0 : Nat) = 0) ∧ Tr 1 ((4294967295 : Int) = (↑(accN (List.take t x)) : Int)) ∧ Tr 3
 (((1 : Nat) = 1 ∧ x.length = x.length ∧ ∀ (i : Nat), i < x.length → [AV.ro 1 (x.getD i []).length fun i_1 => [AV.int .u8 (↑((x.getD i []).getD i_1 0) : Int)]] =
 [AV.ro 1 (x.getD i []).length fun i_1 => [AV.int .u8 (↑((x.getD i []).getD i_1 0) : Int)]]) ∧ Tr 1 ((↑x.length : Int) = (↑x.length : Int)) ∧ Tr 1 ((0 : Int) =
 (↑t : Int)) ∧ Tr 9 True)) ∧ true = true ∧ ((158 : Nat) = (158 : TypeId) ∧ (1 : Nat) = 1 ∧ (16 : Nat) = 16 ∧ (∀ (i : Nat), i < 16 → [AV.int .u32 (↑(tableN i) :
 Int)] = [AV.int .u32 (↑(tableN i) : Int)]) ∧ True) ∧ True) ∧ ∀ (t : Nat), I t → BC (decide ((↑t : Int) < (↑x.length : Int))) (((0 : Int) ≤ (↑t : Int) ∧ (↑t :
 Int) < (↑x.length : Int)) ∧ Exx ((Nat → Nat) × Nat × List Nat) fun x_2 => (((true = true ∧ NilNil ∧ (0 : Nat) = 0) ∧ Tr 1 ((↑(accN (List.take t x)) : Int) =
 (↑x_2.2.1 : Int)) ∧ ((x.getD (↑t : Int).toNat []).length = x_2.2.2.length ∧ ∀ (i : Nat), i < x_2.2.2.length → [AV.int .u8 (↑((x.getD (↑t : Int).toNat []).getD i
 0) : Int)] = [AV.int .u8 (↑(x_2.2.2.getD i 0) : Int)]) ∧ True) ∧ true = true ∧ ((158 : TypeId) = 158 ∧ (1 : Nat) = 1 ∧ (16 : Nat) = 16 ∧ (∀ (i : Nat), i < 16 →
 [AV.int .u32 (↑(tableN i) : Int)] = [AV.int .u32 (↑(x_2.1 i) : Int)]) ∧ True) ∧ True) ∧ ((∀ (i : Nat), i < 16 → x_2.1 i < 4294967296) ∧ x_2.2.1 < 4294967296 ∧
 Bytes x_2.2.2) ∧ ∀ (y : Unit), True → I64 ((↑t : Int) + 1) ∧ Exx Nat fun t' => (I t' ∧ m t' < m t) ∧ Tr 3 ((true = true ∧ NilNil ∧ (0 : Nat) = 0) ∧ Tr 1
 ((↑(regN x_2.1 x_2.2.1 x_2.2.2) : Int) = (↑(accN (List.take t' x)) : Int)) ∧ Tr 3 (((1 : Nat) = 1 ∧ x.length = x.length ∧ ∀ (i : Nat), i < x.length → [AV.ro 1
 (x.getD i []).length fun i_1 => [AV.int .u8 (↑((x.getD i []).getD i_1 0) : Int)]] = [AV.ro 1 (x.getD i []).length fun i_1 => [AV.int .u8 (↑((x.getD i []).getD
 i_1 0) : Int)]]) ∧ Tr 1 ((↑x.length : Int) = (↑x.length : Int)) ∧ Tr 1 ((↑t : Int) + 1 = (↑t' : Int)) ∧ Tr 9 True)) ∧ true = true ∧ ((158 : TypeId) = 158 ∧ (1 :
 Nat) = 1 ∧ (16 : Nat) = 16 ∧ (∀ (i : Nat), i < 16 → [AV.int .u32 (↑(x_2.1 i) : Int)] = [AV.int .u32 (↑(tableN i) : Int)]) ∧ True) ∧ True) (∀ (n : Int), n = bits
 BinOp.xor IntKind.u32 (↑(accN (List.take t x)) : Int) 4294967295 → Exx Unit fun y => ((Tr 1 (n = (↑(sumN x) : Int)) ∧ True) ∧ true = true ∧ True) ∧ True))) = (fnVC tb [(79, specOf tableC), (80, specOf registerC)] Tryd.f69 sumC (fun x => { loops := [(3, sumL x)] }) (fun _ => none)) := by kernel_rfl 

theorem sum_ok : SpecOk Tryd.prog 69 (specOf sumC) := by
  refine specOk mixed tb_ok (SPok.cons table_ok (SPok.cons register_ok SPok.nil)) Tryd.func69 (by decide) (pureC_ok fun _ => rfl) (an := (fun x => { loops := [(3, sumL x)] })) (σ := (fun _ => none)) ?_
  rw [← sumV]
  simp (maxSteps := 10000000) only [and_false, false_and, false_or, or_false, bOf_true, bOf_false, true_bOf, false_bOf, Exx, int_ite, merge_o, Tr_eq, true_and, and_true, exists_const, forall_const, implies_true, forall_eq, exists_eq, exists_eq', exists_eq_left, exists_eq_left', exists_eq_right, Prod.exists, Prod.forall, and_assoc, exists_and_left, BC_iff, Bool.not_eq_true', Bool.not_eq_false', decide_eq_true_eq, decide_eq_false_iff_not, I64, nat_cast_inj, Int.toNat_natCast, nats_iff, nats_iff', ints_iff, ints_iff', natss_iff, natss_iff', nilnil, litL_eq, str_inj, str_append, str_length, str_getD, str_take, lit1_iff, one_iff, two_iff, one_get, Nat.zero_add, Nat.sub_zero, Nat.reduceMul, Nat.reduceDiv, Nat.reduceAdd, Int.reduceToNat, Nat.not_lt_zero, if_false, if_true, Nat.le_refl, List.length_singleton, List.length_cons, List.length_nil, Bool.false_eq_true, not_true_eq_false, false_implies, not_false_eq_true, Prod.mk.injEq]
  intro x hx
  have hlen := hx.2
  refine ⟨fun i => i ≤ x.length, ⟨0, by omega, rfl, rfl⟩, fun i => x.length - i, fun i hi => ⟨fun hlt => ⟨by omega, by omega, tableN, fun _ _ => rfl, fun _ h => tableN_lt h, accN_take_lt hx i, bytess_get hx i, by omega, by omega, i + 1, by omega, by simp only; omega, ?_, by omega, fun _ _ => rfl⟩, fun hge => ?_⟩⟩
  · exact (foldl_take_snoc (regN tableN) ones [] (by omega)).symm
  · rw [show i = x.length by omega, List.take_length, xor_ones (accN_lt fun l hl => (hx.1 l hl).1)]
    rfl

theorem refAcc_lt : ∀ {l : List Nat} {a : Nat}, (∀ c ∈ l, c < 256) → a < 4294967296 → l.foldl (fun x c => stepsN 8 (x ^^^ c)) a < 4294967296
  | [], a, _, ha => ha
  | c :: r, a, h, ha => refAcc_lt (l := r) (fun l hl => h l (List.mem_cons_of_mem _ hl)) (stepsN_lt (xor32 ha (by have := h c List.mem_cons_self; omega)) 8)

theorem sumFitsV : (∀ (x : Nat × List (List Nat)), x.1 < 4294967296 ∧ Bytess x.2 → Exx (List (List Nat)) fun x_1 => (((x.2.length = x_1.length ∧ ∀ (i : Nat), i
 < x_1.length → [AV.ro 1 (x.2.getD i []).length fun i_1 => [AV.int .u8 (↑((x.2.getD i []).getD i_1 0) : Int)]] = [AV.ro 1 (x_1.getD i []).length fun i_1 =>
 [AV.int .u8 (↑((x_1.getD i []).getD i_1 0) : Int)]]) ∧ True) ∧ true = true ∧ True) ∧ Bytess x_1 ∧ ∀ (y : Unit), True → Exx Unit fun y => ((decide ((↑(sumN x_1)
 : Int) = (↑x.1 : Int)) = decide (sumN x.2 = x.1) ∧ True) ∧ true = true ∧ True) ∧ True) = (fnVC tb [(69, specOf sumC)] Tryd.f97 sumFitsC (fun _ => {}) (fun _ =>
 none)) := by kernel_rfl

theorem sumFits_ok : SpecOk Tryd.prog 97 (specOf sumFitsC) := by
  refine specOk mixed tb_ok (SPok.cons sum_ok SPok.nil) Tryd.func97 (by decide) (pureC_ok fun _ => rfl) (an := (fun _ => {})) (σ := (fun _ => none)) ?_
  rw [← sumFitsV]
  simp (maxSteps := 10000000) only [and_false, false_and, false_or, or_false, bOf_true, bOf_false, true_bOf, false_bOf, Exx, int_ite, merge_o, Tr_eq, true_and, and_true, exists_const, forall_const, implies_true, forall_eq, exists_eq, exists_eq', exists_eq_left, exists_eq_left', exists_eq_right, Prod.exists, Prod.forall, and_assoc, exists_and_left, BC_iff, Bool.not_eq_true', Bool.not_eq_false', decide_eq_true_eq, decide_eq_false_iff_not, I64, nat_cast_inj, Int.toNat_natCast, nats_iff, nats_iff', ints_iff, ints_iff', natss_iff, natss_iff', nilnil, litL_eq, str_inj, str_append, str_length, str_getD, str_take, lit1_iff, one_iff, two_iff, one_get, Nat.zero_add, Nat.sub_zero, Nat.reduceMul, Nat.reduceDiv, Nat.reduceAdd, Int.reduceToNat, Nat.not_lt_zero, if_false, if_true, Nat.le_refl, List.length_singleton, List.length_cons, List.length_nil, Bool.false_eq_true, not_true_eq_false, false_implies, not_false_eq_true, Prod.mk.injEq]
  exact fun _ _ h => h.2

end Yard
