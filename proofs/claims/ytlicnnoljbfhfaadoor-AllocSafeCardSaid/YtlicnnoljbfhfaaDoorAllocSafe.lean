import Derived.Test.YtlicnnoljbfhfaaDoorLaw18

namespace Yard
open Go Go.Sx Go.Proofs
set_option linter.unusedVariables false
set_option linter.unusedSimpArgs false
set_option maxRecDepth 4000
set_option maxHeartbeats 4000000
set_option maxRecDepth 30000

abbrev refC (x : AllocT) (m c e : Nat) (kc ke : Nat) : Sx.Item := .cells 38 [i64 (x.n : Int), i64 x.r, slI c (lC x) kc, slI e (lE x) ke, slI c (lC x) kc, slI c (lC x) kc]
def madeOpI : Ctr2 where
  X := StartX
  conv := true
  tau := fun _ _ => []
  pre := StartI
  args := fun x => [startA x]
  heap := fun _ => []
  p := startP
  a := { Y := Nat × Nat, Q := fun _ _ => True, res := fun _ _ => .tup [.ptr 1 [] 0, .ptr 2 [] 0], its := fun _ _ => [], new := fun x y => [allocI (startS x), refC (startS x) 2 3 4 y.1 y.2, rowI 3 .i64 y.1 (lC (startS x)), rowI 3 .i64 y.2 (lE (startS x))] }
  b := { Y := Unit, Q := fun _ _ => True, res := fun _ _ => .tup [.nilp, .nilp], its := fun _ _ => [], new := fun _ _ => [] }
def madeRenO (av : AV) (H : AH) : Option Ren := match av with
  | .tup (.ptr a _ _ :: .ptr m _ _ :: _) => match refAt m H with
    | some (c, e, _, _) => some [some 0, some a, some m, some c, some e]
    | none => none
  | _ => none

theorem madeOpV : (∀ (x : Nat × List Int × List Int × Int), x.1 < 256 ∧ IntL x.2.1 ∧ IntL x.2.2.1 ∧ I64 x.2.2.2 → BC (decide ((40 : Int) < (↑x.2.1.length :
 Int))) (((x.2.1.length ≤ 40 ∧ x.2.2.1.length ≤ 40 ∧ (0 : Int) ≤ x.2.2.2) ∧ Exx (Nat × Nat) fun y => (((False ∧ False ∧ True) ∧ True) ∧ true = true ∧ False ∧
 False ∧ (y.1 = 0 ∧ (lC (startS x)).length = 0) ∧ (y.2 = 0 ∧ (lE (startS x)).length = 0) ∧ True) ∧ True) ∨ ¬madeOpI.p x ∧ Exx Unit fun y => ((Tr 2 True ∧ True) ∧
 true = true ∧ True) ∧ True) (BC (decide ((40 : Int) < (↑x.2.2.1.length : Int))) (((x.2.1.length ≤ 40 ∧ x.2.2.1.length ≤ 40 ∧ (0 : Int) ≤ x.2.2.2) ∧ Exx (Nat ×
 Nat) fun y => (((False ∧ False ∧ True) ∧ True) ∧ true = true ∧ False ∧ False ∧ (y.1 = 0 ∧ (lC (startS x)).length = 0) ∧ (y.2 = 0 ∧ (lE (startS x)).length = 0) ∧
 True) ∧ True) ∨ ¬madeOpI.p x ∧ Exx Unit fun y => ((Tr 2 True ∧ True) ∧ true = true ∧ True) ∧ True) (BC (decide (x.2.2.2 < (0 : Int))) (((x.2.1.length ≤ 40 ∧
 x.2.2.1.length ≤ 40 ∧ (0 : Int) ≤ x.2.2.2) ∧ Exx (Nat × Nat) fun y => (((False ∧ False ∧ True) ∧ True) ∧ true = true ∧ False ∧ False ∧ (y.1 = 0 ∧ (lC (startS
 x)).length = 0) ∧ (y.2 = 0 ∧ (lE (startS x)).length = 0) ∧ True) ∧ True) ∨ ¬madeOpI.p x ∧ Exx Unit fun y => ((Tr 2 True ∧ True) ∧ true = true ∧ True) ∧ True) (∀
 (m : Int), m = IntKind.i64.wrap (↑x.1 : Int) → (41 : Int) ≠ (0 : Int) ∧ ∀ (n : Int), n = m.tmod 41 → Exx (Int × List Int) fun x_1 => ((Tr 1 (n = x_1.1) ∧
 (x.2.1.length = x_1.2.length ∧ ∀ (i : Nat), i < x_1.2.length → [AV.int .i64 (x.2.1.getD i 0)] = [AV.int .i64 (x_1.2.getD i 0)]) ∧ True) ∧ true = true ∧ True) ∧
 (I64 x_1.1 ∧ Ints x_1.2) ∧ ∀ (y : Unit), True → Exx (Int × List Int) fun x_2 => ((Tr 1 (n = x_2.1) ∧ (x.2.2.1.length = x_2.2.length ∧ ∀ (i : Nat), i <
 x_2.2.length → [AV.int .i64 (x.2.2.1.getD i 0)] = [AV.int .i64 (x_2.2.getD i 0)]) ∧ True) ∧ true = true ∧ True) ∧ (I64 x_2.1 ∧ Ints x_2.2) ∧ ∀ (y : Unit), True
 → Exx ((Nat × Nat) × (Nat × Nat) × Int) fun x_3 => (((true = true ∧ NilNil ∧ (0 : Nat) = 0) ∧ (true = true ∧ NilNil ∧ (0 : Nat) = 0) ∧ Tr 1 (x.2.2.2 = x_3.2.2)
 ∧ True) ∧ true = true ∧ setB (clampN x_1.1, addL (clampN x_1.1) 0 x_1.2) = setB x_3.1 ∧ setB (clampN x_2.1, addL (clampN x_2.1) 0 x_2.2) = setB x_3.2.1 ∧ True)
 ∧ (SetW x_3.1 ∧ SetW x_3.2.1 ∧ I64 x_3.2.2) ∧ (x_3.1.1 = x_3.2.1.1 ∧ (0 : Int) ≤ x_3.2.2 → ∀ (y : Unit), True → Exx (Nat × List Int) fun x_4 => ((Tr 1 (n =
 (↑x_4.1 : Int)) ∧ (x.2.1.length = x_4.2.length ∧ ∀ (i : Nat), i < x_4.2.length → [AV.int .i64 (x.2.1.getD i 0)] = [AV.int .i64 (x_4.2.getD i 0)]) ∧ True) ∧ true
 = true ∧ True) ∧ (x_4.1 ≤ 3072 ∧ IntL x_4.2) ∧ ∀ (y : Nat), (listN (x_4.1, addL x_4.1 0 x_4.2)).length ≤ y ∧ y ≤ 9223372036854775807 → Exx (Nat × List Int) fun
 x_5 => ((Tr 1 (n = (↑x_5.1 : Int)) ∧ (x.2.2.1.length = x_5.2.length ∧ ∀ (i : Nat), i < x_5.2.length → [AV.int .i64 (x.2.2.1.getD i 0)] = [AV.int .i64
 (x_5.2.getD i 0)]) ∧ True) ∧ true = true ∧ True) ∧ (x_5.1 ≤ 3072 ∧ IntL x_5.2) ∧ ∀ (y_1 : Nat), (listN (x_5.1, addL x_5.1 0 x_5.2)).length ≤ y_1 ∧ y_1 ≤
 9223372036854775807 → Exx ((Int × Int) × (Nat × List Int) × Nat × List Int) fun x_6 => ((Tr 1 (n = x_6.1.1) ∧ (true = true ∧ NilNil ∧ (0 : Nat) = 0 ∧ (1 : Nat)
 = 1 ∧ (0 : Nat) = 0 ∧ (listN (x_4.1, addL x_4.1 0 x_4.2)).length = x_6.2.1.2.length ∧ y = x_6.2.1.1) ∧ (true = true ∧ NilNil ∧ (0 : Nat) = 0 ∧ (1 : Nat) = 1 ∧
 (0 : Nat) = 0 ∧ (listN (x_5.1, addL x_5.1 0 x_5.2)).length = x_6.2.2.2.length ∧ y_1 = x_6.2.2.1) ∧ Tr 1 (x.2.2.2 = x_6.1.2) ∧ True) ∧ true = true ∧ ((3 :
 TypeId) = 3 ∧ (1 : Nat) = 1 ∧ y = x_6.2.1.1 ∧ x_6.2.1.2.length ≤ (listN (x_4.1, addL x_4.1 0 x_4.2)).length ∧ ∀ (i : Nat), i < x_6.2.1.2.length → [AV.int .i64
 ((listN (x_4.1, addL x_4.1 0 x_4.2)).getD i 0)] = [AV.int .i64 (x_6.2.1.2.getD i 0)]) ∧ ((3 : TypeId) = 3 ∧ (1 : Nat) = 1 ∧ y_1 = x_6.2.2.1 ∧ x_6.2.2.2.length ≤
 (listN (x_5.1, addL x_5.1 0 x_5.2)).length ∧ ∀ (i : Nat), i < x_6.2.2.2.length → [AV.int .i64 ((listN (x_5.1, addL x_5.1 0 x_5.2)).getD i 0)] = [AV.int .i64
 (x_6.2.2.2.getD i 0)]) ∧ True) ∧ (I64 x_6.1.1 ∧ I64 x_6.1.2) ∧ ∀ (y : Unit), True → ((x.2.1.length ≤ 40 ∧ x.2.2.1.length ≤ 40 ∧ (0 : Int) ≤ x.2.2.2) ∧ Exx (Nat
 × Nat) fun y => ((((true = true ∧ NilNil ∧ (0 : Nat) = 0) ∧ (true = true ∧ NilNil ∧ (0 : Nat) = 0) ∧ True) ∧ True) ∧ true = true ∧ allocB (newAlloc x_3) =
 allocB (startS x) ∧ ((38 : TypeId) = 38 ∧ Tr 1 (x_6.1.1 = (↑(startS x).n : Int)) ∧ Tr 1 (x_6.1.2 = (startS x).r) ∧ (true = true ∧ NilNil ∧ (0 : Nat) = 0 ∧ (1 :
 Nat) = 1 ∧ (0 : Nat) = 0 ∧ x_6.2.1.2.length = (lC (startS x)).length ∧ x_6.2.1.1 = y.1) ∧ (true = true ∧ NilNil ∧ (0 : Nat) = 0 ∧ (1 : Nat) = 1 ∧ (0 : Nat) = 0
 ∧ x_6.2.2.2.length = (lE (startS x)).length ∧ x_6.2.2.1 = y.2) ∧ (true = true ∧ NilNil ∧ (0 : Nat) = 0 ∧ (1 : Nat) = 1 ∧ (0 : Nat) = 0 ∧ x_6.2.1.2.length = (lC
 (startS x)).length ∧ x_6.2.1.1 = y.1) ∧ (true = true ∧ NilNil ∧ (0 : Nat) = 0 ∧ (1 : Nat) = 1 ∧ (0 : Nat) = 0 ∧ x_6.2.1.2.length = (lC (startS x)).length ∧
 x_6.2.1.1 = y.1) ∧ True) ∧ ((3 : TypeId) = 3 ∧ (1 : Nat) = 1 ∧ x_6.2.1.1 = y.1 ∧ (lC (startS x)).length ≤ x_6.2.1.2.length ∧ ∀ (i : Nat), i < (lC (startS
 x)).length → [AV.int .i64 (x_6.2.1.2.getD i 0)] = [AV.int .i64 ((lC (startS x)).getD i 0)]) ∧ ((3 : TypeId) = 3 ∧ (1 : Nat) = 1 ∧ x_6.2.2.1 = y.2 ∧ (lE (startS
 x)).length ≤ x_6.2.2.2.length ∧ ∀ (i : Nat), i < (lE (startS x)).length → [AV.int .i64 (x_6.2.2.2.getD i 0)] = [AV.int .i64 ((lE (startS x)).getD i 0)]) ∧ True)
 ∧ True) ∨ ¬madeOpI.p x ∧ Exx Unit fun y => False ∧ True) ∧ (¬allocNewI.p x_3 → ∀ (y : Unit), True → Exx (Nat × List Int) fun x_4 => ((Tr 1 (n = (↑x_4.1 : Int))
 ∧ (x.2.1.length = x_4.2.length ∧ ∀ (i : Nat), i < x_4.2.length → [AV.int .i64 (x.2.1.getD i 0)] = [AV.int .i64 (x_4.2.getD i 0)]) ∧ True) ∧ true = true ∧ True)
 ∧ (x_4.1 ≤ 3072 ∧ IntL x_4.2) ∧ ∀ (y : Nat), (listN (x_4.1, addL x_4.1 0 x_4.2)).length ≤ y ∧ y ≤ 9223372036854775807 → Exx (Nat × List Int) fun x_5 => ((Tr 1
 (n = (↑x_5.1 : Int)) ∧ (x.2.2.1.length = x_5.2.length ∧ ∀ (i : Nat), i < x_5.2.length → [AV.int .i64 (x.2.2.1.getD i 0)] = [AV.int .i64 (x_5.2.getD i 0)]) ∧
 True) ∧ true = true ∧ True) ∧ (x_5.1 ≤ 3072 ∧ IntL x_5.2) ∧ ∀ (y_1 : Nat), (listN (x_5.1, addL x_5.1 0 x_5.2)).length ≤ y_1 ∧ y_1 ≤ 9223372036854775807 → Exx
 ((Int × Int) × (Nat × List Int) × Nat × List Int) fun x_6 => ((Tr 1 (n = x_6.1.1) ∧ (true = true ∧ NilNil ∧ (0 : Nat) = 0 ∧ (1 : Nat) = 1 ∧ (0 : Nat) = 0 ∧
 (listN (x_4.1, addL x_4.1 0 x_4.2)).length = x_6.2.1.2.length ∧ y = x_6.2.1.1) ∧ (true = true ∧ NilNil ∧ (0 : Nat) = 0 ∧ (1 : Nat) = 1 ∧ (0 : Nat) = 0 ∧ (listN
 (x_5.1, addL x_5.1 0 x_5.2)).length = x_6.2.2.2.length ∧ y_1 = x_6.2.2.1) ∧ Tr 1 (x.2.2.2 = x_6.1.2) ∧ True) ∧ true = true ∧ ((3 : TypeId) = 3 ∧ (1 : Nat) = 1 ∧
 y = x_6.2.1.1 ∧ x_6.2.1.2.length ≤ (listN (x_4.1, addL x_4.1 0 x_4.2)).length ∧ ∀ (i : Nat), i < x_6.2.1.2.length → [AV.int .i64 ((listN (x_4.1, addL x_4.1 0
 x_4.2)).getD i 0)] = [AV.int .i64 (x_6.2.1.2.getD i 0)]) ∧ ((3 : TypeId) = 3 ∧ (1 : Nat) = 1 ∧ y_1 = x_6.2.2.1 ∧ x_6.2.2.2.length ≤ (listN (x_5.1, addL x_5.1 0
 x_5.2)).length ∧ ∀ (i : Nat), i < x_6.2.2.2.length → [AV.int .i64 ((listN (x_5.1, addL x_5.1 0 x_5.2)).getD i 0)] = [AV.int .i64 (x_6.2.2.2.getD i 0)]) ∧ True)
 ∧ (I64 x_6.1.1 ∧ I64 x_6.1.2) ∧ ∀ (y : Unit), True → ((x.2.1.length ≤ 40 ∧ x.2.2.1.length ≤ 40 ∧ (0 : Int) ≤ x.2.2.2) ∧ Exx (Nat × Nat) fun y => (((False ∧
 (false = true ∧ NilNil ∧ (0 : Nat) = 0) ∧ True) ∧ True) ∧ true = true ∧ False ∧ False ∧ False ∧ ((3 : TypeId) = 3 ∧ (1 : Nat) = 1 ∧ x_6.2.1.1 = y.2 ∧ (lE
 (startS x)).length ≤ x_6.2.1.2.length ∧ ∀ (i : Nat), i < (lE (startS x)).length → [AV.int .i64 (x_6.2.1.2.getD i 0)] = [AV.int .i64 ((lE (startS x)).getD i 0)])
 ∧ True) ∧ True) ∨ ¬madeOpI.p x ∧ Exx Unit fun y => ((Tr 1 (False ∧ True) ∧ True) ∧ true = true ∧ True) ∧ True))))) = (fnVC2 tb [(26, allocNewAllP), (27, specOf setOfC), (28, specOf refNewC), (29, specOf refOfC)] Tryd.f8 madeOpI (fun _ => {}) (fun _ av H => madeRenO av H) (fun _ => []) (fun _ _ _ _ => []) (fun _ _ _ _ => [])) := by kernel_rfl 

theorem madeOp_ok : SpecOk Tryd.prog 8 (specIf madeOpI) := by
  refine specIfo mixed tb_ok (SPok.cons allocNewAll_ok (SPok.cons setOf_ok (SPok.cons refNew_ok (SPok.cons refOf_ok SPok.nil)))) Tryd.func8 (by decide) ⟨fun _ _ _ _ => rfl, fun _ _ _ _ => ⟨rfl, rfl⟩, fun x _ _ _ _ => ⟨⟨trivial, trivial, ⟨rfl, rfl, rfl, rfl, rfl, rfl, trivial⟩, ⟨fun _ _ => ⟨rfl, trivial⟩, trivial⟩, ⟨fun _ _ => ⟨rfl, trivial⟩, trivial⟩, trivial⟩, rfl, rfl, trivial⟩⟩ ⟨fun _ _ _ _ => rfl, fun _ _ _ _ => ⟨rfl, rfl⟩, fun x _ _ _ _ => ⟨⟨trivial, trivial⟩, rfl, rfl, trivial⟩⟩ (an := (fun _ => {})) (σ := (fun _ av H => madeRenO av H)) (op := (fun _ => [])) (clA := (fun _ _ _ _ => [])) (clB := (fun _ _ _ _ => [])) ?_
  rw [← madeOpV]
  simp (maxSteps := 10000000) only [and_false, false_and, false_or, or_false, bOf_true, bOf_false, true_bOf, false_bOf, Exx, int_ite, merge_o, Tr_eq, true_and, and_true, exists_const, forall_const, implies_true, forall_eq, exists_eq, exists_eq', exists_eq_left, exists_eq_left', exists_eq_right, Prod.exists, Prod.forall, and_assoc, exists_and_left, BC_iff, Bool.not_eq_true', Bool.not_eq_false', decide_eq_true_eq, decide_eq_false_iff_not, I64, nat_cast_inj, Int.toNat_natCast, nats_iff, nats_iff', ints_iff, ints_iff', natss_iff, natss_iff', nilnil, litL_eq, str_inj, str_append, str_length, str_getD, str_take, lit1_iff, one_iff, two_iff, one_get, Nat.zero_add, Nat.sub_zero, Nat.reduceMul, Nat.reduceDiv, Nat.reduceAdd, Int.reduceToNat, Nat.not_lt_zero, if_false, if_true, Nat.le_refl, List.length_singleton, List.length_cons, List.length_nil, Bool.false_eq_true, not_true_eq_false, false_implies, not_false_eq_true, Prod.mk.injEq, allocB_inj, setB_inj]
  rintro n u e r ⟨h1, h2, h3, h4, h5⟩
  have hw : IntKind.i64.wrap (n : Int) = (n : Int) := wrap_I64 ⟨by omega, by omega⟩
  have hm : (n : Int).tmod 41 = ((n % 41 : Nat) : Int) := rfl
  have h41 : n % 41 < 41 := Nat.mod_lt _ (by decide)
  have hc : clampN ((n % 41 : Nat) : Int) = n % 41 := by unfold clampN; omega
  have hz : 0 < 2 ^ (n % 41) := Nat.pos_of_ne_zero (by simp)
  rw [hw, hm, hc]
  refine ⟨fun g p => by have : u.length ≤ 40 := p.1; omega, fun g1 => ⟨fun g p => by have : e.length ≤ 40 := p.2.1; omega, fun g2 => ⟨fun g p => by have : 0 ≤ r := p.2.2; omega, fun g3 => ⟨by omega, by omega, by omega, ⟨h2.1, by omega⟩, by omega, by omega, ⟨h3.1, by omega⟩, ⟨by simp only; omega, addL_lt hz⟩, ⟨by simp only; omega, addL_lt hz⟩, h4, h5, fun _ => ?_, fun g => absurd ⟨rfl, by simp only; omega⟩ g⟩⟩⟩⟩
  exact ⟨n % 41, rfl, by omega, h2, fun c1 hc1 => ⟨n % 41, rfl, by omega, h3, fun c2 hc2 => ⟨r, c1, _, rfl, rfl, c2, _, rfl, rfl, rfl, rfl, Nat.le_refl _, fun _ _ => rfl, rfl, Nat.le_refl _, fun _ _ => rfl, by omega, by omega, h4, h5, by omega, by omega, by omega, rfl, rfl, rfl, rfl, rfl, rfl, rfl, Nat.le_refl _, fun _ _ => rfl, Nat.le_refl _, fun _ _ => rfl⟩⟩⟩

theorem take_facts {x : AllocT} (h : RefW x) {b : Int} (h0 : 0 ≤ b) (hb : -9223372036854775808 ≤ b) :
    (takeErr x b = 0 ∧ ¬ takeAt x b < 0 ∧ ¬ (x.n : Int) ≤ takeAt x b ∧ takeAt x b ∉ lC x ∧ takeAt x b ∉ lE x) ∨ (takeErr x b = 10 ∧ takeAt x b = 0) := by
  by_cases hl : ((freeL x).length : Int) ≤ b
  · obtain ⟨_, h1, h2⟩ := take_no h hl
    exact .inr ⟨h2, h1⟩
  · obtain ⟨⟨a1, a2⟩, _, _, a4, a5, a6⟩ := take_yes h hl hb (.inl h0)
    obtain ⟨_, _, _, a7⟩ := freeL_head h a6
    refine .inl ⟨a5, by omega, by omega, ?_, ?_⟩
    · rw [a4]; intro k
      have k := (mem_listN (s := (x.n, x.c))).1 k
      rw [heldN] at a7
      simp only [Nat.testBit_or, k.2.2, Bool.or_true, Bool.true_or] at a7
      cases a7
    · rw [a4]; intro k
      have k := (mem_listN (s := (x.n, x.e))).1 k
      rw [heldN] at a7
      simp only [Nat.testBit_or, k.2.2, Bool.or_true, Bool.true_or] at a7
      cases a7
theorem takeS_ce (x : AllocT) (b : Int) : (takeS x b).c = x.c ∧ (takeS x b).e = x.e := by
  unfold takeS
  split <;> exact ⟨rfl, rfl⟩

def safeC : Ctr := pureC (StartX × List Act18) (fun x => StartI x.1 ∧ Acts18 x.2) (fun x => [startA x.1, acts18A x.2]) (fun _ => .bool true)
def safeRen (F : Fr) (_ : AH) : Option Ren := match F.getD 7 .any, F.getD 8 .any with
  | .sl p _ _ _ _ _ _, .sl q _ _ _ _ _ _ => some [some 0, some 1, some 2, some 3, some p, some q]
  | _, _ => none
def safeLA (x : StartX × List Act18) : LA := { T := Nat × AllocT × Nat × Nat, F := fun t => frm 142 [(1, acts18A x.2), (5, .ptr 2 [] 0), (6, .ptr 3 [] 0), (7, .sl 4 [] 0 1 0 (lC t.2.1).length t.2.2.1), (8, .sl 5 [] 0 1 0 (lE t.2.1).length t.2.2.2), (9, i64 (t.1 : Nat))], H := fun t => [.fence, .cells 24 [.int .u8 (x.1.1 : Nat), intA x.1.2.1, intA x.1.2.2.1, i64 x.1.2.2.2], allocI t.2.1, .cells 38 [i64 (t.2.1.n : Int), .cell, .cell, .cell, .cell, .cell], rowI 3 .i64 t.2.2.1 (lC t.2.1), rowI 3 .i64 t.2.2.2 (lE t.2.1)], ρ₁ := safeRen, ρ₂ := safeRen }

theorem safeV : (∀ (x : StartX × List Act18), StartI x.1 ∧ Acts18 x.2 → Exx Unit fun x_1 => Tr 1 (true = true ∧ True) ∧ Tr 1 (∀ (y : Unit), True → BC (decide
 ((60 : Int) < (↑x.2.length : Int))) (Exx Unit fun x => Tr 1 (true = true ∧ True) ∧ Tr 1 (∀ (y : Unit), True → Exx Unit fun y => ((true = true ∧ True) ∧ true =
 true ∧ True) ∧ True)) (Exx (Nat × List Int × List Int × Int) fun x_2 => (((Tr 1 ((↑x.1.1 : Int) = (↑x_2.1 : Int)) ∧ (x.1.2.1.length = x_2.2.1.length ∧ ∀ (i :
 Nat), i < x_2.2.1.length → [AV.int .i64 (x.1.2.1.getD i 0)] = [AV.int .i64 (x_2.2.1.getD i 0)]) ∧ (x.1.2.2.1.length = x_2.2.2.1.length ∧ ∀ (i : Nat), i <
 x_2.2.2.1.length → [AV.int .i64 (x.1.2.2.1.getD i 0)] = [AV.int .i64 (x_2.2.2.1.getD i 0)]) ∧ Tr 1 (x.1.2.2.2 = x_2.2.2.2) ∧ True) ∧ True) ∧ true = true ∧ True)
 ∧ (x_2.1 < 256 ∧ IntL x_2.2.1 ∧ IntL x_2.2.2.1 ∧ I64 x_2.2.2.2) ∧ (x_2.2.1.length ≤ 40 ∧ x_2.2.2.1.length ≤ 40 ∧ (0 : Int) ≤ x_2.2.2.2 → ∀ (y : Nat × Nat), True
 → Exx (Nat × AllocT × Nat × Nat → Prop) fun I => Exx (Nat × AllocT × Nat × Nat → Nat) fun m => (Exx (Nat × AllocT × Nat × Nat) fun t => I t ∧ Tr 1 (((2 : Nat) =
 2 ∧ x.2.length = x.2.length ∧ ∀ (i : Nat), i < x.2.length → [AV.int .i64 (x.2.getD i act18Z).kind, AV.int .i64 (x.2.getD i act18Z).at_] = [AV.int .i64 (x.2.getD
 i act18Z).kind, AV.int .i64 (x.2.getD i act18Z).at_]) ∧ Tr 3 ((true = true ∧ NilNil ∧ (0 : Nat) = 0) ∧ (true = true ∧ NilNil ∧ (0 : Nat) = 0) ∧ (true = true ∧
 NilNil ∧ (0 : Nat) = 0 ∧ (1 : Nat) = 1 ∧ (0 : Nat) = 0 ∧ (lC (startS x_2)).length = (lC t.2.1).length ∧ y.1 = t.2.2.1) ∧ (true = true ∧ NilNil ∧ (0 : Nat) = 0 ∧
 (1 : Nat) = 1 ∧ (0 : Nat) = 0 ∧ (lE (startS x_2)).length = (lE t.2.1).length ∧ y.2 = t.2.2.2) ∧ Tr 1 ((0 : Int) = (↑t.1 : Int)) ∧ Tr 132 True)) ∧ true = true ∧
 ((24 : Nat) = (24 : TypeId) ∧ Tr 1 ((↑x.1.1 : Int) = (↑x.1.1 : Int)) ∧ ((1 : Nat) = 1 ∧ x.1.2.1.length = x.1.2.1.length ∧ ∀ (i : Nat), i < x.1.2.1.length →
 [AV.int .i64 (x.1.2.1.getD i 0)] = [AV.int .i64 (x.1.2.1.getD i 0)]) ∧ ((1 : Nat) = 1 ∧ x.1.2.2.1.length = x.1.2.2.1.length ∧ ∀ (i : Nat), i < x.1.2.2.1.length
 → [AV.int .i64 (x.1.2.2.1.getD i 0)] = [AV.int .i64 (x.1.2.2.1.getD i 0)]) ∧ Tr 1 (x.1.2.2.2 = x.1.2.2.2) ∧ True) ∧ allocB (startS x_2) = allocB t.2.1 ∧ ((38 :
 TypeId) = 38 ∧ Tr 1 ((↑(startS x_2).n : Int) = (↑t.2.1.n : Int)) ∧ true = true ∧ true = true ∧ true = true ∧ true = true ∧ true = true ∧ True) ∧ ((3 : TypeId) =
 3 ∧ (1 : Nat) = 1 ∧ y.1 = t.2.2.1 ∧ (lC t.2.1).length ≤ (lC (startS x_2)).length ∧ ∀ (i : Nat), i < (lC t.2.1).length → [AV.int .i64 ((lC (startS x_2)).getD i
 0)] = [AV.int .i64 ((lC t.2.1).getD i 0)]) ∧ ((3 : TypeId) = 3 ∧ (1 : Nat) = 1 ∧ y.2 = t.2.2.2 ∧ (lE t.2.1).length ≤ (lE (startS x_2)).length ∧ ∀ (i : Nat), i <
 (lE t.2.1).length → [AV.int .i64 ((lE (startS x_2)).getD i 0)] = [AV.int .i64 ((lE t.2.1).getD i 0)]) ∧ True) ∧ ∀ (t : Nat × AllocT × Nat × Nat), I t → BC
 (decide ((↑t.1 : Int) < (↑x.2.length : Int))) (((0 : Int) ≤ (↑t.1 : Int) ∧ (↑t.1 : Int) < (↑x.2.length : Int)) ∧ Exx (Int × Int) fun x_3 => ((Tr 1 ((x.2.getD
 (↑t.1 : Int).toNat act18Z).kind = x_3.1) ∧ Tr 1 ((7 : Int) = x_3.2) ∧ True) ∧ true = true ∧ True) ∧ (I64 x_3.1 ∧ (1 : Int) ≤ x_3.2 ∧ x_3.2 ≤ (1000000 : Int)) ∧
 ∀ (y : Unit), True → BC (decide (x_3.1 % x_3.2 = (0 : Int))) (BC (decide (x_3.1 % x_3.2 = (0 : Int))) (Exx (AllocT × Unit) fun x_4 => (((true = true ∧ NilNil ∧
 (0 : Nat) = 0) ∧ True) ∧ true = true ∧ allocB t.2.1 = allocB x_4.1 ∧ True) ∧ (AllocW x_4.1 ∧ True) ∧ ∀ (y : Unit), True → ((0 : Int) ≤ (↑t.1 : Int) ∧ (↑t.1 :
 Int) < (↑x.2.length : Int)) ∧ Exx (Int × Int) fun x_5 => ((Tr 1 ((x.2.getD (↑t.1 : Int).toNat act18Z).kind = x_5.1) ∧ Tr 1 ((7 : Int) = x_5.2) ∧ True) ∧ true =
 true ∧ True) ∧ (I64 x_5.1 ∧ (1 : Int) ≤ x_5.2 ∧ x_5.2 ≤ (1000000 : Int)) ∧ ∀ (y : Unit), True → BC (decide (x_5.1 % x_5.2 = (1 : Int))) (BC (!decide (takeErr
 x_4.1 x_4.1.r = (0 : Int))) (Exx (AllocT × Unit) fun x_6 => (((true = true ∧ NilNil ∧ (0 : Nat) = 0) ∧ True) ∧ true = true ∧ allocB (takeS x_4.1 x_4.1.r) =
 allocB x_6.1 ∧ True) ∧ (AllocW x_6.1 ∧ True) ∧ ∀ (y : Unit), True → BC (decide (takeErr x_6.1 0 = (0 : Int))) (BC (decide (takeAt x_6.1 0 < (0 : Int))) (Exx
 Unit fun y => ((false = true ∧ True) ∧ true = true ∧ True) ∧ True) (BC (decide ((↑t.2.1.n : Int) ≤ takeAt x_6.1 0)) (Exx Unit fun y => ((false = true ∧ True) ∧
 true = true ∧ True) ∧ True) (Exx (List Int × Int) fun x_7 => (((0 + (lC t.2.1).length ≤ (lC t.2.1).length ∧ (lC t.2.1).length = x_7.1.length ∧ ∀ (i : Nat), i <
 x_7.1.length → [AV.int .i64 ((lC t.2.1).getD (0 + i) 0)] = [AV.int .i64 (x_7.1.getD i 0)]) ∧ Tr 1 (takeAt x_6.1 0 = x_7.2) ∧ True) ∧ true = true ∧ True) ∧ (IntL
 x_7.1 ∧ I64 x_7.2) ∧ ∀ (y : Unit), True → BC (decide (x_7.2 ∈ x_7.1)) (Exx Unit fun y => ((false = true ∧ True) ∧ true = true ∧ True) ∧ True) (Exx (List Int ×
 Int) fun x_8 => (((0 + (lE t.2.1).length ≤ (lE t.2.1).length ∧ (lE t.2.1).length = x_8.1.length ∧ ∀ (i : Nat), i < x_8.1.length → [AV.int .i64 ((lE t.2.1).getD
 (0 + i) 0)] = [AV.int .i64 (x_8.1.getD i 0)]) ∧ Tr 1 (takeAt x_6.1 0 = x_8.2) ∧ True) ∧ true = true ∧ True) ∧ (IntL x_8.1 ∧ I64 x_8.2) ∧ ∀ (y : Unit), True → BC
 (decide (x_8.2 ∈ x_8.1)) (Exx Unit fun y => ((false = true ∧ True) ∧ true = true ∧ True) ∧ True) (BC (!decide (takeErr x_6.1 0 = (0 : Int))) (BC (!decide
 (takeErr x_6.1 0 = (10 : Int))) (Exx Unit fun y => ((false = true ∧ True) ∧ true = true ∧ True) ∧ True) (BC (!decide (takeAt x_6.1 0 = (0 : Int))) (Exx Unit fun
 y => ((false = true ∧ True) ∧ true = true ∧ True) ∧ True) (I64 ((↑t.1 : Int) + 1) ∧ Exx (Nat × AllocT × Nat × Nat) fun t' => (I t' ∧ m t' < m t) ∧ Tr 1 (((2 :
 Nat) = 2 ∧ x.2.length = x.2.length ∧ ∀ (i : Nat), i < x.2.length → [AV.int .i64 (x.2.getD i act18Z).kind, AV.int .i64 (x.2.getD i act18Z).at_] = [AV.int .i64
 (x.2.getD i act18Z).kind, AV.int .i64 (x.2.getD i act18Z).at_]) ∧ Tr 3 ((true = true ∧ NilNil ∧ (0 : Nat) = 0) ∧ (true = true ∧ NilNil ∧ (0 : Nat) = 0) ∧ (true
 = true ∧ NilNil ∧ (0 : Nat) = 0 ∧ (1 : Nat) = 1 ∧ (0 : Nat) = 0 ∧ (lC t.2.1).length = (lC t'.snd.1).length ∧ t.2.2.1 = t'.snd.2.1) ∧ (true = true ∧ NilNil ∧ (0
 : Nat) = 0 ∧ (1 : Nat) = 1 ∧ (0 : Nat) = 0 ∧ (lE t.2.1).length = (lE t'.snd.1).length ∧ t.2.2.2 = t'.snd.2.2) ∧ Tr 1 ((↑t.1 : Int) + 1 = (↑t'.fst : Int)) ∧ Tr
 132 True)) ∧ true = true ∧ ((24 : TypeId) = 24 ∧ Tr 1 ((↑x.1.1 : Int) = (↑x.1.1 : Int)) ∧ ((1 : Nat) = 1 ∧ x.1.2.1.length = x.1.2.1.length ∧ ∀ (i : Nat), i <
 x.1.2.1.length → [AV.int .i64 (x.1.2.1.getD i 0)] = [AV.int .i64 (x.1.2.1.getD i 0)]) ∧ ((1 : Nat) = 1 ∧ x.1.2.2.1.length = x.1.2.2.1.length ∧ ∀ (i : Nat), i <
 x.1.2.2.1.length → [AV.int .i64 (x.1.2.2.1.getD i 0)] = [AV.int .i64 (x.1.2.2.1.getD i 0)]) ∧ Tr 1 (x.1.2.2.2 = x.1.2.2.2) ∧ True) ∧ allocB (takeS x_6.1 0) =
 allocB t'.snd.1 ∧ ((38 : TypeId) = 38 ∧ Tr 1 ((↑t.2.1.n : Int) = (↑t'.snd.1.n : Int)) ∧ true = true ∧ true = true ∧ true = true ∧ true = true ∧ true = true ∧
 True) ∧ ((3 : TypeId) = 3 ∧ (1 : Nat) = 1 ∧ t.2.2.1 = t'.snd.2.1 ∧ (lC t'.snd.1).length ≤ (lC t.2.1).length ∧ ∀ (i : Nat), i < (lC t'.snd.1).length → [AV.int
 .i64 ((lC t.2.1).getD i 0)] = [AV.int .i64 ((lC t'.snd.1).getD i 0)]) ∧ ((3 : TypeId) = 3 ∧ (1 : Nat) = 1 ∧ t.2.2.2 = t'.snd.2.2 ∧ (lE t'.snd.1).length ≤ (lE
 t.2.1).length ∧ ∀ (i : Nat), i < (lE t'.snd.1).length → [AV.int .i64 ((lE t.2.1).getD i 0)] = [AV.int .i64 ((lE t'.snd.1).getD i 0)]) ∧ True))) (I64 ((↑t.1 :
 Int) + 1) ∧ Exx (Nat × AllocT × Nat × Nat) fun t' => (I t' ∧ m t' < m t) ∧ Tr 1 (((2 : Nat) = 2 ∧ x.2.length = x.2.length ∧ ∀ (i : Nat), i < x.2.length →
 [AV.int .i64 (x.2.getD i act18Z).kind, AV.int .i64 (x.2.getD i act18Z).at_] = [AV.int .i64 (x.2.getD i act18Z).kind, AV.int .i64 (x.2.getD i act18Z).at_]) ∧ Tr
 3 ((true = true ∧ NilNil ∧ (0 : Nat) = 0) ∧ (true = true ∧ NilNil ∧ (0 : Nat) = 0) ∧ (true = true ∧ NilNil ∧ (0 : Nat) = 0 ∧ (1 : Nat) = 1 ∧ (0 : Nat) = 0 ∧ (lC
 t.2.1).length = (lC t'.snd.1).length ∧ t.2.2.1 = t'.snd.2.1) ∧ (true = true ∧ NilNil ∧ (0 : Nat) = 0 ∧ (1 : Nat) = 1 ∧ (0 : Nat) = 0 ∧ (lE t.2.1).length = (lE
 t'.snd.1).length ∧ t.2.2.2 = t'.snd.2.2) ∧ Tr 1 ((↑t.1 : Int) + 1 = (↑t'.fst : Int)) ∧ Tr 132 True)) ∧ true = true ∧ ((24 : TypeId) = 24 ∧ Tr 1 ((↑x.1.1 : Int)
 = (↑x.1.1 : Int)) ∧ ((1 : Nat) = 1 ∧ x.1.2.1.length = x.1.2.1.length ∧ ∀ (i : Nat), i < x.1.2.1.length → [AV.int .i64 (x.1.2.1.getD i 0)] = [AV.int .i64
 (x.1.2.1.getD i 0)]) ∧ ((1 : Nat) = 1 ∧ x.1.2.2.1.length = x.1.2.2.1.length ∧ ∀ (i : Nat), i < x.1.2.2.1.length → [AV.int .i64 (x.1.2.2.1.getD i 0)] = [AV.int
 .i64 (x.1.2.2.1.getD i 0)]) ∧ Tr 1 (x.1.2.2.2 = x.1.2.2.2) ∧ True) ∧ allocB (takeS x_6.1 0) = allocB t'.snd.1 ∧ ((38 : TypeId) = 38 ∧ Tr 1 ((↑t.2.1.n : Int) =
 (↑t'.snd.1.n : Int)) ∧ true = true ∧ true = true ∧ true = true ∧ true = true ∧ true = true ∧ True) ∧ ((3 : TypeId) = 3 ∧ (1 : Nat) = 1 ∧ t.2.2.1 = t'.snd.2.1 ∧
 (lC t'.snd.1).length ≤ (lC t.2.1).length ∧ ∀ (i : Nat), i < (lC t'.snd.1).length → [AV.int .i64 ((lC t.2.1).getD i 0)] = [AV.int .i64 ((lC t'.snd.1).getD i 0)])
 ∧ ((3 : TypeId) = 3 ∧ (1 : Nat) = 1 ∧ t.2.2.2 = t'.snd.2.2 ∧ (lE t'.snd.1).length ≤ (lE t.2.1).length ∧ ∀ (i : Nat), i < (lE t'.snd.1).length → [AV.int .i64
 ((lE t.2.1).getD i 0)] = [AV.int .i64 ((lE t'.snd.1).getD i 0)]) ∧ True)))))) (BC (!decide (takeErr x_6.1 0 = (0 : Int))) (BC (!decide (takeErr x_6.1 0 = (10 :
 Int))) (Exx Unit fun y => ((false = true ∧ True) ∧ true = true ∧ True) ∧ True) (BC (!decide (takeAt x_6.1 0 = (0 : Int))) (Exx Unit fun y => ((false = true ∧
 True) ∧ true = true ∧ True) ∧ True) (I64 ((↑t.1 : Int) + 1) ∧ Exx (Nat × AllocT × Nat × Nat) fun t' => (I t' ∧ m t' < m t) ∧ Tr 1 (((2 : Nat) = 2 ∧ x.2.length =
 x.2.length ∧ ∀ (i : Nat), i < x.2.length → [AV.int .i64 (x.2.getD i act18Z).kind, AV.int .i64 (x.2.getD i act18Z).at_] = [AV.int .i64 (x.2.getD i act18Z).kind,
 AV.int .i64 (x.2.getD i act18Z).at_]) ∧ Tr 3 ((true = true ∧ NilNil ∧ (0 : Nat) = 0) ∧ (true = true ∧ NilNil ∧ (0 : Nat) = 0) ∧ (true = true ∧ NilNil ∧ (0 :
 Nat) = 0 ∧ (1 : Nat) = 1 ∧ (0 : Nat) = 0 ∧ (lC t.2.1).length = (lC t'.snd.1).length ∧ t.2.2.1 = t'.snd.2.1) ∧ (true = true ∧ NilNil ∧ (0 : Nat) = 0 ∧ (1 : Nat)
 = 1 ∧ (0 : Nat) = 0 ∧ (lE t.2.1).length = (lE t'.snd.1).length ∧ t.2.2.2 = t'.snd.2.2) ∧ Tr 1 ((↑t.1 : Int) + 1 = (↑t'.fst : Int)) ∧ Tr 132 True)) ∧ true = true
 ∧ ((24 : TypeId) = 24 ∧ Tr 1 ((↑x.1.1 : Int) = (↑x.1.1 : Int)) ∧ ((1 : Nat) = 1 ∧ x.1.2.1.length = x.1.2.1.length ∧ ∀ (i : Nat), i < x.1.2.1.length → [AV.int
 .i64 (x.1.2.1.getD i 0)] = [AV.int .i64 (x.1.2.1.getD i 0)]) ∧ ((1 : Nat) = 1 ∧ x.1.2.2.1.length = x.1.2.2.1.length ∧ ∀ (i : Nat), i < x.1.2.2.1.length →
 [AV.int .i64 (x.1.2.2.1.getD i 0)] = [AV.int .i64 (x.1.2.2.1.getD i 0)]) ∧ Tr 1 (x.1.2.2.2 = x.1.2.2.2) ∧ True) ∧ allocB (takeS x_6.1 0) = allocB t'.snd.1 ∧
 ((38 : TypeId) = 38 ∧ Tr 1 ((↑t.2.1.n : Int) = (↑t'.snd.1.n : Int)) ∧ true = true ∧ true = true ∧ true = true ∧ true = true ∧ true = true ∧ True) ∧ ((3 :
 TypeId) = 3 ∧ (1 : Nat) = 1 ∧ t.2.2.1 = t'.snd.2.1 ∧ (lC t'.snd.1).length ≤ (lC t.2.1).length ∧ ∀ (i : Nat), i < (lC t'.snd.1).length → [AV.int .i64 ((lC
 t.2.1).getD i 0)] = [AV.int .i64 ((lC t'.snd.1).getD i 0)]) ∧ ((3 : TypeId) = 3 ∧ (1 : Nat) = 1 ∧ t.2.2.2 = t'.snd.2.2 ∧ (lE t'.snd.1).length ≤ (lE
 t.2.1).length ∧ ∀ (i : Nat), i < (lE t'.snd.1).length → [AV.int .i64 ((lE t.2.1).getD i 0)] = [AV.int .i64 ((lE t'.snd.1).getD i 0)]) ∧ True))) (I64 ((↑t.1 :
 Int) + 1) ∧ Exx (Nat × AllocT × Nat × Nat) fun t' => (I t' ∧ m t' < m t) ∧ Tr 1 (((2 : Nat) = 2 ∧ x.2.length = x.2.length ∧ ∀ (i : Nat), i < x.2.length →
 [AV.int .i64 (x.2.getD i act18Z).kind, AV.int .i64 (x.2.getD i act18Z).at_] = [AV.int .i64 (x.2.getD i act18Z).kind, AV.int .i64 (x.2.getD i act18Z).at_]) ∧ Tr
 3 ((true = true ∧ NilNil ∧ (0 : Nat) = 0) ∧ (true = true ∧ NilNil ∧ (0 : Nat) = 0) ∧ (true = true ∧ NilNil ∧ (0 : Nat) = 0 ∧ (1 : Nat) = 1 ∧ (0 : Nat) = 0 ∧ (lC
 t.2.1).length = (lC t'.snd.1).length ∧ t.2.2.1 = t'.snd.2.1) ∧ (true = true ∧ NilNil ∧ (0 : Nat) = 0 ∧ (1 : Nat) = 1 ∧ (0 : Nat) = 0 ∧ (lE t.2.1).length = (lE
 t'.snd.1).length ∧ t.2.2.2 = t'.snd.2.2) ∧ Tr 1 ((↑t.1 : Int) + 1 = (↑t'.fst : Int)) ∧ Tr 132 True)) ∧ true = true ∧ ((24 : TypeId) = 24 ∧ Tr 1 ((↑x.1.1 : Int)
 = (↑x.1.1 : Int)) ∧ ((1 : Nat) = 1 ∧ x.1.2.1.length = x.1.2.1.length ∧ ∀ (i : Nat), i < x.1.2.1.length → [AV.int .i64 (x.1.2.1.getD i 0)] = [AV.int .i64
 (x.1.2.1.getD i 0)]) ∧ ((1 : Nat) = 1 ∧ x.1.2.2.1.length = x.1.2.2.1.length ∧ ∀ (i : Nat), i < x.1.2.2.1.length → [AV.int .i64 (x.1.2.2.1.getD i 0)] = [AV.int
 .i64 (x.1.2.2.1.getD i 0)]) ∧ Tr 1 (x.1.2.2.2 = x.1.2.2.2) ∧ True) ∧ allocB (takeS x_6.1 0) = allocB t'.snd.1 ∧ ((38 : TypeId) = 38 ∧ Tr 1 ((↑t.2.1.n : Int) =
 (↑t'.snd.1.n : Int)) ∧ true = true ∧ true = true ∧ true = true ∧ true = true ∧ true = true ∧ True) ∧ ((3 : TypeId) = 3 ∧ (1 : Nat) = 1 ∧ t.2.2.1 = t'.snd.2.1 ∧
 (lC t'.snd.1).length ≤ (lC t.2.1).length ∧ ∀ (i : Nat), i < (lC t'.snd.1).length → [AV.int .i64 ((lC t.2.1).getD i 0)] = [AV.int .i64 ((lC t'.snd.1).getD i 0)])
 ∧ ((3 : TypeId) = 3 ∧ (1 : Nat) = 1 ∧ t.2.2.2 = t'.snd.2.2 ∧ (lE t'.snd.1).length ≤ (lE t.2.1).length ∧ ∀ (i : Nat), i < (lE t'.snd.1).length → [AV.int .i64
 ((lE t.2.1).getD i 0)] = [AV.int .i64 ((lE t'.snd.1).getD i 0)]) ∧ True))) (BC (decide (takeErr x_4.1 x_4.1.r = (0 : Int))) (BC (decide (takeAt x_4.1 x_4.1.r <
 (0 : Int))) (Exx Unit fun y => ((false = true ∧ True) ∧ true = true ∧ True) ∧ True) (BC (decide ((↑t.2.1.n : Int) ≤ takeAt x_4.1 x_4.1.r)) (Exx Unit fun y =>
 ((false = true ∧ True) ∧ true = true ∧ True) ∧ True) (Exx (List Int × Int) fun x_6 => (((0 + (lC t.2.1).length ≤ (lC t.2.1).length ∧ (lC t.2.1).length =
 x_6.1.length ∧ ∀ (i : Nat), i < x_6.1.length → [AV.int .i64 ((lC t.2.1).getD (0 + i) 0)] = [AV.int .i64 (x_6.1.getD i 0)]) ∧ Tr 1 (takeAt x_4.1 x_4.1.r = x_6.2)
 ∧ True) ∧ true = true ∧ True) ∧ (IntL x_6.1 ∧ I64 x_6.2) ∧ ∀ (y : Unit), True → BC (decide (x_6.2 ∈ x_6.1)) (Exx Unit fun y => ((false = true ∧ True) ∧ true =
 true ∧ True) ∧ True) (Exx (List Int × Int) fun x_7 => (((0 + (lE t.2.1).length ≤ (lE t.2.1).length ∧ (lE t.2.1).length = x_7.1.length ∧ ∀ (i : Nat), i <
 x_7.1.length → [AV.int .i64 ((lE t.2.1).getD (0 + i) 0)] = [AV.int .i64 (x_7.1.getD i 0)]) ∧ Tr 1 (takeAt x_4.1 x_4.1.r = x_7.2) ∧ True) ∧ true = true ∧ True) ∧
 (IntL x_7.1 ∧ I64 x_7.2) ∧ ∀ (y : Unit), True → BC (decide (x_7.2 ∈ x_7.1)) (Exx Unit fun y => ((false = true ∧ True) ∧ true = true ∧ True) ∧ True) (BC (!decide
 (takeErr x_4.1 x_4.1.r = (0 : Int))) (BC (!decide (takeErr x_4.1 x_4.1.r = (10 : Int))) (Exx Unit fun y => ((false = true ∧ True) ∧ true = true ∧ True) ∧ True)
 (BC (!decide (takeAt x_4.1 x_4.1.r = (0 : Int))) (Exx Unit fun y => ((false = true ∧ True) ∧ true = true ∧ True) ∧ True) (I64 ((↑t.1 : Int) + 1) ∧ Exx (Nat ×
 AllocT × Nat × Nat) fun t' => (I t' ∧ m t' < m t) ∧ Tr 1 (((2 : Nat) = 2 ∧ x.2.length = x.2.length ∧ ∀ (i : Nat), i < x.2.length → [AV.int .i64 (x.2.getD i
 act18Z).kind, AV.int .i64 (x.2.getD i act18Z).at_] = [AV.int .i64 (x.2.getD i act18Z).kind, AV.int .i64 (x.2.getD i act18Z).at_]) ∧ Tr 3 ((true = true ∧ NilNil
 ∧ (0 : Nat) = 0) ∧ (true = true ∧ NilNil ∧ (0 : Nat) = 0) ∧ (true = true ∧ NilNil ∧ (0 : Nat) = 0 ∧ (1 : Nat) = 1 ∧ (0 : Nat) = 0 ∧ (lC t.2.1).length = (lC
 t'.snd.1).length ∧ t.2.2.1 = t'.snd.2.1) ∧ (true = true ∧ NilNil ∧ (0 : Nat) = 0 ∧ (1 : Nat) = 1 ∧ (0 : Nat) = 0 ∧ (lE t.2.1).length = (lE t'.snd.1).length ∧
 t.2.2.2 = t'.snd.2.2) ∧ Tr 1 ((↑t.1 : Int) + 1 = (↑t'.fst : Int)) ∧ Tr 132 True)) ∧ true = true ∧ ((24 : TypeId) = 24 ∧ Tr 1 ((↑x.1.1 : Int) = (↑x.1.1 : Int)) ∧
 ((1 : Nat) = 1 ∧ x.1.2.1.length = x.1.2.1.length ∧ ∀ (i : Nat), i < x.1.2.1.length → [AV.int .i64 (x.1.2.1.getD i 0)] = [AV.int .i64 (x.1.2.1.getD i 0)]) ∧ ((1
 : Nat) = 1 ∧ x.1.2.2.1.length = x.1.2.2.1.length ∧ ∀ (i : Nat), i < x.1.2.2.1.length → [AV.int .i64 (x.1.2.2.1.getD i 0)] = [AV.int .i64 (x.1.2.2.1.getD i 0)])
 ∧ Tr 1 (x.1.2.2.2 = x.1.2.2.2) ∧ True) ∧ allocB (takeS x_4.1 x_4.1.r) = allocB t'.snd.1 ∧ ((38 : TypeId) = 38 ∧ Tr 1 ((↑t.2.1.n : Int) = (↑t'.snd.1.n : Int)) ∧
 true = true ∧ true = true ∧ true = true ∧ true = true ∧ true = true ∧ True) ∧ ((3 : TypeId) = 3 ∧ (1 : Nat) = 1 ∧ t.2.2.1 = t'.snd.2.1 ∧ (lC t'.snd.1).length ≤
 (lC t.2.1).length ∧ ∀ (i : Nat), i < (lC t'.snd.1).length → [AV.int .i64 ((lC t.2.1).getD i 0)] = [AV.int .i64 ((lC t'.snd.1).getD i 0)]) ∧ ((3 : TypeId) = 3 ∧
 (1 : Nat) = 1 ∧ t.2.2.2 = t'.snd.2.2 ∧ (lE t'.snd.1).length ≤ (lE t.2.1).length ∧ ∀ (i : Nat), i < (lE t'.snd.1).length → [AV.int .i64 ((lE t.2.1).getD i 0)] =
 [AV.int .i64 ((lE t'.snd.1).getD i 0)]) ∧ True))) (I64 ((↑t.1 : Int) + 1) ∧ Exx (Nat × AllocT × Nat × Nat) fun t' => (I t' ∧ m t' < m t) ∧ Tr 1 (((2 : Nat) = 2
 ∧ x.2.length = x.2.length ∧ ∀ (i : Nat), i < x.2.length → [AV.int .i64 (x.2.getD i act18Z).kind, AV.int .i64 (x.2.getD i act18Z).at_] = [AV.int .i64 (x.2.getD i
 act18Z).kind, AV.int .i64 (x.2.getD i act18Z).at_]) ∧ Tr 3 ((true = true ∧ NilNil ∧ (0 : Nat) = 0) ∧ (true = true ∧ NilNil ∧ (0 : Nat) = 0) ∧ (true = true ∧
 NilNil ∧ (0 : Nat) = 0 ∧ (1 : Nat) = 1 ∧ (0 : Nat) = 0 ∧ (lC t.2.1).length = (lC t'.snd.1).length ∧ t.2.2.1 = t'.snd.2.1) ∧ (true = true ∧ NilNil ∧ (0 : Nat) =
 0 ∧ (1 : Nat) = 1 ∧ (0 : Nat) = 0 ∧ (lE t.2.1).length = (lE t'.snd.1).length ∧ t.2.2.2 = t'.snd.2.2) ∧ Tr 1 ((↑t.1 : Int) + 1 = (↑t'.fst : Int)) ∧ Tr 132 True))
 ∧ true = true ∧ ((24 : TypeId) = 24 ∧ Tr 1 ((↑x.1.1 : Int) = (↑x.1.1 : Int)) ∧ ((1 : Nat) = 1 ∧ x.1.2.1.length = x.1.2.1.length ∧ ∀ (i : Nat), i <
 x.1.2.1.length → [AV.int .i64 (x.1.2.1.getD i 0)] = [AV.int .i64 (x.1.2.1.getD i 0)]) ∧ ((1 : Nat) = 1 ∧ x.1.2.2.1.length = x.1.2.2.1.length ∧ ∀ (i : Nat), i <
 x.1.2.2.1.length → [AV.int .i64 (x.1.2.2.1.getD i 0)] = [AV.int .i64 (x.1.2.2.1.getD i 0)]) ∧ Tr 1 (x.1.2.2.2 = x.1.2.2.2) ∧ True) ∧ allocB (takeS x_4.1
 x_4.1.r) = allocB t'.snd.1 ∧ ((38 : TypeId) = 38 ∧ Tr 1 ((↑t.2.1.n : Int) = (↑t'.snd.1.n : Int)) ∧ true = true ∧ true = true ∧ true = true ∧ true = true ∧ true
 = true ∧ True) ∧ ((3 : TypeId) = 3 ∧ (1 : Nat) = 1 ∧ t.2.2.1 = t'.snd.2.1 ∧ (lC t'.snd.1).length ≤ (lC t.2.1).length ∧ ∀ (i : Nat), i < (lC t'.snd.1).length →
 [AV.int .i64 ((lC t.2.1).getD i 0)] = [AV.int .i64 ((lC t'.snd.1).getD i 0)]) ∧ ((3 : TypeId) = 3 ∧ (1 : Nat) = 1 ∧ t.2.2.2 = t'.snd.2.2 ∧ (lE t'.snd.1).length
 ≤ (lE t.2.1).length ∧ ∀ (i : Nat), i < (lE t'.snd.1).length → [AV.int .i64 ((lE t.2.1).getD i 0)] = [AV.int .i64 ((lE t'.snd.1).getD i 0)]) ∧ True)))))) (BC
 (!decide (takeErr x_4.1 x_4.1.r = (0 : Int))) (BC (!decide (takeErr x_4.1 x_4.1.r = (10 : Int))) (Exx Unit fun y => ((false = true ∧ True) ∧ true = true ∧ True)
 ∧ True) (BC (!decide (takeAt x_4.1 x_4.1.r = (0 : Int))) (Exx Unit fun y => ((false = true ∧ True) ∧ true = true ∧ True) ∧ True) (I64 ((↑t.1 : Int) + 1) ∧ Exx
 (Nat × AllocT × Nat × Nat) fun t' => (I t' ∧ m t' < m t) ∧ Tr 1 (((2 : Nat) = 2 ∧ x.2.length = x.2.length ∧ ∀ (i : Nat), i < x.2.length → [AV.int .i64 (x.2.getD
 i act18Z).kind, AV.int .i64 (x.2.getD i act18Z).at_] = [AV.int .i64 (x.2.getD i act18Z).kind, AV.int .i64 (x.2.getD i act18Z).at_]) ∧ Tr 3 ((true = true ∧
 NilNil ∧ (0 : Nat) = 0) ∧ (true = true ∧ NilNil ∧ (0 : Nat) = 0) ∧ (true = true ∧ NilNil ∧ (0 : Nat) = 0 ∧ (1 : Nat) = 1 ∧ (0 : Nat) = 0 ∧ (lC t.2.1).length =
 (lC t'.snd.1).length ∧ t.2.2.1 = t'.snd.2.1) ∧ (true = true ∧ NilNil ∧ (0 : Nat) = 0 ∧ (1 : Nat) = 1 ∧ (0 : Nat) = 0 ∧ (lE t.2.1).length = (lE t'.snd.1).length
 ∧ t.2.2.2 = t'.snd.2.2) ∧ Tr 1 ((↑t.1 : Int) + 1 = (↑t'.fst : Int)) ∧ Tr 132 True)) ∧ true = true ∧ ((24 : TypeId) = 24 ∧ Tr 1 ((↑x.1.1 : Int) = (↑x.1.1 : Int))
 ∧ ((1 : Nat) = 1 ∧ x.1.2.1.length = x.1.2.1.length ∧ ∀ (i : Nat), i < x.1.2.1.length → [AV.int .i64 (x.1.2.1.getD i 0)] = [AV.int .i64 (x.1.2.1.getD i 0)]) ∧
 ((1 : Nat) = 1 ∧ x.1.2.2.1.length = x.1.2.2.1.length ∧ ∀ (i : Nat), i < x.1.2.2.1.length → [AV.int .i64 (x.1.2.2.1.getD i 0)] = [AV.int .i64 (x.1.2.2.1.getD i
 0)]) ∧ Tr 1 (x.1.2.2.2 = x.1.2.2.2) ∧ True) ∧ allocB (takeS x_4.1 x_4.1.r) = allocB t'.snd.1 ∧ ((38 : TypeId) = 38 ∧ Tr 1 ((↑t.2.1.n : Int) = (↑t'.snd.1.n :
 Int)) ∧ true = true ∧ true = true ∧ true = true ∧ true = true ∧ true = true ∧ True) ∧ ((3 : TypeId) = 3 ∧ (1 : Nat) = 1 ∧ t.2.2.1 = t'.snd.2.1 ∧ (lC
 t'.snd.1).length ≤ (lC t.2.1).length ∧ ∀ (i : Nat), i < (lC t'.snd.1).length → [AV.int .i64 ((lC t.2.1).getD i 0)] = [AV.int .i64 ((lC t'.snd.1).getD i 0)]) ∧
 ((3 : TypeId) = 3 ∧ (1 : Nat) = 1 ∧ t.2.2.2 = t'.snd.2.2 ∧ (lE t'.snd.1).length ≤ (lE t.2.1).length ∧ ∀ (i : Nat), i < (lE t'.snd.1).length → [AV.int .i64 ((lE
 t.2.1).getD i 0)] = [AV.int .i64 ((lE t'.snd.1).getD i 0)]) ∧ True))) (I64 ((↑t.1 : Int) + 1) ∧ Exx (Nat × AllocT × Nat × Nat) fun t' => (I t' ∧ m t' < m t) ∧
 Tr 1 (((2 : Nat) = 2 ∧ x.2.length = x.2.length ∧ ∀ (i : Nat), i < x.2.length → [AV.int .i64 (x.2.getD i act18Z).kind, AV.int .i64 (x.2.getD i act18Z).at_] =
 [AV.int .i64 (x.2.getD i act18Z).kind, AV.int .i64 (x.2.getD i act18Z).at_]) ∧ Tr 3 ((true = true ∧ NilNil ∧ (0 : Nat) = 0) ∧ (true = true ∧ NilNil ∧ (0 : Nat)
 = 0) ∧ (true = true ∧ NilNil ∧ (0 : Nat) = 0 ∧ (1 : Nat) = 1 ∧ (0 : Nat) = 0 ∧ (lC t.2.1).length = (lC t'.snd.1).length ∧ t.2.2.1 = t'.snd.2.1) ∧ (true = true ∧
 NilNil ∧ (0 : Nat) = 0 ∧ (1 : Nat) = 1 ∧ (0 : Nat) = 0 ∧ (lE t.2.1).length = (lE t'.snd.1).length ∧ t.2.2.2 = t'.snd.2.2) ∧ Tr 1 ((↑t.1 : Int) + 1 = (↑t'.fst :
 Int)) ∧ Tr 132 True)) ∧ true = true ∧ ((24 : TypeId) = 24 ∧ Tr 1 ((↑x.1.1 : Int) = (↑x.1.1 : Int)) ∧ ((1 : Nat) = 1 ∧ x.1.2.1.length = x.1.2.1.length ∧ ∀ (i :
 Nat), i < x.1.2.1.length → [AV.int .i64 (x.1.2.1.getD i 0)] = [AV.int .i64 (x.1.2.1.getD i 0)]) ∧ ((1 : Nat) = 1 ∧ x.1.2.2.1.length = x.1.2.2.1.length ∧ ∀ (i :
 Nat), i < x.1.2.2.1.length → [AV.int .i64 (x.1.2.2.1.getD i 0)] = [AV.int .i64 (x.1.2.2.1.getD i 0)]) ∧ Tr 1 (x.1.2.2.2 = x.1.2.2.2) ∧ True) ∧ allocB (takeS
 x_4.1 x_4.1.r) = allocB t'.snd.1 ∧ ((38 : TypeId) = 38 ∧ Tr 1 ((↑t.2.1.n : Int) = (↑t'.snd.1.n : Int)) ∧ true = true ∧ true = true ∧ true = true ∧ true = true ∧
 true = true ∧ True) ∧ ((3 : TypeId) = 3 ∧ (1 : Nat) = 1 ∧ t.2.2.1 = t'.snd.2.1 ∧ (lC t'.snd.1).length ≤ (lC t.2.1).length ∧ ∀ (i : Nat), i < (lC
 t'.snd.1).length → [AV.int .i64 ((lC t.2.1).getD i 0)] = [AV.int .i64 ((lC t'.snd.1).getD i 0)]) ∧ ((3 : TypeId) = 3 ∧ (1 : Nat) = 1 ∧ t.2.2.2 = t'.snd.2.2 ∧
 (lE t'.snd.1).length ≤ (lE t.2.1).length ∧ ∀ (i : Nat), i < (lE t'.snd.1).length → [AV.int .i64 ((lE t.2.1).getD i 0)] = [AV.int .i64 ((lE t'.snd.1).getD i 0)])
 ∧ True)))) (BC (decide (takeErr x_4.1 x_4.1.r = (0 : Int))) (BC (decide (takeAt x_4.1 x_4.1.r < (0 : Int))) (Exx Unit fun y => ((false = true ∧ True) ∧ true =
 true ∧ True) ∧ True) (BC (decide ((↑t.2.1.n : Int) ≤ takeAt x_4.1 x_4.1.r)) (Exx Unit fun y => ((false = true ∧ True) ∧ true = true ∧ True) ∧ True) (Exx (List
 Int × Int) fun x_6 => (((0 + (lC t.2.1).length ≤ (lC t.2.1).length ∧ (lC t.2.1).length = x_6.1.length ∧ ∀ (i : Nat), i < x_6.1.length → [AV.int .i64 ((lC
 t.2.1).getD (0 + i) 0)] = [AV.int .i64 (x_6.1.getD i 0)]) ∧ Tr 1 (takeAt x_4.1 x_4.1.r = x_6.2) ∧ True) ∧ true = true ∧ True) ∧ (IntL x_6.1 ∧ I64 x_6.2) ∧ ∀ (y
 : Unit), True → BC (decide (x_6.2 ∈ x_6.1)) (Exx Unit fun y => ((false = true ∧ True) ∧ true = true ∧ True) ∧ True) (Exx (List Int × Int) fun x_7 => (((0 + (lE
 t.2.1).length ≤ (lE t.2.1).length ∧ (lE t.2.1).length = x_7.1.length ∧ ∀ (i : Nat), i < x_7.1.length → [AV.int .i64 ((lE t.2.1).getD (0 + i) 0)] = [AV.int .i64
 (x_7.1.getD i 0)]) ∧ Tr 1 (takeAt x_4.1 x_4.1.r = x_7.2) ∧ True) ∧ true = true ∧ True) ∧ (IntL x_7.1 ∧ I64 x_7.2) ∧ ∀ (y : Unit), True → BC (decide (x_7.2 ∈
 x_7.1)) (Exx Unit fun y => ((false = true ∧ True) ∧ true = true ∧ True) ∧ True) (BC (!decide (takeErr x_4.1 x_4.1.r = (0 : Int))) (BC (!decide (takeErr x_4.1
 x_4.1.r = (10 : Int))) (Exx Unit fun y => ((false = true ∧ True) ∧ true = true ∧ True) ∧ True) (BC (!decide (takeAt x_4.1 x_4.1.r = (0 : Int))) (Exx Unit fun y
 => ((false = true ∧ True) ∧ true = true ∧ True) ∧ True) (I64 ((↑t.1 : Int) + 1) ∧ Exx (Nat × AllocT × Nat × Nat) fun t' => (I t' ∧ m t' < m t) ∧ Tr 1 (((2 :
 Nat) = 2 ∧ x.2.length = x.2.length ∧ ∀ (i : Nat), i < x.2.length → [AV.int .i64 (x.2.getD i act18Z).kind, AV.int .i64 (x.2.getD i act18Z).at_] = [AV.int .i64
 (x.2.getD i act18Z).kind, AV.int .i64 (x.2.getD i act18Z).at_]) ∧ Tr 3 ((true = true ∧ NilNil ∧ (0 : Nat) = 0) ∧ (true = true ∧ NilNil ∧ (0 : Nat) = 0) ∧ (true
 = true ∧ NilNil ∧ (0 : Nat) = 0 ∧ (1 : Nat) = 1 ∧ (0 : Nat) = 0 ∧ (lC t.2.1).length = (lC t'.snd.1).length ∧ t.2.2.1 = t'.snd.2.1) ∧ (true = true ∧ NilNil ∧ (0
 : Nat) = 0 ∧ (1 : Nat) = 1 ∧ (0 : Nat) = 0 ∧ (lE t.2.1).length = (lE t'.snd.1).length ∧ t.2.2.2 = t'.snd.2.2) ∧ Tr 1 ((↑t.1 : Int) + 1 = (↑t'.fst : Int)) ∧ Tr
 132 True)) ∧ true = true ∧ ((24 : TypeId) = 24 ∧ Tr 1 ((↑x.1.1 : Int) = (↑x.1.1 : Int)) ∧ ((1 : Nat) = 1 ∧ x.1.2.1.length = x.1.2.1.length ∧ ∀ (i : Nat), i <
 x.1.2.1.length → [AV.int .i64 (x.1.2.1.getD i 0)] = [AV.int .i64 (x.1.2.1.getD i 0)]) ∧ ((1 : Nat) = 1 ∧ x.1.2.2.1.length = x.1.2.2.1.length ∧ ∀ (i : Nat), i <
 x.1.2.2.1.length → [AV.int .i64 (x.1.2.2.1.getD i 0)] = [AV.int .i64 (x.1.2.2.1.getD i 0)]) ∧ Tr 1 (x.1.2.2.2 = x.1.2.2.2) ∧ True) ∧ allocB (takeS x_4.1
 x_4.1.r) = allocB t'.snd.1 ∧ ((38 : TypeId) = 38 ∧ Tr 1 ((↑t.2.1.n : Int) = (↑t'.snd.1.n : Int)) ∧ true = true ∧ true = true ∧ true = true ∧ true = true ∧ true
 = true ∧ True) ∧ ((3 : TypeId) = 3 ∧ (1 : Nat) = 1 ∧ t.2.2.1 = t'.snd.2.1 ∧ (lC t'.snd.1).length ≤ (lC t.2.1).length ∧ ∀ (i : Nat), i < (lC t'.snd.1).length →
 [AV.int .i64 ((lC t.2.1).getD i 0)] = [AV.int .i64 ((lC t'.snd.1).getD i 0)]) ∧ ((3 : TypeId) = 3 ∧ (1 : Nat) = 1 ∧ t.2.2.2 = t'.snd.2.2 ∧ (lE t'.snd.1).length
 ≤ (lE t.2.1).length ∧ ∀ (i : Nat), i < (lE t'.snd.1).length → [AV.int .i64 ((lE t.2.1).getD i 0)] = [AV.int .i64 ((lE t'.snd.1).getD i 0)]) ∧ True))) (I64
 ((↑t.1 : Int) + 1) ∧ Exx (Nat × AllocT × Nat × Nat) fun t' => (I t' ∧ m t' < m t) ∧ Tr 1 (((2 : Nat) = 2 ∧ x.2.length = x.2.length ∧ ∀ (i : Nat), i < x.2.length
 → [AV.int .i64 (x.2.getD i act18Z).kind, AV.int .i64 (x.2.getD i act18Z).at_] = [AV.int .i64 (x.2.getD i act18Z).kind, AV.int .i64 (x.2.getD i act18Z).at_]) ∧
 Tr 3 ((true = true ∧ NilNil ∧ (0 : Nat) = 0) ∧ (true = true ∧ NilNil ∧ (0 : Nat) = 0) ∧ (true = true ∧ NilNil ∧ (0 : Nat) = 0 ∧ (1 : Nat) = 1 ∧ (0 : Nat) = 0 ∧
 (lC t.2.1).length = (lC t'.snd.1).length ∧ t.2.2.1 = t'.snd.2.1) ∧ (true = true ∧ NilNil ∧ (0 : Nat) = 0 ∧ (1 : Nat) = 1 ∧ (0 : Nat) = 0 ∧ (lE t.2.1).length =
 (lE t'.snd.1).length ∧ t.2.2.2 = t'.snd.2.2) ∧ Tr 1 ((↑t.1 : Int) + 1 = (↑t'.fst : Int)) ∧ Tr 132 True)) ∧ true = true ∧ ((24 : TypeId) = 24 ∧ Tr 1 ((↑x.1.1 :
 Int) = (↑x.1.1 : Int)) ∧ ((1 : Nat) = 1 ∧ x.1.2.1.length = x.1.2.1.length ∧ ∀ (i : Nat), i < x.1.2.1.length → [AV.int .i64 (x.1.2.1.getD i 0)] = [AV.int .i64
 (x.1.2.1.getD i 0)]) ∧ ((1 : Nat) = 1 ∧ x.1.2.2.1.length = x.1.2.2.1.length ∧ ∀ (i : Nat), i < x.1.2.2.1.length → [AV.int .i64 (x.1.2.2.1.getD i 0)] = [AV.int
 .i64 (x.1.2.2.1.getD i 0)]) ∧ Tr 1 (x.1.2.2.2 = x.1.2.2.2) ∧ True) ∧ allocB (takeS x_4.1 x_4.1.r) = allocB t'.snd.1 ∧ ((38 : TypeId) = 38 ∧ Tr 1 ((↑t.2.1.n :
 Int) = (↑t'.snd.1.n : Int)) ∧ true = true ∧ true = true ∧ true = true ∧ true = true ∧ true = true ∧ True) ∧ ((3 : TypeId) = 3 ∧ (1 : Nat) = 1 ∧ t.2.2.1 =
 t'.snd.2.1 ∧ (lC t'.snd.1).length ≤ (lC t.2.1).length ∧ ∀ (i : Nat), i < (lC t'.snd.1).length → [AV.int .i64 ((lC t.2.1).getD i 0)] = [AV.int .i64 ((lC
 t'.snd.1).getD i 0)]) ∧ ((3 : TypeId) = 3 ∧ (1 : Nat) = 1 ∧ t.2.2.2 = t'.snd.2.2 ∧ (lE t'.snd.1).length ≤ (lE t.2.1).length ∧ ∀ (i : Nat), i < (lE
 t'.snd.1).length → [AV.int .i64 ((lE t.2.1).getD i 0)] = [AV.int .i64 ((lE t'.snd.1).getD i 0)]) ∧ True)))))) (BC (!decide (takeErr x_4.1 x_4.1.r = (0 : Int)))
 (BC (!decide (takeErr x_4.1 x_4.1.r = (10 : Int))) (Exx Unit fun y => ((false = true ∧ True) ∧ true = true ∧ True) ∧ True) (BC (!decide (takeAt x_4.1 x_4.1.r =
 (0 : Int))) (Exx Unit fun y => ((false = true ∧ True) ∧ true = true ∧ True) ∧ True) (I64 ((↑t.1 : Int) + 1) ∧ Exx (Nat × AllocT × Nat × Nat) fun t' => (I t' ∧ m
 t' < m t) ∧ Tr 1 (((2 : Nat) = 2 ∧ x.2.length = x.2.length ∧ ∀ (i : Nat), i < x.2.length → [AV.int .i64 (x.2.getD i act18Z).kind, AV.int .i64 (x.2.getD i
 act18Z).at_] = [AV.int .i64 (x.2.getD i act18Z).kind, AV.int .i64 (x.2.getD i act18Z).at_]) ∧ Tr 3 ((true = true ∧ NilNil ∧ (0 : Nat) = 0) ∧ (true = true ∧
 NilNil ∧ (0 : Nat) = 0) ∧ (true = true ∧ NilNil ∧ (0 : Nat) = 0 ∧ (1 : Nat) = 1 ∧ (0 : Nat) = 0 ∧ (lC t.2.1).length = (lC t'.snd.1).length ∧ t.2.2.1 =
 t'.snd.2.1) ∧ (true = true ∧ NilNil ∧ (0 : Nat) = 0 ∧ (1 : Nat) = 1 ∧ (0 : Nat) = 0 ∧ (lE t.2.1).length = (lE t'.snd.1).length ∧ t.2.2.2 = t'.snd.2.2) ∧ Tr 1
 ((↑t.1 : Int) + 1 = (↑t'.fst : Int)) ∧ Tr 132 True)) ∧ true = true ∧ ((24 : TypeId) = 24 ∧ Tr 1 ((↑x.1.1 : Int) = (↑x.1.1 : Int)) ∧ ((1 : Nat) = 1 ∧
 x.1.2.1.length = x.1.2.1.length ∧ ∀ (i : Nat), i < x.1.2.1.length → [AV.int .i64 (x.1.2.1.getD i 0)] = [AV.int .i64 (x.1.2.1.getD i 0)]) ∧ ((1 : Nat) = 1 ∧
 x.1.2.2.1.length = x.1.2.2.1.length ∧ ∀ (i : Nat), i < x.1.2.2.1.length → [AV.int .i64 (x.1.2.2.1.getD i 0)] = [AV.int .i64 (x.1.2.2.1.getD i 0)]) ∧ Tr 1
 (x.1.2.2.2 = x.1.2.2.2) ∧ True) ∧ allocB (takeS x_4.1 x_4.1.r) = allocB t'.snd.1 ∧ ((38 : TypeId) = 38 ∧ Tr 1 ((↑t.2.1.n : Int) = (↑t'.snd.1.n : Int)) ∧ true =
 true ∧ true = true ∧ true = true ∧ true = true ∧ true = true ∧ True) ∧ ((3 : TypeId) = 3 ∧ (1 : Nat) = 1 ∧ t.2.2.1 = t'.snd.2.1 ∧ (lC t'.snd.1).length ≤ (lC
 t.2.1).length ∧ ∀ (i : Nat), i < (lC t'.snd.1).length → [AV.int .i64 ((lC t.2.1).getD i 0)] = [AV.int .i64 ((lC t'.snd.1).getD i 0)]) ∧ ((3 : TypeId) = 3 ∧ (1 :
 Nat) = 1 ∧ t.2.2.2 = t'.snd.2.2 ∧ (lE t'.snd.1).length ≤ (lE t.2.1).length ∧ ∀ (i : Nat), i < (lE t'.snd.1).length → [AV.int .i64 ((lE t.2.1).getD i 0)] =
 [AV.int .i64 ((lE t'.snd.1).getD i 0)]) ∧ True))) (I64 ((↑t.1 : Int) + 1) ∧ Exx (Nat × AllocT × Nat × Nat) fun t' => (I t' ∧ m t' < m t) ∧ Tr 1 (((2 : Nat) = 2
 ∧ x.2.length = x.2.length ∧ ∀ (i : Nat), i < x.2.length → [AV.int .i64 (x.2.getD i act18Z).kind, AV.int .i64 (x.2.getD i act18Z).at_] = [AV.int .i64 (x.2.getD i
 act18Z).kind, AV.int .i64 (x.2.getD i act18Z).at_]) ∧ Tr 3 ((true = true ∧ NilNil ∧ (0 : Nat) = 0) ∧ (true = true ∧ NilNil ∧ (0 : Nat) = 0) ∧ (true = true ∧
 NilNil ∧ (0 : Nat) = 0 ∧ (1 : Nat) = 1 ∧ (0 : Nat) = 0 ∧ (lC t.2.1).length = (lC t'.snd.1).length ∧ t.2.2.1 = t'.snd.2.1) ∧ (true = true ∧ NilNil ∧ (0 : Nat) =
 0 ∧ (1 : Nat) = 1 ∧ (0 : Nat) = 0 ∧ (lE t.2.1).length = (lE t'.snd.1).length ∧ t.2.2.2 = t'.snd.2.2) ∧ Tr 1 ((↑t.1 : Int) + 1 = (↑t'.fst : Int)) ∧ Tr 132 True))
 ∧ true = true ∧ ((24 : TypeId) = 24 ∧ Tr 1 ((↑x.1.1 : Int) = (↑x.1.1 : Int)) ∧ ((1 : Nat) = 1 ∧ x.1.2.1.length = x.1.2.1.length ∧ ∀ (i : Nat), i <
 x.1.2.1.length → [AV.int .i64 (x.1.2.1.getD i 0)] = [AV.int .i64 (x.1.2.1.getD i 0)]) ∧ ((1 : Nat) = 1 ∧ x.1.2.2.1.length = x.1.2.2.1.length ∧ ∀ (i : Nat), i <
 x.1.2.2.1.length → [AV.int .i64 (x.1.2.2.1.getD i 0)] = [AV.int .i64 (x.1.2.2.1.getD i 0)]) ∧ Tr 1 (x.1.2.2.2 = x.1.2.2.2) ∧ True) ∧ allocB (takeS x_4.1
 x_4.1.r) = allocB t'.snd.1 ∧ ((38 : TypeId) = 38 ∧ Tr 1 ((↑t.2.1.n : Int) = (↑t'.snd.1.n : Int)) ∧ true = true ∧ true = true ∧ true = true ∧ true = true ∧ true
 = true ∧ True) ∧ ((3 : TypeId) = 3 ∧ (1 : Nat) = 1 ∧ t.2.2.1 = t'.snd.2.1 ∧ (lC t'.snd.1).length ≤ (lC t.2.1).length ∧ ∀ (i : Nat), i < (lC t'.snd.1).length →
 [AV.int .i64 ((lC t.2.1).getD i 0)] = [AV.int .i64 ((lC t'.snd.1).getD i 0)]) ∧ ((3 : TypeId) = 3 ∧ (1 : Nat) = 1 ∧ t.2.2.2 = t'.snd.2.2 ∧ (lE t'.snd.1).length
 ≤ (lE t.2.1).length ∧ ∀ (i : Nat), i < (lE t'.snd.1).length → [AV.int .i64 ((lE t.2.1).getD i 0)] = [AV.int .i64 ((lE t'.snd.1).getD i 0)]) ∧ True)))) (BC
 (decide (x_3.1 % x_3.2 = (2 : Int))) (((0 : Int) ≤ (↑t.1 : Int) ∧ (↑t.1 : Int) < (↑x.2.length : Int)) ∧ Exx (AllocT × Int) fun x_4 => (((true = true ∧ NilNil ∧
 (0 : Nat) = 0) ∧ Tr 1 ((x.2.getD (↑t.1 : Int).toNat act18Z).at_ = x_4.2) ∧ True) ∧ true = true ∧ allocB t.2.1 = allocB x_4.1 ∧ True) ∧ (AllocW x_4.1 ∧ I64
 x_4.2) ∧ ∀ (y : Unit), True → I64 ((↑t.1 : Int) + 1) ∧ Exx (Nat × AllocT × Nat × Nat) fun t' => (I t' ∧ m t' < m t) ∧ Tr 1 (((2 : Nat) = 2 ∧ x.2.length =
 x.2.length ∧ ∀ (i : Nat), i < x.2.length → [AV.int .i64 (x.2.getD i act18Z).kind, AV.int .i64 (x.2.getD i act18Z).at_] = [AV.int .i64 (x.2.getD i act18Z).kind,
 AV.int .i64 (x.2.getD i act18Z).at_]) ∧ Tr 3 ((true = true ∧ NilNil ∧ (0 : Nat) = 0) ∧ (true = true ∧ NilNil ∧ (0 : Nat) = 0) ∧ (true = true ∧ NilNil ∧ (0 :
 Nat) = 0 ∧ (1 : Nat) = 1 ∧ (0 : Nat) = 0 ∧ (lC t.2.1).length = (lC t'.snd.1).length ∧ t.2.2.1 = t'.snd.2.1) ∧ (true = true ∧ NilNil ∧ (0 : Nat) = 0 ∧ (1 : Nat)
 = 1 ∧ (0 : Nat) = 0 ∧ (lE t.2.1).length = (lE t'.snd.1).length ∧ t.2.2.2 = t'.snd.2.2) ∧ Tr 1 ((↑t.1 : Int) + 1 = (↑t'.fst : Int)) ∧ Tr 132 True)) ∧ true = true
 ∧ ((24 : TypeId) = 24 ∧ Tr 1 ((↑x.1.1 : Int) = (↑x.1.1 : Int)) ∧ ((1 : Nat) = 1 ∧ x.1.2.1.length = x.1.2.1.length ∧ ∀ (i : Nat), i < x.1.2.1.length → [AV.int
 .i64 (x.1.2.1.getD i 0)] = [AV.int .i64 (x.1.2.1.getD i 0)]) ∧ ((1 : Nat) = 1 ∧ x.1.2.2.1.length = x.1.2.2.1.length ∧ ∀ (i : Nat), i < x.1.2.2.1.length →
 [AV.int .i64 (x.1.2.2.1.getD i 0)] = [AV.int .i64 (x.1.2.2.1.getD i 0)]) ∧ Tr 1 (x.1.2.2.2 = x.1.2.2.2) ∧ True) ∧ allocB (giveS x_4.1 x_4.2) = allocB t'.snd.1 ∧
 ((38 : TypeId) = 38 ∧ Tr 1 ((↑t.2.1.n : Int) = (↑t'.snd.1.n : Int)) ∧ true = true ∧ true = true ∧ true = true ∧ true = true ∧ true = true ∧ True) ∧ ((3 :
 TypeId) = 3 ∧ (1 : Nat) = 1 ∧ t.2.2.1 = t'.snd.2.1 ∧ (lC t'.snd.1).length ≤ (lC t.2.1).length ∧ ∀ (i : Nat), i < (lC t'.snd.1).length → [AV.int .i64 ((lC
 t.2.1).getD i 0)] = [AV.int .i64 ((lC t'.snd.1).getD i 0)]) ∧ ((3 : TypeId) = 3 ∧ (1 : Nat) = 1 ∧ t.2.2.2 = t'.snd.2.2 ∧ (lE t'.snd.1).length ≤ (lE
 t.2.1).length ∧ ∀ (i : Nat), i < (lE t'.snd.1).length → [AV.int .i64 ((lE t.2.1).getD i 0)] = [AV.int .i64 ((lE t'.snd.1).getD i 0)]) ∧ True) (BC (decide (x_3.1
 % x_3.2 = (3 : Int))) (Exx (AllocT × Unit) fun x_4 => (((true = true ∧ NilNil ∧ (0 : Nat) = 0) ∧ True) ∧ true = true ∧ allocB t.2.1 = allocB x_4.1 ∧ True) ∧
 (AllocW x_4.1 ∧ True) ∧ ∀ (y : Unit), True → I64 ((↑t.1 : Int) + 1) ∧ Exx (Nat × AllocT × Nat × Nat) fun t' => (I t' ∧ m t' < m t) ∧ Tr 1 (((2 : Nat) = 2 ∧
 x.2.length = x.2.length ∧ ∀ (i : Nat), i < x.2.length → [AV.int .i64 (x.2.getD i act18Z).kind, AV.int .i64 (x.2.getD i act18Z).at_] = [AV.int .i64 (x.2.getD i
 act18Z).kind, AV.int .i64 (x.2.getD i act18Z).at_]) ∧ Tr 3 ((true = true ∧ NilNil ∧ (0 : Nat) = 0) ∧ (true = true ∧ NilNil ∧ (0 : Nat) = 0) ∧ (true = true ∧
 NilNil ∧ (0 : Nat) = 0 ∧ (1 : Nat) = 1 ∧ (0 : Nat) = 0 ∧ (lC t.2.1).length = (lC t'.snd.1).length ∧ t.2.2.1 = t'.snd.2.1) ∧ (true = true ∧ NilNil ∧ (0 : Nat) =
 0 ∧ (1 : Nat) = 1 ∧ (0 : Nat) = 0 ∧ (lE t.2.1).length = (lE t'.snd.1).length ∧ t.2.2.2 = t'.snd.2.2) ∧ Tr 1 ((↑t.1 : Int) + 1 = (↑t'.fst : Int)) ∧ Tr 132 True))
 ∧ true = true ∧ ((24 : TypeId) = 24 ∧ Tr 1 ((↑x.1.1 : Int) = (↑x.1.1 : Int)) ∧ ((1 : Nat) = 1 ∧ x.1.2.1.length = x.1.2.1.length ∧ ∀ (i : Nat), i <
 x.1.2.1.length → [AV.int .i64 (x.1.2.1.getD i 0)] = [AV.int .i64 (x.1.2.1.getD i 0)]) ∧ ((1 : Nat) = 1 ∧ x.1.2.2.1.length = x.1.2.2.1.length ∧ ∀ (i : Nat), i <
 x.1.2.2.1.length → [AV.int .i64 (x.1.2.2.1.getD i 0)] = [AV.int .i64 (x.1.2.2.1.getD i 0)]) ∧ Tr 1 (x.1.2.2.2 = x.1.2.2.2) ∧ True) ∧ allocB (markS x_4.1) =
 allocB t'.snd.1 ∧ ((38 : TypeId) = 38 ∧ Tr 1 ((↑t.2.1.n : Int) = (↑t'.snd.1.n : Int)) ∧ true = true ∧ true = true ∧ true = true ∧ true = true ∧ true = true ∧
 True) ∧ ((3 : TypeId) = 3 ∧ (1 : Nat) = 1 ∧ t.2.2.1 = t'.snd.2.1 ∧ (lC t'.snd.1).length ≤ (lC t.2.1).length ∧ ∀ (i : Nat), i < (lC t'.snd.1).length → [AV.int
 .i64 ((lC t.2.1).getD i 0)] = [AV.int .i64 ((lC t'.snd.1).getD i 0)]) ∧ ((3 : TypeId) = 3 ∧ (1 : Nat) = 1 ∧ t.2.2.2 = t'.snd.2.2 ∧ (lE t'.snd.1).length ≤ (lE
 t.2.1).length ∧ ∀ (i : Nat), i < (lE t'.snd.1).length → [AV.int .i64 ((lE t.2.1).getD i 0)] = [AV.int .i64 ((lE t'.snd.1).getD i 0)]) ∧ True) (BC (decide (x_3.1
 % x_3.2 = (4 : Int))) (Exx (AllocT × Unit) fun x_4 => (((true = true ∧ NilNil ∧ (0 : Nat) = 0) ∧ True) ∧ true = true ∧ allocB t.2.1 = allocB x_4.1 ∧ True) ∧
 (AllocW x_4.1 ∧ True) ∧ ∀ (y : Unit), True → I64 ((↑t.1 : Int) + 1) ∧ Exx (Nat × AllocT × Nat × Nat) fun t' => (I t' ∧ m t' < m t) ∧ Tr 1 (((2 : Nat) = 2 ∧
 x.2.length = x.2.length ∧ ∀ (i : Nat), i < x.2.length → [AV.int .i64 (x.2.getD i act18Z).kind, AV.int .i64 (x.2.getD i act18Z).at_] = [AV.int .i64 (x.2.getD i
 act18Z).kind, AV.int .i64 (x.2.getD i act18Z).at_]) ∧ Tr 3 ((true = true ∧ NilNil ∧ (0 : Nat) = 0) ∧ (true = true ∧ NilNil ∧ (0 : Nat) = 0) ∧ (true = true ∧
 NilNil ∧ (0 : Nat) = 0 ∧ (1 : Nat) = 1 ∧ (0 : Nat) = 0 ∧ (lC t.2.1).length = (lC t'.snd.1).length ∧ t.2.2.1 = t'.snd.2.1) ∧ (true = true ∧ NilNil ∧ (0 : Nat) =
 0 ∧ (1 : Nat) = 1 ∧ (0 : Nat) = 0 ∧ (lE t.2.1).length = (lE t'.snd.1).length ∧ t.2.2.2 = t'.snd.2.2) ∧ Tr 1 ((↑t.1 : Int) + 1 = (↑t'.fst : Int)) ∧ Tr 132 True))
 ∧ true = true ∧ ((24 : TypeId) = 24 ∧ Tr 1 ((↑x.1.1 : Int) = (↑x.1.1 : Int)) ∧ ((1 : Nat) = 1 ∧ x.1.2.1.length = x.1.2.1.length ∧ ∀ (i : Nat), i <
 x.1.2.1.length → [AV.int .i64 (x.1.2.1.getD i 0)] = [AV.int .i64 (x.1.2.1.getD i 0)]) ∧ ((1 : Nat) = 1 ∧ x.1.2.2.1.length = x.1.2.2.1.length ∧ ∀ (i : Nat), i <
 x.1.2.2.1.length → [AV.int .i64 (x.1.2.2.1.getD i 0)] = [AV.int .i64 (x.1.2.2.1.getD i 0)]) ∧ Tr 1 (x.1.2.2.2 = x.1.2.2.2) ∧ True) ∧ allocB (backS x_4.1) =
 allocB t'.snd.1 ∧ ((38 : TypeId) = 38 ∧ Tr 1 ((↑t.2.1.n : Int) = (↑t'.snd.1.n : Int)) ∧ true = true ∧ true = true ∧ true = true ∧ true = true ∧ true = true ∧
 True) ∧ ((3 : TypeId) = 3 ∧ (1 : Nat) = 1 ∧ t.2.2.1 = t'.snd.2.1 ∧ (lC t'.snd.1).length ≤ (lC t.2.1).length ∧ ∀ (i : Nat), i < (lC t'.snd.1).length → [AV.int
 .i64 ((lC t.2.1).getD i 0)] = [AV.int .i64 ((lC t'.snd.1).getD i 0)]) ∧ ((3 : TypeId) = 3 ∧ (1 : Nat) = 1 ∧ t.2.2.2 = t'.snd.2.2 ∧ (lE t'.snd.1).length ≤ (lE
 t.2.1).length ∧ ∀ (i : Nat), i < (lE t'.snd.1).length → [AV.int .i64 ((lE t.2.1).getD i 0)] = [AV.int .i64 ((lE t'.snd.1).getD i 0)]) ∧ True) (BC (decide (x_3.1
 % x_3.2 = (5 : Int))) (Exx (AllocT × Unit) fun x_4 => (((true = true ∧ NilNil ∧ (0 : Nat) = 0) ∧ True) ∧ true = true ∧ allocB t.2.1 = allocB x_4.1 ∧ True) ∧
 (AllocW x_4.1 ∧ True) ∧ ∀ (y : Unit), True → Exx AllocT fun x_5 => (((true = true ∧ NilNil ∧ (0 : Nat) = 0) ∧ True) ∧ true = true ∧ allocB (commitS x_4.1) =
 allocB x_5 ∧ True) ∧ AllocW x_5 ∧ ∀ (y : Unit), True → Exx (Nat × Nat) fun x_6 => (((true = true ∧ NilNil ∧ (0 : Nat) = 0) ∧ True) ∧ true = true ∧ setB (x_5.n,
 x_5.w) = setB x_6 ∧ True) ∧ SetW x_6 ∧ ∀ (y : Nat), (listN x_6).length ≤ y → I64 ((↑t.1 : Int) + 1) ∧ Exx (Nat × AllocT × Nat × Nat) fun t' => (I t' ∧ m t' < m
 t) ∧ Tr 1 (((2 : Nat) = 2 ∧ x.2.length = x.2.length ∧ ∀ (i : Nat), i < x.2.length → [AV.int .i64 (x.2.getD i act18Z).kind, AV.int .i64 (x.2.getD i act18Z).at_]
 = [AV.int .i64 (x.2.getD i act18Z).kind, AV.int .i64 (x.2.getD i act18Z).at_]) ∧ Tr 3 ((true = true ∧ NilNil ∧ (0 : Nat) = 0) ∧ (true = true ∧ NilNil ∧ (0 :
 Nat) = 0) ∧ (true = true ∧ NilNil ∧ (0 : Nat) = 0 ∧ (1 : Nat) = 1 ∧ (0 : Nat) = 0 ∧ (listN x_6).length = (lC t'.snd.1).length ∧ y = t'.snd.2.1) ∧ (true = true ∧
 NilNil ∧ (0 : Nat) = 0 ∧ (1 : Nat) = 1 ∧ (0 : Nat) = 0 ∧ (lC t.2.1).length = (lE t'.snd.1).length ∧ t.2.2.1 = t'.snd.2.2) ∧ Tr 1 ((↑t.1 : Int) + 1 = (↑t'.fst :
 Int)) ∧ Tr 132 True)) ∧ true = true ∧ ((24 : TypeId) = 24 ∧ Tr 1 ((↑x.1.1 : Int) = (↑x.1.1 : Int)) ∧ ((1 : Nat) = 1 ∧ x.1.2.1.length = x.1.2.1.length ∧ ∀ (i :
 Nat), i < x.1.2.1.length → [AV.int .i64 (x.1.2.1.getD i 0)] = [AV.int .i64 (x.1.2.1.getD i 0)]) ∧ ((1 : Nat) = 1 ∧ x.1.2.2.1.length = x.1.2.2.1.length ∧ ∀ (i :
 Nat), i < x.1.2.2.1.length → [AV.int .i64 (x.1.2.2.1.getD i 0)] = [AV.int .i64 (x.1.2.2.1.getD i 0)]) ∧ Tr 1 (x.1.2.2.2 = x.1.2.2.2) ∧ True) ∧ allocB x_5 =
 allocB t'.snd.1 ∧ ((38 : TypeId) = 38 ∧ Tr 1 ((↑t.2.1.n : Int) = (↑t'.snd.1.n : Int)) ∧ true = true ∧ true = true ∧ true = true ∧ true = true ∧ true = true ∧
 True) ∧ ((3 : TypeId) = 3 ∧ (1 : Nat) = 1 ∧ y = t'.snd.2.1 ∧ (lC t'.snd.1).length ≤ (listN x_6).length ∧ ∀ (i : Nat), i < (lC t'.snd.1).length → [AV.int .i64
 ((listN x_6).getD i 0)] = [AV.int .i64 ((lC t'.snd.1).getD i 0)]) ∧ ((3 : TypeId) = 3 ∧ (1 : Nat) = 1 ∧ t.2.2.1 = t'.snd.2.2 ∧ (lE t'.snd.1).length ≤ (lC
 t.2.1).length ∧ ∀ (i : Nat), i < (lE t'.snd.1).length → [AV.int .i64 ((lC t.2.1).getD i 0)] = [AV.int .i64 ((lE t'.snd.1).getD i 0)]) ∧ True) (BC (decide (x_3.1
 % x_3.2 = (6 : Int))) (Exx (AllocT × Unit) fun x_4 => (((true = true ∧ NilNil ∧ (0 : Nat) = 0) ∧ True) ∧ true = true ∧ allocB t.2.1 = allocB x_4.1 ∧ True) ∧
 (AllocW x_4.1 ∧ True) ∧ ∀ (y : Unit), True → Exx AllocT fun x_5 => (((true = true ∧ NilNil ∧ (0 : Nat) = 0) ∧ True) ∧ true = true ∧ allocB (abortS x_4.1) =
 allocB x_5 ∧ True) ∧ AllocW x_5 ∧ ∀ (y : Unit), True → Exx (Nat × Nat) fun x_6 => (((true = true ∧ NilNil ∧ (0 : Nat) = 0) ∧ True) ∧ true = true ∧ setB (x_5.n,
 x_5.w) = setB x_6 ∧ True) ∧ SetW x_6 ∧ ∀ (y : Nat), (listN x_6).length ≤ y → Exx (List Int × List Int) fun x_7 => (((0 + (listN x_6).length ≤ (listN x_6).length
 ∧ (listN x_6).length = x_7.1.length ∧ ∀ (i : Nat), i < x_7.1.length → [AV.int .i64 ((listN x_6).getD (0 + i) 0)] = [AV.int .i64 (x_7.1.getD i 0)]) ∧ (0 + (lC
 t.2.1).length ≤ (lC t.2.1).length ∧ (lC t.2.1).length = x_7.2.length ∧ ∀ (i : Nat), i < x_7.2.length → [AV.int .i64 ((lC t.2.1).getD (0 + i) 0)] = [AV.int .i64
 (x_7.2.getD i 0)]) ∧ True) ∧ true = true ∧ True) ∧ (IntL x_7.1 ∧ IntL x_7.2) ∧ ∀ (y : Unit), True → BC (!decide (x_7.1 = x_7.2)) (Exx Unit fun y => ((false =
 true ∧ True) ∧ true = true ∧ True) ∧ True) (I64 ((↑t.1 : Int) + 1) ∧ Exx (Nat × AllocT × Nat × Nat) fun t' => (I t' ∧ m t' < m t) ∧ Tr 1 (((2 : Nat) = 2 ∧
 x.2.length = x.2.length ∧ ∀ (i : Nat), i < x.2.length → [AV.int .i64 (x.2.getD i act18Z).kind, AV.int .i64 (x.2.getD i act18Z).at_] = [AV.int .i64 (x.2.getD i
 act18Z).kind, AV.int .i64 (x.2.getD i act18Z).at_]) ∧ Tr 3 ((true = true ∧ NilNil ∧ (0 : Nat) = 0) ∧ (true = true ∧ NilNil ∧ (0 : Nat) = 0) ∧ (true = true ∧
 NilNil ∧ (0 : Nat) = 0 ∧ (1 : Nat) = 1 ∧ (0 : Nat) = 0 ∧ (lC t.2.1).length = (lC t'.snd.1).length ∧ t.2.2.1 = t'.snd.2.1) ∧ (true = true ∧ NilNil ∧ (0 : Nat) =
 0 ∧ (1 : Nat) = 1 ∧ (0 : Nat) = 0 ∧ (lE t.2.1).length = (lE t'.snd.1).length ∧ t.2.2.2 = t'.snd.2.2) ∧ Tr 1 ((↑t.1 : Int) + 1 = (↑t'.fst : Int)) ∧ Tr 132 True))
 ∧ true = true ∧ ((24 : TypeId) = 24 ∧ Tr 1 ((↑x.1.1 : Int) = (↑x.1.1 : Int)) ∧ ((1 : Nat) = 1 ∧ x.1.2.1.length = x.1.2.1.length ∧ ∀ (i : Nat), i <
 x.1.2.1.length → [AV.int .i64 (x.1.2.1.getD i 0)] = [AV.int .i64 (x.1.2.1.getD i 0)]) ∧ ((1 : Nat) = 1 ∧ x.1.2.2.1.length = x.1.2.2.1.length ∧ ∀ (i : Nat), i <
 x.1.2.2.1.length → [AV.int .i64 (x.1.2.2.1.getD i 0)] = [AV.int .i64 (x.1.2.2.1.getD i 0)]) ∧ Tr 1 (x.1.2.2.2 = x.1.2.2.2) ∧ True) ∧ allocB x_5 = allocB
 t'.snd.1 ∧ ((38 : TypeId) = 38 ∧ Tr 1 ((↑t.2.1.n : Int) = (↑t'.snd.1.n : Int)) ∧ true = true ∧ true = true ∧ true = true ∧ true = true ∧ true = true ∧ True) ∧
 ((3 : TypeId) = 3 ∧ (1 : Nat) = 1 ∧ t.2.2.1 = t'.snd.2.1 ∧ (lC t'.snd.1).length ≤ (lC t.2.1).length ∧ ∀ (i : Nat), i < (lC t'.snd.1).length → [AV.int .i64 ((lC
 t.2.1).getD i 0)] = [AV.int .i64 ((lC t'.snd.1).getD i 0)]) ∧ ((3 : TypeId) = 3 ∧ (1 : Nat) = 1 ∧ t.2.2.2 = t'.snd.2.2 ∧ (lE t'.snd.1).length ≤ (lE
 t.2.1).length ∧ ∀ (i : Nat), i < (lE t'.snd.1).length → [AV.int .i64 ((lE t.2.1).getD i 0)] = [AV.int .i64 ((lE t'.snd.1).getD i 0)]) ∧ True)) (I64 ((↑t.1 :
 Int) + 1) ∧ Exx (Nat × AllocT × Nat × Nat) fun t' => (I t' ∧ m t' < m t) ∧ Tr 1 (((2 : Nat) = 2 ∧ x.2.length = x.2.length ∧ ∀ (i : Nat), i < x.2.length →
 [AV.int .i64 (x.2.getD i act18Z).kind, AV.int .i64 (x.2.getD i act18Z).at_] = [AV.int .i64 (x.2.getD i act18Z).kind, AV.int .i64 (x.2.getD i act18Z).at_]) ∧ Tr
 3 ((true = true ∧ NilNil ∧ (0 : Nat) = 0) ∧ (true = true ∧ NilNil ∧ (0 : Nat) = 0) ∧ (true = true ∧ NilNil ∧ (0 : Nat) = 0 ∧ (1 : Nat) = 1 ∧ (0 : Nat) = 0 ∧ (lC
 t.2.1).length = (lC t'.snd.1).length ∧ t.2.2.1 = t'.snd.2.1) ∧ (true = true ∧ NilNil ∧ (0 : Nat) = 0 ∧ (1 : Nat) = 1 ∧ (0 : Nat) = 0 ∧ (lE t.2.1).length = (lE
 t'.snd.1).length ∧ t.2.2.2 = t'.snd.2.2) ∧ Tr 1 ((↑t.1 : Int) + 1 = (↑t'.fst : Int)) ∧ Tr 132 True)) ∧ true = true ∧ ((24 : TypeId) = 24 ∧ Tr 1 ((↑x.1.1 : Int)
 = (↑x.1.1 : Int)) ∧ ((1 : Nat) = 1 ∧ x.1.2.1.length = x.1.2.1.length ∧ ∀ (i : Nat), i < x.1.2.1.length → [AV.int .i64 (x.1.2.1.getD i 0)] = [AV.int .i64
 (x.1.2.1.getD i 0)]) ∧ ((1 : Nat) = 1 ∧ x.1.2.2.1.length = x.1.2.2.1.length ∧ ∀ (i : Nat), i < x.1.2.2.1.length → [AV.int .i64 (x.1.2.2.1.getD i 0)] = [AV.int
 .i64 (x.1.2.2.1.getD i 0)]) ∧ Tr 1 (x.1.2.2.2 = x.1.2.2.2) ∧ True) ∧ allocB t.2.1 = allocB t'.snd.1 ∧ ((38 : TypeId) = 38 ∧ Tr 1 ((↑t.2.1.n : Int) =
 (↑t'.snd.1.n : Int)) ∧ true = true ∧ true = true ∧ true = true ∧ true = true ∧ true = true ∧ True) ∧ ((3 : TypeId) = 3 ∧ (1 : Nat) = 1 ∧ t.2.2.1 = t'.snd.2.1 ∧
 (lC t'.snd.1).length ≤ (lC t.2.1).length ∧ ∀ (i : Nat), i < (lC t'.snd.1).length → [AV.int .i64 ((lC t.2.1).getD i 0)] = [AV.int .i64 ((lC t'.snd.1).getD i 0)])
 ∧ ((3 : TypeId) = 3 ∧ (1 : Nat) = 1 ∧ t.2.2.2 = t'.snd.2.2 ∧ (lE t'.snd.1).length ≤ (lE t.2.1).length ∧ ∀ (i : Nat), i < (lE t'.snd.1).length → [AV.int .i64
 ((lE t.2.1).getD i 0)] = [AV.int .i64 ((lE t'.snd.1).getD i 0)]) ∧ True))))))) (BC (decide (x_3.1 % x_3.2 = (1 : Int))) (Exx (AllocT × Unit) fun x_4 => (((true
 = true ∧ NilNil ∧ (0 : Nat) = 0) ∧ True) ∧ true = true ∧ allocB t.2.1 = allocB x_4.1 ∧ True) ∧ (AllocW x_4.1 ∧ True) ∧ ∀ (y : Unit), True → ((0 : Int) ≤ (↑t.1 :
 Int) ∧ (↑t.1 : Int) < (↑x.2.length : Int)) ∧ Exx (Int × Int) fun x_5 => ((Tr 1 ((x.2.getD (↑t.1 : Int).toNat act18Z).kind = x_5.1) ∧ Tr 1 ((7 : Int) = x_5.2) ∧
 True) ∧ true = true ∧ True) ∧ (I64 x_5.1 ∧ (1 : Int) ≤ x_5.2 ∧ x_5.2 ≤ (1000000 : Int)) ∧ ∀ (y : Unit), True → BC (decide (x_5.1 % x_5.2 = (1 : Int))) (BC
 (!decide (takeErr x_4.1 x_4.1.r = (0 : Int))) (Exx (AllocT × Unit) fun x_6 => (((true = true ∧ NilNil ∧ (0 : Nat) = 0) ∧ True) ∧ true = true ∧ allocB (takeS
 x_4.1 x_4.1.r) = allocB x_6.1 ∧ True) ∧ (AllocW x_6.1 ∧ True) ∧ ∀ (y : Unit), True → BC (decide (takeErr x_6.1 0 = (0 : Int))) (BC (decide (takeAt x_6.1 0 < (0
 : Int))) (Exx Unit fun y => ((false = true ∧ True) ∧ true = true ∧ True) ∧ True) (BC (decide ((↑t.2.1.n : Int) ≤ takeAt x_6.1 0)) (Exx Unit fun y => ((false =
 true ∧ True) ∧ true = true ∧ True) ∧ True) (Exx (List Int × Int) fun x_7 => (((0 + (lC t.2.1).length ≤ (lC t.2.1).length ∧ (lC t.2.1).length = x_7.1.length ∧ ∀
 (i : Nat), i < x_7.1.length → [AV.int .i64 ((lC t.2.1).getD (0 + i) 0)] = [AV.int .i64 (x_7.1.getD i 0)]) ∧ Tr 1 (takeAt x_6.1 0 = x_7.2) ∧ True) ∧ true = true
 ∧ True) ∧ (IntL x_7.1 ∧ I64 x_7.2) ∧ ∀ (y : Unit), True → BC (decide (x_7.2 ∈ x_7.1)) (Exx Unit fun y => ((false = true ∧ True) ∧ true = true ∧ True) ∧ True)
 (Exx (List Int × Int) fun x_8 => (((0 + (lE t.2.1).length ≤ (lE t.2.1).length ∧ (lE t.2.1).length = x_8.1.length ∧ ∀ (i : Nat), i < x_8.1.length → [AV.int .i64
 ((lE t.2.1).getD (0 + i) 0)] = [AV.int .i64 (x_8.1.getD i 0)]) ∧ Tr 1 (takeAt x_6.1 0 = x_8.2) ∧ True) ∧ true = true ∧ True) ∧ (IntL x_8.1 ∧ I64 x_8.2) ∧ ∀ (y :
 Unit), True → BC (decide (x_8.2 ∈ x_8.1)) (Exx Unit fun y => ((false = true ∧ True) ∧ true = true ∧ True) ∧ True) (BC (!decide (takeErr x_6.1 0 = (0 : Int)))
 (BC (!decide (takeErr x_6.1 0 = (10 : Int))) (Exx Unit fun y => ((false = true ∧ True) ∧ true = true ∧ True) ∧ True) (BC (!decide (takeAt x_6.1 0 = (0 : Int)))
 (Exx Unit fun y => ((false = true ∧ True) ∧ true = true ∧ True) ∧ True) (I64 ((↑t.1 : Int) + 1) ∧ Exx (Nat × AllocT × Nat × Nat) fun t' => (I t' ∧ m t' < m t) ∧
 Tr 1 (((2 : Nat) = 2 ∧ x.2.length = x.2.length ∧ ∀ (i : Nat), i < x.2.length → [AV.int .i64 (x.2.getD i act18Z).kind, AV.int .i64 (x.2.getD i act18Z).at_] =
 [AV.int .i64 (x.2.getD i act18Z).kind, AV.int .i64 (x.2.getD i act18Z).at_]) ∧ Tr 3 ((true = true ∧ NilNil ∧ (0 : Nat) = 0) ∧ (true = true ∧ NilNil ∧ (0 : Nat)
 = 0) ∧ (true = true ∧ NilNil ∧ (0 : Nat) = 0 ∧ (1 : Nat) = 1 ∧ (0 : Nat) = 0 ∧ (lC t.2.1).length = (lC t'.snd.1).length ∧ t.2.2.1 = t'.snd.2.1) ∧ (true = true ∧
 NilNil ∧ (0 : Nat) = 0 ∧ (1 : Nat) = 1 ∧ (0 : Nat) = 0 ∧ (lE t.2.1).length = (lE t'.snd.1).length ∧ t.2.2.2 = t'.snd.2.2) ∧ Tr 1 ((↑t.1 : Int) + 1 = (↑t'.fst :
 Int)) ∧ Tr 132 True)) ∧ true = true ∧ ((24 : TypeId) = 24 ∧ Tr 1 ((↑x.1.1 : Int) = (↑x.1.1 : Int)) ∧ ((1 : Nat) = 1 ∧ x.1.2.1.length = x.1.2.1.length ∧ ∀ (i :
 Nat), i < x.1.2.1.length → [AV.int .i64 (x.1.2.1.getD i 0)] = [AV.int .i64 (x.1.2.1.getD i 0)]) ∧ ((1 : Nat) = 1 ∧ x.1.2.2.1.length = x.1.2.2.1.length ∧ ∀ (i :
 Nat), i < x.1.2.2.1.length → [AV.int .i64 (x.1.2.2.1.getD i 0)] = [AV.int .i64 (x.1.2.2.1.getD i 0)]) ∧ Tr 1 (x.1.2.2.2 = x.1.2.2.2) ∧ True) ∧ allocB (takeS
 x_6.1 0) = allocB t'.snd.1 ∧ ((38 : TypeId) = 38 ∧ Tr 1 ((↑t.2.1.n : Int) = (↑t'.snd.1.n : Int)) ∧ true = true ∧ true = true ∧ true = true ∧ true = true ∧ true
 = true ∧ True) ∧ ((3 : TypeId) = 3 ∧ (1 : Nat) = 1 ∧ t.2.2.1 = t'.snd.2.1 ∧ (lC t'.snd.1).length ≤ (lC t.2.1).length ∧ ∀ (i : Nat), i < (lC t'.snd.1).length →
 [AV.int .i64 ((lC t.2.1).getD i 0)] = [AV.int .i64 ((lC t'.snd.1).getD i 0)]) ∧ ((3 : TypeId) = 3 ∧ (1 : Nat) = 1 ∧ t.2.2.2 = t'.snd.2.2 ∧ (lE t'.snd.1).length
 ≤ (lE t.2.1).length ∧ ∀ (i : Nat), i < (lE t'.snd.1).length → [AV.int .i64 ((lE t.2.1).getD i 0)] = [AV.int .i64 ((lE t'.snd.1).getD i 0)]) ∧ True))) (I64
 ((↑t.1 : Int) + 1) ∧ Exx (Nat × AllocT × Nat × Nat) fun t' => (I t' ∧ m t' < m t) ∧ Tr 1 (((2 : Nat) = 2 ∧ x.2.length = x.2.length ∧ ∀ (i : Nat), i < x.2.length
 → [AV.int .i64 (x.2.getD i act18Z).kind, AV.int .i64 (x.2.getD i act18Z).at_] = [AV.int .i64 (x.2.getD i act18Z).kind, AV.int .i64 (x.2.getD i act18Z).at_]) ∧
 Tr 3 ((true = true ∧ NilNil ∧ (0 : Nat) = 0) ∧ (true = true ∧ NilNil ∧ (0 : Nat) = 0) ∧ (true = true ∧ NilNil ∧ (0 : Nat) = 0 ∧ (1 : Nat) = 1 ∧ (0 : Nat) = 0 ∧
 (lC t.2.1).length = (lC t'.snd.1).length ∧ t.2.2.1 = t'.snd.2.1) ∧ (true = true ∧ NilNil ∧ (0 : Nat) = 0 ∧ (1 : Nat) = 1 ∧ (0 : Nat) = 0 ∧ (lE t.2.1).length =
 (lE t'.snd.1).length ∧ t.2.2.2 = t'.snd.2.2) ∧ Tr 1 ((↑t.1 : Int) + 1 = (↑t'.fst : Int)) ∧ Tr 132 True)) ∧ true = true ∧ ((24 : TypeId) = 24 ∧ Tr 1 ((↑x.1.1 :
 Int) = (↑x.1.1 : Int)) ∧ ((1 : Nat) = 1 ∧ x.1.2.1.length = x.1.2.1.length ∧ ∀ (i : Nat), i < x.1.2.1.length → [AV.int .i64 (x.1.2.1.getD i 0)] = [AV.int .i64
 (x.1.2.1.getD i 0)]) ∧ ((1 : Nat) = 1 ∧ x.1.2.2.1.length = x.1.2.2.1.length ∧ ∀ (i : Nat), i < x.1.2.2.1.length → [AV.int .i64 (x.1.2.2.1.getD i 0)] = [AV.int
 .i64 (x.1.2.2.1.getD i 0)]) ∧ Tr 1 (x.1.2.2.2 = x.1.2.2.2) ∧ True) ∧ allocB (takeS x_6.1 0) = allocB t'.snd.1 ∧ ((38 : TypeId) = 38 ∧ Tr 1 ((↑t.2.1.n : Int) =
 (↑t'.snd.1.n : Int)) ∧ true = true ∧ true = true ∧ true = true ∧ true = true ∧ true = true ∧ True) ∧ ((3 : TypeId) = 3 ∧ (1 : Nat) = 1 ∧ t.2.2.1 = t'.snd.2.1 ∧
 (lC t'.snd.1).length ≤ (lC t.2.1).length ∧ ∀ (i : Nat), i < (lC t'.snd.1).length → [AV.int .i64 ((lC t.2.1).getD i 0)] = [AV.int .i64 ((lC t'.snd.1).getD i 0)])
 ∧ ((3 : TypeId) = 3 ∧ (1 : Nat) = 1 ∧ t.2.2.2 = t'.snd.2.2 ∧ (lE t'.snd.1).length ≤ (lE t.2.1).length ∧ ∀ (i : Nat), i < (lE t'.snd.1).length → [AV.int .i64
 ((lE t.2.1).getD i 0)] = [AV.int .i64 ((lE t'.snd.1).getD i 0)]) ∧ True)))))) (BC (!decide (takeErr x_6.1 0 = (0 : Int))) (BC (!decide (takeErr x_6.1 0 = (10 :
 Int))) (Exx Unit fun y => ((false = true ∧ True) ∧ true = true ∧ True) ∧ True) (BC (!decide (takeAt x_6.1 0 = (0 : Int))) (Exx Unit fun y => ((false = true ∧
 True) ∧ true = true ∧ True) ∧ True) (I64 ((↑t.1 : Int) + 1) ∧ Exx (Nat × AllocT × Nat × Nat) fun t' => (I t' ∧ m t' < m t) ∧ Tr 1 (((2 : Nat) = 2 ∧ x.2.length =
 x.2.length ∧ ∀ (i : Nat), i < x.2.length → [AV.int .i64 (x.2.getD i act18Z).kind, AV.int .i64 (x.2.getD i act18Z).at_] = [AV.int .i64 (x.2.getD i act18Z).kind,
 AV.int .i64 (x.2.getD i act18Z).at_]) ∧ Tr 3 ((true = true ∧ NilNil ∧ (0 : Nat) = 0) ∧ (true = true ∧ NilNil ∧ (0 : Nat) = 0) ∧ (true = true ∧ NilNil ∧ (0 :
 Nat) = 0 ∧ (1 : Nat) = 1 ∧ (0 : Nat) = 0 ∧ (lC t.2.1).length = (lC t'.snd.1).length ∧ t.2.2.1 = t'.snd.2.1) ∧ (true = true ∧ NilNil ∧ (0 : Nat) = 0 ∧ (1 : Nat)
 = 1 ∧ (0 : Nat) = 0 ∧ (lE t.2.1).length = (lE t'.snd.1).length ∧ t.2.2.2 = t'.snd.2.2) ∧ Tr 1 ((↑t.1 : Int) + 1 = (↑t'.fst : Int)) ∧ Tr 132 True)) ∧ true = true
 ∧ ((24 : TypeId) = 24 ∧ Tr 1 ((↑x.1.1 : Int) = (↑x.1.1 : Int)) ∧ ((1 : Nat) = 1 ∧ x.1.2.1.length = x.1.2.1.length ∧ ∀ (i : Nat), i < x.1.2.1.length → [AV.int
 .i64 (x.1.2.1.getD i 0)] = [AV.int .i64 (x.1.2.1.getD i 0)]) ∧ ((1 : Nat) = 1 ∧ x.1.2.2.1.length = x.1.2.2.1.length ∧ ∀ (i : Nat), i < x.1.2.2.1.length →
 [AV.int .i64 (x.1.2.2.1.getD i 0)] = [AV.int .i64 (x.1.2.2.1.getD i 0)]) ∧ Tr 1 (x.1.2.2.2 = x.1.2.2.2) ∧ True) ∧ allocB (takeS x_6.1 0) = allocB t'.snd.1 ∧
 ((38 : TypeId) = 38 ∧ Tr 1 ((↑t.2.1.n : Int) = (↑t'.snd.1.n : Int)) ∧ true = true ∧ true = true ∧ true = true ∧ true = true ∧ true = true ∧ True) ∧ ((3 :
 TypeId) = 3 ∧ (1 : Nat) = 1 ∧ t.2.2.1 = t'.snd.2.1 ∧ (lC t'.snd.1).length ≤ (lC t.2.1).length ∧ ∀ (i : Nat), i < (lC t'.snd.1).length → [AV.int .i64 ((lC
 t.2.1).getD i 0)] = [AV.int .i64 ((lC t'.snd.1).getD i 0)]) ∧ ((3 : TypeId) = 3 ∧ (1 : Nat) = 1 ∧ t.2.2.2 = t'.snd.2.2 ∧ (lE t'.snd.1).length ≤ (lE
 t.2.1).length ∧ ∀ (i : Nat), i < (lE t'.snd.1).length → [AV.int .i64 ((lE t.2.1).getD i 0)] = [AV.int .i64 ((lE t'.snd.1).getD i 0)]) ∧ True))) (I64 ((↑t.1 :
 Int) + 1) ∧ Exx (Nat × AllocT × Nat × Nat) fun t' => (I t' ∧ m t' < m t) ∧ Tr 1 (((2 : Nat) = 2 ∧ x.2.length = x.2.length ∧ ∀ (i : Nat), i < x.2.length →
 [AV.int .i64 (x.2.getD i act18Z).kind, AV.int .i64 (x.2.getD i act18Z).at_] = [AV.int .i64 (x.2.getD i act18Z).kind, AV.int .i64 (x.2.getD i act18Z).at_]) ∧ Tr
 3 ((true = true ∧ NilNil ∧ (0 : Nat) = 0) ∧ (true = true ∧ NilNil ∧ (0 : Nat) = 0) ∧ (true = true ∧ NilNil ∧ (0 : Nat) = 0 ∧ (1 : Nat) = 1 ∧ (0 : Nat) = 0 ∧ (lC
 t.2.1).length = (lC t'.snd.1).length ∧ t.2.2.1 = t'.snd.2.1) ∧ (true = true ∧ NilNil ∧ (0 : Nat) = 0 ∧ (1 : Nat) = 1 ∧ (0 : Nat) = 0 ∧ (lE t.2.1).length = (lE
 t'.snd.1).length ∧ t.2.2.2 = t'.snd.2.2) ∧ Tr 1 ((↑t.1 : Int) + 1 = (↑t'.fst : Int)) ∧ Tr 132 True)) ∧ true = true ∧ ((24 : TypeId) = 24 ∧ Tr 1 ((↑x.1.1 : Int)
 = (↑x.1.1 : Int)) ∧ ((1 : Nat) = 1 ∧ x.1.2.1.length = x.1.2.1.length ∧ ∀ (i : Nat), i < x.1.2.1.length → [AV.int .i64 (x.1.2.1.getD i 0)] = [AV.int .i64
 (x.1.2.1.getD i 0)]) ∧ ((1 : Nat) = 1 ∧ x.1.2.2.1.length = x.1.2.2.1.length ∧ ∀ (i : Nat), i < x.1.2.2.1.length → [AV.int .i64 (x.1.2.2.1.getD i 0)] = [AV.int
 .i64 (x.1.2.2.1.getD i 0)]) ∧ Tr 1 (x.1.2.2.2 = x.1.2.2.2) ∧ True) ∧ allocB (takeS x_6.1 0) = allocB t'.snd.1 ∧ ((38 : TypeId) = 38 ∧ Tr 1 ((↑t.2.1.n : Int) =
 (↑t'.snd.1.n : Int)) ∧ true = true ∧ true = true ∧ true = true ∧ true = true ∧ true = true ∧ True) ∧ ((3 : TypeId) = 3 ∧ (1 : Nat) = 1 ∧ t.2.2.1 = t'.snd.2.1 ∧
 (lC t'.snd.1).length ≤ (lC t.2.1).length ∧ ∀ (i : Nat), i < (lC t'.snd.1).length → [AV.int .i64 ((lC t.2.1).getD i 0)] = [AV.int .i64 ((lC t'.snd.1).getD i 0)])
 ∧ ((3 : TypeId) = 3 ∧ (1 : Nat) = 1 ∧ t.2.2.2 = t'.snd.2.2 ∧ (lE t'.snd.1).length ≤ (lE t.2.1).length ∧ ∀ (i : Nat), i < (lE t'.snd.1).length → [AV.int .i64
 ((lE t.2.1).getD i 0)] = [AV.int .i64 ((lE t'.snd.1).getD i 0)]) ∧ True))) (BC (decide (takeErr x_4.1 x_4.1.r = (0 : Int))) (BC (decide (takeAt x_4.1 x_4.1.r <
 (0 : Int))) (Exx Unit fun y => ((false = true ∧ True) ∧ true = true ∧ True) ∧ True) (BC (decide ((↑t.2.1.n : Int) ≤ takeAt x_4.1 x_4.1.r)) (Exx Unit fun y =>
 ((false = true ∧ True) ∧ true = true ∧ True) ∧ True) (Exx (List Int × Int) fun x_6 => (((0 + (lC t.2.1).length ≤ (lC t.2.1).length ∧ (lC t.2.1).length =
 x_6.1.length ∧ ∀ (i : Nat), i < x_6.1.length → [AV.int .i64 ((lC t.2.1).getD (0 + i) 0)] = [AV.int .i64 (x_6.1.getD i 0)]) ∧ Tr 1 (takeAt x_4.1 x_4.1.r = x_6.2)
 ∧ True) ∧ true = true ∧ True) ∧ (IntL x_6.1 ∧ I64 x_6.2) ∧ ∀ (y : Unit), True → BC (decide (x_6.2 ∈ x_6.1)) (Exx Unit fun y => ((false = true ∧ True) ∧ true =
 true ∧ True) ∧ True) (Exx (List Int × Int) fun x_7 => (((0 + (lE t.2.1).length ≤ (lE t.2.1).length ∧ (lE t.2.1).length = x_7.1.length ∧ ∀ (i : Nat), i <
 x_7.1.length → [AV.int .i64 ((lE t.2.1).getD (0 + i) 0)] = [AV.int .i64 (x_7.1.getD i 0)]) ∧ Tr 1 (takeAt x_4.1 x_4.1.r = x_7.2) ∧ True) ∧ true = true ∧ True) ∧
 (IntL x_7.1 ∧ I64 x_7.2) ∧ ∀ (y : Unit), True → BC (decide (x_7.2 ∈ x_7.1)) (Exx Unit fun y => ((false = true ∧ True) ∧ true = true ∧ True) ∧ True) (BC (!decide
 (takeErr x_4.1 x_4.1.r = (0 : Int))) (BC (!decide (takeErr x_4.1 x_4.1.r = (10 : Int))) (Exx Unit fun y => ((false = true ∧ True) ∧ true = true ∧ True) ∧ True)
 (BC (!decide (takeAt x_4.1 x_4.1.r = (0 : Int))) (Exx Unit fun y => ((false = true ∧ True) ∧ true = true ∧ True) ∧ True) (I64 ((↑t.1 : Int) + 1) ∧ Exx (Nat ×
 AllocT × Nat × Nat) fun t' => (I t' ∧ m t' < m t) ∧ Tr 1 (((2 : Nat) = 2 ∧ x.2.length = x.2.length ∧ ∀ (i : Nat), i < x.2.length → [AV.int .i64 (x.2.getD i
 act18Z).kind, AV.int .i64 (x.2.getD i act18Z).at_] = [AV.int .i64 (x.2.getD i act18Z).kind, AV.int .i64 (x.2.getD i act18Z).at_]) ∧ Tr 3 ((true = true ∧ NilNil
 ∧ (0 : Nat) = 0) ∧ (true = true ∧ NilNil ∧ (0 : Nat) = 0) ∧ (true = true ∧ NilNil ∧ (0 : Nat) = 0 ∧ (1 : Nat) = 1 ∧ (0 : Nat) = 0 ∧ (lC t.2.1).length = (lC
 t'.snd.1).length ∧ t.2.2.1 = t'.snd.2.1) ∧ (true = true ∧ NilNil ∧ (0 : Nat) = 0 ∧ (1 : Nat) = 1 ∧ (0 : Nat) = 0 ∧ (lE t.2.1).length = (lE t'.snd.1).length ∧
 t.2.2.2 = t'.snd.2.2) ∧ Tr 1 ((↑t.1 : Int) + 1 = (↑t'.fst : Int)) ∧ Tr 132 True)) ∧ true = true ∧ ((24 : TypeId) = 24 ∧ Tr 1 ((↑x.1.1 : Int) = (↑x.1.1 : Int)) ∧
 ((1 : Nat) = 1 ∧ x.1.2.1.length = x.1.2.1.length ∧ ∀ (i : Nat), i < x.1.2.1.length → [AV.int .i64 (x.1.2.1.getD i 0)] = [AV.int .i64 (x.1.2.1.getD i 0)]) ∧ ((1
 : Nat) = 1 ∧ x.1.2.2.1.length = x.1.2.2.1.length ∧ ∀ (i : Nat), i < x.1.2.2.1.length → [AV.int .i64 (x.1.2.2.1.getD i 0)] = [AV.int .i64 (x.1.2.2.1.getD i 0)])
 ∧ Tr 1 (x.1.2.2.2 = x.1.2.2.2) ∧ True) ∧ allocB (takeS x_4.1 x_4.1.r) = allocB t'.snd.1 ∧ ((38 : TypeId) = 38 ∧ Tr 1 ((↑t.2.1.n : Int) = (↑t'.snd.1.n : Int)) ∧
 true = true ∧ true = true ∧ true = true ∧ true = true ∧ true = true ∧ True) ∧ ((3 : TypeId) = 3 ∧ (1 : Nat) = 1 ∧ t.2.2.1 = t'.snd.2.1 ∧ (lC t'.snd.1).length ≤
 (lC t.2.1).length ∧ ∀ (i : Nat), i < (lC t'.snd.1).length → [AV.int .i64 ((lC t.2.1).getD i 0)] = [AV.int .i64 ((lC t'.snd.1).getD i 0)]) ∧ ((3 : TypeId) = 3 ∧
 (1 : Nat) = 1 ∧ t.2.2.2 = t'.snd.2.2 ∧ (lE t'.snd.1).length ≤ (lE t.2.1).length ∧ ∀ (i : Nat), i < (lE t'.snd.1).length → [AV.int .i64 ((lE t.2.1).getD i 0)] =
 [AV.int .i64 ((lE t'.snd.1).getD i 0)]) ∧ True))) (I64 ((↑t.1 : Int) + 1) ∧ Exx (Nat × AllocT × Nat × Nat) fun t' => (I t' ∧ m t' < m t) ∧ Tr 1 (((2 : Nat) = 2
 ∧ x.2.length = x.2.length ∧ ∀ (i : Nat), i < x.2.length → [AV.int .i64 (x.2.getD i act18Z).kind, AV.int .i64 (x.2.getD i act18Z).at_] = [AV.int .i64 (x.2.getD i
 act18Z).kind, AV.int .i64 (x.2.getD i act18Z).at_]) ∧ Tr 3 ((true = true ∧ NilNil ∧ (0 : Nat) = 0) ∧ (true = true ∧ NilNil ∧ (0 : Nat) = 0) ∧ (true = true ∧
 NilNil ∧ (0 : Nat) = 0 ∧ (1 : Nat) = 1 ∧ (0 : Nat) = 0 ∧ (lC t.2.1).length = (lC t'.snd.1).length ∧ t.2.2.1 = t'.snd.2.1) ∧ (true = true ∧ NilNil ∧ (0 : Nat) =
 0 ∧ (1 : Nat) = 1 ∧ (0 : Nat) = 0 ∧ (lE t.2.1).length = (lE t'.snd.1).length ∧ t.2.2.2 = t'.snd.2.2) ∧ Tr 1 ((↑t.1 : Int) + 1 = (↑t'.fst : Int)) ∧ Tr 132 True))
 ∧ true = true ∧ ((24 : TypeId) = 24 ∧ Tr 1 ((↑x.1.1 : Int) = (↑x.1.1 : Int)) ∧ ((1 : Nat) = 1 ∧ x.1.2.1.length = x.1.2.1.length ∧ ∀ (i : Nat), i <
 x.1.2.1.length → [AV.int .i64 (x.1.2.1.getD i 0)] = [AV.int .i64 (x.1.2.1.getD i 0)]) ∧ ((1 : Nat) = 1 ∧ x.1.2.2.1.length = x.1.2.2.1.length ∧ ∀ (i : Nat), i <
 x.1.2.2.1.length → [AV.int .i64 (x.1.2.2.1.getD i 0)] = [AV.int .i64 (x.1.2.2.1.getD i 0)]) ∧ Tr 1 (x.1.2.2.2 = x.1.2.2.2) ∧ True) ∧ allocB (takeS x_4.1
 x_4.1.r) = allocB t'.snd.1 ∧ ((38 : TypeId) = 38 ∧ Tr 1 ((↑t.2.1.n : Int) = (↑t'.snd.1.n : Int)) ∧ true = true ∧ true = true ∧ true = true ∧ true = true ∧ true
 = true ∧ True) ∧ ((3 : TypeId) = 3 ∧ (1 : Nat) = 1 ∧ t.2.2.1 = t'.snd.2.1 ∧ (lC t'.snd.1).length ≤ (lC t.2.1).length ∧ ∀ (i : Nat), i < (lC t'.snd.1).length →
 [AV.int .i64 ((lC t.2.1).getD i 0)] = [AV.int .i64 ((lC t'.snd.1).getD i 0)]) ∧ ((3 : TypeId) = 3 ∧ (1 : Nat) = 1 ∧ t.2.2.2 = t'.snd.2.2 ∧ (lE t'.snd.1).length
 ≤ (lE t.2.1).length ∧ ∀ (i : Nat), i < (lE t'.snd.1).length → [AV.int .i64 ((lE t.2.1).getD i 0)] = [AV.int .i64 ((lE t'.snd.1).getD i 0)]) ∧ True)))))) (BC
 (!decide (takeErr x_4.1 x_4.1.r = (0 : Int))) (BC (!decide (takeErr x_4.1 x_4.1.r = (10 : Int))) (Exx Unit fun y => ((false = true ∧ True) ∧ true = true ∧ True)
 ∧ True) (BC (!decide (takeAt x_4.1 x_4.1.r = (0 : Int))) (Exx Unit fun y => ((false = true ∧ True) ∧ true = true ∧ True) ∧ True) (I64 ((↑t.1 : Int) + 1) ∧ Exx
 (Nat × AllocT × Nat × Nat) fun t' => (I t' ∧ m t' < m t) ∧ Tr 1 (((2 : Nat) = 2 ∧ x.2.length = x.2.length ∧ ∀ (i : Nat), i < x.2.length → [AV.int .i64 (x.2.getD
 i act18Z).kind, AV.int .i64 (x.2.getD i act18Z).at_] = [AV.int .i64 (x.2.getD i act18Z).kind, AV.int .i64 (x.2.getD i act18Z).at_]) ∧ Tr 3 ((true = true ∧
 NilNil ∧ (0 : Nat) = 0) ∧ (true = true ∧ NilNil ∧ (0 : Nat) = 0) ∧ (true = true ∧ NilNil ∧ (0 : Nat) = 0 ∧ (1 : Nat) = 1 ∧ (0 : Nat) = 0 ∧ (lC t.2.1).length =
 (lC t'.snd.1).length ∧ t.2.2.1 = t'.snd.2.1) ∧ (true = true ∧ NilNil ∧ (0 : Nat) = 0 ∧ (1 : Nat) = 1 ∧ (0 : Nat) = 0 ∧ (lE t.2.1).length = (lE t'.snd.1).length
 ∧ t.2.2.2 = t'.snd.2.2) ∧ Tr 1 ((↑t.1 : Int) + 1 = (↑t'.fst : Int)) ∧ Tr 132 True)) ∧ true = true ∧ ((24 : TypeId) = 24 ∧ Tr 1 ((↑x.1.1 : Int) = (↑x.1.1 : Int))
 ∧ ((1 : Nat) = 1 ∧ x.1.2.1.length = x.1.2.1.length ∧ ∀ (i : Nat), i < x.1.2.1.length → [AV.int .i64 (x.1.2.1.getD i 0)] = [AV.int .i64 (x.1.2.1.getD i 0)]) ∧
 ((1 : Nat) = 1 ∧ x.1.2.2.1.length = x.1.2.2.1.length ∧ ∀ (i : Nat), i < x.1.2.2.1.length → [AV.int .i64 (x.1.2.2.1.getD i 0)] = [AV.int .i64 (x.1.2.2.1.getD i
 0)]) ∧ Tr 1 (x.1.2.2.2 = x.1.2.2.2) ∧ True) ∧ allocB (takeS x_4.1 x_4.1.r) = allocB t'.snd.1 ∧ ((38 : TypeId) = 38 ∧ Tr 1 ((↑t.2.1.n : Int) = (↑t'.snd.1.n :
 Int)) ∧ true = true ∧ true = true ∧ true = true ∧ true = true ∧ true = true ∧ True) ∧ ((3 : TypeId) = 3 ∧ (1 : Nat) = 1 ∧ t.2.2.1 = t'.snd.2.1 ∧ (lC
 t'.snd.1).length ≤ (lC t.2.1).length ∧ ∀ (i : Nat), i < (lC t'.snd.1).length → [AV.int .i64 ((lC t.2.1).getD i 0)] = [AV.int .i64 ((lC t'.snd.1).getD i 0)]) ∧
 ((3 : TypeId) = 3 ∧ (1 : Nat) = 1 ∧ t.2.2.2 = t'.snd.2.2 ∧ (lE t'.snd.1).length ≤ (lE t.2.1).length ∧ ∀ (i : Nat), i < (lE t'.snd.1).length → [AV.int .i64 ((lE
 t.2.1).getD i 0)] = [AV.int .i64 ((lE t'.snd.1).getD i 0)]) ∧ True))) (I64 ((↑t.1 : Int) + 1) ∧ Exx (Nat × AllocT × Nat × Nat) fun t' => (I t' ∧ m t' < m t) ∧
 Tr 1 (((2 : Nat) = 2 ∧ x.2.length = x.2.length ∧ ∀ (i : Nat), i < x.2.length → [AV.int .i64 (x.2.getD i act18Z).kind, AV.int .i64 (x.2.getD i act18Z).at_] =
 [AV.int .i64 (x.2.getD i act18Z).kind, AV.int .i64 (x.2.getD i act18Z).at_]) ∧ Tr 3 ((true = true ∧ NilNil ∧ (0 : Nat) = 0) ∧ (true = true ∧ NilNil ∧ (0 : Nat)
 = 0) ∧ (true = true ∧ NilNil ∧ (0 : Nat) = 0 ∧ (1 : Nat) = 1 ∧ (0 : Nat) = 0 ∧ (lC t.2.1).length = (lC t'.snd.1).length ∧ t.2.2.1 = t'.snd.2.1) ∧ (true = true ∧
 NilNil ∧ (0 : Nat) = 0 ∧ (1 : Nat) = 1 ∧ (0 : Nat) = 0 ∧ (lE t.2.1).length = (lE t'.snd.1).length ∧ t.2.2.2 = t'.snd.2.2) ∧ Tr 1 ((↑t.1 : Int) + 1 = (↑t'.fst :
 Int)) ∧ Tr 132 True)) ∧ true = true ∧ ((24 : TypeId) = 24 ∧ Tr 1 ((↑x.1.1 : Int) = (↑x.1.1 : Int)) ∧ ((1 : Nat) = 1 ∧ x.1.2.1.length = x.1.2.1.length ∧ ∀ (i :
 Nat), i < x.1.2.1.length → [AV.int .i64 (x.1.2.1.getD i 0)] = [AV.int .i64 (x.1.2.1.getD i 0)]) ∧ ((1 : Nat) = 1 ∧ x.1.2.2.1.length = x.1.2.2.1.length ∧ ∀ (i :
 Nat), i < x.1.2.2.1.length → [AV.int .i64 (x.1.2.2.1.getD i 0)] = [AV.int .i64 (x.1.2.2.1.getD i 0)]) ∧ Tr 1 (x.1.2.2.2 = x.1.2.2.2) ∧ True) ∧ allocB (takeS
 x_4.1 x_4.1.r) = allocB t'.snd.1 ∧ ((38 : TypeId) = 38 ∧ Tr 1 ((↑t.2.1.n : Int) = (↑t'.snd.1.n : Int)) ∧ true = true ∧ true = true ∧ true = true ∧ true = true ∧
 true = true ∧ True) ∧ ((3 : TypeId) = 3 ∧ (1 : Nat) = 1 ∧ t.2.2.1 = t'.snd.2.1 ∧ (lC t'.snd.1).length ≤ (lC t.2.1).length ∧ ∀ (i : Nat), i < (lC
 t'.snd.1).length → [AV.int .i64 ((lC t.2.1).getD i 0)] = [AV.int .i64 ((lC t'.snd.1).getD i 0)]) ∧ ((3 : TypeId) = 3 ∧ (1 : Nat) = 1 ∧ t.2.2.2 = t'.snd.2.2 ∧
 (lE t'.snd.1).length ≤ (lE t.2.1).length ∧ ∀ (i : Nat), i < (lE t'.snd.1).length → [AV.int .i64 ((lE t.2.1).getD i 0)] = [AV.int .i64 ((lE t'.snd.1).getD i 0)])
 ∧ True)))) (BC (decide (takeErr x_4.1 x_4.1.r = (0 : Int))) (BC (decide (takeAt x_4.1 x_4.1.r < (0 : Int))) (Exx Unit fun y => ((false = true ∧ True) ∧ true =
 true ∧ True) ∧ True) (BC (decide ((↑t.2.1.n : Int) ≤ takeAt x_4.1 x_4.1.r)) (Exx Unit fun y => ((false = true ∧ True) ∧ true = true ∧ True) ∧ True) (Exx (List
 Int × Int) fun x_6 => (((0 + (lC t.2.1).length ≤ (lC t.2.1).length ∧ (lC t.2.1).length = x_6.1.length ∧ ∀ (i : Nat), i < x_6.1.length → [AV.int .i64 ((lC
 t.2.1).getD (0 + i) 0)] = [AV.int .i64 (x_6.1.getD i 0)]) ∧ Tr 1 (takeAt x_4.1 x_4.1.r = x_6.2) ∧ True) ∧ true = true ∧ True) ∧ (IntL x_6.1 ∧ I64 x_6.2) ∧ ∀ (y
 : Unit), True → BC (decide (x_6.2 ∈ x_6.1)) (Exx Unit fun y => ((false = true ∧ True) ∧ true = true ∧ True) ∧ True) (Exx (List Int × Int) fun x_7 => (((0 + (lE
 t.2.1).length ≤ (lE t.2.1).length ∧ (lE t.2.1).length = x_7.1.length ∧ ∀ (i : Nat), i < x_7.1.length → [AV.int .i64 ((lE t.2.1).getD (0 + i) 0)] = [AV.int .i64
 (x_7.1.getD i 0)]) ∧ Tr 1 (takeAt x_4.1 x_4.1.r = x_7.2) ∧ True) ∧ true = true ∧ True) ∧ (IntL x_7.1 ∧ I64 x_7.2) ∧ ∀ (y : Unit), True → BC (decide (x_7.2 ∈
 x_7.1)) (Exx Unit fun y => ((false = true ∧ True) ∧ true = true ∧ True) ∧ True) (BC (!decide (takeErr x_4.1 x_4.1.r = (0 : Int))) (BC (!decide (takeErr x_4.1
 x_4.1.r = (10 : Int))) (Exx Unit fun y => ((false = true ∧ True) ∧ true = true ∧ True) ∧ True) (BC (!decide (takeAt x_4.1 x_4.1.r = (0 : Int))) (Exx Unit fun y
 => ((false = true ∧ True) ∧ true = true ∧ True) ∧ True) (I64 ((↑t.1 : Int) + 1) ∧ Exx (Nat × AllocT × Nat × Nat) fun t' => (I t' ∧ m t' < m t) ∧ Tr 1 (((2 :
 Nat) = 2 ∧ x.2.length = x.2.length ∧ ∀ (i : Nat), i < x.2.length → [AV.int .i64 (x.2.getD i act18Z).kind, AV.int .i64 (x.2.getD i act18Z).at_] = [AV.int .i64
 (x.2.getD i act18Z).kind, AV.int .i64 (x.2.getD i act18Z).at_]) ∧ Tr 3 ((true = true ∧ NilNil ∧ (0 : Nat) = 0) ∧ (true = true ∧ NilNil ∧ (0 : Nat) = 0) ∧ (true
 = true ∧ NilNil ∧ (0 : Nat) = 0 ∧ (1 : Nat) = 1 ∧ (0 : Nat) = 0 ∧ (lC t.2.1).length = (lC t'.snd.1).length ∧ t.2.2.1 = t'.snd.2.1) ∧ (true = true ∧ NilNil ∧ (0
 : Nat) = 0 ∧ (1 : Nat) = 1 ∧ (0 : Nat) = 0 ∧ (lE t.2.1).length = (lE t'.snd.1).length ∧ t.2.2.2 = t'.snd.2.2) ∧ Tr 1 ((↑t.1 : Int) + 1 = (↑t'.fst : Int)) ∧ Tr
 132 True)) ∧ true = true ∧ ((24 : TypeId) = 24 ∧ Tr 1 ((↑x.1.1 : Int) = (↑x.1.1 : Int)) ∧ ((1 : Nat) = 1 ∧ x.1.2.1.length = x.1.2.1.length ∧ ∀ (i : Nat), i <
 x.1.2.1.length → [AV.int .i64 (x.1.2.1.getD i 0)] = [AV.int .i64 (x.1.2.1.getD i 0)]) ∧ ((1 : Nat) = 1 ∧ x.1.2.2.1.length = x.1.2.2.1.length ∧ ∀ (i : Nat), i <
 x.1.2.2.1.length → [AV.int .i64 (x.1.2.2.1.getD i 0)] = [AV.int .i64 (x.1.2.2.1.getD i 0)]) ∧ Tr 1 (x.1.2.2.2 = x.1.2.2.2) ∧ True) ∧ allocB (takeS x_4.1
 x_4.1.r) = allocB t'.snd.1 ∧ ((38 : TypeId) = 38 ∧ Tr 1 ((↑t.2.1.n : Int) = (↑t'.snd.1.n : Int)) ∧ true = true ∧ true = true ∧ true = true ∧ true = true ∧ true
 = true ∧ True) ∧ ((3 : TypeId) = 3 ∧ (1 : Nat) = 1 ∧ t.2.2.1 = t'.snd.2.1 ∧ (lC t'.snd.1).length ≤ (lC t.2.1).length ∧ ∀ (i : Nat), i < (lC t'.snd.1).length →
 [AV.int .i64 ((lC t.2.1).getD i 0)] = [AV.int .i64 ((lC t'.snd.1).getD i 0)]) ∧ ((3 : TypeId) = 3 ∧ (1 : Nat) = 1 ∧ t.2.2.2 = t'.snd.2.2 ∧ (lE t'.snd.1).length
 ≤ (lE t.2.1).length ∧ ∀ (i : Nat), i < (lE t'.snd.1).length → [AV.int .i64 ((lE t.2.1).getD i 0)] = [AV.int .i64 ((lE t'.snd.1).getD i 0)]) ∧ True))) (I64
 ((↑t.1 : Int) + 1) ∧ Exx (Nat × AllocT × Nat × Nat) fun t' => (I t' ∧ m t' < m t) ∧ Tr 1 (((2 : Nat) = 2 ∧ x.2.length = x.2.length ∧ ∀ (i : Nat), i < x.2.length
 → [AV.int .i64 (x.2.getD i act18Z).kind, AV.int .i64 (x.2.getD i act18Z).at_] = [AV.int .i64 (x.2.getD i act18Z).kind, AV.int .i64 (x.2.getD i act18Z).at_]) ∧
 Tr 3 ((true = true ∧ NilNil ∧ (0 : Nat) = 0) ∧ (true = true ∧ NilNil ∧ (0 : Nat) = 0) ∧ (true = true ∧ NilNil ∧ (0 : Nat) = 0 ∧ (1 : Nat) = 1 ∧ (0 : Nat) = 0 ∧
 (lC t.2.1).length = (lC t'.snd.1).length ∧ t.2.2.1 = t'.snd.2.1) ∧ (true = true ∧ NilNil ∧ (0 : Nat) = 0 ∧ (1 : Nat) = 1 ∧ (0 : Nat) = 0 ∧ (lE t.2.1).length =
 (lE t'.snd.1).length ∧ t.2.2.2 = t'.snd.2.2) ∧ Tr 1 ((↑t.1 : Int) + 1 = (↑t'.fst : Int)) ∧ Tr 132 True)) ∧ true = true ∧ ((24 : TypeId) = 24 ∧ Tr 1 ((↑x.1.1 :
 Int) = (↑x.1.1 : Int)) ∧ ((1 : Nat) = 1 ∧ x.1.2.1.length = x.1.2.1.length ∧ ∀ (i : Nat), i < x.1.2.1.length → [AV.int .i64 (x.1.2.1.getD i 0)] = [AV.int .i64
 (x.1.2.1.getD i 0)]) ∧ ((1 : Nat) = 1 ∧ x.1.2.2.1.length = x.1.2.2.1.length ∧ ∀ (i : Nat), i < x.1.2.2.1.length → [AV.int .i64 (x.1.2.2.1.getD i 0)] = [AV.int
 .i64 (x.1.2.2.1.getD i 0)]) ∧ Tr 1 (x.1.2.2.2 = x.1.2.2.2) ∧ True) ∧ allocB (takeS x_4.1 x_4.1.r) = allocB t'.snd.1 ∧ ((38 : TypeId) = 38 ∧ Tr 1 ((↑t.2.1.n :
 Int) = (↑t'.snd.1.n : Int)) ∧ true = true ∧ true = true ∧ true = true ∧ true = true ∧ true = true ∧ True) ∧ ((3 : TypeId) = 3 ∧ (1 : Nat) = 1 ∧ t.2.2.1 =
 t'.snd.2.1 ∧ (lC t'.snd.1).length ≤ (lC t.2.1).length ∧ ∀ (i : Nat), i < (lC t'.snd.1).length → [AV.int .i64 ((lC t.2.1).getD i 0)] = [AV.int .i64 ((lC
 t'.snd.1).getD i 0)]) ∧ ((3 : TypeId) = 3 ∧ (1 : Nat) = 1 ∧ t.2.2.2 = t'.snd.2.2 ∧ (lE t'.snd.1).length ≤ (lE t.2.1).length ∧ ∀ (i : Nat), i < (lE
 t'.snd.1).length → [AV.int .i64 ((lE t.2.1).getD i 0)] = [AV.int .i64 ((lE t'.snd.1).getD i 0)]) ∧ True)))))) (BC (!decide (takeErr x_4.1 x_4.1.r = (0 : Int)))
 (BC (!decide (takeErr x_4.1 x_4.1.r = (10 : Int))) (Exx Unit fun y => ((false = true ∧ True) ∧ true = true ∧ True) ∧ True) (BC (!decide (takeAt x_4.1 x_4.1.r =
 (0 : Int))) (Exx Unit fun y => ((false = true ∧ True) ∧ true = true ∧ True) ∧ True) (I64 ((↑t.1 : Int) + 1) ∧ Exx (Nat × AllocT × Nat × Nat) fun t' => (I t' ∧ m
 t' < m t) ∧ Tr 1 (((2 : Nat) = 2 ∧ x.2.length = x.2.length ∧ ∀ (i : Nat), i < x.2.length → [AV.int .i64 (x.2.getD i act18Z).kind, AV.int .i64 (x.2.getD i
 act18Z).at_] = [AV.int .i64 (x.2.getD i act18Z).kind, AV.int .i64 (x.2.getD i act18Z).at_]) ∧ Tr 3 ((true = true ∧ NilNil ∧ (0 : Nat) = 0) ∧ (true = true ∧
 NilNil ∧ (0 : Nat) = 0) ∧ (true = true ∧ NilNil ∧ (0 : Nat) = 0 ∧ (1 : Nat) = 1 ∧ (0 : Nat) = 0 ∧ (lC t.2.1).length = (lC t'.snd.1).length ∧ t.2.2.1 =
 t'.snd.2.1) ∧ (true = true ∧ NilNil ∧ (0 : Nat) = 0 ∧ (1 : Nat) = 1 ∧ (0 : Nat) = 0 ∧ (lE t.2.1).length = (lE t'.snd.1).length ∧ t.2.2.2 = t'.snd.2.2) ∧ Tr 1
 ((↑t.1 : Int) + 1 = (↑t'.fst : Int)) ∧ Tr 132 True)) ∧ true = true ∧ ((24 : TypeId) = 24 ∧ Tr 1 ((↑x.1.1 : Int) = (↑x.1.1 : Int)) ∧ ((1 : Nat) = 1 ∧
 x.1.2.1.length = x.1.2.1.length ∧ ∀ (i : Nat), i < x.1.2.1.length → [AV.int .i64 (x.1.2.1.getD i 0)] = [AV.int .i64 (x.1.2.1.getD i 0)]) ∧ ((1 : Nat) = 1 ∧
 x.1.2.2.1.length = x.1.2.2.1.length ∧ ∀ (i : Nat), i < x.1.2.2.1.length → [AV.int .i64 (x.1.2.2.1.getD i 0)] = [AV.int .i64 (x.1.2.2.1.getD i 0)]) ∧ Tr 1
 (x.1.2.2.2 = x.1.2.2.2) ∧ True) ∧ allocB (takeS x_4.1 x_4.1.r) = allocB t'.snd.1 ∧ ((38 : TypeId) = 38 ∧ Tr 1 ((↑t.2.1.n : Int) = (↑t'.snd.1.n : Int)) ∧ true =
 true ∧ true = true ∧ true = true ∧ true = true ∧ true = true ∧ True) ∧ ((3 : TypeId) = 3 ∧ (1 : Nat) = 1 ∧ t.2.2.1 = t'.snd.2.1 ∧ (lC t'.snd.1).length ≤ (lC
 t.2.1).length ∧ ∀ (i : Nat), i < (lC t'.snd.1).length → [AV.int .i64 ((lC t.2.1).getD i 0)] = [AV.int .i64 ((lC t'.snd.1).getD i 0)]) ∧ ((3 : TypeId) = 3 ∧ (1 :
 Nat) = 1 ∧ t.2.2.2 = t'.snd.2.2 ∧ (lE t'.snd.1).length ≤ (lE t.2.1).length ∧ ∀ (i : Nat), i < (lE t'.snd.1).length → [AV.int .i64 ((lE t.2.1).getD i 0)] =
 [AV.int .i64 ((lE t'.snd.1).getD i 0)]) ∧ True))) (I64 ((↑t.1 : Int) + 1) ∧ Exx (Nat × AllocT × Nat × Nat) fun t' => (I t' ∧ m t' < m t) ∧ Tr 1 (((2 : Nat) = 2
 ∧ x.2.length = x.2.length ∧ ∀ (i : Nat), i < x.2.length → [AV.int .i64 (x.2.getD i act18Z).kind, AV.int .i64 (x.2.getD i act18Z).at_] = [AV.int .i64 (x.2.getD i
 act18Z).kind, AV.int .i64 (x.2.getD i act18Z).at_]) ∧ Tr 3 ((true = true ∧ NilNil ∧ (0 : Nat) = 0) ∧ (true = true ∧ NilNil ∧ (0 : Nat) = 0) ∧ (true = true ∧
 NilNil ∧ (0 : Nat) = 0 ∧ (1 : Nat) = 1 ∧ (0 : Nat) = 0 ∧ (lC t.2.1).length = (lC t'.snd.1).length ∧ t.2.2.1 = t'.snd.2.1) ∧ (true = true ∧ NilNil ∧ (0 : Nat) =
 0 ∧ (1 : Nat) = 1 ∧ (0 : Nat) = 0 ∧ (lE t.2.1).length = (lE t'.snd.1).length ∧ t.2.2.2 = t'.snd.2.2) ∧ Tr 1 ((↑t.1 : Int) + 1 = (↑t'.fst : Int)) ∧ Tr 132 True))
 ∧ true = true ∧ ((24 : TypeId) = 24 ∧ Tr 1 ((↑x.1.1 : Int) = (↑x.1.1 : Int)) ∧ ((1 : Nat) = 1 ∧ x.1.2.1.length = x.1.2.1.length ∧ ∀ (i : Nat), i <
 x.1.2.1.length → [AV.int .i64 (x.1.2.1.getD i 0)] = [AV.int .i64 (x.1.2.1.getD i 0)]) ∧ ((1 : Nat) = 1 ∧ x.1.2.2.1.length = x.1.2.2.1.length ∧ ∀ (i : Nat), i <
 x.1.2.2.1.length → [AV.int .i64 (x.1.2.2.1.getD i 0)] = [AV.int .i64 (x.1.2.2.1.getD i 0)]) ∧ Tr 1 (x.1.2.2.2 = x.1.2.2.2) ∧ True) ∧ allocB (takeS x_4.1
 x_4.1.r) = allocB t'.snd.1 ∧ ((38 : TypeId) = 38 ∧ Tr 1 ((↑t.2.1.n : Int) = (↑t'.snd.1.n : Int)) ∧ true = true ∧ true = true ∧ true = true ∧ true = true ∧ true
 = true ∧ True) ∧ ((3 : TypeId) = 3 ∧ (1 : Nat) = 1 ∧ t.2.2.1 = t'.snd.2.1 ∧ (lC t'.snd.1).length ≤ (lC t.2.1).length ∧ ∀ (i : Nat), i < (lC t'.snd.1).length →
 [AV.int .i64 ((lC t.2.1).getD i 0)] = [AV.int .i64 ((lC t'.snd.1).getD i 0)]) ∧ ((3 : TypeId) = 3 ∧ (1 : Nat) = 1 ∧ t.2.2.2 = t'.snd.2.2 ∧ (lE t'.snd.1).length
 ≤ (lE t.2.1).length ∧ ∀ (i : Nat), i < (lE t'.snd.1).length → [AV.int .i64 ((lE t.2.1).getD i 0)] = [AV.int .i64 ((lE t'.snd.1).getD i 0)]) ∧ True)))) (BC
 (decide (x_3.1 % x_3.2 = (2 : Int))) (((0 : Int) ≤ (↑t.1 : Int) ∧ (↑t.1 : Int) < (↑x.2.length : Int)) ∧ Exx (AllocT × Int) fun x_4 => (((true = true ∧ NilNil ∧
 (0 : Nat) = 0) ∧ Tr 1 ((x.2.getD (↑t.1 : Int).toNat act18Z).at_ = x_4.2) ∧ True) ∧ true = true ∧ allocB t.2.1 = allocB x_4.1 ∧ True) ∧ (AllocW x_4.1 ∧ I64
 x_4.2) ∧ ∀ (y : Unit), True → I64 ((↑t.1 : Int) + 1) ∧ Exx (Nat × AllocT × Nat × Nat) fun t' => (I t' ∧ m t' < m t) ∧ Tr 1 (((2 : Nat) = 2 ∧ x.2.length =
 x.2.length ∧ ∀ (i : Nat), i < x.2.length → [AV.int .i64 (x.2.getD i act18Z).kind, AV.int .i64 (x.2.getD i act18Z).at_] = [AV.int .i64 (x.2.getD i act18Z).kind,
 AV.int .i64 (x.2.getD i act18Z).at_]) ∧ Tr 3 ((true = true ∧ NilNil ∧ (0 : Nat) = 0) ∧ (true = true ∧ NilNil ∧ (0 : Nat) = 0) ∧ (true = true ∧ NilNil ∧ (0 :
 Nat) = 0 ∧ (1 : Nat) = 1 ∧ (0 : Nat) = 0 ∧ (lC t.2.1).length = (lC t'.snd.1).length ∧ t.2.2.1 = t'.snd.2.1) ∧ (true = true ∧ NilNil ∧ (0 : Nat) = 0 ∧ (1 : Nat)
 = 1 ∧ (0 : Nat) = 0 ∧ (lE t.2.1).length = (lE t'.snd.1).length ∧ t.2.2.2 = t'.snd.2.2) ∧ Tr 1 ((↑t.1 : Int) + 1 = (↑t'.fst : Int)) ∧ Tr 132 True)) ∧ true = true
 ∧ ((24 : TypeId) = 24 ∧ Tr 1 ((↑x.1.1 : Int) = (↑x.1.1 : Int)) ∧ ((1 : Nat) = 1 ∧ x.1.2.1.length = x.1.2.1.length ∧ ∀ (i : Nat), i < x.1.2.1.length → [AV.int
 .i64 (x.1.2.1.getD i 0)] = [AV.int .i64 (x.1.2.1.getD i 0)]) ∧ ((1 : Nat) = 1 ∧ x.1.2.2.1.length = x.1.2.2.1.length ∧ ∀ (i : Nat), i < x.1.2.2.1.length →
 [AV.int .i64 (x.1.2.2.1.getD i 0)] = [AV.int .i64 (x.1.2.2.1.getD i 0)]) ∧ Tr 1 (x.1.2.2.2 = x.1.2.2.2) ∧ True) ∧ allocB (giveS x_4.1 x_4.2) = allocB t'.snd.1 ∧
 ((38 : TypeId) = 38 ∧ Tr 1 ((↑t.2.1.n : Int) = (↑t'.snd.1.n : Int)) ∧ true = true ∧ true = true ∧ true = true ∧ true = true ∧ true = true ∧ True) ∧ ((3 :
 TypeId) = 3 ∧ (1 : Nat) = 1 ∧ t.2.2.1 = t'.snd.2.1 ∧ (lC t'.snd.1).length ≤ (lC t.2.1).length ∧ ∀ (i : Nat), i < (lC t'.snd.1).length → [AV.int .i64 ((lC
 t.2.1).getD i 0)] = [AV.int .i64 ((lC t'.snd.1).getD i 0)]) ∧ ((3 : TypeId) = 3 ∧ (1 : Nat) = 1 ∧ t.2.2.2 = t'.snd.2.2 ∧ (lE t'.snd.1).length ≤ (lE
 t.2.1).length ∧ ∀ (i : Nat), i < (lE t'.snd.1).length → [AV.int .i64 ((lE t.2.1).getD i 0)] = [AV.int .i64 ((lE t'.snd.1).getD i 0)]) ∧ True) (BC (decide (x_3.1
 % x_3.2 = (3 : Int))) (Exx (AllocT × Unit) fun x_4 => (((true = true ∧ NilNil ∧ (0 : Nat) = 0) ∧ True) ∧ true = true ∧ allocB t.2.1 = allocB x_4.1 ∧ True) ∧
 (AllocW x_4.1 ∧ True) ∧ ∀ (y : Unit), True → I64 ((↑t.1 : Int) + 1) ∧ Exx (Nat × AllocT × Nat × Nat) fun t' => (I t' ∧ m t' < m t) ∧ Tr 1 (((2 : Nat) = 2 ∧
 x.2.length = x.2.length ∧ ∀ (i : Nat), i < x.2.length → [AV.int .i64 (x.2.getD i act18Z).kind, AV.int .i64 (x.2.getD i act18Z).at_] = [AV.int .i64 (x.2.getD i
 act18Z).kind, AV.int .i64 (x.2.getD i act18Z).at_]) ∧ Tr 3 ((true = true ∧ NilNil ∧ (0 : Nat) = 0) ∧ (true = true ∧ NilNil ∧ (0 : Nat) = 0) ∧ (true = true ∧
 NilNil ∧ (0 : Nat) = 0 ∧ (1 : Nat) = 1 ∧ (0 : Nat) = 0 ∧ (lC t.2.1).length = (lC t'.snd.1).length ∧ t.2.2.1 = t'.snd.2.1) ∧ (true = true ∧ NilNil ∧ (0 : Nat) =
 0 ∧ (1 : Nat) = 1 ∧ (0 : Nat) = 0 ∧ (lE t.2.1).length = (lE t'.snd.1).length ∧ t.2.2.2 = t'.snd.2.2) ∧ Tr 1 ((↑t.1 : Int) + 1 = (↑t'.fst : Int)) ∧ Tr 132 True))
 ∧ true = true ∧ ((24 : TypeId) = 24 ∧ Tr 1 ((↑x.1.1 : Int) = (↑x.1.1 : Int)) ∧ ((1 : Nat) = 1 ∧ x.1.2.1.length = x.1.2.1.length ∧ ∀ (i : Nat), i <
 x.1.2.1.length → [AV.int .i64 (x.1.2.1.getD i 0)] = [AV.int .i64 (x.1.2.1.getD i 0)]) ∧ ((1 : Nat) = 1 ∧ x.1.2.2.1.length = x.1.2.2.1.length ∧ ∀ (i : Nat), i <
 x.1.2.2.1.length → [AV.int .i64 (x.1.2.2.1.getD i 0)] = [AV.int .i64 (x.1.2.2.1.getD i 0)]) ∧ Tr 1 (x.1.2.2.2 = x.1.2.2.2) ∧ True) ∧ allocB (markS x_4.1) =
 allocB t'.snd.1 ∧ ((38 : TypeId) = 38 ∧ Tr 1 ((↑t.2.1.n : Int) = (↑t'.snd.1.n : Int)) ∧ true = true ∧ true = true ∧ true = true ∧ true = true ∧ true = true ∧
 True) ∧ ((3 : TypeId) = 3 ∧ (1 : Nat) = 1 ∧ t.2.2.1 = t'.snd.2.1 ∧ (lC t'.snd.1).length ≤ (lC t.2.1).length ∧ ∀ (i : Nat), i < (lC t'.snd.1).length → [AV.int
 .i64 ((lC t.2.1).getD i 0)] = [AV.int .i64 ((lC t'.snd.1).getD i 0)]) ∧ ((3 : TypeId) = 3 ∧ (1 : Nat) = 1 ∧ t.2.2.2 = t'.snd.2.2 ∧ (lE t'.snd.1).length ≤ (lE
 t.2.1).length ∧ ∀ (i : Nat), i < (lE t'.snd.1).length → [AV.int .i64 ((lE t.2.1).getD i 0)] = [AV.int .i64 ((lE t'.snd.1).getD i 0)]) ∧ True) (BC (decide (x_3.1
 % x_3.2 = (4 : Int))) (Exx (AllocT × Unit) fun x_4 => (((true = true ∧ NilNil ∧ (0 : Nat) = 0) ∧ True) ∧ true = true ∧ allocB t.2.1 = allocB x_4.1 ∧ True) ∧
 (AllocW x_4.1 ∧ True) ∧ ∀ (y : Unit), True → I64 ((↑t.1 : Int) + 1) ∧ Exx (Nat × AllocT × Nat × Nat) fun t' => (I t' ∧ m t' < m t) ∧ Tr 1 (((2 : Nat) = 2 ∧
 x.2.length = x.2.length ∧ ∀ (i : Nat), i < x.2.length → [AV.int .i64 (x.2.getD i act18Z).kind, AV.int .i64 (x.2.getD i act18Z).at_] = [AV.int .i64 (x.2.getD i
 act18Z).kind, AV.int .i64 (x.2.getD i act18Z).at_]) ∧ Tr 3 ((true = true ∧ NilNil ∧ (0 : Nat) = 0) ∧ (true = true ∧ NilNil ∧ (0 : Nat) = 0) ∧ (true = true ∧
 NilNil ∧ (0 : Nat) = 0 ∧ (1 : Nat) = 1 ∧ (0 : Nat) = 0 ∧ (lC t.2.1).length = (lC t'.snd.1).length ∧ t.2.2.1 = t'.snd.2.1) ∧ (true = true ∧ NilNil ∧ (0 : Nat) =
 0 ∧ (1 : Nat) = 1 ∧ (0 : Nat) = 0 ∧ (lE t.2.1).length = (lE t'.snd.1).length ∧ t.2.2.2 = t'.snd.2.2) ∧ Tr 1 ((↑t.1 : Int) + 1 = (↑t'.fst : Int)) ∧ Tr 132 True))
 ∧ true = true ∧ ((24 : TypeId) = 24 ∧ Tr 1 ((↑x.1.1 : Int) = (↑x.1.1 : Int)) ∧ ((1 : Nat) = 1 ∧ x.1.2.1.length = x.1.2.1.length ∧ ∀ (i : Nat), i <
 x.1.2.1.length → [AV.int .i64 (x.1.2.1.getD i 0)] = [AV.int .i64 (x.1.2.1.getD i 0)]) ∧ ((1 : Nat) = 1 ∧ x.1.2.2.1.length = x.1.2.2.1.length ∧ ∀ (i : Nat), i <
 x.1.2.2.1.length → [AV.int .i64 (x.1.2.2.1.getD i 0)] = [AV.int .i64 (x.1.2.2.1.getD i 0)]) ∧ Tr 1 (x.1.2.2.2 = x.1.2.2.2) ∧ True) ∧ allocB (backS x_4.1) =
 allocB t'.snd.1 ∧ ((38 : TypeId) = 38 ∧ Tr 1 ((↑t.2.1.n : Int) = (↑t'.snd.1.n : Int)) ∧ true = true ∧ true = true ∧ true = true ∧ true = true ∧ true = true ∧
 True) ∧ ((3 : TypeId) = 3 ∧ (1 : Nat) = 1 ∧ t.2.2.1 = t'.snd.2.1 ∧ (lC t'.snd.1).length ≤ (lC t.2.1).length ∧ ∀ (i : Nat), i < (lC t'.snd.1).length → [AV.int
 .i64 ((lC t.2.1).getD i 0)] = [AV.int .i64 ((lC t'.snd.1).getD i 0)]) ∧ ((3 : TypeId) = 3 ∧ (1 : Nat) = 1 ∧ t.2.2.2 = t'.snd.2.2 ∧ (lE t'.snd.1).length ≤ (lE
 t.2.1).length ∧ ∀ (i : Nat), i < (lE t'.snd.1).length → [AV.int .i64 ((lE t.2.1).getD i 0)] = [AV.int .i64 ((lE t'.snd.1).getD i 0)]) ∧ True) (BC (decide (x_3.1
 % x_3.2 = (5 : Int))) (Exx (AllocT × Unit) fun x_4 => (((true = true ∧ NilNil ∧ (0 : Nat) = 0) ∧ True) ∧ true = true ∧ allocB t.2.1 = allocB x_4.1 ∧ True) ∧
 (AllocW x_4.1 ∧ True) ∧ ∀ (y : Unit), True → Exx AllocT fun x_5 => (((true = true ∧ NilNil ∧ (0 : Nat) = 0) ∧ True) ∧ true = true ∧ allocB (commitS x_4.1) =
 allocB x_5 ∧ True) ∧ AllocW x_5 ∧ ∀ (y : Unit), True → Exx (Nat × Nat) fun x_6 => (((true = true ∧ NilNil ∧ (0 : Nat) = 0) ∧ True) ∧ true = true ∧ setB (x_5.n,
 x_5.w) = setB x_6 ∧ True) ∧ SetW x_6 ∧ ∀ (y : Nat), (listN x_6).length ≤ y → I64 ((↑t.1 : Int) + 1) ∧ Exx (Nat × AllocT × Nat × Nat) fun t' => (I t' ∧ m t' < m
 t) ∧ Tr 1 (((2 : Nat) = 2 ∧ x.2.length = x.2.length ∧ ∀ (i : Nat), i < x.2.length → [AV.int .i64 (x.2.getD i act18Z).kind, AV.int .i64 (x.2.getD i act18Z).at_]
 = [AV.int .i64 (x.2.getD i act18Z).kind, AV.int .i64 (x.2.getD i act18Z).at_]) ∧ Tr 3 ((true = true ∧ NilNil ∧ (0 : Nat) = 0) ∧ (true = true ∧ NilNil ∧ (0 :
 Nat) = 0) ∧ (true = true ∧ NilNil ∧ (0 : Nat) = 0 ∧ (1 : Nat) = 1 ∧ (0 : Nat) = 0 ∧ (listN x_6).length = (lC t'.snd.1).length ∧ y = t'.snd.2.1) ∧ (true = true ∧
 NilNil ∧ (0 : Nat) = 0 ∧ (1 : Nat) = 1 ∧ (0 : Nat) = 0 ∧ (lC t.2.1).length = (lE t'.snd.1).length ∧ t.2.2.1 = t'.snd.2.2) ∧ Tr 1 ((↑t.1 : Int) + 1 = (↑t'.fst :
 Int)) ∧ Tr 132 True)) ∧ true = true ∧ ((24 : TypeId) = 24 ∧ Tr 1 ((↑x.1.1 : Int) = (↑x.1.1 : Int)) ∧ ((1 : Nat) = 1 ∧ x.1.2.1.length = x.1.2.1.length ∧ ∀ (i :
 Nat), i < x.1.2.1.length → [AV.int .i64 (x.1.2.1.getD i 0)] = [AV.int .i64 (x.1.2.1.getD i 0)]) ∧ ((1 : Nat) = 1 ∧ x.1.2.2.1.length = x.1.2.2.1.length ∧ ∀ (i :
 Nat), i < x.1.2.2.1.length → [AV.int .i64 (x.1.2.2.1.getD i 0)] = [AV.int .i64 (x.1.2.2.1.getD i 0)]) ∧ Tr 1 (x.1.2.2.2 = x.1.2.2.2) ∧ True) ∧ allocB x_5 =
 allocB t'.snd.1 ∧ ((38 : TypeId) = 38 ∧ Tr 1 ((↑t.2.1.n : Int) = (↑t'.snd.1.n : Int)) ∧ true = true ∧ true = true ∧ true = true ∧ true = true ∧ true = true ∧
 True) ∧ ((3 : TypeId) = 3 ∧ (1 : Nat) = 1 ∧ y = t'.snd.2.1 ∧ (lC t'.snd.1).length ≤ (listN x_6).length ∧ ∀ (i : Nat), i < (lC t'.snd.1).length → [AV.int .i64
 ((listN x_6).getD i 0)] = [AV.int .i64 ((lC t'.snd.1).getD i 0)]) ∧ ((3 : TypeId) = 3 ∧ (1 : Nat) = 1 ∧ t.2.2.1 = t'.snd.2.2 ∧ (lE t'.snd.1).length ≤ (lC
 t.2.1).length ∧ ∀ (i : Nat), i < (lE t'.snd.1).length → [AV.int .i64 ((lC t.2.1).getD i 0)] = [AV.int .i64 ((lE t'.snd.1).getD i 0)]) ∧ True) (BC (decide (x_3.1
 % x_3.2 = (6 : Int))) (Exx (AllocT × Unit) fun x_4 => (((true = true ∧ NilNil ∧ (0 : Nat) = 0) ∧ True) ∧ true = true ∧ allocB t.2.1 = allocB x_4.1 ∧ True) ∧
 (AllocW x_4.1 ∧ True) ∧ ∀ (y : Unit), True → Exx AllocT fun x_5 => (((true = true ∧ NilNil ∧ (0 : Nat) = 0) ∧ True) ∧ true = true ∧ allocB (abortS x_4.1) =
 allocB x_5 ∧ True) ∧ AllocW x_5 ∧ ∀ (y : Unit), True → Exx (Nat × Nat) fun x_6 => (((true = true ∧ NilNil ∧ (0 : Nat) = 0) ∧ True) ∧ true = true ∧ setB (x_5.n,
 x_5.w) = setB x_6 ∧ True) ∧ SetW x_6 ∧ ∀ (y : Nat), (listN x_6).length ≤ y → Exx (List Int × List Int) fun x_7 => (((0 + (listN x_6).length ≤ (listN x_6).length
 ∧ (listN x_6).length = x_7.1.length ∧ ∀ (i : Nat), i < x_7.1.length → [AV.int .i64 ((listN x_6).getD (0 + i) 0)] = [AV.int .i64 (x_7.1.getD i 0)]) ∧ (0 + (lC
 t.2.1).length ≤ (lC t.2.1).length ∧ (lC t.2.1).length = x_7.2.length ∧ ∀ (i : Nat), i < x_7.2.length → [AV.int .i64 ((lC t.2.1).getD (0 + i) 0)] = [AV.int .i64
 (x_7.2.getD i 0)]) ∧ True) ∧ true = true ∧ True) ∧ (IntL x_7.1 ∧ IntL x_7.2) ∧ ∀ (y : Unit), True → BC (!decide (x_7.1 = x_7.2)) (Exx Unit fun y => ((false =
 true ∧ True) ∧ true = true ∧ True) ∧ True) (I64 ((↑t.1 : Int) + 1) ∧ Exx (Nat × AllocT × Nat × Nat) fun t' => (I t' ∧ m t' < m t) ∧ Tr 1 (((2 : Nat) = 2 ∧
 x.2.length = x.2.length ∧ ∀ (i : Nat), i < x.2.length → [AV.int .i64 (x.2.getD i act18Z).kind, AV.int .i64 (x.2.getD i act18Z).at_] = [AV.int .i64 (x.2.getD i
 act18Z).kind, AV.int .i64 (x.2.getD i act18Z).at_]) ∧ Tr 3 ((true = true ∧ NilNil ∧ (0 : Nat) = 0) ∧ (true = true ∧ NilNil ∧ (0 : Nat) = 0) ∧ (true = true ∧
 NilNil ∧ (0 : Nat) = 0 ∧ (1 : Nat) = 1 ∧ (0 : Nat) = 0 ∧ (lC t.2.1).length = (lC t'.snd.1).length ∧ t.2.2.1 = t'.snd.2.1) ∧ (true = true ∧ NilNil ∧ (0 : Nat) =
 0 ∧ (1 : Nat) = 1 ∧ (0 : Nat) = 0 ∧ (lE t.2.1).length = (lE t'.snd.1).length ∧ t.2.2.2 = t'.snd.2.2) ∧ Tr 1 ((↑t.1 : Int) + 1 = (↑t'.fst : Int)) ∧ Tr 132 True))
 ∧ true = true ∧ ((24 : TypeId) = 24 ∧ Tr 1 ((↑x.1.1 : Int) = (↑x.1.1 : Int)) ∧ ((1 : Nat) = 1 ∧ x.1.2.1.length = x.1.2.1.length ∧ ∀ (i : Nat), i <
 x.1.2.1.length → [AV.int .i64 (x.1.2.1.getD i 0)] = [AV.int .i64 (x.1.2.1.getD i 0)]) ∧ ((1 : Nat) = 1 ∧ x.1.2.2.1.length = x.1.2.2.1.length ∧ ∀ (i : Nat), i <
 x.1.2.2.1.length → [AV.int .i64 (x.1.2.2.1.getD i 0)] = [AV.int .i64 (x.1.2.2.1.getD i 0)]) ∧ Tr 1 (x.1.2.2.2 = x.1.2.2.2) ∧ True) ∧ allocB x_5 = allocB
 t'.snd.1 ∧ ((38 : TypeId) = 38 ∧ Tr 1 ((↑t.2.1.n : Int) = (↑t'.snd.1.n : Int)) ∧ true = true ∧ true = true ∧ true = true ∧ true = true ∧ true = true ∧ True) ∧
 ((3 : TypeId) = 3 ∧ (1 : Nat) = 1 ∧ t.2.2.1 = t'.snd.2.1 ∧ (lC t'.snd.1).length ≤ (lC t.2.1).length ∧ ∀ (i : Nat), i < (lC t'.snd.1).length → [AV.int .i64 ((lC
 t.2.1).getD i 0)] = [AV.int .i64 ((lC t'.snd.1).getD i 0)]) ∧ ((3 : TypeId) = 3 ∧ (1 : Nat) = 1 ∧ t.2.2.2 = t'.snd.2.2 ∧ (lE t'.snd.1).length ≤ (lE
 t.2.1).length ∧ ∀ (i : Nat), i < (lE t'.snd.1).length → [AV.int .i64 ((lE t.2.1).getD i 0)] = [AV.int .i64 ((lE t'.snd.1).getD i 0)]) ∧ True)) (I64 ((↑t.1 :
 Int) + 1) ∧ Exx (Nat × AllocT × Nat × Nat) fun t' => (I t' ∧ m t' < m t) ∧ Tr 1 (((2 : Nat) = 2 ∧ x.2.length = x.2.length ∧ ∀ (i : Nat), i < x.2.length →
 [AV.int .i64 (x.2.getD i act18Z).kind, AV.int .i64 (x.2.getD i act18Z).at_] = [AV.int .i64 (x.2.getD i act18Z).kind, AV.int .i64 (x.2.getD i act18Z).at_]) ∧ Tr
 3 ((true = true ∧ NilNil ∧ (0 : Nat) = 0) ∧ (true = true ∧ NilNil ∧ (0 : Nat) = 0) ∧ (true = true ∧ NilNil ∧ (0 : Nat) = 0 ∧ (1 : Nat) = 1 ∧ (0 : Nat) = 0 ∧ (lC
 t.2.1).length = (lC t'.snd.1).length ∧ t.2.2.1 = t'.snd.2.1) ∧ (true = true ∧ NilNil ∧ (0 : Nat) = 0 ∧ (1 : Nat) = 1 ∧ (0 : Nat) = 0 ∧ (lE t.2.1).length = (lE
 t'.snd.1).length ∧ t.2.2.2 = t'.snd.2.2) ∧ Tr 1 ((↑t.1 : Int) + 1 = (↑t'.fst : Int)) ∧ Tr 132 True)) ∧ true = true ∧ ((24 : TypeId) = 24 ∧ Tr 1 ((↑x.1.1 : Int)
 = (↑x.1.1 : Int)) ∧ ((1 : Nat) = 1 ∧ x.1.2.1.length = x.1.2.1.length ∧ ∀ (i : Nat), i < x.1.2.1.length → [AV.int .i64 (x.1.2.1.getD i 0)] = [AV.int .i64
 (x.1.2.1.getD i 0)]) ∧ ((1 : Nat) = 1 ∧ x.1.2.2.1.length = x.1.2.2.1.length ∧ ∀ (i : Nat), i < x.1.2.2.1.length → [AV.int .i64 (x.1.2.2.1.getD i 0)] = [AV.int
 .i64 (x.1.2.2.1.getD i 0)]) ∧ Tr 1 (x.1.2.2.2 = x.1.2.2.2) ∧ True) ∧ allocB t.2.1 = allocB t'.snd.1 ∧ ((38 : TypeId) = 38 ∧ Tr 1 ((↑t.2.1.n : Int) =
 (↑t'.snd.1.n : Int)) ∧ true = true ∧ true = true ∧ true = true ∧ true = true ∧ true = true ∧ True) ∧ ((3 : TypeId) = 3 ∧ (1 : Nat) = 1 ∧ t.2.2.1 = t'.snd.2.1 ∧
 (lC t'.snd.1).length ≤ (lC t.2.1).length ∧ ∀ (i : Nat), i < (lC t'.snd.1).length → [AV.int .i64 ((lC t.2.1).getD i 0)] = [AV.int .i64 ((lC t'.snd.1).getD i 0)])
 ∧ ((3 : TypeId) = 3 ∧ (1 : Nat) = 1 ∧ t.2.2.2 = t'.snd.2.2 ∧ (lE t'.snd.1).length ≤ (lE t.2.1).length ∧ ∀ (i : Nat), i < (lE t'.snd.1).length → [AV.int .i64
 ((lE t.2.1).getD i 0)] = [AV.int .i64 ((lE t'.snd.1).getD i 0)]) ∧ True)))))))) (Exx Unit fun y => ((true = true ∧ True) ∧ true = true ∧ True) ∧ True)) ∧
 (¬madeOpI.p x_2 → ∀ (y : Unit), True → Exx Unit fun y => ((true = true ∧ True) ∧ true = true ∧ True) ∧ True)))) = (fnVC tb [(7, specOf awake18C), (8, specIf madeOpI), (10, specOf allocTakeC), (11, specOf allocSpareC), (13, specOf restC), (14, specOf refHasC), (15, specOf allocGiveC), (16, specOf allocMarkC), (17, specOf allocBackC), (18, specOf allocCommitC), (19, specOf worksC), (20, specOf setListC), (21, specOf allocAbortC), (22, specOf refIntsC)] Tryd.f4 safeC (fun x => { loops := [(10, safeLA x)] }) (fun _ => none)) := by kernel_rfl 

theorem safe_ok : SpecOk Tryd.prog 4 (specOf safeC) := by
  refine specOk mixed tb_ok (SPok.cons awake18_ok (SPok.cons madeOp_ok (SPok.cons allocTake_ok (SPok.cons allocSpare_ok (SPok.cons rest_ok (SPok.cons refHas_ok (SPok.cons allocGive_ok (SPok.cons allocMark_ok (SPok.cons allocBack_ok (SPok.cons allocCommit_ok (SPok.cons works_ok (SPok.cons setList_ok (SPok.cons allocAbort_ok (SPok.cons refInts_ok SPok.nil)))))))))))))) Tryd.func4 (by decide) (pureC_ok fun _ => rfl) (an := (fun x => { loops := [(10, safeLA x)] })) (σ := (fun _ => none)) ?_
  rw [← safeV]
  simp (maxSteps := 10000000) only [and_false, false_and, false_or, or_false, bOf_true, bOf_false, true_bOf, false_bOf, Exx, int_ite, merge_o, Tr_eq, true_and, and_true, exists_const, forall_const, implies_true, forall_eq, exists_eq, exists_eq', exists_eq_left, exists_eq_left', exists_eq_right, Prod.exists, Prod.forall, and_assoc, exists_and_left, BC_iff, Bool.not_eq_true', Bool.not_eq_false', decide_eq_true_eq, decide_eq_false_iff_not, I64, nat_cast_inj, Int.toNat_natCast, nats_iff, nats_iff', ints_iff, ints_iff', natss_iff, natss_iff', nilnil, litL_eq, str_inj, str_append, str_length, str_getD, str_take, lit1_iff, one_iff, two_iff, one_get, Nat.zero_add, Nat.sub_zero, Nat.reduceMul, Nat.reduceDiv, Nat.reduceAdd, Int.reduceToNat, Nat.not_lt_zero, if_false, if_true, Nat.le_refl, List.length_singleton, List.length_cons, List.length_nil, Bool.false_eq_true, not_true_eq_false, false_implies, not_false_eq_true, Prod.mk.injEq, allocB_inj, setB_inj]
  rintro n u e r ls ⟨hS, ha⟩ hl
  have hS' := hS
  obtain ⟨s1, s2, s3, s4, s5⟩ := hS
  refine ⟨s1, s2, s3, s4, s5, fun hp cc ce => ?_⟩
  have hR := startS_R hS' hp
  generalize startS (n, u, e, r) = b at *
  refine ⟨fun t => RefR t.2.1 ∧ t.1 ≤ ls.length, ⟨0, b, cc, ce, ⟨hR, Nat.zero_le _⟩, rfl, rfl, rfl, rfl, rfl, rfl, rfl, rfl, Nat.le_refl _, fun _ _ => rfl, rfl, Nat.le_refl _, fun _ _ => rfl⟩, fun t => ls.length - t.1, fun i x c1 c2 hI hlt => ?_⟩
  obtain ⟨hX, hi⟩ := hI
  simp only at hX hi
  have hlt' : i < ls.length := by omega
  have hA := act18_get ha i
  obtain ⟨⟨hk1, hk2⟩, hk3, hk4⟩ := hA
  generalize ls.getD i act18Z = a at *
  refine ⟨by omega, hlt, hk1, hk2, by omega, by omega, ?_⟩
  have b1 : (-9223372036854775808 : Int) ≤ (i : Int) + 1 := by omega
  have b2 : (i : Int) + 1 ≤ 9223372036854775807 := by omega
  have b3 : (0 : Int) ≤ (i : Int) := by omega
  have hW := hX.W.W
  have hil : ∀ m, IntL (listN (x.n, m)) := hX.W.I
  have hdo : ∀ k, RefR (doS x k) := fun k => ⟨⟨doS_W hW k, by rw [(doS_n x k).1]; exact hX.W.n⟩, by rw [(doS_n x k).2]; exact hX.r⟩
  have htk : ∀ {y : AllocT}, RefR y → ∀ b, RefR (takeS y b) := fun {y} h b => ⟨⟨takeS_W' h.W.W b, by rw [(takeS_n y b).1]; exact h.W.n⟩, by rw [(takeS_n y b).2]; exact h.r⟩
  have back : ∀ z : AllocT, RefR z → z.n = x.n → z.c = x.c → z.e = x.e → ∃ (p : Nat) (y : AllocT) (d1 d2 : Nat), (RefR y ∧ p ≤ ls.length) ∧ ls.length - p < ls.length - i ∧ (lC x).length = (lC y).length ∧ c1 = d1 ∧ (lE x).length = (lE y).length ∧ c2 = d2 ∧ (i : Int) + 1 = (p : Int) ∧ z = y ∧ x.n = y.n ∧ c1 = d1 ∧ (lC y).length ≤ (lC x).length ∧ (∀ (i : Nat), i < (lC y).length → [AV.int IntKind.i64 ((lC x).getD i 0)] = [AV.int IntKind.i64 ((lC y).getD i 0)]) ∧ c2 = d2 ∧ (lE y).length ≤ (lE x).length ∧ ∀ (i : Nat), i < (lE y).length → [AV.int IntKind.i64 ((lE x).getD i 0)] = [AV.int IntKind.i64 ((lE y).getD i 0)] := fun z hz h1 h2 h3 => by
    have e1 : lC z = lC x := by unfold lC; rw [h1, h2]
    have e2 : lE z = lE x := by unfold lE; rw [h1, h3]
    exact ⟨i + 1, z, c1, c2, ⟨hz, by omega⟩, by omega, by rw [e1], rfl, by rw [e2], rfl, by omega, rfl, h1.symm, rfl, by rw [e1]; exact Nat.le_refl _, fun _ _ => by rw [e1], rfl, by rw [e2]; exact Nat.le_refl _, fun _ _ => by rw [e2]⟩
  have bT : ∀ b, RefR (takeS x b) ∧ (takeS x b).n = x.n ∧ (takeS x b).c = x.c ∧ (takeS x b).e = x.e := fun b => ⟨htk hX b, (takeS_n x b).1, (takeS_ce x b).1, (takeS_ce x b).2⟩
  have backT := back _ (bT x.r).1 (bT x.r).2.1 (bT x.r).2.2.1 (bT x.r).2.2.2
  have backU := back (takeS (takeS x x.r) 0) (htk (bT x.r).1 0) ((takeS_n _ _).1.trans (bT x.r).2.1) ((takeS_ce _ _).1.trans (bT x.r).2.2.1) ((takeS_ce _ _).2.trans (bT x.r).2.2.2)
  have backG := back (giveS x a.at_) ⟨⟨giveS_W' hW _, hX.W.n⟩, hX.r⟩ rfl rfl rfl
  have backM := back (markS x) (hdo 0) rfl rfl rfl
  have backB := back (backS x) (hdo 1) rfl rfl rfl
  have backA := back (abortS x) (hdo 3) rfl rfl rfl
  have back0 := back x hX rfl rfl rfl
  have hcm : RefR (commitS x) := hdo 2
  have hab : RefR (abortS x) := hdo 3
  have hcW := hcm.W.W
  have haW := hab.W.W
  have hcS : SetW ((commitS x).n, (commitS x).w) := ⟨hcW.1, hcW.2.2.2.2.2⟩
  have haS : SetW ((abortS x).n, (abortS x).w) := ⟨haW.1, haW.2.2.2.2.2⟩
  have backC : ∀ y : Nat, ∃ (p : Nat) (z : AllocT) (d1 d2 : Nat), (RefR z ∧ p ≤ ls.length) ∧ ls.length - p < ls.length - i ∧ (listN ((commitS x).n, (commitS x).w)).length = (lC z).length ∧ y = d1 ∧ (lC x).length = (lE z).length ∧ c1 = d2 ∧ (i : Int) + 1 = (p : Int) ∧ commitS x = z ∧ x.n = z.n ∧ y = d1 ∧ (lC z).length ≤ (listN ((commitS x).n, (commitS x).w)).length ∧ (∀ (i : Nat), i < (lC z).length → [AV.int IntKind.i64 ((listN ((commitS x).n, (commitS x).w)).getD i 0)] = [AV.int IntKind.i64 ((lC z).getD i 0)]) ∧ c1 = d2 ∧ (lE z).length ≤ (lC x).length ∧ ∀ (i : Nat), i < (lE z).length → [AV.int IntKind.i64 ((lC x).getD i 0)] = [AV.int IntKind.i64 ((lE z).getD i 0)] := fun y =>
    ⟨i + 1, commitS x, y, c1, ⟨hcm, by omega⟩, by omega, rfl, rfl, rfl, rfl, by omega, rfl, rfl, rfl, Nat.le_refl _, fun _ _ => rfl, rfl, Nat.le_refl _, fun _ _ => rfl⟩
  have eA : listN ((abortS x).n, (abortS x).w) = lC x := rfl
  have hkr := hX.r
  have hri := hW.2.1
  have f1 := take_facts hX.W hX.r hri.1
  have f2 := take_facts (bT x.r).1.W (b := 0) (Int.le_refl _) (by decide)
  have e1 : lC (takeS x x.r) = lC x := by unfold lC; rw [(bT x.r).2.1, (bT x.r).2.2.1]
  have e2 : lE (takeS x x.r) = lE x := by unfold lE; rw [(bT x.r).2.1, (bT x.r).2.2.2]
  rw [e1, e2, (bT x.r).2.1] at f2
  have hn40 := hX.W.n
  have hTW := (bT x.r).1.W.W
  rcases f1 with ⟨f1, f3, f4, f5, f6⟩ | ⟨f1, f3⟩ <;> rcases f2 with ⟨g1, g3, g4, g5, g6⟩ | ⟨g1, g3⟩
  all_goals clear back
  all_goals simp only [f1, f3, g1, g3, eA, not_true_eq_false, not_false_eq_true, false_implies, true_implies, and_true, true_and, show ¬ ((0 : Int) = 10) by decide, show ¬ ((10 : Int) = 0) by decide]
  all_goals repeat' first
    | with_reducible assumption
    | with_reducible exact backC _
    | with_reducible exact hil _
    | (intro _)
    | with_reducible apply And.intro
  all_goals first
    | omega
    | contradiction

def allocSafeLC : Ctr := pureC (StartX × List (Int × Int)) (fun x => StartI x.1 ∧ A18I x.2) (fun x => [startA x.1, a18A x.2]) (fun _ => .bool true)
theorem allocSafeL_ok : SpecOk Tryd.prog 4 (specOf allocSafeLC) :=
  law_map safe_ok (fun x => (x.1, x.2.map a18)) (fun x => by show [_, acts18A _] = _; rw [a18_args]) (fun x h => ⟨h.1, a18_acts h.2⟩)

end Yard
