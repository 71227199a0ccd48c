import Derived.Test.YtlicnnoljbfhfaaDoorRef18

namespace Yard
open Go Go.Sx Go.Proofs
set_option linter.unusedVariables false
set_option linter.unusedSimpArgs false
set_option maxRecDepth 4000
set_option maxHeartbeats 4000000

def awake18C : Ctr := pureC Unit (fun _ => True) (fun _ => []) (fun _ => .bool true)

theorem awake18V : (∀ (x : Unit), True → Exx (Int × List Int) fun x => ((Tr 1 ((5 : Int) = x.1) ∧ ((0 : Nat) + (2 : Nat) ≤ (2 : Nat) ∧ 2 = x.2.length ∧ ∀ (i :
 Nat), i < x.2.length → [AV.int .i64 (if 0 + i = 1 * 1 / 1 then 1 else if 0 + i = 0 * 1 / 1 then 0 else 0)] = [AV.int .i64 (x.2.getD i 0)]) ∧ True) ∧ true = true
 ∧ True) ∧ (I64 x.1 ∧ Ints x.2) ∧ ∀ (y : Unit), True → Exx (Int × List Int) fun x_1 => ((Tr 1 ((5 : Int) = x_1.1) ∧ (0 = x_1.2.length ∧ ∀ (i : Nat), i <
 x_1.2.length → [] = [AV.int .i64 (x_1.2.getD i 0)]) ∧ True) ∧ true = true ∧ True) ∧ (I64 x_1.1 ∧ Ints x_1.2) ∧ ∀ (y : Unit), True → Exx ((Nat × Nat) × (Nat ×
 Nat) × Int) fun x_2 => (((true = true ∧ NilNil ∧ (0 : Nat) = 0) ∧ (true = true ∧ NilNil ∧ (0 : Nat) = 0) ∧ Tr 1 ((1 : Int) = x_2.2.2) ∧ True) ∧ true = true ∧
 setB (clampN x.1, addL (clampN x.1) 0 x.2) = setB x_2.1 ∧ setB (clampN x_1.1, addL (clampN x_1.1) 0 x_1.2) = setB x_2.2.1 ∧ True) ∧ (SetW x_2.1 ∧ SetW x_2.2.1 ∧
 I64 x_2.2.2) ∧ (x_2.1.1 = x_2.2.1.1 ∧ (0 : Int) ≤ x_2.2.2 → ∀ (y : Unit), True → Exx (AllocT × Unit) fun x => (((true = true ∧ NilNil ∧ (0 : Nat) = 0) ∧ True) ∧
 true = true ∧ allocB (newAlloc x_2) = allocB x.1 ∧ True) ∧ (AllocW x.1 ∧ True) ∧ ∀ (y : Unit), True → Exx (AllocT × Unit) fun x_3 => (((true = true ∧ NilNil ∧
 (0 : Nat) = 0) ∧ True) ∧ true = true ∧ allocB (takeS x.1 x.1.r) = allocB x_3.1 ∧ True) ∧ (AllocW x_3.1 ∧ True) ∧ ∀ (y : Unit), True → Exx (AllocT × Unit) fun
 x_4 => (((true = true ∧ NilNil ∧ (0 : Nat) = 0) ∧ True) ∧ true = true ∧ allocB (takeS x_3.1 x_3.1.r) = allocB x_4.1 ∧ True) ∧ (AllocW x_4.1 ∧ True) ∧ ∀ (y :
 Unit), True → Exx (AllocT × Unit) fun x_5 => (((true = true ∧ NilNil ∧ (0 : Nat) = 0) ∧ True) ∧ true = true ∧ allocB (takeS x_4.1 x_4.1.r) = allocB x_5.1 ∧
 True) ∧ (AllocW x_5.1 ∧ True) ∧ ∀ (y : Unit), True → BC (decide (takeAt x.1 x.1.r = (2 : Int))) (BC (decide (takeAt x_3.1 x_3.1.r = (3 : Int))) (BC (decide
 (takeErr x_4.1 x_4.1.r = (10 : Int))) (BC (decide (takeAt x_5.1 0 = (4 : Int))) (Exx Unit fun y => ((decide (takeErr x_5.1 0 = (0 : Int)) = true ∧ True) ∧ true
 = true ∧ True) ∧ True) (Exx Unit fun y => ((false = true ∧ True) ∧ true = true ∧ True) ∧ True)) (Exx Unit fun y => ((false = true ∧ True) ∧ true = true ∧ True)
 ∧ True)) (Exx Unit fun y => ((false = true ∧ True) ∧ true = true ∧ True) ∧ True)) (Exx Unit fun y => ((false = true ∧ True) ∧ true = true ∧ True) ∧ True)) ∧
 (¬allocNewI.p x_2 → ∀ (y : Unit), True → Exx Unit fun y => ((false = true ∧ True) ∧ true = true ∧ True) ∧ True)) = (fnVC tb [(10, specOf allocTakeC), (11, specOf allocSpareC), (26, allocNewAllP), (27, specOf setOfC)] Tryd.f7 awake18C (fun _ => {}) (fun _ => none)) := by kernel_rfl 

theorem awake18_ok : SpecOk Tryd.prog 7 (specOf awake18C) := by
  refine specOk mixed tb_ok (SPok.cons allocTake_ok (SPok.cons allocSpare_ok (SPok.cons allocNewAll_ok (SPok.cons setOf_ok SPok.nil)))) Tryd.func7 (by decide) (pureC_ok fun _ => rfl) (an := (fun _ => {})) (σ := (fun _ => none)) ?_
  rw [← awake18V]
  simp (maxSteps := 10000000) only [and_false, false_and, false_or, or_false, bOf_true, bOf_false, true_bOf, false_bOf, Exx, int_ite, merge_o, Tr_eq, true_and, and_true, exists_const, forall_const, implies_true, forall_eq, exists_eq, exists_eq', exists_eq_left, exists_eq_left', exists_eq_right, Prod.exists, Prod.forall, and_assoc, exists_and_left, BC_iff, Bool.not_eq_true', Bool.not_eq_false', decide_eq_true_eq, decide_eq_false_iff_not, I64, nat_cast_inj, Int.toNat_natCast, nats_iff, nats_iff', ints_iff, ints_iff', natss_iff, natss_iff', nilnil, litL_eq, str_inj, str_append, str_length, str_getD, str_take, lit1_iff, one_iff, two_iff, one_get, Nat.zero_add, Nat.sub_zero, Nat.reduceMul, Nat.reduceDiv, Nat.reduceAdd, Int.reduceToNat, Nat.not_lt_zero, if_false, if_true, Nat.le_refl, List.length_singleton, List.length_cons, List.length_nil, Bool.false_eq_true, not_true_eq_false, false_implies, not_false_eq_true, Prod.mk.injEq, setB_inj, allocB_inj]
  have e0 : newAlloc ((clampN 5, addL (clampN 5) 0 [0, 1]), (clampN 5, addL (clampN 5) 0 []), 1) = ⟨5, 1, 3, 0, 3, 3⟩ := by kernel_rfl
  have e1 : takeS ⟨5, 1, 3, 0, 3, 3⟩ 1 = ⟨5, 1, 3, 0, 3, 7⟩ := by kernel_rfl
  have e2 : takeS ⟨5, 1, 3, 0, 3, 7⟩ 1 = ⟨5, 1, 3, 0, 3, 15⟩ := by kernel_rfl
  have e3 : takeS ⟨5, 1, 3, 0, 3, 15⟩ 1 = ⟨5, 1, 3, 0, 3, 15⟩ := by kernel_rfl
  have g1 : takeAt ⟨5, 1, 3, 0, 3, 3⟩ 1 = 2 := by kernel_rfl
  have g2 : takeAt ⟨5, 1, 3, 0, 3, 7⟩ 1 = 3 := by kernel_rfl
  have g3 : takeErr ⟨5, 1, 3, 0, 3, 15⟩ 1 = 10 := by kernel_rfl
  have g4 : takeAt ⟨5, 1, 3, 0, 3, 15⟩ 0 = 4 := by kernel_rfl
  have g5 : takeErr ⟨5, 1, 3, 0, 3, 15⟩ 0 = 0 := by kernel_rfl
  have s0 : SetW (clampN 5, addL (clampN 5) 0 [0, 1]) := ⟨by decide, by decide⟩
  have s1 : SetW (clampN 5, addL (clampN 5) 0 []) := ⟨by decide, by decide⟩
  have hp : allocNewI.p ((clampN 5, addL (clampN 5) 0 [0, 1]), (clampN 5, addL (clampN 5) 0 []), 1) := ⟨rfl, by decide⟩
  refine ⟨[0, 1], rfl, fun i hi => ?_, by omega, by omega, ⟨fun x hx => ?_, by simp⟩, [], rfl, fun i hi => by simp at hi, by omega, by omega, ⟨by simp, by simp⟩, s0, s1, by omega, by omega, fun _ => ?_, fun h => h hp⟩
  · have hi : i < 2 := hi
    have : i = 0 ∨ i = 1 := by omega
    rcases this with rfl | rfl <;> rfl
  · simp at hx
    rcases hx with rfl | rfl <;> exact ⟨by omega, by omega⟩
  · simp only [e0, e1, e2, e3, g1, g2, g3, g4, g5, not_true_eq_false, false_implies, true_implies, and_true, true_and]
    exact ⟨⟨by decide, ⟨by decide, by decide⟩, by decide, by decide, by decide, by decide⟩, ⟨by decide, ⟨by decide, by decide⟩, by decide, by decide, by decide, by decide⟩, ⟨by decide, ⟨by decide, by decide⟩, by decide, by decide, by decide, by decide⟩, ⟨by decide, ⟨by decide, by decide⟩, by decide, by decide, by decide, by decide⟩⟩

def specOpens (Y : Type) (l : List AV → Y → List (Nat × OpA)) (s : Sx.Spec) : Sx.Spec := fun args H K => s args H (fun av H' => ∃ y : Y, openAlts (l args y) H' (fun H'' => K av H''))
theorem specOpens_ok {P : Program} {f : Nat} {Y : Type} {l : List AV → Y → List (Nat × OpA)} {s : Sx.Spec} (h : SpecOk P f s) : SpecOk P f (specOpens Y l s) :=
  ⟨h.fn, fun W D R ids own H w args vals K hgl ha hR hs => (h.ok W D R ids own H w args vals _ hgl ha hR hs).mono fun e w' ⟨v, he, av, H', R', ids', own', h1, h2, h3, h4, y, h5⟩ => by
    obtain ⟨H'', ids2, own2, k1, k2, k3⟩ := openAlts_ok h2 h5
    exact ⟨v, he, av, H'', R', ids2, own2, h1.into k2 (fun _ _ e => e), k1, fun q b e => k2 q b (h3 q b e), h4, k3⟩⟩

structure Act18 where
  kind : Int
  at_ : Int
abbrev act18V (a : Act18) : List AV := [i64 a.kind, i64 a.at_]
def act18Z : Act18 := ⟨0, 0⟩
def Act18I (a : Act18) : Prop := I64 a.kind ∧ I64 a.at_
abbrev acts18A (l : List Act18) : AV := .ro 2 l.length (fun i => act18V (l.getD i act18Z))
def Acts18 (l : List Act18) : Prop := (∀ a ∈ l, Act18I a) ∧ l.length ≤ 9223372036854775807
theorem act18_get {l : List Act18} (h : Acts18 l) (i : Nat) : Act18I (l.getD i act18Z) :=
  getD_mem (p := Act18I) h.1 ⟨⟨by simp only [act18Z]; omega, by simp only [act18Z]; omega⟩, ⟨by simp only [act18Z]; omega, by simp only [act18Z]; omega⟩⟩ i
def stepS (x : AllocT) (k : Int) (a : Int) : AllocT := if k = 0 then takeS x x.r else if k = 1 then takeS x 0 else if k = 2 then giveS x a else doS x (k - 3)
structure RefR (x : AllocT) : Prop where
  W : RefW x
  r : 0 ≤ x.r
theorem doS_n (x : AllocT) (k : Int) : (doS x k).n = x.n ∧ (doS x k).r = x.r := by
  unfold doS
  split
  · exact ⟨rfl, rfl⟩
  split
  · exact ⟨rfl, rfl⟩
  split
  · exact ⟨rfl, rfl⟩
  split <;> exact ⟨rfl, rfl⟩
theorem doS_W {x : AllocT} (h : AllocW x) (k : Int) : AllocW (doS x k) := by
  unfold doS
  split
  · exact becomeS_W h _ _
  split
  · exact becomeS_W h _ _
  split
  · exact becomeS_W (becomeS_W (becomeS_W h _ _) _ _) _ _
  split
  · exact becomeS_W (becomeS_W h _ _) _ _
  · exact h
theorem takeS_W' {x : AllocT} (h : AllocW x) (r : Int) : AllocW (takeS x r) := by
  unfold takeS
  split
  · exact h
  · exact ⟨h.1, h.2.1, h.2.2.1, h.2.2.2.1, h.2.2.2.2.1, add1_lt h.2.2.2.2.2⟩
theorem giveS_W' {x : AllocT} (h : AllocW x) (a : Int) : AllocW (giveS x a) := ⟨h.1, h.2.1, h.2.2.1, h.2.2.2.1, h.2.2.2.2.1, drop1_lt h.2.2.2.2.2⟩
theorem takeS_n (x : AllocT) (b : Int) : (takeS x b).n = x.n ∧ (takeS x b).r = x.r := by
  unfold takeS
  split <;> exact ⟨rfl, rfl⟩
theorem stepS_R {x : AllocT} (h : RefR x) (k a : Int) : RefR (stepS x k a) := by
  have hn := h.W.n
  have hr := h.r
  unfold stepS
  split
  · exact ⟨⟨takeS_W' h.W.W _, by rw [(takeS_n x _).1]; exact hn⟩, by rw [(takeS_n x _).2]; exact hr⟩
  split
  · exact ⟨⟨takeS_W' h.W.W _, by rw [(takeS_n x _).1]; exact hn⟩, by rw [(takeS_n x _).2]; exact hr⟩
  split
  · exact ⟨⟨giveS_W' h.W.W _, hn⟩, hr⟩
  · exact ⟨⟨doS_W h.W.W _, by rw [(doS_n x _).1]; exact hn⟩, by rw [(doS_n x _).2]; exact hr⟩

def newTau (args : List AV) (_ : AH) : List Nat := match args with
  | _ :: .sl p _ _ _ _ _ _ :: .sl q _ _ _ _ _ _ :: _ => [p, q]
  | _ => []
def refNewC : Ctr where
  X := (Int × Int) × (Nat × List Int) × (Nat × List Int)
  Y := Unit
  conv := true
  tau := newTau
  pre := fun x => I64 x.1.1 ∧ I64 x.1.2
  args := fun x => [i64 x.1.1, slI 0 x.2.1.2 x.2.1.1, slI 1 x.2.2.2 x.2.2.1, i64 x.1.2]
  heap := fun x => [rowI 3 .i64 x.2.1.1 x.2.1.2, rowI 3 .i64 x.2.2.1 x.2.2.2]
  Q := fun _ _ => True
  res := fun _ _ => .ptr 3 [] 0
  its := fun x _ => [rowI 3 .i64 x.2.1.1 x.2.1.2, rowI 3 .i64 x.2.2.1 x.2.2.2]
  new := fun x _ => [.cells 38 [i64 x.1.1, i64 x.1.2, slI 0 x.2.1.2 x.2.1.1, slI 1 x.2.2.2 x.2.2.1, slI 0 x.2.1.2 x.2.1.1, slI 0 x.2.1.2 x.2.1.1]]
theorem refNewC_ok : CtrOk refNewC :=
  ⟨fun _ _ _ _ => (rfl : 2 = 2), fun _ _ _ _ => ⟨rfl, rfl⟩, fun x _ _ _ _ => ⟨⟨⟨⟨fun _ _ => ⟨rfl, trivial⟩, trivial⟩, ⟨fun _ _ => ⟨rfl, trivial⟩, trivial⟩, trivial⟩, ⟨⟨rfl, rfl, rfl, rfl, rfl, rfl, trivial⟩, trivial⟩⟩, rfl⟩⟩

theorem refNewV : (∀ (x : (Int × Int) × (Nat × List Int) × Nat × List Int), I64 x.1.1 ∧ I64 x.1.2 → Exx Unit fun y => (((true = true ∧ NilNil ∧ (0 : Nat) = 0) ∧
 True) ∧ ((3 : TypeId) = 3 ∧ (1 : Nat) = 1 ∧ x.2.1.1 = x.2.1.1 ∧ x.2.1.2.length ≤ x.2.1.2.length ∧ ∀ (i : Nat), i < x.2.1.2.length → [AV.int .i64 (x.2.1.2.getD i
 0)] = [AV.int .i64 (x.2.1.2.getD i 0)]) ∧ ((3 : TypeId) = 3 ∧ (1 : Nat) = 1 ∧ x.2.2.1 = x.2.2.1 ∧ x.2.2.2.length ≤ x.2.2.2.length ∧ ∀ (i : Nat), i <
 x.2.2.2.length → [AV.int .i64 (x.2.2.2.getD i 0)] = [AV.int .i64 (x.2.2.2.getD i 0)]) ∧ true = true ∧ ((38 : Nat) = (38 : TypeId) ∧ Tr 1 (x.1.1 = x.1.1) ∧ Tr 1
 (x.1.2 = x.1.2) ∧ (true = true ∧ NilNil ∧ (0 : Nat) = 0 ∧ (1 : Nat) = 1 ∧ (0 : Nat) = 0 ∧ x.2.1.2.length = x.2.1.2.length ∧ x.2.1.1 = x.2.1.1) ∧ (true = true ∧
 NilNil ∧ (0 : Nat) = 0 ∧ (1 : Nat) = 1 ∧ (0 : Nat) = 0 ∧ x.2.2.2.length = x.2.2.2.length ∧ x.2.2.1 = x.2.2.1) ∧ (true = true ∧ NilNil ∧ (0 : Nat) = 0 ∧ (1 :
 Nat) = 1 ∧ (0 : Nat) = 0 ∧ x.2.1.2.length = x.2.1.2.length ∧ x.2.1.1 = x.2.1.1) ∧ (true = true ∧ NilNil ∧ (0 : Nat) = 0 ∧ (1 : Nat) = 1 ∧ (0 : Nat) = 0 ∧
 x.2.1.2.length = x.2.1.2.length ∧ x.2.1.1 = x.2.1.1) ∧ True) ∧ True) ∧ True) = (fnVC tb [] Tryd.f28 refNewC (fun _ => {}) (fun _ => none)) := by kernel_rfl

theorem refNew_ok : SpecOk Tryd.prog 28 (specOf refNewC) := by
  refine specOk mixed tb_ok SPok.nil Tryd.func28 (by decide) refNewC_ok (an := (fun _ => {})) (σ := (fun _ => none)) ?_
  rw [← refNewV]
  simp (maxSteps := 10000000) only [and_false, false_and, false_or, or_false, bOf_true, bOf_false, true_bOf, false_bOf, Exx, int_ite, merge_o, Tr_eq, true_and, and_true, exists_const, forall_const, implies_true, forall_eq, exists_eq, exists_eq', exists_eq_left, exists_eq_left', exists_eq_right, Prod.exists, Prod.forall, and_assoc, exists_and_left, BC_iff, Bool.not_eq_true', Bool.not_eq_false', decide_eq_true_eq, decide_eq_false_iff_not, I64, nat_cast_inj, Int.toNat_natCast, nats_iff, nats_iff', ints_iff, ints_iff', natss_iff, natss_iff', nilnil, litL_eq, str_inj, str_append, str_length, str_getD, str_take, lit1_iff, one_iff, two_iff, one_get, Nat.zero_add, Nat.sub_zero, Nat.reduceMul, Nat.reduceDiv, Nat.reduceAdd, Int.reduceToNat, Nat.not_lt_zero, if_false, if_true, Nat.le_refl, List.length_singleton, List.length_cons, List.length_nil, Bool.false_eq_true, not_true_eq_false, false_implies, not_false_eq_true, Prod.mk.injEq]

abbrev StartX : Type := Nat × List Int × List Int × Int
abbrev startA (x : StartX) : AV := .agg [.int .u8 (x.1 : Nat), intA x.2.1, intA x.2.2.1, i64 x.2.2.2]
def StartI (x : StartX) : Prop := x.1 < 256 ∧ IntL x.2.1 ∧ IntL x.2.2.1 ∧ I64 x.2.2.2
def startS (x : StartX) : AllocT := newAlloc ((x.1 % 41, addL (x.1 % 41) 0 x.2.1), (x.1 % 41, addL (x.1 % 41) 0 x.2.2.1), x.2.2.2)
def startP (x : StartX) : Prop := x.2.1.length ≤ 40 ∧ x.2.2.1.length ≤ 40 ∧ 0 ≤ x.2.2.2
def made18I : Ctr2 where
  X := StartX
  conv := true
  tau := fun _ _ => []
  pre := StartI
  args := fun x => [startA x]
  heap := fun _ => []
  p := startP
  a := { Y := Unit, Q := fun _ _ => True, res := fun _ _ => .tup [.ptr 1 [] 0, .ptr 2 [] 0], its := fun _ _ => [], new := fun x _ => [allocI (startS x), refI (startS x)] }
  b := { Y := Unit, Q := fun _ _ => True, res := fun _ _ => .tup [.nilp, .nilp], its := fun _ _ => [], new := fun _ _ => [] }
def madeRen (av : AV) : Option Ren := match av with
  | .tup (.ptr a _ _ :: .ptr m _ _ :: _) => some [some 0, some a, some m]
  | _ => none
def madeCl (av : AV) (H : AH) (x : AllocT) : List (Nat × List Nat × Opn) := match av with
  | .tup (_ :: .ptr m _ _ :: _) => clR m H x
  | _ => []
theorem startS_R {x : StartX} (h : StartI x) (hp : startP x) : RefR (startS x) := by
  have hz : 0 < 2 ^ (x.1 % 41) := Nat.pos_of_ne_zero (by simp)
  have hn : x.1 % 41 < 41 := Nat.mod_lt _ (by decide)
  exact ⟨⟨⟨by show x.1 % 41 ≤ 3072; omega, h.2.2.2, addL_lt hz, addL_lt hz, addL_lt hz, addL_lt hz⟩, by show x.1 % 41 ≤ 40; omega⟩, hp.2.2⟩

theorem made18V : (∀ (x : Nat × List Int × List Int × Int), x.1 < 256 ∧ IntL x.2.1 ∧ IntL x.2.2.1 ∧ I64 x.2.2.2 → BC (decide ((40 : Int) < (↑x.2.1.length :
 Int))) (((x.2.1.length ≤ 40 ∧ x.2.2.1.length ≤ 40 ∧ (0 : Int) ≤ x.2.2.2) ∧ Exx Unit fun y => (((False ∧ False ∧ True) ∧ True) ∧ true = true ∧ False ∧ False ∧
 True) ∧ True) ∨ ¬made18I.p x ∧ Exx Unit fun y => ((Tr 2 True ∧ True) ∧ true = true ∧ True) ∧ True) (BC (decide ((40 : Int) < (↑x.2.2.1.length : Int)))
 (((x.2.1.length ≤ 40 ∧ x.2.2.1.length ≤ 40 ∧ (0 : Int) ≤ x.2.2.2) ∧ Exx Unit fun y => (((False ∧ False ∧ True) ∧ True) ∧ true = true ∧ False ∧ False ∧ True) ∧
 True) ∨ ¬made18I.p x ∧ Exx Unit fun y => ((Tr 2 True ∧ True) ∧ true = true ∧ True) ∧ True) (BC (decide (x.2.2.2 < (0 : Int))) (((x.2.1.length ≤ 40 ∧
 x.2.2.1.length ≤ 40 ∧ (0 : Int) ≤ x.2.2.2) ∧ Exx Unit fun y => (((False ∧ False ∧ True) ∧ True) ∧ true = true ∧ False ∧ False ∧ True) ∧ True) ∨ ¬made18I.p x ∧
 Exx Unit fun y => ((Tr 2 True ∧ True) ∧ true = true ∧ True) ∧ True) (∀ (m : Int), m = IntKind.i64.wrap (↑x.1 : Int) → (41 : Int) ≠ (0 : Int) ∧ ∀ (n : Int), n =
 m.tmod 41 → Exx (Int × List Int) fun x_1 => ((Tr 1 (n = x_1.1) ∧ (x.2.1.length = x_1.2.length ∧ ∀ (i : Nat), i < x_1.2.length → [AV.int .i64 (x.2.1.getD i 0)] =
 [AV.int .i64 (x_1.2.getD i 0)]) ∧ True) ∧ true = true ∧ True) ∧ (I64 x_1.1 ∧ Ints x_1.2) ∧ ∀ (y : Unit), True → Exx (Int × List Int) fun x_2 => ((Tr 1 (n =
 x_2.1) ∧ (x.2.2.1.length = x_2.2.length ∧ ∀ (i : Nat), i < x_2.2.length → [AV.int .i64 (x.2.2.1.getD i 0)] = [AV.int .i64 (x_2.2.getD i 0)]) ∧ True) ∧ true =
 true ∧ True) ∧ (I64 x_2.1 ∧ Ints x_2.2) ∧ ∀ (y : Unit), True → Exx ((Nat × Nat) × (Nat × Nat) × Int) fun x_3 => (((true = true ∧ NilNil ∧ (0 : Nat) = 0) ∧ (true
 = true ∧ NilNil ∧ (0 : Nat) = 0) ∧ Tr 1 (x.2.2.2 = x_3.2.2) ∧ True) ∧ true = true ∧ setB (clampN x_1.1, addL (clampN x_1.1) 0 x_1.2) = setB x_3.1 ∧ setB (clampN
 x_2.1, addL (clampN x_2.1) 0 x_2.2) = setB x_3.2.1 ∧ True) ∧ (SetW x_3.1 ∧ SetW x_3.2.1 ∧ I64 x_3.2.2) ∧ (x_3.1.1 = x_3.2.1.1 ∧ (0 : Int) ≤ x_3.2.2 → ∀ (y :
 Unit), True → Exx (Nat × List Int) fun x_4 => ((Tr 1 (n = (↑x_4.1 : Int)) ∧ (x.2.1.length = x_4.2.length ∧ ∀ (i : Nat), i < x_4.2.length → [AV.int .i64
 (x.2.1.getD i 0)] = [AV.int .i64 (x_4.2.getD i 0)]) ∧ True) ∧ true = true ∧ True) ∧ (x_4.1 ≤ 3072 ∧ IntL x_4.2) ∧ ∀ (y : Nat), (listN (x_4.1, addL x_4.1 0
 x_4.2)).length ≤ y ∧ y ≤ 9223372036854775807 → Exx (Nat × List Int) fun x_5 => ((Tr 1 (n = (↑x_5.1 : Int)) ∧ (x.2.2.1.length = x_5.2.length ∧ ∀ (i : Nat), i <
 x_5.2.length → [AV.int .i64 (x.2.2.1.getD i 0)] = [AV.int .i64 (x_5.2.getD i 0)]) ∧ True) ∧ true = true ∧ True) ∧ (x_5.1 ≤ 3072 ∧ IntL x_5.2) ∧ ∀ (y_1 : Nat),
 (listN (x_5.1, addL x_5.1 0 x_5.2)).length ≤ y_1 ∧ y_1 ≤ 9223372036854775807 → Exx ((Int × Int) × (Nat × List Int) × Nat × List Int) fun x_6 => ((Tr 1 (n =
 x_6.1.1) ∧ (true = true ∧ NilNil ∧ (0 : Nat) = 0 ∧ (1 : Nat) = 1 ∧ (0 : Nat) = 0 ∧ (listN (x_4.1, addL x_4.1 0 x_4.2)).length = x_6.2.1.2.length ∧ y =
 x_6.2.1.1) ∧ (true = true ∧ NilNil ∧ (0 : Nat) = 0 ∧ (1 : Nat) = 1 ∧ (0 : Nat) = 0 ∧ (listN (x_5.1, addL x_5.1 0 x_5.2)).length = x_6.2.2.2.length ∧ y_1 =
 x_6.2.2.1) ∧ Tr 1 (x.2.2.2 = x_6.1.2) ∧ True) ∧ true = true ∧ ((3 : TypeId) = 3 ∧ (1 : Nat) = 1 ∧ y = x_6.2.1.1 ∧ x_6.2.1.2.length ≤ (listN (x_4.1, addL x_4.1 0
 x_4.2)).length ∧ ∀ (i : Nat), i < x_6.2.1.2.length → [AV.int .i64 ((listN (x_4.1, addL x_4.1 0 x_4.2)).getD i 0)] = [AV.int .i64 (x_6.2.1.2.getD i 0)]) ∧ ((3 :
 TypeId) = 3 ∧ (1 : Nat) = 1 ∧ y_1 = x_6.2.2.1 ∧ x_6.2.2.2.length ≤ (listN (x_5.1, addL x_5.1 0 x_5.2)).length ∧ ∀ (i : Nat), i < x_6.2.2.2.length → [AV.int .i64
 ((listN (x_5.1, addL x_5.1 0 x_5.2)).getD i 0)] = [AV.int .i64 (x_6.2.2.2.getD i 0)]) ∧ True) ∧ (I64 x_6.1.1 ∧ I64 x_6.1.2) ∧ ∀ (y : Unit), True →
 ((x.2.1.length ≤ 40 ∧ x.2.2.1.length ≤ 40 ∧ (0 : Int) ≤ x.2.2.2) ∧ Exx Unit fun y => Exx (Subtype (RCap (startS x) false true true)) fun g => Tr 1 (((38 :
 TypeId) = 38 ∧ Tr 1 (x_6.1.1 = (↑(startS x).n : Int)) ∧ Tr 1 (x_6.1.2 = (startS x).r) ∧ (true = true ∧ NilNil ∧ (0 : Nat) = 0 ∧ (1 : Nat) = 1 ∧ (0 : Nat) = 0 ∧
 x_6.2.1.2.length = (lC (startS x)).length ∧ x_6.2.1.1 = g.val.1) ∧ (true = true ∧ NilNil ∧ (0 : Nat) = 0 ∧ (1 : Nat) = 1 ∧ (0 : Nat) = 0 ∧ x_6.2.2.2.length =
 (lE (startS x)).length ∧ x_6.2.2.1 = g.val.2.1) ∧ (true = true ∧ NilNil ∧ (0 : Nat) = 0 ∧ (1 : Nat) = 1 ∧ (0 : Nat) = 0 ∧ x_6.2.1.2.length = (lC (startS
 x)).length ∧ x_6.2.1.1 = g.val.1) ∧ (true = true ∧ NilNil ∧ (0 : Nat) = 0 ∧ (1 : Nat) = 1 ∧ (0 : Nat) = 0 ∧ x_6.2.1.2.length = (lC (startS x)).length ∧
 x_6.2.1.1 = g.val.1) ∧ True) ∧ ((3 : TypeId) = 3 ∧ (1 : Nat) = 1 ∧ x_6.2.1.1 = g.val.1 ∧ (lC (startS x)).length ≤ x_6.2.1.2.length ∧ ∀ (i : Nat), i < (lC
 (startS x)).length → [AV.int .i64 (x_6.2.1.2.getD i 0)] = [AV.int .i64 ((lC (startS x)).getD i 0)]) ∧ ((3 : TypeId) = 3 ∧ (1 : Nat) = 1 ∧ x_6.2.2.1 = g.val.2.1
 ∧ (lE (startS x)).length ≤ x_6.2.2.2.length ∧ ∀ (i : Nat), i < (lE (startS x)).length → [AV.int .i64 (x_6.2.2.2.getD i 0)] = [AV.int .i64 ((lE (startS x)).getD
 i 0)]) ∧ True) ∧ ((((true = true ∧ NilNil ∧ (0 : Nat) = 0) ∧ (true = true ∧ NilNil ∧ (0 : Nat) = 0) ∧ True) ∧ True) ∧ true = true ∧ allocB (newAlloc x_3) =
 allocB (startS x) ∧ refB (startS x) = refB (startS x) ∧ True) ∧ True) ∨ ¬made18I.p x ∧ Exx Unit fun y => False ∧ True) ∧ (¬allocNewI.p x_3 → ∀ (y : Unit), True
 → Exx (Nat × List Int) fun x_4 => ((Tr 1 (n = (↑x_4.1 : Int)) ∧ (x.2.1.length = x_4.2.length ∧ ∀ (i : Nat), i < x_4.2.length → [AV.int .i64 (x.2.1.getD i 0)] =
 [AV.int .i64 (x_4.2.getD i 0)]) ∧ True) ∧ true = true ∧ True) ∧ (x_4.1 ≤ 3072 ∧ IntL x_4.2) ∧ ∀ (y : Nat), (listN (x_4.1, addL x_4.1 0 x_4.2)).length ≤ y ∧ y ≤
 9223372036854775807 → Exx (Nat × List Int) fun x_5 => ((Tr 1 (n = (↑x_5.1 : Int)) ∧ (x.2.2.1.length = x_5.2.length ∧ ∀ (i : Nat), i < x_5.2.length → [AV.int
 .i64 (x.2.2.1.getD i 0)] = [AV.int .i64 (x_5.2.getD i 0)]) ∧ True) ∧ true = true ∧ True) ∧ (x_5.1 ≤ 3072 ∧ IntL x_5.2) ∧ ∀ (y_1 : Nat), (listN (x_5.1, addL
 x_5.1 0 x_5.2)).length ≤ y_1 ∧ y_1 ≤ 9223372036854775807 → Exx ((Int × Int) × (Nat × List Int) × Nat × List Int) fun x_6 => ((Tr 1 (n = x_6.1.1) ∧ (true = true
 ∧ NilNil ∧ (0 : Nat) = 0 ∧ (1 : Nat) = 1 ∧ (0 : Nat) = 0 ∧ (listN (x_4.1, addL x_4.1 0 x_4.2)).length = x_6.2.1.2.length ∧ y = x_6.2.1.1) ∧ (true = true ∧
 NilNil ∧ (0 : Nat) = 0 ∧ (1 : Nat) = 1 ∧ (0 : Nat) = 0 ∧ (listN (x_5.1, addL x_5.1 0 x_5.2)).length = x_6.2.2.2.length ∧ y_1 = x_6.2.2.1) ∧ Tr 1 (x.2.2.2 =
 x_6.1.2) ∧ True) ∧ true = true ∧ ((3 : TypeId) = 3 ∧ (1 : Nat) = 1 ∧ y = x_6.2.1.1 ∧ x_6.2.1.2.length ≤ (listN (x_4.1, addL x_4.1 0 x_4.2)).length ∧ ∀ (i :
 Nat), i < x_6.2.1.2.length → [AV.int .i64 ((listN (x_4.1, addL x_4.1 0 x_4.2)).getD i 0)] = [AV.int .i64 (x_6.2.1.2.getD i 0)]) ∧ ((3 : TypeId) = 3 ∧ (1 : Nat)
 = 1 ∧ y_1 = x_6.2.2.1 ∧ x_6.2.2.2.length ≤ (listN (x_5.1, addL x_5.1 0 x_5.2)).length ∧ ∀ (i : Nat), i < x_6.2.2.2.length → [AV.int .i64 ((listN (x_5.1, addL
 x_5.1 0 x_5.2)).getD i 0)] = [AV.int .i64 (x_6.2.2.2.getD i 0)]) ∧ True) ∧ (I64 x_6.1.1 ∧ I64 x_6.1.2) ∧ ∀ (y : Unit), True → ((x.2.1.length ≤ 40 ∧
 x.2.2.1.length ≤ 40 ∧ (0 : Int) ≤ x.2.2.2) ∧ Exx Unit fun y => Exx (Subtype (RCap (startS x) false true true)) fun g => Tr 1 (((38 : TypeId) = 38 ∧ Tr 1
 (x_6.1.1 = (↑(startS x).n : Int)) ∧ Tr 1 (x_6.1.2 = (startS x).r) ∧ (true = true ∧ NilNil ∧ (0 : Nat) = 0 ∧ (1 : Nat) = 1 ∧ (0 : Nat) = 0 ∧ x_6.2.1.2.length =
 (lC (startS x)).length ∧ x_6.2.1.1 = g.val.1) ∧ (true = true ∧ NilNil ∧ (0 : Nat) = 0 ∧ (1 : Nat) = 1 ∧ (0 : Nat) = 0 ∧ x_6.2.2.2.length = (lE (startS
 x)).length ∧ x_6.2.2.1 = g.val.2.1) ∧ (true = true ∧ NilNil ∧ (0 : Nat) = 0 ∧ (1 : Nat) = 1 ∧ (0 : Nat) = 0 ∧ x_6.2.1.2.length = (lC (startS x)).length ∧
 x_6.2.1.1 = g.val.1) ∧ (true = true ∧ NilNil ∧ (0 : Nat) = 0 ∧ (1 : Nat) = 1 ∧ (0 : Nat) = 0 ∧ x_6.2.1.2.length = (lC (startS x)).length ∧ x_6.2.1.1 = g.val.1)
 ∧ True) ∧ ((3 : TypeId) = 3 ∧ (1 : Nat) = 1 ∧ x_6.2.1.1 = g.val.1 ∧ (lC (startS x)).length ≤ x_6.2.1.2.length ∧ ∀ (i : Nat), i < (lC (startS x)).length →
 [AV.int .i64 (x_6.2.1.2.getD i 0)] = [AV.int .i64 ((lC (startS x)).getD i 0)]) ∧ ((3 : TypeId) = 3 ∧ (1 : Nat) = 1 ∧ x_6.2.2.1 = g.val.2.1 ∧ (lE (startS
 x)).length ≤ x_6.2.2.2.length ∧ ∀ (i : Nat), i < (lE (startS x)).length → [AV.int .i64 (x_6.2.2.2.getD i 0)] = [AV.int .i64 ((lE (startS x)).getD i 0)]) ∧ True)
 ∧ (((False ∧ (false = true ∧ NilNil ∧ (0 : Nat) = 0) ∧ True) ∧ True) ∧ true = true ∧ False ∧ setB x_3.1 = refB (startS x) ∧ True) ∧ True) ∨ ¬made18I.p x ∧ Exx
 Unit fun y => ((Tr 1 (False ∧ True) ∧ True) ∧ true = true ∧ True) ∧ True))))) = (fnVC2 tb [(26, allocNewAllP), (27, specOf setOfC), (28, specOf refNewC), (29, specOf refOfC)] Tryd.f8 made18I (fun _ => {}) (fun _ av _ => madeRen av) (fun _ => []) (fun x y av H => madeCl av H (startS x)) (fun _ _ _ _ => [])) := by kernel_rfl 

theorem made18_ok : SpecOk Tryd.prog 8 (specIf made18I) := by
  refine specIfo mixed tb_ok (SPok.cons allocNewAll_ok (SPok.cons setOf_ok (SPok.cons refNew_ok (SPok.cons refOf_ok SPok.nil)))) Tryd.func8 (by decide) ⟨fun _ _ _ _ => rfl, fun _ _ _ _ => ⟨rfl, rfl⟩, fun x _ _ _ _ => ⟨⟨trivial, trivial, trivial, trivial⟩, rfl, rfl, trivial⟩⟩ ⟨fun _ _ _ _ => rfl, fun _ _ _ _ => ⟨rfl, rfl⟩, fun x _ _ _ _ => ⟨⟨trivial, trivial⟩, rfl, rfl, trivial⟩⟩ (an := (fun _ => {})) (σ := (fun _ av _ => madeRen av)) (op := (fun _ => [])) (clA := (fun x y av H => madeCl av H (startS x))) (clB := (fun _ _ _ _ => [])) ?_
  rw [← made18V]
  simp (maxSteps := 10000000) only [and_false, false_and, false_or, or_false, bOf_true, bOf_false, true_bOf, false_bOf, Exx, int_ite, merge_o, Tr_eq, true_and, and_true, exists_const, forall_const, implies_true, forall_eq, exists_eq, exists_eq', exists_eq_left, exists_eq_left', exists_eq_right, Prod.exists, Prod.forall, and_assoc, exists_and_left, BC_iff, Bool.not_eq_true', Bool.not_eq_false', decide_eq_true_eq, decide_eq_false_iff_not, I64, nat_cast_inj, Int.toNat_natCast, nats_iff, nats_iff', ints_iff, ints_iff', natss_iff, natss_iff', nilnil, litL_eq, str_inj, str_append, str_length, str_getD, str_take, lit1_iff, one_iff, two_iff, one_get, Nat.zero_add, Nat.sub_zero, Nat.reduceMul, Nat.reduceDiv, Nat.reduceAdd, Int.reduceToNat, Nat.not_lt_zero, if_false, if_true, Nat.le_refl, List.length_singleton, List.length_cons, List.length_nil, Bool.false_eq_true, not_true_eq_false, false_implies, not_false_eq_true, Prod.mk.injEq, allocB_inj, refB_inj, setB_inj, Subtype.exists, exists_prop, RCap, RC1_t, RC1_f]
  rintro n u e r ⟨h1, h2, h3, h4, h5⟩
  have hw : IntKind.i64.wrap (n : Int) = (n : Int) := wrap_I64 ⟨by omega, by omega⟩
  have hm : (n : Int).tmod 41 = ((n % 41 : Nat) : Int) := rfl
  have h41 : n % 41 < 41 := Nat.mod_lt _ (by decide)
  have hc : clampN ((n % 41 : Nat) : Int) = n % 41 := by unfold clampN; omega
  have hz : 0 < 2 ^ (n % 41) := Nat.pos_of_ne_zero (by simp)
  rw [hw, hm, hc]
  refine ⟨fun g p => by have : u.length ≤ 40 := p.1; omega, fun g1 => ⟨fun g p => by have : e.length ≤ 40 := p.2.1; omega, fun g2 => ⟨fun g p => by have : 0 ≤ r := p.2.2; omega, fun g3 => ⟨by omega, by omega, by omega, ⟨h2.1, by omega⟩, by omega, by omega, ⟨h3.1, by omega⟩, ⟨by simp only; omega, addL_lt hz⟩, ⟨by simp only; omega, addL_lt hz⟩, h4, h5, fun _ => ?_, fun g => absurd ⟨rfl, by simp only; omega⟩ g⟩⟩⟩⟩
  exact ⟨n % 41, rfl, by omega, h2, fun c1 hc1 => ⟨n % 41, rfl, by omega, h3, fun c2 hc2 => ⟨r, c1, _, rfl, rfl, c2, _, rfl, rfl, rfl, rfl, Nat.le_refl _, fun _ _ => rfl, rfl, Nat.le_refl _, fun _ _ => rfl, by omega, by omega, h4, h5, by omega, by omega, by omega, rfl, rfl, rfl, rfl, rfl, rfl, Nat.le_refl _, fun _ _ => rfl, Nat.le_refl _, fun _ _ => rfl, hc1.1, hc1.2, hc2.1, hc2.2, rfl, rfl, rfl⟩⟩⟩

theorem law_map {P : Program} {f : Nat} {X X' : Type} {pre : X → Prop} {args : X → List AV} {pre' : X' → Prop} {args' : X' → List AV} (h : SpecOk P f (specOf (pureC X pre args fun _ => .bool true))) (g : X' → X) (he : ∀ x, args (g x) = args' x) (hp : ∀ x, pre' x → pre (g x)) :
    SpecOk P f (specOf (pureC X' pre' args' fun _ => .bool true)) :=
  ⟨h.fn, fun W D R ids own H w avs vals K hgl hT hR hS => h.ok W D R ids own H w avs vals K hgl hT hR (by
    obtain ⟨x, h1, h2, h3⟩ := hS
    have e : args' x = args (g x) := (he x).symm
    exact ⟨g x, by simpa only [pureC, e] using h1, hp x h2, h3⟩)⟩
def a18 (p : Int × Int) : Act18 := ⟨p.1, p.2⟩
abbrev a18A (l : List (Int × Int)) : AV := .ro 2 l.length (fun i => [i64 (l.getD i (0, 0)).1, i64 (l.getD i (0, 0)).2])
def A18I (l : List (Int × Int)) : Prop := (∀ a ∈ l, I64 a.1 ∧ I64 a.2) ∧ l.length ≤ 9223372036854775807
theorem a18_get (l : List (Int × Int)) (i : Nat) : (l.map a18).getD i act18Z = a18 (l.getD i (0, 0)) := by
  rw [List.getD_eq_getElem?_getD, List.getD_eq_getElem?_getD, List.getElem?_map]
  cases l[i]? <;> rfl
theorem a18_args (l : List (Int × Int)) : acts18A (l.map a18) = a18A l := by
  unfold acts18A a18A
  rw [List.length_map]
  congr 1
  funext i
  rw [a18_get]; rfl
theorem a18_acts {l : List (Int × Int)} (h : A18I l) : Acts18 (l.map a18) := by
  refine ⟨fun a ha => ?_, by rw [List.length_map]; exact h.2⟩
  obtain ⟨b, hb, rfl⟩ := List.mem_map.1 ha
  exact h.1 b hb

end Yard
