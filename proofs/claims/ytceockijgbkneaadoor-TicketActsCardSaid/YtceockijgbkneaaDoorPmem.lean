import Derived.Test.YtceockijgbkneaaDoorOctet
import Derived.Test.YtceockijgbkneaaDoorAlloc

namespace Yard
open Go Go.Sx Go.Proofs
set_option linter.unusedVariables false
set_option linter.unusedSimpArgs false
set_option maxRecDepth 4000

structure DevG where
  la : Nat → Nat
  se : Nat → Nat
  fl : Nat → Bool
  cap : Nat
  left : Int
  steps : Int
abbrev devFam (ws : List Nat) (g : DevG) : AH := [.cells 92 [.sl 1 [] 0 4 0 ws.length g.cap, .nils, i64 0, .bool false, .bool false, i64 g.left, i64 g.steps], .row 176 4 g.cap ws.length (fun j => [u64 (g.la j), u64 (ws.getD j 0), u64 (g.se j), .bool (g.fl j)])]
theorem devPl (ws : List Nat) (g : DevG) : plH (devFam ws g) := ⟨⟨rfl, rfl, rfl, rfl, rfl, rfl, rfl, trivial⟩, ⟨fun _ _ => ⟨rfl, rfl, rfl, rfl, trivial⟩, trivial⟩, trivial⟩
abbrev devO (ws : List Nat) : Opn := { tag := [ws.map fun n : Nat => (n : Int)], G := DevG, fam := devFam ws, pl := devPl ws, nf := fun _ => rfl, root := fun _ => rfl }
def devB (ws : List Nat) : Ob := (devO ws).ob
abbrev devI (ws : List Nat) : Sx.Item := .obj (devB ws)
theorem devB_inj {s t : List Nat} : (devB s = devB t) ↔ s = t := by
  constructor
  · intro h
    have := congrArg Ob.tag h
    simp only [devB, Opn.ob, List.cons.injEq, and_true] at this
    have := congrArg (List.map Int.toNat) this
    simpa [Function.comp_def] using this
  · intro h; rw [h]
theorem devB_open {s t : List Nat} : (devB s = (devO t).ob) ↔ s = t := devB_inj
theorem devB_close {s t : List Nat} : ((devO s).ob = devB t) ↔ s = t := devB_inj

def DevW (ws : List Nat) : Prop := ws.length ≤ 32768 ∧ ∀ w ∈ ws, U64 w
def devTauO (args : List AV) (H : AH) : List Nat := match args with
  | .ptr p _ _ :: _ => match H[p]? with
    | some (.cells _ (.sl q _ _ _ _ _ _ :: _)) => [p, q]
    | _ => [p]
  | _ => []

def devOpenC (Y : Type) (pre : List Nat × Y → Prop) (args : List Nat × Y → List AV) (res : List Nat × Y → AV) : Ctr where
  X := DevG × List Nat × Y
  Y := DevG
  conv := true
  tau := devTauO
  pre := fun x => DevW x.2.1 ∧ pre x.2
  args := fun x => args x.2
  heap := fun x => devFam x.2.1 x.1
  Q := fun x g => g.cap = x.1.cap
  res := fun x _ => res x.2
  its := fun x g => devFam x.2.1 g
  new := fun _ _ => []
theorem devOpenC_ok {Y : Type} {pre : List Nat × Y → Prop} {args : List Nat × Y → List AV} {res : List Nat × Y → AV} (h : ∀ x, plV 2 (res x)) : CtrOk (devOpenC Y pre args res) :=
  ⟨fun _ _ _ _ => (rfl : 2 = 2), fun _ _ _ _ => ⟨rfl, rfl⟩, fun x _ _ _ _ => ⟨⟨devPl _ _, trivial⟩, h x.2⟩⟩
def devGetC (Y : Type) (pre : List Nat × Y → Prop) (args : List Nat × Y → List AV) (res : List Nat × Y → AV) : Ctr where
  X := List Nat × Y
  Y := Unit
  conv := true
  tau := ptrTau
  pre := fun x => DevW x.1 ∧ pre x
  args := fun x => .ptr 0 [] 0 :: args x
  heap := fun x => [devI x.1]
  Q := fun _ _ => True
  res := fun x _ => res x
  its := fun x _ => [devI x.1]
  new := fun _ _ => []
theorem devGetC_ok {Y : Type} {pre : List Nat × Y → Prop} {args : List Nat × Y → List AV} {res : List Nat × Y → AV} (h : ∀ x, plV 2 (res x)) : CtrOk (devGetC Y pre args res) :=
  ⟨fun _ _ _ _ => rfl, fun _ _ _ _ => ⟨rfl, rfl⟩, fun x _ _ _ _ => ⟨⟨⟨trivial, trivial⟩, trivial⟩, h x⟩⟩
def devSetC (Y : Type) (pre : List Nat × Y → Prop) (args : List Nat × Y → List AV) (g : List Nat × Y → List Nat) (res : List Nat × Y → AV) : Ctr where
  X := List Nat × Y
  Y := Unit
  conv := true
  tau := ptrTau
  pre := fun x => DevW x.1 ∧ pre x
  args := fun x => .ptr 0 [] 0 :: args x
  heap := fun x => [devI x.1]
  Q := fun _ _ => True
  res := fun x _ => res x
  its := fun x _ => [devI (g x)]
  new := fun _ _ => []
theorem devSetC_ok {Y : Type} {pre : List Nat × Y → Prop} {args : List Nat × Y → List AV} {g : List Nat × Y → List Nat} {res : List Nat × Y → AV} (h : ∀ x, plV 2 (res x)) : CtrOk (devSetC Y pre args g res) :=
  ⟨fun _ _ _ _ => (rfl : 1 = 1), fun _ _ _ _ => ⟨rfl, rfl⟩, fun x _ _ _ _ => ⟨⟨⟨trivial, trivial⟩, trivial⟩, h x⟩⟩

def devLinesC : Ctr := devGetC Unit (fun _ => True) (fun _ => []) (fun x => i64 (x.1.length / 8 : Nat))
def devLinesOC : Ctr := devOpenC Unit (fun _ => True) (fun _ => [.ptr 0 [] 0]) (fun x => i64 (x.1.length / 8 : Nat))

theorem devLinesV : (∀ (x : List Nat × Unit), DevW x.1 ∧ True → devB x.1 = (devO x.1).ob ∧ ∀ (g : DevG), (8 : Int) ≠ (0 : Int) ∧ I64 ((↑x.1.length : Int).tdiv
 8) ∧ Exx Unit fun y => Exx DevG fun g_1 => ([0, 2].length = [Item.cells 92 [AV.sl 1 [] 0 4 0 x.1.length g_1.cap, AV.nils, AV.int .i64 0, AV.bool false, AV.bool
 false, AV.int .i64 g_1.left, AV.int .i64 g_1.steps], Item.row 176 4 g_1.cap x.1.length fun j => [AV.int .u64 (↑(g_1.la j) : Int), AV.int .u64 (↑(x.1.getD j 0) :
 Int), AV.int .u64 (↑(g_1.se j) : Int), AV.bool (g_1.fl j)]].length ∧ ((92 : TypeId) = 92 ∧ (true = true ∧ NilNil ∧ (0 : Nat) = 0 ∧ (4 : Nat) = 4 ∧ (0 : Nat) = 0
 ∧ x.1.length = x.1.length ∧ g.cap = g_1.cap) ∧ Tr 1 (Tr 1 ((0 : Int) = 0) ∧ false = false ∧ false = false ∧ Tr 1 (g.left = g_1.left) ∧ Tr 1 (g.steps =
 g_1.steps) ∧ True)) ∧ ((176 : TypeId) = 176 ∧ (4 : Nat) = 4 ∧ g.cap = g_1.cap ∧ x.1.length ≤ x.1.length ∧ ∀ (i : Nat), i < x.1.length → [AV.int .u64 (↑(g.la i)
 : Int), AV.int .u64 (↑(x.1.getD i 0) : Int), AV.int .u64 (↑(g.se i) : Int), AV.bool (g.fl i)] = [AV.int .u64 (↑(g_1.la i) : Int), AV.int .u64 (↑(x.1.getD i 0) :
 Int), AV.int .u64 (↑(g_1.se i) : Int), AV.bool (g_1.fl i)]) ∧ True) ∧ ((Tr 1 ((↑x.1.length : Int).tdiv 8 = (↑(x.1.length / 8) : Int)) ∧ True) ∧ (devO x.1).ob =
 devB x.1 ∧ true = true ∧ True) ∧ True) = (fnVCo tb [] Tryd.f42 devLinesC (fun _ => {}) (fun _ _ _ => none) (fun x => [(0, devO x.1)]) (fun x y av H => [(0, [2],
 devO x.1)])) := by kernel_rfl

theorem devLines_ok : SpecOk Tryd.prog 42 (specOf devLinesC) := by
  refine specOko mixed tb_ok SPok.nil Tryd.func42 (by decide) (devGetC_ok fun _ => rfl) (an := (fun _ => {})) (σ := (fun _ _ _ => none)) (op := (fun x => [(0, devO x.1)])) (cl := (fun x y av H => [(0, [2], devO x.1)])) ?_
  rw [← devLinesV]
  simp (maxSteps := 10000000) only [and_false, false_and, false_or, or_false, bOf_true, bOf_false, true_bOf, false_bOf, Exx, int_ite, merge_o, Tr_eq, true_and, and_true, exists_const, forall_const, implies_true, forall_eq, exists_eq, exists_eq', exists_eq_left, exists_eq_left', exists_eq_right, Prod.exists, Prod.forall, and_assoc, exists_and_left, BC_iff, Bool.not_eq_true', Bool.not_eq_false', decide_eq_true_eq, decide_eq_false_iff_not, I64, nat_cast_inj, Int.toNat_natCast, nats_iff, nats_iff', ints_iff, ints_iff', natss_iff, natss_iff', nilnil, litL_eq, str_inj, str_append, str_length, str_getD, str_take, lit1_iff, one_iff, two_iff, one_get, Nat.zero_add, Nat.sub_zero, Nat.reduceMul, Nat.reduceDiv, Nat.reduceAdd, Int.reduceToNat, Nat.not_lt_zero, if_false, if_true, Nat.le_refl, List.length_singleton, List.length_cons, List.length_nil, Bool.false_eq_true, not_true_eq_false, false_implies, not_false_eq_true, Prod.mk.injEq, devB_open, devB_close, devB_inj]
  intro ws h g
  have := h.1
  have e : (ws.length : Int).tdiv 8 = ((ws.length / 8 : Nat) : Int) := rfl
  rw [e]
  exact ⟨by omega, by omega, by omega, g, rfl, rfl, rfl, rfl, fun _ _ => rfl, rfl⟩

theorem devLinesOV : (∀ (x : DevG × List Nat × Unit), DevW x.2.1 ∧ True → (8 : Int) ≠ (0 : Int) ∧ I64 ((↑x.2.1.length : Int).tdiv 8) ∧ Exx DevG fun y => ((Tr 1
 ((↑x.2.1.length : Int).tdiv 8 = (↑(x.2.1.length / 8) : Int)) ∧ True) ∧ ((92 : TypeId) = 92 ∧ (true = true ∧ NilNil ∧ (0 : Nat) = 0 ∧ (4 : Nat) = 4 ∧ (0 : Nat) =
 0 ∧ x.2.1.length = x.2.1.length ∧ x.1.cap = y.cap) ∧ Tr 1 (Tr 1 ((0 : Int) = 0) ∧ false = false ∧ false = false ∧ Tr 1 (x.1.left = y.left) ∧ Tr 1 (x.1.steps =
 y.steps) ∧ True)) ∧ ((176 : TypeId) = 176 ∧ (4 : Nat) = 4 ∧ x.1.cap = y.cap ∧ x.2.1.length ≤ x.2.1.length ∧ ∀ (i : Nat), i < x.2.1.length → [AV.int .u64
 (↑(x.1.la i) : Int), AV.int .u64 (↑(x.2.1.getD i 0) : Int), AV.int .u64 (↑(x.1.se i) : Int), AV.bool (x.1.fl i)] = [AV.int .u64 (↑(y.la i) : Int), AV.int .u64
 (↑(x.2.1.getD i 0) : Int), AV.int .u64 (↑(y.se i) : Int), AV.bool (y.fl i)]) ∧ true = true ∧ True) ∧ y.cap = x.1.cap) = (fnVC tb [] Tryd.f42 devLinesOC (fun _
 => {}) (fun _ => none)) := by kernel_rfl

theorem devLinesO_ok : SpecOk Tryd.prog 42 (specOf devLinesOC) := by
  refine specOk mixed tb_ok SPok.nil Tryd.func42 (by decide) (devOpenC_ok fun _ => rfl) (an := (fun _ => {})) (σ := (fun _ => none)) ?_
  rw [← devLinesOV]
  simp (maxSteps := 10000000) only [and_false, false_and, false_or, or_false, bOf_true, bOf_false, true_bOf, false_bOf, Exx, int_ite, merge_o, Tr_eq, true_and, and_true, exists_const, forall_const, implies_true, forall_eq, exists_eq, exists_eq', exists_eq_left, exists_eq_left', exists_eq_right, Prod.exists, Prod.forall, and_assoc, exists_and_left, BC_iff, Bool.not_eq_true', Bool.not_eq_false', decide_eq_true_eq, decide_eq_false_iff_not, I64, nat_cast_inj, Int.toNat_natCast, nats_iff, nats_iff', ints_iff, ints_iff', natss_iff, natss_iff', nilnil, litL_eq, str_inj, str_append, str_length, str_getD, str_take, lit1_iff, one_iff, two_iff, one_get, Nat.zero_add, Nat.sub_zero, Nat.reduceMul, Nat.reduceDiv, Nat.reduceAdd, Int.reduceToNat, Nat.not_lt_zero, if_false, if_true, Nat.le_refl, List.length_singleton, List.length_cons, List.length_nil, Bool.false_eq_true, not_true_eq_false, false_implies, not_false_eq_true, Prod.mk.injEq]
  intro g ws h
  have := h.1
  have e : (ws.length : Int).tdiv 8 = ((ws.length / 8 : Nat) : Int) := rfl
  rw [e]
  exact ⟨by omega, by omega, by omega, rfl, g, rfl, rfl, rfl, rfl, fun _ _ => rfl, rfl⟩

def mayErr (at_ n : Int) : Int := if 0 ≤ at_ ∧ at_ < n then 0 else 2
def devMayC : Ctr := devOpenC (Int × Int) (fun x => I64 x.2.1 ∧ I64 x.2.2) (fun x => [.ptr 0 [] 0, i64 x.2.1, i64 x.2.2]) (fun x => i64 (mayErr x.2.1 x.2.2))

theorem devMayV : (∀ (x : DevG × List Nat × Int × Int), DevW x.2.1 ∧ I64 x.2.2.1 ∧ I64 x.2.2.2 → BC (decide (x.2.2.1 < (0 : Int))) (Exx DevG fun y => ((Tr 1 ((2
 : Int) = mayErr x.2.2.1 x.2.2.2) ∧ True) ∧ ((92 : TypeId) = 92 ∧ (true = true ∧ NilNil ∧ (0 : Nat) = 0 ∧ (4 : Nat) = 4 ∧ (0 : Nat) = 0 ∧ x.2.1.length =
 x.2.1.length ∧ x.1.cap = y.cap) ∧ Tr 1 (Tr 1 ((0 : Int) = 0) ∧ false = false ∧ false = false ∧ Tr 1 (x.1.left = y.left) ∧ Tr 1 (x.1.steps = y.steps) ∧ True)) ∧
 ((176 : TypeId) = 176 ∧ (4 : Nat) = 4 ∧ x.1.cap = y.cap ∧ x.2.1.length ≤ x.2.1.length ∧ ∀ (i : Nat), i < x.2.1.length → [AV.int .u64 (↑(x.1.la i) : Int), AV.int
 .u64 (↑(x.2.1.getD i 0) : Int), AV.int .u64 (↑(x.1.se i) : Int), AV.bool (x.1.fl i)] = [AV.int .u64 (↑(y.la i) : Int), AV.int .u64 (↑(x.2.1.getD i 0) : Int),
 AV.int .u64 (↑(y.se i) : Int), AV.bool (y.fl i)]) ∧ true = true ∧ True) ∧ y.cap = x.1.cap) (BC (decide (x.2.2.2 ≤ x.2.2.1)) (Exx DevG fun y => ((Tr 1 ((2 : Int)
 = mayErr x.2.2.1 x.2.2.2) ∧ True) ∧ ((92 : TypeId) = 92 ∧ (true = true ∧ NilNil ∧ (0 : Nat) = 0 ∧ (4 : Nat) = 4 ∧ (0 : Nat) = 0 ∧ x.2.1.length = x.2.1.length ∧
 x.1.cap = y.cap) ∧ Tr 1 (Tr 1 ((0 : Int) = 0) ∧ false = false ∧ false = false ∧ Tr 1 (x.1.left = y.left) ∧ Tr 1 (x.1.steps = y.steps) ∧ True)) ∧ ((176 : TypeId)
 = 176 ∧ (4 : Nat) = 4 ∧ x.1.cap = y.cap ∧ x.2.1.length ≤ x.2.1.length ∧ ∀ (i : Nat), i < x.2.1.length → [AV.int .u64 (↑(x.1.la i) : Int), AV.int .u64
 (↑(x.2.1.getD i 0) : Int), AV.int .u64 (↑(x.1.se i) : Int), AV.bool (x.1.fl i)] = [AV.int .u64 (↑(y.la i) : Int), AV.int .u64 (↑(x.2.1.getD i 0) : Int), AV.int
 .u64 (↑(y.se i) : Int), AV.bool (y.fl i)]) ∧ true = true ∧ True) ∧ y.cap = x.1.cap) (Exx DevG fun y => ((Tr 1 ((0 : Int) = mayErr x.2.2.1 x.2.2.2) ∧ True) ∧
 ((92 : TypeId) = 92 ∧ (true = true ∧ NilNil ∧ (0 : Nat) = 0 ∧ (4 : Nat) = 4 ∧ (0 : Nat) = 0 ∧ x.2.1.length = x.2.1.length ∧ x.1.cap = y.cap) ∧ Tr 1 (Tr 1 ((0 :
 Int) = 0) ∧ false = false ∧ false = false ∧ Tr 1 (x.1.left = y.left) ∧ Tr 1 (x.1.steps = y.steps) ∧ True)) ∧ ((176 : TypeId) = 176 ∧ (4 : Nat) = 4 ∧ x.1.cap =
 y.cap ∧ x.2.1.length ≤ x.2.1.length ∧ ∀ (i : Nat), i < x.2.1.length → [AV.int .u64 (↑(x.1.la i) : Int), AV.int .u64 (↑(x.2.1.getD i 0) : Int), AV.int .u64
 (↑(x.1.se i) : Int), AV.bool (x.1.fl i)] = [AV.int .u64 (↑(y.la i) : Int), AV.int .u64 (↑(x.2.1.getD i 0) : Int), AV.int .u64 (↑(y.se i) : Int), AV.bool (y.fl
 i)]) ∧ true = true ∧ True) ∧ y.cap = x.1.cap))) = (fnVC tb [] Tryd.f96 devMayC (fun _ => {}) (fun _ => none)) := by kernel_rfl 

theorem devMay_ok : SpecOk Tryd.prog 96 (specOf devMayC) := by
  refine specOk mixed tb_ok SPok.nil Tryd.func96 (by decide) (devOpenC_ok fun _ => rfl) (an := (fun _ => {})) (σ := (fun _ => none)) ?_
  rw [← devMayV]
  simp (maxSteps := 10000000) only [and_false, false_and, false_or, or_false, bOf_true, bOf_false, true_bOf, false_bOf, Exx, int_ite, merge_o, Tr_eq, true_and, and_true, exists_const, forall_const, implies_true, forall_eq, exists_eq, exists_eq', exists_eq_left, exists_eq_left', exists_eq_right, Prod.exists, Prod.forall, and_assoc, exists_and_left, BC_iff, Bool.not_eq_true', Bool.not_eq_false', decide_eq_true_eq, decide_eq_false_iff_not, I64, nat_cast_inj, Int.toNat_natCast, nats_iff, nats_iff', ints_iff, ints_iff', natss_iff, natss_iff', nilnil, litL_eq, str_inj, str_append, str_length, str_getD, str_take, lit1_iff, one_iff, two_iff, one_get, Nat.zero_add, Nat.sub_zero, Nat.reduceMul, Nat.reduceDiv, Nat.reduceAdd, Int.reduceToNat, Nat.not_lt_zero, if_false, if_true, Nat.le_refl, List.length_singleton, List.length_cons, List.length_nil, Bool.false_eq_true, not_true_eq_false, false_implies, not_false_eq_true, Prod.mk.injEq]
  rintro g ws a n ⟨h, h1, h2, h3, h4⟩
  refine ⟨fun h5 => ⟨by rw [mayErr, if_neg (by omega)], g, rfl, rfl, rfl, rfl, fun _ _ => rfl, rfl⟩, fun h5 => ⟨fun h6 => ⟨by rw [mayErr, if_neg (by omega)], g, rfl, rfl, rfl, rfl, fun _ _ => rfl, rfl⟩, fun h6 => ⟨by rw [mayErr, if_pos (by omega)], g, rfl, rfl, rfl, rfl, fun _ _ => rfl, rfl⟩⟩⟩

def planNextC : Ctr := devOpenC Unit (fun _ => True) (fun _ => [.ptr 0 [] 1]) (fun _ => i64 (-1))

theorem planNextV : (∀ (x : DevG × List Nat × Unit), DevW x.2.1 ∧ True → Exx DevG fun y => ((Tr 1 (-(1 : Int) = -(1 : Int)) ∧ True) ∧ ((92 : TypeId) = 92 ∧
 (true = true ∧ NilNil ∧ (0 : Nat) = 0 ∧ (4 : Nat) = 4 ∧ (0 : Nat) = 0 ∧ x.2.1.length = x.2.1.length ∧ x.1.cap = y.cap) ∧ Tr 1 (Tr 1 ((0 : Int) = 0) ∧ false =
 false ∧ false = false ∧ Tr 1 (x.1.left = y.left) ∧ Tr 1 (x.1.steps = y.steps) ∧ True)) ∧ ((176 : TypeId) = 176 ∧ (4 : Nat) = 4 ∧ x.1.cap = y.cap ∧ x.2.1.length
 ≤ x.2.1.length ∧ ∀ (i : Nat), i < x.2.1.length → [AV.int .u64 (↑(x.1.la i) : Int), AV.int .u64 (↑(x.2.1.getD i 0) : Int), AV.int .u64 (↑(x.1.se i) : Int),
 AV.bool (x.1.fl i)] = [AV.int .u64 (↑(y.la i) : Int), AV.int .u64 (↑(x.2.1.getD i 0) : Int), AV.int .u64 (↑(y.se i) : Int), AV.bool (y.fl i)]) ∧ true = true ∧
 True) ∧ y.cap = x.1.cap) = (fnVC tb [] Tryd.f102 planNextC (fun _ => {}) (fun _ => none)) := by kernel_rfl

theorem planNext_ok : SpecOk Tryd.prog 102 (specOf planNextC) := by
  refine specOk mixed tb_ok SPok.nil Tryd.func102 (by decide) (devOpenC_ok fun _ => rfl) (an := (fun _ => {})) (σ := (fun _ => none)) ?_
  rw [← planNextV]
  simp (maxSteps := 10000000) only [and_false, false_and, false_or, or_false, bOf_true, bOf_false, true_bOf, false_bOf, Exx, int_ite, merge_o, Tr_eq, true_and, and_true, exists_const, forall_const, implies_true, forall_eq, exists_eq, exists_eq', exists_eq_left, exists_eq_left', exists_eq_right, Prod.exists, Prod.forall, and_assoc, exists_and_left, BC_iff, Bool.not_eq_true', Bool.not_eq_false', decide_eq_true_eq, decide_eq_false_iff_not, I64, nat_cast_inj, Int.toNat_natCast, nats_iff, nats_iff', ints_iff, ints_iff', natss_iff, natss_iff', nilnil, litL_eq, str_inj, str_append, str_length, str_getD, str_take, lit1_iff, one_iff, two_iff, one_get, Nat.zero_add, Nat.sub_zero, Nat.reduceMul, Nat.reduceDiv, Nat.reduceAdd, Int.reduceToNat, Nat.not_lt_zero, if_false, if_true, Nat.le_refl, List.length_singleton, List.length_cons, List.length_nil, Bool.false_eq_true, not_true_eq_false, false_implies, not_false_eq_true, Prod.mk.injEq]
  exact fun g ws h => ⟨g, rfl, rfl, rfl, rfl, fun _ _ => rfl, rfl⟩

def devStepC : Ctr := devOpenC Unit (fun _ => True) (fun _ => [.ptr 0 [] 0]) (fun _ => .tup [])

theorem devStepV : (∀ (x : DevG × List Nat × Unit), DevW x.2.1 ∧ True → ∀ (n : Int), n = IntKind.i64.wrap (x.1.steps + 1) → Exx (DevG × List Nat × Unit) fun x_1
 => (((true = true ∧ NilNil ∧ (0 : Nat) + (1 : Nat) = 1) ∧ True) ∧ true = true ∧ ((92 : TypeId) = 92 ∧ (true = true ∧ NilNil ∧ (0 : Nat) = 0 ∧ (4 : Nat) = 4 ∧ (0
 : Nat) = 0 ∧ x.2.1.length = x_1.2.1.length ∧ x.1.cap = x_1.1.cap) ∧ Tr 1 (Tr 1 ((0 : Int) = 0) ∧ false = false ∧ false = false ∧ Tr 1 (x.1.left = x_1.1.left) ∧
 Tr 1 (n = x_1.1.steps) ∧ True)) ∧ ((176 : TypeId) = 176 ∧ (4 : Nat) = 4 ∧ x.1.cap = x_1.1.cap ∧ x_1.2.1.length ≤ x.2.1.length ∧ ∀ (i : Nat), i < x_1.2.1.length
 → [AV.int .u64 (↑(x.1.la i) : Int), AV.int .u64 (↑(x.2.1.getD i 0) : Int), AV.int .u64 (↑(x.1.se i) : Int), AV.bool (x.1.fl i)] = [AV.int .u64 (↑(x_1.1.la i) :
 Int), AV.int .u64 (↑(x_1.2.1.getD i 0) : Int), AV.int .u64 (↑(x_1.1.se i) : Int), AV.bool (x_1.1.fl i)]) ∧ True) ∧ (DevW x_1.2.1 ∧ True) ∧ ∀ (y : DevG), y.cap =
 x_1.1.cap → Exx DevG fun y_1 => (Tr 1 True ∧ ((92 : TypeId) = 92 ∧ (true = true ∧ NilNil ∧ (0 : Nat) = 0 ∧ (4 : Nat) = 4 ∧ (0 : Nat) = 0 ∧ x_1.2.1.length =
 x.2.1.length ∧ y.cap = y_1.cap) ∧ Tr 1 (Tr 1 ((0 : Int) = 0) ∧ false = false ∧ false = false ∧ Tr 1 (y.left = y_1.left) ∧ Tr 1 (y.steps = y_1.steps) ∧ True)) ∧
 ((176 : TypeId) = 176 ∧ (4 : Nat) = 4 ∧ y.cap = y_1.cap ∧ x.2.1.length ≤ x_1.2.1.length ∧ ∀ (i : Nat), i < x.2.1.length → [AV.int .u64 (↑(y.la i) : Int), AV.int
 .u64 (↑(x_1.2.1.getD i 0) : Int), AV.int .u64 (↑(y.se i) : Int), AV.bool (y.fl i)] = [AV.int .u64 (↑(y_1.la i) : Int), AV.int .u64 (↑(x.2.1.getD i 0) : Int),
 AV.int .u64 (↑(y_1.se i) : Int), AV.bool (y_1.fl i)]) ∧ true = true ∧ True) ∧ y_1.cap = x.1.cap) = (fnVC (wr tb) [(102, specOf planNextC)] Tryd.f101 devStepC
 (fun _ => {}) (fun _ => none)) := by kernel_rfl

theorem devStep_ok : SpecOk Tryd.prog 101 (specOf devStepC) := by
  refine specOk mixed (wr_ok tb_ok) (SPok.cons planNext_ok SPok.nil) Tryd.func101 (by decide) (devOpenC_ok fun _ => trivial) (an := (fun _ => {})) (σ := (fun _ => none)) ?_
  rw [← devStepV]
  simp (maxSteps := 10000000) only [and_false, false_and, false_or, or_false, bOf_true, bOf_false, true_bOf, false_bOf, Exx, int_ite, merge_o, Tr_eq, true_and, and_true, exists_const, forall_const, implies_true, forall_eq, exists_eq, exists_eq', exists_eq_left, exists_eq_left', exists_eq_right, Prod.exists, Prod.forall, and_assoc, exists_and_left, BC_iff, Bool.not_eq_true', Bool.not_eq_false', decide_eq_true_eq, decide_eq_false_iff_not, I64, nat_cast_inj, Int.toNat_natCast, nats_iff, nats_iff', ints_iff, ints_iff', natss_iff, natss_iff', nilnil, litL_eq, str_inj, str_append, str_length, str_getD, str_take, lit1_iff, one_iff, two_iff, one_get, Nat.zero_add, Nat.sub_zero, Nat.reduceMul, Nat.reduceDiv, Nat.reduceAdd, Int.reduceToNat, Nat.not_lt_zero, if_false, if_true, Nat.le_refl, List.length_singleton, List.length_cons, List.length_nil, Bool.false_eq_true, not_true_eq_false, false_implies, not_false_eq_true, Prod.mk.injEq]
  exact fun g ws h => ⟨{ g with steps := IntKind.i64.wrap (g.steps + 1) }, ws, rfl, rfl, rfl, rfl, rfl, Nat.le_refl _, fun _ _ => rfl, h, fun y hy => ⟨rfl, y, rfl, rfl, rfl, rfl, Nat.le_refl _, fun _ _ => rfl, hy⟩⟩

def storeErr (ws : List Nat) (at_ : Int) : Int := mayErr at_ (ws.length : Nat)
def storeL (ws : List Nat) (at_ : Int) (w : Nat) : List Nat := if 0 ≤ at_ then ws.set at_.toNat w else ws
def devStoreC : Ctr := devSetC (Int × Nat) (fun x => I64 x.2.1 ∧ U64 x.2.2) (fun x => [i64 x.2.1, u64 x.2.2]) (fun x => storeL x.1 x.2.1 x.2.2) (fun x => i64 (storeErr x.1 x.2.1))

theorem devStoreV : (∀ (x : List Nat × Int × Nat), DevW x.1 ∧ I64 x.2.1 ∧ U64 x.2.2 → devB x.1 = (devO x.1).ob ∧ ∀ (g : DevG), Exx (DevG × List Nat × Int × Int)
 fun x_1 => (((true = true ∧ NilNil ∧ (0 : Nat) = 0) ∧ Tr 1 (x.2.1 = x_1.2.2.1) ∧ Tr 1 ((↑x.1.length : Int) = x_1.2.2.2) ∧ True) ∧ true = true ∧ ((92 : TypeId) =
 92 ∧ (true = true ∧ NilNil ∧ (0 : Nat) = 0 ∧ (4 : Nat) = 4 ∧ (0 : Nat) = 0 ∧ x.1.length = x_1.2.1.length ∧ g.cap = x_1.1.cap) ∧ Tr 1 (Tr 1 ((0 : Int) = 0) ∧
 false = false ∧ false = false ∧ Tr 1 (g.left = x_1.1.left) ∧ Tr 1 (g.steps = x_1.1.steps) ∧ True)) ∧ ((176 : TypeId) = 176 ∧ (4 : Nat) = 4 ∧ g.cap = x_1.1.cap ∧
 x_1.2.1.length ≤ x.1.length ∧ ∀ (i : Nat), i < x_1.2.1.length → [AV.int .u64 (↑(g.la i) : Int), AV.int .u64 (↑(x.1.getD i 0) : Int), AV.int .u64 (↑(g.se i) :
 Int), AV.bool (g.fl i)] = [AV.int .u64 (↑(x_1.1.la i) : Int), AV.int .u64 (↑(x_1.2.1.getD i 0) : Int), AV.int .u64 (↑(x_1.1.se i) : Int), AV.bool (x_1.1.fl i)])
 ∧ True) ∧ (DevW x_1.2.1 ∧ I64 x_1.2.2.1 ∧ I64 x_1.2.2.2) ∧ ∀ (y : DevG), y.cap = x_1.1.cap → BC (!decide (mayErr x_1.2.2.1 x_1.2.2.2 = (0 : Int))) (Exx Unit fun
 y_1 => Exx DevG fun g => ([0, 2].length = [Item.cells 92 [AV.sl 1 [] 0 4 0 (storeL x.1 x.2.1 x.2.2).length g.cap, AV.nils, AV.int .i64 0, AV.bool false, AV.bool
 false, AV.int .i64 g.left, AV.int .i64 g.steps], Item.row 176 4 g.cap (storeL x.1 x.2.1 x.2.2).length fun j => [AV.int .u64 (↑(g.la j) : Int), AV.int .u64
 (↑((storeL x.1 x.2.1 x.2.2).getD j 0) : Int), AV.int .u64 (↑(g.se j) : Int), AV.bool (g.fl j)]].length ∧ ((92 : TypeId) = 92 ∧ (true = true ∧ NilNil ∧ (0 : Nat)
 = 0 ∧ (4 : Nat) = 4 ∧ (0 : Nat) = 0 ∧ x_1.2.1.length = (storeL x.1 x.2.1 x.2.2).length ∧ y.cap = g.cap) ∧ Tr 1 (Tr 1 ((0 : Int) = 0) ∧ false = false ∧ false =
 false ∧ Tr 1 (y.left = g.left) ∧ Tr 1 (y.steps = g.steps) ∧ True)) ∧ ((176 : TypeId) = 176 ∧ (4 : Nat) = 4 ∧ y.cap = g.cap ∧ (storeL x.1 x.2.1 x.2.2).length ≤
 x_1.2.1.length ∧ ∀ (i : Nat), i < (storeL x.1 x.2.1 x.2.2).length → [AV.int .u64 (↑(y.la i) : Int), AV.int .u64 (↑(x_1.2.1.getD i 0) : Int), AV.int .u64 (↑(y.se
 i) : Int), AV.bool (y.fl i)] = [AV.int .u64 (↑(g.la i) : Int), AV.int .u64 (↑((storeL x.1 x.2.1 x.2.2).getD i 0) : Int), AV.int .u64 (↑(g.se i) : Int), AV.bool
 (g.fl i)]) ∧ True) ∧ ((Tr 1 (mayErr x_1.2.2.1 x_1.2.2.2 = storeErr x.1 x.2.1) ∧ True) ∧ (devO (storeL x.1 x.2.1 x.2.2)).ob = devB (storeL x.1 x.2.1 x.2.2) ∧
 true = true ∧ True) ∧ True) (((0 : Int) ≤ x.2.1 ∧ x.2.1 < (↑x_1.2.1.length : Int)) ∧ 0 + x.2.1.toNat < x_1.2.1.length ∧ x_1.2.1.length = x_1.2.1.length ∧ Exx
 (DevG × List Nat × Unit) fun x_2 => (((true = true ∧ NilNil ∧ (0 : Nat) = 0) ∧ True) ∧ true = true ∧ ((92 : TypeId) = 92 ∧ (true = true ∧ NilNil ∧ (0 : Nat) = 0
 ∧ (4 : Nat) = 4 ∧ (0 : Nat) = 0 ∧ x_1.2.1.length = x_2.2.1.length ∧ y.cap = x_2.1.cap) ∧ Tr 1 (Tr 1 ((0 : Int) = 0) ∧ false = false ∧ false = false ∧ Tr 1
 (y.left = x_2.1.left) ∧ Tr 1 (y.steps = x_2.1.steps) ∧ True)) ∧ ((176 : TypeId) = 176 ∧ (4 : Nat) = 4 ∧ y.cap = x_2.1.cap ∧ x_2.2.1.length ≤ x_1.2.1.length ∧ ∀
 (i : Nat), i < x_2.2.1.length → [AV.int .u64 (if i = 0 + x.2.1.toNat then (↑(y.la (0 + x.2.1.toNat)) : Int) else (↑(y.la i) : Int)), AV.int .u64 (if i = 0 +
 x.2.1.toNat then (↑x.2.2 : Int) else (↑(x_1.2.1.getD i 0) : Int)), AV.int .u64 (if i = 0 + x.2.1.toNat then (↑(y.se (0 + x.2.1.toNat)) : Int) else (↑(y.se i) :
 Int)), AV.bool (if i = 0 + x.2.1.toNat then y.fl (0 + x.2.1.toNat) else y.fl i)] = [AV.int .u64 (↑(x_2.1.la i) : Int), AV.int .u64 (↑(x_2.2.1.getD i 0) : Int),
 AV.int .u64 (↑(x_2.1.se i) : Int), AV.bool (x_2.1.fl i)]) ∧ True) ∧ (DevW x_2.2.1 ∧ True) ∧ ∀ (y : DevG), y.cap = x_2.1.cap → Exx Unit fun y_1 => Exx DevG fun g
 => ([0, 2].length = [Item.cells 92 [AV.sl 1 [] 0 4 0 (storeL x.1 x.2.1 x.2.2).length g.cap, AV.nils, AV.int .i64 0, AV.bool false, AV.bool false, AV.int .i64
 g.left, AV.int .i64 g.steps], Item.row 176 4 g.cap (storeL x.1 x.2.1 x.2.2).length fun j => [AV.int .u64 (↑(g.la j) : Int), AV.int .u64 (↑((storeL x.1 x.2.1
 x.2.2).getD j 0) : Int), AV.int .u64 (↑(g.se j) : Int), AV.bool (g.fl j)]].length ∧ ((92 : TypeId) = 92 ∧ (true = true ∧ NilNil ∧ (0 : Nat) = 0 ∧ (4 : Nat) = 4
 ∧ (0 : Nat) = 0 ∧ x_2.2.1.length = (storeL x.1 x.2.1 x.2.2).length ∧ y.cap = g.cap) ∧ Tr 1 (Tr 1 ((0 : Int) = 0) ∧ false = false ∧ false = false ∧ Tr 1 (y.left
 = g.left) ∧ Tr 1 (y.steps = g.steps) ∧ True)) ∧ ((176 : TypeId) = 176 ∧ (4 : Nat) = 4 ∧ y.cap = g.cap ∧ (storeL x.1 x.2.1 x.2.2).length ≤ x_2.2.1.length ∧ ∀ (i
 : Nat), i < (storeL x.1 x.2.1 x.2.2).length → [AV.int .u64 (↑(y.la i) : Int), AV.int .u64 (↑(x_2.2.1.getD i 0) : Int), AV.int .u64 (↑(y.se i) : Int), AV.bool
 (y.fl i)] = [AV.int .u64 (↑(g.la i) : Int), AV.int .u64 (↑((storeL x.1 x.2.1 x.2.2).getD i 0) : Int), AV.int .u64 (↑(g.se i) : Int), AV.bool (g.fl i)]) ∧ True)
 ∧ ((Tr 1 ((0 : Int) = storeErr x.1 x.2.1) ∧ True) ∧ (devO (storeL x.1 x.2.1 x.2.2)).ob = devB (storeL x.1 x.2.1 x.2.2) ∧ true = true ∧ True) ∧ True)) = (fnVCo tb [(96, specOf devMayC), (101, specOf devStepC)] Tryd.f99 devStoreC (fun _ => {}) (fun _ _ _ => none) (fun x => [(0, devO x.1)]) (fun x y av H => [(0, [2], devO (storeL x.1 x.2.1 x.2.2))])) := by kernel_rfl 

theorem devStore_ok : SpecOk Tryd.prog 99 (specOf devStoreC) := by
  refine specOko mixed tb_ok (SPok.cons devMay_ok (SPok.cons devStep_ok SPok.nil)) Tryd.func99 (by decide) (devSetC_ok fun _ => rfl) (an := (fun _ => {})) (σ := (fun _ _ _ => none)) (op := (fun x => [(0, devO x.1)])) (cl := (fun x y av H => [(0, [2], devO (storeL x.1 x.2.1 x.2.2))])) ?_
  rw [← devStoreV]
  simp (maxSteps := 10000000) only [and_false, false_and, false_or, or_false, bOf_true, bOf_false, true_bOf, false_bOf, Exx, int_ite, merge_o, Tr_eq, true_and, and_true, exists_const, forall_const, implies_true, forall_eq, exists_eq, exists_eq', exists_eq_left, exists_eq_left', exists_eq_right, Prod.exists, Prod.forall, and_assoc, exists_and_left, BC_iff, Bool.not_eq_true', Bool.not_eq_false', decide_eq_true_eq, decide_eq_false_iff_not, I64, nat_cast_inj, Int.toNat_natCast, nats_iff, nats_iff', ints_iff, ints_iff', natss_iff, natss_iff', nilnil, litL_eq, str_inj, str_append, str_length, str_getD, str_take, lit1_iff, one_iff, two_iff, one_get, Nat.zero_add, Nat.sub_zero, Nat.reduceMul, Nat.reduceDiv, Nat.reduceAdd, Int.reduceToNat, Nat.not_lt_zero, if_false, if_true, Nat.le_refl, List.length_singleton, List.length_cons, List.length_nil, Bool.false_eq_true, not_true_eq_false, false_implies, not_false_eq_true, Prod.mk.injEq, devB_open, devB_close, devB_inj]
  rintro ws a w ⟨h, h1, h2, hw⟩ g
  have hlen := h.1
  refine ⟨g, ws, rfl, rfl, rfl, rfl, rfl, Nat.le_refl _, fun _ _ => rfl, h, h1, h2, by omega, by omega, fun y hy => ⟨fun hne => ?_, fun hz => ?_⟩⟩
  · have e : storeL ws a w = ws := by
      rw [storeL]; split
      · rename_i h0
        refine List.set_eq_of_length_le ?_
        by_cases h3 : a < (ws.length : Int)
        · exact absurd (show mayErr a (ws.length : Int) = 0 by rw [mayErr, if_pos ⟨h0, h3⟩]) hne
        · omega
      · rfl
    rw [e]
    exact ⟨rfl, y, rfl, rfl, rfl, rfl, Nat.le_refl _, fun _ _ => rfl, rfl⟩
  · obtain ⟨h3, h4⟩ : 0 ≤ a ∧ a < (ws.length : Int) := by
      by_cases k : 0 ≤ a ∧ a < (ws.length : Int)
      · exact k
      · rw [mayErr, if_neg k] at hz; cases hz
    have hk : a.toNat < ws.length := by omega
    have e : storeL ws a w = ws.set a.toNat w := by rw [storeL, if_pos h3]
    have hwl : DevW (ws.set a.toNat w) := ⟨by rw [List.length_set]; exact hlen, fun x hx => by
      rcases List.mem_or_eq_of_mem_set hx with k | k
      · exact h.2 x k
      · rw [k]; exact hw⟩
    refine ⟨h3, h4, hk, y, ws.set a.toNat w, by rw [List.length_set], rfl, rfl, rfl, rfl, by rw [List.length_set]; exact Nat.le_refl _, fun i hi => ?_, hwl, fun y2 hy2 => ?_⟩
    · rw [getD_set hk]
      by_cases k : i = a.toNat
      · subst k; simp
      · simp [k]
    · rw [e]
      exact ⟨rfl, y2, rfl, rfl, rfl, rfl, Nat.le_refl _, fun _ _ => rfl, by rw [storeErr, hz]⟩

def devLoadC : Ctr := devGetC Int (fun x => I64 x.2) (fun x => [i64 x.2]) (fun x => .tup [u64 (if 0 ≤ x.2 then x.1.getD x.2.toNat 0 else 0), i64 (storeErr x.1 x.2)])

theorem devLoadV : (∀ (x : List Nat × Int), DevW x.1 ∧ I64 x.2 → devB x.1 = (devO x.1).ob ∧ ∀ (g : DevG), Exx (DevG × List Nat × Int × Int) fun x_1 => (((true =
 true ∧ NilNil ∧ (0 : Nat) = 0) ∧ Tr 1 (x.2 = x_1.2.2.1) ∧ Tr 1 ((↑x.1.length : Int) = x_1.2.2.2) ∧ True) ∧ true = true ∧ ((92 : TypeId) = 92 ∧ (true = true ∧
 NilNil ∧ (0 : Nat) = 0 ∧ (4 : Nat) = 4 ∧ (0 : Nat) = 0 ∧ x.1.length = x_1.2.1.length ∧ g.cap = x_1.1.cap) ∧ Tr 1 (Tr 1 ((0 : Int) = 0) ∧ false = false ∧ false =
 false ∧ Tr 1 (g.left = x_1.1.left) ∧ Tr 1 (g.steps = x_1.1.steps) ∧ True)) ∧ ((176 : TypeId) = 176 ∧ (4 : Nat) = 4 ∧ g.cap = x_1.1.cap ∧ x_1.2.1.length ≤
 x.1.length ∧ ∀ (i : Nat), i < x_1.2.1.length → [AV.int .u64 (↑(g.la i) : Int), AV.int .u64 (↑(x.1.getD i 0) : Int), AV.int .u64 (↑(g.se i) : Int), AV.bool (g.fl
 i)] = [AV.int .u64 (↑(x_1.1.la i) : Int), AV.int .u64 (↑(x_1.2.1.getD i 0) : Int), AV.int .u64 (↑(x_1.1.se i) : Int), AV.bool (x_1.1.fl i)]) ∧ True) ∧ (DevW
 x_1.2.1 ∧ I64 x_1.2.2.1 ∧ I64 x_1.2.2.2) ∧ ∀ (y : DevG), y.cap = x_1.1.cap → BC (!decide (mayErr x_1.2.2.1 x_1.2.2.2 = (0 : Int))) (Exx Unit fun y_1 => Exx DevG
 fun g => ([0, 2].length = [Item.cells 92 [AV.sl 1 [] 0 4 0 x.1.length g.cap, AV.nils, AV.int .i64 0, AV.bool false, AV.bool false, AV.int .i64 g.left, AV.int
 .i64 g.steps], Item.row 176 4 g.cap x.1.length fun j => [AV.int .u64 (↑(g.la j) : Int), AV.int .u64 (↑(x.1.getD j 0) : Int), AV.int .u64 (↑(g.se j) : Int),
 AV.bool (g.fl j)]].length ∧ ((92 : TypeId) = 92 ∧ (true = true ∧ NilNil ∧ (0 : Nat) = 0 ∧ (4 : Nat) = 4 ∧ (0 : Nat) = 0 ∧ x_1.2.1.length = x.1.length ∧ y.cap =
 g.cap) ∧ Tr 1 (Tr 1 ((0 : Int) = 0) ∧ false = false ∧ false = false ∧ Tr 1 (y.left = g.left) ∧ Tr 1 (y.steps = g.steps) ∧ True)) ∧ ((176 : TypeId) = 176 ∧ (4 :
 Nat) = 4 ∧ y.cap = g.cap ∧ x.1.length ≤ x_1.2.1.length ∧ ∀ (i : Nat), i < x.1.length → [AV.int .u64 (↑(y.la i) : Int), AV.int .u64 (↑(x_1.2.1.getD i 0) : Int),
 AV.int .u64 (↑(y.se i) : Int), AV.bool (y.fl i)] = [AV.int .u64 (↑(g.la i) : Int), AV.int .u64 (↑(x.1.getD i 0) : Int), AV.int .u64 (↑(g.se i) : Int), AV.bool
 (g.fl i)]) ∧ True) ∧ (((Tr 1 ((0 : Int) = (↑(if (0 : Int) ≤ x.2 then x.1.getD x.2.toNat 0 else 0) : Int)) ∧ Tr 1 (mayErr x_1.2.2.1 x_1.2.2.2 = storeErr x.1 x.2)
 ∧ True) ∧ True) ∧ (devO x.1).ob = devB x.1 ∧ true = true ∧ True) ∧ True) (((0 : Int) ≤ x.2 ∧ x.2 < (↑x_1.2.1.length : Int)) ∧ 0 + x.2.toNat < x_1.2.1.length ∧
 Exx Unit fun y_1 => Exx DevG fun g => ([0, 2].length = [Item.cells 92 [AV.sl 1 [] 0 4 0 x.1.length g.cap, AV.nils, AV.int .i64 0, AV.bool false, AV.bool false,
 AV.int .i64 g.left, AV.int .i64 g.steps], Item.row 176 4 g.cap x.1.length fun j => [AV.int .u64 (↑(g.la j) : Int), AV.int .u64 (↑(x.1.getD j 0) : Int), AV.int
 .u64 (↑(g.se j) : Int), AV.bool (g.fl j)]].length ∧ ((92 : TypeId) = 92 ∧ (true = true ∧ NilNil ∧ (0 : Nat) = 0 ∧ (4 : Nat) = 4 ∧ (0 : Nat) = 0 ∧ x_1.2.1.length
 = x.1.length ∧ y.cap = g.cap) ∧ Tr 1 (Tr 1 ((0 : Int) = 0) ∧ false = false ∧ false = false ∧ Tr 1 (y.left = g.left) ∧ Tr 1 (y.steps = g.steps) ∧ True)) ∧ ((176
 : TypeId) = 176 ∧ (4 : Nat) = 4 ∧ y.cap = g.cap ∧ x.1.length ≤ x_1.2.1.length ∧ ∀ (i : Nat), i < x.1.length → [AV.int .u64 (↑(y.la i) : Int), AV.int .u64
 (↑(x_1.2.1.getD i 0) : Int), AV.int .u64 (↑(y.se i) : Int), AV.bool (y.fl i)] = [AV.int .u64 (↑(g.la i) : Int), AV.int .u64 (↑(x.1.getD i 0) : Int), AV.int .u64
 (↑(g.se i) : Int), AV.bool (g.fl i)]) ∧ True) ∧ (((Tr 1 ((↑(x_1.2.1.getD (0 + x.2.toNat) 0) : Int) = (↑(if (0 : Int) ≤ x.2 then x.1.getD x.2.toNat 0 else 0) :
 Int)) ∧ Tr 1 ((0 : Int) = storeErr x.1 x.2) ∧ True) ∧ True) ∧ (devO x.1).ob = devB x.1 ∧ true = true ∧ True) ∧ True)) = (fnVCo tb [(96, specOf devMayC)] Tryd.f85 devLoadC (fun _ => {}) (fun _ _ _ => none) (fun x => [(0, devO x.1)]) (fun x y av H => [(0, [2], devO x.1)])) := by kernel_rfl 

theorem devLoad_ok : SpecOk Tryd.prog 85 (specOf devLoadC) := by
  refine specOko mixed tb_ok (SPok.cons devMay_ok SPok.nil) Tryd.func85 (by decide) (devGetC_ok fun _ => ⟨rfl, rfl, trivial⟩) (an := (fun _ => {})) (σ := (fun _ _ _ => none)) (op := (fun x => [(0, devO x.1)])) (cl := (fun x y av H => [(0, [2], devO x.1)])) ?_
  rw [← devLoadV]
  simp (maxSteps := 10000000) only [and_false, false_and, false_or, or_false, bOf_true, bOf_false, true_bOf, false_bOf, Exx, int_ite, merge_o, Tr_eq, true_and, and_true, exists_const, forall_const, implies_true, forall_eq, exists_eq, exists_eq', exists_eq_left, exists_eq_left', exists_eq_right, Prod.exists, Prod.forall, and_assoc, exists_and_left, BC_iff, Bool.not_eq_true', Bool.not_eq_false', decide_eq_true_eq, decide_eq_false_iff_not, I64, nat_cast_inj, Int.toNat_natCast, nats_iff, nats_iff', ints_iff, ints_iff', natss_iff, natss_iff', nilnil, litL_eq, str_inj, str_append, str_length, str_getD, str_take, lit1_iff, one_iff, two_iff, one_get, Nat.zero_add, Nat.sub_zero, Nat.reduceMul, Nat.reduceDiv, Nat.reduceAdd, Int.reduceToNat, Nat.not_lt_zero, if_false, if_true, Nat.le_refl, List.length_singleton, List.length_cons, List.length_nil, Bool.false_eq_true, not_true_eq_false, false_implies, not_false_eq_true, Prod.mk.injEq, devB_open, devB_close, devB_inj]
  rintro ws a ⟨h, h1, h2⟩ g
  have hlen := h.1
  refine ⟨g, ws, rfl, rfl, rfl, rfl, rfl, Nat.le_refl _, fun _ _ => rfl, h, h1, h2, by omega, by omega, fun y hy => ⟨fun hne => ⟨rfl, y, rfl, rfl, rfl, rfl, Nat.le_refl _, fun _ _ => rfl, ?_, rfl⟩, fun hz => ?_⟩⟩
  · split
    · rename_i h0
      have : ws.length ≤ a.toNat := by
        by_cases h3 : a < (ws.length : Int)
        · exact absurd (show mayErr a (ws.length : Int) = 0 by rw [mayErr, if_pos ⟨h0, h3⟩]) hne
        · omega
      rw [List.getD_eq_getElem?_getD, List.getElem?_eq_none this]; rfl
    · rfl
  · obtain ⟨h3, h4⟩ : 0 ≤ a ∧ a < (ws.length : Int) := by
      by_cases k : 0 ≤ a ∧ a < (ws.length : Int)
      · exact k
      · rw [mayErr, if_neg k] at hz; cases hz
    exact ⟨h3, h4, by omega, rfl, y, rfl, rfl, rfl, rfl, Nat.le_refl _, fun _ _ => rfl, by rw [if_pos h3], by rw [storeErr, hz]⟩

def devFlushC : Ctr := devGetC Int (fun x => I64 x.2) (fun x => [i64 x.2]) (fun x => i64 (mayErr x.2 (x.1.length / 8 : Nat)))
def flushLA (x : List Nat × Int) : LA := { T := Nat × DevG, F := fun s => frm 41 [(0, .ptr 0 [] 0), (1, i64 x.2), (16, i64 (s.1 : Nat))], H := fun s => [.cells 92 [.sl 2 [] 0 4 0 x.1.length s.2.cap, .nils, i64 0, .bool false, .bool false, i64 s.2.left, i64 s.2.steps], .fence, .row 176 4 s.2.cap x.1.length (fun j => [u64 (s.2.la j), u64 (x.1.getD j 0), u64 (s.2.se j), .bool (s.2.fl j)])] }

theorem devFlushV : (∀ (x : List Nat × Int), DevW x.1 ∧ I64 x.2 → devB x.1 = (devO x.1).ob ∧ ∀ (g : DevG), Exx (DevG × List Nat × Unit) fun x_1 => (((true =
 true ∧ NilNil ∧ (0 : Nat) = 0) ∧ True) ∧ true = true ∧ ((92 : TypeId) = 92 ∧ (true = true ∧ NilNil ∧ (0 : Nat) = 0 ∧ (4 : Nat) = 4 ∧ (0 : Nat) = 0 ∧ x.1.length
 = x_1.2.1.length ∧ g.cap = x_1.1.cap) ∧ Tr 1 (Tr 1 ((0 : Int) = 0) ∧ false = false ∧ false = false ∧ Tr 1 (g.left = x_1.1.left) ∧ Tr 1 (g.steps = x_1.1.steps) ∧
 True)) ∧ ((176 : TypeId) = 176 ∧ (4 : Nat) = 4 ∧ g.cap = x_1.1.cap ∧ x_1.2.1.length ≤ x.1.length ∧ ∀ (i : Nat), i < x_1.2.1.length → [AV.int .u64 (↑(g.la i) :
 Int), AV.int .u64 (↑(x.1.getD i 0) : Int), AV.int .u64 (↑(g.se i) : Int), AV.bool (g.fl i)] = [AV.int .u64 (↑(x_1.1.la i) : Int), AV.int .u64 (↑(x_1.2.1.getD i
 0) : Int), AV.int .u64 (↑(x_1.1.se i) : Int), AV.bool (x_1.1.fl i)]) ∧ True) ∧ (DevW x_1.2.1 ∧ True) ∧ ∀ (y : DevG), y.cap = x_1.1.cap → Exx (DevG × List Nat ×
 Int × Int) fun x_2 => (((true = true ∧ NilNil ∧ (0 : Nat) = 0) ∧ Tr 1 (x.2 = x_2.2.2.1) ∧ Tr 1 ((↑(x_1.2.1.length / 8) : Int) = x_2.2.2.2) ∧ True) ∧ true = true
 ∧ ((92 : TypeId) = 92 ∧ (true = true ∧ NilNil ∧ (0 : Nat) = 0 ∧ (4 : Nat) = 4 ∧ (0 : Nat) = 0 ∧ x_1.2.1.length = x_2.2.1.length ∧ y.cap = x_2.1.cap) ∧ Tr 1 (Tr
 1 ((0 : Int) = 0) ∧ false = false ∧ false = false ∧ Tr 1 (y.left = x_2.1.left) ∧ Tr 1 (y.steps = x_2.1.steps) ∧ True)) ∧ ((176 : TypeId) = 176 ∧ (4 : Nat) = 4 ∧
 y.cap = x_2.1.cap ∧ x_2.2.1.length ≤ x_1.2.1.length ∧ ∀ (i : Nat), i < x_2.2.1.length → [AV.int .u64 (↑(y.la i) : Int), AV.int .u64 (↑(x_1.2.1.getD i 0) : Int),
 AV.int .u64 (↑(y.se i) : Int), AV.bool (y.fl i)] = [AV.int .u64 (↑(x_2.1.la i) : Int), AV.int .u64 (↑(x_2.2.1.getD i 0) : Int), AV.int .u64 (↑(x_2.1.se i) :
 Int), AV.bool (x_2.1.fl i)]) ∧ True) ∧ (DevW x_2.2.1 ∧ I64 x_2.2.2.1 ∧ I64 x_2.2.2.2) ∧ ∀ (y : DevG), y.cap = x_2.1.cap → BC (!decide (mayErr x_2.2.2.1
 x_2.2.2.2 = (0 : Int))) (Exx Unit fun y_1 => Exx DevG fun g => ([0, 2].length = [Item.cells 92 [AV.sl 1 [] 0 4 0 x.1.length g.cap, AV.nils, AV.int .i64 0,
 AV.bool false, AV.bool false, AV.int .i64 g.left, AV.int .i64 g.steps], Item.row 176 4 g.cap x.1.length fun j => [AV.int .u64 (↑(g.la j) : Int), AV.int .u64
 (↑(x.1.getD j 0) : Int), AV.int .u64 (↑(g.se j) : Int), AV.bool (g.fl j)]].length ∧ ((92 : TypeId) = 92 ∧ (true = true ∧ NilNil ∧ (0 : Nat) = 0 ∧ (4 : Nat) = 4
 ∧ (0 : Nat) = 0 ∧ x_2.2.1.length = x.1.length ∧ y.cap = g.cap) ∧ Tr 1 (Tr 1 ((0 : Int) = 0) ∧ false = false ∧ false = false ∧ Tr 1 (y.left = g.left) ∧ Tr 1
 (y.steps = g.steps) ∧ True)) ∧ ((176 : TypeId) = 176 ∧ (4 : Nat) = 4 ∧ y.cap = g.cap ∧ x.1.length ≤ x_2.2.1.length ∧ ∀ (i : Nat), i < x.1.length → [AV.int .u64
 (↑(y.la i) : Int), AV.int .u64 (↑(x_2.2.1.getD i 0) : Int), AV.int .u64 (↑(y.se i) : Int), AV.bool (y.fl i)] = [AV.int .u64 (↑(g.la i) : Int), AV.int .u64
 (↑(x.1.getD i 0) : Int), AV.int .u64 (↑(g.se i) : Int), AV.bool (g.fl i)]) ∧ True) ∧ ((Tr 1 (mayErr x_2.2.2.1 x_2.2.2.2 = mayErr x.2 (↑(x.1.length / 8) : Int))
 ∧ True) ∧ (devO x.1).ob = devB x.1 ∧ true = true ∧ True) ∧ True) (Exx (Nat × DevG → Prop) fun I => Exx (Nat × DevG → Nat) fun m => (Exx (Nat × DevG) fun t => I
 t ∧ ((true = true ∧ NilNil ∧ (0 : Nat) = 0) ∧ Tr 1 (x.2 = x.2) ∧ Tr 14 (Tr 1 ((0 : Int) = (↑t.1 : Int)) ∧ Tr 24 True)) ∧ ((92 : TypeId) = 92 ∧ (true = true ∧
 NilNil ∧ (0 : Nat) = 0 ∧ (4 : Nat) = 4 ∧ (0 : Nat) = 0 ∧ x_2.2.1.length = x.1.length ∧ y.cap = t.2.cap) ∧ Tr 1 (Tr 1 ((0 : Int) = 0) ∧ false = false ∧ false =
 false ∧ Tr 1 (y.left = t.2.left) ∧ Tr 1 (y.steps = t.2.steps) ∧ True)) ∧ true = true ∧ ((176 : TypeId) = 176 ∧ (4 : Nat) = 4 ∧ y.cap = t.2.cap ∧ x.1.length ≤
 x_2.2.1.length ∧ ∀ (i : Nat), i < x.1.length → [AV.int .u64 (↑(y.la i) : Int), AV.int .u64 (↑(x_2.2.1.getD i 0) : Int), AV.int .u64 (↑(y.se i) : Int), AV.bool
 (y.fl i)] = [AV.int .u64 (↑(t.2.la i) : Int), AV.int .u64 (↑(x.1.getD i 0) : Int), AV.int .u64 (↑(t.2.se i) : Int), AV.bool (t.2.fl i)]) ∧ True) ∧ ∀ (t : Nat ×
 DevG), I t → BC (decide ((↑t.1 : Int) < (8 : Int))) (I64 (x.2 * 8) ∧ I64 (x.2 * 8 + (↑t.1 : Int)) ∧ ((0 : Int) ≤ x.2 * 8 + (↑t.1 : Int) ∧ x.2 * 8 + (↑t.1 : Int)
 < (↑x.1.length : Int)) ∧ 0 + (x.2 * 8 + (↑t.1 : Int)).toNat < x.1.length ∧ 0 + (x.2 * 8 + (↑t.1 : Int)).toNat < x.1.length ∧ x.1.length = x.1.length ∧ 0 + (x.2
 * 8 + (↑t.1 : Int)).toNat < x.1.length ∧ x.1.length = x.1.length ∧ I64 ((↑t.1 : Int) + 1) ∧ Exx (Nat × DevG) fun t' => (I t' ∧ m t' < m t) ∧ ((true = true ∧
 NilNil ∧ (0 : Nat) = 0) ∧ Tr 1 (x.2 = x.2) ∧ Tr 14 (Tr 1 ((↑t.1 : Int) + 1 = (↑t'.fst : Int)) ∧ Tr 24 True)) ∧ ((92 : TypeId) = 92 ∧ (true = true ∧ NilNil ∧ (0
 : Nat) = 0 ∧ (4 : Nat) = 4 ∧ (0 : Nat) = 0 ∧ x.1.length = x.1.length ∧ t.2.cap = t'.snd.cap) ∧ Tr 1 (Tr 1 ((0 : Int) = 0) ∧ false = false ∧ false = false ∧ Tr 1
 (t.2.left = t'.snd.left) ∧ Tr 1 (t.2.steps = t'.snd.steps) ∧ True)) ∧ true = true ∧ ((176 : TypeId) = 176 ∧ (4 : Nat) = 4 ∧ t.2.cap = t'.snd.cap ∧ x.1.length ≤
 x.1.length ∧ ∀ (i : Nat), i < x.1.length → [AV.int .u64 (if i = 0 + (x.2 * 8 + (↑t.1 : Int)).toNat then if 0 + (x.2 * 8 + (↑t.1 : Int)).toNat = 0 + (x.2 * 8 +
 (↑t.1 : Int)).toNat then (↑(t.2.la (0 + (x.2 * 8 + (↑t.1 : Int)).toNat)) : Int) else (↑(t.2.la (0 + (x.2 * 8 + (↑t.1 : Int)).toNat)) : Int) else if i = 0 + (x.2
 * 8 + (↑t.1 : Int)).toNat then (↑(t.2.la (0 + (x.2 * 8 + (↑t.1 : Int)).toNat)) : Int) else (↑(t.2.la i) : Int)), AV.int .u64 (if i = 0 + (x.2 * 8 + (↑t.1 :
 Int)).toNat then if 0 + (x.2 * 8 + (↑t.1 : Int)).toNat = 0 + (x.2 * 8 + (↑t.1 : Int)).toNat then (↑(x.1.getD (0 + (x.2 * 8 + (↑t.1 : Int)).toNat) 0) : Int) else
 (↑(x.1.getD (0 + (x.2 * 8 + (↑t.1 : Int)).toNat) 0) : Int) else if i = 0 + (x.2 * 8 + (↑t.1 : Int)).toNat then (↑(x.1.getD (0 + (x.2 * 8 + (↑t.1 : Int)).toNat)
 0) : Int) else (↑(x.1.getD i 0) : Int)), AV.int .u64 (if i = 0 + (x.2 * 8 + (↑t.1 : Int)).toNat then if 0 + (x.2 * 8 + (↑t.1 : Int)).toNat = 0 + (x.2 * 8 +
 (↑t.1 : Int)).toNat then (↑(x.1.getD (0 + (x.2 * 8 + (↑t.1 : Int)).toNat) 0) : Int) else (↑(t.2.se (0 + (x.2 * 8 + (↑t.1 : Int)).toNat)) : Int) else if i = 0 +
 (x.2 * 8 + (↑t.1 : Int)).toNat then (↑(x.1.getD (0 + (x.2 * 8 + (↑t.1 : Int)).toNat) 0) : Int) else (↑(t.2.se i) : Int)), AV.bool (if i = 0 + (x.2 * 8 + (↑t.1 :
 Int)).toNat then true else if i = 0 + (x.2 * 8 + (↑t.1 : Int)).toNat then t.2.fl (0 + (x.2 * 8 + (↑t.1 : Int)).toNat) else t.2.fl i)] = [AV.int .u64
 (↑(t'.snd.la i) : Int), AV.int .u64 (↑(x.1.getD i 0) : Int), AV.int .u64 (↑(t'.snd.se i) : Int), AV.bool (t'.snd.fl i)]) ∧ True) (Exx (DevG × List Nat × Unit)
 fun x_3 => (((true = true ∧ NilNil ∧ (0 : Nat) = 0) ∧ True) ∧ true = true ∧ ((92 : TypeId) = 92 ∧ (true = true ∧ NilNil ∧ (0 : Nat) = 0 ∧ (4 : Nat) = 4 ∧ (0 :
 Nat) = 0 ∧ x.1.length = x_3.2.1.length ∧ t.2.cap = x_3.1.cap) ∧ Tr 1 (Tr 1 ((0 : Int) = 0) ∧ false = false ∧ false = false ∧ Tr 1 (t.2.left = x_3.1.left) ∧ Tr 1
 (t.2.steps = x_3.1.steps) ∧ True)) ∧ ((176 : TypeId) = 176 ∧ (4 : Nat) = 4 ∧ t.2.cap = x_3.1.cap ∧ x_3.2.1.length ≤ x.1.length ∧ ∀ (i : Nat), i < x_3.2.1.length
 → [AV.int .u64 (↑(t.2.la i) : Int), AV.int .u64 (↑(x.1.getD i 0) : Int), AV.int .u64 (↑(t.2.se i) : Int), AV.bool (t.2.fl i)] = [AV.int .u64 (↑(x_3.1.la i) :
 Int), AV.int .u64 (↑(x_3.2.1.getD i 0) : Int), AV.int .u64 (↑(x_3.1.se i) : Int), AV.bool (x_3.1.fl i)]) ∧ True) ∧ (DevW x_3.2.1 ∧ True) ∧ ∀ (y : DevG), y.cap =
 x_3.1.cap → Exx Unit fun y_1 => Exx DevG fun g => ([0, 2].length = [Item.cells 92 [AV.sl 1 [] 0 4 0 x.1.length g.cap, AV.nils, AV.int .i64 0, AV.bool false,
 AV.bool false, AV.int .i64 g.left, AV.int .i64 g.steps], Item.row 176 4 g.cap x.1.length fun j => [AV.int .u64 (↑(g.la j) : Int), AV.int .u64 (↑(x.1.getD j 0) :
 Int), AV.int .u64 (↑(g.se j) : Int), AV.bool (g.fl j)]].length ∧ ((92 : TypeId) = 92 ∧ (true = true ∧ NilNil ∧ (0 : Nat) = 0 ∧ (4 : Nat) = 4 ∧ (0 : Nat) = 0 ∧
 x_3.2.1.length = x.1.length ∧ y.cap = g.cap) ∧ Tr 1 (Tr 1 ((0 : Int) = 0) ∧ false = false ∧ false = false ∧ Tr 1 (y.left = g.left) ∧ Tr 1 (y.steps = g.steps) ∧
 True)) ∧ ((176 : TypeId) = 176 ∧ (4 : Nat) = 4 ∧ y.cap = g.cap ∧ x.1.length ≤ x_3.2.1.length ∧ ∀ (i : Nat), i < x.1.length → [AV.int .u64 (↑(y.la i) : Int),
 AV.int .u64 (↑(x_3.2.1.getD i 0) : Int), AV.int .u64 (↑(y.se i) : Int), AV.bool (y.fl i)] = [AV.int .u64 (↑(g.la i) : Int), AV.int .u64 (↑(x.1.getD i 0) : Int),
 AV.int .u64 (↑(g.se i) : Int), AV.bool (g.fl i)]) ∧ True) ∧ ((Tr 1 ((0 : Int) = mayErr x.2 (↑(x.1.length / 8) : Int)) ∧ True) ∧ (devO x.1).ob = devB x.1 ∧ true
 = true ∧ True) ∧ True))) = (fnVCo tb [(42, specObj (specOf devLinesC) (specOf devLinesOC)), (96, specOf devMayC), (101, specOf devStepC)] Tryd.f100 devFlushC (fun x => { loops := [(5, flushLA x)] }) (fun _ _ _ => none) (fun x => [(0, devO x.1)]) (fun x y av H => [(0, [2], devO x.1)])) := by kernel_rfl 

theorem devFlush_ok : SpecOk Tryd.prog 100 (specOf devFlushC) := by
  refine specOko mixed tb_ok (SPok.cons (specObj_ok devLines_ok devLinesO_ok) (SPok.cons devMay_ok (SPok.cons devStep_ok SPok.nil))) Tryd.func100 (by decide) (devGetC_ok fun _ => rfl) (an := (fun x => { loops := [(5, flushLA x)] })) (σ := (fun _ _ _ => none)) (op := (fun x => [(0, devO x.1)])) (cl := (fun x y av H => [(0, [2], devO x.1)])) ?_
  rw [← devFlushV]
  simp (maxSteps := 10000000) only [and_false, false_and, false_or, or_false, bOf_true, bOf_false, true_bOf, false_bOf, Exx, int_ite, merge_o, Tr_eq, true_and, and_true, exists_const, forall_const, implies_true, forall_eq, exists_eq, exists_eq', exists_eq_left, exists_eq_left', exists_eq_right, Prod.exists, Prod.forall, and_assoc, exists_and_left, BC_iff, Bool.not_eq_true', Bool.not_eq_false', decide_eq_true_eq, decide_eq_false_iff_not, I64, nat_cast_inj, Int.toNat_natCast, nats_iff, nats_iff', ints_iff, ints_iff', natss_iff, natss_iff', nilnil, litL_eq, str_inj, str_append, str_length, str_getD, str_take, lit1_iff, one_iff, two_iff, one_get, Nat.zero_add, Nat.sub_zero, Nat.reduceMul, Nat.reduceDiv, Nat.reduceAdd, Int.reduceToNat, Nat.not_lt_zero, if_false, if_true, Nat.le_refl, List.length_singleton, List.length_cons, List.length_nil, Bool.false_eq_true, not_true_eq_false, false_implies, not_false_eq_true, Prod.mk.injEq, devB_open, devB_close, devB_inj]
  rintro ws a ⟨h, h1, h2⟩ g
  have hlen := h.1
  refine ⟨g, ws, rfl, rfl, rfl, rfl, rfl, Nat.le_refl _, fun _ _ => rfl, h, fun y hy => ⟨y, ws, rfl, rfl, rfl, rfl, rfl, Nat.le_refl _, fun _ _ => rfl, h, h1, h2, by omega, by omega, fun y2 hy2 => ⟨fun hne => ⟨rfl, y2, rfl, rfl, rfl, rfl, Nat.le_refl _, fun _ _ => rfl, rfl⟩, fun hz => ?_⟩⟩⟩
  obtain ⟨h3, h4⟩ : 0 ≤ a ∧ a < ((ws.length / 8 : Nat) : Int) := by
    by_cases k : 0 ≤ a ∧ a < ((ws.length / 8 : Nat) : Int)
    · exact k
    · rw [mayErr, if_neg k] at hz; cases hz
  refine ⟨fun s => s.1 ≤ 8, ⟨0, y2, by simp, rfl, rfl, rfl, rfl, rfl, rfl, Nat.le_refl _, fun _ _ => rfl⟩, fun s => 8 - s.1, ?_⟩
  rintro i z hi
  simp only at hi
  refine ⟨fun hlt => ⟨by omega, by omega, by omega, by omega, by omega, by omega, by omega, by omega, by omega, by omega, by omega, i + 1, { z with se := fun j => if j = (a * 8 + (i : Int)).toNat then ws.getD j 0 else z.se j, fl := fun j => if j = (a * 8 + (i : Int)).toNat then true else z.fl j }, by simp only; omega, by simp only; omega, by omega, rfl, rfl, rfl, rfl, fun j hj => ?_⟩, fun hge => ⟨z, ws, rfl, rfl, rfl, rfl, rfl, Nat.le_refl _, fun _ _ => rfl, h, fun y3 hy3 => ⟨rfl, y3, rfl, rfl, rfl, rfl, Nat.le_refl _, fun _ _ => rfl, hz.symm⟩⟩⟩
  by_cases e : j = (a * 8 + (i : Int)).toNat
  · subst e; simp
  · simp [e]

def tupPtr (av : AV) : Option Ren := match av with
  | .tup (.ptr q _ _ :: _) => some [some 0, some q]
  | _ => none
def devNewI : Ctr2 where
  X := Int
  conv := true
  tau := fun _ _ => []
  pre := I64
  args := fun n => [i64 n]
  heap := fun _ => []
  p := fun n => 0 ≤ n ∧ n ≤ 4096
  a := { Y := Unit, Q := fun _ _ => True, res := fun _ _ => .tup [.ptr 1 [] 0, i64 0], its := fun _ _ => [], new := fun n _ => [devI (List.replicate (8 * n.toNat) 0)] }
  b := { Y := Unit, Q := fun _ _ => True, res := fun _ _ => .tup [.nilp, i64 2], its := fun _ _ => [], new := fun _ _ => [] }

theorem devNewV : (∀ (x : Int), -9223372036854775808 ≤ x ∧ x ≤ (9223372036854775807 : Int) → BC (decide (x < (0 : Int))) ((((0 : Int) ≤ x ∧ x ≤ (4096 : Int)) ∧
 Exx Unit fun y => False) ∨ ¬devNewI.p x ∧ Exx Unit fun y => ((Tr 1 (Tr 1 ((2 : Int) = 2) ∧ True) ∧ True) ∧ true = true ∧ True) ∧ True) (BC (decide ((4096 : Int)
 < x)) ((((0 : Int) ≤ x ∧ x ≤ (4096 : Int)) ∧ Exx Unit fun y => False) ∨ ¬devNewI.p x ∧ Exx Unit fun y => ((Tr 1 (Tr 1 ((2 : Int) = 2) ∧ True) ∧ True) ∧ true =
 true ∧ True) ∧ True) (I64 (x * 8) ∧ ((0 : Int) ≤ x * 8 ∧ x * 8 ≤ x * 8 ∧ (↑32 : Int) * (x * 8) ≤ (281474976710656 : Int) ∧ x * 8 ≤ (9223372036854775807 : Int))
 ∧ ((((0 : Int) ≤ x ∧ x ≤ (4096 : Int)) ∧ Exx Unit fun y => Exx DevG fun g => ([2, 1].length = [Item.cells 92 [AV.sl 1 [] 0 4 0 (List.replicate (8 * x.toNat) (0
 : Nat)).length g.cap, AV.nils, AV.int .i64 0, AV.bool false, AV.bool false, AV.int .i64 g.left, AV.int .i64 g.steps], Item.row 176 4 g.cap (List.replicate (8 *
 x.toNat) (0 : Nat)).length fun j => [AV.int .u64 (↑(g.la j) : Int), AV.int .u64 (↑((List.replicate (8 * x.toNat) (0 : Nat)).getD j 0) : Int), AV.int .u64
 (↑(g.se j) : Int), AV.bool (g.fl j)]].length ∧ ((92 : Nat) = (92 : TypeId) ∧ (true = true ∧ NilNil ∧ (0 : Nat) = 0 ∧ (4 : Nat) = 4 ∧ (0 : Nat) = 0 ∧ (x *
 8).toNat = (List.replicate (8 * x.toNat) (0 : Nat)).length ∧ (x * 8).toNat = g.cap) ∧ Tr 1 (Tr 1 ((0 : Int) = 0) ∧ false = false ∧ false = false ∧ Tr 1 ((0 :
 Int) = g.left) ∧ Tr 1 ((0 : Int) = g.steps) ∧ True)) ∧ ((176 : TypeId) = 176 ∧ (4 : Nat) = 4 ∧ (x * 8).toNat = g.cap ∧ (List.replicate (8 * x.toNat) (0 :
 Nat)).length ≤ (x * 8).toNat ∧ ∀ (i : Nat), i < (List.replicate (8 * x.toNat) (0 : Nat)).length → [AV.int .u64 0, AV.int .u64 0, AV.int .u64 0, AV.bool false] =
 [AV.int .u64 (↑(g.la i) : Int), AV.int .u64 (↑((List.replicate (8 * x.toNat) (0 : Nat)).getD i 0) : Int), AV.int .u64 (↑(g.se i) : Int), AV.bool (g.fl i)]) ∧
 True) ∧ ((((true = true ∧ NilNil ∧ (0 : Nat) = 0) ∧ Tr 1 ((0 : Int) = 0) ∧ True) ∧ True) ∧ true = true ∧ (devO (List.replicate (8 * x.toNat) (0 : Nat))).ob =
 devB (List.replicate (8 * x.toNat) (0 : Nat)) ∧ True) ∧ True) ∨ ¬devNewI.p x ∧ Exx Unit fun y => False ∧ True)))) = (fnVC2 tb [] Tryd.f22 devNewI (fun _ => {}) (fun _ av _ => tupPtr av) (fun _ => []) (fun x y av H => [(2, [1], devO (List.replicate (8 * x.toNat) (0 : Nat)))]) (fun _ _ _ _ => [])) := by kernel_rfl 

theorem devNew_ok : SpecOk Tryd.prog 22 (specIf devNewI) := by
  refine specIfo mixed tb_ok SPok.nil Tryd.func22 (by decide) ⟨fun _ _ _ _ => rfl, fun _ _ _ _ => ⟨rfl, rfl⟩, fun x _ _ _ _ => ⟨⟨trivial, ⟨trivial, trivial⟩⟩, rfl, rfl, trivial⟩⟩ ⟨fun _ _ _ _ => rfl, fun _ _ _ _ => ⟨rfl, rfl⟩, fun x _ _ _ _ => ⟨⟨trivial, trivial⟩, rfl, rfl, trivial⟩⟩ (an := (fun _ => {})) (σ := (fun _ av _ => tupPtr av)) (op := (fun _ => [])) (clA := (fun x y av H => [(2, [1], devO (List.replicate (8 * x.toNat) 0))])) (clB := (fun _ _ _ _ => [])) ?_
  rw [← devNewV]
  simp (maxSteps := 10000000) only [and_false, false_and, false_or, or_false, bOf_true, bOf_false, true_bOf, false_bOf, Exx, int_ite, merge_o, Tr_eq, true_and, and_true, exists_const, forall_const, implies_true, forall_eq, exists_eq, exists_eq', exists_eq_left, exists_eq_left', exists_eq_right, Prod.exists, Prod.forall, and_assoc, exists_and_left, BC_iff, Bool.not_eq_true', Bool.not_eq_false', decide_eq_true_eq, decide_eq_false_iff_not, I64, nat_cast_inj, Int.toNat_natCast, nats_iff, nats_iff', ints_iff, ints_iff', natss_iff, natss_iff', nilnil, litL_eq, str_inj, str_append, str_length, str_getD, str_take, lit1_iff, one_iff, two_iff, one_get, Nat.zero_add, Nat.sub_zero, Nat.reduceMul, Nat.reduceDiv, Nat.reduceAdd, Int.reduceToNat, Nat.not_lt_zero, if_false, if_true, Nat.le_refl, List.length_singleton, List.length_cons, List.length_nil, Bool.false_eq_true, not_true_eq_false, false_implies, not_false_eq_true, Prod.mk.injEq, devB_open, devB_close, devB_inj]
  rintro n ⟨h1, h2⟩
  refine ⟨fun h k => ?_, fun h0 => ⟨fun h k => ?_, fun h3 => ?_⟩⟩
  · have k' : 0 ≤ n ∧ n ≤ 4096 := k
    omega
  · have k' : 0 ≤ n ∧ n ≤ 4096 := k
    omega
  · refine ⟨by omega, by omega, by omega, by omega, by omega, by omega, by omega, by omega, by rw [List.length_replicate]; omega, { la := fun _ => 0, se := fun _ => 0, fl := fun _ => false, cap := (n * 8).toNat, left := 0, steps := 0 }, rfl, rfl, rfl, rfl, by rw [List.length_replicate]; omega, fun i hi => ?_⟩
    rw [getD_replicate]
    simp

end Yard
