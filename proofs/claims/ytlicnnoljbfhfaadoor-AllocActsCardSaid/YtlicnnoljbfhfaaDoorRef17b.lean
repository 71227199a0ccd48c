import Derived.Test.YtlicnnoljbfhfaaDoorChart2
import Derived.Test.YtlicnnoljbfhfaaDoorRef17

namespace Yard
open Go Go.Sx Go.Proofs
set_option linter.unusedVariables false
set_option linter.unusedSimpArgs false
set_option maxRecDepth 4000

def refListP (p : Int) (f : Nat → Nat) (i k : Nat) : List Int := chartP p f (8 * i + k)
def refListC : Ctr := rowIC (Int × (Nat → Nat)) ChartW (fun x => [chartA x.1 x.2]) 3 .i64 (fun x => chartL x.1 x.2) (fun _ r => r)
def refListLA (x : Int × (Nat → Nat)) : LA := { T := Nat × Nat × List Int, F := fun s => frm 41 [(1, .ptr 1 [] 0), (3, .sl 2 [] 0 1 0 s.2.2.length s.2.1), (4, i64 (s.1 : Nat))], H := fun s => [.fence, .cells 99999 (chartV x.1 x.2), rowI 3 .i64 s.2.1 s.2.2] }
def refListLB (x : Int × (Nat → Nat)) : LA := { T := Nat × Nat × Nat × Nat × List Int, F := fun s => frm 41 [(1, .ptr 1 [] 0), (3, .sl 2 [] 0 1 0 s.2.2.2.2.length s.2.2.2.1), (4, i64 (s.1 : Nat)), (5, i64 (s.2.2.1 : Nat)), (6, i64 (s.2.1 : Nat))], H := fun s => [.fence, .cells 99999 (chartV x.1 x.2), rowI 3 .i64 s.2.2.2.1 s.2.2.2.2] }

theorem clr_or (w r : Nat) : clr w r ||| 2 ^ r = w ||| 2 ^ r := by
  apply Nat.eq_of_testBit_eq
  intro i
  rw [Nat.testBit_or, Nat.testBit_or, clr_bit, Nat.testBit_two_pow]
  cases w.testBit i <;> cases decide (r = i) <;> rfl

def madeF (p : Nat) (l : List Int) (k : Nat) : Nat := chartF (addL (384 * p + 384) 0 l) p k
def madeC : Ctr := pureC (Nat × List Int) (fun x => x.1 ≤ 1000 ∧ IntL x.2) (fun x => [i64 (x.1 : Nat), intA x.2]) (fun x => chartA (x.1 : Nat) (madeF x.1 x.2))
def madeLA (x : Nat × List Int) : LA := { T := Nat, F := fun i => frm 54 [(0, i64 (x.1 : Nat)), (1, intA x.2), (4, .ptr 1 [] 0), (5, .ptr 2 [] 0), (6, i64 (i : Nat))], H := fun i => [.fence, .cells 99999 [i64 0, .arr 1 48 (fun _ => [.int .u8 0])], .cells 99999 (chartV (x.1 : Nat) (madeF x.1 (x.2.take i)))] }

def refBelowC : Ctr := pureC (List Int × Int) (fun x => IntL x.1 ∧ I64 x.2) (fun x => [intA x.1, i64 x.2]) (fun x => .bool (x.1.all fun a => decide (a < x.2)))
def refBelowLA (x : List Int × Int) : LA := { T := Nat, F := fun i => frm 18 [(0, intA x.1), (1, i64 x.2), (5, i64 (i : Nat))], H := fun _ => [.fence] }

def refGapG (l : List Int) (n : Int) : Nat → Int → Int
  | 0, _ => -1
  | k + 1, a => if a < n then if a ∈ l then refGapG l n k (a + 1) else a else -1
def refGapI (l : List Int) (n a : Int) : Int := refGapG l n (n.toNat + 1) (max a 0)
def refGapC : Ctr := pureC (List Int × Int × Int) (fun x => IntL x.1 ∧ I64 x.2.1 ∧ x.2.1 ≤ 3072 ∧ I64 x.2.2) (fun x => [intA x.1, i64 x.2.1, i64 x.2.2]) (fun x => i64 (refGapI x.1 x.2.1 x.2.2))
def refGapLA (x : List Int × Int × Int) : LA := { T := Int, F := fun a => frm 21 [(0, intA x.1), (1, i64 x.2.1), (7, i64 a)], H := fun _ => [.fence] }

def refWithoutC : Ctr := rowIC (List Int × List Int) (fun x => Ints x.1 ∧ IntL x.2) (fun x => [intA x.1, intA x.2]) 3 .i64 (fun x => x.1.filter fun y => !decide (y ∈ x.2)) (fun _ r => r)
def refWithoutLA (x : List Int × List Int) : LA := { T := Nat × Nat × List Int, F := fun s => frm 28 [(0, intA x.1), (1, intA x.2), (5, .sl 1 [] 0 1 0 s.2.2.length s.2.1), (6, i64 (s.1 : Nat))], H := fun s => [.fence, rowI 3 .i64 s.2.1 s.2.2] }

end Yard
