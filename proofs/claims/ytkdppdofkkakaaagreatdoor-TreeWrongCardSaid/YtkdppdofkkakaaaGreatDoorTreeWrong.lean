import Derived.Test.YtkdppdofkkakaaaGreatDoorTreeLaw
import Derived.Test.YtkdppdofkkakaaaGreatDoorTwMath

namespace Yard
open Go Go.Sx Go.Proofs
set_option linter.unusedVariables false
set_option linter.unusedSimpArgs false
set_option maxRecDepth 4000
set_option maxHeartbeats 40000000

def treeWrongC : Ctr := pureC (List Int × Nat) (fun x => (∀ k ∈ x.1, I64 k) ∧ x.1.length = 3 ∧ x.2 < 256) (fun x => [.agg [.arr 1 3 (fun i => [i64 (x.1.getD i 0)])], .int .u8 (x.2 : Nat)]) (fun _ => .bool true)
theorem treeWrongV : (
 let q1 : Prop := true = true ∧ NilNil ∧ (0 : Nat) = 0; 
 let q2 : Prop := (146 : TypeId) = 146 ∧ q1 ∧ q1 ∧ True; 
 let q3 : Prop := (71 : TypeId) = 71; 
 let q4 : Prop := (59 : TypeId) = 59; 
 let q5 : Prop := q3 ∧ q1 ∧ q1 ∧ q1 ∧ Tr 1 (twT0.blocks = twT0.blocks) ∧ Tr 1 (twT0.slots = twT0.slots) ∧ Tr 1 (twT0.gens = twT0.gens) ∧ Tr 1 (twT0.top = twT0.top) ∧ Tr 1 (twT0.high = twT0.high) ∧ Tr 1 (twT0.free = twT0.free) ∧ True; 
 let q6 : Prop := (65 : TypeId) = 65; 
 let q7 : Prop := Exx Unit fun y => ((false = true ∧ True) ∧ true = true ∧ True) ∧ True; 
 let q8 : Nat := 3 * 1 / 1; 
 let q9 : Nat := (TI.mk (TK.int IntKind.i64) 1 8 (ZL.cons (Value.int IntKind.i64 0) ZL.nil) false).size; 
 let q10 : Nat := (3, Operand.const (Value.int IntKind.i64 1000)).1 * q9 / q9; 
 let q11 : Nat := 2 * 1 / 1; 
 let q12 : Nat := (2, Operand.const (Value.int IntKind.i64 0)).1 * q9 / q9; 
 let q13 : Nat := 1 * 1 / 1; 
 let q14 : Nat := (1, Operand.tmp 99).1 * q9 / q9; 
 let q15 : Nat := 0 * 1 / 1; 
 let q16 : Nat := (0, Operand.tmp 98).1 * q9 / q9; ∀ (x : List Int × Nat), 
 let q17 : Prop := Tr 1 ((↑x.2 : Int) = (↑x.2 : Int)); 
 let q19 : Prop := (1 : Nat) = 1 ∧ (3 : Nat) = 3 ∧ (∀ (i : Nat), 
 let q18 : List AV := [AV.int .i64 (x.1.getD i 0)]; i < 3 → q18 = q18) ∧ True; 
 let q20 : Prop := q4 ∧ q19; (∀ (k : Int), k ∈ x.1 → I64 k) ∧ x.1.length = 3 ∧ x.2 < 256 → Exx Unit fun x_1 => Tr 1 (true = true ∧ True) ∧ Tr 1 (∀ (y : Unit), True → Exx (Nat × Int) fun x_2 => 
 let q21 : TickT := tick0 (↑x_2.1 : Int) x_2.2 100; 
 let q22 : Int := q21.blocks; 
 let q23 : Int := q21.slots; 
 let q24 : Int := q21.gens; 
 let q25 : Int := q21.top; 
 let q26 : Int := q21.high; 
 let q27 : Int := q21.free; ((Tr 1 ((40 : Int) = (↑x_2.1 : Int)) ∧ Tr 1 ((9 : Int) = x_2.2) ∧ True) ∧ true = true ∧ True) ∧ (x_2.1 ≤ 3072 ∧ I64 x_2.2) ∧ ∀ (y : Unit), True → Exx (MR → Prop) fun I => 
 let q31 : Prop := Exx (StoreT × TickT × Int × Int) fun x_3 => 
 let q28 : MR := mkRes x_3.1 x_3.2.1 x_3.2.2.1 x_3.2.2.2; 
 let q29 : StoreT := q28.s; 
 let q30 : TickT := q28.t; ((q1 ∧ (Tr 1 (q22 = x_3.2.1.blocks) ∧ Tr 1 (q23 = x_3.2.1.slots) ∧ Tr 1 (q24 = x_3.2.1.gens) ∧ Tr 1 (q25 = x_3.2.1.top) ∧ Tr 1 (q26 = x_3.2.1.high) ∧ Tr 1 (q27 = x_3.2.1.free) ∧ True) ∧ Tr 1 (x.1.getD (Int.toNat 0) 0 = x_3.2.2.1) ∧ Tr 1 ((0 : Int) = x_3.2.2.2) ∧ True) ∧ true = true ∧ q2 ∧ devB (madeS x_2.1 0).ws = devB x_3.1.ws ∧ allocB (madeS x_2.1 0).a = allocB x_3.1.a ∧ True) ∧ (StoreW x_3.1 ∧ TickI x_3.2.1 ∧ I64 x_3.2.2.1 ∧ I64 x_3.2.2.2) ∧ ∀ (y : Unit), True → Exx MR fun t => I t ∧ Tr 1 (q17 ∧ q1 ∧ Tr 2 (q1 ∧ q1 ∧ Tr 1 (q28.a = t.a) ∧ Tr 1 (Tr 1 (q28.e = t.e) ∧ Tr 136 True))) ∧ true = true ∧ ((59 : Nat) = (59 : TypeId) ∧ q19) ∧ (q3 ∧ q1 ∧ q1 ∧ q1 ∧ Tr 1 (q22 = twT0.blocks) ∧ Tr 1 (q23 = twT0.slots) ∧ Tr 1 (q24 = twT0.gens) ∧ Tr 1 (q25 = twT0.top) ∧ Tr 1 (q26 = twT0.high) ∧ Tr 1 (q27 = twT0.free) ∧ True) ∧ q2 ∧ devB q29.ws = devB t.s.ws ∧ allocB q29.a = allocB t.s.a ∧ ((65 : Nat) = (65 : TypeId) ∧ Tr 1 (q30.blocks = t.t.blocks) ∧ Tr 1 (q30.slots = t.t.slots) ∧ Tr 1 (q30.gens = t.t.gens) ∧ Tr 1 (q30.top = t.t.top) ∧ Tr 1 (q30.high = t.t.high) ∧ Tr 1 (q30.free = t.t.free) ∧ True) ∧ True; 
 let q32 : Prop := q31 ∧ q31; 
 let q33 : Prop := q32 ∧ q31; 
 let q38 : Prop := ((Exx (StoreT × TickT × Int × Int) fun x_3 => 
 let q34 : MR := mkRes x_3.1 x_3.2.1 x_3.2.2.1 x_3.2.2.2; 
 let q35 : StoreT := q34.s; 
 let q36 : TickT := q34.t; 
 let q37 : Prop := Exx MR fun t => I t ∧ Tr 1 (q17 ∧ q1 ∧ Tr 2 (q1 ∧ q1 ∧ Tr 1 (q34.a = t.a) ∧ Tr 1 (Tr 1 (q34.e = t.e) ∧ Tr 136 True))) ∧ true = true ∧ ((59 : Nat) = (59 : TypeId) ∧ q19) ∧ (q3 ∧ q1 ∧ q1 ∧ q1 ∧ Tr 1 (q22 = twT0.blocks) ∧ Tr 1 (q23 = twT0.slots) ∧ Tr 1 (q24 = twT0.gens) ∧ Tr 1 (q25 = twT0.top) ∧ Tr 1 (q26 = twT0.high) ∧ Tr 1 (q27 = twT0.free) ∧ True) ∧ q2 ∧ devB q35.ws = devB t.s.ws ∧ allocB q35.a = allocB t.s.a ∧ ((65 : Nat) = (65 : TypeId) ∧ Tr 1 (q36.blocks = t.t.blocks) ∧ Tr 1 (q36.slots = t.t.slots) ∧ Tr 1 (q36.gens = t.t.gens) ∧ Tr 1 (q36.top = t.t.top) ∧ Tr 1 (q36.high = t.t.high) ∧ Tr 1 (q36.free = t.t.free) ∧ True) ∧ True; ((q1 ∧ (Tr 1 (q22 = x_3.2.1.blocks) ∧ Tr 1 (q23 = x_3.2.1.slots) ∧ Tr 1 (q24 = x_3.2.1.gens) ∧ Tr 1 (q25 = x_3.2.1.top) ∧ Tr 1 (q26 = x_3.2.1.high) ∧ Tr 1 (q27 = x_3.2.1.free) ∧ True) ∧ Tr 1 (x.1.getD (Int.toNat 0) 0 = x_3.2.2.1) ∧ Tr 1 ((0 : Int) = x_3.2.2.2) ∧ True) ∧ true = true ∧ q2 ∧ devB (madeS x_2.1 0).ws = devB x_3.1.ws ∧ allocB (madeS x_2.1 0).a = allocB x_3.1.a ∧ True) ∧ (StoreW x_3.1 ∧ TickI x_3.2.1 ∧ I64 x_3.2.2.1 ∧ I64 x_3.2.2.2) ∧ ∀ (y : Unit), True → q37 ∧ q37) ∧ q32 ∧ q32) ∧ q33 ∧ q33; 
 let q39 : Prop := q33 ∧ q33 ∧ q32; (((0 : Int) ≤ (0 : Int) ∧ (0 : Int) < (↑(3 : Nat) : Int)) ∧ (0 : Int).toNat < (3 : Nat) ∧ q38 ∧ q38 ∧ q39 ∧ q39) ∧ ∀ (t : MR), I t → Exx (MR × MR → Prop) fun I => 
 let q43 : Prop := Exx (StoreT × TickT × Int × Int) fun x_3 => 
 let q40 : MR := mkRes x_3.1 x_3.2.1 x_3.2.2.1 x_3.2.2.2; 
 let q41 : StoreT := q40.s; 
 let q42 : TickT := q40.t; ((q1 ∧ (Tr 1 (t.t.blocks = x_3.2.1.blocks) ∧ Tr 1 (t.t.slots = x_3.2.1.slots) ∧ Tr 1 (t.t.gens = x_3.2.1.gens) ∧ Tr 1 (t.t.top = x_3.2.1.top) ∧ Tr 1 (t.t.high = x_3.2.1.high) ∧ Tr 1 (t.t.free = x_3.2.1.free) ∧ True) ∧ Tr 1 (x.1.getD (Int.toNat 1) 0 = x_3.2.2.1) ∧ Tr 1 ((0 : Int) = x_3.2.2.2) ∧ True) ∧ true = true ∧ q2 ∧ devB t.s.ws = devB x_3.1.ws ∧ allocB t.s.a = allocB x_3.1.a ∧ True) ∧ (StoreW x_3.1 ∧ TickI x_3.2.1 ∧ I64 x_3.2.2.1 ∧ I64 x_3.2.2.2) ∧ ∀ (y : Unit), True → Exx (MR × MR) fun t_1 => I t_1 ∧ Tr 1 (q17 ∧ q1 ∧ Tr 2 (q1 ∧ q1 ∧ Tr 1 (t.a = t_1.1.a) ∧ Tr 1 (Tr 1 (t.e = t_1.1.e) ∧ Tr 1 (q40.a = t_1.2.a) ∧ Tr 1 (Tr 1 (q40.e = t_1.2.e) ∧ Tr 133 True)))) ∧ true = true ∧ q20 ∧ q5 ∧ q2 ∧ devB q41.ws = devB t_1.2.s.ws ∧ allocB q41.a = allocB t_1.2.s.a ∧ (q6 ∧ Tr 1 (q42.blocks = t_1.2.t.blocks) ∧ Tr 1 (q42.slots = t_1.2.t.slots) ∧ Tr 1 (q42.gens = t_1.2.t.gens) ∧ Tr 1 (q42.top = t_1.2.t.top) ∧ Tr 1 (q42.high = t_1.2.t.high) ∧ Tr 1 (q42.free = t_1.2.t.free) ∧ True) ∧ True; 
 let q44 : Prop := q43 ∧ q43; 
 let q45 : Prop := q44 ∧ q43; (((0 : Int) ≤ (1 : Int) ∧ (1 : Int) < (↑(3 : Nat) : Int)) ∧ (1 : Int).toNat < (3 : Nat) ∧ q45 ∧ q45 ∧ q44) ∧ ∀ (t : MR × MR), I t → Exx (MR × MR × MR → Prop) fun I => 
 let q49 : Prop := Exx (StoreT × TickT × Int × Int) fun x_3 => 
 let q46 : MR := mkRes x_3.1 x_3.2.1 x_3.2.2.1 x_3.2.2.2; 
 let q47 : StoreT := q46.s; 
 let q48 : TickT := q46.t; ((q1 ∧ (Tr 1 (t.2.t.blocks = x_3.2.1.blocks) ∧ Tr 1 (t.2.t.slots = x_3.2.1.slots) ∧ Tr 1 (t.2.t.gens = x_3.2.1.gens) ∧ Tr 1 (t.2.t.top = x_3.2.1.top) ∧ Tr 1 (t.2.t.high = x_3.2.1.high) ∧ Tr 1 (t.2.t.free = x_3.2.1.free) ∧ True) ∧ Tr 1 (x.1.getD (Int.toNat 2) 0 = x_3.2.2.1) ∧ Tr 1 ((0 : Int) = x_3.2.2.2) ∧ True) ∧ true = true ∧ q2 ∧ devB t.2.s.ws = devB x_3.1.ws ∧ allocB t.2.s.a = allocB x_3.1.a ∧ True) ∧ (StoreW x_3.1 ∧ TickI x_3.2.1 ∧ I64 x_3.2.2.1 ∧ I64 x_3.2.2.2) ∧ ∀ (y : Unit), True → Exx (MR × MR × MR) fun t_1 => I t_1 ∧ Tr 1 (q17 ∧ Tr 3 (q1 ∧ q1 ∧ Tr 1 (t.1.a = t_1.1.a) ∧ Tr 1 (Tr 1 (t.1.e = t_1.1.e) ∧ Tr 1 (t.2.a = t_1.2.1.a) ∧ Tr 1 (Tr 1 (t.2.e = t_1.2.1.e) ∧ Tr 1 (q46.a = t_1.2.2.a) ∧ Tr 1 (Tr 1 (q46.e = t_1.2.2.e) ∧ Tr 130 True))))) ∧ true = true ∧ q20 ∧ q5 ∧ q2 ∧ devB q47.ws = devB t_1.2.2.s.ws ∧ allocB q47.a = allocB t_1.2.2.s.a ∧ (q6 ∧ Tr 1 (q48.blocks = t_1.2.2.t.blocks) ∧ Tr 1 (q48.slots = t_1.2.2.t.slots) ∧ Tr 1 (q48.gens = t_1.2.2.t.gens) ∧ Tr 1 (q48.top = t_1.2.2.t.top) ∧ Tr 1 (q48.high = t_1.2.2.t.high) ∧ Tr 1 (q48.free = t_1.2.2.t.free) ∧ True) ∧ True; 
 let q50 : Prop := q49 ∧ q49; 
 let q51 : Prop := q50 ∧ q49; (((0 : Int) ≤ (2 : Int) ∧ (2 : Int) < (↑(3 : Nat) : Int)) ∧ (2 : Int).toNat < (3 : Nat) ∧ q51 ∧ q51 ∧ q50) ∧ ∀ (t : MR × MR × MR), I t → Exx (MR × MR × MR × TR → Prop) fun I => 
 let q55 : Prop := Exx (StoreT × TickT × Int × Int) fun x => 
 let q52 : TR := lkRes x.1 x.2.1 x.2.2.1 x.2.2.2; 
 let q53 : StoreT := q52.s; 
 let q54 : TickT := q52.t; ((q1 ∧ (Tr 1 (t.2.2.t.blocks = x.2.1.blocks) ∧ Tr 1 (t.2.2.t.slots = x.2.1.slots) ∧ Tr 1 (t.2.2.t.gens = x.2.1.gens) ∧ Tr 1 (t.2.2.t.top = x.2.1.top) ∧ Tr 1 (t.2.2.t.high = x.2.1.high) ∧ Tr 1 (t.2.2.t.free = x.2.1.free) ∧ True) ∧ Tr 1 (t.1.a = x.2.2.1) ∧ Tr 1 (t.2.1.a = x.2.2.2) ∧ True) ∧ true = true ∧ q2 ∧ devB t.2.2.s.ws = devB x.1.ws ∧ allocB t.2.2.s.a = allocB x.1.a ∧ True) ∧ (StoreW x.1 ∧ TickI x.2.1 ∧ I64 x.2.2.1 ∧ I64 x.2.2.2) ∧ ∀ (y : Unit), True → Exx (MR × MR × MR × TR) fun t_1 => I t_1 ∧ Tr 1 (q17 ∧ Tr 3 (q1 ∧ q1 ∧ Tr 2 (Tr 1 (t.1.e = t_1.1.e) ∧ Tr 2 (Tr 1 (t.2.1.e = t_1.2.1.e) ∧ Tr 1 (t.2.2.a = t_1.2.2.1.a) ∧ Tr 1 (Tr 1 (t.2.2.e = t_1.2.2.1.e) ∧ Tr 1 (q52.a = t_1.2.2.2.a) ∧ Tr 1 (q52.e = t_1.2.2.2.e) ∧ Tr 128 True))))) ∧ true = true ∧ q20 ∧ q5 ∧ q2 ∧ devB q53.ws = devB t_1.2.2.2.s.ws ∧ allocB q53.a = allocB t_1.2.2.2.s.a ∧ (q6 ∧ Tr 1 (q54.blocks = t_1.2.2.2.t.blocks) ∧ Tr 1 (q54.slots = t_1.2.2.2.t.slots) ∧ Tr 1 (q54.gens = t_1.2.2.2.t.gens) ∧ Tr 1 (q54.top = t_1.2.2.2.t.top) ∧ Tr 1 (q54.high = t_1.2.2.2.t.high) ∧ Tr 1 (q54.free = t_1.2.2.2.t.free) ∧ True) ∧ True; (q55 ∧ q55) ∧ ∀ (t : MR × MR × MR × TR), I t → BC (!decide (t.1.e = (0 : Int))) q7 (BC (!decide (t.2.1.e = (0 : Int))) q7 (BC (!decide (t.2.2.1.e = (0 : Int))) q7 (BC (!decide (t.2.2.2.e = (0 : Int))) q7 (Exx ((Int × Int) × TR → Prop) fun I => ((4 : Int) ≠ (0 : Int) ∧ ∀ (n : Int), 
 let q56 : Nat := 0 + n.toNat; n = (↑x.2 : Int).tmod 4 → ((0 : Int) ≤ n ∧ n < (↑(4 : Nat) : Int)) ∧ q56 < 4 ∧ (4 : Int) ≠ (0 : Int) ∧ ∀ (n : Int), n = IntKind.u8.wrap ((↑x.2 : Int).tdiv 4) → (4 : Int) ≠ (0 : Int) ∧ ∀ (n_1 : Int), 
 let q57 : Nat := 0 + n_1.toNat; n_1 = n.tmod 4 → ((0 : Int) ≤ n_1 ∧ n_1 < (↑(4 : Nat) : Int)) ∧ q57 < 4 ∧ Exx ((Int × Int) × TR) fun t_1 => I t_1 ∧ Tr 5 (q1 ∧ q1 ∧ Tr 12 (Tr 1 ((if q56 = q8 then 1000 else if q56 = q11 then 0 else if q56 = q13 then t.2.2.1.a else if q56 = q15 then t.2.2.2.a else 0) = t_1.1.1) ∧ Tr 1 ((if q57 = q8 then 1000 else if q57 = q11 then 0 else if q57 = q13 then t.2.2.1.a else if q57 = q15 then t.2.2.2.a else 0) = t_1.1.2) ∧ Tr 125 True)) ∧ true = true ∧ q20 ∧ q5 ∧ q2 ∧ devB t.2.2.2.s.ws = devB t_1.2.s.ws ∧ allocB t.2.2.2.s.a = allocB t_1.2.s.a ∧ (q6 ∧ Tr 1 (t.2.2.2.t.blocks = t_1.2.t.blocks) ∧ Tr 1 (t.2.2.2.t.slots = t_1.2.t.slots) ∧ Tr 1 (t.2.2.2.t.gens = t_1.2.t.gens) ∧ Tr 1 (t.2.2.2.t.top = t_1.2.t.top) ∧ Tr 1 (t.2.2.2.t.high = t_1.2.t.high) ∧ Tr 1 (t.2.2.2.t.free = t_1.2.t.free) ∧ True) ∧ True) ∧ ∀ (t : (Int × Int) × TR), I t → Exx ((Int × Int) × TR → Prop) fun I => 
 let q61 : Prop := Exx (StoreT × TickT × Int × Int) fun x => 
 let q58 : TR := lkRes x.1 x.2.1 x.2.2.1 x.2.2.2; 
 let q59 : StoreT := q58.s; 
 let q60 : TickT := q58.t; ((q1 ∧ (Tr 1 (t.2.t.blocks = x.2.1.blocks) ∧ Tr 1 (t.2.t.slots = x.2.1.slots) ∧ Tr 1 (t.2.t.gens = x.2.1.gens) ∧ Tr 1 (t.2.t.top = x.2.1.top) ∧ Tr 1 (t.2.t.high = x.2.1.high) ∧ Tr 1 (t.2.t.free = x.2.1.free) ∧ True) ∧ Tr 1 (t.1.1 = x.2.2.1) ∧ Tr 1 (t.1.2 = x.2.2.2) ∧ True) ∧ true = true ∧ q2 ∧ devB t.2.s.ws = devB x.1.ws ∧ allocB t.2.s.a = allocB x.1.a ∧ True) ∧ (StoreW x.1 ∧ TickI x.2.1 ∧ I64 x.2.2.1 ∧ I64 x.2.2.2) ∧ ∀ (y : Unit), True → Exx ((Int × Int) × TR) fun t_1 => I t_1 ∧ Tr 19 (Tr 1 (t.1.1 = t_1.1.1) ∧ Tr 1 (t.1.2 = t_1.1.2) ∧ q1 ∧ Tr 1 (q58.a = t_1.2.a) ∧ Tr 1 (q58.e = t_1.2.e) ∧ Tr 122 True) ∧ true = true ∧ q20 ∧ q5 ∧ q2 ∧ devB q59.ws = devB t_1.2.s.ws ∧ allocB q59.a = allocB t_1.2.s.a ∧ ((65 : Nat) = (65 : TypeId) ∧ Tr 1 (q60.blocks = t_1.2.t.blocks) ∧ Tr 1 (q60.slots = t_1.2.t.slots) ∧ Tr 1 (q60.gens = t_1.2.t.gens) ∧ Tr 1 (q60.top = t_1.2.t.top) ∧ Tr 1 (q60.high = t_1.2.t.high) ∧ Tr 1 (q60.free = t_1.2.t.free) ∧ True) ∧ True; 
 let q62 : Prop := q61 ∧ q61; 
 let q63 : Prop := q62 ∧ q61; (q63 ∧ q63 ∧ q62) ∧ ∀ (t : (Int × Int) × TR), 
 let q64 : Prop := BC (decide (t.2.a = (0 : Int))) ((Tr 3 True ∧ Tr 3 True) ∧ (Tr 3 True ∧ Tr 3 True) ∧ ∀ (b : Bool), (b = true ↔ (t.2.t.blocks = (0 : Int) ∧ t.2.t.slots = (0 : Int) ∧ t.2.t.gens = (0 : Int) ∧ True) ∧ t.2.t.top = (0 : Int) ∧ t.2.t.high = (0 : Int) ∧ t.2.t.free = (0 : Int) ∧ True) → Exx Unit fun y => ((b = true ∧ True) ∧ true = true ∧ True) ∧ True) q7; 
 let q65 : Prop := BC (decide (t.2.e = (31 : Int))) q64 q7; 
 let q66 : Prop := BC (decide (t.2.e = (2 : Int))) q64 q7; I t → BC (decide (t.1.1 = (0 : Int))) q65 (BC (decide (t.1.2 = (0 : Int))) (BC (!decide (t.1.1 = (1000 : Int))) q65 q66) q66))))))) = (fnVC tb [(23, specOf awake22C), (24, specOf stoodC), (25, specOf treeMakeC), (26, specOf treeLinkC)] Tryz.f4 treeWrongC (fun x => { loose := [(6, [2, 3, 4, 5, 6, 7]), (7, [2, 3, 4, 5, 6, 7]), (8, [2, 3, 4, 5, 6, 7]), (9, [2, 3, 4, 5, 6, 7]), (14, [2, 3, 4, 5, 6, 7])], joins := [(7, twJ7 x), (8, twJ8 x), (9, twJ9 x), (10, twJ10 x), (14, twJ14 x), (15, twJ15 x)] }) (fun _ => none)) := by kernel_rfl 

theorem treeWrong_ok : SpecOk Tryz.prog 4 (specOf treeWrongC) := by
  refine specOk mixed tb_ok (SPok.cons awake22_ok (SPok.cons stood_ok (SPok.cons treeMake_ok (SPok.cons treeLink_ok SPok.nil)))) Tryz.func4 (by decide) (pureC_ok fun _ => rfl) (Eq.mp treeWrongV ?_)
  simp (maxSteps := 10000000) only [std, stdU, stdV, Exx, I64, Nat.reduceMul, Nat.reduceDiv, Nat.reduceAdd, Int.reduceToNat, ↓and_self, and_self, and_self_left, and_self_right, devB_inj, allocB_inj, setB_inj, tick_ex, store_ex, hand_ex, tick_eta, store_eta, hand_eta]
  rintro keys which ⟨hk, hl, hw⟩
  have hk' : ∀ i, I64 (keys.getD i 0) := fun i => getD_mem (p := I64) hk I64_0 i
  have k0 := hk' 0
  have k1 := hk' 1
  have k2 := hk' 2
  have I0 : NInv (madeS 40 0) twT0 desk0 [] := ninv_made (by omega) (by omega) ⟨by omega, by omega, by omega, by omega, by omega, by omega⟩
  have m1 : (which : Int).tmod 4 = ((which % 4 : Nat) : Int) := rfl
  have m2 : (IntKind.u8.wrap ((which : Int).tdiv 4)).tmod 4 = ((which / 4 % 4 : Nat) : Int) := by
    rw [show (which : Int).tdiv 4 = ((which / 4 : Nat) : Int) from rfl, wrap_nat (k := .u8) rfl (Nat.lt_of_le_of_lt (Nat.div_le_self which 4) hw)]; rfl
  have l1 : which % 4 < 4 := Nat.mod_lt _ (by decide)
  have l2 : which / 4 % 4 < 4 := Nat.mod_lt _ (by decide)
  refine ⟨40, rfl, by omega, by omega, by omega, by omega, by omega, by omega, I0.W, I0.tI, k0.1, k0.2, by omega, by omega, fun t => Tw1 (keys.getD 0 0) t, ⟨mkRes (madeS 40 0) twT0 (keys.getD 0 0) 0, tw_m1 k0, ?_⟩, fun p P => ?_⟩
  · rw [twT0]; simp only [and_self]
  refine ⟨by omega, by omega, by omega, P.inv.W, P.inv.tI, k1.1, k1.2, by omega, by omega, fun t => Tw1 (keys.getD 0 0) t.1 ∧ Tw2 (keys.getD 1 0) t.1 t.2, ⟨p, mkRes p.s p.t (keys.getD 1 0) 0, ⟨P, tw_m2 P k1⟩, ?_⟩, fun p q ⟨P, Q⟩ => ?_⟩
  · simp only [and_self]
  simp only at P Q
  refine ⟨by omega, by omega, by omega, Q.inv.W, Q.inv.tI, k2.1, k2.2, by omega, by omega, fun t => Tw1 (keys.getD 0 0) t.1 ∧ Tw2 (keys.getD 1 0) t.1 t.2.1 ∧ Tw3 (keys.getD 2 0) t.1 t.2.1 t.2.2, ⟨p, q, mkRes q.s q.t (keys.getD 2 0) 0, ⟨P, Q, tw_m3 P Q k2⟩, ?_⟩, fun p q r ⟨P, Q, R⟩ => ?_⟩
  · simp only [and_self]
  simp only at P Q R
  have A := tw_ok P Q R
  refine ⟨R.inv.W, R.inv.tI, A.i1.1, A.i1.2, A.i2.1, A.i2.2, fun t => t.1.e = 0 ∧ t.2.1.e = 0 ∧ t.2.2.1.e = 0 ∧ TwOk t.1 t.2.1 t.2.2.1 t.2.2.2, ⟨p, q, r, lkRes r.s r.t p.a q.a, ⟨P.e, Q.e, R.e, A⟩, ?_⟩, fun p q r z ⟨e1, e2, e3, A⟩ => ?_⟩
  · simp only [and_self]
  simp only at e1 e2 e3 A
  simp only [m1, m2, Int.toNat_natCast]
  refine ⟨fun h => h e1, fun _ => ⟨fun h => h e2, fun _ => ⟨fun h => h e3, fun _ => ⟨fun h => h A.e4, fun _ => ⟨by decide, Int.natCast_nonneg _, Int.ofNat_lt.2 l1, l1, by decide, Int.natCast_nonneg _, Int.ofNat_lt.2 l2, l2,
    fun t => (t.1.1 = z.a ∨ t.1.1 = r.a ∨ t.1.1 = 0 ∨ t.1.1 = 1000) ∧ (t.1.2 = z.a ∨ t.1.2 = r.a ∨ t.1.2 = 0 ∨ t.1.2 = 1000) ∧ t.2 = z, ⟨(if which % 4 = 3 then (1000 : Int) else if which % 4 = 2 then 0 else if which % 4 = 1 then r.a else if which % 4 = 0 then z.a else 0), (if which / 4 % 4 = 3 then (1000 : Int) else if which / 4 % 4 = 2 then 0 else if which / 4 % 4 = 1 then r.a else if which / 4 % 4 = 0 then z.a else 0), z, ⟨tw_pick _ _ _, tw_pick _ _ _, rfl⟩, ?_⟩, fun i k z' hik => ?_⟩⟩⟩⟩⟩
  · simp only [and_self]
  obtain ⟨hi, hk2, hz⟩ := hik
  simp only at hi hk2 hz
  subst hz
  have B := A.bad i k hi hk2
  have Ii := tw_I A.i4 A.i3 hi
  have Ik := tw_I A.i4 A.i3 hk2
  refine ⟨A.w4, A.t4, Ii.1, Ii.2, Ik.1, Ik.2, fun t => t.2.a = 0 ∧ t.2.t = tickZ ∧ t.2.e = if t.1.1 = 0 ∨ (t.1.2 = 0 ∧ t.1.1 ≠ 1000) then 31 else 2, ⟨i, k, lkRes z'.s z'.t i k, ⟨?_, ?_, ?_⟩, ?_⟩, fun a b w h => ?_⟩
  · simp only [B]
  · simp only [B]
  · simp only [B]
  · simp only [and_self]
  · obtain ⟨h5, h6, h1⟩ := h
    simp only at h5 h6 h1
    rw [h5, h6, h1]
    have fz : ∀ bb : Bool, (bb = true ↔ tickZ.blocks = 0 ∧ tickZ.slots = 0 ∧ tickZ.gens = 0 ∧ tickZ.top = 0 ∧ tickZ.high = 0 ∧ tickZ.free = 0) → bb = true := fun bb h => h.2 ⟨rfl, rfl, rfl, rfl, rfl, rfl⟩
    exact ⟨fun e => ⟨fun _ => ⟨fun _ => fz, fun h => h rfl⟩, fun h => h (if_pos (.inl e))⟩, fun ne => ⟨fun eb => ⟨fun n9 => ⟨fun _ => ⟨fun _ => fz, fun h => h rfl⟩, fun h => h (if_pos (.inr ⟨eb, n9⟩))⟩, fun e9 => ⟨fun _ => ⟨fun _ => fz, fun h => h rfl⟩, fun h => h (if_neg (fun q => q.elim ne fun q => q.2 e9))⟩⟩, fun neb => ⟨fun _ => ⟨fun _ => fz, fun h => h rfl⟩, fun h => h (if_neg (fun q => q.elim ne fun q => neb q.1))⟩⟩⟩

end Yard
