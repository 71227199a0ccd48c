import Derived.Test.YtkdppdofkkakaaaGreatDoorTreeLaw
import Derived.Test.YtkdppdofkkakaaaGreatDoorTtMath
import Derived.Test.YtkdppdofkkakaaaGreatDoorRefList

namespace Yard
open Go Go.Sx Go.Proofs
set_option linter.unusedVariables false
set_option linter.unusedSimpArgs false
set_option maxRecDepth 4000
set_option maxHeartbeats 4000000

def treeTurnsC : Ctr := pureC TtX (fun x => ((∀ k ∈ x.1, I64 k) ∧ x.1.length = 2) ∧ KidsI x.2.1) (fun x => [.agg [.arr 1 2 (fun i => [i64 (x.1.getD i 0)])], kidsA x.2.1, .bool x.2.2]) (fun _ => .bool true)
theorem treeTurnsV : (
 let q1 : Prop := Exx Unit fun y => ((true = true ∧ True) ∧ true = true ∧ True) ∧ True; 
 let q2 : Prop := true = true ∧ NilNil ∧ (0 : Nat) = 0; 
 let q3 : Prop := q2 ∧ True; 
 let q4 : Prop := (146 : TypeId) = 146 ∧ q2 ∧ q3; 
 let q5 : Prop := (71 : TypeId) = 71; 
 let q6 : Prop := Exx Unit fun y => ((false = true ∧ True) ∧ true = true ∧ True) ∧ True; 
 let q7 : Prop := q2 ∧ Tr 155 True; 
 let q8 : Prop := (75 : TypeId) = 75; 
 let q9 : Prop := q5 ∧ q2 ∧ q2 ∧ q2 ∧ Tr 1 (ttT0.blocks = ttT0.blocks) ∧ Tr 1 (ttT0.slots = ttT0.slots) ∧ Tr 1 (ttT0.gens = ttT0.gens) ∧ Tr 1 (ttT0.top = ttT0.top) ∧ Tr 1 (ttT0.high = ttT0.high) ∧ Tr 1 (ttT0.free = ttT0.free) ∧ True; 
 let q10 : Prop := (65 : TypeId) = 65; 
 let q11 : Prop := (67 : TypeId) = 67; ∀ (x : List Int × List Int × Bool), 
 let q12 : Int := (↑x.2.1.length : Int); 
 let q14 : Prop := (1 : Nat) = 1 ∧ x.2.1.length = x.2.1.length ∧ ∀ (i : Nat), 
 let q13 : List AV := [AV.int .i64 (x.2.1.getD i 0)]; i < x.2.1.length → q13 = q13; 
 let q15 : Prop := x.2.2 = x.2.2; 
 let q16 : Int := x.1.getD 0 0; 
 let q17 : Int := x.1.getD 1 0; 
 let q19 : Prop := (1 : Nat) = 1 ∧ (2 : Nat) = 2 ∧ (∀ (i : Nat), 
 let q18 : List AV := [AV.int .i64 (x.1.getD i 0)]; i < 2 → q18 = q18) ∧ True; 
 let q20 : Prop := Tr 1 (q16 = q16); 
 let q21 : Prop := Tr 1 (q17 = q17); 
 let q22 : Prop := q8 ∧ q19; ((∀ (k : Int), k ∈ x.1 → I64 k) ∧ x.1.length = 2) ∧ KidsI x.2.1 → ((0 : Int) ≤ (0 : Int) ∧ (0 : Int) < (↑(2 : Nat) : Int)) ∧ (0 : Int).toNat < (2 : Nat) ∧ ((0 : Int) ≤ (1 : Int) ∧ (1 : Int) < (↑(2 : Nat) : Int)) ∧ (1 : Int).toNat < (2 : Nat) ∧ Exx Unit fun x_1 => Tr 1 (true = true ∧ True) ∧ Tr 1 (∀ (y : Unit), True → BC (decide ((60 : Int) < q12)) (Exx Unit fun x => Tr 1 (true = true ∧ True) ∧ Tr 1 (∀ (y : Unit), True → q1)) (Exx (Nat × Int) fun x_2 => 
 let q23 : TickT := tick0 (↑x_2.1 : Int) x_2.2 100; 
 let q24 : Int := q23.blocks; 
 let q25 : Int := q23.slots; 
 let q26 : Int := q23.gens; 
 let q27 : Int := q23.top; 
 let q28 : Int := q23.high; 
 let q29 : Int := q23.free; ((Tr 1 ((30 : Int) = (↑x_2.1 : Int)) ∧ Tr 1 ((9 : Int) = x_2.2) ∧ True) ∧ true = true ∧ True) ∧ (x_2.1 ≤ 3072 ∧ I64 x_2.2) ∧ ∀ (y : Unit), True → Exx (MR → Prop) fun I => 
 let q34 : Prop := Exx (StoreT × TickT × Int × Int) fun x_3 => 
 let q30 : MR := mkRes x_3.1 x_3.2.1 x_3.2.2.1 x_3.2.2.2; 
 let q31 : StoreT := q30.s; 
 let q32 : TickT := q30.t; 
 let q33 : HandT := q30.h; ((q2 ∧ (Tr 1 (q24 = x_3.2.1.blocks) ∧ Tr 1 (q25 = x_3.2.1.slots) ∧ Tr 1 (q26 = x_3.2.1.gens) ∧ Tr 1 (q27 = x_3.2.1.top) ∧ Tr 1 (q28 = x_3.2.1.high) ∧ Tr 1 (q29 = x_3.2.1.free) ∧ True) ∧ Tr 1 ((1 : Int) = x_3.2.2.1) ∧ Tr 1 ((2 : Int) = x_3.2.2.2) ∧ True) ∧ true = true ∧ q4 ∧ devB (madeS x_2.1 0).ws = devB x_3.1.ws ∧ allocB (madeS x_2.1 0).a = allocB x_3.1.a ∧ True) ∧ (StoreW x_3.1 ∧ TickI x_3.2.1 ∧ I64 x_3.2.2.1 ∧ I64 x_3.2.2.2) ∧ ∀ (y : Unit), True → Exx MR fun t => I t ∧ Tr 1 (q14 ∧ q15 ∧ Tr 4 (Tr 1 (x.1.getD (Int.toNat 0) 0 = q16) ∧ Tr 1 (x.1.getD (Int.toNat 1) 0 = q17) ∧ q2 ∧ q2 ∧ Tr 1 (q30.a = t.a) ∧ q2 ∧ Tr 1 (q30.e = t.e) ∧ Tr 154 True)) ∧ true = true ∧ ((75 : Nat) = (75 : TypeId) ∧ q19) ∧ (q5 ∧ q2 ∧ q2 ∧ q2 ∧ Tr 1 (q24 = ttT0.blocks) ∧ Tr 1 (q25 = ttT0.slots) ∧ Tr 1 (q26 = ttT0.gens) ∧ Tr 1 (q27 = ttT0.top) ∧ Tr 1 (q28 = ttT0.high) ∧ Tr 1 (q29 = ttT0.free) ∧ True) ∧ q4 ∧ devB q31.ws = devB t.s.ws ∧ allocB q31.a = allocB t.s.a ∧ ((65 : Nat) = (65 : TypeId) ∧ Tr 1 (q32.blocks = t.t.blocks) ∧ Tr 1 (q32.slots = t.t.slots) ∧ Tr 1 (q32.gens = t.t.gens) ∧ Tr 1 (q32.top = t.t.top) ∧ Tr 1 (q32.high = t.t.high) ∧ Tr 1 (q32.free = t.t.free) ∧ True) ∧ ((67 : Nat) = (67 : TypeId) ∧ Tr 1 (q33.slot = t.h.slot) ∧ Tr 1 (q33.gen = t.h.gen) ∧ True) ∧ True; 
 let q35 : Prop := q34 ∧ q34; 
 let q36 : Prop := q35 ∧ q34; 
 let q42 : Prop := ((Exx (StoreT × TickT × Int × Int) fun x_3 => 
 let q37 : MR := mkRes x_3.1 x_3.2.1 x_3.2.2.1 x_3.2.2.2; 
 let q38 : StoreT := q37.s; 
 let q39 : TickT := q37.t; 
 let q40 : HandT := q37.h; 
 let q41 : Prop := Exx MR fun t => I t ∧ Tr 1 (q14 ∧ q15 ∧ Tr 4 (Tr 1 (x.1.getD (Int.toNat 0) 0 = q16) ∧ Tr 1 (x.1.getD (Int.toNat 1) 0 = q17) ∧ q2 ∧ q2 ∧ Tr 1 (q37.a = t.a) ∧ q2 ∧ Tr 1 (q37.e = t.e) ∧ Tr 154 True)) ∧ true = true ∧ ((75 : Nat) = (75 : TypeId) ∧ q19) ∧ (q5 ∧ q2 ∧ q2 ∧ q2 ∧ Tr 1 (q24 = ttT0.blocks) ∧ Tr 1 (q25 = ttT0.slots) ∧ Tr 1 (q26 = ttT0.gens) ∧ Tr 1 (q27 = ttT0.top) ∧ Tr 1 (q28 = ttT0.high) ∧ Tr 1 (q29 = ttT0.free) ∧ True) ∧ q4 ∧ devB q38.ws = devB t.s.ws ∧ allocB q38.a = allocB t.s.a ∧ ((65 : Nat) = (65 : TypeId) ∧ Tr 1 (q39.blocks = t.t.blocks) ∧ Tr 1 (q39.slots = t.t.slots) ∧ Tr 1 (q39.gens = t.t.gens) ∧ Tr 1 (q39.top = t.t.top) ∧ Tr 1 (q39.high = t.t.high) ∧ Tr 1 (q39.free = t.t.free) ∧ True) ∧ ((67 : Nat) = (67 : TypeId) ∧ Tr 1 (q40.slot = t.h.slot) ∧ Tr 1 (q40.gen = t.h.gen) ∧ True) ∧ True; ((q2 ∧ (Tr 1 (q24 = x_3.2.1.blocks) ∧ Tr 1 (q25 = x_3.2.1.slots) ∧ Tr 1 (q26 = x_3.2.1.gens) ∧ Tr 1 (q27 = x_3.2.1.top) ∧ Tr 1 (q28 = x_3.2.1.high) ∧ Tr 1 (q29 = x_3.2.1.free) ∧ True) ∧ Tr 1 ((1 : Int) = x_3.2.2.1) ∧ Tr 1 ((2 : Int) = x_3.2.2.2) ∧ True) ∧ true = true ∧ q4 ∧ devB (madeS x_2.1 0).ws = devB x_3.1.ws ∧ allocB (madeS x_2.1 0).a = allocB x_3.1.a ∧ True) ∧ (StoreW x_3.1 ∧ TickI x_3.2.1 ∧ I64 x_3.2.2.1 ∧ I64 x_3.2.2.2) ∧ ∀ (y : Unit), True → q41 ∧ q41) ∧ q35 ∧ q35) ∧ q36 ∧ q36; 
 let q43 : Prop := q36 ∧ q36 ∧ q35; (q42 ∧ q42 ∧ q43 ∧ q43) ∧ ∀ (t : MR), I t → BC (!decide (t.e = (0 : Int))) q6 (Exx (MR × StoreT → Prop) fun I => BC x.2.2 (Exx (AllocT × Unit) fun x => (q3 ∧ true = true ∧ allocB t.s.a = allocB x.1 ∧ True) ∧ (AllocW x.1 ∧ True) ∧ ∀ (y : Unit), True → Exx (MR × StoreT) fun t_1 => I t_1 ∧ Tr 1 (q14 ∧ q15 ∧ Tr 4 (q20 ∧ q21 ∧ q2 ∧ q2 ∧ Tr 1 (t.a = t_1.1.a) ∧ q7)) ∧ true = true ∧ q22 ∧ q9 ∧ q4 ∧ devB t.s.ws = devB t_1.2.ws ∧ allocB (markS x.1) = allocB t_1.2.a ∧ (q10 ∧ Tr 1 (t.t.blocks = t_1.1.t.blocks) ∧ Tr 1 (t.t.slots = t_1.1.t.slots) ∧ Tr 1 (t.t.gens = t_1.1.t.gens) ∧ Tr 1 (t.t.top = t_1.1.t.top) ∧ Tr 1 (t.t.high = t_1.1.t.high) ∧ Tr 1 (t.t.free = t_1.1.t.free) ∧ True) ∧ (q11 ∧ Tr 1 (t.h.slot = t_1.1.h.slot) ∧ Tr 1 (t.h.gen = t_1.1.h.gen) ∧ True) ∧ True) (Exx (MR × StoreT) fun t_1 => I t_1 ∧ Tr 1 (q14 ∧ q15 ∧ Tr 4 (q20 ∧ q21 ∧ q2 ∧ q2 ∧ Tr 1 (t.a = t_1.1.a) ∧ q7)) ∧ true = true ∧ q22 ∧ q9 ∧ q4 ∧ devB t.s.ws = devB t_1.2.ws ∧ allocB t.s.a = allocB t_1.2.a ∧ (q10 ∧ Tr 1 (t.t.blocks = t_1.1.t.blocks) ∧ Tr 1 (t.t.slots = t_1.1.t.slots) ∧ Tr 1 (t.t.gens = t_1.1.t.gens) ∧ Tr 1 (t.t.top = t_1.1.t.top) ∧ Tr 1 (t.t.high = t_1.1.t.high) ∧ Tr 1 (t.t.free = t_1.1.t.free) ∧ True) ∧ (q11 ∧ Tr 1 (t.h.slot = t_1.1.h.slot) ∧ Tr 1 (t.h.gen = t_1.1.h.gen) ∧ True) ∧ True) ∧ ∀ (t : MR × StoreT), I t → Exx (MR × TR → Prop) fun I => 
 let q52 : Prop := Exx (StoreT × TickT × Int × NodeT) fun x_3 => 
 let q44 : Int := x_3.2.2.1; 
 let q45 : NodeT := x_3.2.2.2; 
 let q46 : EntT := q45.e; 
 let q47 : List Int := q45.kids; 
 let q48 : Nat := q47.length; 
 let q49 : TR := tuRes x_3.1 x_3.2.1 q44 q45; 
 let q50 : StoreT := q49.s; 
 let q51 : TickT := q49.t; ((q2 ∧ (Tr 1 (t.1.t.blocks = x_3.2.1.blocks) ∧ Tr 1 (t.1.t.slots = x_3.2.1.slots) ∧ Tr 1 (t.1.t.gens = x_3.2.1.gens) ∧ Tr 1 (t.1.t.top = x_3.2.1.top) ∧ Tr 1 (t.1.t.high = x_3.2.1.high) ∧ Tr 1 (t.1.t.free = x_3.2.1.free) ∧ True) ∧ Tr 1 (t.1.a = q44) ∧ (Tr 1 (t.1.h.slot = q46.slot) ∧ Tr 1 (t.1.h.gen = q46.gen) ∧ Tr 1 (q16 = q46.key) ∧ Tr 1 (q17 = q46.value) ∧ (x.2.1.length = q48 ∧ ∀ (i : Nat), i < q48 → [AV.int .i64 (x.2.1.getD i 0)] = [AV.int .i64 (q47.getD i 0)]) ∧ True) ∧ True) ∧ true = true ∧ q4 ∧ devB t.2.ws = devB x_3.1.ws ∧ allocB t.2.a = allocB x_3.1.a ∧ True) ∧ (StoreW x_3.1 ∧ TickI x_3.2.1 ∧ I64 q44 ∧ NodeI q45) ∧ ∀ (y : Unit), True → Exx (MR × TR) fun t_1 => I t_1 ∧ Tr 2 (q15 ∧ Tr 6 (q2 ∧ Tr 1 (Tr 1 (t.1.a = t_1.1.a) ∧ q2 ∧ Tr 1 (q2 ∧ q2 ∧ Tr 1 (q49.a = t_1.2.a) ∧ Tr 1 (q49.e = t_1.2.e) ∧ Tr 150 True)))) ∧ true = true ∧ q22 ∧ q9 ∧ q4 ∧ devB q50.ws = devB t_1.2.s.ws ∧ allocB q50.a = allocB t_1.2.s.a ∧ (q10 ∧ Tr 1 (t.1.t.blocks = t_1.1.t.blocks) ∧ Tr 1 (t.1.t.slots = t_1.1.t.slots) ∧ Tr 1 (t.1.t.gens = t_1.1.t.gens) ∧ Tr 1 (t.1.t.top = t_1.1.t.top) ∧ Tr 1 (t.1.t.high = t_1.1.t.high) ∧ Tr 1 (t.1.t.free = t_1.1.t.free) ∧ True) ∧ (q11 ∧ Tr 1 (t.1.h.slot = t_1.1.h.slot) ∧ Tr 1 (t.1.h.gen = t_1.1.h.gen) ∧ True) ∧ ((79 : Nat) = (79 : TypeId) ∧ Tr 1 (t.1.h.slot = t_1.1.h.slot) ∧ Tr 1 (t.1.h.gen = t_1.1.h.gen) ∧ q20 ∧ q21 ∧ q14 ∧ True) ∧ ((65 : Nat) = (65 : TypeId) ∧ Tr 1 (q51.blocks = t_1.2.t.blocks) ∧ Tr 1 (q51.slots = t_1.2.t.slots) ∧ Tr 1 (q51.gens = t_1.2.t.gens) ∧ Tr 1 (q51.top = t_1.2.t.top) ∧ Tr 1 (q51.high = t_1.2.t.high) ∧ Tr 1 (q51.free = t_1.2.t.free) ∧ True) ∧ True; 
 let q53 : Prop := q52 ∧ q52; 
 let q54 : Prop := q53 ∧ q52; 
 let q55 : Prop := q54 ∧ q54 ∧ q53; (q55 ∧ q55 ∧ q55 ∧ q53 ∧ q53 ∧ q53) ∧ ∀ (t : MR × TR), I t → Exx NodeT fun x_3 => (((Tr 1 (t.1.h.slot = x_3.e.slot) ∧ Tr 1 (t.1.h.gen = x_3.e.gen) ∧ Tr 1 (q16 = x_3.e.key) ∧ Tr 1 (q17 = x_3.e.value) ∧ (x.2.1.length = x_3.kids.length ∧ ∀ (i : Nat), i < x_3.kids.length → [AV.int .i64 (x.2.1.getD i 0)] = [AV.int .i64 (x_3.kids.getD i 0)]) ∧ True) ∧ True) ∧ true = true ∧ True) ∧ NodeI x_3 ∧ ∀ (y : Unit), True → BC (!decide (nodeOk x_3)) (BC (decide (t.2.e = (2 : Int))) (BC (decide (t.2.a = (0 : Int))) ((Tr 3 True ∧ Tr 3 True) ∧ (Tr 3 True ∧ Tr 3 True) ∧ ∀ (b : Bool), (b = true ↔ (t.2.t.blocks = (0 : Int) ∧ t.2.t.slots = (0 : Int) ∧ t.2.t.gens = (0 : Int) ∧ True) ∧ t.2.t.top = (0 : Int) ∧ t.2.t.high = (0 : Int) ∧ t.2.t.free = (0 : Int) ∧ True) → Exx Unit fun y => ((b = true ∧ True) ∧ true = true ∧ True) ∧ True) q6) q6) (Exx (StoreT × Int) fun x_4 => ((q2 ∧ Tr 1 (t.2.a = x_4.2) ∧ True) ∧ true = true ∧ q4 ∧ devB t.2.s.ws = devB x_4.1.ws ∧ allocB t.2.s.a = allocB x_4.1.a ∧ True) ∧ (StoreW x_4.1 ∧ I64 x_4.2) ∧ ∀ (y : Nat), (readT x_4.1.ws x_4.2).kids.length ≤ y ∧ y ≤ 9223372036854775807 → Exx (StoreT × Int) fun x_5 => 
 let q56 : Int := (↑(readT x_5.1.ws x_5.2).kids.length : Int); ((q2 ∧ Tr 1 (t.1.a = x_5.2) ∧ True) ∧ true = true ∧ q4 ∧ devB x_4.1.ws = devB x_5.1.ws ∧ allocB x_4.1.a = allocB x_5.1.a ∧ True) ∧ (StoreW x_5.1 ∧ I64 x_5.2) ∧ ∀ (y : Nat), (readT x_5.1.ws x_5.2).kids.length ≤ y ∧ y ≤ 9223372036854775807 → Exx (StoreT × TickT × HandT) fun x_6 => 
 let q57 : Int := seatE x_6.1.ws x_6.2.1 x_6.2.2; 
 let q58 : Int := (seatX x_6.1.ws x_6.2.1 x_6.2.2).next; ((q2 ∧ (Tr 1 (t.2.t.blocks = x_6.2.1.blocks) ∧ Tr 1 (t.2.t.slots = x_6.2.1.slots) ∧ Tr 1 (t.2.t.gens = x_6.2.1.gens) ∧ Tr 1 (t.2.t.top = x_6.2.1.top) ∧ Tr 1 (t.2.t.high = x_6.2.1.high) ∧ Tr 1 (t.2.t.free = x_6.2.1.free) ∧ True) ∧ (Tr 1 (t.1.h.slot = x_6.2.2.slot) ∧ Tr 1 (t.1.h.gen = x_6.2.2.gen) ∧ True) ∧ True) ∧ true = true ∧ q4 ∧ devB x_5.1.ws = devB x_6.1.ws ∧ allocB x_5.1.a = allocB x_6.1.a ∧ True) ∧ (StoreW x_6.1 ∧ TickI x_6.2.1 ∧ HandI x_6.2.2) ∧ ∀ (y : Unit), True → BC (!decide (t.2.e = (0 : Int))) q6 (BC (!decide (readE x_4.1.ws x_4.2 = (0 : Int))) q6 (BC (!decide (readE x_5.1.ws x_5.2 = (0 : Int))) q6 (BC (!decide (q57 = (0 : Int))) q6 (BC (!decide (q58 = t.2.a)) q6 (Exx (NodeT × NodeT) fun x_7 => (((Tr 1 ((readT x_4.1.ws x_4.2).e.slot = x_7.1.e.slot) ∧ Tr 1 ((readT x_4.1.ws x_4.2).e.gen = x_7.1.e.gen) ∧ Tr 1 ((readT x_4.1.ws x_4.2).e.key = x_7.1.e.key) ∧ Tr 1 ((readT x_4.1.ws x_4.2).e.value = x_7.1.e.value) ∧ (0 + (readT x_4.1.ws x_4.2).kids.length ≤ (readT x_4.1.ws x_4.2).kids.length ∧ (readT x_4.1.ws x_4.2).kids.length = x_7.1.kids.length ∧ ∀ (i : Nat), i < x_7.1.kids.length → [AV.int .i64 ((readT x_4.1.ws x_4.2).kids.getD (0 + i) 0)] = [AV.int .i64 (x_7.1.kids.getD i 0)]) ∧ True) ∧ (Tr 1 (t.1.h.slot = x_7.2.e.slot) ∧ Tr 1 (t.1.h.gen = x_7.2.e.gen) ∧ Tr 1 (q16 = x_7.2.e.key) ∧ Tr 1 (q17 = x_7.2.e.value) ∧ (x.2.1.length = x_7.2.kids.length ∧ ∀ (i : Nat), i < x_7.2.kids.length → [AV.int .i64 (x.2.1.getD i 0)] = [AV.int .i64 (x_7.2.kids.getD i 0)]) ∧ True) ∧ True) ∧ true = true ∧ True) ∧ (NodeI x_7.1 ∧ NodeI x_7.2) ∧ ∀ (y : Unit), True → BC (!decide (x_7.1.e = x_7.2.e ∧ x_7.1.kids = x_7.2.kids)) q6 (BC (decide (t.2.a = t.1.a) == x.2.2) q6 (BC (!x.2.2) q1 ((Tr 2 True ∧ Tr 2 True) ∧ (Tr 2 True ∧ Tr 2 True) ∧ ∀ (b : Bool), (b = true ↔ ((readT x_5.1.ws x_5.2).e.slot = t.1.h.slot ∧ (readT x_5.1.ws x_5.2).e.gen = t.1.h.gen ∧ True) ∧ (readT x_5.1.ws x_5.2).e.key = (1 : Int) ∧ (readT x_5.1.ws x_5.2).e.value = (2 : Int) ∧ True) → BC b (Exx Unit fun y => ((decide (q56 = (0 : Int)) = true ∧ True) ∧ true = true ∧ True) ∧ True) q6))))))))))))) = (fnVC tb [(23, specOf awake22C), (24, specOf stoodC), (25, specOf treeMakeC), (27, specOf allocMarkC), (28, specOf treeTurnC), (29, specOf refNodeRightC), (30, specOf treadC), (31, specOf tickResolveC), (32, specOf refSameC)] Tryz.f5 treeTurnsC (fun x => { loose := [(7, [2, 3, 4, 5, 6, 7]), (13, [2, 3, 4, 5, 6, 7, 8, 9]), (18, [3, 4, 5])], joins := [(8, ttJ8 x), (12, ttJ12 x), (14, ttJ14 x)] }) (fun _ => none)) := by kernel_rfl 

theorem treeTurns_ok : SpecOk Tryz.prog 5 (specOf treeTurnsC) := by
  refine specOk mixed tb_ok (SPok.cons awake22_ok (SPok.cons stood_ok (SPok.cons treeMake_ok (SPok.cons allocMark_ok (SPok.cons treeTurn_ok (SPok.cons refNodeRight_ok (SPok.cons tread_ok (SPok.cons tickResolve_ok (SPok.cons refSame_ok SPok.nil))))))))) Tryz.func5 (by decide) (pureC_ok fun _ => rfl) (Eq.mp treeTurnsV ?_)
  simp (maxSteps := 10000000) only [std, stdU, stdV, Exx, I64, Nat.reduceMul, Nat.reduceDiv, Nat.reduceAdd, Int.reduceToNat, ↓and_self, and_self, and_self_left, and_self_right, devB_inj, allocB_inj, setB_inj, tick_ex, store_ex, hand_ex, tick_eta, store_eta, hand_eta, node_ex, node_eta]
  rintro keys kids mark ⟨hk, hl, hK⟩
  have hk' : ∀ i, I64 (keys.getD i 0) := fun i => getD_mem (p := I64) hk I64_0 i
  have I0 : NInv (madeS 30 0) (tick0 ((30 : Nat) : Int) 9 100) desk0 [] := ninv_made (by omega) (by omega) ⟨by omega, by omega, by omega, by omega, by omega, by omega⟩
  have M0 := tt_made
  have tr : True := trivial
  refine ⟨by omega, by omega, by omega, by omega, by omega, by omega, fun h60 => ⟨30, rfl, by omega, by omega, by omega, I0.W, I0.tI, by omega, by omega, by omega, by omega, TtM, ⟨_, M0, ?_⟩, fun q M => ?_⟩⟩
  · repeat' (first | exact trivial | exact rfl | apply And.intro)
  have A := tt_ok M mark
  have ia := A.inv.i64 (List.mem_cons_self ..)
  refine ⟨fun k => k M.e, fun _ => ⟨fun t => t = (q, ttS q mark), fun hb => ⟨M.inv.W.2, q, ttS q mark, rfl, ?_⟩, fun hb => ⟨q, ttS q mark, rfl, ?_⟩, fun t s ht => ?_⟩⟩
  · rw [hb, ttS_t]
    repeat' (first | exact trivial | exact rfl | apply And.intro)
  · rw [hb, ttS_f]
    repeat' (first | exact trivial | exact rfl | apply And.intro)
  have ht1 := congrArg Prod.fst ht
  have ht2 := congrArg Prod.snd ht
  simp only at ht1 ht2
  subst ht1; subst ht2
  have hN : NodeI ⟨⟨t.h.slot, t.h.gen, keys.getD 0 0, keys.getD 1 0⟩, kids⟩ := ⟨⟨show I64 t.h.slot by rw [M.hand]; exact I64_0, show I64 t.h.gen by rw [M.hand]; exact ⟨by decide, by decide⟩, hk' 0, hk' 1⟩, hK⟩
  have hh : entH (⟨⟨t.h.slot, t.h.gen, keys.getD 0 0, keys.getD 1 0⟩, kids⟩ : NodeT).e = ⟨0, 1⟩ := by simp only [M.hand]
  refine ⟨A.inv.W, A.inv.tI, ia.1, ia.2, hN, fun z => z = (t, tuRes (ttS t mark) t.t t.a ⟨⟨t.h.slot, t.h.gen, keys.getD 0 0, keys.getD 1 0⟩, kids⟩), ⟨t, _, rfl, ?_⟩, fun z r hz => ?_⟩
  · repeat' (first | exact trivial | exact rfl | apply And.intro)
  have hz1 := congrArg Prod.fst hz
  have hz2 := congrArg Prod.snd hz
  simp only at hz1 hz2
  subst hz1
  refine ⟨hN, fun hno => ?_, fun hok => ?_⟩
  · rw [tuRes, if_neg hno] at hz2
    subst hz2
    exact ⟨fun _ => ⟨fun _ bb hb => hb.2 ⟨rfl, rfl, rfl, rfl, rfl, rfl⟩, fun q => q rfl⟩, fun q => q rfl⟩
  · have B := tt_turn M mark hok hN hh
    rw [← hz2] at B
    have hHI : HandI z.h := by rw [M.hand]; exact ⟨I64_0, ⟨by decide, by decide⟩⟩
    refine ⟨B.w, B.i.1, B.i.2, fun y hy => ⟨B.w, ia.1, ia.2, fun y2 hy2 => ⟨B.w, B.t, hHI, fun q => q B.e, fun _ => ⟨fun q => q B.now, fun _ => ⟨fun q => q B.old, fun _ => ⟨fun q => q B.seat, fun _ => ⟨fun q => q B.next, fun _ => ⟨readT_I _ _, hN, fun q => q ?_, fun _ => ⟨fun q => ?_, fun _ hm bb hb => ?_⟩⟩⟩⟩⟩⟩⟩⟩⟩
    · rw [B.node]; exact ⟨rfl, rfl⟩
    · have := B.same
      cases mark <;> by_cases e : r.a = z.a <;> simp [e] at q this
    · have := B.elder hm
      rw [this] at hb ⊢
      rw [M.hand] at hb
      exact ⟨fun _ => rfl, fun q => Bool.noConfusion (q.symm.trans (hb.2 ⟨rfl, rfl, rfl, rfl⟩))⟩

end Yard
