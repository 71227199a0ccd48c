import Derived.Test.YtobpnkcgolkbiaaDoorSlotInv
/- The law SlotsPuts. -/
namespace Yard
open Go Go.Sx Go.Proofs
set_option linter.unusedVariables false
set_option linter.unusedSimpArgs false
set_option maxRecDepth 4000
set_option maxHeartbeats 4000000

abbrev storeH (s : StoreT) : AH := [.fence, storeI 2 3, devI s.ws, allocI s.a]
abbrev act20I (cap : Nat) (l : List Act20) : Sx.Item := .row 32 5 cap l.length (fun i => act20V (l.getD i act20Z))
def slotsPutsC : Ctr := pureC (List Act20 × Int) (fun x => Acts20 x.1 ∧ I64 x.2) (fun x => [acts20A x.1, i64 x.2]) (fun _ => .bool true)
def puts1A (x : List Act20 × Int) : LA := { T := Nat × StoreT × Int, F := fun t => frm 148 [(0, acts20A x.1), (1, i64 x.2), (5, .ptr 1 [] 0), (7, .ptr 3 [] 0), (8, i64 t.2.2), (9, .nils), (10, i64 (t.1 : Nat))], H := fun t => storeH t.2.1 }
def puts1B (x : List Act20 × Int) : LA := { T := Nat × StoreT × Int × Nat × List Act20, F := fun t => frm 148 [(0, acts20A x.1), (1, i64 x.2), (5, .ptr 1 [] 0), (7, .ptr 3 [] 0), (8, i64 t.2.2.1), (9, .sl 4 [] 0 5 0 t.2.2.2.2.length t.2.2.2.1), (10, i64 (t.1 : Nat))], H := fun t => storeH t.2.1 ++ [act20I t.2.2.2.1 t.2.2.2.2], ρ₂ := rowRenQ 9 4 }
def puts2A (x : List Act20 × Int) : LA := { T := Nat × StoreT × Int, F := fun t => frm 148 [(1, i64 x.2), (5, .ptr 1 [] 0), (8, i64 t.2.2), (9, .nils), (14, i64 (t.1 : Nat))], H := fun t => storeH t.2.1 }
def puts2B (x : List Act20 × Int) : LA := { T := Nat × StoreT × Int × Nat × List Act20, F := fun t => frm 148 [(1, i64 x.2), (5, .ptr 1 [] 0), (8, i64 t.2.2.1), (9, .sl 4 [] 0 5 0 t.2.2.2.2.length t.2.2.2.1), (14, i64 (t.1 : Nat))], H := fun t => storeH t.2.1 ++ [act20I t.2.2.2.1 t.2.2.2.2], ρ₂ := rowRenQ 9 4 }

-- callees: 12=awake20_ok 13=madeStore_ok 14=allocMark_ok 15=slotPut_ok 16=seat09_ok 17=find_ok 18=seat20_ok
theorem slotsPutsV : (∀ (x : List Act20 × Int), Acts20 x.fst ∧ I64 x.snd → Exx Unit fun x_1 => Tr 1 (true = true ∧ True) ∧ Tr 1 (∀ (y : Unit), True → BC (decide
 ((25 : Int) < (↑x.fst.length : Int))) (Exx Unit fun x => Tr 1 (true = true ∧ True) ∧ Tr 1 (∀ (y : Unit), True → Exx Unit fun y => ((true = true ∧ True) ∧ true =
 true ∧ True) ∧ True)) (Exx (Nat × Int) fun x_2 => ((Tr 1 ((200 : Int) = (↑x_2.fst : Int)) ∧ Tr 1 ((0 : Int) = x_2.snd) ∧ True) ∧ true = true ∧ True) ∧ (x_2.fst
 ≤ 3072 ∧ (0 : Int) ≤ x_2.snd ∧ I64 x_2.snd) ∧ ∀ (y : Unit), True → Exx (Nat × StoreT × Int → Prop) fun I => Exx (Nat × StoreT × Int × Nat × List Act20 → Prop)
 fun J => Exx (Nat × StoreT × Int → Nat) fun m => Exx (Nat × StoreT × Int × Nat × List Act20 → Nat) fun n => ((Exx (Nat × StoreT × Int) fun t => I t ∧ (((5 :
 Nat) = (5 : Nat) ∧ x.fst.length = x.fst.length ∧ ∀ (i : Nat), i < x.fst.length → [AV.int IntKind.i64 (x.fst.getD i act20Z).slot, AV.bool (x.fst.getD i
 act20Z).x.live, AV.int IntKind.i64 (x.fst.getD i act20Z).x.gen, AV.int IntKind.i64 (x.fst.getD i act20Z).x.next, AV.bool (x.fst.getD i act20Z).mark] = [AV.int
 IntKind.i64 (x.fst.getD i act20Z).slot, AV.bool (x.fst.getD i act20Z).x.live, AV.int IntKind.i64 (x.fst.getD i act20Z).x.gen, AV.int IntKind.i64 (x.fst.getD i
 act20Z).x.next, AV.bool (x.fst.getD i act20Z).mark]) ∧ Tr 1 (x.snd = x.snd) ∧ Tr 3 ((true = true ∧ NilNil ∧ (0 : Nat) = (0 : Nat)) ∧ Tr 1 ((true = true ∧ NilNil
 ∧ (0 : Nat) = (0 : Nat)) ∧ Tr 1 ((0 : Int) = t.snd.snd) ∧ Tr 1 (Tr 1 ((0 : Int) = (↑t.fst : Int)) ∧ Tr 137 True)))) ∧ true = true ∧ ((139 : TypeId) = (139 :
 TypeId) ∧ (true = true ∧ NilNil ∧ (0 : Nat) = (0 : Nat)) ∧ (true = true ∧ NilNil ∧ (0 : Nat) = (0 : Nat)) ∧ True) ∧ devB (madeS x_2.fst x_2.snd).ws = devB
 t.snd.fst.ws ∧ allocB (madeS x_2.fst x_2.snd).a = allocB t.snd.fst.a ∧ True) ∨ Exx (Nat × StoreT × Int × Nat × List Act20) fun t => J t ∧ (((5 : Nat) = (5 :
 Nat) ∧ x.fst.length = x.fst.length ∧ ∀ (i : Nat), i < x.fst.length → [AV.int IntKind.i64 (x.fst.getD i act20Z).slot, AV.bool (x.fst.getD i act20Z).x.live,
 AV.int IntKind.i64 (x.fst.getD i act20Z).x.gen, AV.int IntKind.i64 (x.fst.getD i act20Z).x.next, AV.bool (x.fst.getD i act20Z).mark] = [AV.int IntKind.i64
 (x.fst.getD i act20Z).slot, AV.bool (x.fst.getD i act20Z).x.live, AV.int IntKind.i64 (x.fst.getD i act20Z).x.gen, AV.int IntKind.i64 (x.fst.getD i
 act20Z).x.next, AV.bool (x.fst.getD i act20Z).mark]) ∧ Tr 1 (x.snd = x.snd) ∧ Tr 3 ((true = true ∧ NilNil ∧ (0 : Nat) = (0 : Nat)) ∧ Tr 1 ((true = true ∧ NilNil
 ∧ (0 : Nat) = (0 : Nat)) ∧ Tr 1 ((0 : Int) = t.snd.snd.fst) ∧ (t.snd.snd.snd.snd.length = 0 ∧ t.snd.snd.snd.fst = 0) ∧ Tr 1 ((0 : Int) = (↑t.fst : Int)) ∧ Tr
 137 True))) ∧ true = true ∧ ((139 : TypeId) = (139 : TypeId) ∧ (true = true ∧ NilNil ∧ (0 : Nat) = (0 : Nat)) ∧ (true = true ∧ NilNil ∧ (0 : Nat) = (0 : Nat)) ∧
 True) ∧ devB (madeS x_2.fst x_2.snd).ws = devB t.snd.fst.ws ∧ allocB (madeS x_2.fst x_2.snd).a = allocB t.snd.fst.a ∧ (t.snd.snd.snd.fst = 0 ∧
 t.snd.snd.snd.snd.length = 0) ∧ True) ∧ (∀ (t : Nat × StoreT × Int), I t → BC (decide ((↑t.fst : Int) < (↑x.fst.length : Int))) (((0 : Int) ≤ (↑t.fst : Int) ∧
 (↑t.fst : Int) < (↑x.fst.length : Int)) ∧ BC (x.fst.getD (↑t.fst : Int).toNat act20Z).mark (Exx (AllocT × Unit) fun x_3 => (((true = true ∧ NilNil ∧ (0 : Nat) =
 (0 : Nat)) ∧ True) ∧ true = true ∧ allocB t.snd.fst.a = allocB x_3.fst ∧ True) ∧ (AllocW x_3.fst ∧ True) ∧ ∀ (y : Unit), True → Exx (StoreT × Int × Int × SeatT)
 fun x_4 => (((true = true ∧ NilNil ∧ (0 : Nat) = (0 : Nat)) ∧ Tr 1 (t.snd.snd = x_4.snd.fst) ∧ Tr 1 ((x.fst.getD (↑t.fst : Int).toNat act20Z).slot =
 x_4.snd.snd.fst) ∧ ((x.fst.getD (↑t.fst : Int).toNat act20Z).x.live = x_4.snd.snd.snd.live ∧ Tr 1 ((x.fst.getD (↑t.fst : Int).toNat act20Z).x.gen =
 x_4.snd.snd.snd.gen) ∧ Tr 1 ((x.fst.getD (↑t.fst : Int).toNat act20Z).x.next = x_4.snd.snd.snd.next) ∧ True) ∧ True) ∧ true = true ∧ ((139 : TypeId) = (139 :
 TypeId) ∧ (true = true ∧ NilNil ∧ (0 : Nat) = (0 : Nat)) ∧ (true = true ∧ NilNil ∧ (0 : Nat) = (0 : Nat)) ∧ True) ∧ devB t.snd.fst.ws = devB x_4.fst.ws ∧ allocB
 (markS x_3.fst) = allocB x_4.fst.a ∧ True) ∧ (StoreW x_4.fst ∧ I64 x_4.snd.fst ∧ I64 x_4.snd.snd.fst ∧ SeatI x_4.snd.snd.snd) ∧ ∀ (y : Unit), True → BC (decide
 ((x.fst.getD (↑t.fst : Int).toNat act20Z).slot < (0 : Int))) (BC (!decide ((putR x_4.fst x_4.snd.fst x_4.snd.snd.fst x_4.snd.snd.snd).e = (2 : Int))) (Exx Unit
 fun y => ((false = true ∧ True) ∧ true = true ∧ True) ∧ True) (BC (!decide ((putR x_4.fst x_4.snd.fst x_4.snd.snd.fst x_4.snd.snd.snd).at_ = (0 : Int))) (Exx
 Unit fun y => ((false = true ∧ True) ∧ true = true ∧ True) ∧ True) (I64 ((↑t.fst : Int) + 1) ∧ ((Exx (Nat × StoreT × Int) fun t' => (I t' ∧ m t' < m t) ∧ (((5 :
 Nat) = (5 : Nat) ∧ x.fst.length = x.fst.length ∧ ∀ (i : Nat), i < x.fst.length → [AV.int IntKind.i64 (x.fst.getD i act20Z).slot, AV.bool (x.fst.getD i
 act20Z).x.live, AV.int IntKind.i64 (x.fst.getD i act20Z).x.gen, AV.int IntKind.i64 (x.fst.getD i act20Z).x.next, AV.bool (x.fst.getD i act20Z).mark] = [AV.int
 IntKind.i64 (x.fst.getD i act20Z).slot, AV.bool (x.fst.getD i act20Z).x.live, AV.int IntKind.i64 (x.fst.getD i act20Z).x.gen, AV.int IntKind.i64 (x.fst.getD i
 act20Z).x.next, AV.bool (x.fst.getD i act20Z).mark]) ∧ Tr 1 (x.snd = x.snd) ∧ Tr 3 ((true = true ∧ NilNil ∧ (0 : Nat) = (0 : Nat)) ∧ Tr 1 ((true = true ∧ NilNil
 ∧ (0 : Nat) = (0 : Nat)) ∧ Tr 1 (t.snd.snd = t'.snd.snd) ∧ Tr 1 (Tr 1 ((↑t.fst : Int) + 1 = (↑t'.fst : Int)) ∧ Tr 137 True)))) ∧ true = true ∧ ((139 : TypeId) =
 (139 : TypeId) ∧ (true = true ∧ NilNil ∧ (0 : Nat) = (0 : Nat)) ∧ (true = true ∧ NilNil ∧ (0 : Nat) = (0 : Nat)) ∧ True) ∧ devB (putR x_4.fst x_4.snd.fst
 x_4.snd.snd.fst x_4.snd.snd.snd).s.ws = devB t'.snd.fst.ws ∧ allocB (putR x_4.fst x_4.snd.fst x_4.snd.snd.fst x_4.snd.snd.snd).s.a = allocB t'.snd.fst.a ∧ True)
 ∨ Exx (Nat × StoreT × Int × Nat × List Act20) fun t' => (J t' ∧ n t' < m t) ∧ (((5 : Nat) = (5 : Nat) ∧ x.fst.length = x.fst.length ∧ ∀ (i : Nat), i <
 x.fst.length → [AV.int IntKind.i64 (x.fst.getD i act20Z).slot, AV.bool (x.fst.getD i act20Z).x.live, AV.int IntKind.i64 (x.fst.getD i act20Z).x.gen, AV.int
 IntKind.i64 (x.fst.getD i act20Z).x.next, AV.bool (x.fst.getD i act20Z).mark] = [AV.int IntKind.i64 (x.fst.getD i act20Z).slot, AV.bool (x.fst.getD i
 act20Z).x.live, AV.int IntKind.i64 (x.fst.getD i act20Z).x.gen, AV.int IntKind.i64 (x.fst.getD i act20Z).x.next, AV.bool (x.fst.getD i act20Z).mark]) ∧ Tr 1
 (x.snd = x.snd) ∧ Tr 3 ((true = true ∧ NilNil ∧ (0 : Nat) = (0 : Nat)) ∧ Tr 1 ((true = true ∧ NilNil ∧ (0 : Nat) = (0 : Nat)) ∧ Tr 1 (t.snd.snd =
 t'.snd.snd.fst) ∧ (t'.snd.snd.snd.snd.length = 0 ∧ t'.snd.snd.snd.fst = 0) ∧ Tr 1 ((↑t.fst : Int) + 1 = (↑t'.fst : Int)) ∧ Tr 137 True))) ∧ true = true ∧ ((139
 : TypeId) = (139 : TypeId) ∧ (true = true ∧ NilNil ∧ (0 : Nat) = (0 : Nat)) ∧ (true = true ∧ NilNil ∧ (0 : Nat) = (0 : Nat)) ∧ True) ∧ devB (putR x_4.fst
 x_4.snd.fst x_4.snd.snd.fst x_4.snd.snd.snd).s.ws = devB t'.snd.fst.ws ∧ allocB (putR x_4.fst x_4.snd.fst x_4.snd.snd.fst x_4.snd.snd.snd).s.a = allocB
 t'.snd.fst.a ∧ False ∧ True)))) (BC (decide ((1791 : Int) < (x.fst.getD (↑t.fst : Int).toNat act20Z).slot)) (BC (!decide ((putR x_4.fst x_4.snd.fst
 x_4.snd.snd.fst x_4.snd.snd.snd).e = (2 : Int))) (Exx Unit fun y => ((false = true ∧ True) ∧ true = true ∧ True) ∧ True) (BC (!decide ((putR x_4.fst x_4.snd.fst
 x_4.snd.snd.fst x_4.snd.snd.snd).at_ = (0 : Int))) (Exx Unit fun y => ((false = true ∧ True) ∧ true = true ∧ True) ∧ True) (I64 ((↑t.fst : Int) + 1) ∧ ((Exx
 (Nat × StoreT × Int) fun t' => (I t' ∧ m t' < m t) ∧ (((5 : Nat) = (5 : Nat) ∧ x.fst.length = x.fst.length ∧ ∀ (i : Nat), i < x.fst.length → [AV.int IntKind.i64
 (x.fst.getD i act20Z).slot, AV.bool (x.fst.getD i act20Z).x.live, AV.int IntKind.i64 (x.fst.getD i act20Z).x.gen, AV.int IntKind.i64 (x.fst.getD i
 act20Z).x.next, AV.bool (x.fst.getD i act20Z).mark] = [AV.int IntKind.i64 (x.fst.getD i act20Z).slot, AV.bool (x.fst.getD i act20Z).x.live, AV.int IntKind.i64
 (x.fst.getD i act20Z).x.gen, AV.int IntKind.i64 (x.fst.getD i act20Z).x.next, AV.bool (x.fst.getD i act20Z).mark]) ∧ Tr 1 (x.snd = x.snd) ∧ Tr 3 ((true = true ∧
 NilNil ∧ (0 : Nat) = (0 : Nat)) ∧ Tr 1 ((true = true ∧ NilNil ∧ (0 : Nat) = (0 : Nat)) ∧ Tr 1 (t.snd.snd = t'.snd.snd) ∧ Tr 1 (Tr 1 ((↑t.fst : Int) + 1 =
 (↑t'.fst : Int)) ∧ Tr 137 True)))) ∧ true = true ∧ ((139 : TypeId) = (139 : TypeId) ∧ (true = true ∧ NilNil ∧ (0 : Nat) = (0 : Nat)) ∧ (true = true ∧ NilNil ∧
 (0 : Nat) = (0 : Nat)) ∧ True) ∧ devB (putR x_4.fst x_4.snd.fst x_4.snd.snd.fst x_4.snd.snd.snd).s.ws = devB t'.snd.fst.ws ∧ allocB (putR x_4.fst x_4.snd.fst
 x_4.snd.snd.fst x_4.snd.snd.snd).s.a = allocB t'.snd.fst.a ∧ True) ∨ Exx (Nat × StoreT × Int × Nat × List Act20) fun t' => (J t' ∧ n t' < m t) ∧ (((5 : Nat) =
 (5 : Nat) ∧ x.fst.length = x.fst.length ∧ ∀ (i : Nat), i < x.fst.length → [AV.int IntKind.i64 (x.fst.getD i act20Z).slot, AV.bool (x.fst.getD i act20Z).x.live,
 AV.int IntKind.i64 (x.fst.getD i act20Z).x.gen, AV.int IntKind.i64 (x.fst.getD i act20Z).x.next, AV.bool (x.fst.getD i act20Z).mark] = [AV.int IntKind.i64
 (x.fst.getD i act20Z).slot, AV.bool (x.fst.getD i act20Z).x.live, AV.int IntKind.i64 (x.fst.getD i act20Z).x.gen, AV.int IntKind.i64 (x.fst.getD i
 act20Z).x.next, AV.bool (x.fst.getD i act20Z).mark]) ∧ Tr 1 (x.snd = x.snd) ∧ Tr 3 ((true = true ∧ NilNil ∧ (0 : Nat) = (0 : Nat)) ∧ Tr 1 ((true = true ∧ NilNil
 ∧ (0 : Nat) = (0 : Nat)) ∧ Tr 1 (t.snd.snd = t'.snd.snd.fst) ∧ (t'.snd.snd.snd.snd.length = 0 ∧ t'.snd.snd.snd.fst = 0) ∧ Tr 1 ((↑t.fst : Int) + 1 = (↑t'.fst :
 Int)) ∧ Tr 137 True))) ∧ true = true ∧ ((139 : TypeId) = (139 : TypeId) ∧ (true = true ∧ NilNil ∧ (0 : Nat) = (0 : Nat)) ∧ (true = true ∧ NilNil ∧ (0 : Nat) =
 (0 : Nat)) ∧ True) ∧ devB (putR x_4.fst x_4.snd.fst x_4.snd.snd.fst x_4.snd.snd.snd).s.ws = devB t'.snd.fst.ws ∧ allocB (putR x_4.fst x_4.snd.fst
 x_4.snd.snd.fst x_4.snd.snd.snd).s.a = allocB t'.snd.fst.a ∧ False ∧ True)))) (Exx SeatT fun x_5 => ((((x.fst.getD (↑t.fst : Int).toNat act20Z).x.live =
 x_5.live ∧ Tr 1 ((x.fst.getD (↑t.fst : Int).toNat act20Z).x.gen = x_5.gen) ∧ Tr 1 ((x.fst.getD (↑t.fst : Int).toNat act20Z).x.next = x_5.next) ∧ True) ∧ True) ∧
 true = true ∧ True) ∧ SeatI x_5 ∧ ∀ (y : Unit), True → BC (!decide (seatOk x_5)) (BC (!decide ((putR x_4.fst x_4.snd.fst x_4.snd.snd.fst x_4.snd.snd.snd).e = (2
 : Int))) (Exx Unit fun y => ((false = true ∧ True) ∧ true = true ∧ True) ∧ True) (BC (!decide ((putR x_4.fst x_4.snd.fst x_4.snd.snd.fst x_4.snd.snd.snd).at_ =
 (0 : Int))) (Exx Unit fun y => ((false = true ∧ True) ∧ true = true ∧ True) ∧ True) (I64 ((↑t.fst : Int) + 1) ∧ ((Exx (Nat × StoreT × Int) fun t' => (I t' ∧ m
 t' < m t) ∧ (((5 : Nat) = (5 : Nat) ∧ x.fst.length = x.fst.length ∧ ∀ (i : Nat), i < x.fst.length → [AV.int IntKind.i64 (x.fst.getD i act20Z).slot, AV.bool
 (x.fst.getD i act20Z).x.live, AV.int IntKind.i64 (x.fst.getD i act20Z).x.gen, AV.int IntKind.i64 (x.fst.getD i act20Z).x.next, AV.bool (x.fst.getD i
 act20Z).mark] = [AV.int IntKind.i64 (x.fst.getD i act20Z).slot, AV.bool (x.fst.getD i act20Z).x.live, AV.int IntKind.i64 (x.fst.getD i act20Z).x.gen, AV.int
 IntKind.i64 (x.fst.getD i act20Z).x.next, AV.bool (x.fst.getD i act20Z).mark]) ∧ Tr 1 (x.snd = x.snd) ∧ Tr 3 ((true = true ∧ NilNil ∧ (0 : Nat) = (0 : Nat)) ∧
 Tr 1 ((true = true ∧ NilNil ∧ (0 : Nat) = (0 : Nat)) ∧ Tr 1 (t.snd.snd = t'.snd.snd) ∧ Tr 1 (Tr 1 ((↑t.fst : Int) + 1 = (↑t'.fst : Int)) ∧ Tr 137 True)))) ∧
 true = true ∧ ((139 : TypeId) = (139 : TypeId) ∧ (true = true ∧ NilNil ∧ (0 : Nat) = (0 : Nat)) ∧ (true = true ∧ NilNil ∧ (0 : Nat) = (0 : Nat)) ∧ True) ∧ devB
 (putR x_4.fst x_4.snd.fst x_4.snd.snd.fst x_4.snd.snd.snd).s.ws = devB t'.snd.fst.ws ∧ allocB (putR x_4.fst x_4.snd.fst x_4.snd.snd.fst x_4.snd.snd.snd).s.a =
 allocB t'.snd.fst.a ∧ True) ∨ Exx (Nat × StoreT × Int × Nat × List Act20) fun t' => (J t' ∧ n t' < m t) ∧ (((5 : Nat) = (5 : Nat) ∧ x.fst.length = x.fst.length
 ∧ ∀ (i : Nat), i < x.fst.length → [AV.int IntKind.i64 (x.fst.getD i act20Z).slot, AV.bool (x.fst.getD i act20Z).x.live, AV.int IntKind.i64 (x.fst.getD i
 act20Z).x.gen, AV.int IntKind.i64 (x.fst.getD i act20Z).x.next, AV.bool (x.fst.getD i act20Z).mark] = [AV.int IntKind.i64 (x.fst.getD i act20Z).slot, AV.bool
 (x.fst.getD i act20Z).x.live, AV.int IntKind.i64 (x.fst.getD i act20Z).x.gen, AV.int IntKind.i64 (x.fst.getD i act20Z).x.next, AV.bool (x.fst.getD i
 act20Z).mark]) ∧ Tr 1 (x.snd = x.snd) ∧ Tr 3 ((true = true ∧ NilNil ∧ (0 : Nat) = (0 : Nat)) ∧ Tr 1 ((true = true ∧ NilNil ∧ (0 : Nat) = (0 : Nat)) ∧ Tr 1
 (t.snd.snd = t'.snd.snd.fst) ∧ (t'.snd.snd.snd.snd.length = 0 ∧ t'.snd.snd.snd.fst = 0) ∧ Tr 1 ((↑t.fst : Int) + 1 = (↑t'.fst : Int)) ∧ Tr 137 True))) ∧ true =
 true ∧ ((139 : TypeId) = (139 : TypeId) ∧ (true = true ∧ NilNil ∧ (0 : Nat) = (0 : Nat)) ∧ (true = true ∧ NilNil ∧ (0 : Nat) = (0 : Nat)) ∧ True) ∧ devB (putR
 x_4.fst x_4.snd.fst x_4.snd.snd.fst x_4.snd.snd.snd).s.ws = devB t'.snd.fst.ws ∧ allocB (putR x_4.fst x_4.snd.fst x_4.snd.snd.fst x_4.snd.snd.snd).s.a = allocB
 t'.snd.fst.a ∧ False ∧ True)))) (BC (!decide ((putR x_4.fst x_4.snd.fst x_4.snd.snd.fst x_4.snd.snd.snd).e = (0 : Int))) (Exx Unit fun y => ((false = true ∧
 True) ∧ true = true ∧ True) ∧ True) ((0 : Nat) + (1 : Nat) ≤ (1 : Nat) ∧ ((1 : Nat) ≤ (9223372036854775807 : Nat) ∧ (1 : Nat) * (40 : Nat) ≤ (140737488355328 :
 Nat)) ∧ ∀ (cap : Nat), 1 ≤ cap ∧ cap ≤ 9223372036854775807 → I64 ((↑t.fst : Int) + 1) ∧ ((Exx (Nat × StoreT × Int) fun t' => (I t' ∧ m t' < m t) ∧ (((5 : Nat) =
 (5 : Nat) ∧ x.fst.length = x.fst.length ∧ ∀ (i : Nat), i < x.fst.length → [AV.int IntKind.i64 (x.fst.getD i act20Z).slot, AV.bool (x.fst.getD i act20Z).x.live,
 AV.int IntKind.i64 (x.fst.getD i act20Z).x.gen, AV.int IntKind.i64 (x.fst.getD i act20Z).x.next, AV.bool (x.fst.getD i act20Z).mark] = [AV.int IntKind.i64
 (x.fst.getD i act20Z).slot, AV.bool (x.fst.getD i act20Z).x.live, AV.int IntKind.i64 (x.fst.getD i act20Z).x.gen, AV.int IntKind.i64 (x.fst.getD i
 act20Z).x.next, AV.bool (x.fst.getD i act20Z).mark]) ∧ Tr 1 (x.snd = x.snd) ∧ Tr 3 ((true = true ∧ NilNil ∧ (0 : Nat) = (0 : Nat)) ∧ Tr 1 ((true = true ∧ NilNil
 ∧ (0 : Nat) = (0 : Nat)) ∧ Tr 1 ((putR x_4.fst x_4.snd.fst x_4.snd.snd.fst x_4.snd.snd.snd).at_ = t'.snd.snd) ∧ False ∧ Tr 1 ((↑t.fst : Int) + 1 = (↑t'.fst :
 Int)) ∧ Tr 137 True))) ∧ true = true ∧ ((139 : TypeId) = (139 : TypeId) ∧ (true = true ∧ NilNil ∧ (0 : Nat) = (0 : Nat)) ∧ (true = true ∧ NilNil ∧ (0 : Nat) =
 (0 : Nat)) ∧ True) ∧ devB (putR x_4.fst x_4.snd.fst x_4.snd.snd.fst x_4.snd.snd.snd).s.ws = devB t'.snd.fst.ws ∧ allocB (putR x_4.fst x_4.snd.fst
 x_4.snd.snd.fst x_4.snd.snd.snd).s.a = allocB t'.snd.fst.a ∧ True) ∨ Exx (Nat × StoreT × Int × Nat × List Act20) fun t' => (J t' ∧ n t' < m t) ∧ (((5 : Nat) =
 (5 : Nat) ∧ x.fst.length = x.fst.length ∧ ∀ (i : Nat), i < x.fst.length → [AV.int IntKind.i64 (x.fst.getD i act20Z).slot, AV.bool (x.fst.getD i act20Z).x.live,
 AV.int IntKind.i64 (x.fst.getD i act20Z).x.gen, AV.int IntKind.i64 (x.fst.getD i act20Z).x.next, AV.bool (x.fst.getD i act20Z).mark] = [AV.int IntKind.i64
 (x.fst.getD i act20Z).slot, AV.bool (x.fst.getD i act20Z).x.live, AV.int IntKind.i64 (x.fst.getD i act20Z).x.gen, AV.int IntKind.i64 (x.fst.getD i
 act20Z).x.next, AV.bool (x.fst.getD i act20Z).mark]) ∧ Tr 1 (x.snd = x.snd) ∧ Tr 3 ((true = true ∧ NilNil ∧ (0 : Nat) = (0 : Nat)) ∧ Tr 1 ((true = true ∧ NilNil
 ∧ (0 : Nat) = (0 : Nat)) ∧ Tr 1 ((putR x_4.fst x_4.snd.fst x_4.snd.snd.fst x_4.snd.snd.snd).at_ = t'.snd.snd.fst) ∧ (true = true ∧ NilNil ∧ (0 : Nat) = (0 :
 Nat) ∧ (5 : Nat) = (5 : Nat) ∧ (0 : Nat) = (0 : Nat) ∧ 1 = t'.snd.snd.snd.snd.length ∧ cap = t'.snd.snd.snd.fst) ∧ Tr 1 ((↑t.fst : Int) + 1 = (↑t'.fst : Int)) ∧
 Tr 137 True))) ∧ true = true ∧ ((139 : TypeId) = (139 : TypeId) ∧ (true = true ∧ NilNil ∧ (0 : Nat) = (0 : Nat)) ∧ (true = true ∧ NilNil ∧ (0 : Nat) = (0 :
 Nat)) ∧ True) ∧ devB (putR x_4.fst x_4.snd.fst x_4.snd.snd.fst x_4.snd.snd.snd).s.ws = devB t'.snd.fst.ws ∧ allocB (putR x_4.fst x_4.snd.fst x_4.snd.snd.fst
 x_4.snd.snd.snd).s.a = allocB t'.snd.fst.a ∧ ((32 : TypeId) = (32 : TypeId) ∧ (5 : Nat) = (5 : Nat) ∧ cap = t'.snd.snd.snd.fst ∧ t'.snd.snd.snd.snd.length ≤ 1 ∧
 ∀ (i : Nat), i < t'.snd.snd.snd.snd.length → [AV.int IntKind.i64 (if 0 + i = 0 * 5 / 5 then (x.fst.getD (↑t.fst : Int).toNat act20Z).slot else 0), AV.bool (if 0
 + i = 0 * 5 / 5 then (x.fst.getD (↑t.fst : Int).toNat act20Z).x.live else false), AV.int IntKind.i64 (if 0 + i = 0 * 5 / 5 then (x.fst.getD (↑t.fst : Int).toNat
 act20Z).x.gen else 0), AV.int IntKind.i64 (if 0 + i = 0 * 5 / 5 then (x.fst.getD (↑t.fst : Int).toNat act20Z).x.next else 0), AV.bool (if 0 + i = 0 * 5 / 5 then
 (x.fst.getD (↑t.fst : Int).toNat act20Z).mark else false)] = [AV.int IntKind.i64 (t'.snd.snd.snd.snd.getD i act20Z).slot, AV.bool (t'.snd.snd.snd.snd.getD i
 act20Z).x.live, AV.int IntKind.i64 (t'.snd.snd.snd.snd.getD i act20Z).x.gen, AV.int IntKind.i64 (t'.snd.snd.snd.snd.getD i act20Z).x.next, AV.bool
 (t'.snd.snd.snd.snd.getD i act20Z).mark]) ∧ True)))))) (Exx (StoreT × Int × Int × SeatT) fun x_3 => (((true = true ∧ NilNil ∧ (0 : Nat) = (0 : Nat)) ∧ Tr 1
 (t.snd.snd = x_3.snd.fst) ∧ Tr 1 ((x.fst.getD (↑t.fst : Int).toNat act20Z).slot = x_3.snd.snd.fst) ∧ ((x.fst.getD (↑t.fst : Int).toNat act20Z).x.live =
 x_3.snd.snd.snd.live ∧ Tr 1 ((x.fst.getD (↑t.fst : Int).toNat act20Z).x.gen = x_3.snd.snd.snd.gen) ∧ Tr 1 ((x.fst.getD (↑t.fst : Int).toNat act20Z).x.next =
 x_3.snd.snd.snd.next) ∧ True) ∧ True) ∧ true = true ∧ ((139 : TypeId) = (139 : TypeId) ∧ (true = true ∧ NilNil ∧ (0 : Nat) = (0 : Nat)) ∧ (true = true ∧ NilNil
 ∧ (0 : Nat) = (0 : Nat)) ∧ True) ∧ devB t.snd.fst.ws = devB x_3.fst.ws ∧ allocB t.snd.fst.a = allocB x_3.fst.a ∧ True) ∧ (StoreW x_3.fst ∧ I64 x_3.snd.fst ∧ I64
 x_3.snd.snd.fst ∧ SeatI x_3.snd.snd.snd) ∧ ∀ (y : Unit), True → BC (decide ((x.fst.getD (↑t.fst : Int).toNat act20Z).slot < (0 : Int))) (BC (!decide ((putR
 x_3.fst x_3.snd.fst x_3.snd.snd.fst x_3.snd.snd.snd).e = (2 : Int))) (Exx Unit fun y => ((false = true ∧ True) ∧ true = true ∧ True) ∧ True) (BC (!decide ((putR
 x_3.fst x_3.snd.fst x_3.snd.snd.fst x_3.snd.snd.snd).at_ = (0 : Int))) (Exx Unit fun y => ((false = true ∧ True) ∧ true = true ∧ True) ∧ True) (I64 ((↑t.fst :
 Int) + 1) ∧ ((Exx (Nat × StoreT × Int) fun t' => (I t' ∧ m t' < m t) ∧ (((5 : Nat) = (5 : Nat) ∧ x.fst.length = x.fst.length ∧ ∀ (i : Nat), i < x.fst.length →
 [AV.int IntKind.i64 (x.fst.getD i act20Z).slot, AV.bool (x.fst.getD i act20Z).x.live, AV.int IntKind.i64 (x.fst.getD i act20Z).x.gen, AV.int IntKind.i64
 (x.fst.getD i act20Z).x.next, AV.bool (x.fst.getD i act20Z).mark] = [AV.int IntKind.i64 (x.fst.getD i act20Z).slot, AV.bool (x.fst.getD i act20Z).x.live, AV.int
 IntKind.i64 (x.fst.getD i act20Z).x.gen, AV.int IntKind.i64 (x.fst.getD i act20Z).x.next, AV.bool (x.fst.getD i act20Z).mark]) ∧ Tr 1 (x.snd = x.snd) ∧ Tr 3
 ((true = true ∧ NilNil ∧ (0 : Nat) = (0 : Nat)) ∧ Tr 1 ((true = true ∧ NilNil ∧ (0 : Nat) = (0 : Nat)) ∧ Tr 1 (t.snd.snd = t'.snd.snd) ∧ Tr 1 (Tr 1 ((↑t.fst :
 Int) + 1 = (↑t'.fst : Int)) ∧ Tr 137 True)))) ∧ true = true ∧ ((139 : TypeId) = (139 : TypeId) ∧ (true = true ∧ NilNil ∧ (0 : Nat) = (0 : Nat)) ∧ (true = true ∧
 NilNil ∧ (0 : Nat) = (0 : Nat)) ∧ True) ∧ devB (putR x_3.fst x_3.snd.fst x_3.snd.snd.fst x_3.snd.snd.snd).s.ws = devB t'.snd.fst.ws ∧ allocB (putR x_3.fst
 x_3.snd.fst x_3.snd.snd.fst x_3.snd.snd.snd).s.a = allocB t'.snd.fst.a ∧ True) ∨ Exx (Nat × StoreT × Int × Nat × List Act20) fun t' => (J t' ∧ n t' < m t) ∧
 (((5 : Nat) = (5 : Nat) ∧ x.fst.length = x.fst.length ∧ ∀ (i : Nat), i < x.fst.length → [AV.int IntKind.i64 (x.fst.getD i act20Z).slot, AV.bool (x.fst.getD i
 act20Z).x.live, AV.int IntKind.i64 (x.fst.getD i act20Z).x.gen, AV.int IntKind.i64 (x.fst.getD i act20Z).x.next, AV.bool (x.fst.getD i act20Z).mark] = [AV.int
 IntKind.i64 (x.fst.getD i act20Z).slot, AV.bool (x.fst.getD i act20Z).x.live, AV.int IntKind.i64 (x.fst.getD i act20Z).x.gen, AV.int IntKind.i64 (x.fst.getD i
 act20Z).x.next, AV.bool (x.fst.getD i act20Z).mark]) ∧ Tr 1 (x.snd = x.snd) ∧ Tr 3 ((true = true ∧ NilNil ∧ (0 : Nat) = (0 : Nat)) ∧ Tr 1 ((true = true ∧ NilNil
 ∧ (0 : Nat) = (0 : Nat)) ∧ Tr 1 (t.snd.snd = t'.snd.snd.fst) ∧ (t'.snd.snd.snd.snd.length = 0 ∧ t'.snd.snd.snd.fst = 0) ∧ Tr 1 ((↑t.fst : Int) + 1 = (↑t'.fst :
 Int)) ∧ Tr 137 True))) ∧ true = true ∧ ((139 : TypeId) = (139 : TypeId) ∧ (true = true ∧ NilNil ∧ (0 : Nat) = (0 : Nat)) ∧ (true = true ∧ NilNil ∧ (0 : Nat) =
 (0 : Nat)) ∧ True) ∧ devB (putR x_3.fst x_3.snd.fst x_3.snd.snd.fst x_3.snd.snd.snd).s.ws = devB t'.snd.fst.ws ∧ allocB (putR x_3.fst x_3.snd.fst
 x_3.snd.snd.fst x_3.snd.snd.snd).s.a = allocB t'.snd.fst.a ∧ False ∧ True)))) (BC (decide ((1791 : Int) < (x.fst.getD (↑t.fst : Int).toNat act20Z).slot)) (BC
 (!decide ((putR x_3.fst x_3.snd.fst x_3.snd.snd.fst x_3.snd.snd.snd).e = (2 : Int))) (Exx Unit fun y => ((false = true ∧ True) ∧ true = true ∧ True) ∧ True) (BC
 (!decide ((putR x_3.fst x_3.snd.fst x_3.snd.snd.fst x_3.snd.snd.snd).at_ = (0 : Int))) (Exx Unit fun y => ((false = true ∧ True) ∧ true = true ∧ True) ∧ True)
 (I64 ((↑t.fst : Int) + 1) ∧ ((Exx (Nat × StoreT × Int) fun t' => (I t' ∧ m t' < m t) ∧ (((5 : Nat) = (5 : Nat) ∧ x.fst.length = x.fst.length ∧ ∀ (i : Nat), i <
 x.fst.length → [AV.int IntKind.i64 (x.fst.getD i act20Z).slot, AV.bool (x.fst.getD i act20Z).x.live, AV.int IntKind.i64 (x.fst.getD i act20Z).x.gen, AV.int
 IntKind.i64 (x.fst.getD i act20Z).x.next, AV.bool (x.fst.getD i act20Z).mark] = [AV.int IntKind.i64 (x.fst.getD i act20Z).slot, AV.bool (x.fst.getD i
 act20Z).x.live, AV.int IntKind.i64 (x.fst.getD i act20Z).x.gen, AV.int IntKind.i64 (x.fst.getD i act20Z).x.next, AV.bool (x.fst.getD i act20Z).mark]) ∧ Tr 1
 (x.snd = x.snd) ∧ Tr 3 ((true = true ∧ NilNil ∧ (0 : Nat) = (0 : Nat)) ∧ Tr 1 ((true = true ∧ NilNil ∧ (0 : Nat) = (0 : Nat)) ∧ Tr 1 (t.snd.snd = t'.snd.snd) ∧
 Tr 1 (Tr 1 ((↑t.fst : Int) + 1 = (↑t'.fst : Int)) ∧ Tr 137 True)))) ∧ true = true ∧ ((139 : TypeId) = (139 : TypeId) ∧ (true = true ∧ NilNil ∧ (0 : Nat) = (0 :
 Nat)) ∧ (true = true ∧ NilNil ∧ (0 : Nat) = (0 : Nat)) ∧ True) ∧ devB (putR x_3.fst x_3.snd.fst x_3.snd.snd.fst x_3.snd.snd.snd).s.ws = devB t'.snd.fst.ws ∧
 allocB (putR x_3.fst x_3.snd.fst x_3.snd.snd.fst x_3.snd.snd.snd).s.a = allocB t'.snd.fst.a ∧ True) ∨ Exx (Nat × StoreT × Int × Nat × List Act20) fun t' => (J
 t' ∧ n t' < m t) ∧ (((5 : Nat) = (5 : Nat) ∧ x.fst.length = x.fst.length ∧ ∀ (i : Nat), i < x.fst.length → [AV.int IntKind.i64 (x.fst.getD i act20Z).slot,
 AV.bool (x.fst.getD i act20Z).x.live, AV.int IntKind.i64 (x.fst.getD i act20Z).x.gen, AV.int IntKind.i64 (x.fst.getD i act20Z).x.next, AV.bool (x.fst.getD i
 act20Z).mark] = [AV.int IntKind.i64 (x.fst.getD i act20Z).slot, AV.bool (x.fst.getD i act20Z).x.live, AV.int IntKind.i64 (x.fst.getD i act20Z).x.gen, AV.int
 IntKind.i64 (x.fst.getD i act20Z).x.next, AV.bool (x.fst.getD i act20Z).mark]) ∧ Tr 1 (x.snd = x.snd) ∧ Tr 3 ((true = true ∧ NilNil ∧ (0 : Nat) = (0 : Nat)) ∧
 Tr 1 ((true = true ∧ NilNil ∧ (0 : Nat) = (0 : Nat)) ∧ Tr 1 (t.snd.snd = t'.snd.snd.fst) ∧ (t'.snd.snd.snd.snd.length = 0 ∧ t'.snd.snd.snd.fst = 0) ∧ Tr 1
 ((↑t.fst : Int) + 1 = (↑t'.fst : Int)) ∧ Tr 137 True))) ∧ true = true ∧ ((139 : TypeId) = (139 : TypeId) ∧ (true = true ∧ NilNil ∧ (0 : Nat) = (0 : Nat)) ∧
 (true = true ∧ NilNil ∧ (0 : Nat) = (0 : Nat)) ∧ True) ∧ devB (putR x_3.fst x_3.snd.fst x_3.snd.snd.fst x_3.snd.snd.snd).s.ws = devB t'.snd.fst.ws ∧ allocB
 (putR x_3.fst x_3.snd.fst x_3.snd.snd.fst x_3.snd.snd.snd).s.a = allocB t'.snd.fst.a ∧ False ∧ True)))) (Exx SeatT fun x_4 => ((((x.fst.getD (↑t.fst :
 Int).toNat act20Z).x.live = x_4.live ∧ Tr 1 ((x.fst.getD (↑t.fst : Int).toNat act20Z).x.gen = x_4.gen) ∧ Tr 1 ((x.fst.getD (↑t.fst : Int).toNat act20Z).x.next =
 x_4.next) ∧ True) ∧ True) ∧ true = true ∧ True) ∧ SeatI x_4 ∧ ∀ (y : Unit), True → BC (!decide (seatOk x_4)) (BC (!decide ((putR x_3.fst x_3.snd.fst
 x_3.snd.snd.fst x_3.snd.snd.snd).e = (2 : Int))) (Exx Unit fun y => ((false = true ∧ True) ∧ true = true ∧ True) ∧ True) (BC (!decide ((putR x_3.fst x_3.snd.fst
 x_3.snd.snd.fst x_3.snd.snd.snd).at_ = (0 : Int))) (Exx Unit fun y => ((false = true ∧ True) ∧ true = true ∧ True) ∧ True) (I64 ((↑t.fst : Int) + 1) ∧ ((Exx
 (Nat × StoreT × Int) fun t' => (I t' ∧ m t' < m t) ∧ (((5 : Nat) = (5 : Nat) ∧ x.fst.length = x.fst.length ∧ ∀ (i : Nat), i < x.fst.length → [AV.int IntKind.i64
 (x.fst.getD i act20Z).slot, AV.bool (x.fst.getD i act20Z).x.live, AV.int IntKind.i64 (x.fst.getD i act20Z).x.gen, AV.int IntKind.i64 (x.fst.getD i
 act20Z).x.next, AV.bool (x.fst.getD i act20Z).mark] = [AV.int IntKind.i64 (x.fst.getD i act20Z).slot, AV.bool (x.fst.getD i act20Z).x.live, AV.int IntKind.i64
 (x.fst.getD i act20Z).x.gen, AV.int IntKind.i64 (x.fst.getD i act20Z).x.next, AV.bool (x.fst.getD i act20Z).mark]) ∧ Tr 1 (x.snd = x.snd) ∧ Tr 3 ((true = true ∧
 NilNil ∧ (0 : Nat) = (0 : Nat)) ∧ Tr 1 ((true = true ∧ NilNil ∧ (0 : Nat) = (0 : Nat)) ∧ Tr 1 (t.snd.snd = t'.snd.snd) ∧ Tr 1 (Tr 1 ((↑t.fst : Int) + 1 =
 (↑t'.fst : Int)) ∧ Tr 137 True)))) ∧ true = true ∧ ((139 : TypeId) = (139 : TypeId) ∧ (true = true ∧ NilNil ∧ (0 : Nat) = (0 : Nat)) ∧ (true = true ∧ NilNil ∧
 (0 : Nat) = (0 : Nat)) ∧ True) ∧ devB (putR x_3.fst x_3.snd.fst x_3.snd.snd.fst x_3.snd.snd.snd).s.ws = devB t'.snd.fst.ws ∧ allocB (putR x_3.fst x_3.snd.fst
 x_3.snd.snd.fst x_3.snd.snd.snd).s.a = allocB t'.snd.fst.a ∧ True) ∨ Exx (Nat × StoreT × Int × Nat × List Act20) fun t' => (J t' ∧ n t' < m t) ∧ (((5 : Nat) =
 (5 : Nat) ∧ x.fst.length = x.fst.length ∧ ∀ (i : Nat), i < x.fst.length → [AV.int IntKind.i64 (x.fst.getD i act20Z).slot, AV.bool (x.fst.getD i act20Z).x.live,
 AV.int IntKind.i64 (x.fst.getD i act20Z).x.gen, AV.int IntKind.i64 (x.fst.getD i act20Z).x.next, AV.bool (x.fst.getD i act20Z).mark] = [AV.int IntKind.i64
 (x.fst.getD i act20Z).slot, AV.bool (x.fst.getD i act20Z).x.live, AV.int IntKind.i64 (x.fst.getD i act20Z).x.gen, AV.int IntKind.i64 (x.fst.getD i
 act20Z).x.next, AV.bool (x.fst.getD i act20Z).mark]) ∧ Tr 1 (x.snd = x.snd) ∧ Tr 3 ((true = true ∧ NilNil ∧ (0 : Nat) = (0 : Nat)) ∧ Tr 1 ((true = true ∧ NilNil
 ∧ (0 : Nat) = (0 : Nat)) ∧ Tr 1 (t.snd.snd = t'.snd.snd.fst) ∧ (t'.snd.snd.snd.snd.length = 0 ∧ t'.snd.snd.snd.fst = 0) ∧ Tr 1 ((↑t.fst : Int) + 1 = (↑t'.fst :
 Int)) ∧ Tr 137 True))) ∧ true = true ∧ ((139 : TypeId) = (139 : TypeId) ∧ (true = true ∧ NilNil ∧ (0 : Nat) = (0 : Nat)) ∧ (true = true ∧ NilNil ∧ (0 : Nat) =
 (0 : Nat)) ∧ True) ∧ devB (putR x_3.fst x_3.snd.fst x_3.snd.snd.fst x_3.snd.snd.snd).s.ws = devB t'.snd.fst.ws ∧ allocB (putR x_3.fst x_3.snd.fst
 x_3.snd.snd.fst x_3.snd.snd.snd).s.a = allocB t'.snd.fst.a ∧ False ∧ True)))) (BC (!decide ((putR x_3.fst x_3.snd.fst x_3.snd.snd.fst x_3.snd.snd.snd).e = (0 :
 Int))) (Exx Unit fun y => ((false = true ∧ True) ∧ true = true ∧ True) ∧ True) ((0 : Nat) + (1 : Nat) ≤ (1 : Nat) ∧ ((1 : Nat) ≤ (9223372036854775807 : Nat) ∧
 (1 : Nat) * (40 : Nat) ≤ (140737488355328 : Nat)) ∧ ∀ (cap : Nat), 1 ≤ cap ∧ cap ≤ 9223372036854775807 → I64 ((↑t.fst : Int) + 1) ∧ ((Exx (Nat × StoreT × Int)
 fun t' => (I t' ∧ m t' < m t) ∧ (((5 : Nat) = (5 : Nat) ∧ x.fst.length = x.fst.length ∧ ∀ (i : Nat), i < x.fst.length → [AV.int IntKind.i64 (x.fst.getD i
 act20Z).slot, AV.bool (x.fst.getD i act20Z).x.live, AV.int IntKind.i64 (x.fst.getD i act20Z).x.gen, AV.int IntKind.i64 (x.fst.getD i act20Z).x.next, AV.bool
 (x.fst.getD i act20Z).mark] = [AV.int IntKind.i64 (x.fst.getD i act20Z).slot, AV.bool (x.fst.getD i act20Z).x.live, AV.int IntKind.i64 (x.fst.getD i
 act20Z).x.gen, AV.int IntKind.i64 (x.fst.getD i act20Z).x.next, AV.bool (x.fst.getD i act20Z).mark]) ∧ Tr 1 (x.snd = x.snd) ∧ Tr 3 ((true = true ∧ NilNil ∧ (0 :
 Nat) = (0 : Nat)) ∧ Tr 1 ((true = true ∧ NilNil ∧ (0 : Nat) = (0 : Nat)) ∧ Tr 1 ((putR x_3.fst x_3.snd.fst x_3.snd.snd.fst x_3.snd.snd.snd).at_ = t'.snd.snd) ∧
 False ∧ Tr 1 ((↑t.fst : Int) + 1 = (↑t'.fst : Int)) ∧ Tr 137 True))) ∧ true = true ∧ ((139 : TypeId) = (139 : TypeId) ∧ (true = true ∧ NilNil ∧ (0 : Nat) = (0 :
 Nat)) ∧ (true = true ∧ NilNil ∧ (0 : Nat) = (0 : Nat)) ∧ True) ∧ devB (putR x_3.fst x_3.snd.fst x_3.snd.snd.fst x_3.snd.snd.snd).s.ws = devB t'.snd.fst.ws ∧
 allocB (putR x_3.fst x_3.snd.fst x_3.snd.snd.fst x_3.snd.snd.snd).s.a = allocB t'.snd.fst.a ∧ True) ∨ Exx (Nat × StoreT × Int × Nat × List Act20) fun t' => (J
 t' ∧ n t' < m t) ∧ (((5 : Nat) = (5 : Nat) ∧ x.fst.length = x.fst.length ∧ ∀ (i : Nat), i < x.fst.length → [AV.int IntKind.i64 (x.fst.getD i act20Z).slot,
 AV.bool (x.fst.getD i act20Z).x.live, AV.int IntKind.i64 (x.fst.getD i act20Z).x.gen, AV.int IntKind.i64 (x.fst.getD i act20Z).x.next, AV.bool (x.fst.getD i
 act20Z).mark] = [AV.int IntKind.i64 (x.fst.getD i act20Z).slot, AV.bool (x.fst.getD i act20Z).x.live, AV.int IntKind.i64 (x.fst.getD i act20Z).x.gen, AV.int
 IntKind.i64 (x.fst.getD i act20Z).x.next, AV.bool (x.fst.getD i act20Z).mark]) ∧ Tr 1 (x.snd = x.snd) ∧ Tr 3 ((true = true ∧ NilNil ∧ (0 : Nat) = (0 : Nat)) ∧
 Tr 1 ((true = true ∧ NilNil ∧ (0 : Nat) = (0 : Nat)) ∧ Tr 1 ((putR x_3.fst x_3.snd.fst x_3.snd.snd.fst x_3.snd.snd.snd).at_ = t'.snd.snd.fst) ∧ (true = true ∧
 NilNil ∧ (0 : Nat) = (0 : Nat) ∧ (5 : Nat) = (5 : Nat) ∧ (0 : Nat) = (0 : Nat) ∧ 1 = t'.snd.snd.snd.snd.length ∧ cap = t'.snd.snd.snd.fst) ∧ Tr 1 ((↑t.fst :
 Int) + 1 = (↑t'.fst : Int)) ∧ Tr 137 True))) ∧ true = true ∧ ((139 : TypeId) = (139 : TypeId) ∧ (true = true ∧ NilNil ∧ (0 : Nat) = (0 : Nat)) ∧ (true = true ∧
 NilNil ∧ (0 : Nat) = (0 : Nat)) ∧ True) ∧ devB (putR x_3.fst x_3.snd.fst x_3.snd.snd.fst x_3.snd.snd.snd).s.ws = devB t'.snd.fst.ws ∧ allocB (putR x_3.fst
 x_3.snd.fst x_3.snd.snd.fst x_3.snd.snd.snd).s.a = allocB t'.snd.fst.a ∧ ((32 : TypeId) = (32 : TypeId) ∧ (5 : Nat) = (5 : Nat) ∧ cap = t'.snd.snd.snd.fst ∧
 t'.snd.snd.snd.snd.length ≤ 1 ∧ ∀ (i : Nat), i < t'.snd.snd.snd.snd.length → [AV.int IntKind.i64 (if 0 + i = 0 * 5 / 5 then (x.fst.getD (↑t.fst : Int).toNat
 act20Z).slot else 0), AV.bool (if 0 + i = 0 * 5 / 5 then (x.fst.getD (↑t.fst : Int).toNat act20Z).x.live else false), AV.int IntKind.i64 (if 0 + i = 0 * 5 / 5
 then (x.fst.getD (↑t.fst : Int).toNat act20Z).x.gen else 0), AV.int IntKind.i64 (if 0 + i = 0 * 5 / 5 then (x.fst.getD (↑t.fst : Int).toNat act20Z).x.next else
 0), AV.bool (if 0 + i = 0 * 5 / 5 then (x.fst.getD (↑t.fst : Int).toNat act20Z).mark else false)] = [AV.int IntKind.i64 (t'.snd.snd.snd.snd.getD i act20Z).slot,
 AV.bool (t'.snd.snd.snd.snd.getD i act20Z).x.live, AV.int IntKind.i64 (t'.snd.snd.snd.snd.getD i act20Z).x.gen, AV.int IntKind.i64 (t'.snd.snd.snd.snd.getD i
 act20Z).x.next, AV.bool (t'.snd.snd.snd.snd.getD i act20Z).mark]) ∧ True))))))) (Exx (Nat × StoreT × Int → Prop) fun I => Exx (Nat × StoreT × Int × Nat × List
 Act20 → Prop) fun J => Exx (Nat × StoreT × Int → Nat) fun m => Exx (Nat × StoreT × Int × Nat × List Act20 → Nat) fun n => ((Exx (Nat × StoreT × Int) fun t_1 =>
 I t_1 ∧ Tr 1 (Tr 1 (x.snd = x.snd) ∧ Tr 3 ((true = true ∧ NilNil ∧ (0 : Nat) = (0 : Nat)) ∧ Tr 2 (Tr 1 (t.snd.snd = t_1.snd.snd) ∧ Tr 5 (Tr 1 ((0 : Int) =
 (↑t_1.fst : Int)) ∧ Tr 133 True)))) ∧ true = true ∧ ((139 : TypeId) = (139 : TypeId) ∧ (true = true ∧ NilNil ∧ (0 : Nat) = (0 : Nat)) ∧ (true = true ∧ NilNil ∧
 (0 : Nat) = (0 : Nat)) ∧ True) ∧ devB t.snd.fst.ws = devB t_1.snd.fst.ws ∧ allocB t.snd.fst.a = allocB t_1.snd.fst.a ∧ True) ∨ Exx (Nat × StoreT × Int × Nat ×
 List Act20) fun t_1 => J t_1 ∧ Tr 1 (Tr 1 (x.snd = x.snd) ∧ Tr 3 ((true = true ∧ NilNil ∧ (0 : Nat) = (0 : Nat)) ∧ Tr 2 (Tr 1 (t.snd.snd = t_1.snd.snd.fst) ∧
 (t_1.snd.snd.snd.snd.length = 0 ∧ t_1.snd.snd.snd.fst = 0) ∧ Tr 4 (Tr 1 ((0 : Int) = (↑t_1.fst : Int)) ∧ Tr 133 True)))) ∧ true = true ∧ ((139 : TypeId) = (139
 : TypeId) ∧ (true = true ∧ NilNil ∧ (0 : Nat) = (0 : Nat)) ∧ (true = true ∧ NilNil ∧ (0 : Nat) = (0 : Nat)) ∧ True) ∧ devB t.snd.fst.ws = devB t_1.snd.fst.ws ∧
 allocB t.snd.fst.a = allocB t_1.snd.fst.a ∧ (t_1.snd.snd.snd.fst = 0 ∧ t_1.snd.snd.snd.snd.length = 0) ∧ True) ∧ (∀ (t : Nat × StoreT × Int), I t → Exx (StoreT
 × Int × Int) fun x_3 => (((true = true ∧ NilNil ∧ (0 : Nat) = (0 : Nat)) ∧ Tr 1 (t.snd.snd = x_3.snd.fst) ∧ Tr 1 (x.snd = x_3.snd.snd) ∧ True) ∧ true = true ∧
 ((139 : TypeId) = (139 : TypeId) ∧ (true = true ∧ NilNil ∧ (0 : Nat) = (0 : Nat)) ∧ (true = true ∧ NilNil ∧ (0 : Nat) = (0 : Nat)) ∧ True) ∧ devB t.snd.fst.ws =
 devB x_3.fst.ws ∧ allocB t.snd.fst.a = allocB x_3.fst.a ∧ True) ∧ (StoreW x_3.fst ∧ I64 x_3.snd.fst ∧ I64 x_3.snd.snd) ∧ ∀ (y : Unit), True → BC (decide (x.snd
 < (0 : Int))) (BC (decide (walkErr x_3.fst.ws x_3.snd.fst x_3.snd.snd = (2 : Int))) (Tr 3 True ∧ Tr 3 True ∧ ∀ (b : Bool), (b = true ↔ (findS x_3.fst.ws
 x_3.snd.fst x_3.snd.snd).live = false ∧ (findS x_3.fst.ws x_3.snd.fst x_3.snd.snd).gen = (0 : Int) ∧ (findS x_3.fst.ws x_3.snd.fst x_3.snd.snd).next = (0 : Int)
 ∧ True) → Exx Unit fun y => ((b = true ∧ True) ∧ true = true ∧ True) ∧ True) (Exx Unit fun y => ((false = true ∧ True) ∧ true = true ∧ True) ∧ True)) (BC
 (decide ((1791 : Int) < x.snd)) (BC (decide (walkErr x_3.fst.ws x_3.snd.fst x_3.snd.snd = (2 : Int))) (Tr 3 True ∧ Tr 3 True ∧ ∀ (b : Bool), (b = true ↔ (findS
 x_3.fst.ws x_3.snd.fst x_3.snd.snd).live = false ∧ (findS x_3.fst.ws x_3.snd.fst x_3.snd.snd).gen = (0 : Int) ∧ (findS x_3.fst.ws x_3.snd.fst x_3.snd.snd).next
 = (0 : Int) ∧ True) → Exx Unit fun y => ((b = true ∧ True) ∧ true = true ∧ True) ∧ True) (Exx Unit fun y => ((false = true ∧ True) ∧ true = true ∧ True) ∧
 True)) (BC (decide (walkErr x_3.fst.ws x_3.snd.fst x_3.snd.snd = (0 : Int))) ((Exx (List Act20 × Int) fun x_4 => (((0 = x_4.fst.length ∧ ∀ (i : Nat), i <
 x_4.fst.length → [] = [AV.int IntKind.i64 (x_4.fst.getD i act20Z).slot, AV.bool (x_4.fst.getD i act20Z).x.live, AV.int IntKind.i64 (x_4.fst.getD i
 act20Z).x.gen, AV.int IntKind.i64 (x_4.fst.getD i act20Z).x.next, AV.bool (x_4.fst.getD i act20Z).mark]) ∧ Tr 1 (x.snd = x_4.snd) ∧ True) ∧ true = true ∧ True)
 ∧ (Acts20 x_4.fst ∧ I64 x_4.snd) ∧ ∀ (y : Unit), True → Tr 3 True ∧ Tr 3 True ∧ ∀ (b : Bool), (b = true ↔ (findS x_3.fst.ws x_3.snd.fst x_3.snd.snd).live =
 (lastS x_4.fst x_4.snd).live ∧ (findS x_3.fst.ws x_3.snd.fst x_3.snd.snd).gen = (lastS x_4.fst x_4.snd).gen ∧ (findS x_3.fst.ws x_3.snd.fst x_3.snd.snd).next =
 (lastS x_4.fst x_4.snd).next ∧ True) → Exx Unit fun y => ((b = true ∧ True) ∧ true = true ∧ True) ∧ True) ∧ Exx (List Act20 × Int) fun x_4 => (((0 =
 x_4.fst.length ∧ ∀ (i : Nat), i < x_4.fst.length → [] = [AV.int IntKind.i64 (x_4.fst.getD i act20Z).slot, AV.bool (x_4.fst.getD i act20Z).x.live, AV.int
 IntKind.i64 (x_4.fst.getD i act20Z).x.gen, AV.int IntKind.i64 (x_4.fst.getD i act20Z).x.next, AV.bool (x_4.fst.getD i act20Z).mark]) ∧ Tr 1 (x.snd = x_4.snd) ∧
 True) ∧ true = true ∧ True) ∧ (Acts20 x_4.fst ∧ I64 x_4.snd) ∧ ∀ (y : Unit), True → Tr 3 True ∧ Tr 3 True ∧ ∀ (b : Bool), (b = true ↔ (findS x_3.fst.ws
 x_3.snd.fst x_3.snd.snd).live = (lastS x_4.fst x_4.snd).live ∧ (findS x_3.fst.ws x_3.snd.fst x_3.snd.snd).gen = (lastS x_4.fst x_4.snd).gen ∧ (findS x_3.fst.ws
 x_3.snd.fst x_3.snd.snd).next = (lastS x_4.fst x_4.snd).next ∧ True) → Exx Unit fun y => ((b = true ∧ True) ∧ true = true ∧ True) ∧ True) (Exx Unit fun y =>
 ((false = true ∧ True) ∧ true = true ∧ True) ∧ True)))) ∧ ∀ (t : Nat × StoreT × Int × Nat × List Act20), J t → BC (decide ((↑t.fst : Int) <
 (↑t.snd.snd.snd.snd.length : Int))) (((0 : Int) ≤ (↑t.fst : Int) ∧ (↑t.fst : Int) < (↑t.snd.snd.snd.snd.length : Int)) ∧ 0 + (↑t.fst : Int).toNat <
 t.snd.snd.snd.snd.length ∧ Exx (StoreT × Int × Int) fun x_3 => (((true = true ∧ NilNil ∧ (0 : Nat) = (0 : Nat)) ∧ Tr 1 (t.snd.snd.fst = x_3.snd.fst) ∧ Tr 1
 ((t.snd.snd.snd.snd.getD (0 + (↑t.fst : Int).toNat) act20Z).slot = x_3.snd.snd) ∧ True) ∧ true = true ∧ ((139 : TypeId) = (139 : TypeId) ∧ (true = true ∧ NilNil
 ∧ (0 : Nat) = (0 : Nat)) ∧ (true = true ∧ NilNil ∧ (0 : Nat) = (0 : Nat)) ∧ True) ∧ devB t.snd.fst.ws = devB x_3.fst.ws ∧ allocB t.snd.fst.a = allocB x_3.fst.a
 ∧ True) ∧ (StoreW x_3.fst ∧ I64 x_3.snd.fst ∧ I64 x_3.snd.snd) ∧ ∀ (y : Unit), True → BC (!decide (walkErr x_3.fst.ws x_3.snd.fst x_3.snd.snd = (0 : Int))) (Exx
 Unit fun y => ((false = true ∧ True) ∧ true = true ∧ True) ∧ True) (((0 : Int) ≤ (↑t.fst : Int) ∧ (↑t.fst : Int) < (↑t.snd.snd.snd.snd.length : Int)) ∧ 0 +
 (↑t.fst : Int).toNat < t.snd.snd.snd.snd.length ∧ Exx (List Act20 × Int) fun x_4 => (((0 + t.snd.snd.snd.snd.length ≤ t.snd.snd.snd.snd.length ∧
 t.snd.snd.snd.snd.length = x_4.fst.length ∧ ∀ (i : Nat), i < x_4.fst.length → [AV.int IntKind.i64 (t.snd.snd.snd.snd.getD (0 + i) act20Z).slot, AV.bool
 (t.snd.snd.snd.snd.getD (0 + i) act20Z).x.live, AV.int IntKind.i64 (t.snd.snd.snd.snd.getD (0 + i) act20Z).x.gen, AV.int IntKind.i64 (t.snd.snd.snd.snd.getD (0
 + i) act20Z).x.next, AV.bool (t.snd.snd.snd.snd.getD (0 + i) act20Z).mark] = [AV.int IntKind.i64 (x_4.fst.getD i act20Z).slot, AV.bool (x_4.fst.getD i
 act20Z).x.live, AV.int IntKind.i64 (x_4.fst.getD i act20Z).x.gen, AV.int IntKind.i64 (x_4.fst.getD i act20Z).x.next, AV.bool (x_4.fst.getD i act20Z).mark]) ∧ Tr
 1 ((t.snd.snd.snd.snd.getD (0 + (↑t.fst : Int).toNat) act20Z).slot = x_4.snd) ∧ True) ∧ true = true ∧ True) ∧ (Acts20 x_4.fst ∧ I64 x_4.snd) ∧ ∀ (y : Unit),
 True → Tr 3 True ∧ Tr 3 True ∧ ∀ (b : Bool), (b = true ↔ (findS x_3.fst.ws x_3.snd.fst x_3.snd.snd).live = (lastS x_4.fst x_4.snd).live ∧ (findS x_3.fst.ws
 x_3.snd.fst x_3.snd.snd).gen = (lastS x_4.fst x_4.snd).gen ∧ (findS x_3.fst.ws x_3.snd.fst x_3.snd.snd).next = (lastS x_4.fst x_4.snd).next ∧ True) → BC (!b)
 (Exx Unit fun y => ((false = true ∧ True) ∧ true = true ∧ True) ∧ True) (I64 ((↑t.fst : Int) + 1) ∧ ((Exx (Nat × StoreT × Int) fun t' => (I t' ∧ m t' < n t) ∧
 Tr 1 (Tr 1 (x.snd = x.snd) ∧ Tr 3 ((true = true ∧ NilNil ∧ (0 : Nat) = (0 : Nat)) ∧ Tr 2 (Tr 1 (t.snd.snd.fst = t'.snd.snd) ∧ False ∧ Tr 4 (Tr 1 ((↑t.fst : Int)
 + 1 = (↑t'.fst : Int)) ∧ Tr 133 True)))) ∧ true = true ∧ ((139 : TypeId) = (139 : TypeId) ∧ (true = true ∧ NilNil ∧ (0 : Nat) = (0 : Nat)) ∧ (true = true ∧
 NilNil ∧ (0 : Nat) = (0 : Nat)) ∧ True) ∧ devB x_3.fst.ws = devB t'.snd.fst.ws ∧ allocB x_3.fst.a = allocB t'.snd.fst.a ∧ True) ∨ Exx (Nat × StoreT × Int × Nat
 × List Act20) fun t' => (J t' ∧ n t' < n t) ∧ Tr 1 (Tr 1 (x.snd = x.snd) ∧ Tr 3 ((true = true ∧ NilNil ∧ (0 : Nat) = (0 : Nat)) ∧ Tr 2 (Tr 1 (t.snd.snd.fst =
 t'.snd.snd.fst) ∧ (true = true ∧ NilNil ∧ (0 : Nat) = (0 : Nat) ∧ (5 : Nat) = (5 : Nat) ∧ (0 : Nat) = (0 : Nat) ∧ t.snd.snd.snd.snd.length =
 t'.snd.snd.snd.snd.length ∧ t.snd.snd.snd.fst = t'.snd.snd.snd.fst) ∧ Tr 4 (Tr 1 ((↑t.fst : Int) + 1 = (↑t'.fst : Int)) ∧ Tr 133 True)))) ∧ true = true ∧ ((139
 : TypeId) = (139 : TypeId) ∧ (true = true ∧ NilNil ∧ (0 : Nat) = (0 : Nat)) ∧ (true = true ∧ NilNil ∧ (0 : Nat) = (0 : Nat)) ∧ True) ∧ devB x_3.fst.ws = devB
 t'.snd.fst.ws ∧ allocB x_3.fst.a = allocB t'.snd.fst.a ∧ ((32 : TypeId) = (32 : TypeId) ∧ (5 : Nat) = (5 : Nat) ∧ t.snd.snd.snd.fst = t'.snd.snd.snd.fst ∧
 t'.snd.snd.snd.snd.length ≤ t.snd.snd.snd.snd.length ∧ ∀ (i : Nat), i < t'.snd.snd.snd.snd.length → [AV.int IntKind.i64 (t.snd.snd.snd.snd.getD i act20Z).slot,
 AV.bool (t.snd.snd.snd.snd.getD i act20Z).x.live, AV.int IntKind.i64 (t.snd.snd.snd.snd.getD i act20Z).x.gen, AV.int IntKind.i64 (t.snd.snd.snd.snd.getD i
 act20Z).x.next, AV.bool (t.snd.snd.snd.snd.getD i act20Z).mark] = [AV.int IntKind.i64 (t'.snd.snd.snd.snd.getD i act20Z).slot, AV.bool (t'.snd.snd.snd.snd.getD
 i act20Z).x.live, AV.int IntKind.i64 (t'.snd.snd.snd.snd.getD i act20Z).x.gen, AV.int IntKind.i64 (t'.snd.snd.snd.snd.getD i act20Z).x.next, AV.bool
 (t'.snd.snd.snd.snd.getD i act20Z).mark]) ∧ True)))) (Exx (StoreT × Int × Int) fun x_3 => (((true = true ∧ NilNil ∧ (0 : Nat) = (0 : Nat)) ∧ Tr 1 (t.snd.snd.fst
 = x_3.snd.fst) ∧ Tr 1 (x.snd = x_3.snd.snd) ∧ True) ∧ true = true ∧ ((139 : TypeId) = (139 : TypeId) ∧ (true = true ∧ NilNil ∧ (0 : Nat) = (0 : Nat)) ∧ (true =
 true ∧ NilNil ∧ (0 : Nat) = (0 : Nat)) ∧ True) ∧ devB t.snd.fst.ws = devB x_3.fst.ws ∧ allocB t.snd.fst.a = allocB x_3.fst.a ∧ True) ∧ (StoreW x_3.fst ∧ I64
 x_3.snd.fst ∧ I64 x_3.snd.snd) ∧ ∀ (y : Unit), True → BC (decide (x.snd < (0 : Int))) (BC (decide (walkErr x_3.fst.ws x_3.snd.fst x_3.snd.snd = (2 : Int))) (Tr
 3 True ∧ Tr 3 True ∧ ∀ (b : Bool), (b = true ↔ (findS x_3.fst.ws x_3.snd.fst x_3.snd.snd).live = false ∧ (findS x_3.fst.ws x_3.snd.fst x_3.snd.snd).gen = (0 :
 Int) ∧ (findS x_3.fst.ws x_3.snd.fst x_3.snd.snd).next = (0 : Int) ∧ True) → Exx Unit fun y => ((b = true ∧ True) ∧ true = true ∧ True) ∧ True) (Exx Unit fun y
 => ((false = true ∧ True) ∧ true = true ∧ True) ∧ True)) (BC (decide ((1791 : Int) < x.snd)) (BC (decide (walkErr x_3.fst.ws x_3.snd.fst x_3.snd.snd = (2 :
 Int))) (Tr 3 True ∧ Tr 3 True ∧ ∀ (b : Bool), (b = true ↔ (findS x_3.fst.ws x_3.snd.fst x_3.snd.snd).live = false ∧ (findS x_3.fst.ws x_3.snd.fst
 x_3.snd.snd).gen = (0 : Int) ∧ (findS x_3.fst.ws x_3.snd.fst x_3.snd.snd).next = (0 : Int) ∧ True) → Exx Unit fun y => ((b = true ∧ True) ∧ true = true ∧ True)
 ∧ True) (Exx Unit fun y => ((false = true ∧ True) ∧ true = true ∧ True) ∧ True)) (BC (decide (walkErr x_3.fst.ws x_3.snd.fst x_3.snd.snd = (0 : Int))) (Exx
 (List Act20 × Int) fun x_4 => (((0 + t.snd.snd.snd.snd.length ≤ t.snd.snd.snd.snd.length ∧ t.snd.snd.snd.snd.length = x_4.fst.length ∧ ∀ (i : Nat), i <
 x_4.fst.length → [AV.int IntKind.i64 (t.snd.snd.snd.snd.getD (0 + i) act20Z).slot, AV.bool (t.snd.snd.snd.snd.getD (0 + i) act20Z).x.live, AV.int IntKind.i64
 (t.snd.snd.snd.snd.getD (0 + i) act20Z).x.gen, AV.int IntKind.i64 (t.snd.snd.snd.snd.getD (0 + i) act20Z).x.next, AV.bool (t.snd.snd.snd.snd.getD (0 + i)
 act20Z).mark] = [AV.int IntKind.i64 (x_4.fst.getD i act20Z).slot, AV.bool (x_4.fst.getD i act20Z).x.live, AV.int IntKind.i64 (x_4.fst.getD i act20Z).x.gen,
 AV.int IntKind.i64 (x_4.fst.getD i act20Z).x.next, AV.bool (x_4.fst.getD i act20Z).mark]) ∧ Tr 1 (x.snd = x_4.snd) ∧ True) ∧ true = true ∧ True) ∧ (Acts20
 x_4.fst ∧ I64 x_4.snd) ∧ ∀ (y : Unit), True → Tr 3 True ∧ Tr 3 True ∧ ∀ (b : Bool), (b = true ↔ (findS x_3.fst.ws x_3.snd.fst x_3.snd.snd).live = (lastS x_4.fst
 x_4.snd).live ∧ (findS x_3.fst.ws x_3.snd.fst x_3.snd.snd).gen = (lastS x_4.fst x_4.snd).gen ∧ (findS x_3.fst.ws x_3.snd.fst x_3.snd.snd).next = (lastS x_4.fst
 x_4.snd).next ∧ True) → Exx Unit fun y => ((b = true ∧ True) ∧ true = true ∧ True) ∧ True) (Exx Unit fun y => ((false = true ∧ True) ∧ true = true ∧ True) ∧
 True)))))) ∧ ∀ (t : Nat × StoreT × Int × Nat × List Act20), J t → BC (decide ((↑t.fst : Int) < (↑x.fst.length : Int))) (((0 : Int) ≤ (↑t.fst : Int) ∧ (↑t.fst :
 Int) < (↑x.fst.length : Int)) ∧ BC (x.fst.getD (↑t.fst : Int).toNat act20Z).mark (Exx (AllocT × Unit) fun x_3 => (((true = true ∧ NilNil ∧ (0 : Nat) = (0 :
 Nat)) ∧ True) ∧ true = true ∧ allocB t.snd.fst.a = allocB x_3.fst ∧ True) ∧ (AllocW x_3.fst ∧ True) ∧ ∀ (y : Unit), True → Exx (StoreT × Int × Int × SeatT) fun
 x_4 => (((true = true ∧ NilNil ∧ (0 : Nat) = (0 : Nat)) ∧ Tr 1 (t.snd.snd.fst = x_4.snd.fst) ∧ Tr 1 ((x.fst.getD (↑t.fst : Int).toNat act20Z).slot =
 x_4.snd.snd.fst) ∧ ((x.fst.getD (↑t.fst : Int).toNat act20Z).x.live = x_4.snd.snd.snd.live ∧ Tr 1 ((x.fst.getD (↑t.fst : Int).toNat act20Z).x.gen =
 x_4.snd.snd.snd.gen) ∧ Tr 1 ((x.fst.getD (↑t.fst : Int).toNat act20Z).x.next = x_4.snd.snd.snd.next) ∧ True) ∧ True) ∧ true = true ∧ ((139 : TypeId) = (139 :
 TypeId) ∧ (true = true ∧ NilNil ∧ (0 : Nat) = (0 : Nat)) ∧ (true = true ∧ NilNil ∧ (0 : Nat) = (0 : Nat)) ∧ True) ∧ devB t.snd.fst.ws = devB x_4.fst.ws ∧ allocB
 (markS x_3.fst) = allocB x_4.fst.a ∧ True) ∧ (StoreW x_4.fst ∧ I64 x_4.snd.fst ∧ I64 x_4.snd.snd.fst ∧ SeatI x_4.snd.snd.snd) ∧ ∀ (y : Unit), True → BC (decide
 ((x.fst.getD (↑t.fst : Int).toNat act20Z).slot < (0 : Int))) (BC (!decide ((putR x_4.fst x_4.snd.fst x_4.snd.snd.fst x_4.snd.snd.snd).e = (2 : Int))) (Exx Unit
 fun y => ((false = true ∧ True) ∧ true = true ∧ True) ∧ True) (BC (!decide ((putR x_4.fst x_4.snd.fst x_4.snd.snd.fst x_4.snd.snd.snd).at_ = (0 : Int))) (Exx
 Unit fun y => ((false = true ∧ True) ∧ true = true ∧ True) ∧ True) (I64 ((↑t.fst : Int) + 1) ∧ ((Exx (Nat × StoreT × Int) fun t' => (I t' ∧ m t' < n t) ∧ (((5 :
 Nat) = (5 : Nat) ∧ x.fst.length = x.fst.length ∧ ∀ (i : Nat), i < x.fst.length → [AV.int IntKind.i64 (x.fst.getD i act20Z).slot, AV.bool (x.fst.getD i
 act20Z).x.live, AV.int IntKind.i64 (x.fst.getD i act20Z).x.gen, AV.int IntKind.i64 (x.fst.getD i act20Z).x.next, AV.bool (x.fst.getD i act20Z).mark] = [AV.int
 IntKind.i64 (x.fst.getD i act20Z).slot, AV.bool (x.fst.getD i act20Z).x.live, AV.int IntKind.i64 (x.fst.getD i act20Z).x.gen, AV.int IntKind.i64 (x.fst.getD i
 act20Z).x.next, AV.bool (x.fst.getD i act20Z).mark]) ∧ Tr 1 (x.snd = x.snd) ∧ Tr 3 ((true = true ∧ NilNil ∧ (0 : Nat) = (0 : Nat)) ∧ Tr 1 ((true = true ∧ NilNil
 ∧ (0 : Nat) = (0 : Nat)) ∧ Tr 1 (t.snd.snd.fst = t'.snd.snd) ∧ False ∧ Tr 1 ((↑t.fst : Int) + 1 = (↑t'.fst : Int)) ∧ Tr 137 True))) ∧ true = true ∧ ((139 :
 TypeId) = (139 : TypeId) ∧ (true = true ∧ NilNil ∧ (0 : Nat) = (0 : Nat)) ∧ (true = true ∧ NilNil ∧ (0 : Nat) = (0 : Nat)) ∧ True) ∧ devB (putR x_4.fst
 x_4.snd.fst x_4.snd.snd.fst x_4.snd.snd.snd).s.ws = devB t'.snd.fst.ws ∧ allocB (putR x_4.fst x_4.snd.fst x_4.snd.snd.fst x_4.snd.snd.snd).s.a = allocB
 t'.snd.fst.a ∧ True) ∨ Exx (Nat × StoreT × Int × Nat × List Act20) fun t' => (J t' ∧ n t' < n t) ∧ (((5 : Nat) = (5 : Nat) ∧ x.fst.length = x.fst.length ∧ ∀ (i
 : Nat), i < x.fst.length → [AV.int IntKind.i64 (x.fst.getD i act20Z).slot, AV.bool (x.fst.getD i act20Z).x.live, AV.int IntKind.i64 (x.fst.getD i act20Z).x.gen,
 AV.int IntKind.i64 (x.fst.getD i act20Z).x.next, AV.bool (x.fst.getD i act20Z).mark] = [AV.int IntKind.i64 (x.fst.getD i act20Z).slot, AV.bool (x.fst.getD i
 act20Z).x.live, AV.int IntKind.i64 (x.fst.getD i act20Z).x.gen, AV.int IntKind.i64 (x.fst.getD i act20Z).x.next, AV.bool (x.fst.getD i act20Z).mark]) ∧ Tr 1
 (x.snd = x.snd) ∧ Tr 3 ((true = true ∧ NilNil ∧ (0 : Nat) = (0 : Nat)) ∧ Tr 1 ((true = true ∧ NilNil ∧ (0 : Nat) = (0 : Nat)) ∧ Tr 1 (t.snd.snd.fst =
 t'.snd.snd.fst) ∧ (true = true ∧ NilNil ∧ (0 : Nat) = (0 : Nat) ∧ (5 : Nat) = (5 : Nat) ∧ (0 : Nat) = (0 : Nat) ∧ t.snd.snd.snd.snd.length =
 t'.snd.snd.snd.snd.length ∧ t.snd.snd.snd.fst = t'.snd.snd.snd.fst) ∧ Tr 1 ((↑t.fst : Int) + 1 = (↑t'.fst : Int)) ∧ Tr 137 True))) ∧ true = true ∧ ((139 :
 TypeId) = (139 : TypeId) ∧ (true = true ∧ NilNil ∧ (0 : Nat) = (0 : Nat)) ∧ (true = true ∧ NilNil ∧ (0 : Nat) = (0 : Nat)) ∧ True) ∧ devB (putR x_4.fst
 x_4.snd.fst x_4.snd.snd.fst x_4.snd.snd.snd).s.ws = devB t'.snd.fst.ws ∧ allocB (putR x_4.fst x_4.snd.fst x_4.snd.snd.fst x_4.snd.snd.snd).s.a = allocB
 t'.snd.fst.a ∧ ((32 : TypeId) = (32 : TypeId) ∧ (5 : Nat) = (5 : Nat) ∧ t.snd.snd.snd.fst = t'.snd.snd.snd.fst ∧ t'.snd.snd.snd.snd.length ≤
 t.snd.snd.snd.snd.length ∧ ∀ (i : Nat), i < t'.snd.snd.snd.snd.length → [AV.int IntKind.i64 (t.snd.snd.snd.snd.getD i act20Z).slot, AV.bool
 (t.snd.snd.snd.snd.getD i act20Z).x.live, AV.int IntKind.i64 (t.snd.snd.snd.snd.getD i act20Z).x.gen, AV.int IntKind.i64 (t.snd.snd.snd.snd.getD i
 act20Z).x.next, AV.bool (t.snd.snd.snd.snd.getD i act20Z).mark] = [AV.int IntKind.i64 (t'.snd.snd.snd.snd.getD i act20Z).slot, AV.bool (t'.snd.snd.snd.snd.getD
 i act20Z).x.live, AV.int IntKind.i64 (t'.snd.snd.snd.snd.getD i act20Z).x.gen, AV.int IntKind.i64 (t'.snd.snd.snd.snd.getD i act20Z).x.next, AV.bool
 (t'.snd.snd.snd.snd.getD i act20Z).mark]) ∧ True)))) (BC (decide ((1791 : Int) < (x.fst.getD (↑t.fst : Int).toNat act20Z).slot)) (BC (!decide ((putR x_4.fst
 x_4.snd.fst x_4.snd.snd.fst x_4.snd.snd.snd).e = (2 : Int))) (Exx Unit fun y => ((false = true ∧ True) ∧ true = true ∧ True) ∧ True) (BC (!decide ((putR x_4.fst
 x_4.snd.fst x_4.snd.snd.fst x_4.snd.snd.snd).at_ = (0 : Int))) (Exx Unit fun y => ((false = true ∧ True) ∧ true = true ∧ True) ∧ True) (I64 ((↑t.fst : Int) + 1)
 ∧ ((Exx (Nat × StoreT × Int) fun t' => (I t' ∧ m t' < n t) ∧ (((5 : Nat) = (5 : Nat) ∧ x.fst.length = x.fst.length ∧ ∀ (i : Nat), i < x.fst.length → [AV.int
 IntKind.i64 (x.fst.getD i act20Z).slot, AV.bool (x.fst.getD i act20Z).x.live, AV.int IntKind.i64 (x.fst.getD i act20Z).x.gen, AV.int IntKind.i64 (x.fst.getD i
 act20Z).x.next, AV.bool (x.fst.getD i act20Z).mark] = [AV.int IntKind.i64 (x.fst.getD i act20Z).slot, AV.bool (x.fst.getD i act20Z).x.live, AV.int IntKind.i64
 (x.fst.getD i act20Z).x.gen, AV.int IntKind.i64 (x.fst.getD i act20Z).x.next, AV.bool (x.fst.getD i act20Z).mark]) ∧ Tr 1 (x.snd = x.snd) ∧ Tr 3 ((true = true ∧
 NilNil ∧ (0 : Nat) = (0 : Nat)) ∧ Tr 1 ((true = true ∧ NilNil ∧ (0 : Nat) = (0 : Nat)) ∧ Tr 1 (t.snd.snd.fst = t'.snd.snd) ∧ False ∧ Tr 1 ((↑t.fst : Int) + 1 =
 (↑t'.fst : Int)) ∧ Tr 137 True))) ∧ true = true ∧ ((139 : TypeId) = (139 : TypeId) ∧ (true = true ∧ NilNil ∧ (0 : Nat) = (0 : Nat)) ∧ (true = true ∧ NilNil ∧ (0
 : Nat) = (0 : Nat)) ∧ True) ∧ devB (putR x_4.fst x_4.snd.fst x_4.snd.snd.fst x_4.snd.snd.snd).s.ws = devB t'.snd.fst.ws ∧ allocB (putR x_4.fst x_4.snd.fst
 x_4.snd.snd.fst x_4.snd.snd.snd).s.a = allocB t'.snd.fst.a ∧ True) ∨ Exx (Nat × StoreT × Int × Nat × List Act20) fun t' => (J t' ∧ n t' < n t) ∧ (((5 : Nat) =
 (5 : Nat) ∧ x.fst.length = x.fst.length ∧ ∀ (i : Nat), i < x.fst.length → [AV.int IntKind.i64 (x.fst.getD i act20Z).slot, AV.bool (x.fst.getD i act20Z).x.live,
 AV.int IntKind.i64 (x.fst.getD i act20Z).x.gen, AV.int IntKind.i64 (x.fst.getD i act20Z).x.next, AV.bool (x.fst.getD i act20Z).mark] = [AV.int IntKind.i64
 (x.fst.getD i act20Z).slot, AV.bool (x.fst.getD i act20Z).x.live, AV.int IntKind.i64 (x.fst.getD i act20Z).x.gen, AV.int IntKind.i64 (x.fst.getD i
 act20Z).x.next, AV.bool (x.fst.getD i act20Z).mark]) ∧ Tr 1 (x.snd = x.snd) ∧ Tr 3 ((true = true ∧ NilNil ∧ (0 : Nat) = (0 : Nat)) ∧ Tr 1 ((true = true ∧ NilNil
 ∧ (0 : Nat) = (0 : Nat)) ∧ Tr 1 (t.snd.snd.fst = t'.snd.snd.fst) ∧ (true = true ∧ NilNil ∧ (0 : Nat) = (0 : Nat) ∧ (5 : Nat) = (5 : Nat) ∧ (0 : Nat) = (0 : Nat)
 ∧ t.snd.snd.snd.snd.length = t'.snd.snd.snd.snd.length ∧ t.snd.snd.snd.fst = t'.snd.snd.snd.fst) ∧ Tr 1 ((↑t.fst : Int) + 1 = (↑t'.fst : Int)) ∧ Tr 137 True)))
 ∧ true = true ∧ ((139 : TypeId) = (139 : TypeId) ∧ (true = true ∧ NilNil ∧ (0 : Nat) = (0 : Nat)) ∧ (true = true ∧ NilNil ∧ (0 : Nat) = (0 : Nat)) ∧ True) ∧
 devB (putR x_4.fst x_4.snd.fst x_4.snd.snd.fst x_4.snd.snd.snd).s.ws = devB t'.snd.fst.ws ∧ allocB (putR x_4.fst x_4.snd.fst x_4.snd.snd.fst
 x_4.snd.snd.snd).s.a = allocB t'.snd.fst.a ∧ ((32 : TypeId) = (32 : TypeId) ∧ (5 : Nat) = (5 : Nat) ∧ t.snd.snd.snd.fst = t'.snd.snd.snd.fst ∧
 t'.snd.snd.snd.snd.length ≤ t.snd.snd.snd.snd.length ∧ ∀ (i : Nat), i < t'.snd.snd.snd.snd.length → [AV.int IntKind.i64 (t.snd.snd.snd.snd.getD i act20Z).slot,
 AV.bool (t.snd.snd.snd.snd.getD i act20Z).x.live, AV.int IntKind.i64 (t.snd.snd.snd.snd.getD i act20Z).x.gen, AV.int IntKind.i64 (t.snd.snd.snd.snd.getD i
 act20Z).x.next, AV.bool (t.snd.snd.snd.snd.getD i act20Z).mark] = [AV.int IntKind.i64 (t'.snd.snd.snd.snd.getD i act20Z).slot, AV.bool (t'.snd.snd.snd.snd.getD
 i act20Z).x.live, AV.int IntKind.i64 (t'.snd.snd.snd.snd.getD i act20Z).x.gen, AV.int IntKind.i64 (t'.snd.snd.snd.snd.getD i act20Z).x.next, AV.bool
 (t'.snd.snd.snd.snd.getD i act20Z).mark]) ∧ True)))) (Exx SeatT fun x_5 => ((((x.fst.getD (↑t.fst : Int).toNat act20Z).x.live = x_5.live ∧ Tr 1 ((x.fst.getD
 (↑t.fst : Int).toNat act20Z).x.gen = x_5.gen) ∧ Tr 1 ((x.fst.getD (↑t.fst : Int).toNat act20Z).x.next = x_5.next) ∧ True) ∧ True) ∧ true = true ∧ True) ∧ SeatI
 x_5 ∧ ∀ (y : Unit), True → BC (!decide (seatOk x_5)) (BC (!decide ((putR x_4.fst x_4.snd.fst x_4.snd.snd.fst x_4.snd.snd.snd).e = (2 : Int))) (Exx Unit fun y =>
 ((false = true ∧ True) ∧ true = true ∧ True) ∧ True) (BC (!decide ((putR x_4.fst x_4.snd.fst x_4.snd.snd.fst x_4.snd.snd.snd).at_ = (0 : Int))) (Exx Unit fun y
 => ((false = true ∧ True) ∧ true = true ∧ True) ∧ True) (I64 ((↑t.fst : Int) + 1) ∧ ((Exx (Nat × StoreT × Int) fun t' => (I t' ∧ m t' < n t) ∧ (((5 : Nat) = (5
 : Nat) ∧ x.fst.length = x.fst.length ∧ ∀ (i : Nat), i < x.fst.length → [AV.int IntKind.i64 (x.fst.getD i act20Z).slot, AV.bool (x.fst.getD i act20Z).x.live,
 AV.int IntKind.i64 (x.fst.getD i act20Z).x.gen, AV.int IntKind.i64 (x.fst.getD i act20Z).x.next, AV.bool (x.fst.getD i act20Z).mark] = [AV.int IntKind.i64
 (x.fst.getD i act20Z).slot, AV.bool (x.fst.getD i act20Z).x.live, AV.int IntKind.i64 (x.fst.getD i act20Z).x.gen, AV.int IntKind.i64 (x.fst.getD i
 act20Z).x.next, AV.bool (x.fst.getD i act20Z).mark]) ∧ Tr 1 (x.snd = x.snd) ∧ Tr 3 ((true = true ∧ NilNil ∧ (0 : Nat) = (0 : Nat)) ∧ Tr 1 ((true = true ∧ NilNil
 ∧ (0 : Nat) = (0 : Nat)) ∧ Tr 1 (t.snd.snd.fst = t'.snd.snd) ∧ False ∧ Tr 1 ((↑t.fst : Int) + 1 = (↑t'.fst : Int)) ∧ Tr 137 True))) ∧ true = true ∧ ((139 :
 TypeId) = (139 : TypeId) ∧ (true = true ∧ NilNil ∧ (0 : Nat) = (0 : Nat)) ∧ (true = true ∧ NilNil ∧ (0 : Nat) = (0 : Nat)) ∧ True) ∧ devB (putR x_4.fst
 x_4.snd.fst x_4.snd.snd.fst x_4.snd.snd.snd).s.ws = devB t'.snd.fst.ws ∧ allocB (putR x_4.fst x_4.snd.fst x_4.snd.snd.fst x_4.snd.snd.snd).s.a = allocB
 t'.snd.fst.a ∧ True) ∨ Exx (Nat × StoreT × Int × Nat × List Act20) fun t' => (J t' ∧ n t' < n t) ∧ (((5 : Nat) = (5 : Nat) ∧ x.fst.length = x.fst.length ∧ ∀ (i
 : Nat), i < x.fst.length → [AV.int IntKind.i64 (x.fst.getD i act20Z).slot, AV.bool (x.fst.getD i act20Z).x.live, AV.int IntKind.i64 (x.fst.getD i act20Z).x.gen,
 AV.int IntKind.i64 (x.fst.getD i act20Z).x.next, AV.bool (x.fst.getD i act20Z).mark] = [AV.int IntKind.i64 (x.fst.getD i act20Z).slot, AV.bool (x.fst.getD i
 act20Z).x.live, AV.int IntKind.i64 (x.fst.getD i act20Z).x.gen, AV.int IntKind.i64 (x.fst.getD i act20Z).x.next, AV.bool (x.fst.getD i act20Z).mark]) ∧ Tr 1
 (x.snd = x.snd) ∧ Tr 3 ((true = true ∧ NilNil ∧ (0 : Nat) = (0 : Nat)) ∧ Tr 1 ((true = true ∧ NilNil ∧ (0 : Nat) = (0 : Nat)) ∧ Tr 1 (t.snd.snd.fst =
 t'.snd.snd.fst) ∧ (true = true ∧ NilNil ∧ (0 : Nat) = (0 : Nat) ∧ (5 : Nat) = (5 : Nat) ∧ (0 : Nat) = (0 : Nat) ∧ t.snd.snd.snd.snd.length =
 t'.snd.snd.snd.snd.length ∧ t.snd.snd.snd.fst = t'.snd.snd.snd.fst) ∧ Tr 1 ((↑t.fst : Int) + 1 = (↑t'.fst : Int)) ∧ Tr 137 True))) ∧ true = true ∧ ((139 :
 TypeId) = (139 : TypeId) ∧ (true = true ∧ NilNil ∧ (0 : Nat) = (0 : Nat)) ∧ (true = true ∧ NilNil ∧ (0 : Nat) = (0 : Nat)) ∧ True) ∧ devB (putR x_4.fst
 x_4.snd.fst x_4.snd.snd.fst x_4.snd.snd.snd).s.ws = devB t'.snd.fst.ws ∧ allocB (putR x_4.fst x_4.snd.fst x_4.snd.snd.fst x_4.snd.snd.snd).s.a = allocB
 t'.snd.fst.a ∧ ((32 : TypeId) = (32 : TypeId) ∧ (5 : Nat) = (5 : Nat) ∧ t.snd.snd.snd.fst = t'.snd.snd.snd.fst ∧ t'.snd.snd.snd.snd.length ≤
 t.snd.snd.snd.snd.length ∧ ∀ (i : Nat), i < t'.snd.snd.snd.snd.length → [AV.int IntKind.i64 (t.snd.snd.snd.snd.getD i act20Z).slot, AV.bool
 (t.snd.snd.snd.snd.getD i act20Z).x.live, AV.int IntKind.i64 (t.snd.snd.snd.snd.getD i act20Z).x.gen, AV.int IntKind.i64 (t.snd.snd.snd.snd.getD i
 act20Z).x.next, AV.bool (t.snd.snd.snd.snd.getD i act20Z).mark] = [AV.int IntKind.i64 (t'.snd.snd.snd.snd.getD i act20Z).slot, AV.bool (t'.snd.snd.snd.snd.getD
 i act20Z).x.live, AV.int IntKind.i64 (t'.snd.snd.snd.snd.getD i act20Z).x.gen, AV.int IntKind.i64 (t'.snd.snd.snd.snd.getD i act20Z).x.next, AV.bool
 (t'.snd.snd.snd.snd.getD i act20Z).mark]) ∧ True)))) (BC (!decide ((putR x_4.fst x_4.snd.fst x_4.snd.snd.fst x_4.snd.snd.snd).e = (0 : Int))) (Exx Unit fun y =>
 ((false = true ∧ True) ∧ true = true ∧ True) ∧ True) ((0 : Nat) + (1 : Nat) ≤ (1 : Nat) ∧ true = true ∧ (t.snd.snd.snd.snd.length ≤ t.snd.snd.snd.snd.length ∧
 t.snd.snd.snd.fst = t.snd.snd.snd.fst) ∧ (t.snd.snd.snd.snd.length + 1 ≤ 9223372036854775807 ∧ (t.snd.snd.snd.snd.length + 1) * 40 ≤ 140737488355328) ∧ ∀ (cap :
 Nat), t.snd.snd.snd.snd.length + 1 ≤ cap ∧ cap ≤ 9223372036854775807 → I64 ((↑t.fst : Int) + 1) ∧ ((Exx (Nat × StoreT × Int) fun t' => (I t' ∧ m t' < n t) ∧
 (((5 : Nat) = (5 : Nat) ∧ x.fst.length = x.fst.length ∧ ∀ (i : Nat), i < x.fst.length → [AV.int IntKind.i64 (x.fst.getD i act20Z).slot, AV.bool (x.fst.getD i
 act20Z).x.live, AV.int IntKind.i64 (x.fst.getD i act20Z).x.gen, AV.int IntKind.i64 (x.fst.getD i act20Z).x.next, AV.bool (x.fst.getD i act20Z).mark] = [AV.int
 IntKind.i64 (x.fst.getD i act20Z).slot, AV.bool (x.fst.getD i act20Z).x.live, AV.int IntKind.i64 (x.fst.getD i act20Z).x.gen, AV.int IntKind.i64 (x.fst.getD i
 act20Z).x.next, AV.bool (x.fst.getD i act20Z).mark]) ∧ Tr 1 (x.snd = x.snd) ∧ Tr 3 ((true = true ∧ NilNil ∧ (0 : Nat) = (0 : Nat)) ∧ Tr 1 ((true = true ∧ NilNil
 ∧ (0 : Nat) = (0 : Nat)) ∧ Tr 1 ((putR x_4.fst x_4.snd.fst x_4.snd.snd.fst x_4.snd.snd.snd).at_ = t'.snd.snd) ∧ False ∧ Tr 1 ((↑t.fst : Int) + 1 = (↑t'.fst :
 Int)) ∧ Tr 137 True))) ∧ true = true ∧ ((139 : TypeId) = (139 : TypeId) ∧ (true = true ∧ NilNil ∧ (0 : Nat) = (0 : Nat)) ∧ (true = true ∧ NilNil ∧ (0 : Nat) =
 (0 : Nat)) ∧ True) ∧ devB (putR x_4.fst x_4.snd.fst x_4.snd.snd.fst x_4.snd.snd.snd).s.ws = devB t'.snd.fst.ws ∧ allocB (putR x_4.fst x_4.snd.fst
 x_4.snd.snd.fst x_4.snd.snd.snd).s.a = allocB t'.snd.fst.a ∧ True) ∨ Exx (Nat × StoreT × Int × Nat × List Act20) fun t' => (J t' ∧ n t' < n t) ∧ (((5 : Nat) =
 (5 : Nat) ∧ x.fst.length = x.fst.length ∧ ∀ (i : Nat), i < x.fst.length → [AV.int IntKind.i64 (x.fst.getD i act20Z).slot, AV.bool (x.fst.getD i act20Z).x.live,
 AV.int IntKind.i64 (x.fst.getD i act20Z).x.gen, AV.int IntKind.i64 (x.fst.getD i act20Z).x.next, AV.bool (x.fst.getD i act20Z).mark] = [AV.int IntKind.i64
 (x.fst.getD i act20Z).slot, AV.bool (x.fst.getD i act20Z).x.live, AV.int IntKind.i64 (x.fst.getD i act20Z).x.gen, AV.int IntKind.i64 (x.fst.getD i
 act20Z).x.next, AV.bool (x.fst.getD i act20Z).mark]) ∧ Tr 1 (x.snd = x.snd) ∧ Tr 3 ((true = true ∧ NilNil ∧ (0 : Nat) = (0 : Nat)) ∧ Tr 1 ((true = true ∧ NilNil
 ∧ (0 : Nat) = (0 : Nat)) ∧ Tr 1 ((putR x_4.fst x_4.snd.fst x_4.snd.snd.fst x_4.snd.snd.snd).at_ = t'.snd.snd.fst) ∧ (true = true ∧ NilNil ∧ (0 : Nat) = (0 :
 Nat) ∧ (5 : Nat) = (5 : Nat) ∧ (0 : Nat) = (0 : Nat) ∧ t.snd.snd.snd.snd.length + 1 = t'.snd.snd.snd.snd.length ∧ cap = t'.snd.snd.snd.fst) ∧ Tr 1 ((↑t.fst :
 Int) + 1 = (↑t'.fst : Int)) ∧ Tr 137 True))) ∧ true = true ∧ ((139 : TypeId) = (139 : TypeId) ∧ (true = true ∧ NilNil ∧ (0 : Nat) = (0 : Nat)) ∧ (true = true ∧
 NilNil ∧ (0 : Nat) = (0 : Nat)) ∧ True) ∧ devB (putR x_4.fst x_4.snd.fst x_4.snd.snd.fst x_4.snd.snd.snd).s.ws = devB t'.snd.fst.ws ∧ allocB (putR x_4.fst
 x_4.snd.fst x_4.snd.snd.fst x_4.snd.snd.snd).s.a = allocB t'.snd.fst.a ∧ ((32 : TypeId) = (32 : TypeId) ∧ (5 : Nat) = (5 : Nat) ∧ cap = t'.snd.snd.snd.fst ∧
 t'.snd.snd.snd.snd.length ≤ t.snd.snd.snd.snd.length + 1 ∧ ∀ (i : Nat), i < t'.snd.snd.snd.snd.length → (if i < t.snd.snd.snd.snd.length then [AV.int
 IntKind.i64 (t.snd.snd.snd.snd.getD i act20Z).slot, AV.bool (t.snd.snd.snd.snd.getD i act20Z).x.live, AV.int IntKind.i64 (t.snd.snd.snd.snd.getD i
 act20Z).x.gen, AV.int IntKind.i64 (t.snd.snd.snd.snd.getD i act20Z).x.next, AV.bool (t.snd.snd.snd.snd.getD i act20Z).mark] else [AV.int IntKind.i64 (if 0 + (i
 - t.snd.snd.snd.snd.length) = 0 * 5 / 5 then (x.fst.getD (↑t.fst : Int).toNat act20Z).slot else 0), AV.bool (if 0 + (i - t.snd.snd.snd.snd.length) = 0 * 5 / 5
 then (x.fst.getD (↑t.fst : Int).toNat act20Z).x.live else false), AV.int IntKind.i64 (if 0 + (i - t.snd.snd.snd.snd.length) = 0 * 5 / 5 then (x.fst.getD (↑t.fst
 : Int).toNat act20Z).x.gen else 0), AV.int IntKind.i64 (if 0 + (i - t.snd.snd.snd.snd.length) = 0 * 5 / 5 then (x.fst.getD (↑t.fst : Int).toNat act20Z).x.next
 else 0), AV.bool (if 0 + (i - t.snd.snd.snd.snd.length) = 0 * 5 / 5 then (x.fst.getD (↑t.fst : Int).toNat act20Z).mark else false)]) = [AV.int IntKind.i64
 (t'.snd.snd.snd.snd.getD i act20Z).slot, AV.bool (t'.snd.snd.snd.snd.getD i act20Z).x.live, AV.int IntKind.i64 (t'.snd.snd.snd.snd.getD i act20Z).x.gen, AV.int
 IntKind.i64 (t'.snd.snd.snd.snd.getD i act20Z).x.next, AV.bool (t'.snd.snd.snd.snd.getD i act20Z).mark]) ∧ True)))))) (Exx (StoreT × Int × Int × SeatT) fun x_3
 => (((true = true ∧ NilNil ∧ (0 : Nat) = (0 : Nat)) ∧ Tr 1 (t.snd.snd.fst = x_3.snd.fst) ∧ Tr 1 ((x.fst.getD (↑t.fst : Int).toNat act20Z).slot =
 x_3.snd.snd.fst) ∧ ((x.fst.getD (↑t.fst : Int).toNat act20Z).x.live = x_3.snd.snd.snd.live ∧ Tr 1 ((x.fst.getD (↑t.fst : Int).toNat act20Z).x.gen =
 x_3.snd.snd.snd.gen) ∧ Tr 1 ((x.fst.getD (↑t.fst : Int).toNat act20Z).x.next = x_3.snd.snd.snd.next) ∧ True) ∧ True) ∧ true = true ∧ ((139 : TypeId) = (139 :
 TypeId) ∧ (true = true ∧ NilNil ∧ (0 : Nat) = (0 : Nat)) ∧ (true = true ∧ NilNil ∧ (0 : Nat) = (0 : Nat)) ∧ True) ∧ devB t.snd.fst.ws = devB x_3.fst.ws ∧ allocB
 t.snd.fst.a = allocB x_3.fst.a ∧ True) ∧ (StoreW x_3.fst ∧ I64 x_3.snd.fst ∧ I64 x_3.snd.snd.fst ∧ SeatI x_3.snd.snd.snd) ∧ ∀ (y : Unit), True → BC (decide
 ((x.fst.getD (↑t.fst : Int).toNat act20Z).slot < (0 : Int))) (BC (!decide ((putR x_3.fst x_3.snd.fst x_3.snd.snd.fst x_3.snd.snd.snd).e = (2 : Int))) (Exx Unit
 fun y => ((false = true ∧ True) ∧ true = true ∧ True) ∧ True) (BC (!decide ((putR x_3.fst x_3.snd.fst x_3.snd.snd.fst x_3.snd.snd.snd).at_ = (0 : Int))) (Exx
 Unit fun y => ((false = true ∧ True) ∧ true = true ∧ True) ∧ True) (I64 ((↑t.fst : Int) + 1) ∧ ((Exx (Nat × StoreT × Int) fun t' => (I t' ∧ m t' < n t) ∧ (((5 :
 Nat) = (5 : Nat) ∧ x.fst.length = x.fst.length ∧ ∀ (i : Nat), i < x.fst.length → [AV.int IntKind.i64 (x.fst.getD i act20Z).slot, AV.bool (x.fst.getD i
 act20Z).x.live, AV.int IntKind.i64 (x.fst.getD i act20Z).x.gen, AV.int IntKind.i64 (x.fst.getD i act20Z).x.next, AV.bool (x.fst.getD i act20Z).mark] = [AV.int
 IntKind.i64 (x.fst.getD i act20Z).slot, AV.bool (x.fst.getD i act20Z).x.live, AV.int IntKind.i64 (x.fst.getD i act20Z).x.gen, AV.int IntKind.i64 (x.fst.getD i
 act20Z).x.next, AV.bool (x.fst.getD i act20Z).mark]) ∧ Tr 1 (x.snd = x.snd) ∧ Tr 3 ((true = true ∧ NilNil ∧ (0 : Nat) = (0 : Nat)) ∧ Tr 1 ((true = true ∧ NilNil
 ∧ (0 : Nat) = (0 : Nat)) ∧ Tr 1 (t.snd.snd.fst = t'.snd.snd) ∧ False ∧ Tr 1 ((↑t.fst : Int) + 1 = (↑t'.fst : Int)) ∧ Tr 137 True))) ∧ true = true ∧ ((139 :
 TypeId) = (139 : TypeId) ∧ (true = true ∧ NilNil ∧ (0 : Nat) = (0 : Nat)) ∧ (true = true ∧ NilNil ∧ (0 : Nat) = (0 : Nat)) ∧ True) ∧ devB (putR x_3.fst
 x_3.snd.fst x_3.snd.snd.fst x_3.snd.snd.snd).s.ws = devB t'.snd.fst.ws ∧ allocB (putR x_3.fst x_3.snd.fst x_3.snd.snd.fst x_3.snd.snd.snd).s.a = allocB
 t'.snd.fst.a ∧ True) ∨ Exx (Nat × StoreT × Int × Nat × List Act20) fun t' => (J t' ∧ n t' < n t) ∧ (((5 : Nat) = (5 : Nat) ∧ x.fst.length = x.fst.length ∧ ∀ (i
 : Nat), i < x.fst.length → [AV.int IntKind.i64 (x.fst.getD i act20Z).slot, AV.bool (x.fst.getD i act20Z).x.live, AV.int IntKind.i64 (x.fst.getD i act20Z).x.gen,
 AV.int IntKind.i64 (x.fst.getD i act20Z).x.next, AV.bool (x.fst.getD i act20Z).mark] = [AV.int IntKind.i64 (x.fst.getD i act20Z).slot, AV.bool (x.fst.getD i
 act20Z).x.live, AV.int IntKind.i64 (x.fst.getD i act20Z).x.gen, AV.int IntKind.i64 (x.fst.getD i act20Z).x.next, AV.bool (x.fst.getD i act20Z).mark]) ∧ Tr 1
 (x.snd = x.snd) ∧ Tr 3 ((true = true ∧ NilNil ∧ (0 : Nat) = (0 : Nat)) ∧ Tr 1 ((true = true ∧ NilNil ∧ (0 : Nat) = (0 : Nat)) ∧ Tr 1 (t.snd.snd.fst =
 t'.snd.snd.fst) ∧ (true = true ∧ NilNil ∧ (0 : Nat) = (0 : Nat) ∧ (5 : Nat) = (5 : Nat) ∧ (0 : Nat) = (0 : Nat) ∧ t.snd.snd.snd.snd.length =
 t'.snd.snd.snd.snd.length ∧ t.snd.snd.snd.fst = t'.snd.snd.snd.fst) ∧ Tr 1 ((↑t.fst : Int) + 1 = (↑t'.fst : Int)) ∧ Tr 137 True))) ∧ true = true ∧ ((139 :
 TypeId) = (139 : TypeId) ∧ (true = true ∧ NilNil ∧ (0 : Nat) = (0 : Nat)) ∧ (true = true ∧ NilNil ∧ (0 : Nat) = (0 : Nat)) ∧ True) ∧ devB (putR x_3.fst
 x_3.snd.fst x_3.snd.snd.fst x_3.snd.snd.snd).s.ws = devB t'.snd.fst.ws ∧ allocB (putR x_3.fst x_3.snd.fst x_3.snd.snd.fst x_3.snd.snd.snd).s.a = allocB
 t'.snd.fst.a ∧ ((32 : TypeId) = (32 : TypeId) ∧ (5 : Nat) = (5 : Nat) ∧ t.snd.snd.snd.fst = t'.snd.snd.snd.fst ∧ t'.snd.snd.snd.snd.length ≤
 t.snd.snd.snd.snd.length ∧ ∀ (i : Nat), i < t'.snd.snd.snd.snd.length → [AV.int IntKind.i64 (t.snd.snd.snd.snd.getD i act20Z).slot, AV.bool
 (t.snd.snd.snd.snd.getD i act20Z).x.live, AV.int IntKind.i64 (t.snd.snd.snd.snd.getD i act20Z).x.gen, AV.int IntKind.i64 (t.snd.snd.snd.snd.getD i
 act20Z).x.next, AV.bool (t.snd.snd.snd.snd.getD i act20Z).mark] = [AV.int IntKind.i64 (t'.snd.snd.snd.snd.getD i act20Z).slot, AV.bool (t'.snd.snd.snd.snd.getD
 i act20Z).x.live, AV.int IntKind.i64 (t'.snd.snd.snd.snd.getD i act20Z).x.gen, AV.int IntKind.i64 (t'.snd.snd.snd.snd.getD i act20Z).x.next, AV.bool
 (t'.snd.snd.snd.snd.getD i act20Z).mark]) ∧ True)))) (BC (decide ((1791 : Int) < (x.fst.getD (↑t.fst : Int).toNat act20Z).slot)) (BC (!decide ((putR x_3.fst
 x_3.snd.fst x_3.snd.snd.fst x_3.snd.snd.snd).e = (2 : Int))) (Exx Unit fun y => ((false = true ∧ True) ∧ true = true ∧ True) ∧ True) (BC (!decide ((putR x_3.fst
 x_3.snd.fst x_3.snd.snd.fst x_3.snd.snd.snd).at_ = (0 : Int))) (Exx Unit fun y => ((false = true ∧ True) ∧ true = true ∧ True) ∧ True) (I64 ((↑t.fst : Int) + 1)
 ∧ ((Exx (Nat × StoreT × Int) fun t' => (I t' ∧ m t' < n t) ∧ (((5 : Nat) = (5 : Nat) ∧ x.fst.length = x.fst.length ∧ ∀ (i : Nat), i < x.fst.length → [AV.int
 IntKind.i64 (x.fst.getD i act20Z).slot, AV.bool (x.fst.getD i act20Z).x.live, AV.int IntKind.i64 (x.fst.getD i act20Z).x.gen, AV.int IntKind.i64 (x.fst.getD i
 act20Z).x.next, AV.bool (x.fst.getD i act20Z).mark] = [AV.int IntKind.i64 (x.fst.getD i act20Z).slot, AV.bool (x.fst.getD i act20Z).x.live, AV.int IntKind.i64
 (x.fst.getD i act20Z).x.gen, AV.int IntKind.i64 (x.fst.getD i act20Z).x.next, AV.bool (x.fst.getD i act20Z).mark]) ∧ Tr 1 (x.snd = x.snd) ∧ Tr 3 ((true = true ∧
 NilNil ∧ (0 : Nat) = (0 : Nat)) ∧ Tr 1 ((true = true ∧ NilNil ∧ (0 : Nat) = (0 : Nat)) ∧ Tr 1 (t.snd.snd.fst = t'.snd.snd) ∧ False ∧ Tr 1 ((↑t.fst : Int) + 1 =
 (↑t'.fst : Int)) ∧ Tr 137 True))) ∧ true = true ∧ ((139 : TypeId) = (139 : TypeId) ∧ (true = true ∧ NilNil ∧ (0 : Nat) = (0 : Nat)) ∧ (true = true ∧ NilNil ∧ (0
 : Nat) = (0 : Nat)) ∧ True) ∧ devB (putR x_3.fst x_3.snd.fst x_3.snd.snd.fst x_3.snd.snd.snd).s.ws = devB t'.snd.fst.ws ∧ allocB (putR x_3.fst x_3.snd.fst
 x_3.snd.snd.fst x_3.snd.snd.snd).s.a = allocB t'.snd.fst.a ∧ True) ∨ Exx (Nat × StoreT × Int × Nat × List Act20) fun t' => (J t' ∧ n t' < n t) ∧ (((5 : Nat) =
 (5 : Nat) ∧ x.fst.length = x.fst.length ∧ ∀ (i : Nat), i < x.fst.length → [AV.int IntKind.i64 (x.fst.getD i act20Z).slot, AV.bool (x.fst.getD i act20Z).x.live,
 AV.int IntKind.i64 (x.fst.getD i act20Z).x.gen, AV.int IntKind.i64 (x.fst.getD i act20Z).x.next, AV.bool (x.fst.getD i act20Z).mark] = [AV.int IntKind.i64
 (x.fst.getD i act20Z).slot, AV.bool (x.fst.getD i act20Z).x.live, AV.int IntKind.i64 (x.fst.getD i act20Z).x.gen, AV.int IntKind.i64 (x.fst.getD i
 act20Z).x.next, AV.bool (x.fst.getD i act20Z).mark]) ∧ Tr 1 (x.snd = x.snd) ∧ Tr 3 ((true = true ∧ NilNil ∧ (0 : Nat) = (0 : Nat)) ∧ Tr 1 ((true = true ∧ NilNil
 ∧ (0 : Nat) = (0 : Nat)) ∧ Tr 1 (t.snd.snd.fst = t'.snd.snd.fst) ∧ (true = true ∧ NilNil ∧ (0 : Nat) = (0 : Nat) ∧ (5 : Nat) = (5 : Nat) ∧ (0 : Nat) = (0 : Nat)
 ∧ t.snd.snd.snd.snd.length = t'.snd.snd.snd.snd.length ∧ t.snd.snd.snd.fst = t'.snd.snd.snd.fst) ∧ Tr 1 ((↑t.fst : Int) + 1 = (↑t'.fst : Int)) ∧ Tr 137 True)))
 ∧ true = true ∧ ((139 : TypeId) = (139 : TypeId) ∧ (true = true ∧ NilNil ∧ (0 : Nat) = (0 : Nat)) ∧ (true = true ∧ NilNil ∧ (0 : Nat) = (0 : Nat)) ∧ True) ∧
 devB (putR x_3.fst x_3.snd.fst x_3.snd.snd.fst x_3.snd.snd.snd).s.ws = devB t'.snd.fst.ws ∧ allocB (putR x_3.fst x_3.snd.fst x_3.snd.snd.fst
 x_3.snd.snd.snd).s.a = allocB t'.snd.fst.a ∧ ((32 : TypeId) = (32 : TypeId) ∧ (5 : Nat) = (5 : Nat) ∧ t.snd.snd.snd.fst = t'.snd.snd.snd.fst ∧
 t'.snd.snd.snd.snd.length ≤ t.snd.snd.snd.snd.length ∧ ∀ (i : Nat), i < t'.snd.snd.snd.snd.length → [AV.int IntKind.i64 (t.snd.snd.snd.snd.getD i act20Z).slot,
 AV.bool (t.snd.snd.snd.snd.getD i act20Z).x.live, AV.int IntKind.i64 (t.snd.snd.snd.snd.getD i act20Z).x.gen, AV.int IntKind.i64 (t.snd.snd.snd.snd.getD i
 act20Z).x.next, AV.bool (t.snd.snd.snd.snd.getD i act20Z).mark] = [AV.int IntKind.i64 (t'.snd.snd.snd.snd.getD i act20Z).slot, AV.bool (t'.snd.snd.snd.snd.getD
 i act20Z).x.live, AV.int IntKind.i64 (t'.snd.snd.snd.snd.getD i act20Z).x.gen, AV.int IntKind.i64 (t'.snd.snd.snd.snd.getD i act20Z).x.next, AV.bool
 (t'.snd.snd.snd.snd.getD i act20Z).mark]) ∧ True)))) (Exx SeatT fun x_4 => ((((x.fst.getD (↑t.fst : Int).toNat act20Z).x.live = x_4.live ∧ Tr 1 ((x.fst.getD
 (↑t.fst : Int).toNat act20Z).x.gen = x_4.gen) ∧ Tr 1 ((x.fst.getD (↑t.fst : Int).toNat act20Z).x.next = x_4.next) ∧ True) ∧ True) ∧ true = true ∧ True) ∧ SeatI
 x_4 ∧ ∀ (y : Unit), True → BC (!decide (seatOk x_4)) (BC (!decide ((putR x_3.fst x_3.snd.fst x_3.snd.snd.fst x_3.snd.snd.snd).e = (2 : Int))) (Exx Unit fun y =>
 ((false = true ∧ True) ∧ true = true ∧ True) ∧ True) (BC (!decide ((putR x_3.fst x_3.snd.fst x_3.snd.snd.fst x_3.snd.snd.snd).at_ = (0 : Int))) (Exx Unit fun y
 => ((false = true ∧ True) ∧ true = true ∧ True) ∧ True) (I64 ((↑t.fst : Int) + 1) ∧ ((Exx (Nat × StoreT × Int) fun t' => (I t' ∧ m t' < n t) ∧ (((5 : Nat) = (5
 : Nat) ∧ x.fst.length = x.fst.length ∧ ∀ (i : Nat), i < x.fst.length → [AV.int IntKind.i64 (x.fst.getD i act20Z).slot, AV.bool (x.fst.getD i act20Z).x.live,
 AV.int IntKind.i64 (x.fst.getD i act20Z).x.gen, AV.int IntKind.i64 (x.fst.getD i act20Z).x.next, AV.bool (x.fst.getD i act20Z).mark] = [AV.int IntKind.i64
 (x.fst.getD i act20Z).slot, AV.bool (x.fst.getD i act20Z).x.live, AV.int IntKind.i64 (x.fst.getD i act20Z).x.gen, AV.int IntKind.i64 (x.fst.getD i
 act20Z).x.next, AV.bool (x.fst.getD i act20Z).mark]) ∧ Tr 1 (x.snd = x.snd) ∧ Tr 3 ((true = true ∧ NilNil ∧ (0 : Nat) = (0 : Nat)) ∧ Tr 1 ((true = true ∧ NilNil
 ∧ (0 : Nat) = (0 : Nat)) ∧ Tr 1 (t.snd.snd.fst = t'.snd.snd) ∧ False ∧ Tr 1 ((↑t.fst : Int) + 1 = (↑t'.fst : Int)) ∧ Tr 137 True))) ∧ true = true ∧ ((139 :
 TypeId) = (139 : TypeId) ∧ (true = true ∧ NilNil ∧ (0 : Nat) = (0 : Nat)) ∧ (true = true ∧ NilNil ∧ (0 : Nat) = (0 : Nat)) ∧ True) ∧ devB (putR x_3.fst
 x_3.snd.fst x_3.snd.snd.fst x_3.snd.snd.snd).s.ws = devB t'.snd.fst.ws ∧ allocB (putR x_3.fst x_3.snd.fst x_3.snd.snd.fst x_3.snd.snd.snd).s.a = allocB
 t'.snd.fst.a ∧ True) ∨ Exx (Nat × StoreT × Int × Nat × List Act20) fun t' => (J t' ∧ n t' < n t) ∧ (((5 : Nat) = (5 : Nat) ∧ x.fst.length = x.fst.length ∧ ∀ (i
 : Nat), i < x.fst.length → [AV.int IntKind.i64 (x.fst.getD i act20Z).slot, AV.bool (x.fst.getD i act20Z).x.live, AV.int IntKind.i64 (x.fst.getD i act20Z).x.gen,
 AV.int IntKind.i64 (x.fst.getD i act20Z).x.next, AV.bool (x.fst.getD i act20Z).mark] = [AV.int IntKind.i64 (x.fst.getD i act20Z).slot, AV.bool (x.fst.getD i
 act20Z).x.live, AV.int IntKind.i64 (x.fst.getD i act20Z).x.gen, AV.int IntKind.i64 (x.fst.getD i act20Z).x.next, AV.bool (x.fst.getD i act20Z).mark]) ∧ Tr 1
 (x.snd = x.snd) ∧ Tr 3 ((true = true ∧ NilNil ∧ (0 : Nat) = (0 : Nat)) ∧ Tr 1 ((true = true ∧ NilNil ∧ (0 : Nat) = (0 : Nat)) ∧ Tr 1 (t.snd.snd.fst =
 t'.snd.snd.fst) ∧ (true = true ∧ NilNil ∧ (0 : Nat) = (0 : Nat) ∧ (5 : Nat) = (5 : Nat) ∧ (0 : Nat) = (0 : Nat) ∧ t.snd.snd.snd.snd.length =
 t'.snd.snd.snd.snd.length ∧ t.snd.snd.snd.fst = t'.snd.snd.snd.fst) ∧ Tr 1 ((↑t.fst : Int) + 1 = (↑t'.fst : Int)) ∧ Tr 137 True))) ∧ true = true ∧ ((139 :
 TypeId) = (139 : TypeId) ∧ (true = true ∧ NilNil ∧ (0 : Nat) = (0 : Nat)) ∧ (true = true ∧ NilNil ∧ (0 : Nat) = (0 : Nat)) ∧ True) ∧ devB (putR x_3.fst
 x_3.snd.fst x_3.snd.snd.fst x_3.snd.snd.snd).s.ws = devB t'.snd.fst.ws ∧ allocB (putR x_3.fst x_3.snd.fst x_3.snd.snd.fst x_3.snd.snd.snd).s.a = allocB
 t'.snd.fst.a ∧ ((32 : TypeId) = (32 : TypeId) ∧ (5 : Nat) = (5 : Nat) ∧ t.snd.snd.snd.fst = t'.snd.snd.snd.fst ∧ t'.snd.snd.snd.snd.length ≤
 t.snd.snd.snd.snd.length ∧ ∀ (i : Nat), i < t'.snd.snd.snd.snd.length → [AV.int IntKind.i64 (t.snd.snd.snd.snd.getD i act20Z).slot, AV.bool
 (t.snd.snd.snd.snd.getD i act20Z).x.live, AV.int IntKind.i64 (t.snd.snd.snd.snd.getD i act20Z).x.gen, AV.int IntKind.i64 (t.snd.snd.snd.snd.getD i
 act20Z).x.next, AV.bool (t.snd.snd.snd.snd.getD i act20Z).mark] = [AV.int IntKind.i64 (t'.snd.snd.snd.snd.getD i act20Z).slot, AV.bool (t'.snd.snd.snd.snd.getD
 i act20Z).x.live, AV.int IntKind.i64 (t'.snd.snd.snd.snd.getD i act20Z).x.gen, AV.int IntKind.i64 (t'.snd.snd.snd.snd.getD i act20Z).x.next, AV.bool
 (t'.snd.snd.snd.snd.getD i act20Z).mark]) ∧ True)))) (BC (!decide ((putR x_3.fst x_3.snd.fst x_3.snd.snd.fst x_3.snd.snd.snd).e = (0 : Int))) (Exx Unit fun y =>
 ((false = true ∧ True) ∧ true = true ∧ True) ∧ True) ((0 : Nat) + (1 : Nat) ≤ (1 : Nat) ∧ true = true ∧ (t.snd.snd.snd.snd.length ≤ t.snd.snd.snd.snd.length ∧
 t.snd.snd.snd.fst = t.snd.snd.snd.fst) ∧ (t.snd.snd.snd.snd.length + 1 ≤ 9223372036854775807 ∧ (t.snd.snd.snd.snd.length + 1) * 40 ≤ 140737488355328) ∧ ∀ (cap :
 Nat), t.snd.snd.snd.snd.length + 1 ≤ cap ∧ cap ≤ 9223372036854775807 → I64 ((↑t.fst : Int) + 1) ∧ ((Exx (Nat × StoreT × Int) fun t' => (I t' ∧ m t' < n t) ∧
 (((5 : Nat) = (5 : Nat) ∧ x.fst.length = x.fst.length ∧ ∀ (i : Nat), i < x.fst.length → [AV.int IntKind.i64 (x.fst.getD i act20Z).slot, AV.bool (x.fst.getD i
 act20Z).x.live, AV.int IntKind.i64 (x.fst.getD i act20Z).x.gen, AV.int IntKind.i64 (x.fst.getD i act20Z).x.next, AV.bool (x.fst.getD i act20Z).mark] = [AV.int
 IntKind.i64 (x.fst.getD i act20Z).slot, AV.bool (x.fst.getD i act20Z).x.live, AV.int IntKind.i64 (x.fst.getD i act20Z).x.gen, AV.int IntKind.i64 (x.fst.getD i
 act20Z).x.next, AV.bool (x.fst.getD i act20Z).mark]) ∧ Tr 1 (x.snd = x.snd) ∧ Tr 3 ((true = true ∧ NilNil ∧ (0 : Nat) = (0 : Nat)) ∧ Tr 1 ((true = true ∧ NilNil
 ∧ (0 : Nat) = (0 : Nat)) ∧ Tr 1 ((putR x_3.fst x_3.snd.fst x_3.snd.snd.fst x_3.snd.snd.snd).at_ = t'.snd.snd) ∧ False ∧ Tr 1 ((↑t.fst : Int) + 1 = (↑t'.fst :
 Int)) ∧ Tr 137 True))) ∧ true = true ∧ ((139 : TypeId) = (139 : TypeId) ∧ (true = true ∧ NilNil ∧ (0 : Nat) = (0 : Nat)) ∧ (true = true ∧ NilNil ∧ (0 : Nat) =
 (0 : Nat)) ∧ True) ∧ devB (putR x_3.fst x_3.snd.fst x_3.snd.snd.fst x_3.snd.snd.snd).s.ws = devB t'.snd.fst.ws ∧ allocB (putR x_3.fst x_3.snd.fst
 x_3.snd.snd.fst x_3.snd.snd.snd).s.a = allocB t'.snd.fst.a ∧ True) ∨ Exx (Nat × StoreT × Int × Nat × List Act20) fun t' => (J t' ∧ n t' < n t) ∧ (((5 : Nat) =
 (5 : Nat) ∧ x.fst.length = x.fst.length ∧ ∀ (i : Nat), i < x.fst.length → [AV.int IntKind.i64 (x.fst.getD i act20Z).slot, AV.bool (x.fst.getD i act20Z).x.live,
 AV.int IntKind.i64 (x.fst.getD i act20Z).x.gen, AV.int IntKind.i64 (x.fst.getD i act20Z).x.next, AV.bool (x.fst.getD i act20Z).mark] = [AV.int IntKind.i64
 (x.fst.getD i act20Z).slot, AV.bool (x.fst.getD i act20Z).x.live, AV.int IntKind.i64 (x.fst.getD i act20Z).x.gen, AV.int IntKind.i64 (x.fst.getD i
 act20Z).x.next, AV.bool (x.fst.getD i act20Z).mark]) ∧ Tr 1 (x.snd = x.snd) ∧ Tr 3 ((true = true ∧ NilNil ∧ (0 : Nat) = (0 : Nat)) ∧ Tr 1 ((true = true ∧ NilNil
 ∧ (0 : Nat) = (0 : Nat)) ∧ Tr 1 ((putR x_3.fst x_3.snd.fst x_3.snd.snd.fst x_3.snd.snd.snd).at_ = t'.snd.snd.fst) ∧ (true = true ∧ NilNil ∧ (0 : Nat) = (0 :
 Nat) ∧ (5 : Nat) = (5 : Nat) ∧ (0 : Nat) = (0 : Nat) ∧ t.snd.snd.snd.snd.length + 1 = t'.snd.snd.snd.snd.length ∧ cap = t'.snd.snd.snd.fst) ∧ Tr 1 ((↑t.fst :
 Int) + 1 = (↑t'.fst : Int)) ∧ Tr 137 True))) ∧ true = true ∧ ((139 : TypeId) = (139 : TypeId) ∧ (true = true ∧ NilNil ∧ (0 : Nat) = (0 : Nat)) ∧ (true = true ∧
 NilNil ∧ (0 : Nat) = (0 : Nat)) ∧ True) ∧ devB (putR x_3.fst x_3.snd.fst x_3.snd.snd.fst x_3.snd.snd.snd).s.ws = devB t'.snd.fst.ws ∧ allocB (putR x_3.fst
 x_3.snd.fst x_3.snd.snd.fst x_3.snd.snd.snd).s.a = allocB t'.snd.fst.a ∧ ((32 : TypeId) = (32 : TypeId) ∧ (5 : Nat) = (5 : Nat) ∧ cap = t'.snd.snd.snd.fst ∧
 t'.snd.snd.snd.snd.length ≤ t.snd.snd.snd.snd.length + 1 ∧ ∀ (i : Nat), i < t'.snd.snd.snd.snd.length → (if i < t.snd.snd.snd.snd.length then [AV.int
 IntKind.i64 (t.snd.snd.snd.snd.getD i act20Z).slot, AV.bool (t.snd.snd.snd.snd.getD i act20Z).x.live, AV.int IntKind.i64 (t.snd.snd.snd.snd.getD i
 act20Z).x.gen, AV.int IntKind.i64 (t.snd.snd.snd.snd.getD i act20Z).x.next, AV.bool (t.snd.snd.snd.snd.getD i act20Z).mark] else [AV.int IntKind.i64 (if 0 + (i
 - t.snd.snd.snd.snd.length) = 0 * 5 / 5 then (x.fst.getD (↑t.fst : Int).toNat act20Z).slot else 0), AV.bool (if 0 + (i - t.snd.snd.snd.snd.length) = 0 * 5 / 5
 then (x.fst.getD (↑t.fst : Int).toNat act20Z).x.live else false), AV.int IntKind.i64 (if 0 + (i - t.snd.snd.snd.snd.length) = 0 * 5 / 5 then (x.fst.getD (↑t.fst
 : Int).toNat act20Z).x.gen else 0), AV.int IntKind.i64 (if 0 + (i - t.snd.snd.snd.snd.length) = 0 * 5 / 5 then (x.fst.getD (↑t.fst : Int).toNat act20Z).x.next
 else 0), AV.bool (if 0 + (i - t.snd.snd.snd.snd.length) = 0 * 5 / 5 then (x.fst.getD (↑t.fst : Int).toNat act20Z).mark else false)]) = [AV.int IntKind.i64
 (t'.snd.snd.snd.snd.getD i act20Z).slot, AV.bool (t'.snd.snd.snd.snd.getD i act20Z).x.live, AV.int IntKind.i64 (t'.snd.snd.snd.snd.getD i act20Z).x.gen, AV.int
 IntKind.i64 (t'.snd.snd.snd.snd.getD i act20Z).x.next, AV.bool (t'.snd.snd.snd.snd.getD i act20Z).mark]) ∧ True))))))) (Exx (Nat × StoreT × Int → Prop) fun I =>
 Exx (Nat × StoreT × Int × Nat × List Act20 → Prop) fun J => Exx (Nat × StoreT × Int → Nat) fun m => Exx (Nat × StoreT × Int × Nat × List Act20 → Nat) fun n =>
 ((Exx (Nat × StoreT × Int) fun t_1 => I t_1 ∧ Tr 1 (Tr 1 (x.snd = x.snd) ∧ Tr 3 ((true = true ∧ NilNil ∧ (0 : Nat) = (0 : Nat)) ∧ Tr 2 (Tr 1 (t.snd.snd.fst =
 t_1.snd.snd) ∧ False ∧ Tr 4 (Tr 1 ((0 : Int) = (↑t_1.fst : Int)) ∧ Tr 133 True)))) ∧ true = true ∧ ((139 : TypeId) = (139 : TypeId) ∧ (true = true ∧ NilNil ∧ (0
 : Nat) = (0 : Nat)) ∧ (true = true ∧ NilNil ∧ (0 : Nat) = (0 : Nat)) ∧ True) ∧ devB t.snd.fst.ws = devB t_1.snd.fst.ws ∧ allocB t.snd.fst.a = allocB
 t_1.snd.fst.a ∧ True) ∨ Exx (Nat × StoreT × Int × Nat × List Act20) fun t_1 => J t_1 ∧ Tr 1 (Tr 1 (x.snd = x.snd) ∧ Tr 3 ((true = true ∧ NilNil ∧ (0 : Nat) = (0
 : Nat)) ∧ Tr 2 (Tr 1 (t.snd.snd.fst = t_1.snd.snd.fst) ∧ (true = true ∧ NilNil ∧ (0 : Nat) = (0 : Nat) ∧ (5 : Nat) = (5 : Nat) ∧ (0 : Nat) = (0 : Nat) ∧
 t.snd.snd.snd.snd.length = t_1.snd.snd.snd.snd.length ∧ t.snd.snd.snd.fst = t_1.snd.snd.snd.fst) ∧ Tr 4 (Tr 1 ((0 : Int) = (↑t_1.fst : Int)) ∧ Tr 133 True)))) ∧
 true = true ∧ ((139 : TypeId) = (139 : TypeId) ∧ (true = true ∧ NilNil ∧ (0 : Nat) = (0 : Nat)) ∧ (true = true ∧ NilNil ∧ (0 : Nat) = (0 : Nat)) ∧ True) ∧ devB
 t.snd.fst.ws = devB t_1.snd.fst.ws ∧ allocB t.snd.fst.a = allocB t_1.snd.fst.a ∧ ((32 : TypeId) = (32 : TypeId) ∧ (5 : Nat) = (5 : Nat) ∧ t.snd.snd.snd.fst =
 t_1.snd.snd.snd.fst ∧ t_1.snd.snd.snd.snd.length ≤ t.snd.snd.snd.snd.length ∧ ∀ (i : Nat), i < t_1.snd.snd.snd.snd.length → [AV.int IntKind.i64
 (t.snd.snd.snd.snd.getD i act20Z).slot, AV.bool (t.snd.snd.snd.snd.getD i act20Z).x.live, AV.int IntKind.i64 (t.snd.snd.snd.snd.getD i act20Z).x.gen, AV.int
 IntKind.i64 (t.snd.snd.snd.snd.getD i act20Z).x.next, AV.bool (t.snd.snd.snd.snd.getD i act20Z).mark] = [AV.int IntKind.i64 (t_1.snd.snd.snd.snd.getD i
 act20Z).slot, AV.bool (t_1.snd.snd.snd.snd.getD i act20Z).x.live, AV.int IntKind.i64 (t_1.snd.snd.snd.snd.getD i act20Z).x.gen, AV.int IntKind.i64
 (t_1.snd.snd.snd.snd.getD i act20Z).x.next, AV.bool (t_1.snd.snd.snd.snd.getD i act20Z).mark]) ∧ True) ∧ (∀ (t : Nat × StoreT × Int), I t → Exx (StoreT × Int ×
 Int) fun x_3 => (((true = true ∧ NilNil ∧ (0 : Nat) = (0 : Nat)) ∧ Tr 1 (t.snd.snd = x_3.snd.fst) ∧ Tr 1 (x.snd = x_3.snd.snd) ∧ True) ∧ true = true ∧ ((139 :
 TypeId) = (139 : TypeId) ∧ (true = true ∧ NilNil ∧ (0 : Nat) = (0 : Nat)) ∧ (true = true ∧ NilNil ∧ (0 : Nat) = (0 : Nat)) ∧ True) ∧ devB t.snd.fst.ws = devB
 x_3.fst.ws ∧ allocB t.snd.fst.a = allocB x_3.fst.a ∧ True) ∧ (StoreW x_3.fst ∧ I64 x_3.snd.fst ∧ I64 x_3.snd.snd) ∧ ∀ (y : Unit), True → BC (decide (x.snd < (0
 : Int))) (BC (decide (walkErr x_3.fst.ws x_3.snd.fst x_3.snd.snd = (2 : Int))) (Tr 3 True ∧ Tr 3 True ∧ ∀ (b : Bool), (b = true ↔ (findS x_3.fst.ws x_3.snd.fst
 x_3.snd.snd).live = false ∧ (findS x_3.fst.ws x_3.snd.fst x_3.snd.snd).gen = (0 : Int) ∧ (findS x_3.fst.ws x_3.snd.fst x_3.snd.snd).next = (0 : Int) ∧ True) →
 Exx Unit fun y => ((b = true ∧ True) ∧ true = true ∧ True) ∧ True) (Exx Unit fun y => ((false = true ∧ True) ∧ true = true ∧ True) ∧ True)) (BC (decide ((1791 :
 Int) < x.snd)) (BC (decide (walkErr x_3.fst.ws x_3.snd.fst x_3.snd.snd = (2 : Int))) (Tr 3 True ∧ Tr 3 True ∧ ∀ (b : Bool), (b = true ↔ (findS x_3.fst.ws
 x_3.snd.fst x_3.snd.snd).live = false ∧ (findS x_3.fst.ws x_3.snd.fst x_3.snd.snd).gen = (0 : Int) ∧ (findS x_3.fst.ws x_3.snd.fst x_3.snd.snd).next = (0 : Int)
 ∧ True) → Exx Unit fun y => ((b = true ∧ True) ∧ true = true ∧ True) ∧ True) (Exx Unit fun y => ((false = true ∧ True) ∧ true = true ∧ True) ∧ True)) (BC
 (decide (walkErr x_3.fst.ws x_3.snd.fst x_3.snd.snd = (0 : Int))) ((Exx (List Act20 × Int) fun x_4 => (((0 = x_4.fst.length ∧ ∀ (i : Nat), i < x_4.fst.length →
 [] = [AV.int IntKind.i64 (x_4.fst.getD i act20Z).slot, AV.bool (x_4.fst.getD i act20Z).x.live, AV.int IntKind.i64 (x_4.fst.getD i act20Z).x.gen, AV.int
 IntKind.i64 (x_4.fst.getD i act20Z).x.next, AV.bool (x_4.fst.getD i act20Z).mark]) ∧ Tr 1 (x.snd = x_4.snd) ∧ True) ∧ true = true ∧ True) ∧ (Acts20 x_4.fst ∧
 I64 x_4.snd) ∧ ∀ (y : Unit), True → Tr 3 True ∧ Tr 3 True ∧ ∀ (b : Bool), (b = true ↔ (findS x_3.fst.ws x_3.snd.fst x_3.snd.snd).live = (lastS x_4.fst
 x_4.snd).live ∧ (findS x_3.fst.ws x_3.snd.fst x_3.snd.snd).gen = (lastS x_4.fst x_4.snd).gen ∧ (findS x_3.fst.ws x_3.snd.fst x_3.snd.snd).next = (lastS x_4.fst
 x_4.snd).next ∧ True) → Exx Unit fun y => ((b = true ∧ True) ∧ true = true ∧ True) ∧ True) ∧ Exx (List Act20 × Int) fun x_4 => (((0 = x_4.fst.length ∧ ∀ (i :
 Nat), i < x_4.fst.length → [] = [AV.int IntKind.i64 (x_4.fst.getD i act20Z).slot, AV.bool (x_4.fst.getD i act20Z).x.live, AV.int IntKind.i64 (x_4.fst.getD i
 act20Z).x.gen, AV.int IntKind.i64 (x_4.fst.getD i act20Z).x.next, AV.bool (x_4.fst.getD i act20Z).mark]) ∧ Tr 1 (x.snd = x_4.snd) ∧ True) ∧ true = true ∧ True)
 ∧ (Acts20 x_4.fst ∧ I64 x_4.snd) ∧ ∀ (y : Unit), True → Tr 3 True ∧ Tr 3 True ∧ ∀ (b : Bool), (b = true ↔ (findS x_3.fst.ws x_3.snd.fst x_3.snd.snd).live =
 (lastS x_4.fst x_4.snd).live ∧ (findS x_3.fst.ws x_3.snd.fst x_3.snd.snd).gen = (lastS x_4.fst x_4.snd).gen ∧ (findS x_3.fst.ws x_3.snd.fst x_3.snd.snd).next =
 (lastS x_4.fst x_4.snd).next ∧ True) → Exx Unit fun y => ((b = true ∧ True) ∧ true = true ∧ True) ∧ True) (Exx Unit fun y => ((false = true ∧ True) ∧ true =
 true ∧ True) ∧ True)))) ∧ ∀ (t : Nat × StoreT × Int × Nat × List Act20), J t → BC (decide ((↑t.fst : Int) < (↑t.snd.snd.snd.snd.length : Int))) (((0 : Int) ≤
 (↑t.fst : Int) ∧ (↑t.fst : Int) < (↑t.snd.snd.snd.snd.length : Int)) ∧ 0 + (↑t.fst : Int).toNat < t.snd.snd.snd.snd.length ∧ Exx (StoreT × Int × Int) fun x_3 =>
 (((true = true ∧ NilNil ∧ (0 : Nat) = (0 : Nat)) ∧ Tr 1 (t.snd.snd.fst = x_3.snd.fst) ∧ Tr 1 ((t.snd.snd.snd.snd.getD (0 + (↑t.fst : Int).toNat) act20Z).slot =
 x_3.snd.snd) ∧ True) ∧ true = true ∧ ((139 : TypeId) = (139 : TypeId) ∧ (true = true ∧ NilNil ∧ (0 : Nat) = (0 : Nat)) ∧ (true = true ∧ NilNil ∧ (0 : Nat) = (0
 : Nat)) ∧ True) ∧ devB t.snd.fst.ws = devB x_3.fst.ws ∧ allocB t.snd.fst.a = allocB x_3.fst.a ∧ True) ∧ (StoreW x_3.fst ∧ I64 x_3.snd.fst ∧ I64 x_3.snd.snd) ∧ ∀
 (y : Unit), True → BC (!decide (walkErr x_3.fst.ws x_3.snd.fst x_3.snd.snd = (0 : Int))) (Exx Unit fun y => ((false = true ∧ True) ∧ true = true ∧ True) ∧ True)
 (((0 : Int) ≤ (↑t.fst : Int) ∧ (↑t.fst : Int) < (↑t.snd.snd.snd.snd.length : Int)) ∧ 0 + (↑t.fst : Int).toNat < t.snd.snd.snd.snd.length ∧ Exx (List Act20 ×
 Int) fun x_4 => (((0 + t.snd.snd.snd.snd.length ≤ t.snd.snd.snd.snd.length ∧ t.snd.snd.snd.snd.length = x_4.fst.length ∧ ∀ (i : Nat), i < x_4.fst.length →
 [AV.int IntKind.i64 (t.snd.snd.snd.snd.getD (0 + i) act20Z).slot, AV.bool (t.snd.snd.snd.snd.getD (0 + i) act20Z).x.live, AV.int IntKind.i64
 (t.snd.snd.snd.snd.getD (0 + i) act20Z).x.gen, AV.int IntKind.i64 (t.snd.snd.snd.snd.getD (0 + i) act20Z).x.next, AV.bool (t.snd.snd.snd.snd.getD (0 + i)
 act20Z).mark] = [AV.int IntKind.i64 (x_4.fst.getD i act20Z).slot, AV.bool (x_4.fst.getD i act20Z).x.live, AV.int IntKind.i64 (x_4.fst.getD i act20Z).x.gen,
 AV.int IntKind.i64 (x_4.fst.getD i act20Z).x.next, AV.bool (x_4.fst.getD i act20Z).mark]) ∧ Tr 1 ((t.snd.snd.snd.snd.getD (0 + (↑t.fst : Int).toNat)
 act20Z).slot = x_4.snd) ∧ True) ∧ true = true ∧ True) ∧ (Acts20 x_4.fst ∧ I64 x_4.snd) ∧ ∀ (y : Unit), True → Tr 3 True ∧ Tr 3 True ∧ ∀ (b : Bool), (b = true ↔
 (findS x_3.fst.ws x_3.snd.fst x_3.snd.snd).live = (lastS x_4.fst x_4.snd).live ∧ (findS x_3.fst.ws x_3.snd.fst x_3.snd.snd).gen = (lastS x_4.fst x_4.snd).gen ∧
 (findS x_3.fst.ws x_3.snd.fst x_3.snd.snd).next = (lastS x_4.fst x_4.snd).next ∧ True) → BC (!b) (Exx Unit fun y => ((false = true ∧ True) ∧ true = true ∧ True)
 ∧ True) (I64 ((↑t.fst : Int) + 1) ∧ ((Exx (Nat × StoreT × Int) fun t' => (I t' ∧ m t' < n t) ∧ Tr 1 (Tr 1 (x.snd = x.snd) ∧ Tr 3 ((true = true ∧ NilNil ∧ (0 :
 Nat) = (0 : Nat)) ∧ Tr 2 (Tr 1 (t.snd.snd.fst = t'.snd.snd) ∧ False ∧ Tr 4 (Tr 1 ((↑t.fst : Int) + 1 = (↑t'.fst : Int)) ∧ Tr 133 True)))) ∧ true = true ∧ ((139
 : TypeId) = (139 : TypeId) ∧ (true = true ∧ NilNil ∧ (0 : Nat) = (0 : Nat)) ∧ (true = true ∧ NilNil ∧ (0 : Nat) = (0 : Nat)) ∧ True) ∧ devB x_3.fst.ws = devB
 t'.snd.fst.ws ∧ allocB x_3.fst.a = allocB t'.snd.fst.a ∧ True) ∨ Exx (Nat × StoreT × Int × Nat × List Act20) fun t' => (J t' ∧ n t' < n t) ∧ Tr 1 (Tr 1 (x.snd =
 x.snd) ∧ Tr 3 ((true = true ∧ NilNil ∧ (0 : Nat) = (0 : Nat)) ∧ Tr 2 (Tr 1 (t.snd.snd.fst = t'.snd.snd.fst) ∧ (true = true ∧ NilNil ∧ (0 : Nat) = (0 : Nat) ∧ (5
 : Nat) = (5 : Nat) ∧ (0 : Nat) = (0 : Nat) ∧ t.snd.snd.snd.snd.length = t'.snd.snd.snd.snd.length ∧ t.snd.snd.snd.fst = t'.snd.snd.snd.fst) ∧ Tr 4 (Tr 1
 ((↑t.fst : Int) + 1 = (↑t'.fst : Int)) ∧ Tr 133 True)))) ∧ true = true ∧ ((139 : TypeId) = (139 : TypeId) ∧ (true = true ∧ NilNil ∧ (0 : Nat) = (0 : Nat)) ∧
 (true = true ∧ NilNil ∧ (0 : Nat) = (0 : Nat)) ∧ True) ∧ devB x_3.fst.ws = devB t'.snd.fst.ws ∧ allocB x_3.fst.a = allocB t'.snd.fst.a ∧ ((32 : TypeId) = (32 :
 TypeId) ∧ (5 : Nat) = (5 : Nat) ∧ t.snd.snd.snd.fst = t'.snd.snd.snd.fst ∧ t'.snd.snd.snd.snd.length ≤ t.snd.snd.snd.snd.length ∧ ∀ (i : Nat), i <
 t'.snd.snd.snd.snd.length → [AV.int IntKind.i64 (t.snd.snd.snd.snd.getD i act20Z).slot, AV.bool (t.snd.snd.snd.snd.getD i act20Z).x.live, AV.int IntKind.i64
 (t.snd.snd.snd.snd.getD i act20Z).x.gen, AV.int IntKind.i64 (t.snd.snd.snd.snd.getD i act20Z).x.next, AV.bool (t.snd.snd.snd.snd.getD i act20Z).mark] = [AV.int
 IntKind.i64 (t'.snd.snd.snd.snd.getD i act20Z).slot, AV.bool (t'.snd.snd.snd.snd.getD i act20Z).x.live, AV.int IntKind.i64 (t'.snd.snd.snd.snd.getD i
 act20Z).x.gen, AV.int IntKind.i64 (t'.snd.snd.snd.snd.getD i act20Z).x.next, AV.bool (t'.snd.snd.snd.snd.getD i act20Z).mark]) ∧ True)))) (Exx (StoreT × Int ×
 Int) fun x_3 => (((true = true ∧ NilNil ∧ (0 : Nat) = (0 : Nat)) ∧ Tr 1 (t.snd.snd.fst = x_3.snd.fst) ∧ Tr 1 (x.snd = x_3.snd.snd) ∧ True) ∧ true = true ∧ ((139
 : TypeId) = (139 : TypeId) ∧ (true = true ∧ NilNil ∧ (0 : Nat) = (0 : Nat)) ∧ (true = true ∧ NilNil ∧ (0 : Nat) = (0 : Nat)) ∧ True) ∧ devB t.snd.fst.ws = devB
 x_3.fst.ws ∧ allocB t.snd.fst.a = allocB x_3.fst.a ∧ True) ∧ (StoreW x_3.fst ∧ I64 x_3.snd.fst ∧ I64 x_3.snd.snd) ∧ ∀ (y : Unit), True → BC (decide (x.snd < (0
 : Int))) (BC (decide (walkErr x_3.fst.ws x_3.snd.fst x_3.snd.snd = (2 : Int))) (Tr 3 True ∧ Tr 3 True ∧ ∀ (b : Bool), (b = true ↔ (findS x_3.fst.ws x_3.snd.fst
 x_3.snd.snd).live = false ∧ (findS x_3.fst.ws x_3.snd.fst x_3.snd.snd).gen = (0 : Int) ∧ (findS x_3.fst.ws x_3.snd.fst x_3.snd.snd).next = (0 : Int) ∧ True) →
 Exx Unit fun y => ((b = true ∧ True) ∧ true = true ∧ True) ∧ True) (Exx Unit fun y => ((false = true ∧ True) ∧ true = true ∧ True) ∧ True)) (BC (decide ((1791 :
 Int) < x.snd)) (BC (decide (walkErr x_3.fst.ws x_3.snd.fst x_3.snd.snd = (2 : Int))) (Tr 3 True ∧ Tr 3 True ∧ ∀ (b : Bool), (b = true ↔ (findS x_3.fst.ws
 x_3.snd.fst x_3.snd.snd).live = false ∧ (findS x_3.fst.ws x_3.snd.fst x_3.snd.snd).gen = (0 : Int) ∧ (findS x_3.fst.ws x_3.snd.fst x_3.snd.snd).next = (0 : Int)
 ∧ True) → Exx Unit fun y => ((b = true ∧ True) ∧ true = true ∧ True) ∧ True) (Exx Unit fun y => ((false = true ∧ True) ∧ true = true ∧ True) ∧ True)) (BC
 (decide (walkErr x_3.fst.ws x_3.snd.fst x_3.snd.snd = (0 : Int))) (Exx (List Act20 × Int) fun x_4 => (((0 + t.snd.snd.snd.snd.length ≤ t.snd.snd.snd.snd.length
 ∧ t.snd.snd.snd.snd.length = x_4.fst.length ∧ ∀ (i : Nat), i < x_4.fst.length → [AV.int IntKind.i64 (t.snd.snd.snd.snd.getD (0 + i) act20Z).slot, AV.bool
 (t.snd.snd.snd.snd.getD (0 + i) act20Z).x.live, AV.int IntKind.i64 (t.snd.snd.snd.snd.getD (0 + i) act20Z).x.gen, AV.int IntKind.i64 (t.snd.snd.snd.snd.getD (0
 + i) act20Z).x.next, AV.bool (t.snd.snd.snd.snd.getD (0 + i) act20Z).mark] = [AV.int IntKind.i64 (x_4.fst.getD i act20Z).slot, AV.bool (x_4.fst.getD i
 act20Z).x.live, AV.int IntKind.i64 (x_4.fst.getD i act20Z).x.gen, AV.int IntKind.i64 (x_4.fst.getD i act20Z).x.next, AV.bool (x_4.fst.getD i act20Z).mark]) ∧ Tr
 1 (x.snd = x_4.snd) ∧ True) ∧ true = true ∧ True) ∧ (Acts20 x_4.fst ∧ I64 x_4.snd) ∧ ∀ (y : Unit), True → Tr 3 True ∧ Tr 3 True ∧ ∀ (b : Bool), (b = true ↔
 (findS x_3.fst.ws x_3.snd.fst x_3.snd.snd).live = (lastS x_4.fst x_4.snd).live ∧ (findS x_3.fst.ws x_3.snd.fst x_3.snd.snd).gen = (lastS x_4.fst x_4.snd).gen ∧
 (findS x_3.fst.ws x_3.snd.fst x_3.snd.snd).next = (lastS x_4.fst x_4.snd).next ∧ True) → Exx Unit fun y => ((b = true ∧ True) ∧ true = true ∧ True) ∧ True) (Exx
 Unit fun y => ((false = true ∧ True) ∧ true = true ∧ True) ∧ True)))))))) = (fnVC tb [(12, specOf awake20C), (13, specOf madeStoreC), (14, specOf allocMarkC), (15, specOf slotPutC), (16, specOf seat09C), (17, specOf findC), (18, specOf seat20C)] Tryd.f3 slotsPutsC (fun x => { loose := [(26, [4]), (31, [4])], loops2 := [(9, puts1A x, puts1B x), (23, puts2A x, puts2B x)] }) (fun _ => none)) := by kernel_rfl 

theorem slotsPuts_ok : SpecOk Tryd.prog 3 (specOf slotsPutsC) := by
  refine specOk mixed tb_ok (SPok.cons awake20_ok (SPok.cons madeStore_ok (SPok.cons allocMark_ok (SPok.cons slotPut_ok (SPok.cons seat09_ok (SPok.cons find_ok (SPok.cons seat20_ok SPok.nil))))))) Tryd.func3 (by decide) (pureC_ok fun _ => rfl) (an := (fun x => { loose := [(26, [4]), (31, [4])], loops2 := [(9, puts1A x, puts1B x), (23, puts2A x, puts2B x)] })) (σ := (fun _ => none)) ?_
  rw [← slotsPutsV]
  simp (maxSteps := 10000000) only [and_false, false_and, false_or, or_false, bOf_true, bOf_false, true_bOf, false_bOf, Exx, int_ite, merge_o, Tr_eq, true_and, and_true, exists_const, forall_const, implies_true, forall_eq, exists_eq, exists_eq', exists_eq_left, exists_eq_left', exists_eq_right, Prod.exists, Prod.forall, and_assoc, exists_and_left, BC_iff, Bool.not_eq_true', Bool.not_eq_false', decide_eq_true_eq, decide_eq_false_iff_not, I64, nat_cast_inj, Int.toNat_natCast, nats_iff, nats_iff', ints_iff, ints_iff', natss_iff, natss_iff', nilnil, litL_eq, str_inj, str_append, str_length, str_getD, str_take, lit1_iff, one_iff, two_iff, one_get, Nat.zero_add, Nat.sub_zero, Nat.reduceMul, Nat.reduceDiv, Nat.reduceAdd, Int.reduceToNat, Nat.not_lt_zero, if_false, if_true, Nat.le_refl, List.length_singleton, List.length_cons, List.length_nil, Bool.false_eq_true, not_true_eq_false, false_implies, not_false_eq_true, Prod.mk.injEq, devB_inj, allocB_inj, setB_inj]
  rintro l slot ⟨⟨hl, hlen⟩, h2⟩
  intro h25
  refine ⟨200, rfl, by omega, by omega, by omega, by omega, fun t => Inv 200 t.1 t.2.1 t.2.2 [] ∧ t.1 ≤ 25, fun t => Inv 200 t.1 t.2.1 t.2.2.1 t.2.2.2.2 ∧ t.1 ≤ 25, .inl ⟨0, madeS 200 0, 0, ⟨inv_made (by omega) (by omega), by simp only; omega⟩, rfl, rfl, rfl, rfl⟩, fun t => 25 + 1 - t.1, fun t => 25 + 1 - t.1, fun i s top hx => ⟨fun hlt => ?_, fun hge => ?_⟩, fun i s top cap lst hx => ⟨fun hlt => ?_, fun hge => ?_⟩⟩
  · obtain ⟨hI, hi25⟩ := hx
    simp only at hI hi25
    have ha := act_get (l := l) ⟨hl, hlen⟩ i
    refine ⟨by omega, by omega, fun hm => ⟨hI.good.W.2, ?_⟩, fun hm => ?_⟩
    · have hJ : Inv 200 i (markT s) top [] := inv_mark hI
      refine ⟨markT s, (l.getD i act20Z).x, rfl, rfl, rfl, rfl, rfl, hJ.good.W, hJ.htop.1, hJ.htop.2, ha.1.1, ha.1.2, ha.2, fun h => ?_, fun h => ⟨fun h' => ?_, fun h' => ⟨(l.getD i act20Z).x, rfl, rfl, rfl, ha.2, fun hs => ?_, fun hs => ?_⟩⟩⟩
      · rw [put_bad (s := markT s) (top := top) (slot := (l.getD i act20Z).slot) (x := (l.getD i act20Z).x) (fun k => by have := k.1.1; omega)]
        exact ⟨fun k => k rfl, fun _ => ⟨fun k => k rfl, fun _ => ⟨by omega, by omega, .inl ⟨i + 1, markT s, top, ⟨inv_next hJ, by simp only; omega⟩, by simp only; omega, rfl, by omega, rfl, rfl⟩⟩⟩⟩
      · rw [put_bad (s := markT s) (top := top) (slot := (l.getD i act20Z).slot) (x := (l.getD i act20Z).x) (fun k => by have := k.1.2; omega)]
        exact ⟨fun k => k rfl, fun _ => ⟨fun k => k rfl, fun _ => ⟨by omega, by omega, .inl ⟨i + 1, markT s, top, ⟨inv_next hJ, by simp only; omega⟩, by simp only; omega, rfl, by omega, rfl, rfl⟩⟩⟩⟩
      · rw [put_bad (s := markT s) (top := top) (slot := (l.getD i act20Z).slot) (x := (l.getD i act20Z).x) (fun k => hs k.2)]
        exact ⟨fun k => k rfl, fun _ => ⟨fun k => k rfl, fun _ => ⟨by omega, by omega, .inl ⟨i + 1, markT s, top, ⟨inv_next hJ, by simp only; omega⟩, by simp only; omega, rfl, by omega, rfl, rfl⟩⟩⟩⟩
      · have g := inv_put hJ (a := l.getD i act20Z) (by omega) ⟨by omega, by omega⟩ hs ha
        refine ⟨fun k => k g.1, fun _ => ⟨by omega, by omega, fun cap2 hcap => ⟨by omega, by omega, .inr ⟨i + 1, _, _, cap2, [] ++ [l.getD i act20Z], ⟨g.2, by simp only; omega⟩, by simp only; omega, rfl, rfl, rfl, by omega, rfl, rfl, rfl, Nat.le_refl _, fun j hj => ?_⟩⟩⟩⟩
        have hj1 : j < 1 := hj
        have : j = 0 := by omega
        subst this; rfl

    · have hJ : Inv 200 i (s) top [] := hI
      refine ⟨s, (l.getD i act20Z).x, rfl, rfl, rfl, rfl, rfl, hJ.good.W, hJ.htop.1, hJ.htop.2, ha.1.1, ha.1.2, ha.2, fun h => ?_, fun h => ⟨fun h' => ?_, fun h' => ⟨(l.getD i act20Z).x, rfl, rfl, rfl, ha.2, fun hs => ?_, fun hs => ?_⟩⟩⟩
      · rw [put_bad (s := s) (top := top) (slot := (l.getD i act20Z).slot) (x := (l.getD i act20Z).x) (fun k => by have := k.1.1; omega)]
        exact ⟨fun k => k rfl, fun _ => ⟨fun k => k rfl, fun _ => ⟨by omega, by omega, .inl ⟨i + 1, s, top, ⟨inv_next hJ, by simp only; omega⟩, by simp only; omega, rfl, by omega, rfl, rfl⟩⟩⟩⟩
      · rw [put_bad (s := s) (top := top) (slot := (l.getD i act20Z).slot) (x := (l.getD i act20Z).x) (fun k => by have := k.1.2; omega)]
        exact ⟨fun k => k rfl, fun _ => ⟨fun k => k rfl, fun _ => ⟨by omega, by omega, .inl ⟨i + 1, s, top, ⟨inv_next hJ, by simp only; omega⟩, by simp only; omega, rfl, by omega, rfl, rfl⟩⟩⟩⟩
      · rw [put_bad (s := s) (top := top) (slot := (l.getD i act20Z).slot) (x := (l.getD i act20Z).x) (fun k => hs k.2)]
        exact ⟨fun k => k rfl, fun _ => ⟨fun k => k rfl, fun _ => ⟨by omega, by omega, .inl ⟨i + 1, s, top, ⟨inv_next hJ, by simp only; omega⟩, by simp only; omega, rfl, by omega, rfl, rfl⟩⟩⟩⟩
      · have g := inv_put hJ (a := l.getD i act20Z) (by omega) ⟨by omega, by omega⟩ hs ha
        refine ⟨fun k => k g.1, fun _ => ⟨by omega, by omega, fun cap2 hcap => ⟨by omega, by omega, .inr ⟨i + 1, _, _, cap2, [] ++ [l.getD i act20Z], ⟨g.2, by simp only; omega⟩, by simp only; omega, rfl, rfl, rfl, by omega, rfl, rfl, rfl, Nat.le_refl _, fun j hj => ?_⟩⟩⟩⟩
        have hj1 : j < 1 := hj
        have : j = 0 := by omega
        subst this; rfl

  · obtain ⟨hI, hi25⟩ := hx
    simp only at hI hi25
    refine ⟨fun t => Inv 200 i t.2.1 t.2.2 [], fun _ => False, .inl ⟨0, s, top, hI, rfl, rfl, rfl, rfl⟩, fun k s2 top2 hJ => ?_, fun _ => 0, fun _ _ _ _ _ h => h.elim⟩
    simp only at hJ
    refine ⟨s2, rfl, rfl, hJ.good.W, hJ.htop.1, hJ.htop.2, h2.1, h2.2, fun h => ?_, fun h => ⟨fun h' => ?_, fun h' => ?_⟩⟩
    · have g := find_no (ws := s2.ws) (top := top2) (slot := slot) (fun k => by have := k.1; omega)
      exact ⟨fun _ b hb => hb.2 ⟨by rw [g.2]; rfl, by rw [g.2]; rfl, by rw [g.2]; rfl⟩, fun k => k g.1⟩
    · have g := find_no (ws := s2.ws) (top := top2) (slot := slot) (fun k => by have := k.2; omega)
      exact ⟨fun _ b hb => hb.2 ⟨by rw [g.2]; rfl, by rw [g.2]; rfl, by rw [g.2]; rfl⟩, fun k => k g.1⟩
    · have g := seats_find hJ.tree hJ.seats (slot := slot) ⟨by omega, by omega⟩
      exact ⟨fun _ => ⟨⟨[], rfl, fun i hi => absurd hi (Nat.not_lt_zero _), inv_acts hJ (by omega), h2.1, h2.2, fun b hb => hb.2 ⟨by rw [g.2], by rw [g.2], by rw [g.2]⟩⟩, ⟨[], rfl, fun i hi => absurd hi (Nat.not_lt_zero _), inv_acts hJ (by omega), h2.1, h2.2, fun b hb => hb.2 ⟨by rw [g.2], by rw [g.2], by rw [g.2]⟩⟩⟩, fun k => k g.1⟩
  · obtain ⟨hI, hi25⟩ := hx
    simp only at hI hi25
    have ha := act_get (l := l) ⟨hl, hlen⟩ i
    have hln := hI.len
    refine ⟨by omega, by omega, fun hm => ⟨hI.good.W.2, ?_⟩, fun hm => ?_⟩
    · have hJ : Inv 200 i (markT s) top lst := inv_mark hI
      refine ⟨markT s, (l.getD i act20Z).x, rfl, rfl, rfl, rfl, rfl, hJ.good.W, hJ.htop.1, hJ.htop.2, ha.1.1, ha.1.2, ha.2, fun h => ?_, fun h => ⟨fun h' => ?_, fun h' => ⟨(l.getD i act20Z).x, rfl, rfl, rfl, ha.2, fun hs => ?_, fun hs => ?_⟩⟩⟩
      · rw [put_bad (s := markT s) (top := top) (slot := (l.getD i act20Z).slot) (x := (l.getD i act20Z).x) (fun k => by have := k.1.1; omega)]
        exact ⟨fun k => k rfl, fun _ => ⟨fun k => k rfl, fun _ => ⟨by omega, by omega, .inr ⟨i + 1, markT s, top, cap, lst, ⟨inv_next hJ, by simp only; omega⟩, by simp only; omega, rfl, rfl, rfl, by omega, rfl, rfl, rfl, Nat.le_refl _, fun _ _ => rfl⟩⟩⟩⟩
      · rw [put_bad (s := markT s) (top := top) (slot := (l.getD i act20Z).slot) (x := (l.getD i act20Z).x) (fun k => by have := k.1.2; omega)]
        exact ⟨fun k => k rfl, fun _ => ⟨fun k => k rfl, fun _ => ⟨by omega, by omega, .inr ⟨i + 1, markT s, top, cap, lst, ⟨inv_next hJ, by simp only; omega⟩, by simp only; omega, rfl, rfl, rfl, by omega, rfl, rfl, rfl, Nat.le_refl _, fun _ _ => rfl⟩⟩⟩⟩
      · rw [put_bad (s := markT s) (top := top) (slot := (l.getD i act20Z).slot) (x := (l.getD i act20Z).x) (fun k => hs k.2)]
        exact ⟨fun k => k rfl, fun _ => ⟨fun k => k rfl, fun _ => ⟨by omega, by omega, .inr ⟨i + 1, markT s, top, cap, lst, ⟨inv_next hJ, by simp only; omega⟩, by simp only; omega, rfl, rfl, rfl, by omega, rfl, rfl, rfl, Nat.le_refl _, fun _ _ => rfl⟩⟩⟩⟩
      · have g := inv_put hJ (a := l.getD i act20Z) (by omega) ⟨by omega, by omega⟩ hs ha
        refine ⟨fun k => k g.1, fun _ => ⟨by omega, by omega, fun cap2 hcap => ⟨by omega, by omega, .inr ⟨i + 1, _, _, cap2, lst ++ [l.getD i act20Z], ⟨g.2, by simp only; omega⟩, by simp only; omega, rfl, by rw [List.length_append]; rfl, rfl, by omega, rfl, rfl, rfl, by rw [List.length_append]; exact Nat.le_refl _, fun j hj => ?_⟩⟩⟩⟩
        rw [List.length_append] at hj
        simp only [List.length_cons, List.length_nil] at hj
        by_cases e : j < lst.length
        · rw [if_pos e, getD_append, if_pos e]
        · have e2 : j - lst.length = 0 := by omega
          rw [if_neg e, getD_append, if_neg e, e2]; rfl

    · have hJ : Inv 200 i (s) top lst := hI
      refine ⟨s, (l.getD i act20Z).x, rfl, rfl, rfl, rfl, rfl, hJ.good.W, hJ.htop.1, hJ.htop.2, ha.1.1, ha.1.2, ha.2, fun h => ?_, fun h => ⟨fun h' => ?_, fun h' => ⟨(l.getD i act20Z).x, rfl, rfl, rfl, ha.2, fun hs => ?_, fun hs => ?_⟩⟩⟩
      · rw [put_bad (s := s) (top := top) (slot := (l.getD i act20Z).slot) (x := (l.getD i act20Z).x) (fun k => by have := k.1.1; omega)]
        exact ⟨fun k => k rfl, fun _ => ⟨fun k => k rfl, fun _ => ⟨by omega, by omega, .inr ⟨i + 1, s, top, cap, lst, ⟨inv_next hJ, by simp only; omega⟩, by simp only; omega, rfl, rfl, rfl, by omega, rfl, rfl, rfl, Nat.le_refl _, fun _ _ => rfl⟩⟩⟩⟩
      · rw [put_bad (s := s) (top := top) (slot := (l.getD i act20Z).slot) (x := (l.getD i act20Z).x) (fun k => by have := k.1.2; omega)]
        exact ⟨fun k => k rfl, fun _ => ⟨fun k => k rfl, fun _ => ⟨by omega, by omega, .inr ⟨i + 1, s, top, cap, lst, ⟨inv_next hJ, by simp only; omega⟩, by simp only; omega, rfl, rfl, rfl, by omega, rfl, rfl, rfl, Nat.le_refl _, fun _ _ => rfl⟩⟩⟩⟩
      · rw [put_bad (s := s) (top := top) (slot := (l.getD i act20Z).slot) (x := (l.getD i act20Z).x) (fun k => hs k.2)]
        exact ⟨fun k => k rfl, fun _ => ⟨fun k => k rfl, fun _ => ⟨by omega, by omega, .inr ⟨i + 1, s, top, cap, lst, ⟨inv_next hJ, by simp only; omega⟩, by simp only; omega, rfl, rfl, rfl, by omega, rfl, rfl, rfl, Nat.le_refl _, fun _ _ => rfl⟩⟩⟩⟩
      · have g := inv_put hJ (a := l.getD i act20Z) (by omega) ⟨by omega, by omega⟩ hs ha
        refine ⟨fun k => k g.1, fun _ => ⟨by omega, by omega, fun cap2 hcap => ⟨by omega, by omega, .inr ⟨i + 1, _, _, cap2, lst ++ [l.getD i act20Z], ⟨g.2, by simp only; omega⟩, by simp only; omega, rfl, by rw [List.length_append]; rfl, rfl, by omega, rfl, rfl, rfl, by rw [List.length_append]; exact Nat.le_refl _, fun j hj => ?_⟩⟩⟩⟩
        rw [List.length_append] at hj
        simp only [List.length_cons, List.length_nil] at hj
        by_cases e : j < lst.length
        · rw [if_pos e, getD_append, if_pos e]
        · have e2 : j - lst.length = 0 := by omega
          rw [if_neg e, getD_append, if_neg e, e2]; rfl

  · obtain ⟨hI, hi25⟩ := hx
    simp only at hI hi25
    refine ⟨fun _ => False, fun t => Inv 200 i t.2.1 t.2.2.1 t.2.2.2.2, .inr ⟨0, s, top, cap, lst, hI, rfl, rfl, rfl, rfl, rfl, rfl, rfl, Nat.le_refl _, fun _ _ => rfl⟩, fun _ _ _ h => h.elim, fun t => t.2.2.2.2.length - t.1, fun k s2 top2 cap2 lst2 hJ => ?_⟩
    simp only at hJ
    refine ⟨fun hlt2 => ?_, fun hge2 => ?_⟩
    · have hact := hJ.acts (lst2.getD k act20Z) (by rw [List.getD_eq_getElem?_getD, List.getElem?_eq_getElem (by omega)]; exact List.getElem_mem _)
      have g := seats_find hJ.tree hJ.seats hact.2
      refine ⟨by omega, by omega, by omega, s2, rfl, rfl, hJ.good.W, hJ.htop.1, hJ.htop.2, hact.1.1.1, hact.1.1.2, fun q => q g.1, fun _ => ⟨by omega, by omega, by omega, lst2, rfl, fun _ _ => rfl, inv_acts hJ (by omega), hact.1.1.1, hact.1.1.2, fun b hb => ?_⟩⟩
      have hbt : b = true := hb.2 ⟨by rw [g.2], by rw [g.2], by rw [g.2]⟩
      exact ⟨fun q => (by rw [hbt] at q; cases q), fun _ => ⟨by have := hJ.len; omega, by have := hJ.len; omega, .inr ⟨k + 1, s2, top2, cap2, lst2, hJ, by simp only; omega, rfl, rfl, rfl, by omega, rfl, rfl, rfl, Nat.le_refl _, fun _ _ => rfl⟩⟩⟩
    · refine ⟨s2, rfl, rfl, hJ.good.W, hJ.htop.1, hJ.htop.2, h2.1, h2.2, fun h => ?_, fun h => ⟨fun h' => ?_, fun h' => ?_⟩⟩
      · have g := find_no (ws := s2.ws) (top := top2) (slot := slot) (fun k => by have := k.1; omega)
        exact ⟨fun _ b hb => hb.2 ⟨by rw [g.2]; rfl, by rw [g.2]; rfl, by rw [g.2]; rfl⟩, fun k => k g.1⟩
      · have g := find_no (ws := s2.ws) (top := top2) (slot := slot) (fun k => by have := k.2; omega)
        exact ⟨fun _ b hb => hb.2 ⟨by rw [g.2]; rfl, by rw [g.2]; rfl, by rw [g.2]; rfl⟩, fun k => k g.1⟩
      · have g := seats_find hJ.tree hJ.seats (slot := slot) ⟨by omega, by omega⟩
        exact ⟨fun _ => ⟨lst2, rfl, fun _ _ => rfl, inv_acts hJ (by omega), h2.1, h2.2, fun b hb => hb.2 ⟨by rw [g.2], by rw [g.2], by rw [g.2]⟩⟩, fun k => k g.1⟩


def slotsPutsLC : Ctr := pureC (List A20 × Int) (fun x => A20I x.1 ∧ I64 x.2) (fun x => [a20A x.1, i64 x.2]) (fun _ => .bool true)
theorem slotsPutsL_ok : SpecOk Tryd.prog 3 (specOf slotsPutsLC) :=
  law_map slotsPuts_ok (fun x => (x.1.map a20, x.2)) (fun x => by show [acts20A _, _] = _; rw [a20_args]) (fun x h => ⟨a20_acts h.1, h.2⟩)

end Yard
