import Derived.Test.YtobpnkcgolkbiaaDoorSlotInv
/- The law SlotsElder. -/
namespace Yard
open Go Go.Sx Go.Proofs
set_option linter.unusedVariables false
set_option linter.unusedSimpArgs false
set_option maxRecDepth 4000
set_option maxHeartbeats 4000000

abbrev eldI (cap : Nat) (l : List Act20) : Sx.Item := .row 32 5 cap l.length (fun i => act20V (l.getD i act20Z))
abbrev eldH (s : StoreT) (cap : Nat) (l : List Act20) : AH := [.fence, storeI 2 3, devI s.ws, allocI s.a, eldI cap l]
abbrev eldS (cap : Nat) (l : List Act20) : AV := .sl 4 [] 0 5 0 l.length cap
def rowRenN (t n : Nat) (F : Fr) (_ : AH) : Option Ren := match F.getD t .any with
  | .sl q _ _ _ _ _ _ => some (idRen n n ++ [some q])
  | _ => some (idRen n n ++ [none])
def slotsElderC : Ctr := pureC (List Act20 × List Act20) (fun x => Acts20 x.1 ∧ Acts20 x.2) (fun x => [acts20A x.1, acts20A x.2]) (fun _ => .bool true)
def elder1 (x : List Act20 × List Act20) : LA := { T := Nat × StoreT × Int × Nat × List Act20, F := fun t => frm 134 [(0, acts20A x.1), (1, acts20A x.2), (5, .ptr 1 [] 0), (7, .ptr 3 [] 0), (8, i64 t.2.2.1), (9, eldS t.2.2.2.1 t.2.2.2.2), (10, i64 (t.1 : Nat))], H := fun t => eldH t.2.1 t.2.2.2.1 t.2.2.2.2, ρ₁ := rowRenN 9 4, ρ₂ := rowRenN 9 4 }
def elder2 (x : List Act20 × List Act20) : LA := { T := Nat × StoreT × Int × Int × Nat × List Act20, F := fun t => frm 134 [(1, acts20A x.2), (5, .ptr 1 [] 0), (8, i64 t.2.2.1), (9, eldS t.2.2.2.2.1 t.2.2.2.2.2), (13, i64 t.2.2.2.1), (14, i64 (t.1 : Nat))], H := fun t => eldH t.2.1 t.2.2.2.2.1 t.2.2.2.2.2, ρ₁ := rowRenN 9 4, ρ₂ := rowRenN 9 4 }
def elder3 (x : List Act20 × List Act20) : LA := { T := Nat × StoreT × Int × Nat × List Act20, F := fun t => frm 134 [(5, .ptr 1 [] 0), (9, eldS t.2.2.2.1 t.2.2.2.2), (13, i64 t.2.2.1), (17, i64 (t.1 : Nat))], H := fun t => eldH t.2.1 t.2.2.2.1 t.2.2.2.2, ρ₁ := rowRenN 9 4, ρ₂ := rowRenN 9 4 }

-- callees: 12=awake20_ok 13=madeStore_ok 14=allocMark_ok 15=slotPut_ok 17=find_ok 18=seat20_ok
theorem slotsElderV : (∀ (x : List Act20 × List Act20), Acts20 x.fst ∧ Acts20 x.snd → Exx Unit fun x_1 => Tr 1 (true = true ∧ True) ∧ Tr 1 (∀ (y : Unit), True →
 BC (decide ((15 : Int) < (↑x.fst.length : Int))) (Exx Unit fun x => Tr 1 (true = true ∧ True) ∧ Tr 1 (∀ (y : Unit), True → Exx Unit fun y => ((true = true ∧
 True) ∧ true = true ∧ True) ∧ True)) (BC (decide ((15 : Int) < (↑x.snd.length : Int))) (Exx Unit fun x => Tr 1 (true = true ∧ True) ∧ Tr 1 (∀ (y : Unit), True →
 Exx Unit fun y => ((true = true ∧ True) ∧ true = true ∧ True) ∧ True)) (Exx (Nat × Int) fun x_2 => ((Tr 1 ((200 : Int) = (↑x_2.fst : Int)) ∧ Tr 1 ((0 : Int) =
 x_2.snd) ∧ True) ∧ true = true ∧ True) ∧ (x_2.fst ≤ 3072 ∧ (0 : Int) ≤ x_2.snd ∧ I64 x_2.snd) ∧ ∀ (y : Unit), True → Exx (Nat × StoreT × Int × Nat × List Act20
 → Prop) fun I => Exx (Nat × StoreT × Int × Nat × List Act20 → Nat) fun m => (Exx (Nat × StoreT × Int × Nat × List Act20) fun t => I t ∧ (((5 : Nat) = (5 : Nat)
 ∧ x.fst.length = x.fst.length ∧ ∀ (i : Nat), i < x.fst.length → [AV.int IntKind.i64 (x.fst.getD i act20Z).slot, AV.bool (x.fst.getD i act20Z).x.live, AV.int
 IntKind.i64 (x.fst.getD i act20Z).x.gen, AV.int IntKind.i64 (x.fst.getD i act20Z).x.next, AV.bool (x.fst.getD i act20Z).mark] = [AV.int IntKind.i64 (x.fst.getD
 i act20Z).slot, AV.bool (x.fst.getD i act20Z).x.live, AV.int IntKind.i64 (x.fst.getD i act20Z).x.gen, AV.int IntKind.i64 (x.fst.getD i act20Z).x.next, AV.bool
 (x.fst.getD i act20Z).mark]) ∧ ((5 : Nat) = (5 : Nat) ∧ x.snd.length = x.snd.length ∧ ∀ (i : Nat), i < x.snd.length → [AV.int IntKind.i64 (x.snd.getD i
 act20Z).slot, AV.bool (x.snd.getD i act20Z).x.live, AV.int IntKind.i64 (x.snd.getD i act20Z).x.gen, AV.int IntKind.i64 (x.snd.getD i act20Z).x.next, AV.bool
 (x.snd.getD i act20Z).mark] = [AV.int IntKind.i64 (x.snd.getD i act20Z).slot, AV.bool (x.snd.getD i act20Z).x.live, AV.int IntKind.i64 (x.snd.getD i
 act20Z).x.gen, AV.int IntKind.i64 (x.snd.getD i act20Z).x.next, AV.bool (x.snd.getD i act20Z).mark]) ∧ Tr 3 ((true = true ∧ NilNil ∧ (0 : Nat) = (0 : Nat)) ∧ Tr
 1 ((true = true ∧ NilNil ∧ (0 : Nat) = (0 : Nat)) ∧ Tr 1 ((0 : Int) = t.snd.snd.fst) ∧ (t.snd.snd.snd.snd.length = 0 ∧ t.snd.snd.snd.fst = 0) ∧ Tr 1 ((0 : Int)
 = (↑t.fst : Int)) ∧ Tr 123 True))) ∧ true = true ∧ ((139 : TypeId) = (139 : TypeId) ∧ (true = true ∧ NilNil ∧ (0 : Nat) = (0 : Nat)) ∧ (true = true ∧ NilNil ∧
 (0 : Nat) = (0 : Nat)) ∧ True) ∧ devB (madeS x_2.fst x_2.snd).ws = devB t.snd.fst.ws ∧ allocB (madeS x_2.fst x_2.snd).a = allocB t.snd.fst.a ∧
 (t.snd.snd.snd.fst = 0 ∧ t.snd.snd.snd.snd.length = 0) ∧ True) ∧ ∀ (t : Nat × StoreT × Int × Nat × List Act20), I t → BC (decide ((↑t.fst : Int) <
 (↑x.fst.length : Int))) (((0 : Int) ≤ (↑t.fst : Int) ∧ (↑t.fst : Int) < (↑x.fst.length : Int)) ∧ ((0 : Int) ≤ (↑t.fst : Int) ∧ (↑t.fst : Int) < (↑x.fst.length :
 Int)) ∧ Exx (StoreT × Int × Int × SeatT) fun x_3 => (((true = true ∧ NilNil ∧ (0 : Nat) = (0 : Nat)) ∧ Tr 1 (t.snd.snd.fst = x_3.snd.fst) ∧ Tr 1 ((x.fst.getD
 (↑t.fst : Int).toNat act20Z).slot = x_3.snd.snd.fst) ∧ ((x.fst.getD (↑t.fst : Int).toNat act20Z).x.live = x_3.snd.snd.snd.live ∧ Tr 1 ((x.fst.getD (↑t.fst :
 Int).toNat act20Z).x.gen = x_3.snd.snd.snd.gen) ∧ Tr 1 ((x.fst.getD (↑t.fst : Int).toNat act20Z).x.next = x_3.snd.snd.snd.next) ∧ True) ∧ True) ∧ true = true ∧
 ((139 : TypeId) = (139 : TypeId) ∧ (true = true ∧ NilNil ∧ (0 : Nat) = (0 : Nat)) ∧ (true = true ∧ NilNil ∧ (0 : Nat) = (0 : Nat)) ∧ True) ∧ devB t.snd.fst.ws =
 devB x_3.fst.ws ∧ allocB t.snd.fst.a = allocB x_3.fst.a ∧ True) ∧ (StoreW x_3.fst ∧ I64 x_3.snd.fst ∧ I64 x_3.snd.snd.fst ∧ SeatI x_3.snd.snd.snd) ∧ ∀ (y :
 Unit), True → BC (decide ((putR x_3.fst x_3.snd.fst x_3.snd.snd.fst x_3.snd.snd.snd).e = (0 : Int))) (((0 : Int) ≤ (↑t.fst : Int) ∧ (↑t.fst : Int) <
 (↑x.fst.length : Int)) ∧ (0 : Nat) + (1 : Nat) ≤ (1 : Nat) ∧ true = true ∧ (t.snd.snd.snd.snd.length ≤ t.snd.snd.snd.snd.length ∧ t.snd.snd.snd.fst =
 t.snd.snd.snd.fst) ∧ (t.snd.snd.snd.snd.length + 1 ≤ 9223372036854775807 ∧ (t.snd.snd.snd.snd.length + 1) * 40 ≤ 140737488355328) ∧ ∀ (cap : Nat),
 t.snd.snd.snd.snd.length + 1 ≤ cap ∧ cap ≤ 9223372036854775807 → I64 ((↑t.fst : Int) + 1) ∧ Exx (Nat × StoreT × Int × Nat × List Act20) fun t' => (I t' ∧ m t' <
 m t) ∧ (((5 : Nat) = (5 : Nat) ∧ x.fst.length = x.fst.length ∧ ∀ (i : Nat), i < x.fst.length → [AV.int IntKind.i64 (x.fst.getD i act20Z).slot, AV.bool
 (x.fst.getD i act20Z).x.live, AV.int IntKind.i64 (x.fst.getD i act20Z).x.gen, AV.int IntKind.i64 (x.fst.getD i act20Z).x.next, AV.bool (x.fst.getD i
 act20Z).mark] = [AV.int IntKind.i64 (x.fst.getD i act20Z).slot, AV.bool (x.fst.getD i act20Z).x.live, AV.int IntKind.i64 (x.fst.getD i act20Z).x.gen, AV.int
 IntKind.i64 (x.fst.getD i act20Z).x.next, AV.bool (x.fst.getD i act20Z).mark]) ∧ ((5 : Nat) = (5 : Nat) ∧ x.snd.length = x.snd.length ∧ ∀ (i : Nat), i <
 x.snd.length → [AV.int IntKind.i64 (x.snd.getD i act20Z).slot, AV.bool (x.snd.getD i act20Z).x.live, AV.int IntKind.i64 (x.snd.getD i act20Z).x.gen, AV.int
 IntKind.i64 (x.snd.getD i act20Z).x.next, AV.bool (x.snd.getD i act20Z).mark] = [AV.int IntKind.i64 (x.snd.getD i act20Z).slot, AV.bool (x.snd.getD i
 act20Z).x.live, AV.int IntKind.i64 (x.snd.getD i act20Z).x.gen, AV.int IntKind.i64 (x.snd.getD i act20Z).x.next, AV.bool (x.snd.getD i act20Z).mark]) ∧ Tr 3
 ((true = true ∧ NilNil ∧ (0 : Nat) = (0 : Nat)) ∧ Tr 1 ((true = true ∧ NilNil ∧ (0 : Nat) = (0 : Nat)) ∧ Tr 1 ((putR x_3.fst x_3.snd.fst x_3.snd.snd.fst
 x_3.snd.snd.snd).at_ = t'.snd.snd.fst) ∧ (true = true ∧ NilNil ∧ (0 : Nat) = (0 : Nat) ∧ (5 : Nat) = (5 : Nat) ∧ (0 : Nat) = (0 : Nat) ∧
 t.snd.snd.snd.snd.length + 1 = t'.snd.snd.snd.snd.length ∧ cap = t'.snd.snd.snd.fst) ∧ Tr 1 ((↑t.fst : Int) + 1 = (↑t'.fst : Int)) ∧ Tr 123 True))) ∧ true =
 true ∧ ((139 : TypeId) = (139 : TypeId) ∧ (true = true ∧ NilNil ∧ (0 : Nat) = (0 : Nat)) ∧ (true = true ∧ NilNil ∧ (0 : Nat) = (0 : Nat)) ∧ True) ∧ devB (putR
 x_3.fst x_3.snd.fst x_3.snd.snd.fst x_3.snd.snd.snd).s.ws = devB t'.snd.fst.ws ∧ allocB (putR x_3.fst x_3.snd.fst x_3.snd.snd.fst x_3.snd.snd.snd).s.a = allocB
 t'.snd.fst.a ∧ ((32 : TypeId) = (32 : TypeId) ∧ (5 : Nat) = (5 : Nat) ∧ cap = t'.snd.snd.snd.fst ∧ t'.snd.snd.snd.snd.length ≤ t.snd.snd.snd.snd.length + 1 ∧ ∀
 (i : Nat), i < t'.snd.snd.snd.snd.length → (if i < t.snd.snd.snd.snd.length then [AV.int IntKind.i64 (t.snd.snd.snd.snd.getD i act20Z).slot, AV.bool
 (t.snd.snd.snd.snd.getD i act20Z).x.live, AV.int IntKind.i64 (t.snd.snd.snd.snd.getD i act20Z).x.gen, AV.int IntKind.i64 (t.snd.snd.snd.snd.getD i
 act20Z).x.next, AV.bool (t.snd.snd.snd.snd.getD i act20Z).mark] else [AV.int IntKind.i64 (if 0 + (i - t.snd.snd.snd.snd.length) = 0 * 5 / 5 then (x.fst.getD
 (↑t.fst : Int).toNat act20Z).slot else 0), AV.bool (if 0 + (i - t.snd.snd.snd.snd.length) = 0 * 5 / 5 then (x.fst.getD (↑t.fst : Int).toNat act20Z).x.live else
 false), AV.int IntKind.i64 (if 0 + (i - t.snd.snd.snd.snd.length) = 0 * 5 / 5 then (x.fst.getD (↑t.fst : Int).toNat act20Z).x.gen else 0), AV.int IntKind.i64
 (if 0 + (i - t.snd.snd.snd.snd.length) = 0 * 5 / 5 then (x.fst.getD (↑t.fst : Int).toNat act20Z).x.next else 0), AV.bool (if 0 + (i - t.snd.snd.snd.snd.length)
 = 0 * 5 / 5 then (x.fst.getD (↑t.fst : Int).toNat act20Z).mark else false)]) = [AV.int IntKind.i64 (t'.snd.snd.snd.snd.getD i act20Z).slot, AV.bool
 (t'.snd.snd.snd.snd.getD i act20Z).x.live, AV.int IntKind.i64 (t'.snd.snd.snd.snd.getD i act20Z).x.gen, AV.int IntKind.i64 (t'.snd.snd.snd.snd.getD i
 act20Z).x.next, AV.bool (t'.snd.snd.snd.snd.getD i act20Z).mark]) ∧ True) (I64 ((↑t.fst : Int) + 1) ∧ Exx (Nat × StoreT × Int × Nat × List Act20) fun t' => (I
 t' ∧ m t' < m t) ∧ (((5 : Nat) = (5 : Nat) ∧ x.fst.length = x.fst.length ∧ ∀ (i : Nat), i < x.fst.length → [AV.int IntKind.i64 (x.fst.getD i act20Z).slot,
 AV.bool (x.fst.getD i act20Z).x.live, AV.int IntKind.i64 (x.fst.getD i act20Z).x.gen, AV.int IntKind.i64 (x.fst.getD i act20Z).x.next, AV.bool (x.fst.getD i
 act20Z).mark] = [AV.int IntKind.i64 (x.fst.getD i act20Z).slot, AV.bool (x.fst.getD i act20Z).x.live, AV.int IntKind.i64 (x.fst.getD i act20Z).x.gen, AV.int
 IntKind.i64 (x.fst.getD i act20Z).x.next, AV.bool (x.fst.getD i act20Z).mark]) ∧ ((5 : Nat) = (5 : Nat) ∧ x.snd.length = x.snd.length ∧ ∀ (i : Nat), i <
 x.snd.length → [AV.int IntKind.i64 (x.snd.getD i act20Z).slot, AV.bool (x.snd.getD i act20Z).x.live, AV.int IntKind.i64 (x.snd.getD i act20Z).x.gen, AV.int
 IntKind.i64 (x.snd.getD i act20Z).x.next, AV.bool (x.snd.getD i act20Z).mark] = [AV.int IntKind.i64 (x.snd.getD i act20Z).slot, AV.bool (x.snd.getD i
 act20Z).x.live, AV.int IntKind.i64 (x.snd.getD i act20Z).x.gen, AV.int IntKind.i64 (x.snd.getD i act20Z).x.next, AV.bool (x.snd.getD i act20Z).mark]) ∧ Tr 3
 ((true = true ∧ NilNil ∧ (0 : Nat) = (0 : Nat)) ∧ Tr 1 ((true = true ∧ NilNil ∧ (0 : Nat) = (0 : Nat)) ∧ Tr 1 (t.snd.snd.fst = t'.snd.snd.fst) ∧ (true = true ∧
 NilNil ∧ (0 : Nat) = (0 : Nat) ∧ (5 : Nat) = (5 : Nat) ∧ (0 : Nat) = (0 : Nat) ∧ t.snd.snd.snd.snd.length = t'.snd.snd.snd.snd.length ∧ t.snd.snd.snd.fst =
 t'.snd.snd.snd.fst) ∧ Tr 1 ((↑t.fst : Int) + 1 = (↑t'.fst : Int)) ∧ Tr 123 True))) ∧ true = true ∧ ((139 : TypeId) = (139 : TypeId) ∧ (true = true ∧ NilNil ∧ (0
 : Nat) = (0 : Nat)) ∧ (true = true ∧ NilNil ∧ (0 : Nat) = (0 : Nat)) ∧ True) ∧ devB (putR x_3.fst x_3.snd.fst x_3.snd.snd.fst x_3.snd.snd.snd).s.ws = devB
 t'.snd.fst.ws ∧ allocB (putR x_3.fst x_3.snd.fst x_3.snd.snd.fst x_3.snd.snd.snd).s.a = allocB t'.snd.fst.a ∧ ((32 : TypeId) = (32 : TypeId) ∧ (5 : Nat) = (5 :
 Nat) ∧ t.snd.snd.snd.fst = t'.snd.snd.snd.fst ∧ t'.snd.snd.snd.snd.length ≤ t.snd.snd.snd.snd.length ∧ ∀ (i : Nat), i < t'.snd.snd.snd.snd.length → [AV.int
 IntKind.i64 (t.snd.snd.snd.snd.getD i act20Z).slot, AV.bool (t.snd.snd.snd.snd.getD i act20Z).x.live, AV.int IntKind.i64 (t.snd.snd.snd.snd.getD i
 act20Z).x.gen, AV.int IntKind.i64 (t.snd.snd.snd.snd.getD i act20Z).x.next, AV.bool (t.snd.snd.snd.snd.getD i act20Z).mark] = [AV.int IntKind.i64
 (t'.snd.snd.snd.snd.getD i act20Z).slot, AV.bool (t'.snd.snd.snd.snd.getD i act20Z).x.live, AV.int IntKind.i64 (t'.snd.snd.snd.snd.getD i act20Z).x.gen, AV.int
 IntKind.i64 (t'.snd.snd.snd.snd.getD i act20Z).x.next, AV.bool (t'.snd.snd.snd.snd.getD i act20Z).mark]) ∧ True)) (Exx (AllocT × Unit) fun x_3 => (((true = true
 ∧ NilNil ∧ (0 : Nat) = (0 : Nat)) ∧ True) ∧ true = true ∧ allocB t.snd.fst.a = allocB x_3.fst ∧ True) ∧ (AllocW x_3.fst ∧ True) ∧ ∀ (y : Unit), True → Exx (Nat
 × StoreT × Int × Int × Nat × List Act20 → Prop) fun I => Exx (Nat × StoreT × Int × Int × Nat × List Act20 → Nat) fun m => (Exx (Nat × StoreT × Int × Int × Nat ×
 List Act20) fun t_1 => I t_1 ∧ Tr 1 (((5 : Nat) = (5 : Nat) ∧ x.snd.length = x.snd.length ∧ ∀ (i : Nat), i < x.snd.length → [AV.int IntKind.i64 (x.snd.getD i
 act20Z).slot, AV.bool (x.snd.getD i act20Z).x.live, AV.int IntKind.i64 (x.snd.getD i act20Z).x.gen, AV.int IntKind.i64 (x.snd.getD i act20Z).x.next, AV.bool
 (x.snd.getD i act20Z).mark] = [AV.int IntKind.i64 (x.snd.getD i act20Z).slot, AV.bool (x.snd.getD i act20Z).x.live, AV.int IntKind.i64 (x.snd.getD i
 act20Z).x.gen, AV.int IntKind.i64 (x.snd.getD i act20Z).x.next, AV.bool (x.snd.getD i act20Z).mark]) ∧ Tr 3 ((true = true ∧ NilNil ∧ (0 : Nat) = (0 : Nat)) ∧ Tr
 2 (Tr 1 (t.snd.snd.fst = t_1.snd.snd.fst) ∧ (true = true ∧ NilNil ∧ (0 : Nat) = (0 : Nat) ∧ (5 : Nat) = (5 : Nat) ∧ (0 : Nat) = (0 : Nat) ∧
 t.snd.snd.snd.snd.length = t_1.snd.snd.snd.snd.snd.length ∧ t.snd.snd.snd.fst = t_1.snd.snd.snd.snd.fst) ∧ Tr 3 (Tr 1 (t.snd.snd.fst = t_1.snd.snd.snd.fst) ∧ Tr
 1 ((0 : Int) = (↑t_1.fst : Int)) ∧ Tr 119 True)))) ∧ true = true ∧ ((139 : TypeId) = (139 : TypeId) ∧ (true = true ∧ NilNil ∧ (0 : Nat) = (0 : Nat)) ∧ (true =
 true ∧ NilNil ∧ (0 : Nat) = (0 : Nat)) ∧ True) ∧ devB t.snd.fst.ws = devB t_1.snd.fst.ws ∧ allocB (markS x_3.fst) = allocB t_1.snd.fst.a ∧ ((32 : TypeId) = (32
 : TypeId) ∧ (5 : Nat) = (5 : Nat) ∧ t.snd.snd.snd.fst = t_1.snd.snd.snd.snd.fst ∧ t_1.snd.snd.snd.snd.snd.length ≤ t.snd.snd.snd.snd.length ∧ ∀ (i : Nat), i <
 t_1.snd.snd.snd.snd.snd.length → [AV.int IntKind.i64 (t.snd.snd.snd.snd.getD i act20Z).slot, AV.bool (t.snd.snd.snd.snd.getD i act20Z).x.live, AV.int
 IntKind.i64 (t.snd.snd.snd.snd.getD i act20Z).x.gen, AV.int IntKind.i64 (t.snd.snd.snd.snd.getD i act20Z).x.next, AV.bool (t.snd.snd.snd.snd.getD i
 act20Z).mark] = [AV.int IntKind.i64 (t_1.snd.snd.snd.snd.snd.getD i act20Z).slot, AV.bool (t_1.snd.snd.snd.snd.snd.getD i act20Z).x.live, AV.int IntKind.i64
 (t_1.snd.snd.snd.snd.snd.getD i act20Z).x.gen, AV.int IntKind.i64 (t_1.snd.snd.snd.snd.snd.getD i act20Z).x.next, AV.bool (t_1.snd.snd.snd.snd.snd.getD i
 act20Z).mark]) ∧ True) ∧ ∀ (t : Nat × StoreT × Int × Int × Nat × List Act20), I t → BC (decide ((↑t.fst : Int) < (↑x.snd.length : Int))) (((0 : Int) ≤ (↑t.fst :
 Int) ∧ (↑t.fst : Int) < (↑x.snd.length : Int)) ∧ ((0 : Int) ≤ (↑t.fst : Int) ∧ (↑t.fst : Int) < (↑x.snd.length : Int)) ∧ Exx (StoreT × Int × Int × SeatT) fun
 x_4 => (((true = true ∧ NilNil ∧ (0 : Nat) = (0 : Nat)) ∧ Tr 1 (t.snd.snd.fst = x_4.snd.fst) ∧ Tr 1 ((x.snd.getD (↑t.fst : Int).toNat act20Z).slot =
 x_4.snd.snd.fst) ∧ ((x.snd.getD (↑t.fst : Int).toNat act20Z).x.live = x_4.snd.snd.snd.live ∧ Tr 1 ((x.snd.getD (↑t.fst : Int).toNat act20Z).x.gen =
 x_4.snd.snd.snd.gen) ∧ Tr 1 ((x.snd.getD (↑t.fst : Int).toNat act20Z).x.next = x_4.snd.snd.snd.next) ∧ True) ∧ True) ∧ true = true ∧ ((139 : TypeId) = (139 :
 TypeId) ∧ (true = true ∧ NilNil ∧ (0 : Nat) = (0 : Nat)) ∧ (true = true ∧ NilNil ∧ (0 : Nat) = (0 : Nat)) ∧ True) ∧ devB t.snd.fst.ws = devB x_4.fst.ws ∧ allocB
 t.snd.fst.a = allocB x_4.fst.a ∧ True) ∧ (StoreW x_4.fst ∧ I64 x_4.snd.fst ∧ I64 x_4.snd.snd.fst ∧ SeatI x_4.snd.snd.snd) ∧ ∀ (y : Unit), True → BC (decide
 ((putR x_4.fst x_4.snd.fst x_4.snd.snd.fst x_4.snd.snd.snd).e = (0 : Int))) (I64 ((↑t.fst : Int) + 1) ∧ Exx (Nat × StoreT × Int × Int × Nat × List Act20) fun t'
 => (I t' ∧ m t' < m t) ∧ Tr 1 (((5 : Nat) = (5 : Nat) ∧ x.snd.length = x.snd.length ∧ ∀ (i : Nat), i < x.snd.length → [AV.int IntKind.i64 (x.snd.getD i
 act20Z).slot, AV.bool (x.snd.getD i act20Z).x.live, AV.int IntKind.i64 (x.snd.getD i act20Z).x.gen, AV.int IntKind.i64 (x.snd.getD i act20Z).x.next, AV.bool
 (x.snd.getD i act20Z).mark] = [AV.int IntKind.i64 (x.snd.getD i act20Z).slot, AV.bool (x.snd.getD i act20Z).x.live, AV.int IntKind.i64 (x.snd.getD i
 act20Z).x.gen, AV.int IntKind.i64 (x.snd.getD i act20Z).x.next, AV.bool (x.snd.getD i act20Z).mark]) ∧ Tr 3 ((true = true ∧ NilNil ∧ (0 : Nat) = (0 : Nat)) ∧ Tr
 2 (Tr 1 ((putR x_4.fst x_4.snd.fst x_4.snd.snd.fst x_4.snd.snd.snd).at_ = t'.snd.snd.fst) ∧ (true = true ∧ NilNil ∧ (0 : Nat) = (0 : Nat) ∧ (5 : Nat) = (5 :
 Nat) ∧ (0 : Nat) = (0 : Nat) ∧ t.snd.snd.snd.snd.snd.length = t'.snd.snd.snd.snd.snd.length ∧ t.snd.snd.snd.snd.fst = t'.snd.snd.snd.snd.fst) ∧ Tr 3 (Tr 1
 (t.snd.snd.snd.fst = t'.snd.snd.snd.fst) ∧ Tr 1 ((↑t.fst : Int) + 1 = (↑t'.fst : Int)) ∧ Tr 119 True)))) ∧ true = true ∧ ((139 : TypeId) = (139 : TypeId) ∧
 (true = true ∧ NilNil ∧ (0 : Nat) = (0 : Nat)) ∧ (true = true ∧ NilNil ∧ (0 : Nat) = (0 : Nat)) ∧ True) ∧ devB (putR x_4.fst x_4.snd.fst x_4.snd.snd.fst
 x_4.snd.snd.snd).s.ws = devB t'.snd.fst.ws ∧ allocB (putR x_4.fst x_4.snd.fst x_4.snd.snd.fst x_4.snd.snd.snd).s.a = allocB t'.snd.fst.a ∧ ((32 : TypeId) = (32
 : TypeId) ∧ (5 : Nat) = (5 : Nat) ∧ t.snd.snd.snd.snd.fst = t'.snd.snd.snd.snd.fst ∧ t'.snd.snd.snd.snd.snd.length ≤ t.snd.snd.snd.snd.snd.length ∧ ∀ (i : Nat),
 i < t'.snd.snd.snd.snd.snd.length → [AV.int IntKind.i64 (t.snd.snd.snd.snd.snd.getD i act20Z).slot, AV.bool (t.snd.snd.snd.snd.snd.getD i act20Z).x.live, AV.int
 IntKind.i64 (t.snd.snd.snd.snd.snd.getD i act20Z).x.gen, AV.int IntKind.i64 (t.snd.snd.snd.snd.snd.getD i act20Z).x.next, AV.bool (t.snd.snd.snd.snd.snd.getD i
 act20Z).mark] = [AV.int IntKind.i64 (t'.snd.snd.snd.snd.snd.getD i act20Z).slot, AV.bool (t'.snd.snd.snd.snd.snd.getD i act20Z).x.live, AV.int IntKind.i64
 (t'.snd.snd.snd.snd.snd.getD i act20Z).x.gen, AV.int IntKind.i64 (t'.snd.snd.snd.snd.snd.getD i act20Z).x.next, AV.bool (t'.snd.snd.snd.snd.snd.getD i
 act20Z).mark]) ∧ True) (I64 ((↑t.fst : Int) + 1) ∧ Exx (Nat × StoreT × Int × Int × Nat × List Act20) fun t' => (I t' ∧ m t' < m t) ∧ Tr 1 (((5 : Nat) = (5 :
 Nat) ∧ x.snd.length = x.snd.length ∧ ∀ (i : Nat), i < x.snd.length → [AV.int IntKind.i64 (x.snd.getD i act20Z).slot, AV.bool (x.snd.getD i act20Z).x.live,
 AV.int IntKind.i64 (x.snd.getD i act20Z).x.gen, AV.int IntKind.i64 (x.snd.getD i act20Z).x.next, AV.bool (x.snd.getD i act20Z).mark] = [AV.int IntKind.i64
 (x.snd.getD i act20Z).slot, AV.bool (x.snd.getD i act20Z).x.live, AV.int IntKind.i64 (x.snd.getD i act20Z).x.gen, AV.int IntKind.i64 (x.snd.getD i
 act20Z).x.next, AV.bool (x.snd.getD i act20Z).mark]) ∧ Tr 3 ((true = true ∧ NilNil ∧ (0 : Nat) = (0 : Nat)) ∧ Tr 2 (Tr 1 (t.snd.snd.fst = t'.snd.snd.fst) ∧
 (true = true ∧ NilNil ∧ (0 : Nat) = (0 : Nat) ∧ (5 : Nat) = (5 : Nat) ∧ (0 : Nat) = (0 : Nat) ∧ t.snd.snd.snd.snd.snd.length = t'.snd.snd.snd.snd.snd.length ∧
 t.snd.snd.snd.snd.fst = t'.snd.snd.snd.snd.fst) ∧ Tr 3 (Tr 1 (t.snd.snd.snd.fst = t'.snd.snd.snd.fst) ∧ Tr 1 ((↑t.fst : Int) + 1 = (↑t'.fst : Int)) ∧ Tr 119
 True)))) ∧ true = true ∧ ((139 : TypeId) = (139 : TypeId) ∧ (true = true ∧ NilNil ∧ (0 : Nat) = (0 : Nat)) ∧ (true = true ∧ NilNil ∧ (0 : Nat) = (0 : Nat)) ∧
 True) ∧ devB (putR x_4.fst x_4.snd.fst x_4.snd.snd.fst x_4.snd.snd.snd).s.ws = devB t'.snd.fst.ws ∧ allocB (putR x_4.fst x_4.snd.fst x_4.snd.snd.fst
 x_4.snd.snd.snd).s.a = allocB t'.snd.fst.a ∧ ((32 : TypeId) = (32 : TypeId) ∧ (5 : Nat) = (5 : Nat) ∧ t.snd.snd.snd.snd.fst = t'.snd.snd.snd.snd.fst ∧
 t'.snd.snd.snd.snd.snd.length ≤ t.snd.snd.snd.snd.snd.length ∧ ∀ (i : Nat), i < t'.snd.snd.snd.snd.snd.length → [AV.int IntKind.i64 (t.snd.snd.snd.snd.snd.getD
 i act20Z).slot, AV.bool (t.snd.snd.snd.snd.snd.getD i act20Z).x.live, AV.int IntKind.i64 (t.snd.snd.snd.snd.snd.getD i act20Z).x.gen, AV.int IntKind.i64
 (t.snd.snd.snd.snd.snd.getD i act20Z).x.next, AV.bool (t.snd.snd.snd.snd.snd.getD i act20Z).mark] = [AV.int IntKind.i64 (t'.snd.snd.snd.snd.snd.getD i
 act20Z).slot, AV.bool (t'.snd.snd.snd.snd.snd.getD i act20Z).x.live, AV.int IntKind.i64 (t'.snd.snd.snd.snd.snd.getD i act20Z).x.gen, AV.int IntKind.i64
 (t'.snd.snd.snd.snd.snd.getD i act20Z).x.next, AV.bool (t'.snd.snd.snd.snd.snd.getD i act20Z).mark]) ∧ True)) (Exx (Nat × StoreT × Int × Nat × List Act20 →
 Prop) fun I => Exx (Nat × StoreT × Int × Nat × List Act20 → Nat) fun m => (Exx (Nat × StoreT × Int × Nat × List Act20) fun t_1 => I t_1 ∧ Tr 5 ((true = true ∧
 NilNil ∧ (0 : Nat) = (0 : Nat)) ∧ Tr 3 ((true = true ∧ NilNil ∧ (0 : Nat) = (0 : Nat) ∧ (5 : Nat) = (5 : Nat) ∧ (0 : Nat) = (0 : Nat) ∧
 t.snd.snd.snd.snd.snd.length = t_1.snd.snd.snd.snd.length ∧ t.snd.snd.snd.snd.fst = t_1.snd.snd.snd.fst) ∧ Tr 3 (Tr 1 (t.snd.snd.snd.fst = t_1.snd.snd.fst) ∧ Tr
 3 (Tr 1 ((0 : Int) = (↑t_1.fst : Int)) ∧ Tr 116 True)))) ∧ true = true ∧ ((139 : TypeId) = (139 : TypeId) ∧ (true = true ∧ NilNil ∧ (0 : Nat) = (0 : Nat)) ∧
 (true = true ∧ NilNil ∧ (0 : Nat) = (0 : Nat)) ∧ True) ∧ devB t.snd.fst.ws = devB t_1.snd.fst.ws ∧ allocB t.snd.fst.a = allocB t_1.snd.fst.a ∧ ((32 : TypeId) =
 (32 : TypeId) ∧ (5 : Nat) = (5 : Nat) ∧ t.snd.snd.snd.snd.fst = t_1.snd.snd.snd.fst ∧ t_1.snd.snd.snd.snd.length ≤ t.snd.snd.snd.snd.snd.length ∧ ∀ (i : Nat), i
 < t_1.snd.snd.snd.snd.length → [AV.int IntKind.i64 (t.snd.snd.snd.snd.snd.getD i act20Z).slot, AV.bool (t.snd.snd.snd.snd.snd.getD i act20Z).x.live, AV.int
 IntKind.i64 (t.snd.snd.snd.snd.snd.getD i act20Z).x.gen, AV.int IntKind.i64 (t.snd.snd.snd.snd.snd.getD i act20Z).x.next, AV.bool (t.snd.snd.snd.snd.snd.getD i
 act20Z).mark] = [AV.int IntKind.i64 (t_1.snd.snd.snd.snd.getD i act20Z).slot, AV.bool (t_1.snd.snd.snd.snd.getD i act20Z).x.live, AV.int IntKind.i64
 (t_1.snd.snd.snd.snd.getD i act20Z).x.gen, AV.int IntKind.i64 (t_1.snd.snd.snd.snd.getD i act20Z).x.next, AV.bool (t_1.snd.snd.snd.snd.getD i act20Z).mark]) ∧
 True) ∧ ∀ (t : Nat × StoreT × Int × Nat × List Act20), I t → BC (decide ((↑t.fst : Int) < (↑t.snd.snd.snd.snd.length : Int))) (((0 : Int) ≤ (↑t.fst : Int) ∧
 (↑t.fst : Int) < (↑t.snd.snd.snd.snd.length : Int)) ∧ 0 + (↑t.fst : Int).toNat < t.snd.snd.snd.snd.length ∧ Exx (StoreT × Int × Int) fun x => (((true = true ∧
 NilNil ∧ (0 : Nat) = (0 : Nat)) ∧ Tr 1 (t.snd.snd.fst = x.snd.fst) ∧ Tr 1 ((t.snd.snd.snd.snd.getD (0 + (↑t.fst : Int).toNat) act20Z).slot = x.snd.snd) ∧ True)
 ∧ true = true ∧ ((139 : TypeId) = (139 : TypeId) ∧ (true = true ∧ NilNil ∧ (0 : Nat) = (0 : Nat)) ∧ (true = true ∧ NilNil ∧ (0 : Nat) = (0 : Nat)) ∧ True) ∧
 devB t.snd.fst.ws = devB x.fst.ws ∧ allocB t.snd.fst.a = allocB x.fst.a ∧ True) ∧ (StoreW x.fst ∧ I64 x.snd.fst ∧ I64 x.snd.snd) ∧ ∀ (y : Unit), True → BC
 (!decide (walkErr x.fst.ws x.snd.fst x.snd.snd = (0 : Int))) (Exx Unit fun y => ((false = true ∧ True) ∧ true = true ∧ True) ∧ True) (((0 : Int) ≤ (↑t.fst :
 Int) ∧ (↑t.fst : Int) < (↑t.snd.snd.snd.snd.length : Int)) ∧ 0 + (↑t.fst : Int).toNat < t.snd.snd.snd.snd.length ∧ Exx (List Act20 × Int) fun x_4 => (((0 +
 t.snd.snd.snd.snd.length ≤ t.snd.snd.snd.snd.length ∧ t.snd.snd.snd.snd.length = x_4.fst.length ∧ ∀ (i : Nat), i < x_4.fst.length → [AV.int IntKind.i64
 (t.snd.snd.snd.snd.getD (0 + i) act20Z).slot, AV.bool (t.snd.snd.snd.snd.getD (0 + i) act20Z).x.live, AV.int IntKind.i64 (t.snd.snd.snd.snd.getD (0 + i)
 act20Z).x.gen, AV.int IntKind.i64 (t.snd.snd.snd.snd.getD (0 + i) act20Z).x.next, AV.bool (t.snd.snd.snd.snd.getD (0 + i) act20Z).mark] = [AV.int IntKind.i64
 (x_4.fst.getD i act20Z).slot, AV.bool (x_4.fst.getD i act20Z).x.live, AV.int IntKind.i64 (x_4.fst.getD i act20Z).x.gen, AV.int IntKind.i64 (x_4.fst.getD i
 act20Z).x.next, AV.bool (x_4.fst.getD i act20Z).mark]) ∧ Tr 1 ((t.snd.snd.snd.snd.getD (0 + (↑t.fst : Int).toNat) act20Z).slot = x_4.snd) ∧ True) ∧ true = true
 ∧ True) ∧ (Acts20 x_4.fst ∧ I64 x_4.snd) ∧ ∀ (y : Unit), True → Tr 3 True ∧ Tr 3 True ∧ ∀ (b : Bool), (b = true ↔ (findS x.fst.ws x.snd.fst x.snd.snd).live =
 (lastS x_4.fst x_4.snd).live ∧ (findS x.fst.ws x.snd.fst x.snd.snd).gen = (lastS x_4.fst x_4.snd).gen ∧ (findS x.fst.ws x.snd.fst x.snd.snd).next = (lastS
 x_4.fst x_4.snd).next ∧ True) → BC (!b) (Exx Unit fun y => ((false = true ∧ True) ∧ true = true ∧ True) ∧ True) (I64 ((↑t.fst : Int) + 1) ∧ Exx (Nat × StoreT ×
 Int × Nat × List Act20) fun t' => (I t' ∧ m t' < m t) ∧ Tr 5 ((true = true ∧ NilNil ∧ (0 : Nat) = (0 : Nat)) ∧ Tr 3 ((true = true ∧ NilNil ∧ (0 : Nat) = (0 :
 Nat) ∧ (5 : Nat) = (5 : Nat) ∧ (0 : Nat) = (0 : Nat) ∧ t.snd.snd.snd.snd.length = t'.snd.snd.snd.snd.length ∧ t.snd.snd.snd.fst = t'.snd.snd.snd.fst) ∧ Tr 3 (Tr
 1 (t.snd.snd.fst = t'.snd.snd.fst) ∧ Tr 3 (Tr 1 ((↑t.fst : Int) + 1 = (↑t'.fst : Int)) ∧ Tr 116 True)))) ∧ true = true ∧ ((139 : TypeId) = (139 : TypeId) ∧
 (true = true ∧ NilNil ∧ (0 : Nat) = (0 : Nat)) ∧ (true = true ∧ NilNil ∧ (0 : Nat) = (0 : Nat)) ∧ True) ∧ devB x.fst.ws = devB t'.snd.fst.ws ∧ allocB x.fst.a =
 allocB t'.snd.fst.a ∧ ((32 : TypeId) = (32 : TypeId) ∧ (5 : Nat) = (5 : Nat) ∧ t.snd.snd.snd.fst = t'.snd.snd.snd.fst ∧ t'.snd.snd.snd.snd.length ≤
 t.snd.snd.snd.snd.length ∧ ∀ (i : Nat), i < t'.snd.snd.snd.snd.length → [AV.int IntKind.i64 (t.snd.snd.snd.snd.getD i act20Z).slot, AV.bool
 (t.snd.snd.snd.snd.getD i act20Z).x.live, AV.int IntKind.i64 (t.snd.snd.snd.snd.getD i act20Z).x.gen, AV.int IntKind.i64 (t.snd.snd.snd.snd.getD i
 act20Z).x.next, AV.bool (t.snd.snd.snd.snd.getD i act20Z).mark] = [AV.int IntKind.i64 (t'.snd.snd.snd.snd.getD i act20Z).slot, AV.bool (t'.snd.snd.snd.snd.getD
 i act20Z).x.live, AV.int IntKind.i64 (t'.snd.snd.snd.snd.getD i act20Z).x.gen, AV.int IntKind.i64 (t'.snd.snd.snd.snd.getD i act20Z).x.next, AV.bool
 (t'.snd.snd.snd.snd.getD i act20Z).mark]) ∧ True))) (Exx Unit fun y => ((true = true ∧ True) ∧ true = true ∧ True) ∧ True))))))) = (fnVC tb [(12, specOf awake20C), (13, specOf madeStoreC), (14, specOf allocMarkC), (15, specOf slotPutC), (17, specOf findC), (18, specOf seat20C)] Tryd.f4 slotsElderC (fun x => { loops := [(9, elder1 x), (18, elder2 x), (24, elder3 x)], loose := [(11, [1, 2, 3]), (20, [1, 2, 3]), (27, [4])] }) (fun _ => none)) := by kernel_rfl 

theorem slotsElder_ok : SpecOk Tryd.prog 4 (specOf slotsElderC) := by
  refine specOk mixed tb_ok (SPok.cons awake20_ok (SPok.cons madeStore_ok (SPok.cons allocMark_ok (SPok.cons slotPut_ok (SPok.cons find_ok (SPok.cons seat20_ok SPok.nil)))))) Tryd.func4 (by decide) (pureC_ok fun _ => rfl) (an := (fun x => { loops := [(9, elder1 x), (18, elder2 x), (24, elder3 x)], loose := [(11, [1, 2, 3]), (20, [1, 2, 3]), (27, [4])] })) (σ := (fun _ => none)) ?_
  rw [← slotsElderV]
  simp (maxSteps := 10000000) only [and_false, false_and, false_or, or_false, bOf_true, bOf_false, true_bOf, false_bOf, Exx, int_ite, merge_o, Tr_eq, true_and, and_true, exists_const, forall_const, implies_true, forall_eq, exists_eq, exists_eq', exists_eq_left, exists_eq_left', exists_eq_right, Prod.exists, Prod.forall, and_assoc, exists_and_left, BC_iff, Bool.not_eq_true', Bool.not_eq_false', decide_eq_true_eq, decide_eq_false_iff_not, I64, nat_cast_inj, Int.toNat_natCast, nats_iff, nats_iff', ints_iff, ints_iff', natss_iff, natss_iff', nilnil, litL_eq, str_inj, str_append, str_length, str_getD, str_take, lit1_iff, one_iff, two_iff, one_get, Nat.zero_add, Nat.sub_zero, Nat.reduceMul, Nat.reduceDiv, Nat.reduceAdd, Int.reduceToNat, Nat.not_lt_zero, if_false, if_true, Nat.le_refl, List.length_singleton, List.length_cons, List.length_nil, Bool.false_eq_true, not_true_eq_false, false_implies, not_false_eq_true, Prod.mk.injEq, devB_inj, allocB_inj, setB_inj]
  rintro l m ⟨⟨hl, hlen⟩, hm, hmlen⟩
  intro h15 h15'
  have cells : ∀ {lst : List Act20} {a : Act20} {j : Nat}, j < (lst ++ [a]).length → (if j < lst.length then [AV.int IntKind.i64 (lst.getD j act20Z).slot, AV.bool (lst.getD j act20Z).x.live, AV.int IntKind.i64 (lst.getD j act20Z).x.gen, AV.int IntKind.i64 (lst.getD j act20Z).x.next, AV.bool (lst.getD j act20Z).mark] else [AV.int IntKind.i64 (if j - lst.length = 0 then a.slot else 0), AV.bool (if j - lst.length = 0 then a.x.live else false), AV.int IntKind.i64 (if j - lst.length = 0 then a.x.gen else 0), AV.int IntKind.i64 (if j - lst.length = 0 then a.x.next else 0), AV.bool (if j - lst.length = 0 then a.mark else false)]) = [AV.int IntKind.i64 ((lst ++ [a]).getD j act20Z).slot, AV.bool ((lst ++ [a]).getD j act20Z).x.live, AV.int IntKind.i64 ((lst ++ [a]).getD j act20Z).x.gen, AV.int IntKind.i64 ((lst ++ [a]).getD j act20Z).x.next, AV.bool ((lst ++ [a]).getD j act20Z).mark] := fun {lst a j} hj => by
    rw [List.length_append] at hj
    simp only [List.length_cons, List.length_nil] at hj
    by_cases e : j < lst.length
    · rw [if_pos e, getD_append, if_pos e]
    · have e2 : j - lst.length = 0 := by omega
      rw [if_neg e, getD_append, if_neg e, e2]; rfl
  have len1 : ∀ (lst : List Act20) (a : Act20), (lst ++ [a]).length = lst.length + 1 := fun lst a => by rw [List.length_append]; rfl
  refine ⟨200, rfl, by omega, by omega, by omega, by omega, fun t => Inv 200 t.1 t.2.1 t.2.2.1 t.2.2.2.2 ∧ t.1 ≤ 15, ⟨0, madeS 200 0, 0, 0, [], ⟨inv_made (by omega) (by omega), by simp only; omega⟩, rfl, rfl, rfl, rfl, rfl, rfl, rfl, rfl⟩, fun t => 16 - t.1, fun i s top cap lst hx => ⟨fun hlt => ?_, fun hge => ?_⟩⟩
  · obtain ⟨hI, hi⟩ := hx
    simp only at hI hi
    have ha := act_get (l := l) ⟨hl, hlen⟩ i
    have hln := hI.len
    have g := inv_any hI (a := l.getD i act20Z) (by omega) ha
    refine ⟨by omega, by omega, by omega, by omega, s, (l.getD i act20Z).x, rfl, rfl, rfl, rfl, rfl, hI.good.W, hI.htop.1, hI.htop.2, ha.1.1, ha.1.2, ha.2, fun he => ⟨by omega, by omega, by omega, by omega, fun cap2 hcap => ⟨by omega, by omega, i + 1, _, _, cap2, lst ++ [l.getD i act20Z], ⟨?_, by simp only; omega⟩, by simp only; omega, rfl, (len1 _ _).symm, rfl, by omega, rfl, rfl, rfl, Nat.le_of_eq (len1 _ _), fun j hj => cells hj⟩⟩, fun he => ⟨by omega, by omega, i + 1, s, top, cap, lst, ⟨inv_next hI, by simp only; omega⟩, by simp only; omega, rfl, rfl, rfl, by omega, ?_, ?_, rfl, Nat.le_refl _, fun _ _ => rfl⟩⟩
    · rcases g with g | g
      · exact g.2.2
      · rw [g] at he; cases he
    · rcases g with g | g
      · exact absurd g.1 he
      · rw [g]
    · rcases g with g | g
      · exact absurd g.1 he
      · rw [g]
  obtain ⟨hI, hi⟩ := hx
  simp only at hI hi
  refine ⟨hI.good.W.2, fun t => t.1 ≤ 15 ∧ ∃ s0 l2, Inv 200 i s0 t.2.2.2.1 t.2.2.2.2.2 ∧ s0.a.m = s0.a.w ∧ Inv 200 (i + t.1) t.2.1 t.2.2.1 l2 ∧ Kept s0 t.2.1, ⟨0, markT s, top, top, cap, lst, ⟨by omega, markT s, lst, inv_mark hI, rfl, inv_mark hI, kept_refl _⟩, rfl, rfl, rfl, rfl, rfl, rfl, rfl, rfl, Nat.le_refl _, fun _ _ => rfl⟩, fun t => 16 - t.1, fun k s2 top2 eld cap2 lst2 hx => ⟨fun hlt => ?_, fun hge2 => ?_⟩⟩
  · obtain ⟨hk, s0, l2, h0, h0m, hJ, hK⟩ := hx
    simp only at hk h0 hJ hK
    have ha := act_get (l := m) ⟨hm, hmlen⟩ k
    have g := inv_any hJ (a := m.getD k act20Z) (by omega) ha
    refine ⟨by omega, by omega, by omega, by omega, s2, (m.getD k act20Z).x, rfl, rfl, rfl, rfl, rfl, hJ.good.W, hJ.htop.1, hJ.htop.2, ha.1.1, ha.1.2, ha.2, fun he => ⟨by omega, by omega, k + 1, _, _, eld, cap2, lst2, ⟨by simp only; omega, s0, l2 ++ [m.getD k act20Z], h0, h0m, ?_, ?_⟩, by simp only; omega, rfl, rfl, rfl, rfl, by omega, rfl, rfl, rfl, Nat.le_refl _, fun _ _ => rfl⟩, fun he => ⟨by omega, by omega, k + 1, s2, top2, eld, cap2, lst2, ⟨by simp only; omega, s0, l2, h0, h0m, inv_next hJ, hK⟩, by simp only; omega, rfl, rfl, rfl, rfl, by omega, ?_, ?_, rfl, Nat.le_refl _, fun _ _ => rfl⟩⟩
    · rcases g with g | g
      · exact g.2.2
      · rw [g] at he; cases he
    · rcases g with g | g
      · exact kept_put hK g.2.1
      · rw [g] at he; cases he
    · rcases g with g | g
      · exact absurd g.1 he
      · rw [g]
    · rcases g with g | g
      · exact absurd g.1 he
      · rw [g]
  obtain ⟨hk, s0, l2, h0, h0m, hJ, hK⟩ := hx
  simp only at hk h0 hJ hK
  refine ⟨fun t => Inv 200 i s0 t.2.2.1 t.2.2.2.2 ∧ StoreW t.2.1 ∧ Kept s0 t.2.1, ⟨0, s2, eld, cap2, lst2, ⟨h0, hJ.good.W, hK⟩, rfl, rfl, rfl, rfl, rfl, rfl, rfl, Nat.le_refl _, fun _ _ => rfl⟩, fun t => t.2.2.2.2.length - t.1, fun k3 s3 eld3 cap3 lst3 hx hlt => ?_⟩
  obtain ⟨h3, hW3, hK3⟩ := hx
  simp only at h3 hW3 hK3
  have hln := h3.len
  have hact := h3.acts (lst3.getD k3 act20Z) (by rw [List.getD_eq_getElem?_getD, List.getElem?_eq_getElem (by omega)]; exact List.getElem_mem _)
  have g := seats_kept h3.tree h3.seats h0m hK3 hact.2
  refine ⟨by omega, by omega, by omega, s3, rfl, rfl, hW3, h3.htop.1, h3.htop.2, hact.1.1.1, hact.1.1.2, fun q => q g.1, fun _ => ⟨by omega, by omega, by omega, lst3, rfl, fun _ _ => rfl, inv_acts h3 (by omega), hact.1.1.1, hact.1.1.2, fun b hb => ?_⟩⟩
  have hbt : b = true := hb.2 ⟨by rw [g.2], by rw [g.2], by rw [g.2]⟩
  exact ⟨fun q => (by rw [hbt] at q; cases q), fun _ => ⟨by omega, by omega, k3 + 1, s3, eld3, cap3, lst3, ⟨h3, hW3, hK3⟩, by simp only; omega, rfl, rfl, rfl, by omega, rfl, rfl, rfl, Nat.le_refl _, fun _ _ => rfl⟩⟩

def slotsElderLC : Ctr := pureC (List A20 × List A20) (fun x => A20I x.1 ∧ A20I x.2) (fun x => [a20A x.1, a20A x.2]) (fun _ => .bool true)
theorem slotsElderL_ok : SpecOk Tryd.prog 4 (specOf slotsElderLC) :=
  law_map slotsElder_ok (fun x => (x.1.map a20, x.2.map a20)) (fun x => by show [acts20A _, acts20A _] = _; rw [a20_args, a20_args]) (fun x h => ⟨a20_acts h.1, a20_acts h.2⟩)

end Yard
