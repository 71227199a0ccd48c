import Derived.Test.YtobpnkcgolkbiaaDoorSlotInv
/- The law SlotsFull. -/
namespace Yard
open Go Go.Sx Go.Proofs
set_option linter.unusedVariables false
set_option linter.unusedSimpArgs false
set_option maxRecDepth 4000
set_option maxHeartbeats 4000000

abbrev fulI (cap : Nat) (l : List Act20) : Sx.Item := .row 32 5 cap l.length (fun i => act20V (l.getD i act20Z))
abbrev fulH (s : StoreT) (cap : Nat) (l : List Act20) : AH := [.fence, storeI 2 3, devI s.ws, allocI s.a, fulI cap l]
abbrev fulS (cap : Nat) (l : List Act20) : AV := .sl 4 [] 0 5 0 l.length cap
def rowRenF (t n : Nat) (F : Fr) (_ : AH) : Option Ren := match F.getD t .any with
  | .sl q _ _ _ _ _ _ => some (idRen n n ++ [some q])
  | _ => some (idRen n n ++ [none])
def slotsFullC : Ctr := pureC (List Act20 × Nat) (fun x => Acts20 x.1 ∧ x.2 < 256) (fun x => [acts20A x.1, .int .u8 (x.2 : Nat)]) (fun _ => .bool true)
abbrev FullT : Type := Nat × StoreT × Int × Nat × List Act20
abbrev fullF (x : List Act20 × Nat) (t : FullT) : List (Nat × AV) := [(0, acts20A x.1), (5, .ptr 1 [] 0), (7, .ptr 3 [] 0), (8, i64 t.2.2.1), (9, fulS t.2.2.2.1 t.2.2.2.2), (10, i64 (t.1 : Nat))]
def full1 (x : List Act20 × Nat) : LA := { T := FullT, F := fun t => frm 126 (fullF x t), H := fun t => fulH t.2.1 t.2.2.2.1 t.2.2.2.2, ρ₁ := rowRenF 9 4, ρ₂ := rowRenF 9 4 }
def full2 (x : List Act20 × Nat) : LA := { T := FullT × Nat, F := fun t => frm 126 (fullF x t.1 ++ [(14, i64 (t.2 : Nat))]), H := fun t => fulH t.1.2.1 t.1.2.2.2.1 t.1.2.2.2.2, ρ₁ := rowRenF 9 4, ρ₂ := rowRenF 9 4 }

-- callees: 12=awake20_ok 13=madeStore_ok 14=allocMark_ok 15=slotPut_ok 16=seat09_ok 17=find_ok 18=seat20_ok 19=allocFree_ok 20=allocBack_ok
theorem slotsFullV : (∀ (x : List Act20 × Nat), Acts20 x.fst ∧ x.snd < 256 → Exx Unit fun x_1 => Tr 1 (true = true ∧ True) ∧ Tr 1 (∀ (y : Unit), True → BC
 (decide ((25 : Int) < (↑x.fst.length : Int))) (Exx Unit fun x => Tr 1 (true = true ∧ True) ∧ Tr 1 (∀ (y : Unit), True → Exx Unit fun y => ((true = true ∧ True)
 ∧ true = true ∧ True) ∧ True)) (∀ (m : Int), m = IntKind.i64.wrap (↑x.snd : Int) → (12 : Int) ≠ (0 : Int) ∧ ∀ (n : Int), n = m.tmod 12 → I64 (2 + n) ∧ Exx (Nat
 × Int) fun x_2 => ((Tr 1 (2 + n = (↑x_2.fst : Int)) ∧ Tr 1 ((0 : Int) = x_2.snd) ∧ True) ∧ true = true ∧ True) ∧ (x_2.fst ≤ 3072 ∧ (0 : Int) ≤ x_2.snd ∧ I64
 x_2.snd) ∧ ∀ (y : Unit), True → Exx (Nat × StoreT × Int × Nat × List Act20 → Prop) fun I => Exx (Nat × StoreT × Int × Nat × List Act20 → Nat) fun m => (Exx (Nat
 × StoreT × Int × Nat × List Act20) fun t => I t ∧ (((5 : Nat) = (5 : Nat) ∧ x.fst.length = x.fst.length ∧ ∀ (i : Nat), i < x.fst.length → [AV.int IntKind.i64
 (x.fst.getD i act20Z).slot, AV.bool (x.fst.getD i act20Z).x.live, AV.int IntKind.i64 (x.fst.getD i act20Z).x.gen, AV.int IntKind.i64 (x.fst.getD i
 act20Z).x.next, AV.bool (x.fst.getD i act20Z).mark] = [AV.int IntKind.i64 (x.fst.getD i act20Z).slot, AV.bool (x.fst.getD i act20Z).x.live, AV.int IntKind.i64
 (x.fst.getD i act20Z).x.gen, AV.int IntKind.i64 (x.fst.getD i act20Z).x.next, AV.bool (x.fst.getD i act20Z).mark]) ∧ Tr 4 ((true = true ∧ NilNil ∧ (0 : Nat) =
 (0 : Nat)) ∧ Tr 1 ((true = true ∧ NilNil ∧ (0 : Nat) = (0 : Nat)) ∧ Tr 1 ((0 : Int) = t.snd.snd.fst) ∧ (t.snd.snd.snd.snd.length = 0 ∧ t.snd.snd.snd.fst = 0) ∧
 Tr 1 ((0 : Int) = (↑t.fst : Int)) ∧ Tr 115 True))) ∧ true = true ∧ ((139 : TypeId) = (139 : TypeId) ∧ (true = true ∧ NilNil ∧ (0 : Nat) = (0 : Nat)) ∧ (true =
 true ∧ NilNil ∧ (0 : Nat) = (0 : Nat)) ∧ True) ∧ devB (madeS x_2.fst x_2.snd).ws = devB t.snd.fst.ws ∧ allocB (madeS x_2.fst x_2.snd).a = allocB t.snd.fst.a ∧
 (t.snd.snd.snd.fst = 0 ∧ t.snd.snd.snd.snd.length = 0) ∧ True) ∧ ∀ (t : Nat × StoreT × Int × Nat × List Act20), I t → BC (decide ((↑t.fst : Int) <
 (↑x.fst.length : Int))) (((0 : Int) ≤ (↑t.fst : Int) ∧ (↑t.fst : Int) < (↑x.fst.length : Int)) ∧ BC (decide ((x.fst.getD (↑t.fst : Int).toNat act20Z).slot < (0
 : Int))) (I64 ((↑t.fst : Int) + 1) ∧ Exx (Nat × StoreT × Int × Nat × List Act20) fun t' => (I t' ∧ m t' < m t) ∧ (((5 : Nat) = (5 : Nat) ∧ x.fst.length =
 x.fst.length ∧ ∀ (i : Nat), i < x.fst.length → [AV.int IntKind.i64 (x.fst.getD i act20Z).slot, AV.bool (x.fst.getD i act20Z).x.live, AV.int IntKind.i64
 (x.fst.getD i act20Z).x.gen, AV.int IntKind.i64 (x.fst.getD i act20Z).x.next, AV.bool (x.fst.getD i act20Z).mark] = [AV.int IntKind.i64 (x.fst.getD i
 act20Z).slot, AV.bool (x.fst.getD i act20Z).x.live, AV.int IntKind.i64 (x.fst.getD i act20Z).x.gen, AV.int IntKind.i64 (x.fst.getD i act20Z).x.next, AV.bool
 (x.fst.getD i act20Z).mark]) ∧ Tr 4 ((true = true ∧ NilNil ∧ (0 : Nat) = (0 : Nat)) ∧ Tr 1 ((true = true ∧ NilNil ∧ (0 : Nat) = (0 : Nat)) ∧ Tr 1 (t.snd.snd.fst
 = t'.snd.snd.fst) ∧ (true = true ∧ NilNil ∧ (0 : Nat) = (0 : Nat) ∧ (5 : Nat) = (5 : Nat) ∧ (0 : Nat) = (0 : Nat) ∧ t.snd.snd.snd.snd.length =
 t'.snd.snd.snd.snd.length ∧ t.snd.snd.snd.fst = t'.snd.snd.snd.fst) ∧ Tr 1 ((↑t.fst : Int) + 1 = (↑t'.fst : Int)) ∧ Tr 115 True))) ∧ true = true ∧ ((139 :
 TypeId) = (139 : TypeId) ∧ (true = true ∧ NilNil ∧ (0 : Nat) = (0 : Nat)) ∧ (true = true ∧ NilNil ∧ (0 : Nat) = (0 : Nat)) ∧ True) ∧ devB t.snd.fst.ws = devB
 t'.snd.fst.ws ∧ allocB t.snd.fst.a = allocB t'.snd.fst.a ∧ ((32 : TypeId) = (32 : TypeId) ∧ (5 : Nat) = (5 : Nat) ∧ t.snd.snd.snd.fst = t'.snd.snd.snd.fst ∧
 t'.snd.snd.snd.snd.length ≤ t.snd.snd.snd.snd.length ∧ ∀ (i : Nat), i < t'.snd.snd.snd.snd.length → [AV.int IntKind.i64 (t.snd.snd.snd.snd.getD i act20Z).slot,
 AV.bool (t.snd.snd.snd.snd.getD i act20Z).x.live, AV.int IntKind.i64 (t.snd.snd.snd.snd.getD i act20Z).x.gen, AV.int IntKind.i64 (t.snd.snd.snd.snd.getD i
 act20Z).x.next, AV.bool (t.snd.snd.snd.snd.getD i act20Z).mark] = [AV.int IntKind.i64 (t'.snd.snd.snd.snd.getD i act20Z).slot, AV.bool (t'.snd.snd.snd.snd.getD
 i act20Z).x.live, AV.int IntKind.i64 (t'.snd.snd.snd.snd.getD i act20Z).x.gen, AV.int IntKind.i64 (t'.snd.snd.snd.snd.getD i act20Z).x.next, AV.bool
 (t'.snd.snd.snd.snd.getD i act20Z).mark]) ∧ True) (BC (decide ((1791 : Int) < (x.fst.getD (↑t.fst : Int).toNat act20Z).slot)) (I64 ((↑t.fst : Int) + 1) ∧ Exx
 (Nat × StoreT × Int × Nat × List Act20) fun t' => (I t' ∧ m t' < m t) ∧ (((5 : Nat) = (5 : Nat) ∧ x.fst.length = x.fst.length ∧ ∀ (i : Nat), i < x.fst.length →
 [AV.int IntKind.i64 (x.fst.getD i act20Z).slot, AV.bool (x.fst.getD i act20Z).x.live, AV.int IntKind.i64 (x.fst.getD i act20Z).x.gen, AV.int IntKind.i64
 (x.fst.getD i act20Z).x.next, AV.bool (x.fst.getD i act20Z).mark] = [AV.int IntKind.i64 (x.fst.getD i act20Z).slot, AV.bool (x.fst.getD i act20Z).x.live, AV.int
 IntKind.i64 (x.fst.getD i act20Z).x.gen, AV.int IntKind.i64 (x.fst.getD i act20Z).x.next, AV.bool (x.fst.getD i act20Z).mark]) ∧ Tr 4 ((true = true ∧ NilNil ∧
 (0 : Nat) = (0 : Nat)) ∧ Tr 1 ((true = true ∧ NilNil ∧ (0 : Nat) = (0 : Nat)) ∧ Tr 1 (t.snd.snd.fst = t'.snd.snd.fst) ∧ (true = true ∧ NilNil ∧ (0 : Nat) = (0 :
 Nat) ∧ (5 : Nat) = (5 : Nat) ∧ (0 : Nat) = (0 : Nat) ∧ t.snd.snd.snd.snd.length = t'.snd.snd.snd.snd.length ∧ t.snd.snd.snd.fst = t'.snd.snd.snd.fst) ∧ Tr 1
 ((↑t.fst : Int) + 1 = (↑t'.fst : Int)) ∧ Tr 115 True))) ∧ true = true ∧ ((139 : TypeId) = (139 : TypeId) ∧ (true = true ∧ NilNil ∧ (0 : Nat) = (0 : Nat)) ∧
 (true = true ∧ NilNil ∧ (0 : Nat) = (0 : Nat)) ∧ True) ∧ devB t.snd.fst.ws = devB t'.snd.fst.ws ∧ allocB t.snd.fst.a = allocB t'.snd.fst.a ∧ ((32 : TypeId) =
 (32 : TypeId) ∧ (5 : Nat) = (5 : Nat) ∧ t.snd.snd.snd.fst = t'.snd.snd.snd.fst ∧ t'.snd.snd.snd.snd.length ≤ t.snd.snd.snd.snd.length ∧ ∀ (i : Nat), i <
 t'.snd.snd.snd.snd.length → [AV.int IntKind.i64 (t.snd.snd.snd.snd.getD i act20Z).slot, AV.bool (t.snd.snd.snd.snd.getD i act20Z).x.live, AV.int IntKind.i64
 (t.snd.snd.snd.snd.getD i act20Z).x.gen, AV.int IntKind.i64 (t.snd.snd.snd.snd.getD i act20Z).x.next, AV.bool (t.snd.snd.snd.snd.getD i act20Z).mark] = [AV.int
 IntKind.i64 (t'.snd.snd.snd.snd.getD i act20Z).slot, AV.bool (t'.snd.snd.snd.snd.getD i act20Z).x.live, AV.int IntKind.i64 (t'.snd.snd.snd.snd.getD i
 act20Z).x.gen, AV.int IntKind.i64 (t'.snd.snd.snd.snd.getD i act20Z).x.next, AV.bool (t'.snd.snd.snd.snd.getD i act20Z).mark]) ∧ True) (Exx SeatT fun x_3 =>
 ((((x.fst.getD (↑t.fst : Int).toNat act20Z).x.live = x_3.live ∧ Tr 1 ((x.fst.getD (↑t.fst : Int).toNat act20Z).x.gen = x_3.gen) ∧ Tr 1 ((x.fst.getD (↑t.fst :
 Int).toNat act20Z).x.next = x_3.next) ∧ True) ∧ True) ∧ true = true ∧ True) ∧ SeatI x_3 ∧ ∀ (y : Unit), True → BC (!decide (seatOk x_3)) (I64 ((↑t.fst : Int) +
 1) ∧ Exx (Nat × StoreT × Int × Nat × List Act20) fun t' => (I t' ∧ m t' < m t) ∧ (((5 : Nat) = (5 : Nat) ∧ x.fst.length = x.fst.length ∧ ∀ (i : Nat), i <
 x.fst.length → [AV.int IntKind.i64 (x.fst.getD i act20Z).slot, AV.bool (x.fst.getD i act20Z).x.live, AV.int IntKind.i64 (x.fst.getD i act20Z).x.gen, AV.int
 IntKind.i64 (x.fst.getD i act20Z).x.next, AV.bool (x.fst.getD i act20Z).mark] = [AV.int IntKind.i64 (x.fst.getD i act20Z).slot, AV.bool (x.fst.getD i
 act20Z).x.live, AV.int IntKind.i64 (x.fst.getD i act20Z).x.gen, AV.int IntKind.i64 (x.fst.getD i act20Z).x.next, AV.bool (x.fst.getD i act20Z).mark]) ∧ Tr 4
 ((true = true ∧ NilNil ∧ (0 : Nat) = (0 : Nat)) ∧ Tr 1 ((true = true ∧ NilNil ∧ (0 : Nat) = (0 : Nat)) ∧ Tr 1 (t.snd.snd.fst = t'.snd.snd.fst) ∧ (true = true ∧
 NilNil ∧ (0 : Nat) = (0 : Nat) ∧ (5 : Nat) = (5 : Nat) ∧ (0 : Nat) = (0 : Nat) ∧ t.snd.snd.snd.snd.length = t'.snd.snd.snd.snd.length ∧ t.snd.snd.snd.fst =
 t'.snd.snd.snd.fst) ∧ Tr 1 ((↑t.fst : Int) + 1 = (↑t'.fst : Int)) ∧ Tr 115 True))) ∧ true = true ∧ ((139 : TypeId) = (139 : TypeId) ∧ (true = true ∧ NilNil ∧ (0
 : Nat) = (0 : Nat)) ∧ (true = true ∧ NilNil ∧ (0 : Nat) = (0 : Nat)) ∧ True) ∧ devB t.snd.fst.ws = devB t'.snd.fst.ws ∧ allocB t.snd.fst.a = allocB t'.snd.fst.a
 ∧ ((32 : TypeId) = (32 : TypeId) ∧ (5 : Nat) = (5 : Nat) ∧ t.snd.snd.snd.fst = t'.snd.snd.snd.fst ∧ t'.snd.snd.snd.snd.length ≤ t.snd.snd.snd.snd.length ∧ ∀ (i
 : Nat), i < t'.snd.snd.snd.snd.length → [AV.int IntKind.i64 (t.snd.snd.snd.snd.getD i act20Z).slot, AV.bool (t.snd.snd.snd.snd.getD i act20Z).x.live, AV.int
 IntKind.i64 (t.snd.snd.snd.snd.getD i act20Z).x.gen, AV.int IntKind.i64 (t.snd.snd.snd.snd.getD i act20Z).x.next, AV.bool (t.snd.snd.snd.snd.getD i
 act20Z).mark] = [AV.int IntKind.i64 (t'.snd.snd.snd.snd.getD i act20Z).slot, AV.bool (t'.snd.snd.snd.snd.getD i act20Z).x.live, AV.int IntKind.i64
 (t'.snd.snd.snd.snd.getD i act20Z).x.gen, AV.int IntKind.i64 (t'.snd.snd.snd.snd.getD i act20Z).x.next, AV.bool (t'.snd.snd.snd.snd.getD i act20Z).mark]) ∧
 True) (Exx (AllocT × Unit) fun x_4 => (((true = true ∧ NilNil ∧ (0 : Nat) = (0 : Nat)) ∧ True) ∧ true = true ∧ allocB t.snd.fst.a = allocB x_4.fst ∧ True) ∧
 (AllocW x_4.fst ∧ True) ∧ ∀ (y : Unit), True → Exx (StoreT × Int × Int × SeatT) fun x_5 => (((true = true ∧ NilNil ∧ (0 : Nat) = (0 : Nat)) ∧ Tr 1
 (t.snd.snd.fst = x_5.snd.fst) ∧ Tr 1 ((x.fst.getD (↑t.fst : Int).toNat act20Z).slot = x_5.snd.snd.fst) ∧ ((x.fst.getD (↑t.fst : Int).toNat act20Z).x.live =
 x_5.snd.snd.snd.live ∧ Tr 1 ((x.fst.getD (↑t.fst : Int).toNat act20Z).x.gen = x_5.snd.snd.snd.gen) ∧ Tr 1 ((x.fst.getD (↑t.fst : Int).toNat act20Z).x.next =
 x_5.snd.snd.snd.next) ∧ True) ∧ True) ∧ true = true ∧ ((139 : TypeId) = (139 : TypeId) ∧ (true = true ∧ NilNil ∧ (0 : Nat) = (0 : Nat)) ∧ (true = true ∧ NilNil
 ∧ (0 : Nat) = (0 : Nat)) ∧ True) ∧ devB t.snd.fst.ws = devB x_5.fst.ws ∧ allocB (markS x_4.fst) = allocB x_5.fst.a ∧ True) ∧ (StoreW x_5.fst ∧ I64 x_5.snd.fst ∧
 I64 x_5.snd.snd.fst ∧ SeatI x_5.snd.snd.snd) ∧ ∀ (y : Unit), True → Exx (Nat × StoreT × Int × Nat × List Act20 → Prop) fun I_1 => BC (decide ((putR x_5.fst
 x_5.snd.fst x_5.snd.snd.fst x_5.snd.snd.snd).e = (0 : Int))) ((0 : Nat) + (1 : Nat) ≤ (1 : Nat) ∧ true = true ∧ (t.snd.snd.snd.snd.length ≤
 t.snd.snd.snd.snd.length ∧ t.snd.snd.snd.fst = t.snd.snd.snd.fst) ∧ (t.snd.snd.snd.snd.length + 1 ≤ 9223372036854775807 ∧ (t.snd.snd.snd.snd.length + 1) * 40 ≤
 140737488355328) ∧ ∀ (cap : Nat), t.snd.snd.snd.snd.length + 1 ≤ cap ∧ cap ≤ 9223372036854775807 → Exx (Nat × StoreT × Int × Nat × List Act20) fun t_1 => I_1
 t_1 ∧ (((5 : Nat) = (5 : Nat) ∧ x.fst.length = x.fst.length ∧ ∀ (i : Nat), i < x.fst.length → [AV.int IntKind.i64 (x.fst.getD i act20Z).slot, AV.bool
 (x.fst.getD i act20Z).x.live, AV.int IntKind.i64 (x.fst.getD i act20Z).x.gen, AV.int IntKind.i64 (x.fst.getD i act20Z).x.next, AV.bool (x.fst.getD i
 act20Z).mark] = [AV.int IntKind.i64 (x.fst.getD i act20Z).slot, AV.bool (x.fst.getD i act20Z).x.live, AV.int IntKind.i64 (x.fst.getD i act20Z).x.gen, AV.int
 IntKind.i64 (x.fst.getD i act20Z).x.next, AV.bool (x.fst.getD i act20Z).mark]) ∧ Tr 4 ((true = true ∧ NilNil ∧ (0 : Nat) = (0 : Nat)) ∧ Tr 1 ((true = true ∧
 NilNil ∧ (0 : Nat) = (0 : Nat)) ∧ Tr 1 ((putR x_5.fst x_5.snd.fst x_5.snd.snd.fst x_5.snd.snd.snd).at_ = t_1.snd.snd.fst) ∧ (true = true ∧ NilNil ∧ (0 : Nat) =
 (0 : Nat) ∧ (5 : Nat) = (5 : Nat) ∧ (0 : Nat) = (0 : Nat) ∧ t.snd.snd.snd.snd.length + 1 = t_1.snd.snd.snd.snd.length ∧ cap = t_1.snd.snd.snd.fst) ∧ Tr 1
 ((↑t.fst : Int) = (↑t_1.fst : Int)) ∧ Tr 115 True))) ∧ true = true ∧ ((139 : TypeId) = (139 : TypeId) ∧ (true = true ∧ NilNil ∧ (0 : Nat) = (0 : Nat)) ∧ (true =
 true ∧ NilNil ∧ (0 : Nat) = (0 : Nat)) ∧ True) ∧ devB (putR x_5.fst x_5.snd.fst x_5.snd.snd.fst x_5.snd.snd.snd).s.ws = devB t_1.snd.fst.ws ∧ allocB (putR
 x_5.fst x_5.snd.fst x_5.snd.snd.fst x_5.snd.snd.snd).s.a = allocB t_1.snd.fst.a ∧ ((32 : TypeId) = (32 : TypeId) ∧ (5 : Nat) = (5 : Nat) ∧ cap =
 t_1.snd.snd.snd.fst ∧ t_1.snd.snd.snd.snd.length ≤ t.snd.snd.snd.snd.length + 1 ∧ ∀ (i : Nat), i < t_1.snd.snd.snd.snd.length → (if i < t.snd.snd.snd.snd.length
 then [AV.int IntKind.i64 (t.snd.snd.snd.snd.getD i act20Z).slot, AV.bool (t.snd.snd.snd.snd.getD i act20Z).x.live, AV.int IntKind.i64 (t.snd.snd.snd.snd.getD i
 act20Z).x.gen, AV.int IntKind.i64 (t.snd.snd.snd.snd.getD i act20Z).x.next, AV.bool (t.snd.snd.snd.snd.getD i act20Z).mark] else [AV.int IntKind.i64 (if 0 + (i
 - t.snd.snd.snd.snd.length) = 0 * 5 / 5 then (x.fst.getD (↑t.fst : Int).toNat act20Z).slot else 0), AV.bool (if 0 + (i - t.snd.snd.snd.snd.length) = 0 * 5 / 5
 then (x.fst.getD (↑t.fst : Int).toNat act20Z).x.live else false), AV.int IntKind.i64 (if 0 + (i - t.snd.snd.snd.snd.length) = 0 * 5 / 5 then (x.fst.getD (↑t.fst
 : Int).toNat act20Z).x.gen else 0), AV.int IntKind.i64 (if 0 + (i - t.snd.snd.snd.snd.length) = 0 * 5 / 5 then (x.fst.getD (↑t.fst : Int).toNat act20Z).x.next
 else 0), AV.bool (if 0 + (i - t.snd.snd.snd.snd.length) = 0 * 5 / 5 then (x.fst.getD (↑t.fst : Int).toNat act20Z).mark else false)]) = [AV.int IntKind.i64
 (t_1.snd.snd.snd.snd.getD i act20Z).slot, AV.bool (t_1.snd.snd.snd.snd.getD i act20Z).x.live, AV.int IntKind.i64 (t_1.snd.snd.snd.snd.getD i act20Z).x.gen,
 AV.int IntKind.i64 (t_1.snd.snd.snd.snd.getD i act20Z).x.next, AV.bool (t_1.snd.snd.snd.snd.getD i act20Z).mark]) ∧ True) (BC (!decide ((putR x_5.fst
 x_5.snd.fst x_5.snd.snd.fst x_5.snd.snd.snd).e = (10 : Int))) (Exx Unit fun y => ((false = true ∧ True) ∧ true = true ∧ True) ∧ True) (BC (!decide ((putR
 x_5.fst x_5.snd.fst x_5.snd.snd.fst x_5.snd.snd.snd).at_ = (0 : Int))) (Exx Unit fun y => ((false = true ∧ True) ∧ true = true ∧ True) ∧ True) (Exx (AllocT ×
 Unit) fun x_6 => (((true = true ∧ NilNil ∧ (0 : Nat) = (0 : Nat)) ∧ True) ∧ true = true ∧ allocB (putR x_5.fst x_5.snd.fst x_5.snd.snd.fst x_5.snd.snd.snd).s.a
 = allocB x_6.fst ∧ True) ∧ (AllocW x_6.fst ∧ True) ∧ ∀ (y : Unit), True → BC (decide ((2 : Int) < freeN x_6.fst)) (Exx Unit fun y => ((false = true ∧ True) ∧
 true = true ∧ True) ∧ True) (Exx (AllocT × Unit) fun x_7 => (((true = true ∧ NilNil ∧ (0 : Nat) = (0 : Nat)) ∧ True) ∧ true = true ∧ allocB x_6.fst = allocB
 x_7.fst ∧ True) ∧ (AllocW x_7.fst ∧ True) ∧ ∀ (y : Unit), True → Exx (Nat × StoreT × Int × Nat × List Act20) fun t_1 => I_1 t_1 ∧ (((5 : Nat) = (5 : Nat) ∧
 x.fst.length = x.fst.length ∧ ∀ (i : Nat), i < x.fst.length → [AV.int IntKind.i64 (x.fst.getD i act20Z).slot, AV.bool (x.fst.getD i act20Z).x.live, AV.int
 IntKind.i64 (x.fst.getD i act20Z).x.gen, AV.int IntKind.i64 (x.fst.getD i act20Z).x.next, AV.bool (x.fst.getD i act20Z).mark] = [AV.int IntKind.i64 (x.fst.getD
 i act20Z).slot, AV.bool (x.fst.getD i act20Z).x.live, AV.int IntKind.i64 (x.fst.getD i act20Z).x.gen, AV.int IntKind.i64 (x.fst.getD i act20Z).x.next, AV.bool
 (x.fst.getD i act20Z).mark]) ∧ Tr 4 ((true = true ∧ NilNil ∧ (0 : Nat) = (0 : Nat)) ∧ Tr 1 ((true = true ∧ NilNil ∧ (0 : Nat) = (0 : Nat)) ∧ Tr 1 (t.snd.snd.fst
 = t_1.snd.snd.fst) ∧ (true = true ∧ NilNil ∧ (0 : Nat) = (0 : Nat) ∧ (5 : Nat) = (5 : Nat) ∧ (0 : Nat) = (0 : Nat) ∧ t.snd.snd.snd.snd.length =
 t_1.snd.snd.snd.snd.length ∧ t.snd.snd.snd.fst = t_1.snd.snd.snd.fst) ∧ Tr 1 ((↑t.fst : Int) = (↑t_1.fst : Int)) ∧ Tr 115 True))) ∧ true = true ∧ ((139 :
 TypeId) = (139 : TypeId) ∧ (true = true ∧ NilNil ∧ (0 : Nat) = (0 : Nat)) ∧ (true = true ∧ NilNil ∧ (0 : Nat) = (0 : Nat)) ∧ True) ∧ devB (putR x_5.fst
 x_5.snd.fst x_5.snd.snd.fst x_5.snd.snd.snd).s.ws = devB t_1.snd.fst.ws ∧ allocB (backS x_7.fst) = allocB t_1.snd.fst.a ∧ ((32 : TypeId) = (32 : TypeId) ∧ (5 :
 Nat) = (5 : Nat) ∧ t.snd.snd.snd.fst = t_1.snd.snd.snd.fst ∧ t_1.snd.snd.snd.snd.length ≤ t.snd.snd.snd.snd.length ∧ ∀ (i : Nat), i < t_1.snd.snd.snd.snd.length
 → [AV.int IntKind.i64 (t.snd.snd.snd.snd.getD i act20Z).slot, AV.bool (t.snd.snd.snd.snd.getD i act20Z).x.live, AV.int IntKind.i64 (t.snd.snd.snd.snd.getD i
 act20Z).x.gen, AV.int IntKind.i64 (t.snd.snd.snd.snd.getD i act20Z).x.next, AV.bool (t.snd.snd.snd.snd.getD i act20Z).mark] = [AV.int IntKind.i64
 (t_1.snd.snd.snd.snd.getD i act20Z).slot, AV.bool (t_1.snd.snd.snd.snd.getD i act20Z).x.live, AV.int IntKind.i64 (t_1.snd.snd.snd.snd.getD i act20Z).x.gen,
 AV.int IntKind.i64 (t_1.snd.snd.snd.snd.getD i act20Z).x.next, AV.bool (t_1.snd.snd.snd.snd.getD i act20Z).mark]) ∧ True)))) ∧ ∀ (t_1 : Nat × StoreT × Int × Nat
 × List Act20), I_1 t_1 → Exx (FullT × Nat → Prop) fun I_2 => Exx (FullT × Nat → Nat) fun m_1 => (Exx (FullT × Nat) fun t => I_2 t ∧ (((5 : Nat) = (5 : Nat) ∧
 x.fst.length = x.fst.length ∧ ∀ (i : Nat), i < x.fst.length → [AV.int IntKind.i64 (x.fst.getD i act20Z).slot, AV.bool (x.fst.getD i act20Z).x.live, AV.int
 IntKind.i64 (x.fst.getD i act20Z).x.gen, AV.int IntKind.i64 (x.fst.getD i act20Z).x.next, AV.bool (x.fst.getD i act20Z).mark] = [AV.int IntKind.i64 (x.fst.getD
 i act20Z).slot, AV.bool (x.fst.getD i act20Z).x.live, AV.int IntKind.i64 (x.fst.getD i act20Z).x.gen, AV.int IntKind.i64 (x.fst.getD i act20Z).x.next, AV.bool
 (x.fst.getD i act20Z).mark]) ∧ Tr 4 ((true = true ∧ NilNil ∧ (0 : Nat) = (0 : Nat)) ∧ Tr 1 ((true = true ∧ NilNil ∧ (0 : Nat) = (0 : Nat)) ∧ Tr 1
 (t_1.snd.snd.fst = t.fst.snd.snd.fst) ∧ (true = true ∧ NilNil ∧ (0 : Nat) = (0 : Nat) ∧ (5 : Nat) = (5 : Nat) ∧ (0 : Nat) = (0 : Nat) ∧
 t_1.snd.snd.snd.snd.length = t.fst.snd.snd.snd.snd.length ∧ t_1.snd.snd.snd.fst = t.fst.snd.snd.snd.fst) ∧ Tr 1 ((↑t_1.fst : Int) = (↑t.fst.fst : Int)) ∧ Tr 3
 (Tr 1 ((0 : Int) = (↑t.snd : Int)) ∧ Tr 111 True)))) ∧ true = true ∧ ((139 : TypeId) = (139 : TypeId) ∧ (true = true ∧ NilNil ∧ (0 : Nat) = (0 : Nat)) ∧ (true =
 true ∧ NilNil ∧ (0 : Nat) = (0 : Nat)) ∧ True) ∧ devB t_1.snd.fst.ws = devB t.fst.snd.fst.ws ∧ allocB t_1.snd.fst.a = allocB t.fst.snd.fst.a ∧ ((32 : TypeId) =
 (32 : TypeId) ∧ (5 : Nat) = (5 : Nat) ∧ t_1.snd.snd.snd.fst = t.fst.snd.snd.snd.fst ∧ t.fst.snd.snd.snd.snd.length ≤ t_1.snd.snd.snd.snd.length ∧ ∀ (i : Nat), i
 < t.fst.snd.snd.snd.snd.length → [AV.int IntKind.i64 (t_1.snd.snd.snd.snd.getD i act20Z).slot, AV.bool (t_1.snd.snd.snd.snd.getD i act20Z).x.live, AV.int
 IntKind.i64 (t_1.snd.snd.snd.snd.getD i act20Z).x.gen, AV.int IntKind.i64 (t_1.snd.snd.snd.snd.getD i act20Z).x.next, AV.bool (t_1.snd.snd.snd.snd.getD i
 act20Z).mark] = [AV.int IntKind.i64 (t.fst.snd.snd.snd.snd.getD i act20Z).slot, AV.bool (t.fst.snd.snd.snd.snd.getD i act20Z).x.live, AV.int IntKind.i64
 (t.fst.snd.snd.snd.snd.getD i act20Z).x.gen, AV.int IntKind.i64 (t.fst.snd.snd.snd.snd.getD i act20Z).x.next, AV.bool (t.fst.snd.snd.snd.snd.getD i
 act20Z).mark]) ∧ True) ∧ ∀ (t_2 : FullT × Nat), I_2 t_2 → BC (decide ((↑t_2.snd : Int) < (↑t_2.fst.snd.snd.snd.snd.length : Int))) (((0 : Int) ≤ (↑t_2.snd :
 Int) ∧ (↑t_2.snd : Int) < (↑t_2.fst.snd.snd.snd.snd.length : Int)) ∧ 0 + (↑t_2.snd : Int).toNat < t_2.fst.snd.snd.snd.snd.length ∧ Exx (StoreT × Int × Int) fun
 x_6 => (((true = true ∧ NilNil ∧ (0 : Nat) = (0 : Nat)) ∧ Tr 1 (t_2.fst.snd.snd.fst = x_6.snd.fst) ∧ Tr 1 ((t_2.fst.snd.snd.snd.snd.getD (0 + (↑t_2.snd :
 Int).toNat) act20Z).slot = x_6.snd.snd) ∧ True) ∧ true = true ∧ ((139 : TypeId) = (139 : TypeId) ∧ (true = true ∧ NilNil ∧ (0 : Nat) = (0 : Nat)) ∧ (true = true
 ∧ NilNil ∧ (0 : Nat) = (0 : Nat)) ∧ True) ∧ devB t_2.fst.snd.fst.ws = devB x_6.fst.ws ∧ allocB t_2.fst.snd.fst.a = allocB x_6.fst.a ∧ True) ∧ (StoreW x_6.fst ∧
 I64 x_6.snd.fst ∧ I64 x_6.snd.snd) ∧ ∀ (y : Unit), True → BC (!decide (walkErr x_6.fst.ws x_6.snd.fst x_6.snd.snd = (0 : Int))) (Exx Unit fun y => ((false =
 true ∧ True) ∧ true = true ∧ True) ∧ True) (((0 : Int) ≤ (↑t_2.snd : Int) ∧ (↑t_2.snd : Int) < (↑t_2.fst.snd.snd.snd.snd.length : Int)) ∧ 0 + (↑t_2.snd :
 Int).toNat < t_2.fst.snd.snd.snd.snd.length ∧ Exx (List Act20 × Int) fun x_7 => (((0 + t_2.fst.snd.snd.snd.snd.length ≤ t_2.fst.snd.snd.snd.snd.length ∧
 t_2.fst.snd.snd.snd.snd.length = x_7.fst.length ∧ ∀ (i : Nat), i < x_7.fst.length → [AV.int IntKind.i64 (t_2.fst.snd.snd.snd.snd.getD (0 + i) act20Z).slot,
 AV.bool (t_2.fst.snd.snd.snd.snd.getD (0 + i) act20Z).x.live, AV.int IntKind.i64 (t_2.fst.snd.snd.snd.snd.getD (0 + i) act20Z).x.gen, AV.int IntKind.i64
 (t_2.fst.snd.snd.snd.snd.getD (0 + i) act20Z).x.next, AV.bool (t_2.fst.snd.snd.snd.snd.getD (0 + i) act20Z).mark] = [AV.int IntKind.i64 (x_7.fst.getD i
 act20Z).slot, AV.bool (x_7.fst.getD i act20Z).x.live, AV.int IntKind.i64 (x_7.fst.getD i act20Z).x.gen, AV.int IntKind.i64 (x_7.fst.getD i act20Z).x.next,
 AV.bool (x_7.fst.getD i act20Z).mark]) ∧ Tr 1 ((t_2.fst.snd.snd.snd.snd.getD (0 + (↑t_2.snd : Int).toNat) act20Z).slot = x_7.snd) ∧ True) ∧ true = true ∧ True)
 ∧ (Acts20 x_7.fst ∧ I64 x_7.snd) ∧ ∀ (y : Unit), True → Tr 3 True ∧ Tr 3 True ∧ ∀ (b : Bool), (b = true ↔ (findS x_6.fst.ws x_6.snd.fst x_6.snd.snd).live =
 (lastS x_7.fst x_7.snd).live ∧ (findS x_6.fst.ws x_6.snd.fst x_6.snd.snd).gen = (lastS x_7.fst x_7.snd).gen ∧ (findS x_6.fst.ws x_6.snd.fst x_6.snd.snd).next =
 (lastS x_7.fst x_7.snd).next ∧ True) → BC (!b) (Exx Unit fun y => ((false = true ∧ True) ∧ true = true ∧ True) ∧ True) (I64 ((↑t_2.snd : Int) + 1) ∧ Exx (FullT
 × Nat) fun t' => (I_2 t' ∧ m_1 t' < m_1 t_2) ∧ (((5 : Nat) = (5 : Nat) ∧ x.fst.length = x.fst.length ∧ ∀ (i : Nat), i < x.fst.length → [AV.int IntKind.i64
 (x.fst.getD i act20Z).slot, AV.bool (x.fst.getD i act20Z).x.live, AV.int IntKind.i64 (x.fst.getD i act20Z).x.gen, AV.int IntKind.i64 (x.fst.getD i
 act20Z).x.next, AV.bool (x.fst.getD i act20Z).mark] = [AV.int IntKind.i64 (x.fst.getD i act20Z).slot, AV.bool (x.fst.getD i act20Z).x.live, AV.int IntKind.i64
 (x.fst.getD i act20Z).x.gen, AV.int IntKind.i64 (x.fst.getD i act20Z).x.next, AV.bool (x.fst.getD i act20Z).mark]) ∧ Tr 4 ((true = true ∧ NilNil ∧ (0 : Nat) =
 (0 : Nat)) ∧ Tr 1 ((true = true ∧ NilNil ∧ (0 : Nat) = (0 : Nat)) ∧ Tr 1 (t_2.fst.snd.snd.fst = t'.fst.snd.snd.fst) ∧ (true = true ∧ NilNil ∧ (0 : Nat) = (0 :
 Nat) ∧ (5 : Nat) = (5 : Nat) ∧ (0 : Nat) = (0 : Nat) ∧ t_2.fst.snd.snd.snd.snd.length = t'.fst.snd.snd.snd.snd.length ∧ t_2.fst.snd.snd.snd.fst =
 t'.fst.snd.snd.snd.fst) ∧ Tr 1 ((↑t_2.fst.fst : Int) = (↑t'.fst.fst : Int)) ∧ Tr 3 (Tr 1 ((↑t_2.snd : Int) + 1 = (↑t'.snd : Int)) ∧ Tr 111 True)))) ∧ true =
 true ∧ ((139 : TypeId) = (139 : TypeId) ∧ (true = true ∧ NilNil ∧ (0 : Nat) = (0 : Nat)) ∧ (true = true ∧ NilNil ∧ (0 : Nat) = (0 : Nat)) ∧ True) ∧ devB
 x_6.fst.ws = devB t'.fst.snd.fst.ws ∧ allocB x_6.fst.a = allocB t'.fst.snd.fst.a ∧ ((32 : TypeId) = (32 : TypeId) ∧ (5 : Nat) = (5 : Nat) ∧
 t_2.fst.snd.snd.snd.fst = t'.fst.snd.snd.snd.fst ∧ t'.fst.snd.snd.snd.snd.length ≤ t_2.fst.snd.snd.snd.snd.length ∧ ∀ (i : Nat), i <
 t'.fst.snd.snd.snd.snd.length → [AV.int IntKind.i64 (t_2.fst.snd.snd.snd.snd.getD i act20Z).slot, AV.bool (t_2.fst.snd.snd.snd.snd.getD i act20Z).x.live, AV.int
 IntKind.i64 (t_2.fst.snd.snd.snd.snd.getD i act20Z).x.gen, AV.int IntKind.i64 (t_2.fst.snd.snd.snd.snd.getD i act20Z).x.next, AV.bool
 (t_2.fst.snd.snd.snd.snd.getD i act20Z).mark] = [AV.int IntKind.i64 (t'.fst.snd.snd.snd.snd.getD i act20Z).slot, AV.bool (t'.fst.snd.snd.snd.snd.getD i
 act20Z).x.live, AV.int IntKind.i64 (t'.fst.snd.snd.snd.snd.getD i act20Z).x.gen, AV.int IntKind.i64 (t'.fst.snd.snd.snd.snd.getD i act20Z).x.next, AV.bool
 (t'.fst.snd.snd.snd.snd.getD i act20Z).mark]) ∧ True))) (I64 ((↑t_2.fst.fst : Int) + 1) ∧ Exx (Nat × StoreT × Int × Nat × List Act20) fun t' => (I t' ∧ m t' < m
 t) ∧ (((5 : Nat) = (5 : Nat) ∧ x.fst.length = x.fst.length ∧ ∀ (i : Nat), i < x.fst.length → [AV.int IntKind.i64 (x.fst.getD i act20Z).slot, AV.bool (x.fst.getD
 i act20Z).x.live, AV.int IntKind.i64 (x.fst.getD i act20Z).x.gen, AV.int IntKind.i64 (x.fst.getD i act20Z).x.next, AV.bool (x.fst.getD i act20Z).mark] = [AV.int
 IntKind.i64 (x.fst.getD i act20Z).slot, AV.bool (x.fst.getD i act20Z).x.live, AV.int IntKind.i64 (x.fst.getD i act20Z).x.gen, AV.int IntKind.i64 (x.fst.getD i
 act20Z).x.next, AV.bool (x.fst.getD i act20Z).mark]) ∧ Tr 4 ((true = true ∧ NilNil ∧ (0 : Nat) = (0 : Nat)) ∧ Tr 1 ((true = true ∧ NilNil ∧ (0 : Nat) = (0 :
 Nat)) ∧ Tr 1 (t_2.fst.snd.snd.fst = t'.snd.snd.fst) ∧ (true = true ∧ NilNil ∧ (0 : Nat) = (0 : Nat) ∧ (5 : Nat) = (5 : Nat) ∧ (0 : Nat) = (0 : Nat) ∧
 t_2.fst.snd.snd.snd.snd.length = t'.snd.snd.snd.snd.length ∧ t_2.fst.snd.snd.snd.fst = t'.snd.snd.snd.fst) ∧ Tr 1 ((↑t_2.fst.fst : Int) + 1 = (↑t'.fst : Int)) ∧
 Tr 115 True))) ∧ true = true ∧ ((139 : TypeId) = (139 : TypeId) ∧ (true = true ∧ NilNil ∧ (0 : Nat) = (0 : Nat)) ∧ (true = true ∧ NilNil ∧ (0 : Nat) = (0 :
 Nat)) ∧ True) ∧ devB t_2.fst.snd.fst.ws = devB t'.snd.fst.ws ∧ allocB t_2.fst.snd.fst.a = allocB t'.snd.fst.a ∧ ((32 : TypeId) = (32 : TypeId) ∧ (5 : Nat) = (5
 : Nat) ∧ t_2.fst.snd.snd.snd.fst = t'.snd.snd.snd.fst ∧ t'.snd.snd.snd.snd.length ≤ t_2.fst.snd.snd.snd.snd.length ∧ ∀ (i : Nat), i < t'.snd.snd.snd.snd.length
 → [AV.int IntKind.i64 (t_2.fst.snd.snd.snd.snd.getD i act20Z).slot, AV.bool (t_2.fst.snd.snd.snd.snd.getD i act20Z).x.live, AV.int IntKind.i64
 (t_2.fst.snd.snd.snd.snd.getD i act20Z).x.gen, AV.int IntKind.i64 (t_2.fst.snd.snd.snd.snd.getD i act20Z).x.next, AV.bool (t_2.fst.snd.snd.snd.snd.getD i
 act20Z).mark] = [AV.int IntKind.i64 (t'.snd.snd.snd.snd.getD i act20Z).slot, AV.bool (t'.snd.snd.snd.snd.getD i act20Z).x.live, AV.int IntKind.i64
 (t'.snd.snd.snd.snd.getD i act20Z).x.gen, AV.int IntKind.i64 (t'.snd.snd.snd.snd.getD i act20Z).x.next, AV.bool (t'.snd.snd.snd.snd.getD i act20Z).mark]) ∧
 True))))) (Exx Unit fun y => ((true = true ∧ True) ∧ true = true ∧ True) ∧ True)))) = (fnVC tb [(12, specOf awake20C), (13, specOf madeStoreC), (14, specOf allocMarkC), (15, specOf slotPutC), (16, specOf seat09C), (17, specOf findC), (18, specOf seat20C), (19, specOf allocFreeC), (20, specOf allocBackC)] Tryd.f5 slotsFullC (fun x => { loops := [(9, full1 x), (22, full2 x)], loose := [(25, [4])], joins := [(21, full1 x)] }) (fun _ => none)) := by kernel_rfl 

theorem slotsFull_ok : SpecOk Tryd.prog 5 (specOf slotsFullC) := by
  refine specOk mixed tb_ok (SPok.cons awake20_ok (SPok.cons madeStore_ok (SPok.cons allocMark_ok (SPok.cons slotPut_ok (SPok.cons seat09_ok (SPok.cons find_ok (SPok.cons seat20_ok (SPok.cons allocFree_ok (SPok.cons allocBack_ok SPok.nil))))))))) Tryd.func5 (by decide) (pureC_ok fun _ => rfl) (an := (fun x => { loops := [(9, full1 x), (22, full2 x)], loose := [(25, [4])], joins := [(21, full1 x)] })) (σ := (fun _ => none)) ?_
  rw [← slotsFullV]
  simp (maxSteps := 10000000) only [and_false, false_and, false_or, or_false, bOf_true, bOf_false, true_bOf, false_bOf, Exx, int_ite, merge_o, Tr_eq, true_and, and_true, exists_const, forall_const, implies_true, forall_eq, exists_eq, exists_eq', exists_eq_left, exists_eq_left', exists_eq_right, Prod.exists, Prod.forall, and_assoc, exists_and_left, BC_iff, Bool.not_eq_true', Bool.not_eq_false', decide_eq_true_eq, decide_eq_false_iff_not, I64, nat_cast_inj, Int.toNat_natCast, nats_iff, nats_iff', ints_iff, ints_iff', natss_iff, natss_iff', nilnil, litL_eq, str_inj, str_append, str_length, str_getD, str_take, lit1_iff, one_iff, two_iff, one_get, Nat.zero_add, Nat.sub_zero, Nat.reduceMul, Nat.reduceDiv, Nat.reduceAdd, Int.reduceToNat, Nat.not_lt_zero, if_false, if_true, Nat.le_refl, List.length_singleton, List.length_cons, List.length_nil, Bool.false_eq_true, not_true_eq_false, false_implies, not_false_eq_true, Prod.mk.injEq, devB_inj, allocB_inj, setB_inj]
  rintro l b ⟨⟨hl, hlen⟩, hb⟩
  intro h25
  have cells : ∀ {lst : List Act20} {a : Act20} {j : Nat}, j < (lst ++ [a]).length → (if j < lst.length then [AV.int IntKind.i64 (lst.getD j act20Z).slot, AV.bool (lst.getD j act20Z).x.live, AV.int IntKind.i64 (lst.getD j act20Z).x.gen, AV.int IntKind.i64 (lst.getD j act20Z).x.next, AV.bool (lst.getD j act20Z).mark] else [AV.int IntKind.i64 (if j - lst.length = 0 then a.slot else 0), AV.bool (if j - lst.length = 0 then a.x.live else false), AV.int IntKind.i64 (if j - lst.length = 0 then a.x.gen else 0), AV.int IntKind.i64 (if j - lst.length = 0 then a.x.next else 0), AV.bool (if j - lst.length = 0 then a.mark else false)]) = [AV.int IntKind.i64 ((lst ++ [a]).getD j act20Z).slot, AV.bool ((lst ++ [a]).getD j act20Z).x.live, AV.int IntKind.i64 ((lst ++ [a]).getD j act20Z).x.gen, AV.int IntKind.i64 ((lst ++ [a]).getD j act20Z).x.next, AV.bool ((lst ++ [a]).getD j act20Z).mark] := fun {lst a j} hj => by
    rw [List.length_append] at hj
    simp only [List.length_cons, List.length_nil] at hj
    by_cases e : j < lst.length
    · rw [if_pos e, getD_append, if_pos e]
    · have e2 : j - lst.length = 0 := by omega
      rw [if_neg e, getD_append, if_neg e, e2]; rfl
  have len1 : ∀ (lst : List Act20) (a : Act20), (lst ++ [a]).length = lst.length + 1 := fun lst a => by rw [List.length_append]; rfl
  have hw : IntKind.i64.wrap (b : Int) = (b : Int) := wrap_I64 ⟨by omega, by omega⟩
  have hm : (b : Int).tmod 12 = ((b % 12 : Nat) : Int) := rfl
  rw [hw, hm]
  have hb12 : b % 12 < 12 := Nat.mod_lt _ (by decide)
  have hpe : 2 + ((b % 12 : Nat) : Int) = ((2 + b % 12 : Nat) : Int) := by omega
  refine ⟨by omega, by omega, by omega, 2 + b % 12, hpe, by omega, by omega, by omega, by omega, fun t => Inv0 (2 + b % 12) t.1 t.2.1 t.2.2.1 t.2.2.2.2 ∧ t.1 ≤ 25, ⟨0, madeS (2 + b % 12) 0, 0, 0, [], ⟨inv0_made (by omega) (by omega), by simp only; omega⟩, rfl, rfl, rfl, rfl, rfl, rfl, rfl, rfl⟩, fun t => 26 - t.1, fun i s top cap lst hx hlt => ?_⟩
  obtain ⟨hI, hi⟩ := hx
  simp only at hI hi
  have ha := act_get (l := l) ⟨hl, hlen⟩ i
  have hln := hI.len
  have hskip : ∃ (a_7 : Nat) (a_8 : StoreT) (a_9 : Int) (a_10 : Nat) (b_1 : List Act20), (Inv0 (2 + b % 12) a_7 a_8 a_9 b_1 ∧ a_7 ≤ 25) ∧ 26 - a_7 < 26 - i ∧ top = a_9 ∧ lst.length = b_1.length ∧ cap = a_10 ∧ (i : Int) + 1 = (a_7 : Int) ∧ s.ws = a_8.ws ∧ s.a = a_8.a ∧ cap = a_10 ∧ b_1.length ≤ lst.length ∧ ∀ i, i < b_1.length → [AV.int IntKind.i64 (lst.getD i act20Z).slot, AV.bool (lst.getD i act20Z).x.live, AV.int IntKind.i64 (lst.getD i act20Z).x.gen, AV.int IntKind.i64 (lst.getD i act20Z).x.next, AV.bool (lst.getD i act20Z).mark] = [AV.int IntKind.i64 (b_1.getD i act20Z).slot, AV.bool (b_1.getD i act20Z).x.live, AV.int IntKind.i64 (b_1.getD i act20Z).x.gen, AV.int IntKind.i64 (b_1.getD i act20Z).x.next, AV.bool (b_1.getD i act20Z).mark] :=
    ⟨i + 1, s, top, cap, lst, ⟨inv0_next hI, by omega⟩, by omega, rfl, rfl, rfl, by omega, rfl, rfl, rfl, Nat.le_refl _, fun _ _ => rfl⟩
  refine ⟨by omega, by omega, fun _ => ⟨by omega, by omega, hskip⟩, fun h0 => ⟨fun _ => ⟨by omega, by omega, hskip⟩, fun h1 => ⟨(l.getD i act20Z).x, rfl, rfl, rfl, ha.2, fun _ => ⟨by omega, by omega, hskip⟩, fun hs => ?_⟩⟩⟩
  have hp : placeOk (l.getD i act20Z).slot := ⟨by omega, by omega⟩
  have hM := inv0_mark hI
  have hP := tree_put hM.good hM.tree hp hs
  have hat := putR_at hM.good.W hM.htop (l.getD i act20Z).slot (l.getD i act20Z).x
  refine ⟨hI.good.W.2, markT s, (l.getD i act20Z).x, rfl, rfl, rfl, rfl, rfl, hM.good.W, hM.htop.1, hM.htop.2, ha.1.1, ha.1.2, ha.2, fun t => Inv0 (2 + b % 12) (t.1 + 1) t.2.1 t.2.2.1 t.2.2.2.2 ∧ t.1 = i, fun he => ?_, fun he => ?_, fun i2 s2 top2 cap2 lst2 hx => ?_⟩
  · refine ⟨by omega, by omega, fun cap2 hcap => ⟨i, _, _, cap2, lst ++ [l.getD i act20Z], ⟨?_, rfl⟩, rfl, (len1 _ _).symm, rfl, rfl, rfl, rfl, rfl, Nat.le_of_eq (len1 _ _), fun j hj => cells hj⟩⟩
    rcases hP with S | N
    · exact inv0_put hM ha hp hat S
    · have := N.e; rw [he] at this; cases this
  · rcases hP with S | N
    · exact absurd S.e he
    · have hf := N.free'
      exact ⟨fun q => q N.e, fun _ => ⟨fun q => q N.at', fun _ => ⟨N.good.W.2, fun q => by omega, fun _ => ⟨N.good.W.2, i, backT (putR (markT s) top (l.getD i act20Z).slot (l.getD i act20Z).x).s, top, cap, lst, ⟨inv0_back hM N, rfl⟩, rfl, rfl, rfl, rfl, rfl, rfl, rfl, Nat.le_refl _, fun _ _ => rfl⟩⟩⟩⟩
  · obtain ⟨h2, hi2⟩ := hx
    simp only at h2 hi2
    refine ⟨fun t => Inv0 (2 + b % 12) (t.1.1 + 1) t.1.2.1 t.1.2.2.1 t.1.2.2.2.2 ∧ t.1.1 = i, ⟨i2, s2, top2, cap2, lst2, 0, ⟨h2, hi2⟩, rfl, rfl, rfl, rfl, rfl, rfl, rfl, rfl, Nat.le_refl _, fun _ _ => rfl⟩, fun t => t.1.2.2.2.2.length - t.2, fun i3 s3 top3 cap3 lst3 k hx => ⟨fun hlt3 => ?_, fun hge3 => ?_⟩⟩
    · obtain ⟨h3, hi3⟩ := hx
      simp only at h3 hi3
      have hln3 := h3.len
      have hact := h3.acts (lst3.getD k act20Z) (by rw [List.getD_eq_getElem?_getD, List.getElem?_eq_getElem (by omega)]; exact List.getElem_mem _)
      have g := seats_find h3.tree h3.seats hact.2
      refine ⟨by omega, by omega, by omega, s3, rfl, rfl, h3.good.W, h3.htop.1, h3.htop.2, hact.1.1.1, hact.1.1.2, fun q => q g.1, fun _ => ⟨by omega, by omega, by omega, lst3, rfl, fun _ _ => rfl, ⟨fun a ha => (h3.acts a ha).1, by omega⟩, hact.1.1.1, hact.1.1.2, fun b hb => ?_⟩⟩
      have hbt : b = true := hb.2 ⟨by rw [g.2], by rw [g.2], by rw [g.2]⟩
      exact ⟨fun q => (by rw [hbt] at q; cases q), fun _ => ⟨by omega, by omega, i3, s3, top3, cap3, lst3, k + 1, ⟨h3, hi3⟩, by simp only; omega, rfl, rfl, rfl, rfl, by omega, rfl, rfl, rfl, Nat.le_refl _, fun _ _ => rfl⟩⟩
    · obtain ⟨h3, hi3⟩ := hx
      simp only at h3 hi3
      exact ⟨by omega, by omega, i3 + 1, s3, top3, cap3, lst3, ⟨h3, by simp only; omega⟩, by simp only; omega, rfl, rfl, rfl, by omega, rfl, rfl, rfl, Nat.le_refl _, fun _ _ => rfl⟩

def slotsFullLC : Ctr := pureC (List A20 × Nat) (fun x => A20I x.1 ∧ x.2 < 256) (fun x => [a20A x.1, .int .u8 (x.2 : Nat)]) (fun _ => .bool true)
theorem slotsFullL_ok : SpecOk Tryd.prog 5 (specOf slotsFullLC) :=
  law_map slotsFull_ok (fun x => (x.1.map a20, x.2)) (fun x => by show [acts20A _, _] = _; rw [a20_args]) (fun x h => ⟨a20_acts h.1, h.2⟩)

end Yard
