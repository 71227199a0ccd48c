import Derived.Test.YtceockijgbkneaaDoorRef21

namespace Yard
open Go Go.Sx Go.Proofs
set_option linter.unusedVariables false
set_option linter.unusedSimpArgs false
set_option maxRecDepth 4000
set_option maxHeartbeats 4000000

def ticketActsC : Ctr := pureC (Nat × Nat × List Act21) (fun x => x.1 < 256 ∧ x.2.1 < 256 ∧ Acts21 x.2.2) (fun x => [.int .u8 (x.1 : Nat), .int .u8 (x.2.1 : Nat), acts21A x.2.2]) (fun _ => .bool true)

abbrev ActsX : Type := Nat × Nat × List Act21
abbrev actN (x : ActsX) : Int := ((1 + x.1 % 20 : Nat) : Int)
abbrev actM (x : ActsX) : Int := ((1 + x.2.1 % 4 : Nat) : Int)
def acts21LA (x : ActsX) : LA := { T := Nat × StoreT × TickT × DeskT, F := fun t => frm 119 [(2, acts21A x.2.2), (7, .ptr 1 [] 0), (9, .ptr 3 [] 0), (12, .ptr 4 [] 0), (13, .ptr 5 [] 0), (14, i64 (t.1 : Nat))], H := fun t => storeH t.2.1 ++ [tickC t.2.2.1, deskI ⟨actN x, actM x, t.2.2.2⟩] }

theorem ticketActsV : (∀ (x : Nat × Nat × List Act21), x.1 < 256 ∧ x.2.1 < 256 ∧ Acts21 x.2.2 → Exx Unit fun x_1 => Tr 1 (true = true ∧ True) ∧ Tr 1 (∀ (y :
 Unit), True → BC (decide ((30 : Int) < (↑x.2.2.length : Int))) (Exx Unit fun x => Tr 1 (true = true ∧ True) ∧ Tr 1 (∀ (y : Unit), True → Exx Unit fun y =>
 ((true = true ∧ True) ∧ true = true ∧ True) ∧ True)) (Exx (Nat × Int) fun x_2 => ((Tr 1 ((100 : Int) = (↑x_2.1 : Int)) ∧ Tr 1 ((0 : Int) = x_2.2) ∧ True) ∧ true
 = true ∧ True) ∧ (x_2.1 ≤ 3072 ∧ (0 : Int) ≤ x_2.2 ∧ I64 x_2.2) ∧ ∀ (y : Unit), True → ∀ (m : Int), m = IntKind.i64.wrap (↑x.1 : Int) → (20 : Int) ≠ (0 : Int) ∧
 ∀ (n : Int), n = m.tmod 20 → I64 (1 + n) ∧ ∀ (m : Int), m = IntKind.i64.wrap (↑x.2.1 : Int) → (4 : Int) ≠ (0 : Int) ∧ ∀ (n_1 : Int), n_1 = m.tmod 4 → I64 (1 +
 n_1) ∧ Exx (Int × Int) fun x_3 => ((Tr 1 (1 + n = x_3.1) ∧ Tr 1 (1 + n_1 = x_3.2) ∧ True) ∧ true = true ∧ True) ∧ (I64 x_3.1 ∧ I64 x_3.2) ∧ ∀ (y : Unit), True →
 Exx (Subtype (DeskCap (DeskQ.mk (actN x) (actM x) desk0))) fun g => ([5, 6, 7, 8].length = [Item.cells 60 [AV.int .i64 0, AV.int .i64 (DeskQ.mk (actN x) (actM
 x) desk0).n, AV.int .i64 (DeskQ.mk (actN x) (actM x) desk0).m, AV.sl 1 [] 0 1 0 (DeskQ.mk (actN x) (actM x) desk0).d.gens.length g.val.1, AV.sl 2 [] 0 1 0
 (DeskQ.mk (actN x) (actM x) desk0).d.blocks.length g.val.2.1, AV.sl 3 [] 0 1 0 (DeskQ.mk (actN x) (actM x) desk0).d.free.length g.val.2.2], Item.row 3 1 g.val.1
 (DeskQ.mk (actN x) (actM x) desk0).d.gens.length fun i => [AV.int .i64 ((DeskQ.mk (actN x) (actM x) desk0).d.gens.getD i 0)], Item.row 3 1 g.val.2.1 (DeskQ.mk
 (actN x) (actM x) desk0).d.blocks.length fun i => [AV.int .i64 ((DeskQ.mk (actN x) (actM x) desk0).d.blocks.getD i 0)], Item.row 3 1 g.val.2.2 (DeskQ.mk (actN
 x) (actM x) desk0).d.free.length fun i => [AV.int .i64 (↑((DeskQ.mk (actN x) (actM x) desk0).d.free.getD i 0) : Int)]].length ∧ ((60 : Nat) = (60 : TypeId) ∧ Tr
 1 ((0 : Int) = 0) ∧ Tr 1 (1 + n = (DeskQ.mk (actN x) (actM x) desk0).n) ∧ Tr 1 (1 + n_1 = (DeskQ.mk (actN x) (actM x) desk0).m) ∧ ((DeskQ.mk (actN x) (actM x)
 desk0).d.gens.length = 0 ∧ g.val.1 = 0) ∧ ((DeskQ.mk (actN x) (actM x) desk0).d.blocks.length = 0 ∧ g.val.2.1 = 0) ∧ ((DeskQ.mk (actN x) (actM x)
 desk0).d.free.length = 0 ∧ g.val.2.2 = 0) ∧ True) ∧ ((3 : TypeId) = 3 ∧ (1 : Nat) = 1 ∧ 0 = g.val.1 ∧ (DeskQ.mk (actN x) (actM x) desk0).d.gens.length ≤ 0 ∧ ∀
 (i : Nat), i < (DeskQ.mk (actN x) (actM x) desk0).d.gens.length → [] = [AV.int .i64 ((DeskQ.mk (actN x) (actM x) desk0).d.gens.getD i 0)]) ∧ ((3 : TypeId) = 3 ∧
 (1 : Nat) = 1 ∧ 0 = g.val.2.1 ∧ (DeskQ.mk (actN x) (actM x) desk0).d.blocks.length ≤ 0 ∧ ∀ (i : Nat), i < (DeskQ.mk (actN x) (actM x) desk0).d.blocks.length →
 [] = [AV.int .i64 ((DeskQ.mk (actN x) (actM x) desk0).d.blocks.getD i 0)]) ∧ ((3 : TypeId) = 3 ∧ (1 : Nat) = 1 ∧ 0 = g.val.2.2 ∧ (DeskQ.mk (actN x) (actM x)
 desk0).d.free.length ≤ 0 ∧ ∀ (i : Nat), i < (DeskQ.mk (actN x) (actM x) desk0).d.free.length → [] = [AV.int .i64 (↑((DeskQ.mk (actN x) (actM x)
 desk0).d.free.getD i 0) : Int)]) ∧ True) ∧ Exx (Nat × StoreT × TickT × DeskT → Prop) fun I => Exx (Nat × StoreT × TickT × DeskT → Nat) fun m => (Exx (Nat ×
 StoreT × TickT × DeskT) fun t => I t ∧ Tr 2 (((5 : Nat) = 5 ∧ x.2.2.length = x.2.2.length ∧ ∀ (i : Nat), i < x.2.2.length → [AV.int .i64 (x.2.2.getD i
 act21Z).kind, AV.int .i64 (x.2.2.getD i act21Z).block, AV.int .i64 (x.2.2.getD i act21Z).h.slot, AV.int .i64 (x.2.2.getD i act21Z).h.gen, AV.bool (x.2.2.getD i
 act21Z).live] = [AV.int .i64 (x.2.2.getD i act21Z).kind, AV.int .i64 (x.2.2.getD i act21Z).block, AV.int .i64 (x.2.2.getD i act21Z).h.slot, AV.int .i64
 (x.2.2.getD i act21Z).h.gen, AV.bool (x.2.2.getD i act21Z).live]) ∧ Tr 4 ((true = true ∧ NilNil ∧ (0 : Nat) = 0) ∧ Tr 1 ((true = true ∧ NilNil ∧ (0 : Nat) = 0)
 ∧ Tr 2 ((true = true ∧ NilNil ∧ (0 : Nat) = 0) ∧ (true = true ∧ NilNil ∧ (0 : Nat) = 0) ∧ Tr 1 ((0 : Int) = (↑t.1 : Int)) ∧ Tr 104 True)))) ∧ true = true ∧
 ((105 : TypeId) = 105 ∧ (true = true ∧ NilNil ∧ (0 : Nat) = 0) ∧ (true = true ∧ NilNil ∧ (0 : Nat) = 0) ∧ True) ∧ devB (madeS x_2.1 x_2.2).ws = devB t.2.1.ws ∧
 allocB (madeS x_2.1 x_2.2).a = allocB t.2.1.a ∧ ((32 : Nat) = (32 : TypeId) ∧ Tr 1 ((tick0 100 x_3.1 x_3.2).blocks = t.2.2.1.blocks) ∧ Tr 1 ((tick0 100 x_3.1
 x_3.2).slots = t.2.2.1.slots) ∧ Tr 1 ((tick0 100 x_3.1 x_3.2).gens = t.2.2.1.gens) ∧ Tr 1 ((tick0 100 x_3.1 x_3.2).top = t.2.2.1.top) ∧ Tr 1 ((tick0 100 x_3.1
 x_3.2).high = t.2.2.1.high) ∧ Tr 1 ((tick0 100 x_3.1 x_3.2).free = t.2.2.1.free) ∧ True) ∧ (deskO (DeskQ.mk (actN x) (actM x) desk0)).ob = deskB (DeskQ.mk (actN
 x) (actM x) t.2.2.2) ∧ True) ∧ ∀ (t : Nat × StoreT × TickT × DeskT), I t → BC (decide ((↑t.1 : Int) < (↑x.2.2.length : Int))) (Exx (AllocT × Unit) fun x_4 =>
 (((true = true ∧ NilNil ∧ (0 : Nat) = 0) ∧ True) ∧ true = true ∧ allocB t.2.1.a = allocB x_4.1 ∧ True) ∧ (AllocW x_4.1 ∧ True) ∧ ∀ (y : Unit), True → ((0 : Int)
 ≤ (↑t.1 : Int) ∧ (↑t.1 : Int) < (↑x.2.2.length : Int)) ∧ Exx (DoS × Act21) fun x_5 => (((true = true ∧ NilNil ∧ (0 : Nat) = 0) ∧ (Tr 1 (t.2.2.1.blocks =
 x_5.1.2.1.blocks) ∧ Tr 1 (t.2.2.1.slots = x_5.1.2.1.slots) ∧ Tr 1 (t.2.2.1.gens = x_5.1.2.1.gens) ∧ Tr 1 (t.2.2.1.top = x_5.1.2.1.top) ∧ Tr 1 (t.2.2.1.high =
 x_5.1.2.1.high) ∧ Tr 1 (t.2.2.1.free = x_5.1.2.1.free) ∧ True) ∧ (true = true ∧ NilNil ∧ (0 : Nat) = 0) ∧ (Tr 1 ((x.2.2.getD (↑t.1 : Int).toNat act21Z).kind =
 x_5.2.kind) ∧ Tr 1 ((x.2.2.getD (↑t.1 : Int).toNat act21Z).block = x_5.2.block) ∧ Tr 1 ((x.2.2.getD (↑t.1 : Int).toNat act21Z).h.slot = x_5.2.h.slot) ∧ Tr 1
 ((x.2.2.getD (↑t.1 : Int).toNat act21Z).h.gen = x_5.2.h.gen) ∧ (x.2.2.getD (↑t.1 : Int).toNat act21Z).live = x_5.2.live ∧ True) ∧ True) ∧ true = true ∧ ((105 :
 TypeId) = 105 ∧ (true = true ∧ NilNil ∧ (0 : Nat) = 0) ∧ (true = true ∧ NilNil ∧ (0 : Nat) = 0) ∧ True) ∧ devB t.2.1.ws = devB x_5.1.1.ws ∧ allocB (markS x_4.1)
 = allocB x_5.1.1.a ∧ deskB (DeskQ.mk (actN x) (actM x) t.2.2.2) = deskB x_5.1.2.2 ∧ True) ∧ (DoI x_5.1 ∧ Act21I x_5.2) ∧ ∀ (y : StoreT × TickT × DeskT), DoI
 (y.1, y.2.1, DeskQ.mk x_5.1.2.2.n x_5.1.2.2.m y.2.2) → Exx DeskQ fun y_1 => deskB (DeskQ.mk x_5.1.2.2.n x_5.1.2.2.m y.2.2) = (deskO y_1).ob ∧ ∀ (g : Subtype
 (DeskCap y_1)), Exx TickT fun x_6 => (((Tr 1 (y.2.1.blocks = x_6.blocks) ∧ Tr 1 (y.2.1.slots = x_6.slots) ∧ Tr 1 (y.2.1.gens = x_6.gens) ∧ Tr 1 (y.2.1.top =
 x_6.top) ∧ Tr 1 (y.2.1.high = x_6.high) ∧ Tr 1 (y.2.1.free = x_6.free) ∧ True) ∧ True) ∧ true = true ∧ True) ∧ TickI x_6 ∧ ∀ (y_2 : Unit), True → BC (!decide
 (tickOk x_6)) (Exx Unit fun y => ((false = true ∧ True) ∧ true = true ∧ True) ∧ True) (BC (!decide (y.2.1.high = (↑y_1.d.gens.length : Int))) (Exx Unit fun y =>
 ((false = true ∧ True) ∧ true = true ∧ True) ∧ True) (Exx DeskQ fun y_3 => Exx (Subtype (DeskCap y_3)) fun g_1 => ([5, 6, 7, 8].length = [Item.cells 60 [AV.int
 .i64 0, AV.int .i64 y_3.n, AV.int .i64 y_3.m, AV.sl 1 [] 0 1 0 y_3.d.gens.length g_1.val.1, AV.sl 2 [] 0 1 0 y_3.d.blocks.length g_1.val.2.1, AV.sl 3 [] 0 1 0
 y_3.d.free.length g_1.val.2.2], Item.row 3 1 g_1.val.1 y_3.d.gens.length fun i => [AV.int .i64 (y_3.d.gens.getD i 0)], Item.row 3 1 g_1.val.2.1
 y_3.d.blocks.length fun i => [AV.int .i64 (y_3.d.blocks.getD i 0)], Item.row 3 1 g_1.val.2.2 y_3.d.free.length fun i => [AV.int .i64 (↑(y_3.d.free.getD i 0) :
 Int)]].length ∧ ((60 : TypeId) = 60 ∧ Tr 1 ((0 : Int) = 0) ∧ Tr 1 (y_1.n = y_3.n) ∧ Tr 1 (y_1.m = y_3.m) ∧ (true = true ∧ NilNil ∧ (0 : Nat) = 0 ∧ (1 : Nat) = 1
 ∧ (0 : Nat) = 0 ∧ y_1.d.gens.length = y_3.d.gens.length ∧ g.val.1 = g_1.val.1) ∧ (true = true ∧ NilNil ∧ (0 : Nat) = 0 ∧ (1 : Nat) = 1 ∧ (0 : Nat) = 0 ∧
 y_1.d.blocks.length = y_3.d.blocks.length ∧ g.val.2.1 = g_1.val.2.1) ∧ (true = true ∧ NilNil ∧ (0 : Nat) = 0 ∧ (1 : Nat) = 1 ∧ (0 : Nat) = 0 ∧ y_1.d.free.length
 = y_3.d.free.length ∧ g.val.2.2 = g_1.val.2.2) ∧ True) ∧ ((3 : TypeId) = 3 ∧ (1 : Nat) = 1 ∧ g.val.1 = g_1.val.1 ∧ y_3.d.gens.length ≤ y_1.d.gens.length ∧ ∀ (i
 : Nat), i < y_3.d.gens.length → [AV.int .i64 (y_1.d.gens.getD i 0)] = [AV.int .i64 (y_3.d.gens.getD i 0)]) ∧ ((3 : TypeId) = 3 ∧ (1 : Nat) = 1 ∧ g.val.2.1 =
 g_1.val.2.1 ∧ y_3.d.blocks.length ≤ y_1.d.blocks.length ∧ ∀ (i : Nat), i < y_3.d.blocks.length → [AV.int .i64 (y_1.d.blocks.getD i 0)] = [AV.int .i64
 (y_3.d.blocks.getD i 0)]) ∧ ((3 : TypeId) = 3 ∧ (1 : Nat) = 1 ∧ g.val.2.2 = g_1.val.2.2 ∧ y_3.d.free.length ≤ y_1.d.free.length ∧ ∀ (i : Nat), i <
 y_3.d.free.length → [AV.int .i64 (↑(y_1.d.free.getD i 0) : Int)] = [AV.int .i64 (↑(y_3.d.free.getD i 0) : Int)]) ∧ True) ∧ Exx (StoreT × TickT) fun x_7 =>
 (((true = true ∧ NilNil ∧ (0 : Nat) = 0) ∧ (Tr 1 (y.2.1.blocks = x_7.2.blocks) ∧ Tr 1 (y.2.1.slots = x_7.2.slots) ∧ Tr 1 (y.2.1.gens = x_7.2.gens) ∧ Tr 1
 (y.2.1.top = x_7.2.top) ∧ Tr 1 (y.2.1.high = x_7.2.high) ∧ Tr 1 (y.2.1.free = x_7.2.free) ∧ True) ∧ True) ∧ true = true ∧ ((105 : TypeId) = 105 ∧ (true = true ∧
 NilNil ∧ (0 : Nat) = 0) ∧ (true = true ∧ NilNil ∧ (0 : Nat) = 0) ∧ True) ∧ devB y.1.ws = devB x_7.1.ws ∧ allocB y.1.a = allocB x_7.1.a ∧ True) ∧ (StoreW x_7.1 ∧
 TickI x_7.2) ∧ ∀ (y_4 : Unit), True → Exx (DeskQ × Unit) fun x_8 => (((true = true ∧ NilNil ∧ (0 : Nat) = 0) ∧ True) ∧ true = true ∧ (deskO y_3).ob = deskB
 x_8.1 ∧ True) ∧ (DeskW x_8.1 ∧ True) ∧ ∀ (y_5 : Unit), True → Tr 2 True ∧ Tr 2 True ∧ ∀ (b : Bool), (b = true ↔ (nextH x_7.1.ws x_7.2).slot = (deskNextH
 x_8.1).slot ∧ (nextH x_7.1.ws x_7.2).gen = (deskNextH x_8.1).gen ∧ True) → BC (!b) (Exx Unit fun y => ((false = true ∧ True) ∧ true = true ∧ True) ∧ True) (BC
 (!(deskNext x_8.1.n x_8.1.d).isSome == decide (nextE x_7.1.ws x_7.2 = (0 : Int))) (Exx Unit fun y => ((false = true ∧ True) ∧ true = true ∧ True) ∧ True) (BC
 (!(deskNext x_8.1.n x_8.1.d).isSome) (BC (!decide (nextE x_7.1.ws x_7.2 = (10 : Int))) (Exx Unit fun y => ((false = true ∧ True) ∧ true = true ∧ True) ∧ True)
 (I64 ((↑t.1 : Int) + 1) ∧ Exx (Nat × StoreT × TickT × DeskT) fun t' => (I t' ∧ m t' < m t) ∧ Tr 2 (((5 : Nat) = 5 ∧ x.2.2.length = x.2.2.length ∧ ∀ (i : Nat), i
 < x.2.2.length → [AV.int .i64 (x.2.2.getD i act21Z).kind, AV.int .i64 (x.2.2.getD i act21Z).block, AV.int .i64 (x.2.2.getD i act21Z).h.slot, AV.int .i64
 (x.2.2.getD i act21Z).h.gen, AV.bool (x.2.2.getD i act21Z).live] = [AV.int .i64 (x.2.2.getD i act21Z).kind, AV.int .i64 (x.2.2.getD i act21Z).block, AV.int .i64
 (x.2.2.getD i act21Z).h.slot, AV.int .i64 (x.2.2.getD i act21Z).h.gen, AV.bool (x.2.2.getD i act21Z).live]) ∧ Tr 4 ((true = true ∧ NilNil ∧ (0 : Nat) = 0) ∧ Tr
 1 ((true = true ∧ NilNil ∧ (0 : Nat) = 0) ∧ Tr 2 ((true = true ∧ NilNil ∧ (0 : Nat) = 0) ∧ (true = true ∧ NilNil ∧ (0 : Nat) = 0) ∧ Tr 1 ((↑t.1 : Int) + 1 =
 (↑t'.fst : Int)) ∧ Tr 104 True)))) ∧ true = true ∧ ((105 : TypeId) = 105 ∧ (true = true ∧ NilNil ∧ (0 : Nat) = 0) ∧ (true = true ∧ NilNil ∧ (0 : Nat) = 0) ∧
 True) ∧ devB x_7.1.ws = devB t'.snd.1.ws ∧ allocB x_7.1.a = allocB t'.snd.1.a ∧ ((32 : TypeId) = 32 ∧ Tr 1 (y.2.1.blocks = t'.snd.2.1.blocks) ∧ Tr 1
 (y.2.1.slots = t'.snd.2.1.slots) ∧ Tr 1 (y.2.1.gens = t'.snd.2.1.gens) ∧ Tr 1 (y.2.1.top = t'.snd.2.1.top) ∧ Tr 1 (y.2.1.high = t'.snd.2.1.high) ∧ Tr 1
 (y.2.1.free = t'.snd.2.1.free) ∧ True) ∧ deskB x_8.1 = deskB (DeskQ.mk (actN x) (actM x) t'.snd.2.2) ∧ True)) (I64 ((↑t.1 : Int) + 1) ∧ Exx (Nat × StoreT ×
 TickT × DeskT) fun t' => (I t' ∧ m t' < m t) ∧ Tr 2 (((5 : Nat) = 5 ∧ x.2.2.length = x.2.2.length ∧ ∀ (i : Nat), i < x.2.2.length → [AV.int .i64 (x.2.2.getD i
 act21Z).kind, AV.int .i64 (x.2.2.getD i act21Z).block, AV.int .i64 (x.2.2.getD i act21Z).h.slot, AV.int .i64 (x.2.2.getD i act21Z).h.gen, AV.bool (x.2.2.getD i
 act21Z).live] = [AV.int .i64 (x.2.2.getD i act21Z).kind, AV.int .i64 (x.2.2.getD i act21Z).block, AV.int .i64 (x.2.2.getD i act21Z).h.slot, AV.int .i64
 (x.2.2.getD i act21Z).h.gen, AV.bool (x.2.2.getD i act21Z).live]) ∧ Tr 4 ((true = true ∧ NilNil ∧ (0 : Nat) = 0) ∧ Tr 1 ((true = true ∧ NilNil ∧ (0 : Nat) = 0)
 ∧ Tr 2 ((true = true ∧ NilNil ∧ (0 : Nat) = 0) ∧ (true = true ∧ NilNil ∧ (0 : Nat) = 0) ∧ Tr 1 ((↑t.1 : Int) + 1 = (↑t'.fst : Int)) ∧ Tr 104 True)))) ∧ true =
 true ∧ ((105 : TypeId) = 105 ∧ (true = true ∧ NilNil ∧ (0 : Nat) = 0) ∧ (true = true ∧ NilNil ∧ (0 : Nat) = 0) ∧ True) ∧ devB x_7.1.ws = devB t'.snd.1.ws ∧
 allocB x_7.1.a = allocB t'.snd.1.a ∧ ((32 : TypeId) = 32 ∧ Tr 1 (y.2.1.blocks = t'.snd.2.1.blocks) ∧ Tr 1 (y.2.1.slots = t'.snd.2.1.slots) ∧ Tr 1 (y.2.1.gens =
 t'.snd.2.1.gens) ∧ Tr 1 (y.2.1.top = t'.snd.2.1.top) ∧ Tr 1 (y.2.1.high = t'.snd.2.1.high) ∧ Tr 1 (y.2.1.free = t'.snd.2.1.free) ∧ True) ∧ deskB x_8.1 = deskB
 (DeskQ.mk (actN x) (actM x) t'.snd.2.2) ∧ True)))))) (Exx Unit fun y => ((true = true ∧ True) ∧ true = true ∧ True) ∧ True)))) = (fnVC tb [(8, specOf awake21C), (9, specOf madeStoreC), (10, specOf firstC), (11, specOf allocMarkC), (17, specOf tickNextHC), (19, specOf tickRightC), (20, specOf doC), (21, specOf desk21NextC)] Tryd.f7 ticketActsC (fun x => { loops := [(10, acts21LA x)], loose := [(14, [1, 2, 3, 4, 5])], closes := [(9, [(5, [6, 7, 8], deskO ⟨actN x, actM x, desk0⟩)])], opensE := [(15, [{ p := 5, Y := DeskQ, o := deskO }])], closesE := [(17, [{ p := 5, subs := [6, 7, 8], Y := DeskQ, o := deskO }])], push := [(9, [(3, 1), (3, 1), (3, 1)])] }) (fun _ => none)) := by kernel_rfl 

theorem ticketActs_ok : SpecOk Tryd.prog 7 (specOf ticketActsC) := by
  refine specOk mixed tb_ok (SPok.cons awake21_ok (SPok.cons madeStore_ok (SPok.cons first_ok (SPok.cons allocMark_ok (SPok.cons tickNextH_ok (SPok.cons tickRight_ok (SPok.cons do_ok (SPok.cons desk21Next_ok SPok.nil)))))))) Tryd.func7 (by decide) (pureC_ok fun _ => rfl) (an := (fun x => { loops := [(10, acts21LA x)], loose := [(14, [1, 2, 3, 4, 5])], closes := [(9, [(5, [6, 7, 8], deskO ⟨actN x, actM x, desk0⟩)])], opensE := [(15, [{ p := 5, Y := DeskQ, o := deskO }])], closesE := [(17, [{ p := 5, subs := [6, 7, 8], Y := DeskQ, o := deskO }])], push := [(9, [(3, 1), (3, 1), (3, 1)])] })) (σ := (fun _ => none)) ?_
  rw [← ticketActsV]
  simp (maxSteps := 10000000) only [and_false, false_and, false_or, or_false, bOf_true, bOf_false, true_bOf, false_bOf, Exx, int_ite, merge_o, Tr_eq, true_and, and_true, exists_const, forall_const, implies_true, forall_eq, exists_eq, exists_eq', exists_eq_left, exists_eq_left', exists_eq_right, Prod.exists, Prod.forall, and_assoc, exists_and_left, BC_iff, Bool.not_eq_true', Bool.not_eq_false', decide_eq_true_eq, decide_eq_false_iff_not, I64, nat_cast_inj, Int.toNat_natCast, nats_iff, nats_iff', ints_iff, ints_iff', natss_iff, natss_iff', nilnil, litL_eq, str_inj, str_append, str_length, str_getD, str_take, lit1_iff, one_iff, two_iff, one_get, Nat.zero_add, Nat.sub_zero, Nat.reduceMul, Nat.reduceDiv, Nat.reduceAdd, Int.reduceToNat, Nat.not_lt_zero, if_false, if_true, Nat.le_refl, List.length_singleton, List.length_cons, List.length_nil, Bool.false_eq_true, not_true_eq_false, false_implies, not_false_eq_true, Prod.mk.injEq, devB_inj, allocB_inj, setB_inj, deskB_open, deskB_close, deskB_inj, Subtype.forall, Subtype.exists, exists_prop, DeskCap, tick_ex, store_ex, hand_ex, tick_eta, store_eta, hand_eta, store_mark]
  rintro x y l ⟨hx, hy, hl, hll⟩ h30
  have hw : IntKind.i64.wrap (x : Int) = (x : Int) := wrap_I64 ⟨by omega, by omega⟩
  have hw2 : IntKind.i64.wrap (y : Int) = (y : Int) := wrap_I64 ⟨by omega, by omega⟩
  have hm6 : (x : Int).tmod 20 = ((x % 20 : Nat) : Int) := rfl
  have hm3 : (y : Int).tmod 4 = ((y % 4 : Nat) : Int) := rfl
  rw [hw, hw2, hm6, hm3]
  have hx6 : x % 20 < 20 := Nat.mod_lt _ (by decide)
  have hy3 : y % 4 < 4 := Nat.mod_lt _ (by decide)
  have en : (1 : Int) + ((x % 20 : Nat) : Int) = ((1 + x % 20 : Nat) : Int) := by omega
  have em : (1 : Int) + ((y % 4 : Nat) : Int) = ((1 + y % 4 : Nat) : Int) := by omega
  rw [en, em]
  have hg : geomOk 100 ((1 + x % 20 : Nat) : Int) ((1 + y % 4 : Nat) : Int) := ⟨by omega, by omega, by omega, by omega, by omega, by omega⟩
  have zr : ∀ (p : Nat → Prop) (i : Nat), i < 0 → p i := fun p i h => absurd h (Nat.not_lt_zero _)
  refine ⟨100, rfl, by omega, by omega, by omega, by omega, by omega, by omega, by omega, by omega, by omega, by omega, by omega, by omega, by omega, by omega, rfl, rfl, rfl, rfl, rfl, Nat.le_refl _, zr _, Nat.le_refl _, zr _, Nat.le_refl _, zr _, Nat.le_refl _, Nat.le_refl _, Nat.le_refl _,
    fun t => DoI (t.2.1, t.2.2.1, ⟨((1 + x % 20 : Nat) : Int), ((1 + y % 4 : Nat) : Int), t.2.2.2⟩), ⟨0, madeS 100 0, tick0 100 ((1 + x % 20 : Nat) : Int) ((1 + y % 4 : Nat) : Int), desk0, ⟨desk_made (by omega) (by omega) hg, rfl, rfl, by simp only [tick0]; omega⟩, rfl, rfl, rfl, rfl, rfl, rfl, rfl, rfl, rfl, rfl⟩, fun t => l.length - t.1, ?_⟩
  rintro i s t d D hlt
  simp only at D
  have ha := act21_get (l := l) ⟨hl, hll⟩ i
  have DM : DoI (markT s, t, ⟨((1 + x % 20 : Nat) : Int), ((1 + y % 4 : Nat) : Int), d⟩) := ⟨D.d.mark D.le, D.n, D.m, D.le⟩
  refine ⟨D.d.W.2, by omega, by omega, markT s, _, l.getD i act21Z, rfl, rfl, rfl, rfl, rfl, rfl, rfl, rfl, DM, ha, fun s2 t2 d2 D2 c1 c2 c3 hc => ⟨D2.d.tI, fun k => k D2.d.inv.ok, fun _ => ⟨fun k => k D2.d.inv.high, fun _ => ⟨⟨((1 + x % 20 : Nat) : Int), ((1 + y % 4 : Nat) : Int), d2⟩, rfl, rfl, rfl, rfl, rfl, Nat.le_refl _, fun _ _ => rfl, Nat.le_refl _, fun _ _ => rfl, Nat.le_refl _, fun _ _ => rfl, D2.d.W, D2.d.tI, D2.w, hc.1, hc.2.1, hc.2.2, ?_⟩⟩⟩⟩
  have hn := D2.n
  simp only at hn
  have T := D2.d.inv
  simp only at T
  cases hd : deskNext ((1 + x % 20 : Nat) : Int) d2 with
  | none =>
    have e := next_none T (by rw [hn]; exact hd)
    have eH : nextH s2.ws t2 = handZ := by rw [nextH, if_neg (by rw [e]; decide)]
    have eQ : deskNextH ⟨((1 + x % 20 : Nat) : Int), ((1 + y % 4 : Nat) : Int), d2⟩ = handZ := by rw [deskNextH]; simp only; rw [hd]
    rw [eH, eQ]
    refine fun b hb => ⟨fun k => ?_, fun _ => ⟨fun k => ?_, fun _ => ⟨fun _ => ⟨fun k => k e, fun _ => ⟨by omega, by omega, i + 1, s2, t2, d2, D2, by simp only; omega, by omega, rfl, rfl, rfl, rfl, rfl, rfl, rfl, rfl, rfl⟩⟩, fun k => by cases k⟩⟩⟩
    · rw [hb.2 ⟨rfl, rfl⟩] at k; cases k
    · rw [e] at k; cases k
  | some p =>
    obtain ⟨a, g⟩ := p
    obtain ⟨k1, k2, k3, _⟩ := next_some T (by rw [hn]; exact hd)
    have eQ : deskNextH ⟨((1 + x % 20 : Nat) : Int), ((1 + y % 4 : Nat) : Int), d2⟩ = ⟨(a : Int), g⟩ := by rw [deskNextH]; simp only; rw [hd]
    have eH : nextH s2.ws t2 = ⟨(a : Int), g⟩ := by rw [nextH, if_pos k1, k2, k3]; congr 1; omega
    rw [eH, eQ]
    refine fun b hb => ⟨fun k => ?_, fun _ => ⟨fun k => ?_, fun _ => ⟨fun k => (by cases k), fun _ => ⟨by omega, by omega, i + 1, s2, t2, d2, D2, by simp only; omega, by omega, rfl, rfl, rfl, rfl, rfl, rfl, rfl, rfl, rfl⟩⟩⟩⟩
    · rw [hb.2 ⟨rfl, rfl⟩] at k; cases k
    · rw [k1] at k; cases k

def ticketActsLC : Ctr := pureC (Nat × Nat × List A21) (fun x => x.1 < 256 ∧ x.2.1 < 256 ∧ A21I x.2.2) (fun x => [.int .u8 (x.1 : Nat), .int .u8 (x.2.1 : Nat), a21A x.2.2]) (fun _ => .bool true)
theorem ticketActsL_ok : SpecOk Tryd.prog 7 (specOf ticketActsLC) :=
  law_map ticketActs_ok (fun x => (x.1, x.2.1, x.2.2.map a21)) (fun x => by show [_, _, acts21A _] = _; rw [a21_args]) (fun x h => ⟨h.1, h.2.1, a21_acts h.2.2⟩)

end Yard
