import Derived.Test.YtceockijgbkneaaDoorLaw21

namespace Yard
open Go Go.Sx Go.Proofs
set_option linter.unusedVariables false
set_option linter.unusedSimpArgs false
set_option maxRecDepth 4000
set_option maxHeartbeats 4000000

structure DeskQ where
  n : Int
  m : Int
  d : DeskT
abbrev deskFam (q : DeskQ) (c : Nat × Nat × Nat) : AH := [.cells 60 [i64 0, i64 q.n, i64 q.m, .sl 1 [] 0 1 0 q.d.gens.length c.1, .sl 2 [] 0 1 0 q.d.blocks.length c.2.1, .sl 3 [] 0 1 0 q.d.free.length c.2.2], rowI 3 .i64 c.1 q.d.gens, rowI 3 .i64 c.2.1 q.d.blocks, rowN 3 .i64 c.2.2 q.d.free]
theorem deskPl (q : DeskQ) (c : Nat × Nat × Nat) : plH (deskFam q c) :=
  ⟨⟨rfl, rfl, rfl, rfl, rfl, rfl, trivial⟩, ⟨fun _ _ => ⟨rfl, trivial⟩, trivial⟩, ⟨fun _ _ => ⟨rfl, trivial⟩, trivial⟩, ⟨fun _ _ => ⟨rfl, trivial⟩, trivial⟩, trivial⟩
def DeskCap (q : DeskQ) (c : Nat × Nat × Nat) : Prop := q.d.gens.length ≤ c.1 ∧ q.d.blocks.length ≤ c.2.1 ∧ q.d.free.length ≤ c.2.2
abbrev deskO (q : DeskQ) : Opn := { tag := [[q.n, q.m], q.d.gens, q.d.blocks, q.d.free.map fun i : Nat => (i : Int)], G := Subtype (DeskCap q), fam := fun c => deskFam q c.1, pl := fun c => deskPl q c.1, nf := fun _ => rfl, root := fun _ => rfl }
def deskB (q : DeskQ) : Ob := (deskO q).ob
abbrev deskI (q : DeskQ) : Sx.Item := .obj (deskB q)
theorem deskB_inj {a b : DeskQ} : (deskB a = deskB b) ↔ a = b := by
  constructor
  · intro h
    have := congrArg Ob.tag h
    simp only [deskB, Opn.ob, List.cons.injEq, and_true] at this
    obtain ⟨⟨h1, h2⟩, h3, h4, h5⟩ := this
    have h6 : a.d.free = b.d.free := by
      have := congrArg (List.map Int.toNat) h5
      simpa [List.map_map, Function.comp_def] using this
    obtain ⟨n, m, g, b1, f⟩ := a
    obtain ⟨n', m', g', b', f'⟩ := b
    simp only at *
    subst h1; subst h2; subst h3; subst h4; subst h6; rfl
  · intro h; rw [h]
theorem deskB_open {a b : DeskQ} : (deskB a = (deskO b).ob) ↔ a = b := deskB_inj
theorem deskB_close {a b : DeskQ} : ((deskO a).ob = deskB b) ↔ a = b := deskB_inj
structure DeskW (q : DeskQ) : Prop where
  n : I64 q.n
  m : I64 q.m
  lb : q.d.blocks.length = q.d.gens.length
  ln : q.d.gens.length ≤ 2000
  lf : q.d.free.length ≤ 2000
  g : ∀ x ∈ q.d.gens, 0 ≤ x ∧ x ≤ 4294967295
  b : ∀ x ∈ q.d.blocks, 0 ≤ x ∧ x ≤ 4000
  f : ∀ a ∈ q.d.free, a < q.d.gens.length

def deskCl (p : Nat) (H : AH) (q : DeskQ) : List (Nat × List Nat × Opn) := match H[p]? with
  | some (.cells _ (_ :: _ :: _ :: .sl g _ _ _ _ _ _ :: .sl b _ _ _ _ _ _ :: .sl f _ _ _ _ _ _ :: _)) => [(p, [g, b, f], deskO q)]
  | _ => []
def deskGetC (Y : Type) (pre : DeskQ × Y → Prop) (args : DeskQ × Y → List AV) (res : DeskQ × Y → AV) : Ctr where
  X := DeskQ × Y
  Y := Unit
  conv := true
  tau := ptrTau
  pre := fun x => DeskW x.1 ∧ pre x
  args := fun x => .ptr 0 [] 0 :: args x
  heap := fun x => [deskI x.1]
  Q := fun _ _ => True
  res := fun x _ => res x
  its := fun x _ => [deskI x.1]
  new := fun _ _ => []
theorem deskGetC_ok {Y : Type} {pre : DeskQ × Y → Prop} {args : DeskQ × Y → List AV} {res : DeskQ × Y → AV} (h : ∀ x, plV 2 (res x)) : CtrOk (deskGetC Y pre args res) :=
  ⟨fun _ _ _ _ => (rfl : 1 = 1), fun _ _ _ _ => ⟨rfl, rfl⟩, fun x _ _ _ _ => ⟨⟨⟨trivial, trivial⟩, trivial⟩, h x⟩⟩
def deskSetC (Y : Type) (pre : DeskQ × Y → Prop) (args : DeskQ × Y → List AV) (g : DeskQ × Y → DeskT) (res : DeskQ × Y → AV) : Ctr where
  X := DeskQ × Y
  Y := Unit
  conv := true
  tau := ptrTau
  pre := fun x => DeskW x.1 ∧ pre x
  args := fun x => .ptr 0 [] 0 :: args x
  heap := fun x => [deskI x.1]
  Q := fun _ _ => True
  res := fun x _ => res x
  its := fun x y => [deskI ⟨x.1.n, x.1.m, g x⟩]
  new := fun _ _ => []
theorem deskSetC_ok {Y : Type} {pre : DeskQ × Y → Prop} {args : DeskQ × Y → List AV} {g : DeskQ × Y → DeskT} {res : DeskQ × Y → AV} (h : ∀ x, plV 2 (res x)) : CtrOk (deskSetC Y pre args g res) :=
  ⟨fun _ _ _ _ => (rfl : 1 = 1), fun _ _ _ _ => ⟨rfl, rfl⟩, fun x _ _ _ _ => ⟨⟨⟨trivial, trivial⟩, trivial⟩, h x⟩⟩
def deskNextH (q : DeskQ) : HandT := match deskNext q.n q.d with
  | some (a, g) => ⟨(a : Int), g⟩
  | none => handZ
def desk21NextC : Ctr := deskGetC Unit (fun _ => True) (fun _ => []) (fun x => .tup [handA (deskNextH x.1), .bool (deskNext x.1.n x.1.d).isSome])
def deskIssD (x : DeskQ × Int) : DeskT := match deskNext x.1.n x.1.d with
  | some _ => deskIss x.1.d x.2
  | none => x.1.d
def desk21IssueC : Ctr := deskSetC Int (fun x => I64 x.2) (fun x => [i64 x.2]) deskIssD (fun x => .tup [handA (deskNextH x.1), .bool (deskNext x.1.n x.1.d).isSome])
def desk21ResolveC : Ctr := deskGetC HandT (fun x => HandI x.2) (fun x => [handA x.2]) (fun x => i64 (if liveD x.1.d x.2 then bAt x.1.d x.2.slot.toNat else 0))
def desk21ReleaseC : Ctr := deskSetC HandT (fun x => HandI x.2 ∧ liveD x.1.d x.2) (fun x => [handA x.2]) (fun x => deskRel x.1.m x.1.d x.2.slot.toNat) (fun _ => .tup [])

def rowRenL (t n : Nat) (F : Fr) (_ : AH) : Option Ren := match F.getD t .any with
  | .sl q _ _ _ _ _ _ => some (idRen n n ++ [some q])
  | _ => some (idRen n n ++ [none])
theorem desk_some {q : DeskQ} (h : DeskW q) {a : Nat} {g : Int} (hn : deskNext q.n q.d = some (a, g)) :
    (a < q.d.gens.length ∧ 0 < q.d.free.length ∧ a = q.d.free.getD 0 0 ∧ g = q.d.gens.getD a 0 + 1 ∧ ∀ b, deskIss q.d b = { gens := q.d.gens.set a g, blocks := q.d.blocks.set a b, free := q.d.free.tail }) ∨
    (a = q.d.gens.length ∧ q.d.free.length = 0 ∧ g = 1 ∧ (q.d.gens.length : Int) ≠ q.n ∧ ∀ b, deskIss q.d b = { gens := q.d.gens ++ [1], blocks := q.d.blocks ++ [b], free := q.d.free }) := by
  unfold deskNext at hn
  unfold deskIss
  cases hd : q.d.free with
  | nil =>
    rw [hd] at hn
    simp only at hn
    split at hn
    · cases hn
    · rename_i hne
      cases hn
      exact .inr ⟨rfl, rfl, rfl, hne, fun _ => rfl⟩
  | cons b r =>
    rw [hd] at hn
    simp only [Option.some.injEq, Prod.mk.injEq] at hn
    obtain ⟨rfl, rfl⟩ := hn
    exact .inl ⟨h.f b (by rw [hd]; exact List.mem_cons_self ..), by simp, rfl, rfl, fun _ => rfl⟩
theorem desk_none {q : DeskQ} (hn : deskNext q.n q.d = none) : q.d.free.length = 0 ∧ (q.d.gens.length : Int) = q.n := by
  unfold deskNext at hn
  cases hd : q.d.free with
  | nil =>
    rw [hd] at hn
    simp only at hn
    split at hn
    · rename_i h; exact ⟨rfl, h⟩
    · cases hn
  | cons b r => rw [hd] at hn; cases hn
theorem tail_getD {l : List Nat} {i : Nat} : l.tail.getD i 0 = l.getD (1 + i) 0 := by cases l <;> simp [Nat.add_comm 1]
theorem getD_I {l : List Int} {a b : Int} (h : ∀ x ∈ l, a ≤ x ∧ x ≤ b) (h0 : a ≤ 0 ∧ 0 ≤ b) (i : Nat) : a ≤ l.getD i 0 ∧ l.getD i 0 ≤ b := getD_mem (p := fun x => a ≤ x ∧ x ≤ b) h h0 i

theorem desk21NextV : (∀ (x : DeskQ × Unit), DeskW x.1 ∧ True → deskB x.1 = (deskO x.1).ob ∧ ∀ (g : Subtype (DeskCap x.1)), BC (decide ((0 : Int) <
 (↑x.1.d.free.length : Int))) (((0 : Int) ≤ (0 : Int) ∧ (0 : Int) < (↑x.1.d.free.length : Int)) ∧ 0 + Int.toNat 0 < x.1.d.free.length ∧ ((0 : Int) ≤ (0 : Int) ∧
 (0 : Int) < (↑x.1.d.free.length : Int)) ∧ 0 + Int.toNat 0 < x.1.d.free.length ∧ ((0 : Int) ≤ (↑(x.1.d.free.getD (0 + Int.toNat 0) 0) : Int) ∧ (↑(x.1.d.free.getD
 (0 + Int.toNat 0) 0) : Int) < (↑x.1.d.gens.length : Int)) ∧ 0 + (↑(x.1.d.free.getD (0 + Int.toNat 0) 0) : Int).toNat < x.1.d.gens.length ∧ I64 (x.1.d.gens.getD
 (0 + (↑(x.1.d.free.getD (0 + Int.toNat 0) 0) : Int).toNat) 0 + 1) ∧ Exx Unit fun y => Exx (Subtype (DeskCap x.1)) fun g_1 => ([0, 2, 3, 4].length = [Item.cells
 60 [AV.int .i64 0, AV.int .i64 x.1.n, AV.int .i64 x.1.m, AV.sl 1 [] 0 1 0 x.1.d.gens.length g_1.val.1, AV.sl 2 [] 0 1 0 x.1.d.blocks.length g_1.val.2.1, AV.sl 3
 [] 0 1 0 x.1.d.free.length g_1.val.2.2], Item.row 3 1 g_1.val.1 x.1.d.gens.length fun i => [AV.int .i64 (x.1.d.gens.getD i 0)], Item.row 3 1 g_1.val.2.1
 x.1.d.blocks.length fun i => [AV.int .i64 (x.1.d.blocks.getD i 0)], Item.row 3 1 g_1.val.2.2 x.1.d.free.length fun i => [AV.int .i64 (↑(x.1.d.free.getD i 0) :
 Int)]].length ∧ ((60 : TypeId) = 60 ∧ Tr 1 ((0 : Int) = 0) ∧ Tr 1 (x.1.n = x.1.n) ∧ Tr 1 (x.1.m = x.1.m) ∧ (true = true ∧ NilNil ∧ (0 : Nat) = 0 ∧ (1 : Nat) = 1
 ∧ (0 : Nat) = 0 ∧ x.1.d.gens.length = x.1.d.gens.length ∧ g.val.1 = g_1.val.1) ∧ (true = true ∧ NilNil ∧ (0 : Nat) = 0 ∧ (1 : Nat) = 1 ∧ (0 : Nat) = 0 ∧
 x.1.d.blocks.length = x.1.d.blocks.length ∧ g.val.2.1 = g_1.val.2.1) ∧ (true = true ∧ NilNil ∧ (0 : Nat) = 0 ∧ (1 : Nat) = 1 ∧ (0 : Nat) = 0 ∧ x.1.d.free.length
 = x.1.d.free.length ∧ g.val.2.2 = g_1.val.2.2) ∧ True) ∧ ((3 : TypeId) = 3 ∧ (1 : Nat) = 1 ∧ g.val.1 = g_1.val.1 ∧ x.1.d.gens.length ≤ x.1.d.gens.length ∧ ∀ (i
 : Nat), i < x.1.d.gens.length → [AV.int .i64 (x.1.d.gens.getD i 0)] = [AV.int .i64 (x.1.d.gens.getD i 0)]) ∧ ((3 : TypeId) = 3 ∧ (1 : Nat) = 1 ∧ g.val.2.1 =
 g_1.val.2.1 ∧ x.1.d.blocks.length ≤ x.1.d.blocks.length ∧ ∀ (i : Nat), i < x.1.d.blocks.length → [AV.int .i64 (x.1.d.blocks.getD i 0)] = [AV.int .i64
 (x.1.d.blocks.getD i 0)]) ∧ ((3 : TypeId) = 3 ∧ (1 : Nat) = 1 ∧ g.val.2.2 = g_1.val.2.2 ∧ x.1.d.free.length ≤ x.1.d.free.length ∧ ∀ (i : Nat), i <
 x.1.d.free.length → [AV.int .i64 (↑(x.1.d.free.getD i 0) : Int)] = [AV.int .i64 (↑(x.1.d.free.getD i 0) : Int)]) ∧ True) ∧ ((((Tr 1 ((↑(x.1.d.free.getD (0 +
 Int.toNat 0) 0) : Int) = (deskNextH x.1).slot) ∧ Tr 1 (x.1.d.gens.getD (0 + (↑(x.1.d.free.getD (0 + Int.toNat 0) 0) : Int).toNat) 0 + 1 = (deskNextH x.1).gen) ∧
 True) ∧ true = (deskNext x.1.n x.1.d).isSome ∧ True) ∧ True) ∧ (deskO x.1).ob = deskB x.1 ∧ true = true ∧ True) ∧ True) (BC (decide ((↑x.1.d.gens.length : Int)
 = x.1.n)) (Exx Unit fun y => Exx (Subtype (DeskCap x.1)) fun g_1 => ([0, 2, 3, 4].length = [Item.cells 60 [AV.int .i64 0, AV.int .i64 x.1.n, AV.int .i64 x.1.m,
 AV.sl 1 [] 0 1 0 x.1.d.gens.length g_1.val.1, AV.sl 2 [] 0 1 0 x.1.d.blocks.length g_1.val.2.1, AV.sl 3 [] 0 1 0 x.1.d.free.length g_1.val.2.2], Item.row 3 1
 g_1.val.1 x.1.d.gens.length fun i => [AV.int .i64 (x.1.d.gens.getD i 0)], Item.row 3 1 g_1.val.2.1 x.1.d.blocks.length fun i => [AV.int .i64 (x.1.d.blocks.getD
 i 0)], Item.row 3 1 g_1.val.2.2 x.1.d.free.length fun i => [AV.int .i64 (↑(x.1.d.free.getD i 0) : Int)]].length ∧ ((60 : TypeId) = 60 ∧ Tr 1 ((0 : Int) = 0) ∧
 Tr 1 (x.1.n = x.1.n) ∧ Tr 1 (x.1.m = x.1.m) ∧ (true = true ∧ NilNil ∧ (0 : Nat) = 0 ∧ (1 : Nat) = 1 ∧ (0 : Nat) = 0 ∧ x.1.d.gens.length = x.1.d.gens.length ∧
 g.val.1 = g_1.val.1) ∧ (true = true ∧ NilNil ∧ (0 : Nat) = 0 ∧ (1 : Nat) = 1 ∧ (0 : Nat) = 0 ∧ x.1.d.blocks.length = x.1.d.blocks.length ∧ g.val.2.1 =
 g_1.val.2.1) ∧ (true = true ∧ NilNil ∧ (0 : Nat) = 0 ∧ (1 : Nat) = 1 ∧ (0 : Nat) = 0 ∧ x.1.d.free.length = x.1.d.free.length ∧ g.val.2.2 = g_1.val.2.2) ∧ True)
 ∧ ((3 : TypeId) = 3 ∧ (1 : Nat) = 1 ∧ g.val.1 = g_1.val.1 ∧ x.1.d.gens.length ≤ x.1.d.gens.length ∧ ∀ (i : Nat), i < x.1.d.gens.length → [AV.int .i64
 (x.1.d.gens.getD i 0)] = [AV.int .i64 (x.1.d.gens.getD i 0)]) ∧ ((3 : TypeId) = 3 ∧ (1 : Nat) = 1 ∧ g.val.2.1 = g_1.val.2.1 ∧ x.1.d.blocks.length ≤
 x.1.d.blocks.length ∧ ∀ (i : Nat), i < x.1.d.blocks.length → [AV.int .i64 (x.1.d.blocks.getD i 0)] = [AV.int .i64 (x.1.d.blocks.getD i 0)]) ∧ ((3 : TypeId) = 3
 ∧ (1 : Nat) = 1 ∧ g.val.2.2 = g_1.val.2.2 ∧ x.1.d.free.length ≤ x.1.d.free.length ∧ ∀ (i : Nat), i < x.1.d.free.length → [AV.int .i64 (↑(x.1.d.free.getD i 0) :
 Int)] = [AV.int .i64 (↑(x.1.d.free.getD i 0) : Int)]) ∧ True) ∧ ((((Tr 1 ((0 : Int) = (deskNextH x.1).slot) ∧ Tr 1 ((0 : Int) = (deskNextH x.1).gen) ∧ True) ∧
 false = (deskNext x.1.n x.1.d).isSome ∧ True) ∧ True) ∧ (deskO x.1).ob = deskB x.1 ∧ true = true ∧ True) ∧ True) (Exx Unit fun y => Exx (Subtype (DeskCap x.1))
 fun g_1 => ([0, 2, 3, 4].length = [Item.cells 60 [AV.int .i64 0, AV.int .i64 x.1.n, AV.int .i64 x.1.m, AV.sl 1 [] 0 1 0 x.1.d.gens.length g_1.val.1, AV.sl 2 []
 0 1 0 x.1.d.blocks.length g_1.val.2.1, AV.sl 3 [] 0 1 0 x.1.d.free.length g_1.val.2.2], Item.row 3 1 g_1.val.1 x.1.d.gens.length fun i => [AV.int .i64
 (x.1.d.gens.getD i 0)], Item.row 3 1 g_1.val.2.1 x.1.d.blocks.length fun i => [AV.int .i64 (x.1.d.blocks.getD i 0)], Item.row 3 1 g_1.val.2.2 x.1.d.free.length
 fun i => [AV.int .i64 (↑(x.1.d.free.getD i 0) : Int)]].length ∧ ((60 : TypeId) = 60 ∧ Tr 1 ((0 : Int) = 0) ∧ Tr 1 (x.1.n = x.1.n) ∧ Tr 1 (x.1.m = x.1.m) ∧ (true
 = true ∧ NilNil ∧ (0 : Nat) = 0 ∧ (1 : Nat) = 1 ∧ (0 : Nat) = 0 ∧ x.1.d.gens.length = x.1.d.gens.length ∧ g.val.1 = g_1.val.1) ∧ (true = true ∧ NilNil ∧ (0 :
 Nat) = 0 ∧ (1 : Nat) = 1 ∧ (0 : Nat) = 0 ∧ x.1.d.blocks.length = x.1.d.blocks.length ∧ g.val.2.1 = g_1.val.2.1) ∧ (true = true ∧ NilNil ∧ (0 : Nat) = 0 ∧ (1 :
 Nat) = 1 ∧ (0 : Nat) = 0 ∧ x.1.d.free.length = x.1.d.free.length ∧ g.val.2.2 = g_1.val.2.2) ∧ True) ∧ ((3 : TypeId) = 3 ∧ (1 : Nat) = 1 ∧ g.val.1 = g_1.val.1 ∧
 x.1.d.gens.length ≤ x.1.d.gens.length ∧ ∀ (i : Nat), i < x.1.d.gens.length → [AV.int .i64 (x.1.d.gens.getD i 0)] = [AV.int .i64 (x.1.d.gens.getD i 0)]) ∧ ((3 :
 TypeId) = 3 ∧ (1 : Nat) = 1 ∧ g.val.2.1 = g_1.val.2.1 ∧ x.1.d.blocks.length ≤ x.1.d.blocks.length ∧ ∀ (i : Nat), i < x.1.d.blocks.length → [AV.int .i64
 (x.1.d.blocks.getD i 0)] = [AV.int .i64 (x.1.d.blocks.getD i 0)]) ∧ ((3 : TypeId) = 3 ∧ (1 : Nat) = 1 ∧ g.val.2.2 = g_1.val.2.2 ∧ x.1.d.free.length ≤
 x.1.d.free.length ∧ ∀ (i : Nat), i < x.1.d.free.length → [AV.int .i64 (↑(x.1.d.free.getD i 0) : Int)] = [AV.int .i64 (↑(x.1.d.free.getD i 0) : Int)]) ∧ True) ∧
 ((((Tr 1 ((↑x.1.d.gens.length : Int) = (deskNextH x.1).slot) ∧ Tr 1 ((1 : Int) = (deskNextH x.1).gen) ∧ True) ∧ true = (deskNext x.1.n x.1.d).isSome ∧ True) ∧
 True) ∧ (deskO x.1).ob = deskB x.1 ∧ true = true ∧ True) ∧ True))) = (fnVCo tb [] Tryd.f21 desk21NextC (fun x => { loose := [(2, [5])] }) (fun _ _ _ => none) (fun x => [(0, deskO x.1)]) (fun x y av H => [(0, [2, 3, 4], deskO x.1)])) := by kernel_rfl 

theorem desk21Next_ok : SpecOk Tryd.prog 21 (specOf desk21NextC) := by
  refine specOko mixed tb_ok SPok.nil Tryd.func21 (by decide) (deskGetC_ok fun _ => ⟨⟨rfl, rfl, trivial⟩, rfl, trivial⟩) (an := (fun x => { loose := [(2, [5])] })) (σ := (fun _ _ _ => none)) (op := (fun x => [(0, deskO x.1)])) (cl := (fun x y av H => [(0, [2, 3, 4], deskO x.1)])) ?_
  rw [← desk21NextV]
  simp (maxSteps := 10000000) only [and_false, false_and, false_or, or_false, bOf_true, bOf_false, true_bOf, false_bOf, Exx, int_ite, merge_o, Tr_eq, true_and, and_true, exists_const, forall_const, implies_true, forall_eq, exists_eq, exists_eq', exists_eq_left, exists_eq_left', exists_eq_right, Prod.exists, Prod.forall, and_assoc, exists_and_left, BC_iff, Bool.not_eq_true', Bool.not_eq_false', decide_eq_true_eq, decide_eq_false_iff_not, I64, nat_cast_inj, Int.toNat_natCast, nats_iff, nats_iff', ints_iff, ints_iff', natss_iff, natss_iff', nilnil, litL_eq, str_inj, str_append, str_length, str_getD, str_take, lit1_iff, one_iff, two_iff, one_get, Nat.zero_add, Nat.sub_zero, Nat.reduceMul, Nat.reduceDiv, Nat.reduceAdd, Int.reduceToNat, Nat.not_lt_zero, if_false, if_true, Nat.le_refl, List.length_singleton, List.length_cons, List.length_nil, Bool.false_eq_true, not_true_eq_false, false_implies, not_false_eq_true, Prod.mk.injEq, deskB_open, deskB_close, deskB_inj, Subtype.forall, Subtype.exists, exists_prop, DeskCap]
  intro q h
  cases hn : deskNext q.n q.d with
  | none =>
    obtain ⟨h1, h2⟩ := desk_none hn
    rw [deskNextH, hn]
    exact fun c1 c2 c3 hc => ⟨fun k => by omega, fun _ => ⟨fun _ => ⟨rfl, rfl, hc.1, hc.2.1, hc.2.2, rfl⟩, fun k => absurd h2 k⟩⟩
  | some p =>
    obtain ⟨a, g⟩ := p
    rw [deskNextH, hn]
    rcases desk_some h hn with ⟨h1, h2, h3, h4, _⟩ | ⟨h1, h2, h3, h4, _⟩
    · have hg := getD_I h.g (by omega) a
      rw [h3] at h1 h4 hg
      exact fun c1 c2 c3 hc => ⟨fun _ => ⟨by omega, by omega, h2, by omega, by omega, h2, by omega, by omega, h1, by omega, by omega, by rw [h3], by rw [h4], hc.1, hc.2.1, hc.2.2, rfl⟩, fun k => by omega⟩
    · exact fun c1 c2 c3 hc => ⟨fun k => by omega, fun _ => ⟨fun k => absurd k h4, fun _ => ⟨by rw [h1], h3.symm, hc.1, hc.2.1, hc.2.2, rfl⟩⟩⟩

theorem desk21IssueV : (∀ (x : DeskQ × Int), DeskW x.1 ∧ I64 x.2 → Exx (DeskQ × Unit) fun x_1 => (((true = true ∧ NilNil ∧ (0 : Nat) = 0) ∧ True) ∧ true = true
 ∧ deskB x.1 = deskB x_1.1 ∧ True) ∧ (DeskW x_1.1 ∧ True) ∧ ∀ (y : Unit), True → BC (!(deskNext x_1.1.n x_1.1.d).isSome) (Exx Unit fun y => ((((Tr 1 ((deskNextH
 x_1.1).slot = (deskNextH x.1).slot) ∧ Tr 1 ((deskNextH x_1.1).gen = (deskNextH x.1).gen) ∧ True) ∧ false = (deskNext x.1.n x.1.d).isSome ∧ True) ∧ True) ∧ deskB
 x_1.1 = deskB (DeskQ.mk x.1.n x.1.m (deskIssD x)) ∧ true = true ∧ True) ∧ True) (Exx Unit fun y => deskB x_1.1 = (deskO x.1).ob ∧ ∀ (g : Subtype (DeskCap x.1)),
 BC (decide ((0 : Int) < (↑x.1.d.free.length : Int))) ((0 : Int) ≤ (1 : Int) ∧ (Int.toNat 1 ≤ x.1.d.free.length ∧ x.1.d.free.length ≤ g.val.2.2) ∧ 0 + Int.toNat
 1 + (x.1.d.free.length - Int.toNat 1) ≤ x.1.d.free.length ∧ true = true ∧ ((0 : Nat) ≤ (0 : Nat) ∧ (0 : Nat) = 0) ∧ (0 + (x.1.d.free.length - Int.toNat 1) ≤
 9223372036854775807 ∧ (0 + (x.1.d.free.length - Int.toNat 1)) * 8 ≤ 140737488355328) ∧ ∀ (cap : Nat), 0 + (x.1.d.free.length - Int.toNat 1) ≤ cap ∧ cap ≤
 9223372036854775807 → ((0 : Int) ≤ (deskNextH x_1.1).slot ∧ (deskNextH x_1.1).slot < (↑x.1.d.gens.length : Int)) ∧ 0 + (deskNextH x_1.1).slot.toNat <
 x.1.d.gens.length ∧ x.1.d.gens.length = x.1.d.gens.length ∧ ((0 : Int) ≤ (deskNextH x_1.1).slot ∧ (deskNextH x_1.1).slot < (↑x.1.d.blocks.length : Int)) ∧ 0 +
 (deskNextH x_1.1).slot.toNat < x.1.d.blocks.length ∧ x.1.d.blocks.length = x.1.d.blocks.length ∧ Exx Unit fun y => Exx (Subtype (DeskCap (DeskQ.mk x.1.n x.1.m
 (deskIssD x)))) fun g_1 => ([0, [Item.obj (deskB x_1.1), Item.fence, Item.cells 36 [AV.int .i64 0, AV.int .i64 0], Item.cells 36 [AV.int .i64 (deskNextH
 x_1.1).slot, AV.int .i64 (deskNextH x_1.1).gen]].length + 0, [Item.obj (deskB x_1.1), Item.fence, Item.cells 36 [AV.int .i64 0, AV.int .i64 0], Item.cells 36
 [AV.int .i64 (deskNextH x_1.1).slot, AV.int .i64 (deskNextH x_1.1).gen]].length + 1, [Item.cells 60 [AV.int .i64 0, AV.int .i64 x.1.n, AV.int .i64 x.1.m, AV.sl
 ([Item.obj (deskB x_1.1), Item.fence, Item.cells 36 [AV.int .i64 0, AV.int .i64 0], Item.cells 36 [AV.int .i64 (deskNextH x_1.1).slot, AV.int .i64 (deskNextH
 x_1.1).gen]].length + 0) [] 0 1 0 x.1.d.gens.length g.val.1, AV.sl ([Item.obj (deskB x_1.1), Item.fence, Item.cells 36 [AV.int .i64 0, AV.int .i64 0],
 Item.cells 36 [AV.int .i64 (deskNextH x_1.1).slot, AV.int .i64 (deskNextH x_1.1).gen]].length + 1) [] 0 1 0 x.1.d.blocks.length g.val.2.1, AV.sl ([Item.obj
 (deskB x_1.1), Item.fence, Item.cells 36 [AV.int .i64 0, AV.int .i64 0], Item.cells 36 [AV.int .i64 (deskNextH x_1.1).slot, AV.int .i64 (deskNextH
 x_1.1).gen]].length + 2) [] 0 1 0 x.1.d.free.length g.val.2.2], Item.fence, Item.cells 36 [AV.int .i64 0, AV.int .i64 0], Item.cells 36 [AV.int .i64 (deskNextH
 x_1.1).slot, AV.int .i64 (deskNextH x_1.1).gen], Item.row 3 1 g.val.1 x.1.d.gens.length fun i => [AV.int .i64 (x.1.d.gens.getD i 0)], Item.row 3 1 g.val.2.1
 x.1.d.blocks.length fun i => [AV.int .i64 (x.1.d.blocks.getD i 0)], Item.row 3 1 g.val.2.2 x.1.d.free.length fun i => [AV.int .i64 (↑(x.1.d.free.getD i 0) :
 Int)]].length].length = [Item.cells 60 [AV.int .i64 0, AV.int .i64 (DeskQ.mk x.1.n x.1.m (deskIssD x)).n, AV.int .i64 (DeskQ.mk x.1.n x.1.m (deskIssD x)).m,
 AV.sl 1 [] 0 1 0 (DeskQ.mk x.1.n x.1.m (deskIssD x)).d.gens.length g_1.val.1, AV.sl 2 [] 0 1 0 (DeskQ.mk x.1.n x.1.m (deskIssD x)).d.blocks.length g_1.val.2.1,
 AV.sl 3 [] 0 1 0 (DeskQ.mk x.1.n x.1.m (deskIssD x)).d.free.length g_1.val.2.2], Item.row 3 1 g_1.val.1 (DeskQ.mk x.1.n x.1.m (deskIssD x)).d.gens.length fun i
 => [AV.int .i64 ((DeskQ.mk x.1.n x.1.m (deskIssD x)).d.gens.getD i 0)], Item.row 3 1 g_1.val.2.1 (DeskQ.mk x.1.n x.1.m (deskIssD x)).d.blocks.length fun i =>
 [AV.int .i64 ((DeskQ.mk x.1.n x.1.m (deskIssD x)).d.blocks.getD i 0)], Item.row 3 1 g_1.val.2.2 (DeskQ.mk x.1.n x.1.m (deskIssD x)).d.free.length fun i =>
 [AV.int .i64 (↑((DeskQ.mk x.1.n x.1.m (deskIssD x)).d.free.getD i 0) : Int)]].length ∧ ((60 : TypeId) = 60 ∧ Tr 1 ((0 : Int) = 0) ∧ Tr 1 (x.1.n = (DeskQ.mk
 x.1.n x.1.m (deskIssD x)).n) ∧ Tr 1 (x.1.m = (DeskQ.mk x.1.n x.1.m (deskIssD x)).m) ∧ (true = true ∧ NilNil ∧ (0 : Nat) = 0 ∧ (1 : Nat) = 1 ∧ (0 : Nat) = 0 ∧
 x.1.d.gens.length = (DeskQ.mk x.1.n x.1.m (deskIssD x)).d.gens.length ∧ g.val.1 = g_1.val.1) ∧ (true = true ∧ NilNil ∧ (0 : Nat) = 0 ∧ (1 : Nat) = 1 ∧ (0 : Nat)
 = 0 ∧ x.1.d.blocks.length = (DeskQ.mk x.1.n x.1.m (deskIssD x)).d.blocks.length ∧ g.val.2.1 = g_1.val.2.1) ∧ (true = true ∧ NilNil ∧ (0 : Nat) = 0 ∧ (1 : Nat) =
 1 ∧ (0 : Nat) = 0 ∧ 0 + (x.1.d.free.length - Int.toNat 1) = (DeskQ.mk x.1.n x.1.m (deskIssD x)).d.free.length ∧ cap = g_1.val.2.2) ∧ True) ∧ ((3 : TypeId) = 3 ∧
 (1 : Nat) = 1 ∧ g.val.1 = g_1.val.1 ∧ (DeskQ.mk x.1.n x.1.m (deskIssD x)).d.gens.length ≤ x.1.d.gens.length ∧ ∀ (i : Nat), i < (DeskQ.mk x.1.n x.1.m (deskIssD
 x)).d.gens.length → [AV.int .i64 (if i = 0 + (deskNextH x_1.1).slot.toNat then (deskNextH x_1.1).gen else x.1.d.gens.getD i 0)] = [AV.int .i64 ((DeskQ.mk x.1.n
 x.1.m (deskIssD x)).d.gens.getD i 0)]) ∧ ((3 : TypeId) = 3 ∧ (1 : Nat) = 1 ∧ g.val.2.1 = g_1.val.2.1 ∧ (DeskQ.mk x.1.n x.1.m (deskIssD x)).d.blocks.length ≤
 x.1.d.blocks.length ∧ ∀ (i : Nat), i < (DeskQ.mk x.1.n x.1.m (deskIssD x)).d.blocks.length → [AV.int .i64 (if i = 0 + (deskNextH x_1.1).slot.toNat then x.2 else
 x.1.d.blocks.getD i 0)] = [AV.int .i64 ((DeskQ.mk x.1.n x.1.m (deskIssD x)).d.blocks.getD i 0)]) ∧ ((3 : TypeId) = 3 ∧ (1 : Nat) = 1 ∧ cap = g_1.val.2.2 ∧
 (DeskQ.mk x.1.n x.1.m (deskIssD x)).d.free.length ≤ 0 + (x.1.d.free.length - Int.toNat 1) ∧ ∀ (i : Nat), i < (DeskQ.mk x.1.n x.1.m (deskIssD x)).d.free.length →
 (if i < 0 then [] else [AV.int .i64 (↑(x.1.d.free.getD (0 + Int.toNat 1 + (i - 0)) 0) : Int)]) = [AV.int .i64 (↑((DeskQ.mk x.1.n x.1.m (deskIssD x)).d.free.getD
 i 0) : Int)]) ∧ True) ∧ ((((Tr 1 ((deskNextH x_1.1).slot = (deskNextH x.1).slot) ∧ Tr 1 ((deskNextH x_1.1).gen = (deskNextH x.1).gen) ∧ True) ∧ true = (deskNext
 x.1.n x.1.d).isSome ∧ True) ∧ True) ∧ (deskO (DeskQ.mk x.1.n x.1.m (deskIssD x))).ob = deskB (DeskQ.mk x.1.n x.1.m (deskIssD x)) ∧ true = true ∧ True) ∧ True)
 ((0 : Nat) + (1 : Nat) ≤ (1 : Nat) ∧ true = true ∧ (x.1.d.gens.length ≤ x.1.d.gens.length ∧ g.val.1 = g.val.1) ∧ (x.1.d.gens.length + 1 ≤ 9223372036854775807 ∧
 (x.1.d.gens.length + 1) * 8 ≤ 140737488355328) ∧ ∀ (cap : Nat), x.1.d.gens.length + 1 ≤ cap ∧ cap ≤ 9223372036854775807 → (0 : Nat) + (1 : Nat) ≤ (1 : Nat) ∧
 true = true ∧ (x.1.d.blocks.length ≤ x.1.d.blocks.length ∧ g.val.2.1 = g.val.2.1) ∧ (x.1.d.blocks.length + 1 ≤ 9223372036854775807 ∧ (x.1.d.blocks.length + 1) *
 8 ≤ 140737488355328) ∧ ∀ (cap_1 : Nat), x.1.d.blocks.length + 1 ≤ cap_1 ∧ cap_1 ≤ 9223372036854775807 → ((0 : Int) ≤ (deskNextH x_1.1).slot ∧ (deskNextH
 x_1.1).slot < (↑(x.1.d.gens.length + 1) : Int)) ∧ 0 + (deskNextH x_1.1).slot.toNat < x.1.d.gens.length + 1 ∧ x.1.d.gens.length + 1 = x.1.d.gens.length + 1 ∧ ((0
 : Int) ≤ (deskNextH x_1.1).slot ∧ (deskNextH x_1.1).slot < (↑(x.1.d.blocks.length + 1) : Int)) ∧ 0 + (deskNextH x_1.1).slot.toNat < x.1.d.blocks.length + 1 ∧
 x.1.d.blocks.length + 1 = x.1.d.blocks.length + 1 ∧ Exx Unit fun y => Exx (Subtype (DeskCap (DeskQ.mk x.1.n x.1.m (deskIssD x)))) fun g_1 => ([0, [Item.obj
 (deskB x_1.1), Item.fence, Item.cells 36 [AV.int .i64 0, AV.int .i64 0], Item.cells 36 [AV.int .i64 (deskNextH x_1.1).slot, AV.int .i64 (deskNextH
 x_1.1).gen]].length + 0, [Item.obj (deskB x_1.1), Item.fence, Item.cells 36 [AV.int .i64 0, AV.int .i64 0], Item.cells 36 [AV.int .i64 (deskNextH x_1.1).slot,
 AV.int .i64 (deskNextH x_1.1).gen]].length + 1, [Item.obj (deskB x_1.1), Item.fence, Item.cells 36 [AV.int .i64 0, AV.int .i64 0], Item.cells 36 [AV.int .i64
 (deskNextH x_1.1).slot, AV.int .i64 (deskNextH x_1.1).gen]].length + 2].length = [Item.cells 60 [AV.int .i64 0, AV.int .i64 (DeskQ.mk x.1.n x.1.m (deskIssD
 x)).n, AV.int .i64 (DeskQ.mk x.1.n x.1.m (deskIssD x)).m, AV.sl 1 [] 0 1 0 (DeskQ.mk x.1.n x.1.m (deskIssD x)).d.gens.length g_1.val.1, AV.sl 2 [] 0 1 0
 (DeskQ.mk x.1.n x.1.m (deskIssD x)).d.blocks.length g_1.val.2.1, AV.sl 3 [] 0 1 0 (DeskQ.mk x.1.n x.1.m (deskIssD x)).d.free.length g_1.val.2.2], Item.row 3 1
 g_1.val.1 (DeskQ.mk x.1.n x.1.m (deskIssD x)).d.gens.length fun i => [AV.int .i64 ((DeskQ.mk x.1.n x.1.m (deskIssD x)).d.gens.getD i 0)], Item.row 3 1
 g_1.val.2.1 (DeskQ.mk x.1.n x.1.m (deskIssD x)).d.blocks.length fun i => [AV.int .i64 ((DeskQ.mk x.1.n x.1.m (deskIssD x)).d.blocks.getD i 0)], Item.row 3 1
 g_1.val.2.2 (DeskQ.mk x.1.n x.1.m (deskIssD x)).d.free.length fun i => [AV.int .i64 (↑((DeskQ.mk x.1.n x.1.m (deskIssD x)).d.free.getD i 0) : Int)]].length ∧
 ((60 : TypeId) = 60 ∧ Tr 1 ((0 : Int) = 0) ∧ Tr 1 (x.1.n = (DeskQ.mk x.1.n x.1.m (deskIssD x)).n) ∧ Tr 1 (x.1.m = (DeskQ.mk x.1.n x.1.m (deskIssD x)).m) ∧ (true
 = true ∧ NilNil ∧ (0 : Nat) = 0 ∧ (1 : Nat) = 1 ∧ (0 : Nat) = 0 ∧ x.1.d.gens.length + 1 = (DeskQ.mk x.1.n x.1.m (deskIssD x)).d.gens.length ∧ cap = g_1.val.1) ∧
 (true = true ∧ NilNil ∧ (0 : Nat) = 0 ∧ (1 : Nat) = 1 ∧ (0 : Nat) = 0 ∧ x.1.d.blocks.length + 1 = (DeskQ.mk x.1.n x.1.m (deskIssD x)).d.blocks.length ∧ cap_1 =
 g_1.val.2.1) ∧ (true = true ∧ NilNil ∧ (0 : Nat) = 0 ∧ (1 : Nat) = 1 ∧ (0 : Nat) = 0 ∧ x.1.d.free.length = (DeskQ.mk x.1.n x.1.m (deskIssD x)).d.free.length ∧
 g.val.2.2 = g_1.val.2.2) ∧ True) ∧ ((3 : TypeId) = 3 ∧ (1 : Nat) = 1 ∧ cap = g_1.val.1 ∧ (DeskQ.mk x.1.n x.1.m (deskIssD x)).d.gens.length ≤ x.1.d.gens.length +
 1 ∧ ∀ (i : Nat), i < (DeskQ.mk x.1.n x.1.m (deskIssD x)).d.gens.length → mergeO i (0 + (deskNextH x_1.1).slot.toNat) [AV.int .i64 (deskNextH x_1.1).gen] (if i <
 x.1.d.gens.length then [AV.int .i64 (x.1.d.gens.getD i 0)] else [AV.int .i64 (if 0 + (i - x.1.d.gens.length) = 0 * 1 / 1 then 0 else 0)]) (mergeS i (0 +
 (deskNextH x_1.1).slot.toNat) [AV.int .i64 (deskNextH x_1.1).gen] (if i < x.1.d.gens.length then [AV.int .i64 (x.1.d.gens.getD i 0)] else [AV.int .i64 (if 0 +
 (i - x.1.d.gens.length) = 0 * 1 / 1 then 0 else 0)])) = [AV.int .i64 ((DeskQ.mk x.1.n x.1.m (deskIssD x)).d.gens.getD i 0)]) ∧ ((3 : TypeId) = 3 ∧ (1 : Nat) = 1
 ∧ cap_1 = g_1.val.2.1 ∧ (DeskQ.mk x.1.n x.1.m (deskIssD x)).d.blocks.length ≤ x.1.d.blocks.length + 1 ∧ ∀ (i : Nat), i < (DeskQ.mk x.1.n x.1.m (deskIssD
 x)).d.blocks.length → mergeO i (0 + (deskNextH x_1.1).slot.toNat) [AV.int .i64 x.2] (if i < x.1.d.blocks.length then [AV.int .i64 (x.1.d.blocks.getD i 0)] else
 [AV.int .i64 (if 0 + (i - x.1.d.blocks.length) = 0 * 1 / 1 then 0 else 0)]) (mergeS i (0 + (deskNextH x_1.1).slot.toNat) [AV.int .i64 x.2] (if i <
 x.1.d.blocks.length then [AV.int .i64 (x.1.d.blocks.getD i 0)] else [AV.int .i64 (if 0 + (i - x.1.d.blocks.length) = 0 * 1 / 1 then 0 else 0)])) = [AV.int .i64
 ((DeskQ.mk x.1.n x.1.m (deskIssD x)).d.blocks.getD i 0)]) ∧ ((3 : TypeId) = 3 ∧ (1 : Nat) = 1 ∧ g.val.2.2 = g_1.val.2.2 ∧ (DeskQ.mk x.1.n x.1.m (deskIssD
 x)).d.free.length ≤ x.1.d.free.length ∧ ∀ (i : Nat), i < (DeskQ.mk x.1.n x.1.m (deskIssD x)).d.free.length → [AV.int .i64 (↑(x.1.d.free.getD i 0) : Int)] =
 [AV.int .i64 (↑((DeskQ.mk x.1.n x.1.m (deskIssD x)).d.free.getD i 0) : Int)]) ∧ True) ∧ ((((Tr 1 ((deskNextH x_1.1).slot = (deskNextH x.1).slot) ∧ Tr 1
 ((deskNextH x_1.1).gen = (deskNextH x.1).gen) ∧ True) ∧ true = (deskNext x.1.n x.1.d).isSome ∧ True) ∧ True) ∧ (deskO (DeskQ.mk x.1.n x.1.m (deskIssD x))).ob =
 deskB (DeskQ.mk x.1.n x.1.m (deskIssD x)) ∧ true = true ∧ True) ∧ True))) = (fnVCo tb [(21, specOf desk21NextC)] Tryd.f35 desk21IssueC (fun x => { loose := [(8, [4]), (9, [5])], opensE := [(4, [{ p := 0, Y := Unit, o := fun _ => deskO x.1 }])] }) (fun _ _ _ => none) (fun _ => []) (fun x y av H => deskCl 0 H ⟨x.1.n, x.1.m, deskIssD x⟩)) := by kernel_rfl 

theorem desk21Issue_ok : SpecOk Tryd.prog 35 (specOf desk21IssueC) := by
  refine specOko mixed tb_ok (SPok.cons desk21Next_ok SPok.nil) Tryd.func35 (by decide) (deskSetC_ok fun _ => ⟨⟨rfl, rfl, trivial⟩, rfl, trivial⟩) (an := (fun x => { loose := [(8, [4]), (9, [5])], opensE := [(4, [{ p := 0, Y := Unit, o := fun _ => deskO x.1 }])] })) (σ := (fun _ _ _ => none)) (op := (fun _ => [])) (cl := (fun x y av H => deskCl 0 H ⟨x.1.n, x.1.m, deskIssD x⟩)) ?_
  rw [← desk21IssueV]
  simp (maxSteps := 10000000) only [and_false, false_and, false_or, or_false, bOf_true, bOf_false, true_bOf, false_bOf, Exx, int_ite, merge_o, Tr_eq, true_and, and_true, exists_const, forall_const, implies_true, forall_eq, exists_eq, exists_eq', exists_eq_left, exists_eq_left', exists_eq_right, Prod.exists, Prod.forall, and_assoc, exists_and_left, BC_iff, Bool.not_eq_true', Bool.not_eq_false', decide_eq_true_eq, decide_eq_false_iff_not, I64, nat_cast_inj, Int.toNat_natCast, nats_iff, nats_iff', ints_iff, ints_iff', natss_iff, natss_iff', nilnil, litL_eq, str_inj, str_append, str_length, str_getD, str_take, lit1_iff, one_iff, two_iff, one_get, Nat.zero_add, Nat.sub_zero, Nat.reduceMul, Nat.reduceDiv, Nat.reduceAdd, Int.reduceToNat, Nat.not_lt_zero, if_false, if_true, Nat.le_refl, List.length_singleton, List.length_cons, List.length_nil, Bool.false_eq_true, not_true_eq_false, false_implies, not_false_eq_true, Prod.mk.injEq, deskB_open, deskB_close, deskB_inj, Subtype.forall, Subtype.exists, exists_prop, DeskCap]
  rintro q b ⟨h, hb⟩
  refine ⟨h, fun hno => ?_, fun hyes c1 c2 c3 hc => ?_⟩
  · have hn : deskNext q.n q.d = none := by
      cases e : deskNext q.n q.d with
      | none => rfl
      | some p => rw [e] at hno; cases hno
    exact ⟨hno.symm, by rw [deskIssD]; simp only; rw [hn]⟩
  · obtain ⟨⟨a, g⟩, hn⟩ := Option.isSome_iff_exists.1 hyes
    have eH : deskNextH q = ⟨(a : Int), g⟩ := by rw [deskNextH, hn]
    have eD : deskIssD (q, b) = deskIss q.d b := by rw [deskIssD]; simp only; rw [hn]
    have hlb := h.lb
    have hln := h.ln
    have hlf := h.lf
    rw [eH, eD]
    simp only [Int.toNat_natCast]
    rcases desk_some h hn with ⟨h1, h2, h3, h4, h5⟩ | ⟨h1, h2, h3, h4, h5⟩
    · have e1 : (deskIss q.d b).gens = q.d.gens.set a g := by rw [h5]
      have e2 : (deskIss q.d b).blocks = q.d.blocks.set a b := by rw [h5]
      have e3 : (deskIss q.d b).free = q.d.free.tail := by rw [h5]
      have l1 : (deskIss q.d b).gens.length = q.d.gens.length := by rw [e1, List.length_set]
      have l2 : (deskIss q.d b).blocks.length = q.d.blocks.length := by rw [e2, List.length_set]
      have l3 : (deskIss q.d b).free.length = q.d.free.length - 1 := by rw [e3, List.length_tail]
      refine ⟨fun _ => ⟨by omega, by omega, by omega, by omega, by omega, by omega, fun c hc' => ?_⟩, fun k => by omega⟩
      refine ⟨by omega, by omega, by omega, by omega, by omega, by omega, ?_⟩
      and_intros
      all_goals first
        | omega
        | exact hyes.symm
        | (intro i hi; rw [e1, getD_setL h1]; split <;> rfl)
        | (intro i hi; rw [e2, getD_setL (by omega)]; split <;> rfl)
        | (intro i hi; rw [e3, tail_getD])
    · have e1 : (deskIss q.d b).gens = q.d.gens ++ [1] := by rw [h5]
      have e2 : (deskIss q.d b).blocks = q.d.blocks ++ [b] := by rw [h5]
      have e3 : (deskIss q.d b).free = q.d.free := by rw [h5]
      have l1 : (deskIss q.d b).gens.length = q.d.gens.length + 1 := by rw [e1]; simp
      have l2 : (deskIss q.d b).blocks.length = q.d.blocks.length + 1 := by rw [e2]; simp
      refine ⟨fun k => by omega, fun _ => ⟨by omega, by omega, fun c hc1 => ⟨by omega, by omega, fun c' hc2 => ⟨by omega, by omega, by omega, by omega, by omega, by omega, ?_⟩⟩⟩⟩
      have l3 : (deskIss q.d b).free.length = q.d.free.length := by rw [e3]
      and_intros
      all_goals first
        | omega
        | exact hyes.symm
        | (intro i hi; rw [e1, getD_snoc]
           by_cases e : i = q.d.gens.length
           · rw [if_pos (by omega), if_pos e, h3]
           · rw [if_neg (by omega), if_neg e, if_pos (by omega)])
        | (intro i hi; rw [e2, getD_snoc]
           by_cases e : i = q.d.blocks.length
           · rw [if_pos (by omega), if_pos e]
           · rw [if_neg (by omega), if_neg e, if_pos (by omega)])
        | (intro i hi; rw [e3])

theorem desk21ResolveV : (∀ (x : DeskQ × HandT), DeskW x.1 ∧ HandI x.2 → deskB x.1 = (deskO x.1).ob ∧ ∀ (g : Subtype (DeskCap x.1)), BC (decide (x.2.slot < (0 :
 Int))) (Exx Unit fun y => Exx (Subtype (DeskCap x.1)) fun g_1 => ([0, 2, 3, 4].length = [Item.cells 60 [AV.int .i64 0, AV.int .i64 x.1.n, AV.int .i64 x.1.m,
 AV.sl 1 [] 0 1 0 x.1.d.gens.length g_1.val.1, AV.sl 2 [] 0 1 0 x.1.d.blocks.length g_1.val.2.1, AV.sl 3 [] 0 1 0 x.1.d.free.length g_1.val.2.2], Item.row 3 1
 g_1.val.1 x.1.d.gens.length fun i => [AV.int .i64 (x.1.d.gens.getD i 0)], Item.row 3 1 g_1.val.2.1 x.1.d.blocks.length fun i => [AV.int .i64 (x.1.d.blocks.getD
 i 0)], Item.row 3 1 g_1.val.2.2 x.1.d.free.length fun i => [AV.int .i64 (↑(x.1.d.free.getD i 0) : Int)]].length ∧ ((60 : TypeId) = 60 ∧ Tr 1 ((0 : Int) = 0) ∧
 Tr 1 (x.1.n = x.1.n) ∧ Tr 1 (x.1.m = x.1.m) ∧ (true = true ∧ NilNil ∧ (0 : Nat) = 0 ∧ (1 : Nat) = 1 ∧ (0 : Nat) = 0 ∧ x.1.d.gens.length = x.1.d.gens.length ∧
 g.val.1 = g_1.val.1) ∧ (true = true ∧ NilNil ∧ (0 : Nat) = 0 ∧ (1 : Nat) = 1 ∧ (0 : Nat) = 0 ∧ x.1.d.blocks.length = x.1.d.blocks.length ∧ g.val.2.1 =
 g_1.val.2.1) ∧ (true = true ∧ NilNil ∧ (0 : Nat) = 0 ∧ (1 : Nat) = 1 ∧ (0 : Nat) = 0 ∧ x.1.d.free.length = x.1.d.free.length ∧ g.val.2.2 = g_1.val.2.2) ∧ True)
 ∧ ((3 : TypeId) = 3 ∧ (1 : Nat) = 1 ∧ g.val.1 = g_1.val.1 ∧ x.1.d.gens.length ≤ x.1.d.gens.length ∧ ∀ (i : Nat), i < x.1.d.gens.length → [AV.int .i64
 (x.1.d.gens.getD i 0)] = [AV.int .i64 (x.1.d.gens.getD i 0)]) ∧ ((3 : TypeId) = 3 ∧ (1 : Nat) = 1 ∧ g.val.2.1 = g_1.val.2.1 ∧ x.1.d.blocks.length ≤
 x.1.d.blocks.length ∧ ∀ (i : Nat), i < x.1.d.blocks.length → [AV.int .i64 (x.1.d.blocks.getD i 0)] = [AV.int .i64 (x.1.d.blocks.getD i 0)]) ∧ ((3 : TypeId) = 3
 ∧ (1 : Nat) = 1 ∧ g.val.2.2 = g_1.val.2.2 ∧ x.1.d.free.length ≤ x.1.d.free.length ∧ ∀ (i : Nat), i < x.1.d.free.length → [AV.int .i64 (↑(x.1.d.free.getD i 0) :
 Int)] = [AV.int .i64 (↑(x.1.d.free.getD i 0) : Int)]) ∧ True) ∧ ((Tr 1 ((0 : Int) = if liveD x.1.d x.2 then bAt x.1.d x.2.slot.toNat else 0) ∧ True) ∧ (deskO
 x.1).ob = deskB x.1 ∧ true = true ∧ True) ∧ True) (BC (decide ((↑x.1.d.gens.length : Int) ≤ x.2.slot)) (Exx Unit fun y => Exx (Subtype (DeskCap x.1)) fun g_1 =>
 ([0, 2, 3, 4].length = [Item.cells 60 [AV.int .i64 0, AV.int .i64 x.1.n, AV.int .i64 x.1.m, AV.sl 1 [] 0 1 0 x.1.d.gens.length g_1.val.1, AV.sl 2 [] 0 1 0
 x.1.d.blocks.length g_1.val.2.1, AV.sl 3 [] 0 1 0 x.1.d.free.length g_1.val.2.2], Item.row 3 1 g_1.val.1 x.1.d.gens.length fun i => [AV.int .i64
 (x.1.d.gens.getD i 0)], Item.row 3 1 g_1.val.2.1 x.1.d.blocks.length fun i => [AV.int .i64 (x.1.d.blocks.getD i 0)], Item.row 3 1 g_1.val.2.2 x.1.d.free.length
 fun i => [AV.int .i64 (↑(x.1.d.free.getD i 0) : Int)]].length ∧ ((60 : TypeId) = 60 ∧ Tr 1 ((0 : Int) = 0) ∧ Tr 1 (x.1.n = x.1.n) ∧ Tr 1 (x.1.m = x.1.m) ∧ (true
 = true ∧ NilNil ∧ (0 : Nat) = 0 ∧ (1 : Nat) = 1 ∧ (0 : Nat) = 0 ∧ x.1.d.gens.length = x.1.d.gens.length ∧ g.val.1 = g_1.val.1) ∧ (true = true ∧ NilNil ∧ (0 :
 Nat) = 0 ∧ (1 : Nat) = 1 ∧ (0 : Nat) = 0 ∧ x.1.d.blocks.length = x.1.d.blocks.length ∧ g.val.2.1 = g_1.val.2.1) ∧ (true = true ∧ NilNil ∧ (0 : Nat) = 0 ∧ (1 :
 Nat) = 1 ∧ (0 : Nat) = 0 ∧ x.1.d.free.length = x.1.d.free.length ∧ g.val.2.2 = g_1.val.2.2) ∧ True) ∧ ((3 : TypeId) = 3 ∧ (1 : Nat) = 1 ∧ g.val.1 = g_1.val.1 ∧
 x.1.d.gens.length ≤ x.1.d.gens.length ∧ ∀ (i : Nat), i < x.1.d.gens.length → [AV.int .i64 (x.1.d.gens.getD i 0)] = [AV.int .i64 (x.1.d.gens.getD i 0)]) ∧ ((3 :
 TypeId) = 3 ∧ (1 : Nat) = 1 ∧ g.val.2.1 = g_1.val.2.1 ∧ x.1.d.blocks.length ≤ x.1.d.blocks.length ∧ ∀ (i : Nat), i < x.1.d.blocks.length → [AV.int .i64
 (x.1.d.blocks.getD i 0)] = [AV.int .i64 (x.1.d.blocks.getD i 0)]) ∧ ((3 : TypeId) = 3 ∧ (1 : Nat) = 1 ∧ g.val.2.2 = g_1.val.2.2 ∧ x.1.d.free.length ≤
 x.1.d.free.length ∧ ∀ (i : Nat), i < x.1.d.free.length → [AV.int .i64 (↑(x.1.d.free.getD i 0) : Int)] = [AV.int .i64 (↑(x.1.d.free.getD i 0) : Int)]) ∧ True) ∧
 ((Tr 1 ((0 : Int) = if liveD x.1.d x.2 then bAt x.1.d x.2.slot.toNat else 0) ∧ True) ∧ (deskO x.1).ob = deskB x.1 ∧ true = true ∧ True) ∧ True) (((0 : Int) ≤
 x.2.slot ∧ x.2.slot < (↑x.1.d.gens.length : Int)) ∧ 0 + x.2.slot.toNat < x.1.d.gens.length ∧ BC (!decide (x.1.d.gens.getD (0 + x.2.slot.toNat) 0 = x.2.gen))
 (Exx Unit fun y => Exx (Subtype (DeskCap x.1)) fun g_1 => ([0, 2, 3, 4].length = [Item.cells 60 [AV.int .i64 0, AV.int .i64 x.1.n, AV.int .i64 x.1.m, AV.sl 1 []
 0 1 0 x.1.d.gens.length g_1.val.1, AV.sl 2 [] 0 1 0 x.1.d.blocks.length g_1.val.2.1, AV.sl 3 [] 0 1 0 x.1.d.free.length g_1.val.2.2], Item.row 3 1 g_1.val.1
 x.1.d.gens.length fun i => [AV.int .i64 (x.1.d.gens.getD i 0)], Item.row 3 1 g_1.val.2.1 x.1.d.blocks.length fun i => [AV.int .i64 (x.1.d.blocks.getD i 0)],
 Item.row 3 1 g_1.val.2.2 x.1.d.free.length fun i => [AV.int .i64 (↑(x.1.d.free.getD i 0) : Int)]].length ∧ ((60 : TypeId) = 60 ∧ Tr 1 ((0 : Int) = 0) ∧ Tr 1
 (x.1.n = x.1.n) ∧ Tr 1 (x.1.m = x.1.m) ∧ (true = true ∧ NilNil ∧ (0 : Nat) = 0 ∧ (1 : Nat) = 1 ∧ (0 : Nat) = 0 ∧ x.1.d.gens.length = x.1.d.gens.length ∧ g.val.1
 = g_1.val.1) ∧ (true = true ∧ NilNil ∧ (0 : Nat) = 0 ∧ (1 : Nat) = 1 ∧ (0 : Nat) = 0 ∧ x.1.d.blocks.length = x.1.d.blocks.length ∧ g.val.2.1 = g_1.val.2.1) ∧
 (true = true ∧ NilNil ∧ (0 : Nat) = 0 ∧ (1 : Nat) = 1 ∧ (0 : Nat) = 0 ∧ x.1.d.free.length = x.1.d.free.length ∧ g.val.2.2 = g_1.val.2.2) ∧ True) ∧ ((3 : TypeId)
 = 3 ∧ (1 : Nat) = 1 ∧ g.val.1 = g_1.val.1 ∧ x.1.d.gens.length ≤ x.1.d.gens.length ∧ ∀ (i : Nat), i < x.1.d.gens.length → [AV.int .i64 (x.1.d.gens.getD i 0)] =
 [AV.int .i64 (x.1.d.gens.getD i 0)]) ∧ ((3 : TypeId) = 3 ∧ (1 : Nat) = 1 ∧ g.val.2.1 = g_1.val.2.1 ∧ x.1.d.blocks.length ≤ x.1.d.blocks.length ∧ ∀ (i : Nat), i
 < x.1.d.blocks.length → [AV.int .i64 (x.1.d.blocks.getD i 0)] = [AV.int .i64 (x.1.d.blocks.getD i 0)]) ∧ ((3 : TypeId) = 3 ∧ (1 : Nat) = 1 ∧ g.val.2.2 =
 g_1.val.2.2 ∧ x.1.d.free.length ≤ x.1.d.free.length ∧ ∀ (i : Nat), i < x.1.d.free.length → [AV.int .i64 (↑(x.1.d.free.getD i 0) : Int)] = [AV.int .i64
 (↑(x.1.d.free.getD i 0) : Int)]) ∧ True) ∧ ((Tr 1 ((0 : Int) = if liveD x.1.d x.2 then bAt x.1.d x.2.slot.toNat else 0) ∧ True) ∧ (deskO x.1).ob = deskB x.1 ∧
 true = true ∧ True) ∧ True) (((0 : Int) ≤ x.2.slot ∧ x.2.slot < (↑x.1.d.blocks.length : Int)) ∧ 0 + x.2.slot.toNat < x.1.d.blocks.length ∧ Exx Unit fun y => Exx
 (Subtype (DeskCap x.1)) fun g_1 => ([0, 2, 3, 4].length = [Item.cells 60 [AV.int .i64 0, AV.int .i64 x.1.n, AV.int .i64 x.1.m, AV.sl 1 [] 0 1 0
 x.1.d.gens.length g_1.val.1, AV.sl 2 [] 0 1 0 x.1.d.blocks.length g_1.val.2.1, AV.sl 3 [] 0 1 0 x.1.d.free.length g_1.val.2.2], Item.row 3 1 g_1.val.1
 x.1.d.gens.length fun i => [AV.int .i64 (x.1.d.gens.getD i 0)], Item.row 3 1 g_1.val.2.1 x.1.d.blocks.length fun i => [AV.int .i64 (x.1.d.blocks.getD i 0)],
 Item.row 3 1 g_1.val.2.2 x.1.d.free.length fun i => [AV.int .i64 (↑(x.1.d.free.getD i 0) : Int)]].length ∧ ((60 : TypeId) = 60 ∧ Tr 1 ((0 : Int) = 0) ∧ Tr 1
 (x.1.n = x.1.n) ∧ Tr 1 (x.1.m = x.1.m) ∧ (true = true ∧ NilNil ∧ (0 : Nat) = 0 ∧ (1 : Nat) = 1 ∧ (0 : Nat) = 0 ∧ x.1.d.gens.length = x.1.d.gens.length ∧ g.val.1
 = g_1.val.1) ∧ (true = true ∧ NilNil ∧ (0 : Nat) = 0 ∧ (1 : Nat) = 1 ∧ (0 : Nat) = 0 ∧ x.1.d.blocks.length = x.1.d.blocks.length ∧ g.val.2.1 = g_1.val.2.1) ∧
 (true = true ∧ NilNil ∧ (0 : Nat) = 0 ∧ (1 : Nat) = 1 ∧ (0 : Nat) = 0 ∧ x.1.d.free.length = x.1.d.free.length ∧ g.val.2.2 = g_1.val.2.2) ∧ True) ∧ ((3 : TypeId)
 = 3 ∧ (1 : Nat) = 1 ∧ g.val.1 = g_1.val.1 ∧ x.1.d.gens.length ≤ x.1.d.gens.length ∧ ∀ (i : Nat), i < x.1.d.gens.length → [AV.int .i64 (x.1.d.gens.getD i 0)] =
 [AV.int .i64 (x.1.d.gens.getD i 0)]) ∧ ((3 : TypeId) = 3 ∧ (1 : Nat) = 1 ∧ g.val.2.1 = g_1.val.2.1 ∧ x.1.d.blocks.length ≤ x.1.d.blocks.length ∧ ∀ (i : Nat), i
 < x.1.d.blocks.length → [AV.int .i64 (x.1.d.blocks.getD i 0)] = [AV.int .i64 (x.1.d.blocks.getD i 0)]) ∧ ((3 : TypeId) = 3 ∧ (1 : Nat) = 1 ∧ g.val.2.2 =
 g_1.val.2.2 ∧ x.1.d.free.length ≤ x.1.d.free.length ∧ ∀ (i : Nat), i < x.1.d.free.length → [AV.int .i64 (↑(x.1.d.free.getD i 0) : Int)] = [AV.int .i64
 (↑(x.1.d.free.getD i 0) : Int)]) ∧ True) ∧ ((Tr 1 (x.1.d.blocks.getD (0 + x.2.slot.toNat) 0 = if liveD x.1.d x.2 then bAt x.1.d x.2.slot.toNat else 0) ∧ True) ∧
 (deskO x.1).ob = deskB x.1 ∧ true = true ∧ True) ∧ True)))) = (fnVCo tb [] Tryd.f36 desk21ResolveC (fun _ => {}) (fun _ _ _ => none) (fun x => [(0, deskO x.1)]) (fun x y av H => [(0, [2, 3, 4], deskO x.1)])) := by kernel_rfl 

theorem desk21Resolve_ok : SpecOk Tryd.prog 36 (specOf desk21ResolveC) := by
  refine specOko mixed tb_ok SPok.nil Tryd.func36 (by decide) (deskGetC_ok fun _ => rfl) (an := (fun _ => {})) (σ := (fun _ _ _ => none)) (op := (fun x => [(0, deskO x.1)])) (cl := (fun x y av H => [(0, [2, 3, 4], deskO x.1)])) ?_
  rw [← desk21ResolveV]
  simp (maxSteps := 10000000) only [and_false, false_and, false_or, or_false, bOf_true, bOf_false, true_bOf, false_bOf, Exx, int_ite, merge_o, Tr_eq, true_and, and_true, exists_const, forall_const, implies_true, forall_eq, exists_eq, exists_eq', exists_eq_left, exists_eq_left', exists_eq_right, Prod.exists, Prod.forall, and_assoc, exists_and_left, BC_iff, Bool.not_eq_true', Bool.not_eq_false', decide_eq_true_eq, decide_eq_false_iff_not, I64, nat_cast_inj, Int.toNat_natCast, nats_iff, nats_iff', ints_iff, ints_iff', natss_iff, natss_iff', nilnil, litL_eq, str_inj, str_append, str_length, str_getD, str_take, lit1_iff, one_iff, two_iff, one_get, Nat.zero_add, Nat.sub_zero, Nat.reduceMul, Nat.reduceDiv, Nat.reduceAdd, Int.reduceToNat, Nat.not_lt_zero, if_false, if_true, Nat.le_refl, List.length_singleton, List.length_cons, List.length_nil, Bool.false_eq_true, not_true_eq_false, false_implies, not_false_eq_true, Prod.mk.injEq, deskB_open, deskB_close, deskB_inj, Subtype.forall, Subtype.exists, exists_prop, DeskCap]
  rintro q x ⟨h, hx⟩
  have hlb := h.lb
  intro c1 c2 c3 hc
  have no : ¬ liveD q.d x → q.d.gens.length ≤ c1 ∧ q.d.blocks.length ≤ c2 ∧ q.d.free.length ≤ c3 ∧ 0 = if liveD q.d x then bAt q.d x.slot.toNat else 0 := fun k => by rw [if_neg k]; exact ⟨hc.1, hc.2.1, hc.2.2, rfl⟩
  refine ⟨fun h1 => no fun k => by have := k.1; omega, fun h1 => ⟨fun h2 => no fun k => by have := k.2.1; omega, fun h2 => ⟨by omega, by omega, by omega, fun h3 => no fun k => h3 k.2.2.1, fun h3 => ⟨by omega, by omega, by omega, ?_⟩⟩⟩⟩
  by_cases hl : liveD q.d x
  · rw [if_pos hl]; exact ⟨hc.1, hc.2.1, hc.2.2, rfl⟩
  · rw [if_neg hl]
    exact ⟨hc.1, hc.2.1, hc.2.2, Classical.byContradiction fun k => hl ⟨by omega, by omega, h3, k⟩⟩

theorem desk21ReleaseV : (∀ (x : DeskQ × HandT), DeskW x.1 ∧ HandI x.2 ∧ liveD x.1.d x.2 → deskB x.1 = (deskO x.1).ob ∧ ∀ (g : Subtype (DeskCap x.1)), ((0 :
 Int) ≤ x.2.slot ∧ x.2.slot < (↑x.1.d.blocks.length : Int)) ∧ 0 + x.2.slot.toNat < x.1.d.blocks.length ∧ x.1.d.blocks.length = x.1.d.blocks.length ∧ BC (decide
 (x.2.gen < x.1.m)) ((0 + x.1.d.free.length ≤ x.1.d.free.length ∧ true = true ∧ ((1 : Nat) ≤ (1 : Nat) ∧ (1 : Nat) = 1) ∧ (1 + x.1.d.free.length ≤
 9223372036854775807 ∧ (1 + x.1.d.free.length) * 8 ≤ 140737488355328) ∧ ∀ (cap : Nat), 1 + x.1.d.free.length ≤ cap ∧ cap ≤ 9223372036854775807 → Exx Unit fun y
 => Exx (Subtype (DeskCap (DeskQ.mk x.1.n x.1.m (deskRel x.1.m x.1.d x.2.slot.toNat)))) fun g_1 => ([0, [Item.obj (deskB x.1), Item.fence].length + 0, [Item.obj
 (deskB x.1), Item.fence].length + 1, [Item.cells 60 [AV.int .i64 0, AV.int .i64 x.1.n, AV.int .i64 x.1.m, AV.sl ([Item.obj (deskB x.1), Item.fence].length + 0)
 [] 0 1 0 x.1.d.gens.length g.val.1, AV.sl ([Item.obj (deskB x.1), Item.fence].length + 1) [] 0 1 0 x.1.d.blocks.length g.val.2.1, AV.sl ([Item.obj (deskB x.1),
 Item.fence].length + 2) [] 0 1 0 x.1.d.free.length g.val.2.2], Item.fence, Item.gone, Item.gone, Item.row 3 1 g.val.2.2 x.1.d.free.length fun i => [AV.int .i64
 (↑(x.1.d.free.getD i 0) : Int)], Item.gone].length].length = [Item.cells 60 [AV.int .i64 0, AV.int .i64 (DeskQ.mk x.1.n x.1.m (deskRel x.1.m x.1.d
 x.2.slot.toNat)).n, AV.int .i64 (DeskQ.mk x.1.n x.1.m (deskRel x.1.m x.1.d x.2.slot.toNat)).m, AV.sl 1 [] 0 1 0 (DeskQ.mk x.1.n x.1.m (deskRel x.1.m x.1.d
 x.2.slot.toNat)).d.gens.length g_1.val.1, AV.sl 2 [] 0 1 0 (DeskQ.mk x.1.n x.1.m (deskRel x.1.m x.1.d x.2.slot.toNat)).d.blocks.length g_1.val.2.1, AV.sl 3 [] 0
 1 0 (DeskQ.mk x.1.n x.1.m (deskRel x.1.m x.1.d x.2.slot.toNat)).d.free.length g_1.val.2.2], Item.row 3 1 g_1.val.1 (DeskQ.mk x.1.n x.1.m (deskRel x.1.m x.1.d
 x.2.slot.toNat)).d.gens.length fun i => [AV.int .i64 ((DeskQ.mk x.1.n x.1.m (deskRel x.1.m x.1.d x.2.slot.toNat)).d.gens.getD i 0)], Item.row 3 1 g_1.val.2.1
 (DeskQ.mk x.1.n x.1.m (deskRel x.1.m x.1.d x.2.slot.toNat)).d.blocks.length fun i => [AV.int .i64 ((DeskQ.mk x.1.n x.1.m (deskRel x.1.m x.1.d
 x.2.slot.toNat)).d.blocks.getD i 0)], Item.row 3 1 g_1.val.2.2 (DeskQ.mk x.1.n x.1.m (deskRel x.1.m x.1.d x.2.slot.toNat)).d.free.length fun i => [AV.int .i64
 (↑((DeskQ.mk x.1.n x.1.m (deskRel x.1.m x.1.d x.2.slot.toNat)).d.free.getD i 0) : Int)]].length ∧ ((60 : TypeId) = 60 ∧ Tr 1 ((0 : Int) = 0) ∧ Tr 1 (x.1.n =
 (DeskQ.mk x.1.n x.1.m (deskRel x.1.m x.1.d x.2.slot.toNat)).n) ∧ Tr 1 (x.1.m = (DeskQ.mk x.1.n x.1.m (deskRel x.1.m x.1.d x.2.slot.toNat)).m) ∧ (true = true ∧
 NilNil ∧ (0 : Nat) = 0 ∧ (1 : Nat) = 1 ∧ (0 : Nat) = 0 ∧ x.1.d.gens.length = (DeskQ.mk x.1.n x.1.m (deskRel x.1.m x.1.d x.2.slot.toNat)).d.gens.length ∧ g.val.1
 = g_1.val.1) ∧ (true = true ∧ NilNil ∧ (0 : Nat) = 0 ∧ (1 : Nat) = 1 ∧ (0 : Nat) = 0 ∧ x.1.d.blocks.length = (DeskQ.mk x.1.n x.1.m (deskRel x.1.m x.1.d
 x.2.slot.toNat)).d.blocks.length ∧ g.val.2.1 = g_1.val.2.1) ∧ (true = true ∧ NilNil ∧ (0 : Nat) = 0 ∧ (1 : Nat) = 1 ∧ (0 : Nat) = 0 ∧ 1 + x.1.d.free.length =
 (DeskQ.mk x.1.n x.1.m (deskRel x.1.m x.1.d x.2.slot.toNat)).d.free.length ∧ cap = g_1.val.2.2) ∧ True) ∧ ((3 : TypeId) = 3 ∧ (1 : Nat) = 1 ∧ g.val.1 = g_1.val.1
 ∧ (DeskQ.mk x.1.n x.1.m (deskRel x.1.m x.1.d x.2.slot.toNat)).d.gens.length ≤ x.1.d.gens.length ∧ ∀ (i : Nat), i < (DeskQ.mk x.1.n x.1.m (deskRel x.1.m x.1.d
 x.2.slot.toNat)).d.gens.length → [AV.int .i64 (x.1.d.gens.getD i 0)] = [AV.int .i64 ((DeskQ.mk x.1.n x.1.m (deskRel x.1.m x.1.d x.2.slot.toNat)).d.gens.getD i
 0)]) ∧ ((3 : TypeId) = 3 ∧ (1 : Nat) = 1 ∧ g.val.2.1 = g_1.val.2.1 ∧ (DeskQ.mk x.1.n x.1.m (deskRel x.1.m x.1.d x.2.slot.toNat)).d.blocks.length ≤
 x.1.d.blocks.length ∧ ∀ (i : Nat), i < (DeskQ.mk x.1.n x.1.m (deskRel x.1.m x.1.d x.2.slot.toNat)).d.blocks.length → [AV.int .i64 (if i = 0 + x.2.slot.toNat
 then 0 else x.1.d.blocks.getD i 0)] = [AV.int .i64 ((DeskQ.mk x.1.n x.1.m (deskRel x.1.m x.1.d x.2.slot.toNat)).d.blocks.getD i 0)]) ∧ ((3 : TypeId) = 3 ∧ (1 :
 Nat) = 1 ∧ cap = g_1.val.2.2 ∧ (DeskQ.mk x.1.n x.1.m (deskRel x.1.m x.1.d x.2.slot.toNat)).d.free.length ≤ 1 + x.1.d.free.length ∧ ∀ (i : Nat), i < (DeskQ.mk
 x.1.n x.1.m (deskRel x.1.m x.1.d x.2.slot.toNat)).d.free.length → (if i < 1 then [AV.int .i64 (if i = 0 * 1 / 1 then x.2.slot else 0)] else [AV.int .i64
 (↑(x.1.d.free.getD (0 + (i - 1)) 0) : Int)]) = [AV.int .i64 (↑((DeskQ.mk x.1.n x.1.m (deskRel x.1.m x.1.d x.2.slot.toNat)).d.free.getD i 0) : Int)]) ∧ True) ∧
 (Tr 1 True ∧ (deskO (DeskQ.mk x.1.n x.1.m (deskRel x.1.m x.1.d x.2.slot.toNat))).ob = deskB (DeskQ.mk x.1.n x.1.m (deskRel x.1.m x.1.d x.2.slot.toNat)) ∧ true =
 true ∧ True) ∧ True) ∧ 0 + x.1.d.free.length ≤ x.1.d.free.length ∧ true = true ∧ ((1 : Nat) ≤ (1 : Nat) ∧ (1 : Nat) = 1) ∧ (1 + x.1.d.free.length ≤
 9223372036854775807 ∧ (1 + x.1.d.free.length) * 8 ≤ 140737488355328) ∧ ∀ (cap : Nat), 1 + x.1.d.free.length ≤ cap ∧ cap ≤ 9223372036854775807 → Exx Unit fun y
 => Exx (Subtype (DeskCap (DeskQ.mk x.1.n x.1.m (deskRel x.1.m x.1.d x.2.slot.toNat)))) fun g_1 => ([0, [Item.obj (deskB x.1), Item.fence].length + 0, [Item.obj
 (deskB x.1), Item.fence].length + 1, [Item.cells 60 [AV.int .i64 0, AV.int .i64 x.1.n, AV.int .i64 x.1.m, AV.sl ([Item.obj (deskB x.1), Item.fence].length + 0)
 [] 0 1 0 x.1.d.gens.length g.val.1, AV.sl ([Item.obj (deskB x.1), Item.fence].length + 1) [] 0 1 0 x.1.d.blocks.length g.val.2.1, AV.sl ([Item.obj (deskB x.1),
 Item.fence].length + 2) [] 0 1 0 x.1.d.free.length g.val.2.2], Item.fence, Item.gone, Item.gone, Item.row 3 1 g.val.2.2 x.1.d.free.length fun i => [AV.int .i64
 (↑(x.1.d.free.getD i 0) : Int)], Item.gone].length].length = [Item.cells 60 [AV.int .i64 0, AV.int .i64 (DeskQ.mk x.1.n x.1.m (deskRel x.1.m x.1.d
 x.2.slot.toNat)).n, AV.int .i64 (DeskQ.mk x.1.n x.1.m (deskRel x.1.m x.1.d x.2.slot.toNat)).m, AV.sl 1 [] 0 1 0 (DeskQ.mk x.1.n x.1.m (deskRel x.1.m x.1.d
 x.2.slot.toNat)).d.gens.length g_1.val.1, AV.sl 2 [] 0 1 0 (DeskQ.mk x.1.n x.1.m (deskRel x.1.m x.1.d x.2.slot.toNat)).d.blocks.length g_1.val.2.1, AV.sl 3 [] 0
 1 0 (DeskQ.mk x.1.n x.1.m (deskRel x.1.m x.1.d x.2.slot.toNat)).d.free.length g_1.val.2.2], Item.row 3 1 g_1.val.1 (DeskQ.mk x.1.n x.1.m (deskRel x.1.m x.1.d
 x.2.slot.toNat)).d.gens.length fun i => [AV.int .i64 ((DeskQ.mk x.1.n x.1.m (deskRel x.1.m x.1.d x.2.slot.toNat)).d.gens.getD i 0)], Item.row 3 1 g_1.val.2.1
 (DeskQ.mk x.1.n x.1.m (deskRel x.1.m x.1.d x.2.slot.toNat)).d.blocks.length fun i => [AV.int .i64 ((DeskQ.mk x.1.n x.1.m (deskRel x.1.m x.1.d
 x.2.slot.toNat)).d.blocks.getD i 0)], Item.row 3 1 g_1.val.2.2 (DeskQ.mk x.1.n x.1.m (deskRel x.1.m x.1.d x.2.slot.toNat)).d.free.length fun i => [AV.int .i64
 (↑((DeskQ.mk x.1.n x.1.m (deskRel x.1.m x.1.d x.2.slot.toNat)).d.free.getD i 0) : Int)]].length ∧ ((60 : TypeId) = 60 ∧ Tr 1 ((0 : Int) = 0) ∧ Tr 1 (x.1.n =
 (DeskQ.mk x.1.n x.1.m (deskRel x.1.m x.1.d x.2.slot.toNat)).n) ∧ Tr 1 (x.1.m = (DeskQ.mk x.1.n x.1.m (deskRel x.1.m x.1.d x.2.slot.toNat)).m) ∧ (true = true ∧
 NilNil ∧ (0 : Nat) = 0 ∧ (1 : Nat) = 1 ∧ (0 : Nat) = 0 ∧ x.1.d.gens.length = (DeskQ.mk x.1.n x.1.m (deskRel x.1.m x.1.d x.2.slot.toNat)).d.gens.length ∧ g.val.1
 = g_1.val.1) ∧ (true = true ∧ NilNil ∧ (0 : Nat) = 0 ∧ (1 : Nat) = 1 ∧ (0 : Nat) = 0 ∧ x.1.d.blocks.length = (DeskQ.mk x.1.n x.1.m (deskRel x.1.m x.1.d
 x.2.slot.toNat)).d.blocks.length ∧ g.val.2.1 = g_1.val.2.1) ∧ (true = true ∧ NilNil ∧ (0 : Nat) = 0 ∧ (1 : Nat) = 1 ∧ (0 : Nat) = 0 ∧ 1 + x.1.d.free.length =
 (DeskQ.mk x.1.n x.1.m (deskRel x.1.m x.1.d x.2.slot.toNat)).d.free.length ∧ cap = g_1.val.2.2) ∧ True) ∧ ((3 : TypeId) = 3 ∧ (1 : Nat) = 1 ∧ g.val.1 = g_1.val.1
 ∧ (DeskQ.mk x.1.n x.1.m (deskRel x.1.m x.1.d x.2.slot.toNat)).d.gens.length ≤ x.1.d.gens.length ∧ ∀ (i : Nat), i < (DeskQ.mk x.1.n x.1.m (deskRel x.1.m x.1.d
 x.2.slot.toNat)).d.gens.length → [AV.int .i64 (x.1.d.gens.getD i 0)] = [AV.int .i64 ((DeskQ.mk x.1.n x.1.m (deskRel x.1.m x.1.d x.2.slot.toNat)).d.gens.getD i
 0)]) ∧ ((3 : TypeId) = 3 ∧ (1 : Nat) = 1 ∧ g.val.2.1 = g_1.val.2.1 ∧ (DeskQ.mk x.1.n x.1.m (deskRel x.1.m x.1.d x.2.slot.toNat)).d.blocks.length ≤
 x.1.d.blocks.length ∧ ∀ (i : Nat), i < (DeskQ.mk x.1.n x.1.m (deskRel x.1.m x.1.d x.2.slot.toNat)).d.blocks.length → [AV.int .i64 (if i = 0 + x.2.slot.toNat
 then 0 else x.1.d.blocks.getD i 0)] = [AV.int .i64 ((DeskQ.mk x.1.n x.1.m (deskRel x.1.m x.1.d x.2.slot.toNat)).d.blocks.getD i 0)]) ∧ ((3 : TypeId) = 3 ∧ (1 :
 Nat) = 1 ∧ cap = g_1.val.2.2 ∧ (DeskQ.mk x.1.n x.1.m (deskRel x.1.m x.1.d x.2.slot.toNat)).d.free.length ≤ 1 + x.1.d.free.length ∧ ∀ (i : Nat), i < (DeskQ.mk
 x.1.n x.1.m (deskRel x.1.m x.1.d x.2.slot.toNat)).d.free.length → (if i < 1 then [AV.int .i64 (if i = 0 * 1 / 1 then x.2.slot else 0)] else [AV.int .i64
 (↑(x.1.d.free.getD (0 + (i - 1)) 0) : Int)]) = [AV.int .i64 (↑((DeskQ.mk x.1.n x.1.m (deskRel x.1.m x.1.d x.2.slot.toNat)).d.free.getD i 0) : Int)]) ∧ True) ∧
 (Tr 1 True ∧ (deskO (DeskQ.mk x.1.n x.1.m (deskRel x.1.m x.1.d x.2.slot.toNat))).ob = deskB (DeskQ.mk x.1.n x.1.m (deskRel x.1.m x.1.d x.2.slot.toNat)) ∧ true =
 true ∧ True) ∧ True) (Exx Unit fun y => Exx (Subtype (DeskCap (DeskQ.mk x.1.n x.1.m (deskRel x.1.m x.1.d x.2.slot.toNat)))) fun g_1 => ([0, [Item.obj (deskB
 x.1), Item.fence].length + 0, [Item.obj (deskB x.1), Item.fence].length + 1, [Item.obj (deskB x.1), Item.fence].length + 2].length = [Item.cells 60 [AV.int .i64
 0, AV.int .i64 (DeskQ.mk x.1.n x.1.m (deskRel x.1.m x.1.d x.2.slot.toNat)).n, AV.int .i64 (DeskQ.mk x.1.n x.1.m (deskRel x.1.m x.1.d x.2.slot.toNat)).m, AV.sl 1
 [] 0 1 0 (DeskQ.mk x.1.n x.1.m (deskRel x.1.m x.1.d x.2.slot.toNat)).d.gens.length g_1.val.1, AV.sl 2 [] 0 1 0 (DeskQ.mk x.1.n x.1.m (deskRel x.1.m x.1.d
 x.2.slot.toNat)).d.blocks.length g_1.val.2.1, AV.sl 3 [] 0 1 0 (DeskQ.mk x.1.n x.1.m (deskRel x.1.m x.1.d x.2.slot.toNat)).d.free.length g_1.val.2.2], Item.row
 3 1 g_1.val.1 (DeskQ.mk x.1.n x.1.m (deskRel x.1.m x.1.d x.2.slot.toNat)).d.gens.length fun i => [AV.int .i64 ((DeskQ.mk x.1.n x.1.m (deskRel x.1.m x.1.d
 x.2.slot.toNat)).d.gens.getD i 0)], Item.row 3 1 g_1.val.2.1 (DeskQ.mk x.1.n x.1.m (deskRel x.1.m x.1.d x.2.slot.toNat)).d.blocks.length fun i => [AV.int .i64
 ((DeskQ.mk x.1.n x.1.m (deskRel x.1.m x.1.d x.2.slot.toNat)).d.blocks.getD i 0)], Item.row 3 1 g_1.val.2.2 (DeskQ.mk x.1.n x.1.m (deskRel x.1.m x.1.d
 x.2.slot.toNat)).d.free.length fun i => [AV.int .i64 (↑((DeskQ.mk x.1.n x.1.m (deskRel x.1.m x.1.d x.2.slot.toNat)).d.free.getD i 0) : Int)]].length ∧ ((60 :
 TypeId) = 60 ∧ Tr 1 ((0 : Int) = 0) ∧ Tr 1 (x.1.n = (DeskQ.mk x.1.n x.1.m (deskRel x.1.m x.1.d x.2.slot.toNat)).n) ∧ Tr 1 (x.1.m = (DeskQ.mk x.1.n x.1.m
 (deskRel x.1.m x.1.d x.2.slot.toNat)).m) ∧ (true = true ∧ NilNil ∧ (0 : Nat) = 0 ∧ (1 : Nat) = 1 ∧ (0 : Nat) = 0 ∧ x.1.d.gens.length = (DeskQ.mk x.1.n x.1.m
 (deskRel x.1.m x.1.d x.2.slot.toNat)).d.gens.length ∧ g.val.1 = g_1.val.1) ∧ (true = true ∧ NilNil ∧ (0 : Nat) = 0 ∧ (1 : Nat) = 1 ∧ (0 : Nat) = 0 ∧
 x.1.d.blocks.length = (DeskQ.mk x.1.n x.1.m (deskRel x.1.m x.1.d x.2.slot.toNat)).d.blocks.length ∧ g.val.2.1 = g_1.val.2.1) ∧ (true = true ∧ NilNil ∧ (0 : Nat)
 = 0 ∧ (1 : Nat) = 1 ∧ (0 : Nat) = 0 ∧ x.1.d.free.length = (DeskQ.mk x.1.n x.1.m (deskRel x.1.m x.1.d x.2.slot.toNat)).d.free.length ∧ g.val.2.2 = g_1.val.2.2) ∧
 True) ∧ ((3 : TypeId) = 3 ∧ (1 : Nat) = 1 ∧ g.val.1 = g_1.val.1 ∧ (DeskQ.mk x.1.n x.1.m (deskRel x.1.m x.1.d x.2.slot.toNat)).d.gens.length ≤ x.1.d.gens.length
 ∧ ∀ (i : Nat), i < (DeskQ.mk x.1.n x.1.m (deskRel x.1.m x.1.d x.2.slot.toNat)).d.gens.length → [AV.int .i64 (x.1.d.gens.getD i 0)] = [AV.int .i64 ((DeskQ.mk
 x.1.n x.1.m (deskRel x.1.m x.1.d x.2.slot.toNat)).d.gens.getD i 0)]) ∧ ((3 : TypeId) = 3 ∧ (1 : Nat) = 1 ∧ g.val.2.1 = g_1.val.2.1 ∧ (DeskQ.mk x.1.n x.1.m
 (deskRel x.1.m x.1.d x.2.slot.toNat)).d.blocks.length ≤ x.1.d.blocks.length ∧ ∀ (i : Nat), i < (DeskQ.mk x.1.n x.1.m (deskRel x.1.m x.1.d
 x.2.slot.toNat)).d.blocks.length → [AV.int .i64 (if i = 0 + x.2.slot.toNat then 0 else x.1.d.blocks.getD i 0)] = [AV.int .i64 ((DeskQ.mk x.1.n x.1.m (deskRel
 x.1.m x.1.d x.2.slot.toNat)).d.blocks.getD i 0)]) ∧ ((3 : TypeId) = 3 ∧ (1 : Nat) = 1 ∧ g.val.2.2 = g_1.val.2.2 ∧ (DeskQ.mk x.1.n x.1.m (deskRel x.1.m x.1.d
 x.2.slot.toNat)).d.free.length ≤ x.1.d.free.length ∧ ∀ (i : Nat), i < (DeskQ.mk x.1.n x.1.m (deskRel x.1.m x.1.d x.2.slot.toNat)).d.free.length → [AV.int .i64
 (↑(x.1.d.free.getD i 0) : Int)] = [AV.int .i64 (↑((DeskQ.mk x.1.n x.1.m (deskRel x.1.m x.1.d x.2.slot.toNat)).d.free.getD i 0) : Int)]) ∧ True) ∧ (Tr 1 True ∧
 (deskO (DeskQ.mk x.1.n x.1.m (deskRel x.1.m x.1.d x.2.slot.toNat))).ob = deskB (DeskQ.mk x.1.n x.1.m (deskRel x.1.m x.1.d x.2.slot.toNat)) ∧ true = true ∧ True)
 ∧ True)) = (fnVCo tb [] Tryd.f37 desk21ReleaseC (fun x => { loose := [(1, [3]), (3, [0, 4])] }) (fun _ _ _ => none) (fun x => [(0, deskO x.1)]) (fun x y av H => deskCl 0 H ⟨x.1.n, x.1.m, deskRel x.1.m x.1.d x.2.slot.toNat⟩)) := by kernel_rfl 

theorem desk21Release_ok : SpecOk Tryd.prog 37 (specOf desk21ReleaseC) := by
  refine specOko mixed tb_ok SPok.nil Tryd.func37 (by decide) (deskSetC_ok fun _ => trivial) (an := (fun x => { loose := [(1, [3]), (3, [0, 4])] })) (σ := (fun _ _ _ => none)) (op := (fun x => [(0, deskO x.1)])) (cl := (fun x y av H => deskCl 0 H ⟨x.1.n, x.1.m, deskRel x.1.m x.1.d x.2.slot.toNat⟩)) ?_
  rw [← desk21ReleaseV]
  simp (maxSteps := 10000000) only [and_false, false_and, false_or, or_false, bOf_true, bOf_false, true_bOf, false_bOf, Exx, int_ite, merge_o, Tr_eq, true_and, and_true, exists_const, forall_const, implies_true, forall_eq, exists_eq, exists_eq', exists_eq_left, exists_eq_left', exists_eq_right, Prod.exists, Prod.forall, and_assoc, exists_and_left, BC_iff, Bool.not_eq_true', Bool.not_eq_false', decide_eq_true_eq, decide_eq_false_iff_not, I64, nat_cast_inj, Int.toNat_natCast, nats_iff, nats_iff', ints_iff, ints_iff', natss_iff, natss_iff', nilnil, litL_eq, str_inj, str_append, str_length, str_getD, str_take, lit1_iff, one_iff, two_iff, one_get, Nat.zero_add, Nat.sub_zero, Nat.reduceMul, Nat.reduceDiv, Nat.reduceAdd, Int.reduceToNat, Nat.not_lt_zero, if_false, if_true, Nat.le_refl, List.length_singleton, List.length_cons, List.length_nil, Bool.false_eq_true, not_true_eq_false, false_implies, not_false_eq_true, Prod.mk.injEq, deskB_open, deskB_close, deskB_inj, Subtype.forall, Subtype.exists, exists_prop, DeskCap]
  rintro q x ⟨h, hx, hl⟩ c1 c2 c3 hc
  have hlb := h.lb
  obtain ⟨l1, l2, l3, l4⟩ := hl
  have hlf := h.lf
  have e2 : (deskRel q.m q.d x.slot.toNat).blocks = q.d.blocks.set x.slot.toNat 0 := rfl
  have k1 : (deskRel q.m q.d x.slot.toNat).gens.length = q.d.gens.length := rfl
  have k2 : (deskRel q.m q.d x.slot.toNat).blocks.length = q.d.blocks.length := by rw [e2, List.length_set]
  refine ⟨by omega, by omega, by omega, fun hg => ?_, fun hg => ?_⟩
  · have e3 : (deskRel q.m q.d x.slot.toNat).free = x.slot.toNat :: q.d.free := by rw [deskRel, l3, if_pos hg]
    have k3 : (deskRel q.m q.d x.slot.toNat).free.length = 1 + q.d.free.length := by rw [e3, List.length_cons, Nat.add_comm]
    and_intros
    all_goals first
      | omega
      | (intro c hc2
         and_intros
         all_goals first
           | omega
           | (intro i hi; rfl)
           | (intro i hi; rw [e2, getD_setL (by omega)]; split <;> rfl)
           | (intro i hi; rw [e3]
              by_cases e : i = 0
              · rw [if_pos (by omega), if_pos e, e]
                have : x.slot = ((x.slot.toNat : Nat) : Int) := by omega
                rw [List.getD_cons_zero, ← this]
              · rw [if_neg (by omega)]
                obtain ⟨j, rfl⟩ : ∃ j, i = j + 1 := ⟨i - 1, by omega⟩
                rfl))
  · have e3 : (deskRel q.m q.d x.slot.toNat).free = q.d.free := by rw [deskRel, l3, if_neg hg]
    have k3 : (deskRel q.m q.d x.slot.toNat).free.length = q.d.free.length := by rw [e3]
    and_intros
    all_goals first
      | omega
      | (intro i hi; rfl)
      | (intro i hi; rw [e2, getD_setL (by omega)]; split <;> rfl)
      | (intro i hi; rw [e3])

def livesF (d : DeskT) : Nat → List HandT
  | 0 => []
  | k + 1 => livesF d k ++ (if bAt d k = 0 then [] else [⟨(k : Int), gAt d k⟩])
def livesL (d : DeskT) : List HandT := livesF d d.gens.length
def livesC : Ctr where
  X := DeskQ
  Y := Nat
  conv := true
  tau := ptrTau
  pre := DeskW
  args := fun _ => [.ptr 0 [] 0]
  heap := fun x => [deskI x]
  Q := fun x cap => (livesL x.d).length ≤ cap
  res := fun x cap => .sl 2 [] 0 2 0 (livesL x.d).length cap
  its := fun x _ => [deskI x]
  new := fun x cap => [handsR cap (livesL x.d)]
theorem livesC_ok : CtrOk livesC :=
  ⟨fun _ _ _ _ => (rfl : 1 = 1), fun _ _ _ _ => ⟨rfl, rfl⟩, fun x _ _ _ _ => ⟨⟨⟨trivial, trivial⟩, ⟨⟨fun _ _ => ⟨rfl, rfl, trivial⟩, trivial⟩, trivial⟩⟩, rfl⟩⟩
def slRen2 (av : AV) : Option Ren := match av with
  | .sl q _ _ _ _ _ _ => some [some 0, some 1, some q]
  | _ => some [some 0, some 1, none]
def livesLA (x : DeskQ) : LA := { T := Nat × Nat × Nat × Nat × Nat, F := fun t => frm 35 [(0, .ptr 0 [] 0), (3, .sl 5 [] 0 2 0 (livesF x.d t.1).length t.2.1), (4, i64 (t.1 : Nat))], H := fun t => [.cells 60 [i64 0, i64 x.n, i64 x.m, .sl 2 [] 0 1 0 x.d.gens.length t.2.2.1, .sl 3 [] 0 1 0 x.d.blocks.length t.2.2.2.1, .sl 4 [] 0 1 0 x.d.free.length t.2.2.2.2], .fence, rowI 3 .i64 t.2.2.1 x.d.gens, rowI 3 .i64 t.2.2.2.1 x.d.blocks, rowN 3 .i64 t.2.2.2.2 x.d.free, handsR t.2.1 (livesF x.d t.1)], ρ₁ := rowRenL 3 5, ρ₂ := rowRenL 3 5 }

theorem livesF_len (d : DeskT) : ∀ k, (livesF d k).length ≤ k
  | 0 => Nat.le_refl _
  | k + 1 => by
    have := livesF_len d k
    unfold livesF
    rw [List.length_append]
    split <;> simp <;> omega
theorem livesF_yes {d : DeskT} {k : Nat} (h : ¬ bAt d k = 0) : livesF d (k + 1) = livesF d k ++ [⟨(k : Int), gAt d k⟩] := by rw [livesF, if_neg h]
theorem livesF_no {d : DeskT} {k : Nat} (h : bAt d k = 0) : livesF d (k + 1) = livesF d k := by rw [livesF, if_pos h, List.append_nil]

theorem livesV : (∀ (x : DeskQ), DeskW x → deskB x = (deskO x).ob ∧ ∀ (g : Subtype (DeskCap x)), Exx (Nat × Nat × Nat × Nat × Nat → Prop) fun I => Exx (Nat ×
 Nat × Nat × Nat × Nat → Nat) fun m => (Exx (Nat × Nat × Nat × Nat × Nat) fun t => I t ∧ ((true = true ∧ NilNil ∧ (0 : Nat) = 0) ∧ Tr 2 (((livesF x.d t.1).length
 = 0 ∧ t.2.1 = 0) ∧ Tr 1 ((0 : Int) = (↑t.1 : Int)) ∧ Tr 30 True)) ∧ ((60 : TypeId) = 60 ∧ Tr 1 ((0 : Int) = 0) ∧ Tr 1 (x.n = x.n) ∧ Tr 1 (x.m = x.m) ∧ (true =
 true ∧ NilNil ∧ (0 : Nat) = 0 ∧ (1 : Nat) = 1 ∧ (0 : Nat) = 0 ∧ x.d.gens.length = x.d.gens.length ∧ g.val.1 = t.2.2.1) ∧ (true = true ∧ NilNil ∧ (0 : Nat) = 0 ∧
 (1 : Nat) = 1 ∧ (0 : Nat) = 0 ∧ x.d.blocks.length = x.d.blocks.length ∧ g.val.2.1 = t.2.2.2.1) ∧ (true = true ∧ NilNil ∧ (0 : Nat) = 0 ∧ (1 : Nat) = 1 ∧ (0 :
 Nat) = 0 ∧ x.d.free.length = x.d.free.length ∧ g.val.2.2 = t.2.2.2.2) ∧ True) ∧ true = true ∧ ((3 : TypeId) = 3 ∧ (1 : Nat) = 1 ∧ g.val.1 = t.2.2.1 ∧
 x.d.gens.length ≤ x.d.gens.length ∧ ∀ (i : Nat), i < x.d.gens.length → [AV.int .i64 (x.d.gens.getD i 0)] = [AV.int .i64 (x.d.gens.getD i 0)]) ∧ ((3 : TypeId) =
 3 ∧ (1 : Nat) = 1 ∧ g.val.2.1 = t.2.2.2.1 ∧ x.d.blocks.length ≤ x.d.blocks.length ∧ ∀ (i : Nat), i < x.d.blocks.length → [AV.int .i64 (x.d.blocks.getD i 0)] =
 [AV.int .i64 (x.d.blocks.getD i 0)]) ∧ ((3 : TypeId) = 3 ∧ (1 : Nat) = 1 ∧ g.val.2.2 = t.2.2.2.2 ∧ x.d.free.length ≤ x.d.free.length ∧ ∀ (i : Nat), i <
 x.d.free.length → [AV.int .i64 (↑(x.d.free.getD i 0) : Int)] = [AV.int .i64 (↑(x.d.free.getD i 0) : Int)]) ∧ (t.2.1 = 0 ∧ (livesF x.d t.1).length = 0) ∧ True) ∧
 ∀ (t : Nat × Nat × Nat × Nat × Nat), I t → BC (decide ((↑t.1 : Int) < (↑x.d.gens.length : Int))) (((0 : Int) ≤ (↑t.1 : Int) ∧ (↑t.1 : Int) < (↑x.d.blocks.length
 : Int)) ∧ 0 + (↑t.1 : Int).toNat < x.d.blocks.length ∧ BC (!decide (x.d.blocks.getD (0 + (↑t.1 : Int).toNat) 0 = (0 : Int))) (((0 : Int) ≤ (↑t.1 : Int) ∧ (↑t.1
 : Int) < (↑x.d.gens.length : Int)) ∧ 0 + (↑t.1 : Int).toNat < x.d.gens.length ∧ (0 : Nat) + (1 : Nat) ≤ (1 : Nat) ∧ true = true ∧ ((livesF x.d t.1).length ≤
 (livesF x.d t.1).length ∧ t.2.1 = t.2.1) ∧ ((livesF x.d t.1).length + 1 ≤ 9223372036854775807 ∧ ((livesF x.d t.1).length + 1) * 16 ≤ 140737488355328) ∧ ∀ (cap :
 Nat), (livesF x.d t.1).length + 1 ≤ cap ∧ cap ≤ 9223372036854775807 → I64 ((↑t.1 : Int) + 1) ∧ Exx (Nat × Nat × Nat × Nat × Nat) fun t' => (I t' ∧ m t' < m t) ∧
 ((true = true ∧ NilNil ∧ (0 : Nat) = 0) ∧ Tr 2 ((true = true ∧ NilNil ∧ (0 : Nat) = 0 ∧ (2 : Nat) = 2 ∧ (0 : Nat) = 0 ∧ (livesF x.d t.1).length + 1 = (livesF
 x.d t'.fst).length ∧ cap = t'.snd.1) ∧ Tr 1 ((↑t.1 : Int) + 1 = (↑t'.fst : Int)) ∧ Tr 30 True)) ∧ ((60 : TypeId) = 60 ∧ Tr 1 ((0 : Int) = 0) ∧ Tr 1 (x.n = x.n)
 ∧ Tr 1 (x.m = x.m) ∧ (true = true ∧ NilNil ∧ (0 : Nat) = 0 ∧ (1 : Nat) = 1 ∧ (0 : Nat) = 0 ∧ x.d.gens.length = x.d.gens.length ∧ t.2.2.1 = t'.snd.2.1) ∧ (true =
 true ∧ NilNil ∧ (0 : Nat) = 0 ∧ (1 : Nat) = 1 ∧ (0 : Nat) = 0 ∧ x.d.blocks.length = x.d.blocks.length ∧ t.2.2.2.1 = t'.snd.2.2.1) ∧ (true = true ∧ NilNil ∧ (0 :
 Nat) = 0 ∧ (1 : Nat) = 1 ∧ (0 : Nat) = 0 ∧ x.d.free.length = x.d.free.length ∧ t.2.2.2.2 = t'.snd.2.2.2) ∧ True) ∧ true = true ∧ ((3 : TypeId) = 3 ∧ (1 : Nat) =
 1 ∧ t.2.2.1 = t'.snd.2.1 ∧ x.d.gens.length ≤ x.d.gens.length ∧ ∀ (i : Nat), i < x.d.gens.length → [AV.int .i64 (x.d.gens.getD i 0)] = [AV.int .i64
 (x.d.gens.getD i 0)]) ∧ ((3 : TypeId) = 3 ∧ (1 : Nat) = 1 ∧ t.2.2.2.1 = t'.snd.2.2.1 ∧ x.d.blocks.length ≤ x.d.blocks.length ∧ ∀ (i : Nat), i <
 x.d.blocks.length → [AV.int .i64 (x.d.blocks.getD i 0)] = [AV.int .i64 (x.d.blocks.getD i 0)]) ∧ ((3 : TypeId) = 3 ∧ (1 : Nat) = 1 ∧ t.2.2.2.2 = t'.snd.2.2.2 ∧
 x.d.free.length ≤ x.d.free.length ∧ ∀ (i : Nat), i < x.d.free.length → [AV.int .i64 (↑(x.d.free.getD i 0) : Int)] = [AV.int .i64 (↑(x.d.free.getD i 0) : Int)])
 ∧ ((36 : TypeId) = 36 ∧ (2 : Nat) = 2 ∧ cap = t'.snd.1 ∧ (livesF x.d t'.fst).length ≤ (livesF x.d t.1).length + 1 ∧ ∀ (i : Nat), i < (livesF x.d t'.fst).length
 → (if i < (livesF x.d t.1).length then [AV.int .i64 ((livesF x.d t.1).getD i handZ).slot, AV.int .i64 ((livesF x.d t.1).getD i handZ).gen] else [AV.int .i64 (if
 0 + (i - (livesF x.d t.1).length) = 0 * 2 / 2 then (↑t.1 : Int) else 0), AV.int .i64 (if 0 + (i - (livesF x.d t.1).length) = 0 * 2 / 2 then x.d.gens.getD (0 +
 (↑t.1 : Int).toNat) 0 else 0)]) = [AV.int .i64 ((livesF x.d t'.fst).getD i handZ).slot, AV.int .i64 ((livesF x.d t'.fst).getD i handZ).gen]) ∧ True) (I64 ((↑t.1
 : Int) + 1) ∧ Exx (Nat × Nat × Nat × Nat × Nat) fun t' => (I t' ∧ m t' < m t) ∧ ((true = true ∧ NilNil ∧ (0 : Nat) = 0) ∧ Tr 2 ((true = true ∧ NilNil ∧ (0 :
 Nat) = 0 ∧ (2 : Nat) = 2 ∧ (0 : Nat) = 0 ∧ (livesF x.d t.1).length = (livesF x.d t'.fst).length ∧ t.2.1 = t'.snd.1) ∧ Tr 1 ((↑t.1 : Int) + 1 = (↑t'.fst : Int))
 ∧ Tr 30 True)) ∧ ((60 : TypeId) = 60 ∧ Tr 1 ((0 : Int) = 0) ∧ Tr 1 (x.n = x.n) ∧ Tr 1 (x.m = x.m) ∧ (true = true ∧ NilNil ∧ (0 : Nat) = 0 ∧ (1 : Nat) = 1 ∧ (0 :
 Nat) = 0 ∧ x.d.gens.length = x.d.gens.length ∧ t.2.2.1 = t'.snd.2.1) ∧ (true = true ∧ NilNil ∧ (0 : Nat) = 0 ∧ (1 : Nat) = 1 ∧ (0 : Nat) = 0 ∧ x.d.blocks.length
 = x.d.blocks.length ∧ t.2.2.2.1 = t'.snd.2.2.1) ∧ (true = true ∧ NilNil ∧ (0 : Nat) = 0 ∧ (1 : Nat) = 1 ∧ (0 : Nat) = 0 ∧ x.d.free.length = x.d.free.length ∧
 t.2.2.2.2 = t'.snd.2.2.2) ∧ True) ∧ true = true ∧ ((3 : TypeId) = 3 ∧ (1 : Nat) = 1 ∧ t.2.2.1 = t'.snd.2.1 ∧ x.d.gens.length ≤ x.d.gens.length ∧ ∀ (i : Nat), i
 < x.d.gens.length → [AV.int .i64 (x.d.gens.getD i 0)] = [AV.int .i64 (x.d.gens.getD i 0)]) ∧ ((3 : TypeId) = 3 ∧ (1 : Nat) = 1 ∧ t.2.2.2.1 = t'.snd.2.2.1 ∧
 x.d.blocks.length ≤ x.d.blocks.length ∧ ∀ (i : Nat), i < x.d.blocks.length → [AV.int .i64 (x.d.blocks.getD i 0)] = [AV.int .i64 (x.d.blocks.getD i 0)]) ∧ ((3 :
 TypeId) = 3 ∧ (1 : Nat) = 1 ∧ t.2.2.2.2 = t'.snd.2.2.2 ∧ x.d.free.length ≤ x.d.free.length ∧ ∀ (i : Nat), i < x.d.free.length → [AV.int .i64 (↑(x.d.free.getD i
 0) : Int)] = [AV.int .i64 (↑(x.d.free.getD i 0) : Int)]) ∧ ((36 : TypeId) = 36 ∧ (2 : Nat) = 2 ∧ t.2.1 = t'.snd.1 ∧ (livesF x.d t'.fst).length ≤ (livesF x.d
 t.1).length ∧ ∀ (i : Nat), i < (livesF x.d t'.fst).length → [AV.int .i64 ((livesF x.d t.1).getD i handZ).slot, AV.int .i64 ((livesF x.d t.1).getD i handZ).gen]
 = [AV.int .i64 ((livesF x.d t'.fst).getD i handZ).slot, AV.int .i64 ((livesF x.d t'.fst).getD i handZ).gen]) ∧ True)) (Exx Nat fun y => Exx (Subtype (DeskCap
 x)) fun g => ([0, 2, 3, 4].length = [Item.cells 60 [AV.int .i64 0, AV.int .i64 x.n, AV.int .i64 x.m, AV.sl 1 [] 0 1 0 x.d.gens.length g.val.1, AV.sl 2 [] 0 1 0
 x.d.blocks.length g.val.2.1, AV.sl 3 [] 0 1 0 x.d.free.length g.val.2.2], Item.row 3 1 g.val.1 x.d.gens.length fun i => [AV.int .i64 (x.d.gens.getD i 0)],
 Item.row 3 1 g.val.2.1 x.d.blocks.length fun i => [AV.int .i64 (x.d.blocks.getD i 0)], Item.row 3 1 g.val.2.2 x.d.free.length fun i => [AV.int .i64
 (↑(x.d.free.getD i 0) : Int)]].length ∧ ((60 : TypeId) = 60 ∧ Tr 1 ((0 : Int) = 0) ∧ Tr 1 (x.n = x.n) ∧ Tr 1 (x.m = x.m) ∧ (true = true ∧ NilNil ∧ (0 : Nat) = 0
 ∧ (1 : Nat) = 1 ∧ (0 : Nat) = 0 ∧ x.d.gens.length = x.d.gens.length ∧ t.2.2.1 = g.val.1) ∧ (true = true ∧ NilNil ∧ (0 : Nat) = 0 ∧ (1 : Nat) = 1 ∧ (0 : Nat) = 0
 ∧ x.d.blocks.length = x.d.blocks.length ∧ t.2.2.2.1 = g.val.2.1) ∧ (true = true ∧ NilNil ∧ (0 : Nat) = 0 ∧ (1 : Nat) = 1 ∧ (0 : Nat) = 0 ∧ x.d.free.length =
 x.d.free.length ∧ t.2.2.2.2 = g.val.2.2) ∧ True) ∧ ((3 : TypeId) = 3 ∧ (1 : Nat) = 1 ∧ t.2.2.1 = g.val.1 ∧ x.d.gens.length ≤ x.d.gens.length ∧ ∀ (i : Nat), i <
 x.d.gens.length → [AV.int .i64 (x.d.gens.getD i 0)] = [AV.int .i64 (x.d.gens.getD i 0)]) ∧ ((3 : TypeId) = 3 ∧ (1 : Nat) = 1 ∧ t.2.2.2.1 = g.val.2.1 ∧
 x.d.blocks.length ≤ x.d.blocks.length ∧ ∀ (i : Nat), i < x.d.blocks.length → [AV.int .i64 (x.d.blocks.getD i 0)] = [AV.int .i64 (x.d.blocks.getD i 0)]) ∧ ((3 :
 TypeId) = 3 ∧ (1 : Nat) = 1 ∧ t.2.2.2.2 = g.val.2.2 ∧ x.d.free.length ≤ x.d.free.length ∧ ∀ (i : Nat), i < x.d.free.length → [AV.int .i64 (↑(x.d.free.getD i 0)
 : Int)] = [AV.int .i64 (↑(x.d.free.getD i 0) : Int)]) ∧ True) ∧ (((true = true ∧ NilNil ∧ (0 : Nat) = 0 ∧ (2 : Nat) = 2 ∧ (0 : Nat) = 0 ∧ (livesF x.d
 t.1).length = (livesL x.d).length ∧ t.2.1 = y) ∧ True) ∧ (deskO x).ob = deskB x ∧ true = true ∧ ((36 : TypeId) = 36 ∧ (2 : Nat) = 2 ∧ t.2.1 = y ∧ (livesL
 x.d).length ≤ (livesF x.d t.1).length ∧ ∀ (i : Nat), i < (livesL x.d).length → [AV.int .i64 ((livesF x.d t.1).getD i handZ).slot, AV.int .i64 ((livesF x.d
 t.1).getD i handZ).gen] = [AV.int .i64 ((livesL x.d).getD i handZ).slot, AV.int .i64 ((livesL x.d).getD i handZ).gen]) ∧ True) ∧ (livesL x.d).length ≤ y)) = (fnVCo tb [] Tryd.f45 livesC (fun x => { loops := [(3, livesLA x)] }) (fun _ av _ => slRen2 av) (fun x => [(0, deskO x)]) (fun x y av H => [(0, [2, 3, 4], deskO x)])) := by kernel_rfl 

theorem lives_ok : SpecOk Tryd.prog 45 (specOf livesC) := by
  refine specOko mixed tb_ok SPok.nil Tryd.func45 (by decide) livesC_ok (an := (fun x => { loops := [(3, livesLA x)] })) (σ := (fun _ av _ => slRen2 av)) (op := (fun x => [(0, deskO x)])) (cl := (fun x y av H => [(0, [2, 3, 4], deskO x)])) ?_
  rw [← livesV]
  simp (maxSteps := 10000000) only [and_false, false_and, false_or, or_false, bOf_true, bOf_false, true_bOf, false_bOf, Exx, int_ite, merge_o, Tr_eq, true_and, and_true, exists_const, forall_const, implies_true, forall_eq, exists_eq, exists_eq', exists_eq_left, exists_eq_left', exists_eq_right, Prod.exists, Prod.forall, and_assoc, exists_and_left, BC_iff, Bool.not_eq_true', Bool.not_eq_false', decide_eq_true_eq, decide_eq_false_iff_not, I64, nat_cast_inj, Int.toNat_natCast, nats_iff, nats_iff', ints_iff, ints_iff', natss_iff, natss_iff', nilnil, litL_eq, str_inj, str_append, str_length, str_getD, str_take, lit1_iff, one_iff, two_iff, one_get, Nat.zero_add, Nat.sub_zero, Nat.reduceMul, Nat.reduceDiv, Nat.reduceAdd, Int.reduceToNat, Nat.not_lt_zero, if_false, if_true, Nat.le_refl, List.length_singleton, List.length_cons, List.length_nil, Bool.false_eq_true, not_true_eq_false, false_implies, not_false_eq_true, Prod.mk.injEq, deskB_open, deskB_close, deskB_inj, Subtype.forall, Subtype.exists, exists_prop, DeskCap]
  intro q h c1 c2 c3 hc
  have hln := h.ln
  have hlb := h.lb
  refine ⟨fun t => t.1 ≤ q.d.gens.length ∧ (livesF q.d t.1).length ≤ t.2.1 ∧ q.d.gens.length ≤ t.2.2.1 ∧ q.d.blocks.length ≤ t.2.2.2.1 ∧ q.d.free.length ≤ t.2.2.2.2, ⟨0, 0, c1, c2, c3, ⟨Nat.zero_le _, Nat.le_refl _, hc⟩, rfl, rfl, rfl, rfl, rfl, rfl, rfl, rfl, rfl, rfl, rfl⟩, fun t => q.d.gens.length - t.1, fun k c a1 a2 a3 hI => ?_⟩
  obtain ⟨i1, i2, i3⟩ := hI
  simp only at i1 i2 i3
  have hlk := livesF_len q.d k
  refine ⟨fun hlt => ⟨by omega, by omega, by omega, fun hnz => ⟨by omega, by omega, by omega, by omega, by omega, fun cap hcap => ⟨by omega, by omega, k + 1, cap, a1, a2, a3, ⟨by simp only; omega, ?_, i3⟩, by simp only; omega, ?_, rfl, by omega, rfl, rfl, rfl, rfl, rfl, rfl, rfl, ?_, fun i hi => ?_⟩⟩, fun hz => ⟨by omega, by omega, k + 1, c, a1, a2, a3, ⟨by simp only; omega, ?_, i3⟩, by simp only; omega, ?_, rfl, by omega, rfl, rfl, rfl, rfl, rfl, rfl, rfl, ?_, fun i hi => ?_⟩⟩, fun hge => ?_⟩
  · simp only; rw [livesF_yes hnz]; simpa using hcap.1
  · rw [livesF_yes hnz]; simp
  · rw [livesF_yes hnz]; simp
  · rw [livesF_yes hnz] at hi ⊢
    rw [List.length_append, List.length_singleton] at hi
    by_cases e : i < (livesF q.d k).length
    · rw [if_pos e, getD_append, if_pos e]
    · have e2 : i - (livesF q.d k).length = 0 := by omega
      rw [if_neg e, getD_append, if_neg e, e2]; rfl
  · simp only; rw [livesF_no hz]; exact i2
  · rw [livesF_no hz]
  · rw [livesF_no hz]; exact Nat.le_refl _
  · rw [livesF_no hz]
  · have e : k = q.d.gens.length := by omega
    subst e
    exact ⟨rfl, Nat.le_refl _, fun i hi => rfl, i3.1, i3.2.1, i3.2.2, i2⟩

def actH (q : DeskQ) (a : Act21) : HandT := if a.live = true ∧ livesL q.d ≠ [] then (livesL q.d).getD (a.h.slot % ((livesL q.d).length : Int)).toNat handZ else a.h
def handleC : Ctr := deskGetC Act21 (fun x => Act21I x.2) (fun x => [.agg (act21V x.2)]) (fun x => handA (actH x.1 x.2))

theorem handleV : (∀ (x : DeskQ × Act21), DeskW x.1 ∧ Act21I x.2 → Exx DeskQ fun x_1 => (((true = true ∧ NilNil ∧ (0 : Nat) = 0) ∧ True) ∧ true = true ∧ deskB
 x.1 = deskB x_1 ∧ True) ∧ DeskW x_1 ∧ ∀ (y : Nat), (livesL x_1.d).length ≤ y → BC (!x.2.live) (Exx Unit fun y => (((Tr 1 (x.2.h.slot = (actH x.1 x.2).slot) ∧ Tr
 1 (x.2.h.gen = (actH x.1 x.2).gen) ∧ True) ∧ True) ∧ deskB x_1 = deskB x.1 ∧ true = true ∧ True) ∧ True) (BC (decide ((↑(livesL x_1.d).length : Int) = (0 :
 Int))) (Exx Unit fun y => (((Tr 1 (x.2.h.slot = (actH x.1 x.2).slot) ∧ Tr 1 (x.2.h.gen = (actH x.1 x.2).gen) ∧ True) ∧ True) ∧ deskB x_1 = deskB x.1 ∧ true =
 true ∧ True) ∧ True) (Exx (Int × Int) fun x_2 => ((Tr 1 (x.2.h.slot = x_2.1) ∧ Tr 1 ((↑(livesL x_1.d).length : Int) = x_2.2) ∧ True) ∧ true = true ∧ True) ∧
 (I64 x_2.1 ∧ (1 : Int) ≤ x_2.2 ∧ x_2.2 ≤ (1000000 : Int)) ∧ ∀ (y : Unit), True → ((0 : Int) ≤ x_2.1 % x_2.2 ∧ x_2.1 % x_2.2 < (↑(livesL x_1.d).length : Int)) ∧
 0 + (x_2.1 % x_2.2).toNat < (livesL x_1.d).length ∧ Exx Unit fun y => (((Tr 1 (((livesL x_1.d).getD (0 + (x_2.1 % x_2.2).toNat) handZ).slot = (actH x.1
 x.2).slot) ∧ Tr 1 (((livesL x_1.d).getD (0 + (x_2.1 % x_2.2).toNat) handZ).gen = (actH x.1 x.2).gen) ∧ True) ∧ True) ∧ deskB x_1 = deskB x.1 ∧ true = true ∧
 True) ∧ True))) = (fnVCo tb [(14, specOf restC), (45, specOf livesC)] Tryd.f33 handleC (fun _ => {}) (fun _ _ _ => none) (fun _ => []) (fun _ _ _ _ => [])) := by kernel_rfl 

theorem handle_ok : SpecOk Tryd.prog 33 (specOf handleC) := by
  refine specOko mixed tb_ok (SPok.cons rest_ok (SPok.cons lives_ok SPok.nil)) Tryd.func33 (by decide) (deskGetC_ok fun _ => ⟨rfl, rfl, trivial⟩) (an := (fun _ => {})) (σ := (fun _ _ _ => none)) (op := (fun _ => [])) (cl := (fun _ _ _ _ => [])) ?_
  rw [← handleV]
  simp (maxSteps := 10000000) only [and_false, false_and, false_or, or_false, bOf_true, bOf_false, true_bOf, false_bOf, Exx, int_ite, merge_o, Tr_eq, true_and, and_true, exists_const, forall_const, implies_true, forall_eq, exists_eq, exists_eq', exists_eq_left, exists_eq_left', exists_eq_right, Prod.exists, Prod.forall, and_assoc, exists_and_left, BC_iff, Bool.not_eq_true', Bool.not_eq_false', decide_eq_true_eq, decide_eq_false_iff_not, I64, nat_cast_inj, Int.toNat_natCast, nats_iff, nats_iff', ints_iff, ints_iff', natss_iff, natss_iff', nilnil, litL_eq, str_inj, str_append, str_length, str_getD, str_take, lit1_iff, one_iff, two_iff, one_get, Nat.zero_add, Nat.sub_zero, Nat.reduceMul, Nat.reduceDiv, Nat.reduceAdd, Int.reduceToNat, Nat.not_lt_zero, if_false, if_true, Nat.le_refl, List.length_singleton, List.length_cons, List.length_nil, Bool.false_eq_true, not_true_eq_false, false_implies, not_false_eq_true, Prod.mk.injEq, deskB_open, deskB_close, deskB_inj]
  rintro q a ⟨h, ha⟩
  have hln := h.ln
  have hlv := livesF_len q.d q.d.gens.length
  have hll : (livesL q.d).length ≤ 2000 := Nat.le_trans hlv hln
  refine ⟨h, fun c hc => ⟨fun hl => ?_, fun hl => ⟨fun h0 => ?_, fun h0 => ?_⟩⟩⟩
  · rw [actH, if_neg (fun k => by rw [hl] at k; cases k.1)]; exact ⟨rfl, rfl⟩
  · have e : livesL q.d = [] := List.eq_nil_of_length_eq_zero (by omega)
    rw [actH, if_neg (fun k => k.2 e)]; exact ⟨rfl, rfl⟩
  · have e : livesL q.d ≠ [] := fun e => h0 (by rw [e]; rfl)
    have h1 : 0 ≤ a.h.slot % ((livesL q.d).length : Int) := Int.emod_nonneg _ (by omega)
    have h2 : a.h.slot % ((livesL q.d).length : Int) < ((livesL q.d).length : Int) := Int.emod_lt_of_pos _ (by omega)
    rw [actH, if_pos ⟨hl, e⟩]
    exact ⟨ha.2.2.1.1, ha.2.2.1.2, by omega, by omega, h1, h2, by omega, rfl, rfl⟩

theorem livesF_I {q : DeskQ} (h : DeskW q) : ∀ k, k ≤ 2000 → ∀ x ∈ livesF q.d k, HandI x
  | 0, _, x, hx => by cases hx
  | k + 1, hk, x, hx => by
    unfold livesF at hx
    rcases List.mem_append.1 hx with k1 | k1
    · exact livesF_I h k (by omega) x k1
    · split at k1
      · cases k1
      · rw [List.mem_singleton] at k1
        have := getD_I h.g (by omega) k
        subst k1
        exact handI_of ⟨by omega, by omega⟩ ⟨by show -9223372036854775808 ≤ q.d.gens.getD k 0; omega, by show q.d.gens.getD k 0 ≤ 9223372036854775807; omega⟩
theorem actH_I {q : DeskQ} (h : DeskW q) {a : Act21} (ha : Act21I a) : HandI (actH q a) := by
  unfold actH
  split
  · exact getD_mem (p := HandI) (fun x hx => livesF_I h _ h.ln x hx) (handI_of I64_0 I64_0) _
  · exact ha.2.2
abbrev DoS : Type := StoreT × TickT × DeskQ
structure DoI (x : DoS) : Prop where
  d : Desk 100 x.1 x.2.1 x.2.2.d
  n : x.2.1.slots = x.2.2.n
  m : x.2.1.gens = x.2.2.m
  le : x.2.1.slots ≤ 42
theorem DoI.w {x : DoS} (h : DoI x) : DeskW x.2.2 := by
  have T := h.d.inv
  have hl := T.len
  have hg := T.ok.1.2.2.2.2
  have hn := h.n
  have hm := h.m
  have hs := T.ok.1.2.2.1
  refine ⟨⟨by omega, by omega⟩, ⟨by omega, by omega⟩, T.lenb, by omega, ?_, fun y hy => ?_, fun y hy => ?_, fun a ha => (T.fok a ha).1⟩
  · have := nodup_len (l := x.2.2.d.free.map (fun n : Nat => (n : Int))) (m := (List.range x.2.2.d.gens.length).map (fun n : Nat => (n : Int))) (by
      rw [List.Nodup, List.pairwise_map]
      exact List.Pairwise.imp (R := (· ≠ ·)) (fun {a b} hab e => hab (Int.ofNat_inj.1 e)) T.fnd) (fun a ha => by
        obtain ⟨b, hb, rfl⟩ := List.mem_map.1 ha
        exact List.mem_map.2 ⟨b, List.mem_range.2 (T.fok b hb).1, rfl⟩)
    simp only [List.length_map, List.length_range] at this
    omega
  · obtain ⟨i, hi, rfl⟩ := List.mem_iff_getElem.1 hy
    have := T.gok i hi
    rw [gAt, List.getD_eq_getElem?_getD, List.getElem?_eq_getElem hi] at this
    simp only [Option.getD_some] at this
    omega
  · obtain ⟨i, hi, rfl⟩ := List.mem_iff_getElem.1 hy
    have hlb := T.lenb
    have := T.bok i (by omega)
    rw [bAt, List.getD_eq_getElem?_getD, List.getElem?_eq_getElem hi] at this
    simp only [Option.getD_some] at this
    omega
def doTau (args : List AV) (H : AH) : List Nat := match args with
  | .ptr p _ _ :: _ :: .ptr q _ _ :: _ => match H[p]? with
    | some (.cells _ (.ptr d _ _ :: .ptr a _ _ :: _)) => [p, d, a, q]
    | _ => [p]
  | _ => []
def doC : Ctr where
  X := DoS × Act21
  Y := StoreT × TickT × DeskT
  conv := true
  tau := doTau
  pre := fun x => DoI x.1 ∧ Act21I x.2
  args := fun x => [.ptr 0 [] 0, tickA x.1.2.1, .ptr 3 [] 0, .agg (act21V x.2)]
  heap := fun x => storeFam x.1.1 ++ [deskI x.1.2.2]
  Q := fun x y => DoI (y.1, y.2.1, ⟨x.1.2.2.n, x.1.2.2.m, y.2.2⟩)
  res := fun x y => .tup [tickA y.2.1, .bool true]
  its := fun x y => storeFam y.1 ++ [deskI ⟨x.1.2.2.n, x.1.2.2.m, y.2.2⟩]
  new := fun _ _ => []
theorem doC_ok : CtrOk doC :=
  ⟨fun _ _ _ _ => (rfl : 4 = 4), fun _ _ _ _ => ⟨rfl, rfl⟩, fun x y _ _ _ => ⟨⟨⟨⟨rfl, rfl, trivial⟩, trivial, trivial, trivial, trivial⟩, trivial⟩, ⟨rfl, rfl, rfl, rfl, rfl, rfl, trivial⟩, rfl, trivial⟩⟩

theorem iss_no {s : StoreT} {t : TickT} {a : Int} (h : ¬ issE s t a = 0) : issT s t a = tickZ ∧ issH s t a = handZ := ⟨by rw [issT, if_neg h], by rw [issH, if_neg h]⟩
theorem live_zero {d : DeskT} {h : HandT} : ((if liveD d h then bAt d h.slot.toNat else 0) = 0) ↔ ¬ liveD d h := by
  by_cases k : liveD d h
  · rw [if_pos k]; exact ⟨fun q => absurd q k.2.2.2, fun q => absurd k q⟩
  · rw [if_neg k]; exact ⟨fun _ => k, fun _ => rfl⟩

theorem doV : (∀ (x : DoS × Act21), DoI x.1 ∧ Act21I x.2 → Exx (DeskQ × Act21) fun x_1 => (((true = true ∧ NilNil ∧ (0 : Nat) = 0) ∧ (Tr 1 (x.2.kind =
 x_1.2.kind) ∧ Tr 1 (x.2.block = x_1.2.block) ∧ Tr 1 (x.2.h.slot = x_1.2.h.slot) ∧ Tr 1 (x.2.h.gen = x_1.2.h.gen) ∧ x.2.live = x_1.2.live ∧ True) ∧ True) ∧ true
 = true ∧ deskB x.1.2.2 = deskB x_1.1 ∧ True) ∧ (DeskW x_1.1 ∧ Act21I x_1.2) ∧ ∀ (y : Unit), True → Exx (Int × Int) fun x_2 => ((Tr 1 (x.2.kind = x_2.1) ∧ Tr 1
 ((4 : Int) = x_2.2) ∧ True) ∧ true = true ∧ True) ∧ (I64 x_2.1 ∧ (1 : Int) ≤ x_2.2 ∧ x_2.2 ≤ (1000000 : Int)) ∧ ∀ (y : Unit), True → BC (decide (x_2.1 % x_2.2 =
 (0 : Int))) (Exx (StoreT × TickT × Int) fun x_3 => (((true = true ∧ NilNil ∧ (0 : Nat) = 0) ∧ (Tr 1 (x.1.2.1.blocks = x_3.2.1.blocks) ∧ Tr 1 (x.1.2.1.slots =
 x_3.2.1.slots) ∧ Tr 1 (x.1.2.1.gens = x_3.2.1.gens) ∧ Tr 1 (x.1.2.1.top = x_3.2.1.top) ∧ Tr 1 (x.1.2.1.high = x_3.2.1.high) ∧ Tr 1 (x.1.2.1.free = x_3.2.1.free)
 ∧ True) ∧ Tr 1 (x.2.block = x_3.2.2) ∧ True) ∧ true = true ∧ ((105 : TypeId) = 105 ∧ (true = true ∧ NilNil ∧ (0 : Nat) = 0) ∧ (true = true ∧ NilNil ∧ (0 : Nat)
 = 0) ∧ True) ∧ devB x.1.1.ws = devB x_3.1.ws ∧ allocB x.1.1.a = allocB x_3.1.a ∧ True) ∧ (StoreW x_3.1 ∧ TickI x_3.2.1 ∧ I64 x_3.2.2) ∧ ∀ (y : Unit), True → Exx
 Int fun x_4 => ((Tr 1 (x.2.block = x_4) ∧ True) ∧ true = true ∧ True) ∧ (-9223372036854775808 ≤ x_4 ∧ x_4 ≤ (9223372036854775807 : Int)) ∧ ∀ (y : Unit), True →
 BC (!decide ((2 : Int) ≤ x_4 ∧ x_4 ≤ (3071 : Int))) (BC (decide (issE x_3.1 x_3.2.1 x_3.2.2 = (2 : Int))) (Tr 2 True ∧ Tr 2 True ∧ ∀ (b : Bool), (b = true ↔
 (issH x_3.1 x_3.2.1 x_3.2.2).slot = (0 : Int) ∧ (issH x_3.1 x_3.2.1 x_3.2.2).gen = (0 : Int) ∧ True) → BC b ((Tr 3 True ∧ Tr 3 True) ∧ (Tr 3 True ∧ Tr 3 True) ∧
 ∀ (b : Bool), (b = true ↔ ((issT x_3.1 x_3.2.1 x_3.2.2).blocks = (0 : Int) ∧ (issT x_3.1 x_3.2.1 x_3.2.2).slots = (0 : Int) ∧ (issT x_3.1 x_3.2.1 x_3.2.2).gens
 = (0 : Int) ∧ True) ∧ (issT x_3.1 x_3.2.1 x_3.2.2).top = (0 : Int) ∧ (issT x_3.1 x_3.2.1 x_3.2.2).high = (0 : Int) ∧ (issT x_3.1 x_3.2.1 x_3.2.2).free = (0 :
 Int) ∧ True) → Exx (StoreT × TickT × DeskT) fun y => ((((Tr 1 (x.1.2.1.blocks = y.2.1.blocks) ∧ Tr 1 (x.1.2.1.slots = y.2.1.slots) ∧ Tr 1 (x.1.2.1.gens =
 y.2.1.gens) ∧ Tr 1 (x.1.2.1.top = y.2.1.top) ∧ Tr 1 (x.1.2.1.high = y.2.1.high) ∧ Tr 1 (x.1.2.1.free = y.2.1.free) ∧ True) ∧ b = true ∧ True) ∧ True) ∧ ((105 :
 TypeId) = 105 ∧ (true = true ∧ NilNil ∧ (0 : Nat) = 0) ∧ (true = true ∧ NilNil ∧ (0 : Nat) = 0) ∧ True) ∧ devB (issS x_3.1 x_3.2.1 x_3.2.2).ws = devB y.1.ws ∧
 allocB (issS x_3.1 x_3.2.1 x_3.2.2).a = allocB y.1.a ∧ deskB x_1.1 = deskB (DeskQ.mk x.1.2.2.n x.1.2.2.m y.2.2) ∧ true = true ∧ True) ∧ DoI (y.1, y.2.1,
 DeskQ.mk x.1.2.2.n x.1.2.2.m y.2.2)) (Exx (StoreT × TickT × DeskT) fun y => ((((Tr 1 (x.1.2.1.blocks = y.2.1.blocks) ∧ Tr 1 (x.1.2.1.slots = y.2.1.slots) ∧ Tr 1
 (x.1.2.1.gens = y.2.1.gens) ∧ Tr 1 (x.1.2.1.top = y.2.1.top) ∧ Tr 1 (x.1.2.1.high = y.2.1.high) ∧ Tr 1 (x.1.2.1.free = y.2.1.free) ∧ True) ∧ false = true ∧
 True) ∧ True) ∧ ((105 : TypeId) = 105 ∧ (true = true ∧ NilNil ∧ (0 : Nat) = 0) ∧ (true = true ∧ NilNil ∧ (0 : Nat) = 0) ∧ True) ∧ devB (issS x_3.1 x_3.2.1
 x_3.2.2).ws = devB y.1.ws ∧ allocB (issS x_3.1 x_3.2.1 x_3.2.2).a = allocB y.1.a ∧ deskB x_1.1 = deskB (DeskQ.mk x.1.2.2.n x.1.2.2.m y.2.2) ∧ true = true ∧
 True) ∧ DoI (y.1, y.2.1, DeskQ.mk x.1.2.2.n x.1.2.2.m y.2.2))) (Exx (StoreT × TickT × DeskT) fun y => ((((Tr 1 (x.1.2.1.blocks = y.2.1.blocks) ∧ Tr 1
 (x.1.2.1.slots = y.2.1.slots) ∧ Tr 1 (x.1.2.1.gens = y.2.1.gens) ∧ Tr 1 (x.1.2.1.top = y.2.1.top) ∧ Tr 1 (x.1.2.1.high = y.2.1.high) ∧ Tr 1 (x.1.2.1.free =
 y.2.1.free) ∧ True) ∧ false = true ∧ True) ∧ True) ∧ ((105 : TypeId) = 105 ∧ (true = true ∧ NilNil ∧ (0 : Nat) = 0) ∧ (true = true ∧ NilNil ∧ (0 : Nat) = 0) ∧
 True) ∧ devB (issS x_3.1 x_3.2.1 x_3.2.2).ws = devB y.1.ws ∧ allocB (issS x_3.1 x_3.2.1 x_3.2.2).a = allocB y.1.a ∧ deskB x_1.1 = deskB (DeskQ.mk x.1.2.2.n
 x.1.2.2.m y.2.2) ∧ true = true ∧ True) ∧ DoI (y.1, y.2.1, DeskQ.mk x.1.2.2.n x.1.2.2.m y.2.2))) (Exx (DeskQ × Int) fun x_5 => (((true = true ∧ NilNil ∧ (0 :
 Nat) = 0) ∧ Tr 1 (x.2.block = x_5.2) ∧ True) ∧ true = true ∧ deskB x_1.1 = deskB x_5.1 ∧ True) ∧ (DeskW x_5.1 ∧ I64 x_5.2) ∧ ∀ (y : Unit), True → BC (!(deskNext
 x_5.1.n x_5.1.d).isSome) (BC (decide (issE x_3.1 x_3.2.1 x_3.2.2 = (10 : Int))) (Tr 2 True ∧ Tr 2 True ∧ ∀ (b : Bool), (b = true ↔ (issH x_3.1 x_3.2.1
 x_3.2.2).slot = (0 : Int) ∧ (issH x_3.1 x_3.2.1 x_3.2.2).gen = (0 : Int) ∧ True) → BC b ((Tr 3 True ∧ Tr 3 True) ∧ (Tr 3 True ∧ Tr 3 True) ∧ ∀ (b : Bool), (b =
 true ↔ ((issT x_3.1 x_3.2.1 x_3.2.2).blocks = (0 : Int) ∧ (issT x_3.1 x_3.2.1 x_3.2.2).slots = (0 : Int) ∧ (issT x_3.1 x_3.2.1 x_3.2.2).gens = (0 : Int) ∧ True)
 ∧ (issT x_3.1 x_3.2.1 x_3.2.2).top = (0 : Int) ∧ (issT x_3.1 x_3.2.1 x_3.2.2).high = (0 : Int) ∧ (issT x_3.1 x_3.2.1 x_3.2.2).free = (0 : Int) ∧ True) → Exx
 (StoreT × TickT × DeskT) fun y => ((((Tr 1 (x.1.2.1.blocks = y.2.1.blocks) ∧ Tr 1 (x.1.2.1.slots = y.2.1.slots) ∧ Tr 1 (x.1.2.1.gens = y.2.1.gens) ∧ Tr 1
 (x.1.2.1.top = y.2.1.top) ∧ Tr 1 (x.1.2.1.high = y.2.1.high) ∧ Tr 1 (x.1.2.1.free = y.2.1.free) ∧ True) ∧ b = true ∧ True) ∧ True) ∧ ((105 : TypeId) = 105 ∧
 (true = true ∧ NilNil ∧ (0 : Nat) = 0) ∧ (true = true ∧ NilNil ∧ (0 : Nat) = 0) ∧ True) ∧ devB (issS x_3.1 x_3.2.1 x_3.2.2).ws = devB y.1.ws ∧ allocB (issS
 x_3.1 x_3.2.1 x_3.2.2).a = allocB y.1.a ∧ deskB (DeskQ.mk x_5.1.n x_5.1.m (deskIssD x_5)) = deskB (DeskQ.mk x.1.2.2.n x.1.2.2.m y.2.2) ∧ true = true ∧ True) ∧
 DoI (y.1, y.2.1, DeskQ.mk x.1.2.2.n x.1.2.2.m y.2.2)) (Exx (StoreT × TickT × DeskT) fun y => ((((Tr 1 (x.1.2.1.blocks = y.2.1.blocks) ∧ Tr 1 (x.1.2.1.slots =
 y.2.1.slots) ∧ Tr 1 (x.1.2.1.gens = y.2.1.gens) ∧ Tr 1 (x.1.2.1.top = y.2.1.top) ∧ Tr 1 (x.1.2.1.high = y.2.1.high) ∧ Tr 1 (x.1.2.1.free = y.2.1.free) ∧ True) ∧
 false = true ∧ True) ∧ True) ∧ ((105 : TypeId) = 105 ∧ (true = true ∧ NilNil ∧ (0 : Nat) = 0) ∧ (true = true ∧ NilNil ∧ (0 : Nat) = 0) ∧ True) ∧ devB (issS
 x_3.1 x_3.2.1 x_3.2.2).ws = devB y.1.ws ∧ allocB (issS x_3.1 x_3.2.1 x_3.2.2).a = allocB y.1.a ∧ deskB (DeskQ.mk x_5.1.n x_5.1.m (deskIssD x_5)) = deskB
 (DeskQ.mk x.1.2.2.n x.1.2.2.m y.2.2) ∧ true = true ∧ True) ∧ DoI (y.1, y.2.1, DeskQ.mk x.1.2.2.n x.1.2.2.m y.2.2))) (Exx (StoreT × TickT × DeskT) fun y =>
 ((((Tr 1 (x.1.2.1.blocks = y.2.1.blocks) ∧ Tr 1 (x.1.2.1.slots = y.2.1.slots) ∧ Tr 1 (x.1.2.1.gens = y.2.1.gens) ∧ Tr 1 (x.1.2.1.top = y.2.1.top) ∧ Tr 1
 (x.1.2.1.high = y.2.1.high) ∧ Tr 1 (x.1.2.1.free = y.2.1.free) ∧ True) ∧ false = true ∧ True) ∧ True) ∧ ((105 : TypeId) = 105 ∧ (true = true ∧ NilNil ∧ (0 :
 Nat) = 0) ∧ (true = true ∧ NilNil ∧ (0 : Nat) = 0) ∧ True) ∧ devB (issS x_3.1 x_3.2.1 x_3.2.2).ws = devB y.1.ws ∧ allocB (issS x_3.1 x_3.2.1 x_3.2.2).a = allocB
 y.1.a ∧ deskB (DeskQ.mk x_5.1.n x_5.1.m (deskIssD x_5)) = deskB (DeskQ.mk x.1.2.2.n x.1.2.2.m y.2.2) ∧ true = true ∧ True) ∧ DoI (y.1, y.2.1, DeskQ.mk x.1.2.2.n
 x.1.2.2.m y.2.2))) (BC (decide (issE x_3.1 x_3.2.1 x_3.2.2 = (0 : Int))) (Tr 2 True ∧ Tr 2 True ∧ ∀ (b : Bool), (b = true ↔ (issH x_3.1 x_3.2.1 x_3.2.2).slot =
 (deskNextH x_5.1).slot ∧ (issH x_3.1 x_3.2.1 x_3.2.2).gen = (deskNextH x_5.1).gen ∧ True) → Exx (StoreT × TickT × DeskT) fun y => ((((Tr 1 ((issT x_3.1 x_3.2.1
 x_3.2.2).blocks = y.2.1.blocks) ∧ Tr 1 ((issT x_3.1 x_3.2.1 x_3.2.2).slots = y.2.1.slots) ∧ Tr 1 ((issT x_3.1 x_3.2.1 x_3.2.2).gens = y.2.1.gens) ∧ Tr 1 ((issT
 x_3.1 x_3.2.1 x_3.2.2).top = y.2.1.top) ∧ Tr 1 ((issT x_3.1 x_3.2.1 x_3.2.2).high = y.2.1.high) ∧ Tr 1 ((issT x_3.1 x_3.2.1 x_3.2.2).free = y.2.1.free) ∧ True)
 ∧ b = true ∧ True) ∧ True) ∧ ((105 : TypeId) = 105 ∧ (true = true ∧ NilNil ∧ (0 : Nat) = 0) ∧ (true = true ∧ NilNil ∧ (0 : Nat) = 0) ∧ True) ∧ devB (issS x_3.1
 x_3.2.1 x_3.2.2).ws = devB y.1.ws ∧ allocB (issS x_3.1 x_3.2.1 x_3.2.2).a = allocB y.1.a ∧ deskB (DeskQ.mk x_5.1.n x_5.1.m (deskIssD x_5)) = deskB (DeskQ.mk
 x.1.2.2.n x.1.2.2.m y.2.2) ∧ true = true ∧ True) ∧ DoI (y.1, y.2.1, DeskQ.mk x.1.2.2.n x.1.2.2.m y.2.2)) (Exx (StoreT × TickT × DeskT) fun y => ((((Tr 1 ((issT
 x_3.1 x_3.2.1 x_3.2.2).blocks = y.2.1.blocks) ∧ Tr 1 ((issT x_3.1 x_3.2.1 x_3.2.2).slots = y.2.1.slots) ∧ Tr 1 ((issT x_3.1 x_3.2.1 x_3.2.2).gens = y.2.1.gens)
 ∧ Tr 1 ((issT x_3.1 x_3.2.1 x_3.2.2).top = y.2.1.top) ∧ Tr 1 ((issT x_3.1 x_3.2.1 x_3.2.2).high = y.2.1.high) ∧ Tr 1 ((issT x_3.1 x_3.2.1 x_3.2.2).free =
 y.2.1.free) ∧ True) ∧ false = true ∧ True) ∧ True) ∧ ((105 : TypeId) = 105 ∧ (true = true ∧ NilNil ∧ (0 : Nat) = 0) ∧ (true = true ∧ NilNil ∧ (0 : Nat) = 0) ∧
 True) ∧ devB (issS x_3.1 x_3.2.1 x_3.2.2).ws = devB y.1.ws ∧ allocB (issS x_3.1 x_3.2.1 x_3.2.2).a = allocB y.1.a ∧ deskB (DeskQ.mk x_5.1.n x_5.1.m (deskIssD
 x_5)) = deskB (DeskQ.mk x.1.2.2.n x.1.2.2.m y.2.2) ∧ true = true ∧ True) ∧ DoI (y.1, y.2.1, DeskQ.mk x.1.2.2.n x.1.2.2.m y.2.2))))) (BC (decide (x_2.1 % x_2.2 =
 (1 : Int))) (Exx (StoreT × TickT × HandT) fun x_3 => (((true = true ∧ NilNil ∧ (0 : Nat) = 0) ∧ (Tr 1 (x.1.2.1.blocks = x_3.2.1.blocks) ∧ Tr 1 (x.1.2.1.slots =
 x_3.2.1.slots) ∧ Tr 1 (x.1.2.1.gens = x_3.2.1.gens) ∧ Tr 1 (x.1.2.1.top = x_3.2.1.top) ∧ Tr 1 (x.1.2.1.high = x_3.2.1.high) ∧ Tr 1 (x.1.2.1.free = x_3.2.1.free)
 ∧ True) ∧ (Tr 1 ((actH x_1.1 x_1.2).slot = x_3.2.2.slot) ∧ Tr 1 ((actH x_1.1 x_1.2).gen = x_3.2.2.gen) ∧ True) ∧ True) ∧ true = true ∧ ((105 : TypeId) = 105 ∧
 (true = true ∧ NilNil ∧ (0 : Nat) = 0) ∧ (true = true ∧ NilNil ∧ (0 : Nat) = 0) ∧ True) ∧ devB x.1.1.ws = devB x_3.1.ws ∧ allocB x.1.1.a = allocB x_3.1.a ∧
 True) ∧ (StoreW x_3.1 ∧ TickI x_3.2.1 ∧ HandI x_3.2.2) ∧ ∀ (y : Unit), True → Exx (DeskQ × HandT) fun x_4 => (((true = true ∧ NilNil ∧ (0 : Nat) = 0) ∧ (Tr 1
 ((actH x_1.1 x_1.2).slot = x_4.2.slot) ∧ Tr 1 ((actH x_1.1 x_1.2).gen = x_4.2.gen) ∧ True) ∧ True) ∧ true = true ∧ deskB x_1.1 = deskB x_4.1 ∧ True) ∧ (DeskW
 x_4.1 ∧ HandI x_4.2) ∧ ∀ (y : Unit), True → BC (decide ((if liveD x_4.1.d x_4.2 then bAt x_4.1.d x_4.2.slot.toNat else 0) = (0 : Int))) (BC (decide (relE x_3.1
 x_3.2.1 x_3.2.2 = (11 : Int))) ((Tr 3 True ∧ Tr 3 True) ∧ (Tr 3 True ∧ Tr 3 True) ∧ ∀ (b : Bool), (b = true ↔ ((relT x_3.1 x_3.2.1 x_3.2.2).blocks = (0 : Int) ∧
 (relT x_3.1 x_3.2.1 x_3.2.2).slots = (0 : Int) ∧ (relT x_3.1 x_3.2.1 x_3.2.2).gens = (0 : Int) ∧ True) ∧ (relT x_3.1 x_3.2.1 x_3.2.2).top = (0 : Int) ∧ (relT
 x_3.1 x_3.2.1 x_3.2.2).high = (0 : Int) ∧ (relT x_3.1 x_3.2.1 x_3.2.2).free = (0 : Int) ∧ True) → Exx (StoreT × TickT × DeskT) fun y => ((((Tr 1 (x.1.2.1.blocks
 = y.2.1.blocks) ∧ Tr 1 (x.1.2.1.slots = y.2.1.slots) ∧ Tr 1 (x.1.2.1.gens = y.2.1.gens) ∧ Tr 1 (x.1.2.1.top = y.2.1.top) ∧ Tr 1 (x.1.2.1.high = y.2.1.high) ∧ Tr
 1 (x.1.2.1.free = y.2.1.free) ∧ True) ∧ b = true ∧ True) ∧ True) ∧ ((105 : TypeId) = 105 ∧ (true = true ∧ NilNil ∧ (0 : Nat) = 0) ∧ (true = true ∧ NilNil ∧ (0 :
 Nat) = 0) ∧ True) ∧ devB (relS x_3.1 x_3.2.1 x_3.2.2).ws = devB y.1.ws ∧ allocB (relS x_3.1 x_3.2.1 x_3.2.2).a = allocB y.1.a ∧ deskB x_4.1 = deskB (DeskQ.mk
 x.1.2.2.n x.1.2.2.m y.2.2) ∧ true = true ∧ True) ∧ DoI (y.1, y.2.1, DeskQ.mk x.1.2.2.n x.1.2.2.m y.2.2)) (Exx (StoreT × TickT × DeskT) fun y => ((((Tr 1
 (x.1.2.1.blocks = y.2.1.blocks) ∧ Tr 1 (x.1.2.1.slots = y.2.1.slots) ∧ Tr 1 (x.1.2.1.gens = y.2.1.gens) ∧ Tr 1 (x.1.2.1.top = y.2.1.top) ∧ Tr 1 (x.1.2.1.high =
 y.2.1.high) ∧ Tr 1 (x.1.2.1.free = y.2.1.free) ∧ True) ∧ false = true ∧ True) ∧ True) ∧ ((105 : TypeId) = 105 ∧ (true = true ∧ NilNil ∧ (0 : Nat) = 0) ∧ (true =
 true ∧ NilNil ∧ (0 : Nat) = 0) ∧ True) ∧ devB (relS x_3.1 x_3.2.1 x_3.2.2).ws = devB y.1.ws ∧ allocB (relS x_3.1 x_3.2.1 x_3.2.2).a = allocB y.1.a ∧ deskB x_4.1
 = deskB (DeskQ.mk x.1.2.2.n x.1.2.2.m y.2.2) ∧ true = true ∧ True) ∧ DoI (y.1, y.2.1, DeskQ.mk x.1.2.2.n x.1.2.2.m y.2.2))) (Exx (DeskQ × HandT) fun x_5 =>
 (((true = true ∧ NilNil ∧ (0 : Nat) = 0) ∧ (Tr 1 ((actH x_1.1 x_1.2).slot = x_5.2.slot) ∧ Tr 1 ((actH x_1.1 x_1.2).gen = x_5.2.gen) ∧ True) ∧ True) ∧ true =
 true ∧ deskB x_4.1 = deskB x_5.1 ∧ True) ∧ (DeskW x_5.1 ∧ HandI x_5.2 ∧ liveD x_5.1.d x_5.2) ∧ ∀ (y : Unit), True → Exx (StoreT × TickT × DeskT) fun y => ((((Tr
 1 ((relT x_3.1 x_3.2.1 x_3.2.2).blocks = y.2.1.blocks) ∧ Tr 1 ((relT x_3.1 x_3.2.1 x_3.2.2).slots = y.2.1.slots) ∧ Tr 1 ((relT x_3.1 x_3.2.1 x_3.2.2).gens =
 y.2.1.gens) ∧ Tr 1 ((relT x_3.1 x_3.2.1 x_3.2.2).top = y.2.1.top) ∧ Tr 1 ((relT x_3.1 x_3.2.1 x_3.2.2).high = y.2.1.high) ∧ Tr 1 ((relT x_3.1 x_3.2.1
 x_3.2.2).free = y.2.1.free) ∧ True) ∧ decide (relE x_3.1 x_3.2.1 x_3.2.2 = (0 : Int)) = true ∧ True) ∧ True) ∧ ((105 : TypeId) = 105 ∧ (true = true ∧ NilNil ∧
 (0 : Nat) = 0) ∧ (true = true ∧ NilNil ∧ (0 : Nat) = 0) ∧ True) ∧ devB (relS x_3.1 x_3.2.1 x_3.2.2).ws = devB y.1.ws ∧ allocB (relS x_3.1 x_3.2.1 x_3.2.2).a =
 allocB y.1.a ∧ deskB (DeskQ.mk x_5.1.n x_5.1.m (deskRel x_5.1.m x_5.1.d x_5.2.slot.toNat)) = deskB (DeskQ.mk x.1.2.2.n x.1.2.2.m y.2.2) ∧ true = true ∧ True) ∧
 DoI (y.1, y.2.1, DeskQ.mk x.1.2.2.n x.1.2.2.m y.2.2))) (BC (decide (x_2.1 % x_2.2 = (2 : Int))) (Exx (StoreT × TickT × HandT × Int) fun x_3 => (((true = true ∧
 NilNil ∧ (0 : Nat) = 0) ∧ (Tr 1 (x.1.2.1.blocks = x_3.2.1.blocks) ∧ Tr 1 (x.1.2.1.slots = x_3.2.1.slots) ∧ Tr 1 (x.1.2.1.gens = x_3.2.1.gens) ∧ Tr 1
 (x.1.2.1.top = x_3.2.1.top) ∧ Tr 1 (x.1.2.1.high = x_3.2.1.high) ∧ Tr 1 (x.1.2.1.free = x_3.2.1.free) ∧ True) ∧ (Tr 1 ((actH x_1.1 x_1.2).slot = x_3.2.2.1.slot)
 ∧ Tr 1 ((actH x_1.1 x_1.2).gen = x_3.2.2.1.gen) ∧ True) ∧ Tr 1 (x.2.block = x_3.2.2.2) ∧ True) ∧ true = true ∧ ((105 : TypeId) = 105 ∧ (true = true ∧ NilNil ∧
 (0 : Nat) = 0) ∧ (true = true ∧ NilNil ∧ (0 : Nat) = 0) ∧ True) ∧ devB x.1.1.ws = devB x_3.1.ws ∧ allocB x.1.1.a = allocB x_3.1.a ∧ True) ∧ (StoreW x_3.1 ∧
 TickI x_3.2.1 ∧ HandI x_3.2.2.1 ∧ I64 x_3.2.2.2) ∧ ∀ (y : Unit), True → Exx (DeskQ × HandT) fun x_4 => (((true = true ∧ NilNil ∧ (0 : Nat) = 0) ∧ (Tr 1 ((actH
 x_1.1 x_1.2).slot = x_4.2.slot) ∧ Tr 1 ((actH x_1.1 x_1.2).gen = x_4.2.gen) ∧ True) ∧ True) ∧ true = true ∧ deskB x_1.1 = deskB x_4.1 ∧ True) ∧ (DeskW x_4.1 ∧
 HandI x_4.2) ∧ ∀ (y : Unit), True → BC (decide ((if liveD x_4.1.d x_4.2 then bAt x_4.1.d x_4.2.slot.toNat else 0) = (0 : Int))) (BC (decide (poiE x_3.1 x_3.2.1
 x_3.2.2.1 x_3.2.2.2 = (11 : Int))) ((Tr 3 True ∧ Tr 3 True) ∧ (Tr 3 True ∧ Tr 3 True) ∧ ∀ (b : Bool), (b = true ↔ ((poiT x_3.1 x_3.2.1 x_3.2.2.1
 x_3.2.2.2).blocks = (0 : Int) ∧ (poiT x_3.1 x_3.2.1 x_3.2.2.1 x_3.2.2.2).slots = (0 : Int) ∧ (poiT x_3.1 x_3.2.1 x_3.2.2.1 x_3.2.2.2).gens = (0 : Int) ∧ True) ∧
 (poiT x_3.1 x_3.2.1 x_3.2.2.1 x_3.2.2.2).top = (0 : Int) ∧ (poiT x_3.1 x_3.2.1 x_3.2.2.1 x_3.2.2.2).high = (0 : Int) ∧ (poiT x_3.1 x_3.2.1 x_3.2.2.1
 x_3.2.2.2).free = (0 : Int) ∧ True) → Exx (StoreT × TickT × DeskT) fun y => ((((Tr 1 (x.1.2.1.blocks = y.2.1.blocks) ∧ Tr 1 (x.1.2.1.slots = y.2.1.slots) ∧ Tr 1
 (x.1.2.1.gens = y.2.1.gens) ∧ Tr 1 (x.1.2.1.top = y.2.1.top) ∧ Tr 1 (x.1.2.1.high = y.2.1.high) ∧ Tr 1 (x.1.2.1.free = y.2.1.free) ∧ True) ∧ b = true ∧ True) ∧
 True) ∧ ((105 : TypeId) = 105 ∧ (true = true ∧ NilNil ∧ (0 : Nat) = 0) ∧ (true = true ∧ NilNil ∧ (0 : Nat) = 0) ∧ True) ∧ devB (poiS x_3.1 x_3.2.1 x_3.2.2.1
 x_3.2.2.2).ws = devB y.1.ws ∧ allocB (poiS x_3.1 x_3.2.1 x_3.2.2.1 x_3.2.2.2).a = allocB y.1.a ∧ deskB x_4.1 = deskB (DeskQ.mk x.1.2.2.n x.1.2.2.m y.2.2) ∧ true
 = true ∧ True) ∧ DoI (y.1, y.2.1, DeskQ.mk x.1.2.2.n x.1.2.2.m y.2.2)) (Exx (StoreT × TickT × DeskT) fun y => ((((Tr 1 (x.1.2.1.blocks = y.2.1.blocks) ∧ Tr 1
 (x.1.2.1.slots = y.2.1.slots) ∧ Tr 1 (x.1.2.1.gens = y.2.1.gens) ∧ Tr 1 (x.1.2.1.top = y.2.1.top) ∧ Tr 1 (x.1.2.1.high = y.2.1.high) ∧ Tr 1 (x.1.2.1.free =
 y.2.1.free) ∧ True) ∧ false = true ∧ True) ∧ True) ∧ ((105 : TypeId) = 105 ∧ (true = true ∧ NilNil ∧ (0 : Nat) = 0) ∧ (true = true ∧ NilNil ∧ (0 : Nat) = 0) ∧
 True) ∧ devB (poiS x_3.1 x_3.2.1 x_3.2.2.1 x_3.2.2.2).ws = devB y.1.ws ∧ allocB (poiS x_3.1 x_3.2.1 x_3.2.2.1 x_3.2.2.2).a = allocB y.1.a ∧ deskB x_4.1 = deskB
 (DeskQ.mk x.1.2.2.n x.1.2.2.m y.2.2) ∧ true = true ∧ True) ∧ DoI (y.1, y.2.1, DeskQ.mk x.1.2.2.n x.1.2.2.m y.2.2))) (Exx Int fun x_5 => ((Tr 1 (x.2.block = x_5)
 ∧ True) ∧ true = true ∧ True) ∧ (-9223372036854775808 ≤ x_5 ∧ x_5 ≤ (9223372036854775807 : Int)) ∧ ∀ (y : Unit), True → BC (!decide ((2 : Int) ≤ x_5 ∧ x_5 ≤
 (3071 : Int))) (BC (decide (poiE x_3.1 x_3.2.1 x_3.2.2.1 x_3.2.2.2 = (2 : Int))) ((Tr 3 True ∧ Tr 3 True) ∧ (Tr 3 True ∧ Tr 3 True) ∧ ∀ (b : Bool), (b = true ↔
 ((poiT x_3.1 x_3.2.1 x_3.2.2.1 x_3.2.2.2).blocks = (0 : Int) ∧ (poiT x_3.1 x_3.2.1 x_3.2.2.1 x_3.2.2.2).slots = (0 : Int) ∧ (poiT x_3.1 x_3.2.1 x_3.2.2.1
 x_3.2.2.2).gens = (0 : Int) ∧ True) ∧ (poiT x_3.1 x_3.2.1 x_3.2.2.1 x_3.2.2.2).top = (0 : Int) ∧ (poiT x_3.1 x_3.2.1 x_3.2.2.1 x_3.2.2.2).high = (0 : Int) ∧
 (poiT x_3.1 x_3.2.1 x_3.2.2.1 x_3.2.2.2).free = (0 : Int) ∧ True) → Exx (StoreT × TickT × DeskT) fun y => ((((Tr 1 (x.1.2.1.blocks = y.2.1.blocks) ∧ Tr 1
 (x.1.2.1.slots = y.2.1.slots) ∧ Tr 1 (x.1.2.1.gens = y.2.1.gens) ∧ Tr 1 (x.1.2.1.top = y.2.1.top) ∧ Tr 1 (x.1.2.1.high = y.2.1.high) ∧ Tr 1 (x.1.2.1.free =
 y.2.1.free) ∧ True) ∧ b = true ∧ True) ∧ True) ∧ ((105 : TypeId) = 105 ∧ (true = true ∧ NilNil ∧ (0 : Nat) = 0) ∧ (true = true ∧ NilNil ∧ (0 : Nat) = 0) ∧ True)
 ∧ devB (poiS x_3.1 x_3.2.1 x_3.2.2.1 x_3.2.2.2).ws = devB y.1.ws ∧ allocB (poiS x_3.1 x_3.2.1 x_3.2.2.1 x_3.2.2.2).a = allocB y.1.a ∧ deskB x_4.1 = deskB
 (DeskQ.mk x.1.2.2.n x.1.2.2.m y.2.2) ∧ true = true ∧ True) ∧ DoI (y.1, y.2.1, DeskQ.mk x.1.2.2.n x.1.2.2.m y.2.2)) (Exx (StoreT × TickT × DeskT) fun y => ((((Tr
 1 (x.1.2.1.blocks = y.2.1.blocks) ∧ Tr 1 (x.1.2.1.slots = y.2.1.slots) ∧ Tr 1 (x.1.2.1.gens = y.2.1.gens) ∧ Tr 1 (x.1.2.1.top = y.2.1.top) ∧ Tr 1 (x.1.2.1.high
 = y.2.1.high) ∧ Tr 1 (x.1.2.1.free = y.2.1.free) ∧ True) ∧ false = true ∧ True) ∧ True) ∧ ((105 : TypeId) = 105 ∧ (true = true ∧ NilNil ∧ (0 : Nat) = 0) ∧ (true
 = true ∧ NilNil ∧ (0 : Nat) = 0) ∧ True) ∧ devB (poiS x_3.1 x_3.2.1 x_3.2.2.1 x_3.2.2.2).ws = devB y.1.ws ∧ allocB (poiS x_3.1 x_3.2.1 x_3.2.2.1 x_3.2.2.2).a =
 allocB y.1.a ∧ deskB x_4.1 = deskB (DeskQ.mk x.1.2.2.n x.1.2.2.m y.2.2) ∧ true = true ∧ True) ∧ DoI (y.1, y.2.1, DeskQ.mk x.1.2.2.n x.1.2.2.m y.2.2))) (Exx Unit
 fun y => deskB x_4.1 = (deskO x.1.2.2).ob ∧ ∀ (g : Subtype (DeskCap x.1.2.2)), ((0 : Int) ≤ (actH x_1.1 x_1.2).slot ∧ (actH x_1.1 x_1.2).slot <
 (↑x.1.2.2.d.blocks.length : Int)) ∧ 0 + (actH x_1.1 x_1.2).slot.toNat < x.1.2.2.d.blocks.length ∧ x.1.2.2.d.blocks.length = x.1.2.2.d.blocks.length ∧ Exx
 (StoreT × TickT × DeskT) fun y => Exx (Subtype (DeskCap (DeskQ.mk x.1.2.2.n x.1.2.2.m y.2.2))) fun g_1 => ([3, [Item.cells 105 [AV.ptr 1 [] 0, AV.ptr 2 [] 0],
 Item.obj (devB (poiS x_3.1 x_3.2.1 x_3.2.2.1 x_3.2.2.2).ws), Item.obj (allocB (poiS x_3.1 x_3.2.1 x_3.2.2.1 x_3.2.2.2).a), Item.obj (deskB x_4.1), Item.fence,
 Item.cells 32 [AV.int .i64 x.1.2.1.blocks, AV.int .i64 x.1.2.1.slots, AV.int .i64 x.1.2.1.gens, AV.int .i64 x.1.2.1.top, AV.int .i64 x.1.2.1.high, AV.int .i64
 x.1.2.1.free], Item.cells 38 [AV.int .i64 x.2.kind, AV.int .i64 x.2.block, AV.int .i64 x.2.h.slot, AV.int .i64 x.2.h.gen, AV.bool x.2.live], Item.cells 32
 [AV.int .i64 0, AV.int .i64 0, AV.int .i64 0, AV.int .i64 0, AV.int .i64 0, AV.int .i64 0], Item.cells 36 [AV.int .i64 (actH x_1.1 x_1.2).slot, AV.int .i64
 (actH x_1.1 x_1.2).gen], Item.cells 32 [AV.int .i64 (poiT x_3.1 x_3.2.1 x_3.2.2.1 x_3.2.2.2).blocks, AV.int .i64 (poiT x_3.1 x_3.2.1 x_3.2.2.1 x_3.2.2.2).slots,
 AV.int .i64 (poiT x_3.1 x_3.2.1 x_3.2.2.1 x_3.2.2.2).gens, AV.int .i64 (poiT x_3.1 x_3.2.1 x_3.2.2.1 x_3.2.2.2).top, AV.int .i64 (poiT x_3.1 x_3.2.1 x_3.2.2.1
 x_3.2.2.2).high, AV.int .i64 (poiT x_3.1 x_3.2.1 x_3.2.2.1 x_3.2.2.2).free]].length + 0, [Item.cells 105 [AV.ptr 1 [] 0, AV.ptr 2 [] 0], Item.obj (devB (poiS
 x_3.1 x_3.2.1 x_3.2.2.1 x_3.2.2.2).ws), Item.obj (allocB (poiS x_3.1 x_3.2.1 x_3.2.2.1 x_3.2.2.2).a), Item.obj (deskB x_4.1), Item.fence, Item.cells 32 [AV.int
 .i64 x.1.2.1.blocks, AV.int .i64 x.1.2.1.slots, AV.int .i64 x.1.2.1.gens, AV.int .i64 x.1.2.1.top, AV.int .i64 x.1.2.1.high, AV.int .i64 x.1.2.1.free],
 Item.cells 38 [AV.int .i64 x.2.kind, AV.int .i64 x.2.block, AV.int .i64 x.2.h.slot, AV.int .i64 x.2.h.gen, AV.bool x.2.live], Item.cells 32 [AV.int .i64 0,
 AV.int .i64 0, AV.int .i64 0, AV.int .i64 0, AV.int .i64 0, AV.int .i64 0], Item.cells 36 [AV.int .i64 (actH x_1.1 x_1.2).slot, AV.int .i64 (actH x_1.1
 x_1.2).gen], Item.cells 32 [AV.int .i64 (poiT x_3.1 x_3.2.1 x_3.2.2.1 x_3.2.2.2).blocks, AV.int .i64 (poiT x_3.1 x_3.2.1 x_3.2.2.1 x_3.2.2.2).slots, AV.int .i64
 (poiT x_3.1 x_3.2.1 x_3.2.2.1 x_3.2.2.2).gens, AV.int .i64 (poiT x_3.1 x_3.2.1 x_3.2.2.1 x_3.2.2.2).top, AV.int .i64 (poiT x_3.1 x_3.2.1 x_3.2.2.1
 x_3.2.2.2).high, AV.int .i64 (poiT x_3.1 x_3.2.1 x_3.2.2.1 x_3.2.2.2).free]].length + 1, [Item.cells 105 [AV.ptr 1 [] 0, AV.ptr 2 [] 0], Item.obj (devB (poiS
 x_3.1 x_3.2.1 x_3.2.2.1 x_3.2.2.2).ws), Item.obj (allocB (poiS x_3.1 x_3.2.1 x_3.2.2.1 x_3.2.2.2).a), Item.obj (deskB x_4.1), Item.fence, Item.cells 32 [AV.int
 .i64 x.1.2.1.blocks, AV.int .i64 x.1.2.1.slots, AV.int .i64 x.1.2.1.gens, AV.int .i64 x.1.2.1.top, AV.int .i64 x.1.2.1.high, AV.int .i64 x.1.2.1.free],
 Item.cells 38 [AV.int .i64 x.2.kind, AV.int .i64 x.2.block, AV.int .i64 x.2.h.slot, AV.int .i64 x.2.h.gen, AV.bool x.2.live], Item.cells 32 [AV.int .i64 0,
 AV.int .i64 0, AV.int .i64 0, AV.int .i64 0, AV.int .i64 0, AV.int .i64 0], Item.cells 36 [AV.int .i64 (actH x_1.1 x_1.2).slot, AV.int .i64 (actH x_1.1
 x_1.2).gen], Item.cells 32 [AV.int .i64 (poiT x_3.1 x_3.2.1 x_3.2.2.1 x_3.2.2.2).blocks, AV.int .i64 (poiT x_3.1 x_3.2.1 x_3.2.2.1 x_3.2.2.2).slots, AV.int .i64
 (poiT x_3.1 x_3.2.1 x_3.2.2.1 x_3.2.2.2).gens, AV.int .i64 (poiT x_3.1 x_3.2.1 x_3.2.2.1 x_3.2.2.2).top, AV.int .i64 (poiT x_3.1 x_3.2.1 x_3.2.2.1
 x_3.2.2.2).high, AV.int .i64 (poiT x_3.1 x_3.2.1 x_3.2.2.1 x_3.2.2.2).free]].length + 2].length = [Item.cells 60 [AV.int .i64 0, AV.int .i64 (DeskQ.mk x.1.2.2.n
 x.1.2.2.m y.2.2).n, AV.int .i64 (DeskQ.mk x.1.2.2.n x.1.2.2.m y.2.2).m, AV.sl 1 [] 0 1 0 (DeskQ.mk x.1.2.2.n x.1.2.2.m y.2.2).d.gens.length g_1.val.1, AV.sl 2
 [] 0 1 0 (DeskQ.mk x.1.2.2.n x.1.2.2.m y.2.2).d.blocks.length g_1.val.2.1, AV.sl 3 [] 0 1 0 (DeskQ.mk x.1.2.2.n x.1.2.2.m y.2.2).d.free.length g_1.val.2.2],
 Item.row 3 1 g_1.val.1 (DeskQ.mk x.1.2.2.n x.1.2.2.m y.2.2).d.gens.length fun i => [AV.int .i64 ((DeskQ.mk x.1.2.2.n x.1.2.2.m y.2.2).d.gens.getD i 0)],
 Item.row 3 1 g_1.val.2.1 (DeskQ.mk x.1.2.2.n x.1.2.2.m y.2.2).d.blocks.length fun i => [AV.int .i64 ((DeskQ.mk x.1.2.2.n x.1.2.2.m y.2.2).d.blocks.getD i 0)],
 Item.row 3 1 g_1.val.2.2 (DeskQ.mk x.1.2.2.n x.1.2.2.m y.2.2).d.free.length fun i => [AV.int .i64 (↑((DeskQ.mk x.1.2.2.n x.1.2.2.m y.2.2).d.free.getD i 0) :
 Int)]].length ∧ ((60 : TypeId) = 60 ∧ Tr 1 ((0 : Int) = 0) ∧ Tr 1 (x.1.2.2.n = (DeskQ.mk x.1.2.2.n x.1.2.2.m y.2.2).n) ∧ Tr 1 (x.1.2.2.m = (DeskQ.mk x.1.2.2.n
 x.1.2.2.m y.2.2).m) ∧ (true = true ∧ NilNil ∧ (0 : Nat) = 0 ∧ (1 : Nat) = 1 ∧ (0 : Nat) = 0 ∧ x.1.2.2.d.gens.length = (DeskQ.mk x.1.2.2.n x.1.2.2.m
 y.2.2).d.gens.length ∧ g.val.1 = g_1.val.1) ∧ (true = true ∧ NilNil ∧ (0 : Nat) = 0 ∧ (1 : Nat) = 1 ∧ (0 : Nat) = 0 ∧ x.1.2.2.d.blocks.length = (DeskQ.mk
 x.1.2.2.n x.1.2.2.m y.2.2).d.blocks.length ∧ g.val.2.1 = g_1.val.2.1) ∧ (true = true ∧ NilNil ∧ (0 : Nat) = 0 ∧ (1 : Nat) = 1 ∧ (0 : Nat) = 0 ∧
 x.1.2.2.d.free.length = (DeskQ.mk x.1.2.2.n x.1.2.2.m y.2.2).d.free.length ∧ g.val.2.2 = g_1.val.2.2) ∧ True) ∧ ((3 : TypeId) = 3 ∧ (1 : Nat) = 1 ∧ g.val.1 =
 g_1.val.1 ∧ (DeskQ.mk x.1.2.2.n x.1.2.2.m y.2.2).d.gens.length ≤ x.1.2.2.d.gens.length ∧ ∀ (i : Nat), i < (DeskQ.mk x.1.2.2.n x.1.2.2.m y.2.2).d.gens.length →
 [AV.int .i64 (x.1.2.2.d.gens.getD i 0)] = [AV.int .i64 ((DeskQ.mk x.1.2.2.n x.1.2.2.m y.2.2).d.gens.getD i 0)]) ∧ ((3 : TypeId) = 3 ∧ (1 : Nat) = 1 ∧ g.val.2.1
 = g_1.val.2.1 ∧ (DeskQ.mk x.1.2.2.n x.1.2.2.m y.2.2).d.blocks.length ≤ x.1.2.2.d.blocks.length ∧ ∀ (i : Nat), i < (DeskQ.mk x.1.2.2.n x.1.2.2.m
 y.2.2).d.blocks.length → [AV.int .i64 (if i = 0 + (actH x_1.1 x_1.2).slot.toNat then x.2.block else x.1.2.2.d.blocks.getD i 0)] = [AV.int .i64 ((DeskQ.mk
 x.1.2.2.n x.1.2.2.m y.2.2).d.blocks.getD i 0)]) ∧ ((3 : TypeId) = 3 ∧ (1 : Nat) = 1 ∧ g.val.2.2 = g_1.val.2.2 ∧ (DeskQ.mk x.1.2.2.n x.1.2.2.m
 y.2.2).d.free.length ≤ x.1.2.2.d.free.length ∧ ∀ (i : Nat), i < (DeskQ.mk x.1.2.2.n x.1.2.2.m y.2.2).d.free.length → [AV.int .i64 (↑(x.1.2.2.d.free.getD i 0) :
 Int)] = [AV.int .i64 (↑((DeskQ.mk x.1.2.2.n x.1.2.2.m y.2.2).d.free.getD i 0) : Int)]) ∧ True) ∧ ((((Tr 1 ((poiT x_3.1 x_3.2.1 x_3.2.2.1 x_3.2.2.2).blocks =
 y.2.1.blocks) ∧ Tr 1 ((poiT x_3.1 x_3.2.1 x_3.2.2.1 x_3.2.2.2).slots = y.2.1.slots) ∧ Tr 1 ((poiT x_3.1 x_3.2.1 x_3.2.2.1 x_3.2.2.2).gens = y.2.1.gens) ∧ Tr 1
 ((poiT x_3.1 x_3.2.1 x_3.2.2.1 x_3.2.2.2).top = y.2.1.top) ∧ Tr 1 ((poiT x_3.1 x_3.2.1 x_3.2.2.1 x_3.2.2.2).high = y.2.1.high) ∧ Tr 1 ((poiT x_3.1 x_3.2.1
 x_3.2.2.1 x_3.2.2.2).free = y.2.1.free) ∧ True) ∧ decide (poiE x_3.1 x_3.2.1 x_3.2.2.1 x_3.2.2.2 = (0 : Int)) = true ∧ True) ∧ True) ∧ ((105 : TypeId) = 105 ∧
 (true = true ∧ NilNil ∧ (0 : Nat) = 0) ∧ (true = true ∧ NilNil ∧ (0 : Nat) = 0) ∧ True) ∧ devB (poiS x_3.1 x_3.2.1 x_3.2.2.1 x_3.2.2.2).ws = devB y.1.ws ∧
 allocB (poiS x_3.1 x_3.2.1 x_3.2.2.1 x_3.2.2.2).a = allocB y.1.a ∧ (deskO (DeskQ.mk x.1.2.2.n x.1.2.2.m y.2.2)).ob = deskB (DeskQ.mk x.1.2.2.n x.1.2.2.m y.2.2)
 ∧ true = true ∧ True) ∧ DoI (y.1, y.2.1, DeskQ.mk x.1.2.2.n x.1.2.2.m y.2.2)))) (Exx (StoreT × TickT × HandT) fun x_3 => (((true = true ∧ NilNil ∧ (0 : Nat) =
 0) ∧ (Tr 1 (x.1.2.1.blocks = x_3.2.1.blocks) ∧ Tr 1 (x.1.2.1.slots = x_3.2.1.slots) ∧ Tr 1 (x.1.2.1.gens = x_3.2.1.gens) ∧ Tr 1 (x.1.2.1.top = x_3.2.1.top) ∧ Tr
 1 (x.1.2.1.high = x_3.2.1.high) ∧ Tr 1 (x.1.2.1.free = x_3.2.1.free) ∧ True) ∧ (Tr 1 ((actH x_1.1 x_1.2).slot = x_3.2.2.slot) ∧ Tr 1 ((actH x_1.1 x_1.2).gen =
 x_3.2.2.gen) ∧ True) ∧ True) ∧ true = true ∧ ((105 : TypeId) = 105 ∧ (true = true ∧ NilNil ∧ (0 : Nat) = 0) ∧ (true = true ∧ NilNil ∧ (0 : Nat) = 0) ∧ True) ∧
 devB x.1.1.ws = devB x_3.1.ws ∧ allocB x.1.1.a = allocB x_3.1.a ∧ True) ∧ (StoreW x_3.1 ∧ TickI x_3.2.1 ∧ HandI x_3.2.2) ∧ ∀ (y : Unit), True → Exx (DeskQ ×
 HandT) fun x_4 => (((true = true ∧ NilNil ∧ (0 : Nat) = 0) ∧ (Tr 1 ((actH x_1.1 x_1.2).slot = x_4.2.slot) ∧ Tr 1 ((actH x_1.1 x_1.2).gen = x_4.2.gen) ∧ True) ∧
 True) ∧ true = true ∧ deskB x_1.1 = deskB x_4.1 ∧ True) ∧ (DeskW x_4.1 ∧ HandI x_4.2) ∧ ∀ (y : Unit), True → BC (decide ((seatX x_3.1.ws x_3.2.1 x_3.2.2).next =
 if liveD x_4.1.d x_4.2 then bAt x_4.1.d x_4.2.slot.toNat else 0)) (BC (decide (seatE x_3.1.ws x_3.2.1 x_3.2.2 = (0 : Int)) == !decide ((if liveD x_4.1.d x_4.2
 then bAt x_4.1.d x_4.2.slot.toNat else 0) = (0 : Int))) (BC (!decide ((if liveD x_4.1.d x_4.2 then bAt x_4.1.d x_4.2.slot.toNat else 0) = (0 : Int))) (Exx
 (StoreT × TickT × DeskT) fun y => ((((Tr 1 (x.1.2.1.blocks = y.2.1.blocks) ∧ Tr 1 (x.1.2.1.slots = y.2.1.slots) ∧ Tr 1 (x.1.2.1.gens = y.2.1.gens) ∧ Tr 1
 (x.1.2.1.top = y.2.1.top) ∧ Tr 1 (x.1.2.1.high = y.2.1.high) ∧ Tr 1 (x.1.2.1.free = y.2.1.free) ∧ True) ∧ true = true ∧ True) ∧ True) ∧ ((105 : TypeId) = 105 ∧
 (true = true ∧ NilNil ∧ (0 : Nat) = 0) ∧ (true = true ∧ NilNil ∧ (0 : Nat) = 0) ∧ True) ∧ devB x_3.1.ws = devB y.1.ws ∧ allocB x_3.1.a = allocB y.1.a ∧ deskB
 x_4.1 = deskB (DeskQ.mk x.1.2.2.n x.1.2.2.m y.2.2) ∧ true = true ∧ True) ∧ DoI (y.1, y.2.1, DeskQ.mk x.1.2.2.n x.1.2.2.m y.2.2)) (Exx (StoreT × TickT × DeskT)
 fun y => ((((Tr 1 (x.1.2.1.blocks = y.2.1.blocks) ∧ Tr 1 (x.1.2.1.slots = y.2.1.slots) ∧ Tr 1 (x.1.2.1.gens = y.2.1.gens) ∧ Tr 1 (x.1.2.1.top = y.2.1.top) ∧ Tr
 1 (x.1.2.1.high = y.2.1.high) ∧ Tr 1 (x.1.2.1.free = y.2.1.free) ∧ True) ∧ decide (seatE x_3.1.ws x_3.2.1 x_3.2.2 = (11 : Int)) = true ∧ True) ∧ True) ∧ ((105 :
 TypeId) = 105 ∧ (true = true ∧ NilNil ∧ (0 : Nat) = 0) ∧ (true = true ∧ NilNil ∧ (0 : Nat) = 0) ∧ True) ∧ devB x_3.1.ws = devB y.1.ws ∧ allocB x_3.1.a = allocB
 y.1.a ∧ deskB x_4.1 = deskB (DeskQ.mk x.1.2.2.n x.1.2.2.m y.2.2) ∧ true = true ∧ True) ∧ DoI (y.1, y.2.1, DeskQ.mk x.1.2.2.n x.1.2.2.m y.2.2))) (Exx (StoreT ×
 TickT × DeskT) fun y => ((((Tr 1 (x.1.2.1.blocks = y.2.1.blocks) ∧ Tr 1 (x.1.2.1.slots = y.2.1.slots) ∧ Tr 1 (x.1.2.1.gens = y.2.1.gens) ∧ Tr 1 (x.1.2.1.top =
 y.2.1.top) ∧ Tr 1 (x.1.2.1.high = y.2.1.high) ∧ Tr 1 (x.1.2.1.free = y.2.1.free) ∧ True) ∧ false = true ∧ True) ∧ True) ∧ ((105 : TypeId) = 105 ∧ (true = true ∧
 NilNil ∧ (0 : Nat) = 0) ∧ (true = true ∧ NilNil ∧ (0 : Nat) = 0) ∧ True) ∧ devB x_3.1.ws = devB y.1.ws ∧ allocB x_3.1.a = allocB y.1.a ∧ deskB x_4.1 = deskB
 (DeskQ.mk x.1.2.2.n x.1.2.2.m y.2.2) ∧ true = true ∧ True) ∧ DoI (y.1, y.2.1, DeskQ.mk x.1.2.2.n x.1.2.2.m y.2.2))) (Exx (StoreT × TickT × DeskT) fun y =>
 ((((Tr 1 (x.1.2.1.blocks = y.2.1.blocks) ∧ Tr 1 (x.1.2.1.slots = y.2.1.slots) ∧ Tr 1 (x.1.2.1.gens = y.2.1.gens) ∧ Tr 1 (x.1.2.1.top = y.2.1.top) ∧ Tr 1
 (x.1.2.1.high = y.2.1.high) ∧ Tr 1 (x.1.2.1.free = y.2.1.free) ∧ True) ∧ false = true ∧ True) ∧ True) ∧ ((105 : TypeId) = 105 ∧ (true = true ∧ NilNil ∧ (0 :
 Nat) = 0) ∧ (true = true ∧ NilNil ∧ (0 : Nat) = 0) ∧ True) ∧ devB x_3.1.ws = devB y.1.ws ∧ allocB x_3.1.a = allocB y.1.a ∧ deskB x_4.1 = deskB (DeskQ.mk
 x.1.2.2.n x.1.2.2.m y.2.2) ∧ true = true ∧ True) ∧ DoI (y.1, y.2.1, DeskQ.mk x.1.2.2.n x.1.2.2.m y.2.2)))))) = (fnVCo tb [(12, specOf tickIssueC), (14, specOf restC), (15, specOf tickReleaseC), (16, specOf tickResolveC), (18, specOf tickPointC), (33, specOf handleC), (34, specOf block08C), (35, specOf desk21IssueC), (36, specOf desk21ResolveC), (37, specOf desk21ReleaseC)] Tryd.f20 doC (fun x => { loose := [(6, [7]), (9, [7]), (10, [7]), (14, [7]), (20, [7]), (22, [7]), (23, [11])], opensE := [(23, [{ p := 3, Y := Unit, o := fun _ => deskO x.1.2.2 }])] }) (fun _ _ _ => none) (fun _ => []) (fun x y av H => deskCl 3 H ⟨x.1.2.2.n, x.1.2.2.m, y.2.2⟩)) := by kernel_rfl 

theorem do_ok : SpecOk Tryd.prog 20 (specOf doC) := by
  refine specOko mixed tb_ok (SPok.cons tickIssue_ok (SPok.cons rest_ok (SPok.cons tickRelease_ok (SPok.cons tickResolve_ok (SPok.cons tickPoint_ok (SPok.cons handle_ok (SPok.cons block08_ok (SPok.cons desk21Issue_ok (SPok.cons desk21Resolve_ok (SPok.cons desk21Release_ok SPok.nil)))))))))) Tryd.func20 (by decide) doC_ok (an := (fun x => { loose := [(6, [7]), (9, [7]), (10, [7]), (14, [7]), (20, [7]), (22, [7]), (23, [11])], opensE := [(23, [{ p := 3, Y := Unit, o := fun _ => deskO x.1.2.2 }])] })) (σ := (fun _ _ _ => none)) (op := (fun _ => [])) (cl := (fun x y av H => deskCl 3 H ⟨x.1.2.2.n, x.1.2.2.m, y.2.2⟩)) ?_
  rw [← doV]
  simp (maxSteps := 10000000) only [and_false, false_and, false_or, or_false, bOf_true, bOf_false, true_bOf, false_bOf, Exx, int_ite, merge_o, Tr_eq, true_and, and_true, exists_const, forall_const, implies_true, forall_eq, exists_eq, exists_eq', exists_eq_left, exists_eq_left', exists_eq_right, Prod.exists, Prod.forall, and_assoc, exists_and_left, BC_iff, Bool.not_eq_true', Bool.not_eq_false', decide_eq_true_eq, decide_eq_false_iff_not, I64, nat_cast_inj, Int.toNat_natCast, nats_iff, nats_iff', ints_iff, ints_iff', natss_iff, natss_iff', nilnil, litL_eq, str_inj, str_append, str_length, str_getD, str_take, lit1_iff, one_iff, two_iff, one_get, Nat.zero_add, Nat.sub_zero, Nat.reduceMul, Nat.reduceDiv, Nat.reduceAdd, Int.reduceToNat, Nat.not_lt_zero, if_false, if_true, Nat.le_refl, List.length_singleton, List.length_cons, List.length_nil, Bool.false_eq_true, not_true_eq_false, false_implies, not_false_eq_true, Prod.mk.injEq, devB_inj, allocB_inj, deskB_open, deskB_close, deskB_inj, Subtype.forall, Subtype.exists, exists_prop, DeskCap, tick_ex, store_ex, hand_ex, tick_eta, store_eta, hand_eta]
  rintro s t q a ⟨D, ha⟩
  have w := D.w
  have hh := actH_I w ha
  have hDd := D.d
  simp only at hDd
  have hle := D.le
  simp only at hle
  have hn := D.n
  simp only at hn
  have hm := D.m
  simp only at hm
  generalize ehh : actH q a = h at hh
  refine ⟨q, a, rfl, rfl, rfl, rfl, rfl, rfl, w, ha, ha.1.1, ha.1.2, by omega, by omega, fun h0 => ?_, fun h0 => ⟨fun h1 => ?_, fun h1 => ⟨fun h2 => ?_, fun h2 => ?_⟩⟩⟩
  · refine ⟨hDd.W, hDd.tI, ha.2.1.1, ha.2.1.2, ha.2.1.1, ha.2.1.2, fun hnb => ?_, fun hb => ⟨w, ha.2.1.1, ha.2.1.2, fun hno => ?_, fun hyes => ?_⟩⟩
    · have hi : ¬ issOk s t a.block := fun k => hnb ⟨k.2.1.1, by have := k.2.1.2; omega⟩
      have e : issE s t a.block = 2 := by rw [issE, if_neg hi, if_neg (fun k => hnb ⟨k.2.1, by have := k.2.2; omega⟩)]
      have eS : issS s t a.block = s := by rw [issS, if_neg hi]
      obtain ⟨eT, eH⟩ := iss_no (show ¬ issE s t a.block = 0 by rw [e]; decide)
      rw [eT, eH, eS]
      refine ⟨fun _ b hb => ⟨fun _ b2 hb2 => ⟨hb2.2 ⟨rfl, rfl, rfl, rfl, rfl, rfl⟩, q.d, rfl, D⟩, fun k => ?_⟩, fun k => absurd e k⟩
      rw [hb.2 ⟨rfl, rfl⟩] at k; cases k
    · have hdn : deskNext q.n q.d = none := by
        cases e : deskNext q.n q.d with
        | none => rfl
        | some p => rw [e] at hno; cases hno
      obtain ⟨e, eS⟩ := issue_none hDd.inv (at_ := a.block) (by omega) (by rw [hn]; exact hdn)
      obtain ⟨eT, eH⟩ := iss_no (show ¬ issE s t a.block = 0 by rw [e]; decide)
      have eD : deskIssD (q, a.block) = q.d := by rw [deskIssD]; simp only; rw [hdn]
      rw [eT, eH, eS, eD]
      refine ⟨fun _ b hb => ⟨fun _ b2 hb2 => ⟨hb2.2 ⟨rfl, rfl, rfl, rfl, rfl, rfl⟩, q.d, rfl, D⟩, fun k => ?_⟩, fun k => absurd e k⟩
      rw [hb.2 ⟨rfl, rfl⟩] at k; cases k
    · obtain ⟨⟨x, g⟩, hdn⟩ := Option.isSome_iff_exists.1 hyes
      obtain ⟨e1, k1, D1⟩ := hDd.issue (by omega) hle (at_ := a.block) (by omega) (by rw [hn]; exact hdn)
      have g1 := issT_geo e1
      have eH : deskNextH q = ⟨(x : Int), g⟩ := by rw [deskNextH, hdn]
      have eD : deskIssD (q, a.block) = deskIss q.d a.block := by rw [deskIssD]; simp only; rw [hdn]
      rw [k1, eH, eD]
      exact ⟨fun _ b hb => ⟨hb.2 ⟨rfl, rfl⟩, _, rfl, ⟨D1, g1.1.trans hn, g1.2.1.trans hm, by simp only; rw [g1.1]; exact hle⟩⟩, fun k => absurd e1 k⟩
  · rw [ehh]
    refine ⟨hDd.W, hDd.tI, hh, w, hh, fun hz => ?_, fun hz => ?_⟩
    · have hl := live_zero.1 hz
      obtain ⟨e, eS⟩ := release_dead hDd.inv hl
      have eT : relT s t h = tickZ := by rw [relT, if_neg (by rw [e]; decide)]
      rw [eT, eS]
      exact ⟨fun _ b hb => ⟨hb.2 ⟨rfl, rfl, rfl, rfl, rfl, rfl⟩, q.d, rfl, D⟩, fun k => absurd e k⟩
    · have hl : liveD q.d h := Classical.byContradiction fun k => hz (live_zero.2 k)
      obtain ⟨e1, D1⟩ := hDd.release (by omega) hle hl
      have g1 := relT_geo e1
      rw [hm] at D1
      exact ⟨w, hh, hl, e1, _, rfl, ⟨D1, g1.1.trans hn, g1.2.1.trans hm, by simp only; rw [g1.1]; exact hle⟩⟩
  · rw [ehh]
    refine ⟨hDd.W, hDd.tI, hh, ha.2.1.1, ha.2.1.2, w, hh, fun hz => ?_, fun hz => ⟨ha.2.1.1, ha.2.1.2, fun hnb => ?_, fun hb => ⟨rfl, fun c1 c2 c3 hc => ?_⟩⟩⟩
    · have hl := live_zero.1 hz
      obtain ⟨e, eS⟩ := point_dead hDd.inv hl a.block
      have eT : poiT s t h a.block = tickZ := by rw [poiT, if_neg (by rw [e]; decide)]
      rw [eT, eS]
      exact ⟨fun _ b hb => ⟨hb.2 ⟨rfl, rfl, rfl, rfl, rfl, rfl⟩, q.d, rfl, D⟩, fun k => absurd e k⟩
    · have hl : liveD q.d h := Classical.byContradiction fun k => hz (live_zero.2 k)
      have hi : ¬ poiOk s t h a.block := fun k => hnb ⟨k.2.1, by have := k.2.2; omega⟩
      have e : poiE s t h a.block = 2 := by rw [poiE, if_neg hi, if_pos (seat_live hDd.inv hl).1]
      have eS : poiS s t h a.block = s := by rw [poiS, if_neg hi]
      have eT : poiT s t h a.block = tickZ := by rw [poiT, if_neg (by rw [e]; decide)]
      rw [eT, eS]
      exact ⟨fun _ b hb => ⟨hb.2 ⟨rfl, rfl, rfl, rfl, rfl, rfl⟩, q.d, rfl, D⟩, fun k => absurd e k⟩
    · have hl : liveD q.d h := Classical.byContradiction fun k => hz (live_zero.2 k)
      obtain ⟨e1, D1⟩ := hDd.point (by omega) hle hl (at_ := a.block) (by omega)
      have g1 := poiT_geo e1
      obtain ⟨l1, l2, l3, l4⟩ := hl
      have hlb : q.d.blocks.length = q.d.gens.length := w.lb
      refine ⟨l1, by omega, by omega, poiS s t h a.block, poiT s t h a.block, deskPoi q.d h.slot.toNat a.block, rfl, ?_, rfl, Nat.le_refl _, fun _ _ => rfl, ?_, fun i hi => ?_, Nat.le_refl _, fun _ _ => rfl, rfl, rfl, rfl, rfl, rfl, rfl, e1, rfl, rfl, hc.1, ?_, hc.2.2, ⟨D1, g1.1.trans hn, g1.2.1.trans hm, by simp only; rw [g1.1]; exact hle⟩⟩
      · simp only [deskPoi, List.length_set]
      · simp only [deskPoi, List.length_set]; exact Nat.le_refl _
      · have e2 : (deskPoi q.d h.slot.toNat a.block).blocks = q.d.blocks.set h.slot.toNat a.block := rfl
        rw [e2, getD_setL (by omega)]; split <;> rfl
      · simp only [deskPoi, List.length_set]; exact hc.2.1
  · rw [ehh]
    refine ⟨hDd.W, hDd.tI, hh, w, hh, ?_⟩
    by_cases hl : liveD q.d h
    · obtain ⟨e, eX⟩ := seat_live hDd.inv hl
      have hz : ¬ (if liveD q.d h then bAt q.d h.slot.toNat else 0) = 0 := fun k => live_zero.1 k hl
      refine ⟨fun _ => ⟨fun _ => ⟨fun _ => ⟨q.d, rfl, D⟩, fun k => absurd k hz⟩, fun k => ?_⟩, fun k => ?_⟩
      · rw [decide_eq_true e, decide_eq_false hz] at k; cases k
      · rw [eX, if_pos hl] at k; exact absurd rfl k
    · have e := seat_dead hDd.inv hl
      have eX : seatX s.ws t h = seatZ := by rw [seatX, if_neg (by rw [e]; decide)]
      have hz := live_zero.2 hl
      refine ⟨fun _ => ⟨fun _ => ⟨fun k => absurd hz k, fun _ => ⟨e, q.d, rfl, D⟩⟩, fun k => ?_⟩, fun k => ?_⟩
      · rw [decide_eq_true hz, decide_eq_false (show ¬ seatE s.ws t h = 0 by rw [e]; decide)] at k; cases k
      · rw [eX, if_neg hl] at k; exact absurd rfl k

end Yard
