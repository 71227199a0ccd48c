import Derived.Test.YtlihikockhjodaaGreatDoorCrc
import Derived.Test.YtlihikockhjodaaGreatDoorAlloc

namespace Yard
open Go Go.Sx Go.Proofs
set_option linter.unusedVariables false
set_option linter.unusedSimpArgs false
set_option maxRecDepth 4000

structure DevG where
 la : Nat->Nat
 se : Nat->Nat
 fl : Nat->Bool
 cap : Nat
 left : Int
 steps : Int
abbrev zz6 (ws : List Nat) (g : DevG) : AH := [.cells 221 [.sl 1 [] 0 4 0 ws.length g.cap, .nils, i64 0, .bool false, .bool false, i64 g.left, i64 g.steps], .row 210 4 g.cap ws.length (fun j => [u64 (g.la j), u64 (ws.getD j 0), u64 (g.se j), .bool (g.fl j)])]
theorem devPl (ws : List Nat) (g : DevG) : plH (zz6 ws g) := ⟨⟨rfl, rfl, rfl, rfl, rfl, rfl, rfl, trivial⟩, ⟨fun _ _ => ⟨rfl, rfl, rfl, rfl, trivial⟩, trivial⟩, trivial⟩
abbrev devO (ws : List Nat) : Opn := { tag := [ws.map fun n : Nat => (n : Int)], G := DevG, fam := zz6 ws, pl := devPl ws, nf := fun _ => rfl, root := fun _ => rfl }
def devB (ws : List Nat) : Ob := (devO ws).ob
abbrev devI (ws : List Nat) : Sx.Item := .obj (devB ws)
theorem zaM {s t : List Nat} : (devB s = devB t) ↔ s = t := by
 constructor
 ·intro h
  have := congrArg Ob.tag h
  simp only [devB, Opn.ob, List.cons.injEq, and_true] at this
  have := congrArg (List.map Int.toNat) this
  simpa [Function.comp_def] using this
 ·intro h; rw [h]
theorem zh7 {s t : List Nat} : (devB s = (devO t).ob) ↔ s = t := zaM
theorem zgG {s t : List Nat} : ((devO s).ob = devB t) ↔ s = t := zaM

def DevW (ws : List Nat) : Prop := ws.length <= 32768/\∀ w ∈ ws, U64 w
def devTauO (args : List AV) (H : AH) : List Nat := match args with
 | .ptr p _ _ :: _ => match H[p]? with
   | some (.cells _ (.sl q _ _ _ _ _ _ :: _)) => [p, q]
   | _ => [p]
 | _ => []

def zk5 (Y : Type) (pre : List Nat × Y->Prop) (args : List Nat × Y->List AV) (res : List Nat × Y->AV) : Ctr where
 X := DevG × List Nat × Y
 Y := DevG
 conv := true
 tau := devTauO
 pre := fun x => DevW x.2.1/\pre x.2
 args := fun x => args x.2
 heap := fun x => zz6 x.2.1 x.1
 Q := fun x g => g.cap = x.1.cap
 res := fun x _ => res x.2
 its := fun x g => zz6 x.2.1 g
 new := fun _ _ => []
theorem zgV {Y : Type} {pre : List Nat × Y->Prop} {args : List Nat × Y->List AV} {res : List Nat × Y->AV} (h : ∀ x, plV 2 (res x)) : CtrOk (zk5 Y pre args res) :=
 ⟨fun _ _ _ _ => (rfl : 2 = 2), fun _ _ _ _ => ⟨rfl, rfl⟩, fun x _ _ _ _ => ⟨⟨devPl _ _, trivial⟩, h x.2⟩⟩
def zpB (Y : Type) (pre : List Nat × Y->Prop) (args : List Nat × Y->List AV) (res : List Nat × Y->AV) : Ctr where
 X := List Nat × Y
 Y := Unit
 conv := true
 tau := zg2
 pre := fun x => DevW x.1/\pre x
 args := fun x => .ptr 0 [] 0 :: args x
 heap := fun x => [devI x.1]
 Q := fun _ _ => True
 res := fun x _ => res x
 its := fun x _ => [devI x.1]
 new := fun _ _ => []
theorem zi3 {Y : Type} {pre : List Nat × Y->Prop} {args : List Nat × Y->List AV} {res : List Nat × Y->AV} (h : ∀ x, plV 2 (res x)) : CtrOk (zpB Y pre args res) :=
 ⟨fun _ _ _ _ => rfl, fun _ _ _ _ => ⟨rfl, rfl⟩, fun x _ _ _ _ => ⟨⟨⟨trivial, trivial⟩, trivial⟩, h x⟩⟩
def zs1 (Y : Type) (pre : List Nat × Y->Prop) (args : List Nat × Y->List AV) (g : List Nat × Y->List Nat) (res : List Nat × Y->AV) : Ctr where
 X := List Nat × Y
 Y := Unit
 conv := true
 tau := zg2
 pre := fun x => DevW x.1/\pre x
 args := fun x => .ptr 0 [] 0 :: args x
 heap := fun x => [devI x.1]
 Q := fun _ _ => True
 res := fun x _ => res x
 its := fun x _ => [devI (g x)]
 new := fun _ _ => []
theorem zl9 {Y : Type} {pre : List Nat × Y->Prop} {args : List Nat × Y->List AV} {g : List Nat × Y->List Nat} {res : List Nat × Y->AV} (h : ∀ x, plV 2 (res x)) : CtrOk (zs1 Y pre args g res) :=
 ⟨fun _ _ _ _ => (rfl : 1 = 1), fun _ _ _ _ => ⟨rfl, rfl⟩, fun x _ _ _ _ => ⟨⟨⟨trivial, trivial⟩, trivial⟩, h x⟩⟩

def zh6 : Ctr := zpB Unit (fun _ => True) (fun _ => []) (fun x => i64 (x.1.length / 8 : Nat))
def zgF : Ctr := zk5 Unit (fun _ => True) (fun _ => [.ptr 0 [] 0]) (fun x => i64 (x.1.length / 8 : Nat))

theorem qg8 : (∀ (x : List Nat × Unit),
 let q1 : Int := (x.1.length : Int).tdiv 8; DevW x.1/\True->devB x.1 = (devO x.1).ob/\∀ (g : DevG), (8 : Int) ≠ (0 : Int)/\I64 q1/\Exx Unit fun y => Exx DevG fun g_1 => Tr 1 (((221 : TypeId) = 221/\(true = true/\zaC/\(0 : Nat) = 0/\(4 : Nat) = 4/\(0 : Nat) = 0/\x.1.length = x.1.length/\g.cap = g_1.cap)/\Tr 1 (Tr 1 ((0 : Int) = 0)/\false = false/\false = false/\Tr 1 (g.left = g_1.left)/\Tr 1 (g.steps = g_1.steps)/\True))/\((210 : TypeId) = 210/\(4 : Nat) = 4/\g.cap = g_1.cap/\x.1.length <= x.1.length/\∀ (i : Nat),
 let q2 : AV := AV.int .u64 (↑(x.1.getD i 0) : Int); i < x.1.length->[AV.int .u64 (↑(g.la i) : Int), q2, AV.int .u64 (↑(g.se i) : Int), AV.bool (g.fl i)] = [AV.int .u64 (↑(g_1.la i) : Int), q2, AV.int .u64 (↑(g_1.se i) : Int), AV.bool (g_1.fl i)])/\True)/\((Tr 1 (q1 = (↑(x.1.length / 8) : Int))/\True)/\(devO x.1).ob = devB x.1/\true = true/\True)/\True) = (zcO tb [] Tryz.f113 zh6 (fun _ => {}) (fun _ _ _ => none) (fun x => [(0, devO x.1)]) (fun x y av H => [(0, [2], devO x.1)])) := by kernel_rfl

theorem zj4 : SpecOk Tryz.prog 113 (zaA zh6) := by
 refine za0 mixed zaL SPok.nil Tryz.func113 (by decide) (zi3 fun _ => rfl) (Eq.mp qg8 ?_)
 simp (maxSteps := 10000000) only [std, stdU, stdV, Exx, I64, Nat.reduceMul, Nat.reduceDiv, Nat.reduceAdd, Int.reduceToNat, zh7, zgG, zaM]
 intro ws h g
 have := h.1
 have e : (ws.length : Int).tdiv 8 = ((ws.length / 8 : Nat) : Int) := rfl
 rw [e]
 exact ⟨by omega, by omega, by omega, g, rfl, rfl, rfl, rfl, fun _ _ => rfl, rfl⟩

theorem qb8 : (∀ (x : DevG × List Nat × Unit),
 let q1 : Int := (x.2.1.length : Int).tdiv 8; DevW x.2.1/\True->(8 : Int) ≠ (0 : Int)/\I64 q1/\Exx DevG fun y => ((Tr 1 (q1 = (↑(x.2.1.length / 8) : Int))/\True)/\((221 : TypeId) = 221/\(true = true/\zaC/\(0 : Nat) = 0/\(4 : Nat) = 4/\(0 : Nat) = 0/\x.2.1.length = x.2.1.length/\x.1.cap = y.cap)/\Tr 1 (Tr 1 ((0 : Int) = 0)/\false = false/\false = false/\Tr 1 (x.1.left = y.left)/\Tr 1 (x.1.steps = y.steps)/\True))/\((210 : TypeId) = 210/\(4 : Nat) = 4/\x.1.cap = y.cap/\x.2.1.length <= x.2.1.length/\∀ (i : Nat),
 let q2 : AV := AV.int .u64 (↑(x.2.1.getD i 0) : Int); i < x.2.1.length->[AV.int .u64 (↑(x.1.la i) : Int), q2, AV.int .u64 (↑(x.1.se i) : Int), AV.bool (x.1.fl i)] = [AV.int .u64 (↑(y.la i) : Int), q2, AV.int .u64 (↑(y.se i) : Int), AV.bool (y.fl i)])/\true = true/\True)/\y.cap = x.1.cap) = (fnVC tb [] Tryz.f113 zgF (fun _ => {}) (fun _ => none)) := by kernel_rfl

theorem zh5 : SpecOk Tryz.prog 113 (zaA zgF) := by
 refine zaJ mixed zaL SPok.nil Tryz.func113 (by decide) (zgV fun _ => rfl) (Eq.mp qb8 ?_)
 simp (maxSteps := 10000000) only [std, stdU, stdV, Exx, I64, Nat.reduceMul, Nat.reduceDiv, Nat.reduceAdd, Int.reduceToNat]
 intro g ws h
 have := h.1
 have e : (ws.length : Int).tdiv 8 = ((ws.length / 8 : Nat) : Int) := rfl
 rw [e]
 exact ⟨by omega, by omega, by omega, rfl, g, rfl, rfl, rfl, rfl, fun _ _ => rfl, rfl⟩

def mayErr (at_ n : Int) : Int := if 0 <= at_/\at_ < n then 0 else 2
def zpA : Ctr := zk5 (Int × Int) (fun x => I64 x.2.1/\I64 x.2.2) (fun x => [.ptr 0 [] 0, i64 x.2.1, i64 x.2.2]) (fun x => i64 (mayErr x.2.1 x.2.2))

theorem devMayV : (∀ (x : DevG × List Nat × Int × Int),
 let q1 : Int := mayErr x.2.2.1 x.2.2.2;
 let q3 : Prop := Exx DevG fun y => ((Tr 1 ((2 : Int) = q1)/\True)/\((221 : TypeId) = 221/\(true = true/\zaC/\(0 : Nat) = 0/\(4 : Nat) = 4/\(0 : Nat) = 0/\x.2.1.length = x.2.1.length/\x.1.cap = y.cap)/\Tr 1 (Tr 1 ((0 : Int) = 0)/\false = false/\false = false/\Tr 1 (x.1.left = y.left)/\Tr 1 (x.1.steps = y.steps)/\True))/\((210 : TypeId) = 210/\(4 : Nat) = 4/\x.1.cap = y.cap/\x.2.1.length <= x.2.1.length/\∀ (i : Nat),
 let q2 : AV := AV.int .u64 (↑(x.2.1.getD i 0) : Int); i < x.2.1.length->[AV.int .u64 (↑(x.1.la i) : Int), q2, AV.int .u64 (↑(x.1.se i) : Int), AV.bool (x.1.fl i)] = [AV.int .u64 (↑(y.la i) : Int), q2, AV.int .u64 (↑(y.se i) : Int), AV.bool (y.fl i)])/\true = true/\True)/\y.cap = x.1.cap; DevW x.2.1/\I64 x.2.2.1/\I64 x.2.2.2->BC (decide (x.2.2.1 < (0 : Int))) q3 (BC (decide (x.2.2.2 <= x.2.2.1)) q3 (Exx DevG fun y => ((Tr 1 ((0 : Int) = q1)/\True)/\((221 : TypeId) = 221/\(true = true/\zaC/\(0 : Nat) = 0/\(4 : Nat) = 4/\(0 : Nat) = 0/\x.2.1.length = x.2.1.length/\x.1.cap = y.cap)/\Tr 1 (Tr 1 ((0 : Int) = 0)/\false = false/\false = false/\Tr 1 (x.1.left = y.left)/\Tr 1 (x.1.steps = y.steps)/\True))/\((210 : TypeId) = 210/\(4 : Nat) = 4/\x.1.cap = y.cap/\x.2.1.length <= x.2.1.length/\∀ (i : Nat),
 let q4 : AV := AV.int .u64 (↑(x.2.1.getD i 0) : Int); i < x.2.1.length->[AV.int .u64 (↑(x.1.la i) : Int), q4, AV.int .u64 (↑(x.1.se i) : Int), AV.bool (x.1.fl i)] = [AV.int .u64 (↑(y.la i) : Int), q4, AV.int .u64 (↑(y.se i) : Int), AV.bool (y.fl i)])/\true = true/\True)/\y.cap = x.1.cap))) = (fnVC tb [] Tryz.f186 zpA (fun _ => {}) (fun _ => none)) := by kernel_rfl

theorem zo9 : SpecOk Tryz.prog 186 (zaA zpA) := by
 refine zaJ mixed zaL SPok.nil Tryz.func186 (by decide) (zgV fun _ => rfl) (Eq.mp devMayV ?_)
 simp (maxSteps := 10000000) only [std, stdU, stdV, Exx, I64, Nat.reduceMul, Nat.reduceDiv, Nat.reduceAdd, Int.reduceToNat]
 rintro g ws a n ⟨h, h1, h2, h3, h4⟩
 refine ⟨fun h5 => ⟨by rw [mayErr, if_neg (by omega)], g, rfl, rfl, rfl, rfl, fun _ _ => rfl, rfl⟩, fun h5 => ⟨fun h6 => ⟨by rw [mayErr, if_neg (by omega)], g, rfl, rfl, rfl, rfl, fun _ _ => rfl, rfl⟩, fun h6 => ⟨by rw [mayErr, if_pos (by omega)], g, rfl, rfl, rfl, rfl, fun _ _ => rfl, rfl⟩⟩⟩

def zoF : Ctr := zk5 Unit (fun _ => True) (fun _ => [.ptr 0 [] 1]) (fun _ => i64 (-1))

theorem qeV : (∀ (x : DevG × List Nat × Unit), DevW x.2.1/\True->Exx DevG fun y => ((Tr 1 (-(1 : Int) = -(1 : Int))/\True)/\((221 : TypeId) = 221/\(true = true/\zaC/\(0 : Nat) = 0/\(4 : Nat) = 4/\(0 : Nat) = 0/\x.2.1.length = x.2.1.length/\x.1.cap = y.cap)/\Tr 1 (Tr 1 ((0 : Int) = 0)/\false = false/\false = false/\Tr 1 (x.1.left = y.left)/\Tr 1 (x.1.steps = y.steps)/\True))/\((210 : TypeId) = 210/\(4 : Nat) = 4/\x.1.cap = y.cap/\x.2.1.length <= x.2.1.length/\∀ (i : Nat),
 let q1 : AV := AV.int .u64 (↑(x.2.1.getD i 0) : Int); i < x.2.1.length->[AV.int .u64 (↑(x.1.la i) : Int), q1, AV.int .u64 (↑(x.1.se i) : Int), AV.bool (x.1.fl i)] = [AV.int .u64 (↑(y.la i) : Int), q1, AV.int .u64 (↑(y.se i) : Int), AV.bool (y.fl i)])/\true = true/\True)/\y.cap = x.1.cap) = (fnVC tb [] Tryz.f203 zoF (fun _ => {}) (fun _ => none)) := by kernel_rfl

theorem zw9 : SpecOk Tryz.prog 203 (zaA zoF) := by
 refine zaJ mixed zaL SPok.nil Tryz.func203 (by decide) (zgV fun _ => rfl) (Eq.mp qeV ?_)
 simp (maxSteps := 10000000) only [std, stdU, stdV, Exx, I64, Nat.reduceMul, Nat.reduceDiv, Nat.reduceAdd, Int.reduceToNat]
 exact fun g ws h => ⟨g, rfl, rfl, rfl, rfl, fun _ _ => rfl, rfl⟩

def znD : Ctr := zk5 Unit (fun _ => True) (fun _ => [.ptr 0 [] 0]) (fun _ => .tup [])

theorem qkR : (
 let q1 : Prop := (221 : TypeId) = 221;
 let q2 : Prop := (210 : TypeId) = 210; ∀ (x : DevG × List Nat × Unit), DevW x.2.1/\True->∀ (n : Int), n = IntKind.i64.wrap (x.1.steps + 1)->Exx (DevG × List Nat × Unit) fun x_1 => (((true = true/\zaC/\(0 : Nat) + (1 : Nat) = 1)/\True)/\true = true/\(q1/\(true = true/\zaC/\(0 : Nat) = 0/\(4 : Nat) = 4/\(0 : Nat) = 0/\x.2.1.length = x_1.2.1.length/\x.1.cap = x_1.1.cap)/\Tr 1 (Tr 1 ((0 : Int) = 0)/\false = false/\false = false/\Tr 1 (x.1.left = x_1.1.left)/\Tr 1 (n = x_1.1.steps)/\True))/\(q2/\(4 : Nat) = 4/\x.1.cap = x_1.1.cap/\x_1.2.1.length <= x.2.1.length/\∀ (i : Nat), i < x_1.2.1.length->[AV.int .u64 (↑(x.1.la i) : Int), AV.int .u64 (↑(x.2.1.getD i 0) : Int), AV.int .u64 (↑(x.1.se i) : Int), AV.bool (x.1.fl i)] = [AV.int .u64 (↑(x_1.1.la i) : Int), AV.int .u64 (↑(x_1.2.1.getD i 0) : Int), AV.int .u64 (↑(x_1.1.se i) : Int), AV.bool (x_1.1.fl i)])/\True)/\(DevW x_1.2.1/\True)/\∀ (y : DevG), y.cap = x_1.1.cap->Exx DevG fun y_1 => (Tr 1 True/\(q1/\(true = true/\zaC/\(0 : Nat) = 0/\(4 : Nat) = 4/\(0 : Nat) = 0/\x_1.2.1.length = x.2.1.length/\y.cap = y_1.cap)/\Tr 1 (Tr 1 ((0 : Int) = 0)/\false = false/\false = false/\Tr 1 (y.left = y_1.left)/\Tr 1 (y.steps = y_1.steps)/\True))/\(q2/\(4 : Nat) = 4/\y.cap = y_1.cap/\x.2.1.length <= x_1.2.1.length/\∀ (i : Nat), i < x.2.1.length->[AV.int .u64 (↑(y.la i) : Int), AV.int .u64 (↑(x_1.2.1.getD i 0) : Int), AV.int .u64 (↑(y.se i) : Int), AV.bool (y.fl i)] = [AV.int .u64 (↑(y_1.la i) : Int), AV.int .u64 (↑(x.2.1.getD i 0) : Int), AV.int .u64 (↑(y_1.se i) : Int), AV.bool (y_1.fl i)])/\true = true/\True)/\y_1.cap = x.1.cap) = (fnVC (wr tb) [(203, zaA zoF)] Tryz.f187 znD (fun _ => {}) (fun _ => none)) := by kernel_rfl

theorem zq8 : SpecOk Tryz.prog 187 (zaA znD) := by
 refine zaJ mixed (wr_ok zaL) (SPok.cons zw9 SPok.nil) Tryz.func187 (by decide) (zgV fun _ => trivial) (Eq.mp qkR ?_)
 simp (maxSteps := 10000000) only [std, stdU, stdV, Exx, I64, Nat.reduceMul, Nat.reduceDiv, Nat.reduceAdd, Int.reduceToNat]
 exact fun g ws h => ⟨{ g with steps := IntKind.i64.wrap (g.steps + 1) }, ws, rfl, rfl, rfl, rfl, rfl, Nat.le_refl _, fun _ _ => rfl, h, fun y hy => ⟨rfl, y, rfl, rfl, rfl, rfl, Nat.le_refl _, fun _ _ => rfl, hy⟩⟩

def zcL (ws : List Nat) (at_ : Int) : Int := mayErr at_ (ws.length : Nat)
def zjD (ws : List Nat) (at_ : Int) (w : Nat) : List Nat := if 0 <= at_ then ws.set at_.toNat w else ws
def zo8 : Ctr := zs1 (Int × Nat) (fun x => I64 x.2.1/\U64 x.2.2) (fun x => [i64 x.2.1, u64 x.2.2]) (fun x => zjD x.1 x.2.1 x.2.2) (fun x => i64 (zcL x.1 x.2.1))

theorem qg6 : (
 let q1 : Prop := true = true/\zaC/\(0 : Nat) = 0;
 let q2 : Prop := (221 : TypeId) = 221;
 let q3 : Prop := (210 : TypeId) = 210; ∀ (x : List Nat × Int × Nat),
 let q4 : List Nat := zjD x.1 x.2.1 x.2.2;
 let q5 : Nat := q4.length;
 let q6 : Int := zcL x.1 x.2.1;
 let q7 : Prop := (devO q4).ob = devB q4/\true = true/\True;
 let q8 : Nat := 0 + x.2.1.toNat; DevW x.1/\I64 x.2.1/\U64 x.2.2->devB x.1 = (devO x.1).ob/\∀ (g : DevG), Exx (DevG × List Nat × Int × Int) fun x_1 =>
 let q9 : Int := mayErr x_1.2.2.1 x_1.2.2.2; ((q1/\Tr 1 (x.2.1 = x_1.2.2.1)/\Tr 1 ((x.1.length : Int) = x_1.2.2.2)/\True)/\true = true/\(q2/\(true = true/\zaC/\(0 : Nat) = 0/\(4 : Nat) = 4/\(0 : Nat) = 0/\x.1.length = x_1.2.1.length/\g.cap = x_1.1.cap)/\Tr 1 (Tr 1 ((0 : Int) = 0)/\false = false/\false = false/\Tr 1 (g.left = x_1.1.left)/\Tr 1 (g.steps = x_1.1.steps)/\True))/\(q3/\(4 : Nat) = 4/\g.cap = x_1.1.cap/\x_1.2.1.length <= x.1.length/\∀ (i : Nat), i < x_1.2.1.length->[AV.int .u64 (↑(g.la i) : Int), AV.int .u64 (↑(x.1.getD i 0) : Int), AV.int .u64 (↑(g.se i) : Int), AV.bool (g.fl i)] = [AV.int .u64 (↑(x_1.1.la i) : Int), AV.int .u64 (↑(x_1.2.1.getD i 0) : Int), AV.int .u64 (↑(x_1.1.se i) : Int), AV.bool (x_1.1.fl i)])/\True)/\(DevW x_1.2.1/\I64 x_1.2.2.1/\I64 x_1.2.2.2)/\∀ (y : DevG), y.cap = x_1.1.cap->BC (!decide (q9 = (0 : Int))) (Exx Unit fun y_1 => Exx DevG fun g => Tr 1 ((q2/\(true = true/\zaC/\(0 : Nat) = 0/\(4 : Nat) = 4/\(0 : Nat) = 0/\x_1.2.1.length = q5/\y.cap = g.cap)/\Tr 1 (Tr 1 ((0 : Int) = 0)/\false = false/\false = false/\Tr 1 (y.left = g.left)/\Tr 1 (y.steps = g.steps)/\True))/\(q3/\(4 : Nat) = 4/\y.cap = g.cap/\q5 <= x_1.2.1.length/\∀ (i : Nat), i < q5->[AV.int .u64 (↑(y.la i) : Int), AV.int .u64 (↑(x_1.2.1.getD i 0) : Int), AV.int .u64 (↑(y.se i) : Int), AV.bool (y.fl i)] = [AV.int .u64 (↑(g.la i) : Int), AV.int .u64 (↑(q4.getD i 0) : Int), AV.int .u64 (↑(g.se i) : Int), AV.bool (g.fl i)])/\True)/\((Tr 1 (q9 = q6)/\True)/\q7)/\True) (((0 : Int) <= x.2.1/\x.2.1 < (x_1.2.1.length : Int))/\q8 < x_1.2.1.length/\x_1.2.1.length = x_1.2.1.length/\Exx (DevG × List Nat × Unit) fun x_2 => ((q1/\True)/\true = true/\(q2/\(true = true/\zaC/\(0 : Nat) = 0/\(4 : Nat) = 4/\(0 : Nat) = 0/\x_1.2.1.length = x_2.2.1.length/\y.cap = x_2.1.cap)/\Tr 1 (Tr 1 ((0 : Int) = 0)/\false = false/\false = false/\Tr 1 (y.left = x_2.1.left)/\Tr 1 (y.steps = x_2.1.steps)/\True))/\(q3/\(4 : Nat) = 4/\y.cap = x_2.1.cap/\x_2.2.1.length <= x_1.2.1.length/\∀ (i : Nat), i < x_2.2.1.length->[AV.int .u64 (if i = q8 then (↑(y.la q8) : Int) else (↑(y.la i) : Int)), AV.int .u64 (if i = q8 then (x.2.2 : Int) else (↑(x_1.2.1.getD i 0) : Int)), AV.int .u64 (if i = q8 then (↑(y.se q8) : Int) else (↑(y.se i) : Int)), AV.bool (if i = q8 then y.fl q8 else y.fl i)] = [AV.int .u64 (↑(x_2.1.la i) : Int), AV.int .u64 (↑(x_2.2.1.getD i 0) : Int), AV.int .u64 (↑(x_2.1.se i) : Int), AV.bool (x_2.1.fl i)])/\True)/\(DevW x_2.2.1/\True)/\∀ (y : DevG), y.cap = x_2.1.cap->Exx Unit fun y_1 => Exx DevG fun g => Tr 1 ((q2/\(true = true/\zaC/\(0 : Nat) = 0/\(4 : Nat) = 4/\(0 : Nat) = 0/\x_2.2.1.length = q5/\y.cap = g.cap)/\Tr 1 (Tr 1 ((0 : Int) = 0)/\false = false/\false = false/\Tr 1 (y.left = g.left)/\Tr 1 (y.steps = g.steps)/\True))/\(q3/\(4 : Nat) = 4/\y.cap = g.cap/\q5 <= x_2.2.1.length/\∀ (i : Nat), i < q5->[AV.int .u64 (↑(y.la i) : Int), AV.int .u64 (↑(x_2.2.1.getD i 0) : Int), AV.int .u64 (↑(y.se i) : Int), AV.bool (y.fl i)] = [AV.int .u64 (↑(g.la i) : Int), AV.int .u64 (↑(q4.getD i 0) : Int), AV.int .u64 (↑(g.se i) : Int), AV.bool (g.fl i)])/\True)/\((Tr 1 ((0 : Int) = q6)/\True)/\q7)/\True)) = (zcO tb [(186, zaA zpA), (187, zaA znD)] Tryz.f155 zo8 (fun _ => {}) (fun _ _ _ => none) (fun x => [(0, devO x.1)]) (fun x y av H => [(0, [2], devO (zjD x.1 x.2.1 x.2.2))])) := by kernel_rfl

theorem zx8 : SpecOk Tryz.prog 155 (zaA zo8) := by
 refine za0 mixed zaL (SPok.cons zo9 (SPok.cons zq8 SPok.nil)) Tryz.func155 (by decide) (zl9 fun _ => rfl) (Eq.mp qg6 ?_)
 simp (maxSteps := 10000000) only [std, stdU, stdV, Exx, I64, Nat.reduceMul, Nat.reduceDiv, Nat.reduceAdd, Int.reduceToNat, zh7, zgG, zaM]
 rintro ws a w ⟨h, h1, h2, hw⟩ g
 have hlen := h.1
 refine ⟨g, ws, rfl, rfl, rfl, rfl, rfl, Nat.le_refl _, fun _ _ => rfl, h, h1, h2, by omega, by omega, fun y hy => ⟨fun hne => ?_, fun hz => ?_⟩⟩
 ·have e : zjD ws a w = ws := by
   rw [zjD]; split
   ·rename_i h0
    refine List.set_eq_of_length_le ?_
    by_cases h3 : a < (ws.length : Int)
    ·exact absurd (show mayErr a (ws.length : Int) = 0 by rw [mayErr, if_pos ⟨h0, h3⟩]) hne
    ·omega
   ·rfl
  rw [e]
  exact ⟨rfl, y, rfl, rfl, rfl, rfl, Nat.le_refl _, fun _ _ => rfl, rfl⟩
 ·obtain ⟨h3, h4⟩ : 0 <= a/\a < (ws.length : Int) := by
   by_cases k : 0 <= a/\a < (ws.length : Int)
   ·exact k
   ·rw [mayErr, if_neg k] at hz; cases hz
  have hk : a.toNat < ws.length := by omega
  have e : zjD ws a w = ws.set a.toNat w := by rw [zjD, if_pos h3]
  have hwl : DevW (ws.set a.toNat w) := ⟨by rw [List.length_set]; exact hlen, fun x hx => by
   rcases List.mem_or_eq_of_mem_set hx with k | k
   ·exact h.2 x k
   ·rw [k]; exact hw⟩
  refine ⟨h3, h4, hk, y, ws.set a.toNat w, by rw [List.length_set], rfl, rfl, rfl, rfl, by rw [List.length_set]; exact Nat.le_refl _, fun i hi => ?_, hwl, fun y2 hy2 => ?_⟩
  ·rw [zsO hk]
   by_cases k : i = a.toNat
   ·subst k; simp
   ·simp [k]
  ·rw [e]
   exact ⟨rfl, y2, rfl, rfl, rfl, rfl, Nat.le_refl _, fun _ _ => rfl, by rw [zcL, hz]⟩

def zs2 : Ctr := zpB Int (fun x => I64 x.2) (fun x => [i64 x.2]) (fun x => .tup [u64 (if 0 <= x.2 then x.1.getD x.2.toNat 0 else 0), i64 (zcL x.1 x.2)])

theorem qkS : (
 let q1 : Prop := (221 : TypeId) = 221;
 let q2 : Prop := (210 : TypeId) = 210; ∀ (x : List Nat × Int),
 let q3 : Int := (↑(if (0 : Int) <= x.2 then x.1.getD x.2.toNat 0 else 0) : Int);
 let q4 : Prop := (devO x.1).ob = devB x.1/\true = true/\True;
 let q5 : Nat := 0 + x.2.toNat; DevW x.1/\I64 x.2->devB x.1 = (devO x.1).ob/\∀ (g : DevG), Exx (DevG × List Nat × Int × Int) fun x_1 =>
 let q6 : Int := mayErr x_1.2.2.1 x_1.2.2.2; (((true = true/\zaC/\(0 : Nat) = 0)/\Tr 1 (x.2 = x_1.2.2.1)/\Tr 1 ((x.1.length : Int) = x_1.2.2.2)/\True)/\true = true/\(q1/\(true = true/\zaC/\(0 : Nat) = 0/\(4 : Nat) = 4/\(0 : Nat) = 0/\x.1.length = x_1.2.1.length/\g.cap = x_1.1.cap)/\Tr 1 (Tr 1 ((0 : Int) = 0)/\false = false/\false = false/\Tr 1 (g.left = x_1.1.left)/\Tr 1 (g.steps = x_1.1.steps)/\True))/\(q2/\(4 : Nat) = 4/\g.cap = x_1.1.cap/\x_1.2.1.length <= x.1.length/\∀ (i : Nat), i < x_1.2.1.length->[AV.int .u64 (↑(g.la i) : Int), AV.int .u64 (↑(x.1.getD i 0) : Int), AV.int .u64 (↑(g.se i) : Int), AV.bool (g.fl i)] = [AV.int .u64 (↑(x_1.1.la i) : Int), AV.int .u64 (↑(x_1.2.1.getD i 0) : Int), AV.int .u64 (↑(x_1.1.se i) : Int), AV.bool (x_1.1.fl i)])/\True)/\(DevW x_1.2.1/\I64 x_1.2.2.1/\I64 x_1.2.2.2)/\∀ (y : DevG), y.cap = x_1.1.cap->BC (!decide (q6 = (0 : Int))) (Exx Unit fun y_1 => Exx DevG fun g => Tr 1 ((q1/\(true = true/\zaC/\(0 : Nat) = 0/\(4 : Nat) = 4/\(0 : Nat) = 0/\x_1.2.1.length = x.1.length/\y.cap = g.cap)/\Tr 1 (Tr 1 ((0 : Int) = 0)/\false = false/\false = false/\Tr 1 (y.left = g.left)/\Tr 1 (y.steps = g.steps)/\True))/\(q2/\(4 : Nat) = 4/\y.cap = g.cap/\x.1.length <= x_1.2.1.length/\∀ (i : Nat), i < x.1.length->[AV.int .u64 (↑(y.la i) : Int), AV.int .u64 (↑(x_1.2.1.getD i 0) : Int), AV.int .u64 (↑(y.se i) : Int), AV.bool (y.fl i)] = [AV.int .u64 (↑(g.la i) : Int), AV.int .u64 (↑(x.1.getD i 0) : Int), AV.int .u64 (↑(g.se i) : Int), AV.bool (g.fl i)])/\True)/\(((Tr 1 ((0 : Int) = q3)/\Tr 1 (q6 = zcL x.1 x.2)/\True)/\True)/\q4)/\True) (((0 : Int) <= x.2/\x.2 < (x_1.2.1.length : Int))/\q5 < x_1.2.1.length/\Exx Unit fun y_1 => Exx DevG fun g => Tr 1 ((q1/\(true = true/\zaC/\(0 : Nat) = 0/\(4 : Nat) = 4/\(0 : Nat) = 0/\x_1.2.1.length = x.1.length/\y.cap = g.cap)/\Tr 1 (Tr 1 ((0 : Int) = 0)/\false = false/\false = false/\Tr 1 (y.left = g.left)/\Tr 1 (y.steps = g.steps)/\True))/\(q2/\(4 : Nat) = 4/\y.cap = g.cap/\x.1.length <= x_1.2.1.length/\∀ (i : Nat), i < x.1.length->[AV.int .u64 (↑(y.la i) : Int), AV.int .u64 (↑(x_1.2.1.getD i 0) : Int), AV.int .u64 (↑(y.se i) : Int), AV.bool (y.fl i)] = [AV.int .u64 (↑(g.la i) : Int), AV.int .u64 (↑(x.1.getD i 0) : Int), AV.int .u64 (↑(g.se i) : Int), AV.bool (g.fl i)])/\True)/\(((Tr 1 ((↑(x_1.2.1.getD q5 0) : Int) = q3)/\Tr 1 ((0 : Int) = zcL x.1 x.2)/\True)/\True)/\q4)/\True)) = (zcO tb [(186, zaA zpA)] Tryz.f159 zs2 (fun _ => {}) (fun _ _ _ => none) (fun x => [(0, devO x.1)]) (fun x y av H => [(0, [2], devO x.1)])) := by kernel_rfl

theorem qb7 : SpecOk Tryz.prog 159 (zaA zs2) := by
 refine za0 mixed zaL (SPok.cons zo9 SPok.nil) Tryz.func159 (by decide) (zi3 fun _ => ⟨rfl, rfl, trivial⟩) (Eq.mp qkS ?_)
 simp (maxSteps := 10000000) only [std, stdU, stdV, Exx, I64, Nat.reduceMul, Nat.reduceDiv, Nat.reduceAdd, Int.reduceToNat, zh7, zgG, zaM]
 rintro ws a ⟨h, h1, h2⟩ g
 have hlen := h.1
 refine ⟨g, ws, rfl, rfl, rfl, rfl, rfl, Nat.le_refl _, fun _ _ => rfl, h, h1, h2, by omega, by omega, fun y hy => ⟨fun hne => ⟨rfl, y, rfl, rfl, rfl, rfl, Nat.le_refl _, fun _ _ => rfl, ?_, rfl⟩, fun hz => ?_⟩⟩
 ·split
  ·rename_i h0
   have : ws.length <= a.toNat := by
    by_cases h3 : a < (ws.length : Int)
    ·exact absurd (show mayErr a (ws.length : Int) = 0 by rw [mayErr, if_pos ⟨h0, h3⟩]) hne
    ·omega
   rw [List.getD_eq_getElem?_getD, List.getElem?_eq_none this]; rfl
  ·rfl
 ·obtain ⟨h3, h4⟩ : 0 <= a/\a < (ws.length : Int) := by
   by_cases k : 0 <= a/\a < (ws.length : Int)
   ·exact k
   ·rw [mayErr, if_neg k] at hz; cases hz
  exact ⟨h3, h4, by omega, rfl, y, rfl, rfl, rfl, rfl, Nat.le_refl _, fun _ _ => rfl, by rw [if_pos h3], by rw [zcL, hz]⟩

def zpC : Ctr := zpB Int (fun x => I64 x.2) (fun x => [i64 x.2]) (fun x => i64 (mayErr x.2 (x.1.length / 8 : Nat)))
def flushLA (x : List Nat × Int) : LA := { T := Nat × DevG, F := fun s => frm 41 [(0, .ptr 0 [] 0), (1, i64 x.2), (16, i64 (s.1 : Nat))], H := fun s => [.cells 221 [.sl 2 [] 0 4 0 x.1.length s.2.cap, .nils, i64 0, .bool false, .bool false, i64 s.2.left, i64 s.2.steps], .fence, .row 210 4 s.2.cap x.1.length (fun j => [u64 (s.2.la j), u64 (x.1.getD j 0), u64 (s.2.se j), .bool (s.2.fl j)])] }

theorem qg9 : (
 let q1 : Prop := true = true/\zaC/\(0 : Nat) = 0;
 let q2 : Prop := q1/\True;
 let q3 : Prop := (221 : TypeId) = 221;
 let q4 : Prop := (210 : TypeId) = 210; ∀ (x : List Nat × Int),
 let q5 : Int := mayErr x.2 (↑(x.1.length / 8) : Int);
 let q6 : Prop := (devO x.1).ob = devB x.1/\true = true/\True;
 let q7 : Int := x.2 * 8; DevW x.1/\I64 x.2->devB x.1 = (devO x.1).ob/\∀ (g : DevG), Exx (DevG × List Nat × Unit) fun x_1 => (q2/\true = true/\(q3/\(true = true/\zaC/\(0 : Nat) = 0/\(4 : Nat) = 4/\(0 : Nat) = 0/\x.1.length = x_1.2.1.length/\g.cap = x_1.1.cap)/\Tr 1 (Tr 1 ((0 : Int) = 0)/\false = false/\false = false/\Tr 1 (g.left = x_1.1.left)/\Tr 1 (g.steps = x_1.1.steps)/\True))/\(q4/\(4 : Nat) = 4/\g.cap = x_1.1.cap/\x_1.2.1.length <= x.1.length/\∀ (i : Nat), i < x_1.2.1.length->[AV.int .u64 (↑(g.la i) : Int), AV.int .u64 (↑(x.1.getD i 0) : Int), AV.int .u64 (↑(g.se i) : Int), AV.bool (g.fl i)] = [AV.int .u64 (↑(x_1.1.la i) : Int), AV.int .u64 (↑(x_1.2.1.getD i 0) : Int), AV.int .u64 (↑(x_1.1.se i) : Int), AV.bool (x_1.1.fl i)])/\True)/\(DevW x_1.2.1/\True)/\∀ (y : DevG), y.cap = x_1.1.cap->Exx (DevG × List Nat × Int × Int) fun x_2 =>
 let q8 : Int := mayErr x_2.2.2.1 x_2.2.2.2;
 let q9 : Prop := x_2.2.1.length = x.1.length;
 let q10 : Prop := x.1.length <= x_2.2.1.length; ((q1/\Tr 1 (x.2 = x_2.2.2.1)/\Tr 1 ((↑(x_1.2.1.length / 8) : Int) = x_2.2.2.2)/\True)/\true = true/\(q3/\(true = true/\zaC/\(0 : Nat) = 0/\(4 : Nat) = 4/\(0 : Nat) = 0/\x_1.2.1.length = x_2.2.1.length/\y.cap = x_2.1.cap)/\Tr 1 (Tr 1 ((0 : Int) = 0)/\false = false/\false = false/\Tr 1 (y.left = x_2.1.left)/\Tr 1 (y.steps = x_2.1.steps)/\True))/\(q4/\(4 : Nat) = 4/\y.cap = x_2.1.cap/\x_2.2.1.length <= x_1.2.1.length/\∀ (i : Nat), i < x_2.2.1.length->[AV.int .u64 (↑(y.la i) : Int), AV.int .u64 (↑(x_1.2.1.getD i 0) : Int), AV.int .u64 (↑(y.se i) : Int), AV.bool (y.fl i)] = [AV.int .u64 (↑(x_2.1.la i) : Int), AV.int .u64 (↑(x_2.2.1.getD i 0) : Int), AV.int .u64 (↑(x_2.1.se i) : Int), AV.bool (x_2.1.fl i)])/\True)/\(DevW x_2.2.1/\I64 x_2.2.2.1/\I64 x_2.2.2.2)/\∀ (y : DevG), y.cap = x_2.1.cap->BC (!decide (q8 = (0 : Int))) (Exx Unit fun y_1 => Exx DevG fun g => Tr 1 ((q3/\(true = true/\zaC/\(0 : Nat) = 0/\(4 : Nat) = 4/\(0 : Nat) = 0/\q9/\y.cap = g.cap)/\Tr 1 (Tr 1 ((0 : Int) = 0)/\false = false/\false = false/\Tr 1 (y.left = g.left)/\Tr 1 (y.steps = g.steps)/\True))/\(q4/\(4 : Nat) = 4/\y.cap = g.cap/\q10/\∀ (i : Nat), i < x.1.length->[AV.int .u64 (↑(y.la i) : Int), AV.int .u64 (↑(x_2.2.1.getD i 0) : Int), AV.int .u64 (↑(y.se i) : Int), AV.bool (y.fl i)] = [AV.int .u64 (↑(g.la i) : Int), AV.int .u64 (↑(x.1.getD i 0) : Int), AV.int .u64 (↑(g.se i) : Int), AV.bool (g.fl i)])/\True)/\((Tr 1 (q8 = q5)/\True)/\q6)/\True) (Exx (Nat × DevG->Prop) fun I => Exx (Nat × DevG->Nat) fun m => (Exx (Nat × DevG) fun t => I t/\(q1/\Tr 1 (x.2 = x.2)/\Tr 14 (Tr 1 ((0 : Int) = (t.1 : Int))/\Tr 24 True))/\(q3/\(true = true/\zaC/\(0 : Nat) = 0/\(4 : Nat) = 4/\(0 : Nat) = 0/\q9/\y.cap = t.2.cap)/\Tr 1 (Tr 1 ((0 : Int) = 0)/\false = false/\false = false/\Tr 1 (y.left = t.2.left)/\Tr 1 (y.steps = t.2.steps)/\True))/\true = true/\(q4/\(4 : Nat) = 4/\y.cap = t.2.cap/\q10/\∀ (i : Nat), i < x.1.length->[AV.int .u64 (↑(y.la i) : Int), AV.int .u64 (↑(x_2.2.1.getD i 0) : Int), AV.int .u64 (↑(y.se i) : Int), AV.bool (y.fl i)] = [AV.int .u64 (↑(t.2.la i) : Int), AV.int .u64 (↑(x.1.getD i 0) : Int), AV.int .u64 (↑(t.2.se i) : Int), AV.bool (t.2.fl i)])/\True)/\∀ (t : Nat × DevG),
 let q11 : Int := q7 + (t.1 : Int);
 let q12 : Nat := 0 + q11.toNat;
 let q13 : Prop := q12 < x.1.length;
 let q14 : Int := (t.1 : Int) + 1;
 let q15 : Prop := q12 = q12;
 let q16 : Int := (↑(t.2.la q12) : Int);
 let q17 : Int := (↑(x.1.getD q12 0) : Int); I t->BC (decide ((t.1 : Int) < (8 : Int))) (I64 q7/\I64 q11/\((0 : Int) <= q11/\q11 < (x.1.length : Int))/\q13/\q13/\x.1.length = x.1.length/\q13/\x.1.length = x.1.length/\I64 q14/\Exx (Nat × DevG) fun t' => (I t'/\m t' < m t)/\(q1/\Tr 1 (x.2 = x.2)/\Tr 14 (Tr 1 (q14 = (↑t'.fst : Int))/\Tr 24 True))/\(q3/\(true = true/\zaC/\(0 : Nat) = 0/\(4 : Nat) = 4/\(0 : Nat) = 0/\x.1.length = x.1.length/\t.2.cap = t'.snd.cap)/\Tr 1 (Tr 1 ((0 : Int) = 0)/\false = false/\false = false/\Tr 1 (t.2.left = t'.snd.left)/\Tr 1 (t.2.steps = t'.snd.steps)/\True))/\true = true/\(q4/\(4 : Nat) = 4/\t.2.cap = t'.snd.cap/\x.1.length <= x.1.length/\∀ (i : Nat),
 let q18 : Int := (↑(x.1.getD i 0) : Int); i < x.1.length->[AV.int .u64 (if i = q12 then if q15 then q16 else q16 else if i = q12 then q16 else (↑(t.2.la i) : Int)), AV.int .u64 (if i = q12 then if q15 then q17 else q17 else if i = q12 then q17 else q18), AV.int .u64 (if i = q12 then if q15 then q17 else (↑(t.2.se q12) : Int) else if i = q12 then q17 else (↑(t.2.se i) : Int)), AV.bool (if i = q12 then true else if i = q12 then t.2.fl q12 else t.2.fl i)] = [AV.int .u64 (↑(t'.snd.la i) : Int), AV.int .u64 q18, AV.int .u64 (↑(t'.snd.se i) : Int), AV.bool (t'.snd.fl i)])/\True) (Exx (DevG × List Nat × Unit) fun x_3 => (q2/\true = true/\(q3/\(true = true/\zaC/\(0 : Nat) = 0/\(4 : Nat) = 4/\(0 : Nat) = 0/\x.1.length = x_3.2.1.length/\t.2.cap = x_3.1.cap)/\Tr 1 (Tr 1 ((0 : Int) = 0)/\false = false/\false = false/\Tr 1 (t.2.left = x_3.1.left)/\Tr 1 (t.2.steps = x_3.1.steps)/\True))/\(q4/\(4 : Nat) = 4/\t.2.cap = x_3.1.cap/\x_3.2.1.length <= x.1.length/\∀ (i : Nat), i < x_3.2.1.length->[AV.int .u64 (↑(t.2.la i) : Int), AV.int .u64 (↑(x.1.getD i 0) : Int), AV.int .u64 (↑(t.2.se i) : Int), AV.bool (t.2.fl i)] = [AV.int .u64 (↑(x_3.1.la i) : Int), AV.int .u64 (↑(x_3.2.1.getD i 0) : Int), AV.int .u64 (↑(x_3.1.se i) : Int), AV.bool (x_3.1.fl i)])/\True)/\(DevW x_3.2.1/\True)/\∀ (y : DevG), y.cap = x_3.1.cap->Exx Unit fun y_1 => Exx DevG fun g => Tr 1 ((q3/\(true = true/\zaC/\(0 : Nat) = 0/\(4 : Nat) = 4/\(0 : Nat) = 0/\x_3.2.1.length = x.1.length/\y.cap = g.cap)/\Tr 1 (Tr 1 ((0 : Int) = 0)/\false = false/\false = false/\Tr 1 (y.left = g.left)/\Tr 1 (y.steps = g.steps)/\True))/\(q4/\(4 : Nat) = 4/\y.cap = g.cap/\x.1.length <= x_3.2.1.length/\∀ (i : Nat), i < x.1.length->[AV.int .u64 (↑(y.la i) : Int), AV.int .u64 (↑(x_3.2.1.getD i 0) : Int), AV.int .u64 (↑(y.se i) : Int), AV.bool (y.fl i)] = [AV.int .u64 (↑(g.la i) : Int), AV.int .u64 (↑(x.1.getD i 0) : Int), AV.int .u64 (↑(g.se i) : Int), AV.bool (g.fl i)])/\True)/\((Tr 1 ((0 : Int) = q5)/\True)/\q6)/\True))) = (zcO tb [(113, zcQ (zaA zh6) (zaA zgF)), (186, zaA zpA), (187, zaA znD)] Tryz.f156 zpC (fun x => { loops := [(5, flushLA x)] }) (fun _ _ _ => none) (fun x => [(0, devO x.1)]) (fun x y av H => [(0, [2], devO x.1)])) := by kernel_rfl

theorem zx9 : SpecOk Tryz.prog 156 (zaA zpC) := by
 refine za0 mixed zaL (SPok.cons (zbA zj4 zh5) (SPok.cons zo9 (SPok.cons zq8 SPok.nil))) Tryz.func156 (by decide) (zi3 fun _ => rfl) (Eq.mp qg9 ?_)
 simp (maxSteps := 10000000) only [std, stdU, stdV, Exx, I64, Nat.reduceMul, Nat.reduceDiv, Nat.reduceAdd, Int.reduceToNat, zh7, zgG, zaM]
 rintro ws a ⟨h, h1, h2⟩ g
 have hlen := h.1
 refine ⟨g, ws, rfl, rfl, rfl, rfl, rfl, Nat.le_refl _, fun _ _ => rfl, h, fun y hy => ⟨y, ws, rfl, rfl, rfl, rfl, rfl, Nat.le_refl _, fun _ _ => rfl, h, h1, h2, by omega, by omega, fun y2 hy2 => ⟨fun hne => ⟨rfl, y2, rfl, rfl, rfl, rfl, Nat.le_refl _, fun _ _ => rfl, rfl⟩, fun hz => ?_⟩⟩⟩
 obtain ⟨h3, h4⟩ : 0 <= a/\a < ((ws.length / 8 : Nat) : Int) := by
  by_cases k : 0 <= a/\a < ((ws.length / 8 : Nat) : Int)
  ·exact k
  ·rw [mayErr, if_neg k] at hz; cases hz
 refine ⟨fun s => s.1 <= 8, ⟨0, y2, by simp, rfl, rfl, rfl, rfl, rfl, rfl, Nat.le_refl _, fun _ _ => rfl⟩, fun s => 8 - s.1, ?_⟩
 rintro i z hi
 simp only at hi
 refine ⟨fun hlt => ⟨by omega, by omega, by omega, by omega, by omega, by omega, by omega, by omega, by omega, by omega, by omega, i + 1, { z with se := fun j => if j = (a * 8 + (i : Int)).toNat then ws.getD j 0 else z.se j, fl := fun j => if j = (a * 8 + (i : Int)).toNat then true else z.fl j }, by simp only; omega, by simp only; omega, by omega, rfl, rfl, rfl, rfl, fun j hj => ?_⟩, fun hge => ⟨z, ws, rfl, rfl, rfl, rfl, rfl, Nat.le_refl _, fun _ _ => rfl, h, fun y3 hy3 => ⟨rfl, y3, rfl, rfl, rfl, rfl, Nat.le_refl _, fun _ _ => rfl, hz.symm⟩⟩⟩
 by_cases e : j = (a * 8 + (i : Int)).toNat
 ·subst e; simp
 ·simp [e]

def tupPtr (av : AV) : Option Ren := match av with
 | .tup (.ptr q _ _ :: _) => some [some 0, some q]
 | _ => none
def devNewI : Ctr2 where
 X := Int
 conv := true
 tau := fun _ _ => []
 pre := I64
 args := fun n => [i64 n]
 heap := fun _ => []
 p := fun n => 0 <= n/\n <= 4096
 a := { Y := Unit, Q := fun _ _ => True, res := fun _ _ => .tup [.ptr 1 [] 0, i64 0], its := fun _ _ => [], new := fun n _ => [devI (List.replicate (8 * n.toNat) 0)] }
 b := { Y := Unit, Q := fun _ _ => True, res := fun _ _ => .tup [.nilp, i64 2], its := fun _ _ => [], new := fun _ _ => [] }

theorem devNewV : (∀ (x : Int),
 let q1 : Prop := (0 : Int) <= x/\x <= (4096 : Int);
 let q2 : Prop := (q1/\Exx Unit fun y => False)\/¬devNewI.p x/\Exx Unit fun y => ((Tr 1 (Tr 1 ((2 : Int) = 2)/\True)/\True)/\true = true/\True)/\True;
 let q3 : List Nat := List.replicate (8 * x.toNat) 0;
 let q4 : Nat := q3.length; -9223372036854775808 <= x/\x <= (9223372036854775807 : Int)->BC (decide (x < (0 : Int))) q2 (BC (decide ((4096 : Int) < x)) q2 (I64 (x * 8)/\((0 : Int) <= x * 8/\x * 8 <= x * 8/\(↑(32 : Nat) : Int) * (x * 8) <= (281474976710656 : Int)/\x * 8 <= (9223372036854775807 : Int))/\((q1/\Exx Unit fun y => Exx DevG fun g =>
 let q5 : Prop := (x * 8).toNat = g.cap; Tr 1 (((221 : Nat) = (221 : TypeId)/\(true = true/\zaC/\(0 : Nat) = 0/\(4 : Nat) = 4/\(0 : Nat) = 0/\(x * 8).toNat = q4/\q5)/\Tr 1 (Tr 1 ((0 : Int) = 0)/\false = false/\false = false/\Tr 1 ((0 : Int) = g.left)/\Tr 1 ((0 : Int) = g.steps)/\True))/\((210 : TypeId) = 210/\(4 : Nat) = 4/\q5/\q4 <= (x * 8).toNat/\∀ (i : Nat), i < q4->[AV.int .u64 0, AV.int .u64 0, AV.int .u64 0, AV.bool false] = [AV.int .u64 (↑(g.la i) : Int), AV.int .u64 (↑(q3.getD i 0) : Int), AV.int .u64 (↑(g.se i) : Int), AV.bool (g.fl i)])/\True)/\((((true = true/\zaC/\(0 : Nat) = 0)/\Tr 1 ((0 : Int) = 0)/\True)/\True)/\true = true/\(devO q3).ob = devB q3/\True)/\True)\/¬devNewI.p x/\Exx Unit fun y => False/\True)))) = (qgO tb [] Tryz.f76 devNewI (fun _ => {}) (fun _ av _ => tupPtr av) (fun _ => []) (fun x y av H => [(2, [1], devO (List.replicate (8 * x.toNat) (0 : Nat)))]) (fun _ _ _ _ => [])) := by kernel_rfl

theorem qg7 : SpecOk Tryz.prog 76 (zmJ devNewI) := by
 refine zwK mixed zaL SPok.nil Tryz.func76 (by decide) ⟨fun _ _ _ _ => rfl, fun _ _ _ _ => ⟨rfl, rfl⟩, fun x _ _ _ _ => ⟨⟨trivial, ⟨trivial, trivial⟩⟩, rfl, rfl, trivial⟩⟩ ⟨fun _ _ _ _ => rfl, fun _ _ _ _ => ⟨rfl, rfl⟩, fun x _ _ _ _ => ⟨⟨trivial, trivial⟩, rfl, rfl, trivial⟩⟩ (Eq.mp devNewV ?_)
 simp (maxSteps := 10000000) only [std, stdU, stdV, Exx, I64, Nat.reduceMul, Nat.reduceDiv, Nat.reduceAdd, Int.reduceToNat, zh7, zgG, zaM]
 rintro n ⟨h1, h2⟩
 refine ⟨fun h k => ?_, fun h0 => ⟨fun h k => ?_, fun h3 => ?_⟩⟩
 ·have k' : 0 <= n/\n <= 4096 := k
  omega
 ·have k' : 0 <= n/\n <= 4096 := k
  omega
 ·refine ⟨by omega, by omega, by omega, by omega, by omega, by omega, by omega, by omega, by rw [List.length_replicate]; omega, { la := fun _ => 0, se := fun _ => 0, fl := fun _ => false, cap := (n * 8).toNat, left := 0, steps := 0 }, rfl, rfl, rfl, rfl, by rw [List.length_replicate]; omega, fun i hi => ?_⟩
  rw [zjG]
  simp


def putW (ws : List Nat) (k : Nat) (q : List Nat) : List Nat := (List.range ws.length).map fun i => if k <= i/\i < k + q.length then q.getD (i - k) 0 else ws.getD i 0
theorem zbL (ws : List Nat) (k : Nat) (q : List Nat) : (putW ws k q).length = ws.length := by simp [putW]
theorem ziO {ws : List Nat} {k : Nat} {q : List Nat} {i : Nat} : (putW ws k q).getD i 0 = if i < ws.length/\k <= i/\i < k + q.length then q.getD (i - k) 0 else ws.getD i 0 := by
 rw [putW, zeR]
 by_cases h : i < ws.length
 ·rw [if_pos h]; simp [h]
 ·rw [if_neg h, if_neg (fun k => h k.1), List.getD_eq_getElem?_getD, List.getElem?_eq_none (by omega)]; rfl
theorem qjK (ws : List Nat) (k : Nat) : putW ws k [] = ws := za8 0 (zbL _ _ _) fun i hi => by rw [ziO, if_neg (by rw [List.length_nil]; omega)]
theorem qeF {ws : List Nat} {k : Nat} {q : List Nat} {i : Nat} (hi : i < q.length) (hk : k + q.length <= ws.length) : (putW ws k (q.take i)).set (k + i) (q.getD i 0) = putW ws k (q.take (i + 1)) := by
 refine za8 0 (by rw [List.length_set, zbL, zbL]) fun j hj => ?_
 rw [zbL] at hj
 rw [zsO (by rw [zbL]; omega), ziO, ziO, List.length_take, List.length_take, Nat.min_eq_left (by omega), Nat.min_eq_left (by omega)]
 by_cases e : j = k + i
 ·subst e
  rw [if_pos rfl, if_pos (by omega), zaW, show k + i - k = i by omega, if_pos (by omega)]
 ·rw [if_neg e]
  by_cases e2 : j < ws.length/\k <= j/\j < k + i
  ·rw [if_pos e2, if_pos (by omega), zaW, zaW, if_pos (by omega), if_pos (by omega)]
  ·rw [if_neg e2, if_neg (by omega)]
theorem zxJ {l : List Nat} {p : Nat->Prop} (h : ∀ i, i < l.length->p (l.getD i 0)) : ∀ x ∈ l, p x := fun x hx => by
 obtain ⟨i, hi, e⟩ := List.mem_iff_getElem.1 hx
 have := h i hi
 rw [List.getD_eq_getElem?_getD, List.getElem?_eq_getElem hi] at this
 rw [<- e]; exact this
theorem qeG {ws : List Nat} {k : Nat} {q : List Nat} (h : DevW ws) (hq : ∀ w ∈ q, U64 w) : DevW (putW ws k q) := by
 refine ⟨by rw [zbL]; exact h.1, zxJ fun i hi => ?_⟩
 rw [ziO]
 split
 ·exact getD_mem (p := U64) hq (by unfold U64; omega) _
 ·exact getD_mem (p := U64) h.2 (by unfold U64; omega) _

def linesN (ws : List Nat) : Nat := ws.length / 8
def zgA (ws : List Nat) (a : Nat) : List Nat := (ws.drop (8 * a)).take 8
def zc5 (ws : List Nat) (a : Int) : Prop := 0 <= a/\a < (linesN ws : Int)
instance (ws : List Nat) (a : Int) : Decidable (zc5 ws a) := by unfold zc5; infer_instance
def zaT (ws : List Nat) (a : Int) : Int := mayErr a (linesN ws : Int)
theorem zbV {ws : List Nat} {a : Int} : zaT ws a = 0 ↔ zc5 ws a := by
 unfold zaT mayErr zc5
 split
 ·rename_i h; exact ⟨fun _ => h, fun _ => rfl⟩
 ·rename_i h; exact ⟨fun k => (by cases k), fun k => absurd k h⟩
def zkQ : Ctr := zpB Int (fun x => I64 x.2) (fun x => [i64 x.2]) (fun x => i64 (zaT x.1 x.2))

theorem qeO : (∀ (x : List Nat × Int),
 let q1 : Prop := Tr 1 ((2 : Int) = zaT x.1 x.2)/\True; DevW x.1/\I64 x.2->BC (decide (x.2 < (0 : Int))) (Exx Unit fun y => (q1/\devB x.1 = devB x.1/\true = true/\True)/\True) (Exx (List Nat × Unit) fun x_1 =>
 let q2 : Int := (↑(x_1.1.length / 8) : Int);
 let q3 : Prop := devB x_1.1 = devB x.1/\true = true/\True; (((true = true/\zaC/\(0 : Nat) = 0)/\True)/\true = true/\devB x.1 = devB x_1.1/\True)/\(DevW x_1.1/\True)/\∀ (y : Unit), True->BC (decide (q2 <= x.2)) (Exx Unit fun y => (q1/\q3)/\True) (Exx Unit fun y => ((Tr 1 ((0 : Int) = zaT x.1 x.2)/\True)/\q3)/\True))) = (fnVC tb [(113, zcQ (zaA zh6) (zaA zgF))] Tryz.f116 zkQ (fun _ => {}) (fun _ => none)) := by kernel_rfl

theorem zoE : SpecOk Tryz.prog 116 (zaA zkQ) := by
 refine zaJ mixed zaL (SPok.cons (zbA zj4 zh5) SPok.nil) Tryz.func116 (by decide) (zi3 fun _ => rfl) (Eq.mp qeO ?_)
 simp (maxSteps := 10000000) only [std, stdU, stdV, Exx, I64, Nat.reduceMul, Nat.reduceDiv, Nat.reduceAdd, Int.reduceToNat, zaM]
 rintro ws a ⟨h, h1, h2⟩
 have e : linesN ws = ws.length / 8 := rfl
 exact ⟨fun g => by rw [zaT, mayErr, if_neg (by omega)], fun g => ⟨h, fun g2 => by rw [zaT, mayErr, if_neg (by omega)], fun g2 => by rw [zaT, mayErr, if_pos (by omega)]⟩⟩

def zjT : Ctr := zs1 (Nat × Nat × List Nat) (fun x => x.2.1 * 8 + x.2.2.1 + x.2.2.2.length <= x.1.length/\x.2.1 < linesN x.1/\∀ w ∈ x.2.2.2, U64 w) (fun x => [i64 (x.2.1 : Nat), i64 (x.2.2.1 : Nat), qbK .u64 x.2.2.2]) (fun x => putW x.1 (x.2.1 * 8 + x.2.2.1) x.2.2.2) (fun x => i64 0)
def zuD (x : List Nat × Nat × Nat × List Nat) : LA := { T := Nat, F := fun i => frm 35 [(0, .ptr 0 [] 0), (1, i64 (x.2.1 : Nat)), (2, i64 (x.2.2.1 : Nat)), (12, qbK .u64 x.2.2.2), (13, i64 (x.2.2.2.length : Nat)), (14, i64 (i : Nat))], H := fun i => [devI (putW x.1 (x.2.1 * 8 + x.2.2.1) (x.2.2.2.take i)), .fence] }

theorem zw4 : (
 let q1 : Prop := true = true/\zaC/\(0 : Nat) = 0; ∀ (x : List Nat × Nat × Nat × List Nat),
 let q2 : Nat := x.2.2.1;
 let q3 : Nat := x.2.1 * 8 + q2;
 let q4 : List Nat := x.2.2.2;
 let q5 : Nat := q4.length;
 let q6 : Int := (x.2.1 : Int);
 let q7 : Prop := Tr 1 (q6 = q6);
 let q8 : Int := (q2 : Int);
 let q9 : Prop := Tr 1 (q8 = q8);
 let q11 : Prop := (1 : Nat) = 1/\q5 = q5/\∀ (i : Nat),
 let q10 : List AV := [AV.int .u64 (↑(q4.getD i 0) : Int)]; i < q5->q10 = q10;
 let q12 : Int := (q5 : Int);
 let q13 : Prop := Tr 1 (q12 = q12);
 let q14 : Int := q6 * 8;
 let q15 : Int := q14 + q8;
 let q16 : Ob := devB (putW x.1 q3 q4); (DevW x.1/\q3 + q5 <= x.1.length/\x.2.1 < linesN x.1/\∀ (w : Nat), w ∈ q4->U64 w)->Exx (Nat->Prop) fun I => Exx (Nat->Nat) fun m => (Exx Nat fun t => I t/\(q1/\q7/\q9/\Tr 9 (q11/\q13/\Tr 1 ((0 : Int) = (t : Int))/\Tr 20 True))/\devB x.1 = devB (putW x.1 q3 (List.take t q4))/\true = true/\True)/\∀ (t : Nat),
 let q17 : Int := (t : Int) + 1; I t->BC (decide ((t : Int) < q12)) (((0 : Int) <= (t : Int)/\(t : Int) < q12)/\I64 q14/\I64 q15/\I64 (q15 + (t : Int))/\Exx (List Nat × Int × Nat) fun x_1 =>
 let q18 : Int := zcL x_1.1 x_1.2.1;
 let q19 : Prop := q18 = (0 : Int);
 let q20 : Ob := devB (zjD x_1.1 x_1.2.1 x_1.2.2); ((q1/\Tr 1 (q15 + (t : Int) = x_1.2.1)/\Tr 1 ((↑(q4.getD (t : Int).toNat 0) : Int) = (x_1.2.2 : Int))/\True)/\true = true/\devB (putW x.1 q3 (List.take t q4)) = devB x_1.1/\True)/\(DevW x_1.1/\I64 x_1.2.1/\U64 x_1.2.2)/\∀ (y : Unit), True->BC (!decide q19) (Exx Unit fun y => ((Tr 1 q19/\True)/\q20 = q16/\true = true/\True)/\True) (I64 q17/\Exx Nat fun t' => (I t'/\m t' < m t)/\(q1/\q7/\q9/\Tr 9 (q11/\q13/\Tr 1 (q17 = (↑t' : Int))/\Tr 20 True))/\q20 = devB (putW x.1 q3 (List.take t' q4))/\true = true/\True)) (Exx (List Nat × Int) fun x_1 => ((q1/\Tr 1 (q6 = x_1.2)/\True)/\true = true/\devB (putW x.1 q3 (List.take t q4)) = devB x_1.1/\True)/\(DevW x_1.1/\I64 x_1.2)/\∀ (y : Unit), True->Exx Unit fun y => ((Tr 1 (mayErr x_1.2 (↑(x_1.1.length / 8) : Int) = (0 : Int))/\True)/\devB x_1.1 = q16/\true = true/\True)/\True)) = (fnVC tb [(155, zaA zo8), (156, zaA zpC)] Tryz.f117 zjT (fun x => { loops := [(2, zuD x)] }) (fun _ => none)) := by kernel_rfl

theorem zr0 : SpecOk Tryz.prog 117 (zaA zjT) := by
 refine zaJ mixed zaL (SPok.cons zx8 (SPok.cons zx9 SPok.nil)) Tryz.func117 (by decide) (zl9 fun _ => rfl) (Eq.mp zw4 ?_)
 simp (maxSteps := 10000000) only [std, stdU, stdV, Exx, I64, Nat.reduceMul, Nat.reduceDiv, Nat.reduceAdd, Int.reduceToNat, zaM]
 rintro ws ln f q ⟨h, hr, hl, hq⟩
 have hlen := h.1
 refine ⟨fun t => t <= q.length, ⟨0, by omega, rfl, by rw [List.take_zero, qjK]⟩, fun t => q.length - t, fun t ht => ⟨fun hlt => ?_, fun hge => ?_⟩⟩
 ·have hw : DevW (putW ws (ln * 8 + f) (q.take t)) := qeG h fun w hw => hq w (List.mem_of_mem_take hw)
  have hn : (ln : Int) * 8 + (f : Int) + (t : Int) = ((ln * 8 + f + t : Nat) : Int) := by omega
  have he : zcL (putW ws (ln * 8 + f) (q.take t)) ((ln : Int) * 8 + (f : Int) + (t : Int)) = 0 := by rw [zcL, mayErr, zbL, if_pos (by omega)]
  have hs : zjD (putW ws (ln * 8 + f) (q.take t)) ((ln : Int) * 8 + (f : Int) + (t : Int)) (q.getD t 0) = putW ws (ln * 8 + f) (q.take (t + 1)) := by
   rw [zjD, if_pos (by omega), hn, Int.toNat_natCast]
   exact qeF (by omega) (by omega)
  exact ⟨by omega, by omega, by omega, by omega, by omega, by omega, by omega, by omega, hw, by omega, by omega, getD_mem (p := U64) hq (by unfold U64; omega) t, fun g => absurd he g, fun _ => ⟨by omega, by omega, t + 1, by omega, by simp only; omega, by omega, hs⟩⟩
 ·rw [show t = q.length by omega, List.take_length]
  exact ⟨qeG h hq, by omega, by omega, by rw [mayErr, if_pos (by rw [zbL]; unfold linesN at hl; omega)], rfl⟩

theorem zp5 {b : List Nat} (h : ∀ x ∈ b, x < 256) : ∀ w ∈ zbD b, U64 w := fun w hw => by
 obtain ⟨i, _, rfl⟩ := List.mem_map.1 hw
 have h1 : ∀ c ∈ (b.drop (8 * i)).take 8, c < 256 := fun c hc => h c (List.mem_of_mem_drop (List.mem_of_mem_take hc))
 have := zlV _ h1
 have h2 : ((b.drop (8 * i)).take 8).length <= 8 := by rw [List.length_take]; omega
 have h3 : 256 ^ ((b.drop (8 * i)).take 8).length <= 256 ^ 8 := Nat.pow_le_pow_right (by decide) h2
 unfold U64; omega
def zdH (ws : List Nat) (a : Int) (b : List Nat) : List Nat := if zc5 ws a/\b.length = 64 then putW ws (8 * a.toNat) (zbD b) else ws
def zdA (ws : List Nat) (a : Int) (b : List Nat) : Int := if zc5 ws a/\b.length = 64 then 0 else 2
def zjS : Ctr := zs1 (Int × List Nat) (fun x => I64 x.2.1/\Oct x.2.2) (fun x => [i64 x.2.1, octA x.2.2]) (fun x => zdH x.1 x.2.1 x.2.2) (fun x => i64 (zdA x.1 x.2.1 x.2.2))

theorem zw3 : (
 let q1 : Prop := true = true/\zaC/\(0 : Nat) = 0; ∀ (x : List Nat × Int × List Nat),
 let q2 : Int := zdA x.1 x.2.1 x.2.2;
 let q3 : Ob := devB (zdH x.1 x.2.1 x.2.2);
 let q4 : Int := (x.2.2.length : Int); DevW x.1/\I64 x.2.1/\Oct x.2.2->Exx (List Nat × Int) fun x_1 => ((q1/\Tr 1 (x.2.1 = x_1.2)/\True)/\true = true/\devB x.1 = devB x_1.1/\True)/\(DevW x_1.1/\I64 x_1.2)/\∀ (y : Unit), True->BC (!decide (zaT x_1.1 x_1.2 = (0 : Int))) (Exx Unit fun y => ((Tr 1 (zaT x_1.1 x_1.2 = q2)/\True)/\devB x_1.1 = q3/\true = true/\True)/\True) (BC (!decide (q4 = (64 : Int))) (Exx Unit fun y => ((Tr 1 ((2 : Int) = q2)/\True)/\devB x_1.1 = q3/\true = true/\True)/\True) (Exx (List Nat) fun x_2 => (((x.2.2.length = x_2.length/\∀ (i : Nat), i < x_2.length->[AV.int .u8 (↑(x.2.2.getD i 0) : Int)] = [AV.int .u8 (↑(x_2.getD i 0) : Int)])/\True)/\true = true/\True)/\Oct x_2/\∀ (y : Nat), (zbD x_2).length <= y->Exx (List Nat × Nat × Nat × List Nat) fun x_3 =>
 let q5 : Nat := x_3.2.2.1;
 let q6 : List Nat := x_3.2.2.2;
 let q7 : Nat := q6.length;
 let q8 : Nat := x_3.2.1 * 8 + q5; ((q1/\Tr 1 (x.2.1 = (x_3.2.1 : Int))/\Tr 1 ((0 : Int) = (q5 : Int))/\(0 + (zbD x_2).length <= (zbD x_2).length/\(zbD x_2).length = q7/\∀ (i : Nat), i < q7->[AV.int .u64 (↑((zbD x_2).getD (0 + i) 0) : Int)] = [AV.int .u64 (↑(q6.getD i 0) : Int)])/\True)/\true = true/\devB x_1.1 = devB x_3.1/\True)/\(DevW x_3.1/\q8 + q7 <= x_3.1.length/\x_3.2.1 < linesN x_3.1/\∀ (w : Nat), w ∈ q6->U64 w)/\∀ (y : Unit), True->Exx Unit fun y => ((Tr 1 ((0 : Int) = q2)/\True)/\devB (putW x_3.1 q8 q6) = q3/\true = true/\True)/\True))) = (fnVC tb [(116, zaA zkQ), (117, zaA zjT), (118, zaA qcQ)] Tryz.f81 zjS (fun _ => {}) (fun _ => none)) := by kernel_rfl

theorem zrZ : SpecOk Tryz.prog 81 (zaA zjS) := by
 refine zaJ mixed zaL (SPok.cons zoE (SPok.cons zr0 (SPok.cons qiQ SPok.nil))) Tryz.func81 (by decide) (zl9 fun _ => rfl) (Eq.mp zw3 ?_)
 simp (maxSteps := 10000000) only [std, stdU, stdV, Exx, I64, Nat.reduceMul, Nat.reduceDiv, Nat.reduceAdd, Int.reduceToNat, zaM]
 rintro ws a b ⟨h, h1, h2, hb⟩
 have hlen := h.1
 refine ⟨h, h1, h2, fun hne => ?_, fun hz => ⟨fun hb2 => ?_, fun hb2 => ⟨hb, fun y hy => ?_⟩⟩⟩
 ·have hn : ¬ zc5 ws a := fun k => hne (zbV.2 k)
  rw [zdA, if_neg (fun k => hn k.1), zdH, if_neg (fun k => hn k.1), zaT, mayErr, if_neg (show ¬ (0 <= a/\a < (linesN ws : Int)) from hn)]
  exact ⟨rfl, rfl⟩
 ·rw [zdA, if_neg (fun k => hb2 (by rw [k.2]; rfl)), zdH, if_neg (fun k => hb2 (by rw [k.2]; rfl))]
  exact ⟨rfl, rfl⟩
 ·have hin := zbV.1 hz
  have hl := hin
  unfold zc5 linesN at hl
  have hb3 : b.length = 64 := by omega
  have hwl := zdN b
  refine ⟨ws, a.toNat, by omega, 0, rfl, rfl, h, by omega, by unfold linesN; omega, zp5 hb.1, by rw [zdA, if_pos ⟨hin, hb3⟩], ?_⟩
  rw [zdH, if_pos ⟨hin, hb3⟩, Nat.add_zero, Nat.mul_comm]

def zaO (ws : List Nat) (a : Int) : List Nat := if zc5 ws a then zaF (zgA ws a.toNat) else []
def ziP : Ctr where
 X := List Nat × Int
 Y := Nat
 conv := true
 tau := zg2
 pre := fun x => DevW x.1/\I64 x.2
 args := fun x => [.ptr 0 [] 0, i64 x.2]
 heap := fun x => [devI x.1]
 Q := fun x cap => (zaO x.1 x.2).length <= cap
 res := fun x cap => .tup [.sl 2 [] 0 1 0 (zaO x.1 x.2).length cap, i64 (zaT x.1 x.2)]
 its := fun x _ => [devI x.1]
 new := fun x cap => [rowN 5 .u8 cap (zaO x.1 x.2)]
theorem zr1 : CtrOk ziP :=
 ⟨fun _ _ _ _ => (rfl : 1 = 1), fun _ _ _ _ => ⟨rfl, rfl⟩, fun x _ _ _ _ => ⟨⟨⟨trivial, trivial⟩, ⟨⟨fun _ _ => ⟨rfl, trivial⟩, trivial⟩, trivial⟩⟩, rfl, rfl, trivial⟩⟩
def zw5 (x : List Nat × Int) : LA := { T := Nat, F := fun i => frm 38 [(0, .ptr 0 [] 0), (1, i64 x.2), (7, .ptr 2 [] 0), (17, i64 (i : Nat))], H := fun i => [devI x.1, .fence, .cells 261 [.arr 1 8 (fun j => [u64 (if j < i then (zgA x.1 x.2.toNat).getD j 0 else 0)])]] }
def tupSl2 (av : AV) : Option Ren := match av with
 | .tup (.sl q _ _ _ _ _ _ :: _) => some [some 0, some 1, some q]
 | _ => some [some 0, some 1, none]

theorem qbC : (
 let q1 : Prop := true = true/\zaC/\(0 : Nat) = 0;
 let q2 : Nat := 8 - 0; ∀ (x : List Nat × Int),
 let q3 : Prop := (zaO x.1 x.2).length = 0;
 let q4 : Int := x.2 * 8; DevW x.1/\I64 x.2->Exx (List Nat × Int) fun x_1 => ((q1/\Tr 1 (x.2 = x_1.2)/\True)/\true = true/\devB x.1 = devB x_1.1/\True)/\(DevW x_1.1/\I64 x_1.2)/\∀ (y : Unit), True->BC (!decide (zaT x_1.1 x_1.2 = (0 : Int))) (Exx Nat fun y => ((((q3/\y = 0)/\Tr 1 (zaT x_1.1 x_1.2 = zaT x.1 x.2)/\True)/\True)/\devB x_1.1 = devB x.1/\true = true/\(y = 0/\q3)/\True)/\(zaO x.1 x.2).length <= y) (Exx (Nat->Prop) fun I => Exx (Nat->Nat) fun m => (Exx Nat fun t => I t/\(q1/\Tr 1 (x.2 = x.2)/\Tr 5 (q1/\Tr 9 (Tr 1 ((0 : Int) = (t : Int))/\Tr 20 True)))/\devB x_1.1 = devB x.1/\true = true/\((261 : Nat) = (261 : TypeId)/\(1 : Nat) = 1/\(8 : Nat) = 8/\(∀ (i : Nat), i < 8->[AV.int .u64 0] = [AV.int .u64 (↑(if i < t then (zgA x.1 x.2.toNat).getD i 0 else 0) : Int)])/\True)/\True)/\∀ (t : Nat),
 let q5 : Int := (t : Int) + 1; I t->BC (decide ((t : Int) < (8 : Int))) (I64 q4/\I64 (q4 + (t : Int))/\Exx (List Nat × Int) fun x_2 => ((q1/\Tr 1 (q4 + (t : Int) = x_2.2)/\True)/\true = true/\devB x.1 = devB x_2.1/\True)/\(DevW x_2.1/\I64 x_2.2)/\∀ (y : Unit), True->BC (!decide (zcL x_2.1 x_2.2 = (0 : Int))) (Exx Nat fun y => ((((q3/\y = 0)/\Tr 1 (zcL x_2.1 x_2.2 = zaT x.1 x.2)/\True)/\True)/\devB x_2.1 = devB x.1/\true = true/\(y = 0/\q3)/\True)/\(zaO x.1 x.2).length <= y) (((0 : Int) <= (t : Int)/\(t : Int) < (↑(8 : Nat) : Int))/\(t : Int).toNat < 8/\I64 q5/\Exx Nat fun t' => (I t'/\m t' < m t)/\(q1/\Tr 1 (x.2 = x.2)/\Tr 5 (q1/\Tr 9 (Tr 1 (q5 = (↑t' : Int))/\Tr 20 True)))/\devB x_2.1 = devB x.1/\true = true/\((261 : TypeId) = 261/\(1 : Nat) = 1/\(8 : Nat) = 8/\(∀ (i : Nat),
 let q6 : Nat := (zgA x.1 x.2.toNat).getD i 0; i < 8->[AV.int .u64 (if i = (t : Int).toNat then (↑(if (0 : Int) <= x_2.2 then x_2.1.getD x_2.2.toNat 0 else 0) : Int) else (↑(if i < t then q6 else 0) : Int))] = [AV.int .u64 (↑(if i < t' then q6 else 0) : Int)])/\True)/\True)) (((0 : Nat) <= (8 : Nat)/\(8 : Nat) <= (8 : Nat))/\Exx (List Nat) fun x_2 => (((0 + q2 <= 8/\q2 = x_2.length/\∀ (i : Nat),
 let q7 : Nat := 0 + i; i < x_2.length->[AV.int .u64 (↑(if q7 < t then (zgA x.1 x.2.toNat).getD q7 0 else 0) : Int)] = [AV.int .u64 (↑(x_2.getD i 0) : Int)])/\True)/\true = true/\True)/\((∀ (w : Nat), w ∈ x_2->U64 w)/\x_2.length <= 1000000)/\∀ (y : Nat), (zaF x_2).length <= y->Exx Nat fun y_1 => ((((true = true/\zaC/\(0 : Nat) = 0/\(1 : Nat) = 1/\(0 : Nat) = 0/\(zaF x_2).length = (zaO x.1 x.2).length/\y = y_1)/\Tr 1 ((0 : Int) = zaT x.1 x.2)/\True)/\True)/\devB x.1 = devB x.1/\true = true/\((5 : TypeId) = 5/\(1 : Nat) = 1/\y = y_1/\(zaO x.1 x.2).length <= (zaF x_2).length/\∀ (i : Nat), i < (zaO x.1 x.2).length->[AV.int .u8 (↑((zaF x_2).getD i 0) : Int)] = [AV.int .u8 (↑((zaO x.1 x.2).getD i 0) : Int)])/\True)/\(zaO x.1 x.2).length <= y_1))) = (zcO tb [(116, zaA zkQ), (128, zaA zr5), (159, zaA zs2)] Tryz.f120 ziP (fun x => { loops := [(6, zw5 x)] }) (fun _ av _ => tupSl2 av) (fun _ => []) (fun _ _ _ _ => [])) := by kernel_rfl

theorem zuE : SpecOk Tryz.prog 120 (zaA ziP) := by
 refine za0 mixed zaL (SPok.cons zoE (SPok.cons zuJ (SPok.cons qb7 SPok.nil))) Tryz.func120 (by decide) zr1 (Eq.mp qbC ?_)
 simp (maxSteps := 10000000) only [std, stdU, stdV, Exx, I64, Nat.reduceMul, Nat.reduceDiv, Nat.reduceAdd, Int.reduceToNat, zaM]
 rintro ws a ⟨h, h1, h2⟩
 have hlen := h.1
 refine ⟨h, h1, h2, fun hne => ?_, fun hz => ?_⟩
 ·have : zaO ws a = [] := by rw [zaO, if_neg (fun k => hne (zbV.2 k))]
  rw [this]; exact ⟨rfl, rfl, Nat.le_refl _⟩
 have hin := zbV.1 hz
 have hl := hin
 unfold zc5 linesN at hl
 have hL : zaO ws a = zaF (zgA ws a.toNat) := by rw [zaO, if_pos hin]
 have hW : (zgA ws a.toNat).length = 8 := by rw [zgA, List.length_take, List.length_drop]; omega
 have hg : ∀ t, t < 8->(zgA ws a.toNat).getD t 0 = ws.getD (8 * a.toNat + t) 0 := fun t ht => by rw [zgA, zaW, if_pos ht, zaZ]
 refine ⟨fun t => t <= 8, ⟨0, by omega, rfl, fun i _ => by simp⟩, fun t => 8 - t, fun t ht => ⟨fun hlt => ?_, fun hge => ?_⟩⟩
 ·have he : zcL ws (a * 8 + (t : Int)) = 0 := by rw [zcL, mayErr, if_pos (by omega)]
  refine ⟨by omega, by omega, by omega, by omega, h, by omega, by omega, fun g => absurd he g, fun _ => ⟨by omega, by omega, by omega, by omega, by omega, t + 1, by omega, by simp only; omega, by omega, fun i hi => ?_⟩⟩
  by_cases e : i = t
  ·subst e
   rw [if_pos rfl, if_pos (by omega), if_pos (by omega), hg i hi, show (a * 8 + (i : Int)).toNat = 8 * a.toNat + i by omega]
  ·rw [if_neg e]
   by_cases e2 : i < t
   ·rw [if_pos e2, if_pos (by omega)]
   ·rw [if_neg e2, if_neg (by omega)]
 ·refine ⟨by omega, zgA ws a.toNat, hW.symm, fun i hi => by rw [if_pos (by omega)], fun w hw => h.2 w (List.mem_of_mem_drop (List.mem_of_mem_take hw)), by omega, fun y hy => ?_⟩
  rw [hL]
  exact ⟨rfl, hz.symm, Nat.le_refl _, fun _ _ => rfl, hy⟩


structure StoreT where
 ws : List Nat
 a : AllocT
def zaE (s : StoreT) : Prop := DevW s.ws/\za9 s.a
abbrev ztY (d a : Nat) : Sx.Item := .cells 107 [.ptr d [] 0, .ptr a [] 0]
abbrev zbN (s : StoreT) : AH := [ztY 1 2, devI s.ws, zfO s.a]
def ziG (args : List AV) (H : AH) : List Nat := match args with
 | .ptr p _ _ :: _ => match H[p]? with
   | some (.cells _ (.ptr d _ _ :: .ptr a _ _ :: _)) => [p, d, a]
   | _ => [p]
 | _ => []
theorem zlI (s : StoreT) : plH (zbN s) := ⟨⟨rfl, rfl, trivial⟩, trivial, trivial, trivial⟩
theorem qdC {x : AllocT} (h : za9 x) (r : Int) : za9 (zaV x r) := by
 unfold zaV
 split
 ·exact h
 ·exact ⟨h.1, h.2.1, h.2.2.1, h.2.2.2.1, h.2.2.2.2.1, qhU h.2.2.2.2.2⟩
theorem zsL {x : AllocT} (h : za9 x) (a : Int) : za9 (zfW x a) := ⟨h.1, h.2.1, h.2.2.1, h.2.2.2.1, h.2.2.2.2.1, zz5 h.2.2.2.2.2⟩
theorem qiP {ws : List Nat} (h : DevW ws) (a : Int) {b : List Nat} (hb : Oct b) : DevW (zdH ws a b) := by
 unfold zdH
 split
 ·exact qeG h (zp5 hb.1)
 ·exact h
theorem zlH {x : AllocT} (h : za9 x) (r : Int) : I64 (zdQ x r) := by
 unfold zdQ
 split
 ·exact ⟨by omega, by omega⟩
 ·exact zsP ⟨h.1, zxT h⟩ 0

def zf1 : Ctr where
 X := StoreT × Int
 Y := Nat
 conv := true
 tau := ziG
 pre := fun x => zaE x.1/\I64 x.2
 args := fun x => [.ptr 0 [] 0, i64 x.2]
 heap := fun x => zbN x.1
 Q := fun x cap => (zaO x.1.ws x.2).length <= cap
 res := fun x cap => .tup [.sl 4 [] 0 1 0 (zaO x.1.ws x.2).length cap, i64 (zaT x.1.ws x.2)]
 its := fun x _ => zbN x.1
 new := fun x cap => [rowN 5 .u8 cap (zaO x.1.ws x.2)]
theorem ztZ : CtrOk zf1 :=
 ⟨fun _ _ _ _ => (rfl : 3 = 3), fun _ _ _ _ => ⟨rfl, rfl⟩, fun x _ _ _ _ => ⟨⟨zlI _, ⟨⟨fun _ _ => ⟨rfl, trivial⟩, trivial⟩, trivial⟩⟩, rfl, rfl, trivial⟩⟩
def qcX (av : AV) : Option Ren := match av with
 | .tup (.sl q _ _ _ _ _ _ :: _) => some [some 0, some 1, some 2, some 3, some q]
 | _ => some [some 0, some 1, some 2, some 3, none]

theorem qdM : (
 let q1 : Prop := true = true/\zaC/\(0 : Nat) = 0; ∀ (x : StoreT × Int), zaE x.1/\I64 x.2->Exx (List Nat × Int) fun x_1 => ((q1/\Tr 1 (x.2 = x_1.2)/\True)/\true = true/\devB x.1.ws = devB x_1.1/\True)/\(DevW x_1.1/\I64 x_1.2)/\∀ (y : Nat), (zaO x_1.1 x_1.2).length <= y->Exx Nat fun y_1 => ((((true = true/\zaC/\(0 : Nat) = 0/\(1 : Nat) = 1/\(0 : Nat) = 0/\(zaO x_1.1 x_1.2).length = (zaO x.1.ws x.2).length/\y = y_1)/\Tr 1 (zaT x_1.1 x_1.2 = zaT x.1.ws x.2)/\True)/\True)/\((107 : TypeId) = 107/\q1/\q1/\True)/\devB x_1.1 = devB x.1.ws/\zaB x.1.a = zaB x.1.a/\true = true/\((5 : TypeId) = 5/\(1 : Nat) = 1/\y = y_1/\(zaO x.1.ws x.2).length <= (zaO x_1.1 x_1.2).length/\∀ (i : Nat), i < (zaO x.1.ws x.2).length->[AV.int .u8 (↑((zaO x_1.1 x_1.2).getD i 0) : Int)] = [AV.int .u8 (↑((zaO x.1.ws x.2).getD i 0) : Int)])/\True)/\(zaO x.1.ws x.2).length <= y_1) = (zcO tb [(120, zaA ziP)] Tryz.f85 zf1 (fun _ => {}) (fun _ av _ => qcX av) (fun _ => []) (fun _ _ _ _ => [])) := by kernel_rfl

theorem zjN : SpecOk Tryz.prog 85 (zaA zf1) := by
 refine za0 mixed zaL (SPok.cons zuE SPok.nil) Tryz.func85 (by decide) ztZ (Eq.mp qdM ?_)
 simp (maxSteps := 10000000) only [std, stdU, stdV, Exx, I64, Nat.reduceMul, Nat.reduceDiv, Nat.reduceAdd, Int.reduceToNat, zaM, zaH]
 exact fun s a ⟨h, h1, h2⟩ => ⟨h.1, h1, h2, fun y hy => hy⟩

def zaS (Y : Type) (pre : StoreT × Y->Prop) (args : StoreT × Y->List AV) (g : StoreT × Y->StoreT) (res : StoreT × Y->AV) : Ctr where
 X := StoreT × Y
 Y := Unit
 conv := true
 tau := ziG
 pre := fun x => zaE x.1/\pre x
 args := fun x => .ptr 0 [] 0 :: args x
 heap := fun x => zbN x.1
 Q := fun _ _ => True
 res := fun x _ => res x
 its := fun x _ => zbN (g x)
 new := fun _ _ => []
theorem zaK {Y : Type} {pre : StoreT × Y->Prop} {args : StoreT × Y->List AV} {g : StoreT × Y->StoreT} {res : StoreT × Y->AV} (h : ∀ x, plV 2 (res x)) : CtrOk (zaS Y pre args g res) :=
 ⟨fun _ _ _ _ => (rfl : 3 = 3), fun _ _ _ _ => ⟨rfl, rfl⟩, fun x _ _ _ _ => ⟨⟨zlI _, trivial⟩, h x⟩⟩

structure Wr where
 s : StoreT
 at_ : Int
 e : Int
def zb0 (s : StoreT) (a : Int) (b : List Nat) : Wr := { s := { s with ws := zdH s.ws a b }, at_ := if zdA s.ws a b = 0 then a else 0, e := zdA s.ws a b }
def makeR (s : StoreT) (b : List Nat) : Wr :=
 if b.length = 64 then if zbX s.a s.a.r = 0 then zb0 { s with a := zaV s.a s.a.r } (zdQ s.a s.a.r) b else { s := { s with a := zaV s.a s.a.r }, at_ := 0, e := zbX s.a s.a.r }
 else { s := s, at_ := 0, e := 2 }
def ownB (x : AllocT) (a : Int) : Bool := hasN (x.n, x.w) a && !hasN (x.n, x.m) a
def zg7 (s : StoreT) (a : Int) (b : List Nat) : Wr :=
 if b.length = 64/\hasN (s.a.n, s.a.w) a = true then
  if ownB s.a a = true then zb0 s a b
  else if (makeR s b).e = 0 then { s := { (makeR s b).s with a := zfW (makeR s b).s.a a }, at_ := (makeR s b).at_, e := zcC (makeR s b).s.a a }
  else { s := (makeR s b).s, at_ := 0, e := (makeR s b).e }
 else { s := s, at_ := 0, e := 2 }
theorem zlB {s : StoreT} (h : zaE s) (a : Int) {b : List Nat} (hb : Oct b) : zaE (zb0 s a b).s := ⟨qiP h.1 a hb, h.2⟩
theorem zlZ {s : StoreT} (h : zaE s) {b : List Nat} (hb : Oct b) : zaE (makeR s b).s := by
 have ht : zaE { s with a := zaV s.a s.a.r } := ⟨h.1, qdC h.2 _⟩
 unfold makeR
 split
 ·split
  ·exact zlB ht _ hb
  ·exact ht
 ·exact h
theorem zwB {s : StoreT} (h : zaE s) (a : Int) {b : List Nat} (hb : Oct b) : zaE (zg7 s a b).s := by
 have hm := zlZ h hb
 unfold zg7
 split
 ·split
  ·exact zlB h _ hb
  ·split
   ·exact ⟨hm.1, zsL hm.2 _⟩
   ·exact hm
 ·exact h
def wrA (r : Wr) : AV := .tup [i64 r.at_, i64 r.e]
def zm0 : Ctr := zaS (Int × List Nat) (fun x => I64 x.2.1/\Oct x.2.2) (fun x => [i64 x.2.1, octA x.2.2]) (fun x => (zb0 x.1 x.2.1 x.2.2).s) (fun x => wrA (zb0 x.1 x.2.1 x.2.2))

theorem qiO : (
 let q1 : Prop := true = true/\zaC/\(0 : Nat) = 0; ∀ (x : StoreT × Int × List Nat),
 let q2 : Wr := zb0 x.1 x.2.1 x.2.2;
 let q3 : Int := q2.at_;
 let q4 : Int := q2.e;
 let q5 : StoreT := q2.s; zaE x.1/\I64 x.2.1/\Oct x.2.2->Exx (List Nat × Int × List Nat) fun x_1 =>
 let q6 : Int := zdA x_1.1 x_1.2.1 x_1.2.2;
 let q7 : Prop := ((107 : TypeId) = 107/\q1/\q1/\True)/\devB (zdH x_1.1 x_1.2.1 x_1.2.2) = devB q5.ws/\zaB x.1.a = zaB q5.a/\true = true/\True; ((q1/\Tr 1 (x.2.1 = x_1.2.1)/\(x.2.2.length = x_1.2.2.length/\∀ (i : Nat), i < x_1.2.2.length->[AV.int .u8 (↑(x.2.2.getD i 0) : Int)] = [AV.int .u8 (↑(x_1.2.2.getD i 0) : Int)])/\True)/\true = true/\devB x.1.ws = devB x_1.1/\True)/\(DevW x_1.1/\I64 x_1.2.1/\Oct x_1.2.2)/\∀ (y : Unit), True->BC (!decide (q6 = (0 : Int))) (Exx Unit fun y => (((Tr 1 ((0 : Int) = q3)/\Tr 1 (q6 = q4)/\True)/\True)/\q7)/\True) (Exx Unit fun y => (((Tr 1 (x.2.1 = q3)/\Tr 1 ((0 : Int) = q4)/\True)/\True)/\q7)/\True)) = (fnVC tb [(81, zaA zjS)] Tryz.f47 zm0 (fun _ => {}) (fun _ => none)) := by kernel_rfl

theorem zp4 : SpecOk Tryz.prog 47 (zaA zm0) := by
 refine zaJ mixed zaL (SPok.cons zrZ SPok.nil) Tryz.func47 (by decide) (zaK fun _ => ⟨rfl, rfl, trivial⟩) (Eq.mp qiO ?_)
 simp (maxSteps := 10000000) only [std, stdU, stdV, Exx, I64, Nat.reduceMul, Nat.reduceDiv, Nat.reduceAdd, Int.reduceToNat, zaM, zaH]
 rintro s a b ⟨h, h1, h2, hb⟩
 refine ⟨h.1, h1, h2, hb, fun hne => ⟨by rw [zb0]; simp only; rw [if_neg hne], rfl, rfl, rfl⟩, fun hz => ⟨by rw [zb0]; simp only; rw [if_pos hz], by rw [zb0]; exact hz.symm, rfl, rfl⟩⟩

def zf0 : Ctr := zaS (List Nat) (fun x => Oct x.2) (fun x => [octA x.2]) (fun x => (makeR x.1 x.2).s) (fun x => wrA (makeR x.1 x.2))

theorem qaS : (
 let q1 : Prop := true = true/\zaC/\(0 : Nat) = 0;
 let q2 : Prop := q1/\True;
 let q3 : Prop := (107 : TypeId) = 107/\q1/\q2; ∀ (x : StoreT × List Nat),
 let q4 : Prop := Tr 1 ((0 : Int) = (makeR x.1 x.2).at_);
 let q5 : Prop := devB x.1.ws = devB (makeR x.1 x.2).s.ws; zaE x.1/\Oct x.2->BC (!decide ((x.2.length : Int) = (64 : Int))) (Exx Unit fun y => (((q4/\Tr 1 ((2 : Int) = (makeR x.1 x.2).e)/\True)/\True)/\q3/\q5/\zaB x.1.a = zaB (makeR x.1 x.2).s.a/\true = true/\True)/\True) (Exx (AllocT × Unit) fun x_1 => (q2/\true = true/\zaB x.1.a = zaB x_1.1/\True)/\(za9 x_1.1/\True)/\∀ (y : Unit), True->BC (!decide (zbX x_1.1 x_1.1.r = (0 : Int))) (Exx Unit fun y => (((q4/\Tr 1 (zbX x_1.1 x_1.1.r = (makeR x.1 x.2).e)/\True)/\True)/\q3/\q5/\zaB (zaV x_1.1 x_1.1.r) = zaB (makeR x.1 x.2).s.a/\true = true/\True)/\True) (Exx (StoreT × Int × List Nat) fun x_2 =>
 let q6 : Wr := zb0 x_2.1 x_2.2.1 x_2.2.2;
 let q7 : StoreT := q6.s; ((q1/\Tr 1 (zdQ x_1.1 x_1.1.r = x_2.2.1)/\(x.2.length = x_2.2.2.length/\∀ (i : Nat), i < x_2.2.2.length->[AV.int .u8 (↑(x.2.getD i 0) : Int)] = [AV.int .u8 (↑(x_2.2.2.getD i 0) : Int)])/\True)/\true = true/\q3/\devB x.1.ws = devB x_2.1.ws/\zaB (zaV x_1.1 x_1.1.r) = zaB x_2.1.a/\True)/\(zaE x_2.1/\I64 x_2.2.1/\Oct x_2.2.2)/\∀ (y : Unit), True->Exx Unit fun y => (((Tr 1 (q6.at_ = (makeR x.1 x.2).at_)/\Tr 1 (q6.e = (makeR x.1 x.2).e)/\True)/\True)/\q3/\devB q7.ws = devB (makeR x.1 x.2).s.ws/\zaB q7.a = zaB (makeR x.1 x.2).s.a/\true = true/\True)/\True))) = (fnVC tb [(46, zaA zmB), (47, zaA zm0)] Tryz.f16 zf0 (fun _ => {}) (fun _ => none)) := by kernel_rfl

theorem zhC : SpecOk Tryz.prog 16 (zaA zf0) := by
 refine zaJ mixed zaL (SPok.cons zv1 (SPok.cons zp4 SPok.nil)) Tryz.func16 (by decide) (zaK fun _ => ⟨rfl, rfl, trivial⟩) (Eq.mp qaS ?_)
 simp (maxSteps := 10000000) only [std, stdU, stdV, Exx, I64, Nat.reduceMul, Nat.reduceDiv, Nat.reduceAdd, Int.reduceToNat, zaM, zaH]
 rintro s b ⟨h, hb⟩
 refine ⟨fun hne => ?_, fun h64 => ⟨h.2, fun hne => ?_, fun hz => ⟨{ s with a := zaV s.a s.a.r }, rfl, rfl, ⟨h.1, qdC h.2 _⟩, (zlH h.2 _).1, (zlH h.2 _).2, hb, ?_⟩⟩⟩
 ·rw [makeR, if_neg (fun k => hne (by rw [k]; rfl))]; exact ⟨rfl, rfl, rfl, rfl⟩
 ·rw [makeR, if_pos (by omega), if_neg hne]; exact ⟨rfl, rfl, rfl, rfl⟩
 ·rw [makeR, if_pos (by omega), if_pos hz]; exact ⟨rfl, rfl, rfl, rfl⟩

def ziF : Ctr := zaS (Int × List Nat) (fun x => I64 x.2.1/\Oct x.2.2) (fun x => [i64 x.2.1, octA x.2.2]) (fun x => (zg7 x.1 x.2.1 x.2.2).s) (fun x => wrA (zg7 x.1 x.2.1 x.2.2))

theorem qaR : (
 let q1 : Prop := true = true/\zaC/\(0 : Nat) = 0;
 let q2 : Prop := q1/\True;
 let q3 : Prop := (107 : TypeId) = 107/\q1/\q2; ∀ (x : StoreT × Int × List Nat),
 let q4 : Int := (x.2.2.length : Int);
 let q5 : Wr := zg7 x.1 x.2.1 x.2.2;
 let q6 : Int := q5.at_;
 let q7 : Prop := Tr 1 ((0 : Int) = q6);
 let q8 : Int := q5.e;
 let q9 : Prop := (q7/\Tr 1 ((2 : Int) = q8)/\True)/\True;
 let q10 : StoreT := q5.s;
 let q11 : Ob := devB q10.ws;
 let q12 : Prop := devB x.1.ws = q11;
 let q13 : Ob := zaB q10.a; zaE x.1/\I64 x.2.1/\Oct x.2.2->BC (!decide (q4 = (64 : Int))) (Exx Unit fun y => (q9/\q3/\q12/\zaB x.1.a = q13/\true = true/\True)/\True) (Exx AllocT fun x_1 => (q2/\true = true/\zaB x.1.a = zaB x_1/\True)/\za9 x_1/\∀ (y : Unit), True->Exx ((Nat × Nat) × Int) fun x_2 => ((q1/\Tr 1 (x.2.1 = x_2.2)/\True)/\true = true/\setB (x_1.n, x_1.w) = setB x_2.1/\True)/\(SetW x_2.1/\I64 x_2.2)/\∀ (y : Unit), True->BC (!hasN x_2.1 x_2.2) (Exx Unit fun y => (q9/\q3/\q12/\zaB x_1 = q13/\true = true/\True)/\True) (Exx (AllocT × Int) fun x_3 => ((q1/\Tr 1 (x.2.1 = x_3.2)/\True)/\true = true/\zaB x_1 = zaB x_3.1/\True)/\(za9 x_3.1/\I64 x_3.2)/\∀ (y : Unit), True->BC (hasN (x_3.1.n, x_3.1.w) x_3.2 && !hasN (x_3.1.n, x_3.1.m) x_3.2) (Exx (StoreT × Int × List Nat) fun x_4 =>
 let q14 : Wr := zb0 x_4.1 x_4.2.1 x_4.2.2;
 let q15 : StoreT := q14.s; ((q1/\Tr 1 (x.2.1 = x_4.2.1)/\(x.2.2.length = x_4.2.2.length/\∀ (i : Nat), i < x_4.2.2.length->[AV.int .u8 (↑(x.2.2.getD i 0) : Int)] = [AV.int .u8 (↑(x_4.2.2.getD i 0) : Int)])/\True)/\true = true/\q3/\devB x.1.ws = devB x_4.1.ws/\zaB x_3.1 = zaB x_4.1.a/\True)/\(zaE x_4.1/\I64 x_4.2.1/\Oct x_4.2.2)/\∀ (y : Unit), True->Exx Unit fun y => (((Tr 1 (q14.at_ = q6)/\Tr 1 (q14.e = q8)/\True)/\True)/\q3/\devB q15.ws = q11/\zaB q15.a = q13/\true = true/\True)/\True) (Exx (StoreT × List Nat) fun x_4 => ((q1/\(x.2.2.length = x_4.2.length/\∀ (i : Nat), i < x_4.2.length->[AV.int .u8 (↑(x.2.2.getD i 0) : Int)] = [AV.int .u8 (↑(x_4.2.getD i 0) : Int)])/\True)/\true = true/\q3/\devB x.1.ws = devB x_4.1.ws/\zaB x_3.1 = zaB x_4.1.a/\True)/\(zaE x_4.1/\Oct x_4.2)/\∀ (y : Unit), True->BC (!decide ((makeR x_4.1 x_4.2).e = (0 : Int))) (Exx Unit fun y => (((q7/\Tr 1 ((makeR x_4.1 x_4.2).e = q8)/\True)/\True)/\q3/\devB (makeR x_4.1 x_4.2).s.ws = q11/\zaB (makeR x_4.1 x_4.2).s.a = q13/\true = true/\True)/\True) (Exx (AllocT × Int) fun x_5 => ((q1/\Tr 1 (x.2.1 = x_5.2)/\True)/\true = true/\zaB (makeR x_4.1 x_4.2).s.a = zaB x_5.1/\True)/\(za9 x_5.1/\I64 x_5.2)/\∀ (y : Unit), True->Exx Unit fun y => (((Tr 1 ((makeR x_4.1 x_4.2).at_ = q6)/\Tr 1 (zcC x_5.1 x_5.2 = q8)/\True)/\True)/\q3/\devB (makeR x_4.1 x_4.2).s.ws = q11/\zaB (zfW x_5.1 x_5.2) = q13/\true = true/\True)/\True))))) = (fnVC tb [(16, zaA zf0), (47, zaA zm0), (60, zaA zyV), (93, zaA zi6), (135, zcQ (zaA zlN) (zaA ziI)), (166, zaA zpL)] Tryz.f125 ziF (fun _ => {}) (fun _ => none)) := by kernel_rfl

theorem zmH : SpecOk Tryz.prog 125 (zaA ziF) := by
 refine zaJ mixed zaL (SPok.cons zhC (SPok.cons zp4 (SPok.cons zyU (SPok.cons zmW (SPok.cons (zbA zkG ziH) (SPok.cons zyK SPok.nil)))))) Tryz.func125 (by decide) (zaK fun _ => ⟨rfl, rfl, trivial⟩) (Eq.mp qaR ?_)
 simp (maxSteps := 10000000) only [std, stdU, stdV, Exx, I64, Nat.reduceMul, Nat.reduceDiv, Nat.reduceAdd, Int.reduceToNat, zaM, zaH, zaX]
 rintro s a b ⟨h, h1, h2, hb⟩
 have hs : SetW (s.a.n, s.a.w) := ⟨h.2.1, h.2.2.2.2.2.2⟩
 refine ⟨fun hne => ?_, fun h64 => ⟨h.2, hs, h1, h2, fun hn => ?_, fun hy => ⟨h.2, h1, h2, fun ho => ⟨s, rfl, rfl, h, h1, h2, hb, ?_⟩, fun ho => ⟨s, rfl, rfl, h, hb, fun hne => ?_, fun hz => ⟨(zlZ h hb).2, h1, h2, ?_⟩⟩⟩⟩⟩
 ·rw [zg7, if_neg (fun k => hne (by rw [k.1]; rfl))]; exact ⟨rfl, rfl, rfl, rfl⟩
 ·rw [zg7, if_neg (fun k => by rw [k.2] at hn; cases hn)]; exact ⟨rfl, rfl, rfl, rfl⟩
 ·rw [zg7, if_pos ⟨by omega, hy⟩, if_pos (show ownB s.a a = true from ho)]; exact ⟨rfl, rfl, rfl, rfl⟩
 ·rw [zg7, if_pos ⟨by omega, hy⟩, if_neg (fun k => by rw [ownB, ho] at k; cases k), if_neg hne]; exact ⟨rfl, rfl, rfl, rfl⟩
 ·rw [zg7, if_pos ⟨by omega, hy⟩, if_neg (fun k => by rw [ownB, ho] at k; cases k), if_pos hz]; exact ⟨rfl, rfl, rfl, rfl⟩

def storeNewI : Ctr2 where
 X := StoreT
 conv := true
 tau := tau2
 pre := zaE
 args := fun _ => [.ptr 0 [] 0, .ptr 1 [] 0]
 heap := fun s => [devI s.ws, zfO s.a]
 p := fun s => s.a.n <= linesN s.ws
 a := { Y := Unit, Q := fun _ _ => True, res := fun _ _ => .tup [.ptr 3 [] 0, i64 0], its := fun s _ => [devI s.ws, zfO s.a], new := fun _ _ => [ztY 0 1] }
 b := { Y := Unit, Q := fun _ _ => True, res := fun _ _ => .tup [.nilp, i64 2], its := fun s _ => [devI s.ws, zfO s.a], new := fun _ _ => [] }
def tupPtr2 (av : AV) : Option Ren := match av with
 | .tup (.ptr q _ _ :: _) => some [some 0, some 1, some 2, some q]
 | _ => none

theorem qdK : (
 let q1 : Prop := true = true/\zaC/\(0 : Nat) = 0;
 let q2 : Prop := q1/\True; ∀ (x : StoreT), DevW x.ws/\za9 x.a->Exx AllocT fun x_1 => (q2/\true = true/\zaB x.a = zaB x_1/\True)/\za9 x_1/\∀ (y : Unit), True->Exx ((Nat × Nat) × Unit) fun x_2 => (q2/\true = true/\setB (x_1.n, x_1.w) = setB x_2.1/\True)/\(SetW x_2.1/\True)/\∀ (y : Unit), True->Exx (List Nat × Unit) fun x_3 =>
 let q3 : Int := (↑(x_3.1.length / 8) : Int); (q2/\true = true/\devB x.ws = devB x_3.1/\True)/\(DevW x_3.1/\True)/\∀ (y : Unit), True->BC (decide (q3 < (x_2.1.1 : Int))) ((x.a.n.le (linesN x.ws)/\Exx Unit fun y => (((False/\Tr 1 ((2 : Int) = 0)/\True)/\True)/\devB x_3.1 = devB x.ws/\zaB x_1 = zaB x.a/\true = true/\False/\True)/\True)\/¬storeNewI.p x/\Exx Unit fun y => ((Tr 1 (Tr 1 ((2 : Int) = 2)/\True)/\True)/\devB x_3.1 = devB x.ws/\zaB x_1 = zaB x.a/\true = true/\True)/\True) ((x.a.n.le (linesN x.ws)/\Exx Unit fun y => (((q1/\Tr 1 ((0 : Int) = 0)/\True)/\True)/\devB x_3.1 = devB x.ws/\zaB x_1 = zaB x.a/\true = true/\((107 : Nat) = (107 : TypeId)/\q1/\q2)/\True)/\True)\/¬storeNewI.p x/\Exx Unit fun y => False/\True)) = (qgO tb [(60, zaA zyV), (111, zaA zfK), (113, zcQ (zaA zh6) (zaA zgF))] Tryz.f79 storeNewI (fun _ => {}) (fun _ av _ => tupPtr2 av) (fun _ => []) (fun _ _ _ _ => []) (fun _ _ _ _ => [])) := by kernel_rfl

theorem zwG : SpecOk Tryz.prog 79 (zmJ storeNewI) := by
 refine zwK mixed zaL (SPok.cons zyU (SPok.cons zeV (SPok.cons (zbA zj4 zh5) SPok.nil))) Tryz.func79 (by decide) ⟨fun _ _ _ _ => rfl, fun _ _ _ _ => ⟨rfl, rfl⟩, fun x _ _ _ _ => ⟨⟨⟨trivial, trivial, trivial⟩, ⟨⟨rfl, rfl, trivial⟩, trivial⟩⟩, rfl, rfl, trivial⟩⟩ ⟨fun _ _ _ _ => rfl, fun _ _ _ _ => ⟨rfl, rfl⟩, fun x _ _ _ _ => ⟨⟨⟨trivial, trivial, trivial⟩, trivial⟩, rfl, rfl, trivial⟩⟩ (Eq.mp qdK ?_)
 simp (maxSteps := 10000000) only [std, stdU, stdV, Exx, I64, Nat.reduceMul, Nat.reduceDiv, Nat.reduceAdd, Int.reduceToNat, zaM, zaH, zaX]
 rintro s ⟨h1, h2⟩
 have e : linesN s.ws = s.ws.length / 8 := rfl
 refine ⟨h2, ⟨h2.1, h2.2.2.2.2.2⟩, h1, fun h k => ?_, fun h => ?_⟩
 ·have k' : s.a.n <= linesN s.ws := k
  omega
 ·show s.a.n <= linesN s.ws
  omega

def zc9 (n : Nat) (r : Int) : StoreT := { ws := List.replicate (8 * n) 0, a := { n := n, r := r, c := addL n 0 [0, 1], e := 0, m := addL n 0 [0, 1], w := addL n 0 [0, 1] } }
def ziT : Ctr where
 X := Nat × Int
 Y := Unit
 conv := true
 tau := fun _ _ => []
 pre := fun x => x.1 <= 3072/\0 <= x.2/\I64 x.2
 args := fun x => [i64 (x.1 : Nat), i64 x.2]
 heap := fun _ => []
 Q := fun _ _ => True
 res := fun _ _ => .tup [.ptr 1 [] 0, .ptr 2 [] 0, .ptr 3 [] 0]
 its := fun _ _ => []
 new := fun x _ => [ztY 2 3, devI (zc9 x.1 x.2).ws, zfO (zc9 x.1 x.2).a]
theorem zr9 : CtrOk ziT :=
 ⟨fun _ _ _ _ => rfl, fun _ _ _ _ => ⟨rfl, rfl⟩, fun x _ _ _ _ => ⟨⟨trivial, ⟨⟨rfl, rfl, trivial⟩, trivial, trivial, trivial⟩⟩, rfl, rfl, rfl, trivial⟩⟩
def tupPtr3 (av : AV) : Option Ren := match av with
 | .tup (.ptr q _ _ :: .ptr r _ _ :: .ptr s _ _ :: _) => some [some 0, some q, some r, some s]
 | _ => none

theorem qbL : (
 let q1 : Nat := (TI.mk (TK.int IntKind.i64) 1 8 (ZL.cons (Value.int IntKind.i64 0) ZL.nil) false).size;
 let q2 : Prop := zaC/\(0 : Nat) = 0;
 let q3 : Prop := true = true/\q2;
 let q4 : Prop := q3/\q3/\True;
 let q5 : Prop := false = true/\q2;
 let q6 : Prop := q5/\True;
 let q7 : Prop := False/\q2;
 let q8 : Prop := q5/\False/\True;
 let q9 : Prop := False/\q6; ∀ (x : Nat × Int), x.1 <= 3072/\(0 : Int) <= x.2/\I64 x.2->Exx Int fun x_1 => ((Tr 1 ((x.1 : Int) = x_1)/\True)/\true = true/\True)/\(-9223372036854775808 <= x_1/\x_1 <= (9223372036854775807 : Int))/\((0 : Int) <= x_1/\x_1 <= (4096 : Int)->∀ (y : Unit), True->Exx (Int × List Int) fun x_2 => ((Tr 1 ((x.1 : Int) = x_2.1)/\((0 : Nat) + (2 : Nat) <= (2 : Nat)/\2 = x_2.2.length/\∀ (i : Nat),
 let q10 : Nat := 0 + i; i < x_2.2.length->[AV.int .i64 (if q10 = 1 * 1 / 1 then 1 else if q10 = 0 * 1 / 1 then 0 else 0)] = [AV.int .i64 (x_2.2.getD i 0)])/\True)/\true = true/\True)/\(I64 x_2.1/\Ints x_2.2)/\∀ (y : Unit), True->Exx (Int × List Int) fun x_3 => ((Tr 1 ((x.1 : Int) = x_3.1)/\(0 = x_3.2.length/\∀ (i : Nat), i < x_3.2.length->[] = [AV.int .i64 (x_3.2.getD i 0)])/\True)/\true = true/\True)/\(I64 x_3.1/\Ints x_3.2)/\∀ (y : Unit), True->Exx ((Nat × Nat) × (Nat × Nat) × Int) fun x_4 =>
 let q11 : Prop := true = true/\False/\False/\setB x_4.1 = zaB (zc9 x.1 x.2).a/\True; ((q3/\q3/\Tr 1 (x.2 = x_4.2.2)/\True)/\true = true/\setB (clampN x_2.1, addL (clampN x_2.1) 0 x_2.2) = setB x_4.1/\setB (clampN x_3.1, addL (clampN x_3.1) 0 x_3.2) = setB x_4.2.1/\True)/\(SetW x_4.1/\SetW x_4.2.1/\I64 x_4.2.2)/\(x_4.1.1 = x_4.2.1.1/\(0 : Int) <= x_4.2.2->∀ (y : Unit), True->Exx StoreT fun x_5 => (q4/\true = true/\devB (List.replicate (8 * x_1.toNat) (0 : Nat)) = devB x_5.ws/\zaB (zcB x_4) = zaB x_5.a/\True)/\(DevW x_5.ws/\za9 x_5.a)/\(x_5.a.n.le (linesN x_5.ws)->∀ (y : Unit), True->Exx Unit fun y => (((q3/\q4)/\True)/\true = true/\((107 : TypeId) = 107/\q4)/\devB x_5.ws = devB (zc9 x.1 x.2).ws/\zaB x_5.a = zaB (zc9 x.1 x.2).a/\True)/\True)/\(¬storeNewI.p x_5->∀ (y : Unit), True->Exx Unit fun y => (((False/\q5/\q6)/\True)/\q11)/\True))/\(¬allocNewI.p x_4->∀ (y : Unit), True->Exx StoreT fun x => ((q7/\False/\True)/\false = true/\False/\False/\True)/\(DevW x.ws/\za9 x.a)/\(x.a.n.le (linesN x.ws)->∀ (y : Unit), True->Exx Unit fun y => (((q5/\q8)/\True)/\q11)/\True)/\(¬storeNewI.p x->∀ (y : Unit), True->Exx Unit fun y => (((False/\q8)/\True)/\q11)/\True)))/\(¬devNewI.p x_1->∀ (y : Unit), True->Exx (Int × List Int) fun x_2 => ((Tr 1 ((x.1 : Int) = x_2.1)/\((0 : Nat) + (2 : Nat) <= (2 : Nat)/\2 = x_2.2.length/\∀ (i : Nat),
 let q12 : Nat := 0 + i; i < x_2.2.length->[AV.int .i64 (if q12 = 1 * 1 / 1 then 1 else if q12 = 0 * 1 / 1 then 0 else 0)] = [AV.int .i64 (x_2.2.getD i 0)])/\True)/\true = true/\True)/\(I64 x_2.1/\Ints x_2.2)/\∀ (y : Unit), True->Exx (Int × List Int) fun x_3 => ((Tr 1 ((x.1 : Int) = x_3.1)/\(0 = x_3.2.length/\∀ (i : Nat), i < x_3.2.length->[] = [AV.int .i64 (x_3.2.getD i 0)])/\True)/\true = true/\True)/\(I64 x_3.1/\Ints x_3.2)/\∀ (y : Unit), True->Exx ((Nat × Nat) × (Nat × Nat) × Int) fun x_4 =>
 let q13 : Prop := true = true/\False/\setB x_4.1 = devB (zc9 x.1 x.2).ws/\setB x_4.2.1 = zaB (zc9 x.1 x.2).a/\True; ((q3/\q3/\Tr 1 (x.2 = x_4.2.2)/\True)/\true = true/\setB (clampN x_2.1, addL (clampN x_2.1) 0 x_2.2) = setB x_4.1/\setB (clampN x_3.1, addL (clampN x_3.1) 0 x_3.2) = setB x_4.2.1/\True)/\(SetW x_4.1/\SetW x_4.2.1/\I64 x_4.2.2)/\(x_4.1.1 = x_4.2.1.1/\(0 : Int) <= x_4.2.2->∀ (y : Unit), True->Exx StoreT fun x => ((False/\q7/\True)/\false = true/\False/\False/\True)/\(DevW x.ws/\za9 x.a)/\(x.a.n.le (linesN x.ws)->∀ (y : Unit), True->Exx Unit fun y => (((q5/\q9)/\True)/\q13)/\True)/\(¬storeNewI.p x->∀ (y : Unit), True->Exx Unit fun y => (((False/\q9)/\True)/\q13)/\True))/\(¬allocNewI.p x_4->∀ (y : Unit), True->Exx StoreT fun x => ((False/\False/\True)/\false = true/\False/\False/\True)/\(DevW x.ws/\za9 x.a)/\(x.a.n.le (linesN x.ws)->∀ (y : Unit), True->Exx Unit fun y => (((q5/\False/\False/\True)/\True)/\q13)/\True)/\(¬storeNewI.p x->∀ (y : Unit), True->Exx Unit fun y => (((False/\False/\False/\True)/\True)/\q13)/\True)))) = (zcO tb [(76, zmJ devNewI), (77, zmV), (78, zaA qdX), (79, zmJ storeNewI)] Tryz.f45 ziT (fun _ => {}) (fun _ av _ => tupPtr3 av) (fun _ => []) (fun _ _ _ _ => [])) := by kernel_rfl

theorem zuR : SpecOk Tryz.prog 45 (zaA ziT) := by
 refine za0 mixed zaL (SPok.cons qg7 (SPok.cons zp2 (SPok.cons qi6 (SPok.cons zwG SPok.nil)))) Tryz.func45 (by decide) zr9 (Eq.mp qbL ?_)
 simp (maxSteps := 10000000) only [std, stdU, stdV, Exx, I64, Nat.reduceMul, Nat.reduceDiv, Nat.reduceAdd, Int.reduceToNat, zaM, zaH, zaX]
 rintro n r ⟨hn, h0, h1, h2⟩
 have hcl : clampN (n : Int) = n := by unfold clampN; omega
 have hz : 0 < 2 ^ n := Nat.pos_of_ne_zero (by simp)
 rw [hcl]
 have hw : zaE (zc9 n r) := ⟨⟨by show (List.replicate (8 * n) 0).length <= _; rw [List.length_replicate]; omega, fun w hw => by have : w = 0 := (List.mem_replicate.1 hw).2; subst this; unfold U64; omega⟩, hn, ⟨h1, h2⟩, zfX hz, hz, zfX hz, zfX hz⟩
 have hl : (zc9 n r).a.n <= linesN (zc9 n r).ws := by
  show n <= (List.replicate (8 * n) 0).length / 8
  rw [List.length_replicate]; omega
 have hi2 : ∀ i, i < ([0, 1] : List Int).length->(if i = 1 then [AV.int IntKind.i64 1] else if i = 0 then [AV.int IntKind.i64 0] else [AV.int IntKind.i64 0]) = [AV.int IntKind.i64 (([0, 1] : List Int).getD i 0)] := fun i hi => by
  have hi : i < 2 := hi
  have : i = 0\/i = 1 := by omega
  rcases this with rfl | rfl <;> rfl
 have hI : Ints [0, 1] := ⟨fun x hx => by
  simp at hx
  rcases hx with rfl | rfl <;> exact ⟨by omega, by omega⟩, by simp⟩
 exact ⟨by omega, by omega, fun _ => ⟨[0, 1], rfl, hi2, by omega, by omega, hI, [], rfl, fun i hi => by simp at hi, by omega, by omega, ⟨by simp, by simp⟩, ⟨hn, zfX hz⟩, ⟨hn, hz⟩, h1, h2, fun _ => ⟨zc9 n r, rfl, rfl, hw.1, hw.2, fun _ => ⟨rfl, rfl⟩, fun h => h hl⟩, fun h => absurd (show allocNewI.p ((n, addL n 0 [0, 1]), (n, addL n 0 []), r) from ⟨rfl, h0⟩) h⟩, fun h => absurd (show devNewI.p (n : Int) from ⟨by omega, by omega⟩) h⟩

end Yard
