import Derived.Test.YtkdppdofkkakaaaGreatDoorShadow
import Derived.Test.YtkdppdofkkakaaaGreatDoorRefList
import Derived.Test.YtkdppdofkkakaaaGreatDoorAwMath

namespace Yard
open Go Go.Sx Go.Proofs
set_option linter.unusedVariables false
set_option linter.unusedSimpArgs false
set_option maxRecDepth 4000
set_option maxHeartbeats 4000000

abbrev qe9 (ws : List Nat) (g : DevG) (j : Nat) : List AV := [u64 (g.la j), u64 (ws.getD j 0), u64 (g.se j), .bool (g.fl j)]
def zkZ : Ctr where
 X := DevG × List Nat × Nat
 Y := Unit
 conv := true
 tau := zd9
 pre := fun x => DevW x.2.1/\x.2.2 < x.2.1.length
 args := fun x => [.ptr 0 [(0, 4, x.2.2)] 0]
 heap := fun x => [.row 129 4 x.1.cap x.2.1.length (qe9 x.2.1 x.1)]
 Q := fun _ _ => True
 res := fun x _ => u64 (x.2.1.getD x.2.2 0)
 its := fun x _ => [.row 129 4 x.1.cap x.2.1.length (qe9 x.2.1 x.1)]
 new := fun _ _ => []
theorem zvR : CtrOk zkZ :=
 ⟨fun _ _ _ _ => (rfl : 1 = 1), fun _ _ _ _ => ⟨rfl, rfl⟩, fun x _ _ _ _ => ⟨⟨⟨⟨fun _ _ => ⟨rfl, rfl, rfl, rfl, trivial⟩, trivial⟩, trivial⟩, trivial⟩, rfl⟩⟩
theorem viewFnV : (∀ (x : DevG × List Nat × Nat),
 let q1 : Prop := x.2.2 < x.2.1.length;
 let q2 : Int := (↑(x.2.1.getD x.2.2 0) : Int); DevW x.2.1/\q1->q1/\Exx Unit fun y => ((Tr 1 (q2 = q2)/\True)/\((129 : TypeId) = 129/\(4 : Nat) = 4/\x.1.cap = x.1.cap/\x.2.1.length <= x.2.1.length/\∀ (i : Nat),
 let q3 : List AV := [AV.int .u64 (↑(x.1.la i) : Int), AV.int .u64 (↑(x.2.1.getD i 0) : Int), AV.int .u64 (↑(x.1.se i) : Int), AV.bool (x.1.fl i)]; i < x.2.1.length->q3 = q3)/\true = true/\True)/\True) = (fnVC tb [] Tryz.f52 zkZ (fun _ => {}) (fun _ => none)) := by kernel_rfl

theorem zp9 : SpecOk Tryz.prog 52 (zaA zkZ) := by
 refine zaF zaH zaG SPok.nil Tryz.func52 (by decide) zvR (Eq.mp viewFnV ?_)
 simp (maxSteps := 10000000) only [std, stdU, stdV, Exx, I64, Nat.reduceMul, Nat.reduceDiv, Nat.reduceAdd, Int.reduceToNat]
 rintro g ws i ⟨h, hi⟩
 exact hi

def zgZ : Ctr where
 X := DevG × List Nat
 Y := DevG × Nat
 conv := true
 tau := qaZ
 pre := fun x => DevW x.2
 args := fun _ => [.ptr 0 [] 0, .fn 52]
 heap := fun x => zmK x.2 x.1
 Q := fun x y => y.1.cap = x.1.cap/\(octetsN x.2).length <= y.2
 res := fun x y => .sl 3 [] 0 1 0 (octetsN x.2).length y.2
 its := fun x y => zmK x.2 y.1
 new := fun x y => [rowN 5 .u8 y.2 (octetsN x.2)]
theorem zpR : CtrOk zgZ :=
 ⟨fun _ _ _ _ => (rfl : 2 = 2), fun _ _ _ _ => ⟨rfl, rfl⟩, fun x _ _ _ _ => ⟨⟨devPl _ _, ⟨⟨fun _ _ => ⟨rfl, trivial⟩, trivial⟩, trivial⟩⟩, rfl⟩⟩
def ztV (x : DevG × List Nat) : LA := { T := Nat, F := fun i => frm 35 [(0, .ptr 0 [] 0), (1, .fn 52), (5, .sl 3 [] 0 1 0 x.2.length x.2.length), (17, i64 (x.2.length : Nat)), (18, i64 (i : Nat))], H := fun i => zmK x.2 x.1 ++ [.fence, .row 127 1 x.2.length x.2.length (fun j => [u64 (if j < i then x.2.getD j 0 else 0)])] }
def slSg3 (av : AV) : Option Ren := match av with
 | .sl q _ _ _ _ _ _ => some [some 0, some 1, some 2, some q]
 | _ => some [some 0, some 1, some 2, none]
theorem zw3 : (
 let q1 : Prop := true = true/\zaB/\(0 : Nat) = 0;
 let q2 : Prop := (135 : TypeId) = 135;
 let q3 : Prop := (129 : TypeId) = 129;
 let q4 : Prop := (127 : TypeId) = 127; ∀ (x : DevG × List Nat),
 let q5 : Prop := (x.2.length : Int).toNat = x.2.length;
 let q6 : Prop := Tr 1 ((x.2.length : Int) = (x.2.length : Int));
 let q7 : Prop := q2/\(true = true/\zaB/\(0 : Nat) = 0/\(4 : Nat) = 4/\(0 : Nat) = 0/\x.2.length = x.2.length/\x.1.cap = x.1.cap)/\Tr 1 (Tr 1 ((0 : Int) = 0)/\false = false/\false = false/\Tr 1 (x.1.left = x.1.left)/\Tr 1 (x.1.steps = x.1.steps)/\True);
 let q8 : Prop := x.2.length <= x.2.length; DevW x.2->((0 : Int) <= (x.2.length : Int)/\(x.2.length : Int) <= (x.2.length : Int)/\(↑(8 : Nat) : Int) * (x.2.length : Int) <= (281474976710656 : Int)/\(x.2.length : Int) <= (9223372036854775807 : Int))/\Exx (Nat->Prop) fun I => Exx (Nat->Nat) fun m => (Exx Nat fun t => I t/\(q1/\(52 : Nat) = 52/\Tr 3 ((true = true/\zaB/\(0 : Nat) = 0/\(1 : Nat) = 1/\(0 : Nat) = 0/\q5/\q5)/\Tr 11 (q6/\Tr 1 ((0 : Int) = (t : Int))/\Tr 16 True)))/\q7/\(q3/\(4 : Nat) = 4/\x.1.cap = x.1.cap/\q8/\∀ (i : Nat),
 let q9 : List AV := [AV.int .u64 (↑(x.1.la i) : Int), AV.int .u64 (↑(x.2.getD i 0) : Int), AV.int .u64 (↑(x.1.se i) : Int), AV.bool (x.1.fl i)]; i < x.2.length->q9 = q9)/\true = true/\(q4/\(1 : Nat) = 1/\q5/\x.2.length <= (x.2.length : Int).toNat/\∀ (i : Nat), i < x.2.length->[AV.int .u64 0] = [AV.int .u64 (↑(if i < t then x.2.getD i 0 else 0) : Int)])/\True)/\∀ (t : Nat),
 let q10 : Prop := (t : Int) < (x.2.length : Int);
 let q11 : Prop := (0 : Int) <= (t : Int)/\q10;
 let q12 : Nat := 0 + (t : Int).toNat;
 let q13 : Int := (t : Int) + 1; I t->BC (decide q10) (q11/\Exx (DevG × List Nat × Nat) fun x_1 => (((true = true/\[] ++ [(0, 4, q12)] = [(0, 4, x_1.2.2)]/\(0 : Nat) = 0)/\True)/\true = true/\(q3/\(4 : Nat) = 4/\x.1.cap = x_1.1.cap/\x_1.2.1.length <= x.2.length/\∀ (i : Nat), i < x_1.2.1.length->[AV.int .u64 (↑(x.1.la i) : Int), AV.int .u64 (↑(x.2.getD i 0) : Int), AV.int .u64 (↑(x.1.se i) : Int), AV.bool (x.1.fl i)] = [AV.int .u64 (↑(x_1.1.la i) : Int), AV.int .u64 (↑(x_1.2.1.getD i 0) : Int), AV.int .u64 (↑(x_1.1.se i) : Int), AV.bool (x_1.1.fl i)])/\True)/\(DevW x_1.2.1/\x_1.2.2 < x_1.2.1.length)/\∀ (y : Unit), True->q11/\q12 < x.2.length/\x.2.length = x.2.length/\I64 q13/\Exx Nat fun t' => (I t'/\m t' < m t)/\(q1/\(52 : Nat) = 52/\Tr 3 ((true = true/\zaB/\(0 : Nat) = 0/\(1 : Nat) = 1/\(0 : Nat) = 0/\x.2.length = x.2.length/\x.2.length = x.2.length)/\Tr 11 (q6/\Tr 1 (q13 = (↑t' : Int))/\Tr 16 True)))/\q7/\(q3/\(4 : Nat) = 4/\x_1.1.cap = x.1.cap/\x.2.length <= x_1.2.1.length/\∀ (i : Nat), i < x.2.length->[AV.int .u64 (↑(x_1.1.la i) : Int), AV.int .u64 (↑(x_1.2.1.getD i 0) : Int), AV.int .u64 (↑(x_1.1.se i) : Int), AV.bool (x_1.1.fl i)] = [AV.int .u64 (↑(x.1.la i) : Int), AV.int .u64 (↑(x.2.getD i 0) : Int), AV.int .u64 (↑(x.1.se i) : Int), AV.bool (x.1.fl i)])/\true = true/\(q4/\(1 : Nat) = 1/\x.2.length = x.2.length/\q8/\∀ (i : Nat), i < x.2.length->[AV.int .u64 (if i = q12 then (↑(x_1.2.1.getD x_1.2.2 0) : Int) else (↑(if i < t then x.2.getD i 0 else 0) : Int))] = [AV.int .u64 (↑(if i < t' then x.2.getD i 0 else 0) : Int)])/\True) (Exx (List Nat) fun x_1 => (((0 + x.2.length <= x.2.length/\x.2.length = x_1.length/\∀ (i : Nat),
 let q14 : Nat := 0 + i; i < x_1.length->[AV.int .u64 (↑(if q14 < t then x.2.getD q14 0 else 0) : Int)] = [AV.int .u64 (↑(x_1.getD i 0) : Int)])/\True)/\true = true/\True)/\((∀ (w : Nat), w ∈ x_1->U64 w)/\x_1.length <= 1000000)/\∀ (y : Nat), (octetsN x_1).length <= y->Exx (DevG × Nat) fun y_1 => (((true = true/\zaB/\(0 : Nat) = 0/\(1 : Nat) = 1/\(0 : Nat) = 0/\(octetsN x_1).length = (octetsN x.2).length/\y = y_1.2)/\True)/\(q2/\(true = true/\zaB/\(0 : Nat) = 0/\(4 : Nat) = 4/\(0 : Nat) = 0/\x.2.length = x.2.length/\x.1.cap = y_1.1.cap)/\Tr 1 (Tr 1 ((0 : Int) = 0)/\false = false/\false = false/\Tr 1 (x.1.left = y_1.1.left)/\Tr 1 (x.1.steps = y_1.1.steps)/\True))/\(q3/\(4 : Nat) = 4/\x.1.cap = y_1.1.cap/\q8/\∀ (i : Nat),
 let q15 : AV := AV.int .u64 (↑(x.2.getD i 0) : Int); i < x.2.length->[AV.int .u64 (↑(x.1.la i) : Int), q15, AV.int .u64 (↑(x.1.se i) : Int), AV.bool (x.1.fl i)] = [AV.int .u64 (↑(y_1.1.la i) : Int), q15, AV.int .u64 (↑(y_1.1.se i) : Int), AV.bool (y_1.1.fl i)])/\true = true/\((5 : TypeId) = 5/\(1 : Nat) = 1/\y = y_1.2/\(octetsN x.2).length <= (octetsN x_1).length/\∀ (i : Nat), i < (octetsN x.2).length->[AV.int .u8 (↑((octetsN x_1).getD i 0) : Int)] = [AV.int .u8 (↑((octetsN x.2).getD i 0) : Int)])/\True)/\y_1.1.cap = x.1.cap/\(octetsN x.2).length <= y_1.2)) = (zcP tb [(85, zaA zpA), (52, zaA zkZ)] Tryz.f51 zgZ (fun x => { loops := [(3, ztV x)] }) (fun _ av _ => slSg3 av) (fun _ => []) (fun _ _ _ _ => [])) := by kernel_rfl

theorem zrX : SpecOk Tryz.prog 51 (zaA zgZ) := by
 refine za1 zaH zaG (SPok.cons zq4 (SPok.cons zp9 SPok.nil)) Tryz.func51 (by decide) zpR (Eq.mp zw3 ?_)
 simp (maxSteps := 10000000) only [std, stdU, stdV, Exx, I64, Nat.reduceMul, Nat.reduceDiv, Nat.reduceAdd, Int.reduceToNat, List.cons.injEq]
 rintro g ws h
 have hlen := h.1
 refine ⟨by omega, by omega, by omega, by omega, fun t => t <= ws.length, ⟨0, Nat.zero_le _, rfl, fun i hi => rfl⟩, fun t => ws.length - t, fun t ht => ⟨fun hlt => ⟨by omega, by omega, g, ws, t, rfl, rfl, Nat.le_refl _, fun _ _ => ⟨rfl, rfl, rfl, rfl⟩, h, by omega, by omega, by omega, by omega, by omega, by omega, t + 1, by omega, by simp only; omega, by omega, rfl, Nat.le_refl _, fun _ _ => ⟨rfl, rfl, rfl, rfl⟩, fun i hi => ?_⟩, fun hge => ⟨ws, rfl, fun i hi => by rw [if_pos (by omega)], h.2, by omega, fun y hy => ⟨rfl, g, rfl, rfl, rfl, rfl, fun _ _ => ⟨rfl, rfl, rfl⟩, Nat.le_refl _, fun _ _ => rfl, rfl, hy⟩⟩⟩⟩
 by_cases e : i = t
 ·subst e; rw [if_pos rfl, if_pos (by omega)]
 ·rw [if_neg e]
  by_cases e2 : i < t
  ·rw [if_pos e2, if_pos (by omega)]
  ·rw [if_neg e2, if_neg (by omega)]

def zkP : Ctr where
 X := List Nat
 Y := Nat
 conv := true
 tau := zd9
 pre := DevW
 args := fun _ => [.ptr 0 [] 0]
 heap := fun ws => [devI ws]
 Q := fun ws cap => (octetsN ws).length <= cap
 res := fun ws cap => .sl 2 [] 0 1 0 (octetsN ws).length cap
 its := fun ws _ => [devI ws]
 new := fun ws cap => [rowN 5 .u8 cap (octetsN ws)]
theorem ztT : CtrOk zkP :=
 ⟨fun _ _ _ _ => (rfl : 1 = 1), fun _ _ _ _ => ⟨rfl, rfl⟩, fun x _ _ _ _ => ⟨⟨⟨trivial, trivial⟩, ⟨⟨fun _ _ => ⟨rfl, trivial⟩, trivial⟩, trivial⟩⟩, rfl⟩⟩
def slSg2 (av : AV) : Option Ren := match av with
 | .sl q _ _ _ _ _ _ => some [some 0, some 1, some q]
 | _ => some [some 0, some 1, none]
theorem qeF : (
 let q1 : Prop := (135 : TypeId) = 135;
 let q2 : Prop := (129 : TypeId) = 129; ∀ (x : List Nat), DevW x->devB x = (devO x).ob/\∀ (g : DevG), Exx (DevG × List Nat) fun x_1 => (((true = true/\zaB/\(0 : Nat) = 0)/\(52 : Nat) = 52/\True)/\true = true/\(q1/\(true = true/\zaB/\(0 : Nat) = 0/\(4 : Nat) = 4/\(0 : Nat) = 0/\x.length = x_1.2.length/\g.cap = x_1.1.cap)/\Tr 1 (Tr 1 ((0 : Int) = 0)/\false = false/\false = false/\Tr 1 (g.left = x_1.1.left)/\Tr 1 (g.steps = x_1.1.steps)/\True))/\(q2/\(4 : Nat) = 4/\g.cap = x_1.1.cap/\x_1.2.length <= x.length/\∀ (i : Nat), i < x_1.2.length->[AV.int .u64 (↑(g.la i) : Int), AV.int .u64 (↑(x.getD i 0) : Int), AV.int .u64 (↑(g.se i) : Int), AV.bool (g.fl i)] = [AV.int .u64 (↑(x_1.1.la i) : Int), AV.int .u64 (↑(x_1.2.getD i 0) : Int), AV.int .u64 (↑(x_1.1.se i) : Int), AV.bool (x_1.1.fl i)])/\True)/\DevW x_1.2/\∀ (y : DevG × Nat), y.1.cap = x_1.1.cap/\(octetsN x_1.2).length <= y.2->Exx Nat fun y_1 => Exx DevG fun g => Tr 1 ((q1/\(true = true/\zaB/\(0 : Nat) = 0/\(4 : Nat) = 4/\(0 : Nat) = 0/\x_1.2.length = x.length/\y.1.cap = g.cap)/\Tr 1 (Tr 1 ((0 : Int) = 0)/\false = false/\false = false/\Tr 1 (y.1.left = g.left)/\Tr 1 (y.1.steps = g.steps)/\True))/\(q2/\(4 : Nat) = 4/\y.1.cap = g.cap/\x.length <= x_1.2.length/\∀ (i : Nat), i < x.length->[AV.int .u64 (↑(y.1.la i) : Int), AV.int .u64 (↑(x_1.2.getD i 0) : Int), AV.int .u64 (↑(y.1.se i) : Int), AV.bool (y.1.fl i)] = [AV.int .u64 (↑(g.la i) : Int), AV.int .u64 (↑(x.getD i 0) : Int), AV.int .u64 (↑(g.se i) : Int), AV.bool (g.fl i)])/\True)/\(((true = true/\zaB/\(0 : Nat) = 0/\(1 : Nat) = 1/\(0 : Nat) = 0/\(octetsN x_1.2).length = (octetsN x).length/\y.2 = y_1)/\True)/\(devO x).ob = devB x/\true = true/\((5 : TypeId) = 5/\(1 : Nat) = 1/\y.2 = y_1/\(octetsN x).length <= (octetsN x_1.2).length/\∀ (i : Nat), i < (octetsN x).length->[AV.int .u8 (↑((octetsN x_1.2).getD i 0) : Int)] = [AV.int .u8 (↑((octetsN x).getD i 0) : Int)])/\True)/\(octetsN x).length <= y_1) = (zcP tb [(51, zaA zgZ), (52, zaA zkZ)] Tryz.f12 zkP (fun _ => {}) (fun _ av _ => slSg2 av) (fun x => [(0, devO x)]) (fun x y av H => [(0, [2], devO x)])) := by kernel_rfl

theorem zw2 : SpecOk Tryz.prog 12 (zaA zkP) := by
 refine za1 zaH zaG (SPok.cons zrX (SPok.cons zp9 SPok.nil)) Tryz.func12 (by decide) ztT (Eq.mp qeF ?_)
 simp (maxSteps := 10000000) only [std, stdU, stdV, Exx, I64, Nat.reduceMul, Nat.reduceDiv, Nat.reduceAdd, Int.reduceToNat, zd2, zdC, zaU]
 rintro ws h g
 exact ⟨g, ws, rfl, rfl, rfl, rfl, rfl, Nat.le_refl _, fun _ _ => rfl, h, fun g2 c hc => ⟨rfl, c, g2, rfl, rfl, rfl, rfl, Nat.le_refl _, fun _ _ => rfl, rfl, rfl, rfl, Nat.le_refl _, fun _ _ => rfl, hc.2⟩⟩

def zbI (img : List Nat) : List Nat := za4 (img.take (64 * min (img.length / 64) 4096))
def zkR : Ctr where
 X := List Nat
 Y := Unit
 conv := true
 tau := fun _ _ => []
 pre := Oct
 args := fun img => [octA img]
 heap := fun _ => []
 Q := fun _ _ => True
 res := fun _ _ => .ptr 1 [] 0
 its := fun _ _ => []
 new := fun img _ => [devI (zbI img)]
theorem ztW : CtrOk zkR :=
 ⟨fun _ _ _ _ => rfl, fun _ _ _ _ => ⟨rfl, rfl⟩, fun x _ _ _ _ => ⟨⟨trivial, trivial, trivial⟩, rfl⟩⟩
def qaL (F : Fr) (H : AH) : Option Ren := match H[(1 : Nat)]? with
 | some (.cells _ (.sl q _ _ _ _ _ _ :: _)) => some [some 0, some 1, some 2, some q]
 | _ => some [some 0, some 1, some 2, none]
def qa3 (img : List Nat) : LA := { T := Nat × Nat × Nat, F := fun t => frm 37 [(4, .ptr 1 [] 0), (17, .sl 2 [] 0 1 0 (zbI img).length t.2.1), (18, i64 ((zbI img).length : Nat)), (19, i64 (t.1 : Nat))], H := fun t => [.fence, .cells 135 [.sl 3 [] 0 4 0 t.1 t.2.2, .nils, i64 0, .bool false, .bool false, i64 0, i64 0], rowN 127 .u64 t.2.1 (zbI img), .row 129 4 t.2.2 t.1 (fun j => [u64 ((zbI img).getD j 0), u64 ((zbI img).getD j 0), u64 0, .bool false])], ρ₁ := qaL, ρ₂ := qaL }
def ptrSg (av : AV) : Option Ren := match av with
 | .ptr q _ _ => some [some 0, some q]
 | _ => none
theorem qeI : (
 let q1 : Prop := true = true/\zaB/\(0 : Nat) = 0;
 let q2 : Prop := Tr 1 (Tr 1 ((0 : Int) = 0)/\false = false/\false = false/\Tr 1 ((0 : Int) = 0)/\Tr 1 ((0 : Int) = 0)/\True);
 let q3 : Prop := (127 : TypeId) = 127;
 let q4 : Prop := (135 : TypeId) = 135;
 let q5 : Prop := (129 : TypeId) = 129;
 let q6 : List AV := [AV.int .u64 (↑(0 : Nat) : Int), AV.bool false];
 let q7 : Nat := (TI.mk (TK.struct [(0, 127), (1, 127), (2, 127), (3, 4)]) 4 32 (ZL.cons (Value.int IntKind.u64 0) (ZL.cons (Value.int IntKind.u64 0) (ZL.cons (Value.int IntKind.u64 0) (ZL.cons (Value.bool false) ZL.nil)))) false).size; ∀ (x : List Nat),
 let q8 : Int := min ((x.length : Int).tdiv 64) 4096 * 64;
 let q9 : Nat := q8.toNat; Oct x->(64 : Int) ≠ (0 : Int)/\I64 ((x.length : Int).tdiv 64)/\I64 q8/\(0 : Int) <= q8/\(0 <= q9/\q9 <= x.length)/\Exx (List Nat) fun x_1 => (((q9 - 0 = x_1.length/\∀ (i : Nat), i < x_1.length->[AV.int .u8 (↑(x.getD (0 + i) 0) : Int)] = [AV.int .u8 (↑(x_1.getD i 0) : Int)])/\True)/\true = true/\True)/\Oct x_1/\∀ (y : Nat), (za4 x_1).length <= y->Exx (Nat × Nat × Nat->Prop) fun I => Exx (Nat × Nat × Nat->Nat) fun m => (Exx (Nat × Nat × Nat) fun t => I t/\Tr 4 (q1/\Tr 12 ((true = true/\zaB/\(0 : Nat) = 0/\(1 : Nat) = 1/\(0 : Nat) = 0/\(za4 x_1).length = (zbI x).length/\y = t.2.1)/\Tr 1 ((↑(za4 x_1).length : Int) = (↑(zbI x).length : Int))/\Tr 1 ((0 : Int) = (t.1 : Int))/\Tr 17 True))/\true = true/\((135 : Nat) = (135 : TypeId)/\(t.1 = 0/\t.2.2 = 0)/\q2)/\(q3/\(1 : Nat) = 1/\y = t.2.1/\(zbI x).length <= (za4 x_1).length/\∀ (i : Nat), i < (zbI x).length->[AV.int .u64 (↑((za4 x_1).getD i 0) : Int)] = [AV.int .u64 (↑((zbI x).getD i 0) : Int)])/\(t.2.2 = 0/\t.1 = 0)/\True)/\∀ (t : Nat × Nat × Nat),
 let q10 : Prop := (t.1 : Int) < (↑(zbI x).length : Int);
 let q11 : Nat := 0 + (t.1 : Int).toNat;
 let q12 : Nat := t.1 + 1;
 let q13 : Int := (t.1 : Int) + 1; I t->BC (decide q10) (((0 : Int) <= (t.1 : Int)/\q10)/\q11 < (zbI x).length/\(0 : Nat) + (1 : Nat) <= (1 : Nat)/\true = true/\(t.1 <= t.1/\t.2.2 = t.2.2)/\(q12 <= 9223372036854775807/\q12 * 32 <= 140737488355328)/\∀ (cap : Nat), q12 <= cap/\cap <= 9223372036854775807->I64 q13/\Exx (Nat × Nat × Nat) fun t' => (I t'/\m t' < m t)/\Tr 4 (q1/\Tr 12 ((true = true/\zaB/\(0 : Nat) = 0/\(1 : Nat) = 1/\(0 : Nat) = 0/\(zbI x).length = (zbI x).length/\t.2.1 = t'.snd.1)/\Tr 1 ((↑(zbI x).length : Int) = (↑(zbI x).length : Int))/\Tr 1 (q13 = (↑t'.fst : Int))/\Tr 17 True))/\true = true/\(q4/\(true = true/\zaB/\(0 : Nat) = 0/\(4 : Nat) = 4/\(0 : Nat) = 0/\q12 = t'.fst/\cap = t'.snd.2)/\q2)/\(q3/\(1 : Nat) = 1/\t.2.1 = t'.snd.1/\(zbI x).length <= (zbI x).length/\∀ (i : Nat),
 let q14 : List AV := [AV.int .u64 (↑((zbI x).getD i 0) : Int)]; i < (zbI x).length->q14 = q14)/\(q5/\(4 : Nat) = 4/\cap = t'.snd.2/\t'.fst <= q12/\∀ (i : Nat),
 let q15 : AV := AV.int .u64 (↑((zbI x).getD i 0) : Int);
 let q16 : List AV := q15 :: q15 :: q6;
 let q17 : Nat := 0 + (i - t.1);
 let q18 : Prop := q17 = 0 * 4 / 4;
 let q19 : AV := AV.int .u64 (if q18 then (↑((zbI x).getD q11 0) : Int) else 0); i < t'.fst->(if i < t.1 then q16 else [q19, q19, AV.int .u64 (if q18 then 0 else 0), AV.bool (if q18 then false else false)]) = q16)/\True) (Exx Unit fun y => Exx DevG fun g => Tr 1 ((q4/\(true = true/\zaB/\(0 : Nat) = 0/\(4 : Nat) = 4/\(0 : Nat) = 0/\t.1 = (zbI x).length/\t.2.2 = g.cap)/\Tr 1 (Tr 1 ((0 : Int) = 0)/\false = false/\false = false/\Tr 1 ((0 : Int) = g.left)/\Tr 1 ((0 : Int) = g.steps)/\True))/\(q5/\(4 : Nat) = 4/\t.2.2 = g.cap/\(zbI x).length <= t.1/\∀ (i : Nat),
 let q20 : AV := AV.int .u64 (↑((zbI x).getD i 0) : Int); i < (zbI x).length->q20 :: q20 :: q6 = [AV.int .u64 (↑(g.la i) : Int), q20, AV.int .u64 (↑(g.se i) : Int), AV.bool (g.fl i)])/\True)/\((q1/\True)/\true = true/\(devO (zbI x)).ob = devB (zbI x)/\True)/\True)) = (zcP tb [(53, zaA zuE)] Tryz.f13 zkR (fun x => { loops := [(4, qa3 x)] }) (fun _ av _ => ptrSg av) (fun _ => []) (fun x y av H => [(1, [3], devO (zbI x))])) := by kernel_rfl

theorem zw6 : SpecOk Tryz.prog 13 (zaA zkR) := by
 refine za1 zaH zaG (SPok.cons zuD SPok.nil) Tryz.func13 (by decide) ztW (Eq.mp qeI ?_)
 simp (maxSteps := 10000000) only [std, stdU, stdV, Exx, I64, Nat.reduceMul, Nat.reduceDiv, Nat.reduceAdd, Int.reduceToNat, zd2, zdC, zaU]
 rintro img ⟨h, hl⟩
 have e1 : ((img.length : Int)).tdiv 64 = ((img.length / 64 : Nat) : Int) := rfl
 have e2 : (min ((img.length / 64 : Nat) : Int) 4096 * 64).toNat = 64 * min (img.length / 64) 4096 := by omega
 have hlt : (img.take (64 * min (img.length / 64) 4096)).length = 64 * min (img.length / 64) 4096 := by rw [List.length_take]; omega
 have hwl : (zbI img).length = 8 * min (img.length / 64) 4096 := by rw [zbI, zc2, hlt]; omega
 rw [e1, e2]
 refine ⟨by omega, by omega, by omega, by omega, by omega, by omega, by omega, by omega, img.take (64 * min (img.length / 64) 4096), hlt.symm, fun i hi => by rw [hlt] at hi; rw [zaZ, if_pos hi], ⟨fun c hc => h c (List.mem_of_mem_take hc), by rw [hlt]; omega⟩, fun y hy => ?_⟩
 refine ⟨fun t => t.1 <= (zbI img).length/\t.2.1 = y, ⟨0, y, 0, ⟨Nat.zero_le _, rfl⟩, rfl, rfl, rfl, rfl, rfl, rfl, rfl, Nat.le_refl _, fun _ _ => rfl, rfl, rfl⟩, fun t => (zbI img).length - t.1, fun a c d hJ => ⟨fun hlt => ?_, fun hge => ?_⟩⟩
 ·obtain ⟨q1, q2⟩ := hJ
  simp only at q1 q2
  refine ⟨by omega, by omega, by omega, by omega, by omega, fun cap hcap => ⟨by omega, by omega, a + 1, c, cap, ⟨by simp only; omega, q2⟩, by simp only; omega, rfl, by omega, rfl, rfl, rfl, rfl, Nat.le_refl _, fun i hi => ?_⟩⟩
  by_cases e : i < a
  ·rw [if_pos e]
  ·have e4 : i = a := by omega
   subst e4
   rw [if_neg e]
   simp only [Nat.sub_self, if_true]; rfl
 ·obtain ⟨q1, q2⟩ := hJ
  simp only at q1 q2
  exact ⟨by omega, { la := fun j => (zbI img).getD j 0, se := fun _ => 0, fl := fun _ => false, cap := d, left := 0, steps := 0 }, rfl, rfl, rfl, rfl, by omega, fun _ _ => rfl⟩


theorem qaD {s : StoreT} (h : zaE s) : Oct (octetsN s.ws) := ⟨zjE _, by rw [zbB]; have := h.1.1; omega⟩
end Yard
