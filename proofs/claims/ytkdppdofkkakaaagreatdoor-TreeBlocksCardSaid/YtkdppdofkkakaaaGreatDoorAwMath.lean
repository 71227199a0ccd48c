import Derived.Test.YtkdppdofkkakaaaGreatDoorTreeList
import Derived.Test.YtkdppdofkkakaaaGreatDoorLinkOps

namespace Yard
open Go Go.Sx Go.Proofs
set_option linter.unusedVariables false
set_option linter.unusedSimpArgs false
set_option maxRecDepth 4000
set_option maxHeartbeats 4000000

abbrev zrF (s d a : Nat) (t : TickT) : Sx.Item := .cells 71 (.ptr s [] 0 :: .ptr d [] 0 :: .ptr a [] 0 :: tickV t)
abbrev zdO (s : StoreT) (t : TickT) : AH := [zrF 1 2 3 t, zkQ 2 3, devI s.ws, zd1 s.a]
def qaX (args : List AV) (H : AH) : List Nat := match args with
 | .ptr p _ _ :: _ => match H[p]? with
   | some (.cells _ (.ptr s _ _ :: .ptr d _ _ :: .ptr a _ _ :: _)) => [p, s, d, a]
   | _ => [p]
 | _ => []
theorem qfP (s : StoreT) (t : TickT) : plH (zdO s t) := ⟨⟨rfl, rfl, rfl, rfl, rfl, rfl, rfl, rfl, rfl, trivial⟩, ⟨rfl, rfl, trivial⟩, trivial, trivial, trivial⟩
def zoO (Y : Type) (pre : (StoreT × TickT) × Y->Prop) (args : (StoreT × TickT) × Y->List AV) (res : (StoreT × TickT) × Y->AV) : Ctr where
 X := (StoreT × TickT) × Y
 Y := Unit
 conv := true
 tau := qaX
 pre := fun x => zaG x.1.1/\pre x
 args := fun x => .ptr 0 [] 0 :: args x
 heap := fun x => zdO x.1.1 x.1.2
 Q := fun _ _ => True
 res := fun x _ => res x
 its := fun x _ => zdO x.1.1 x.1.2
 new := fun _ _ => []
theorem znA {Y : Type} {pre : (StoreT × TickT) × Y->Prop} {args : (StoreT × TickT) × Y->List AV} {res : (StoreT × TickT) × Y->AV} (h : ∀ x, plV 2 (res x)) : CtrOk (zoO Y pre args res) :=
 ⟨fun _ _ _ _ => (rfl : 4 = 4), fun _ _ _ _ => ⟨rfl, rfl⟩, fun x _ _ _ _ => ⟨⟨qfP _ _, trivial⟩, h x⟩⟩
def zrB : Ctr where
 X := Nat × Int
 Y := Unit
 conv := true
 tau := fun _ _ => []
 pre := fun x => x.1 <= 3072/\I64 x.2
 args := fun x => [i64 (x.1 : Nat), i64 x.2]
 heap := fun _ => []
 Q := fun _ _ => True
 res := fun _ _ => .ptr 1 [] 0
 its := fun _ _ => []
 new := fun x _ => [zrF 2 3 4 (zjJ (x.1 : Nat) x.2 100), zkQ 3 4, devI (zcM x.1 0).ws, zd1 (zcM x.1 0).a]
theorem qfL : CtrOk zrB :=
 ⟨fun _ _ _ _ => rfl, fun _ _ _ _ => ⟨rfl, rfl⟩, fun x _ _ _ _ => ⟨⟨trivial, ⟨⟨rfl, rfl, rfl, rfl, rfl, rfl, rfl, rfl, rfl, trivial⟩, ⟨rfl, rfl, trivial⟩, trivial, trivial, trivial⟩⟩, rfl⟩⟩
def stoodSg (av : AV) : Option Ren := match av with
 | .ptr q _ _ => some [some 0, some q, some 1, some 2, some 3]
 | _ => none
theorem stoodV : (
 let q1 : Prop := true = true/\zaC/\(0 : Nat) = 0;
 let q2 : Prop := q1/\True; ∀ (x : Nat × Int),
 let q3 : TickT := zjJ (x.1 : Int) x.2 100; x.1 <= 3072/\I64 x.2->Exx (Nat × Int) fun x_1 => ((Tr 1 ((x.1 : Int) = (x_1.1 : Int))/\Tr 1 ((0 : Int) = x_1.2)/\True)/\true = true/\True)/\(x_1.1 <= 3072/\(0 : Int) <= x_1.2/\I64 x_1.2)/\∀ (y : Unit), True->Exx Unit fun y => (q2/\true = true/\((71 : Nat) = (71 : TypeId)/\q1/\q1/\q1/\Tr 1 ((x.1 : Int) = q3.blocks)/\Tr 1 (x.2 = q3.slots)/\Tr 1 ((100 : Int) = q3.gens)/\Tr 1 ((0 : Int) = q3.top)/\Tr 1 ((0 : Int) = q3.high)/\Tr 1 ((0 : Int) = q3.free)/\True)/\((146 : TypeId) = 146/\q1/\q2)/\devB (zcM x_1.1 x_1.2).ws = devB (zcM x.1 0).ws/\zaB (zcM x_1.1 x_1.2).a = zaB (zcM x.1 0).a/\True)/\True) = (zb4 tb [(10, zaA zi6)] Tryz.f24 zrB (fun _ => {}) (fun _ av _ => stoodSg av) (fun _ => []) (fun _ _ _ _ => [])) := by kernel_rfl

theorem zsV : SpecOk Tryz.prog 24 (zaA zrB) := by
 refine za0 zaM zaL (SPok.cons zwE SPok.nil) Tryz.func24 (by decide) qfL (Eq.mp stoodV ?_)
 simp (maxSteps := 10000000) only [std, stdU, stdV, Exx, I64, Nat.reduceMul, Nat.reduceDiv, Nat.reduceAdd, Int.reduceToNat, zaQ, zaJ]
 rintro n sl ⟨h, h1, h2⟩
 exact ⟨h, by omega, by omega, by omega, rfl, rfl, rfl, rfl, rfl, rfl⟩


def zgR (n : Nat) (ts : List Nat) (F : Fr) (_ : AH) : Option Ren := some (idRen n n ++ ts.map fun t => match F.getD t .any with
 | .ptr q _ _ => some q
 | .sl q _ _ _ _ _ _ => some q
 | _ => none)
abbrev qfQ (s : StoreT) (t : TickT) : AH := [.fence, zrF 2 3 4 t, zkQ 3 4, devI s.ws, zd1 s.a]
def cutA (nt : Nat) (F : List (Nat × AV)) (H : AH) (n : Nat) (ts : List Nat) : LA := { T := Unit, F := fun _ => frm nt F, H := fun _ => H, ρ₁ := zgR n ts, ρ₂ := zgR n ts }
def awT : TickT := zjJ ((30 : Nat) : Int) 9 100
def aw22a : MR := mkRes (zcM 30 0) awT 5 1
def aw22b : MR := mkRes aw22a.s aw22a.t 3 2
def aw22c : TR := lkRes aw22b.s aw22b.t aw22a.a aw22b.a
abbrev handC (h : HandT) : Sx.Item := .cells 67 [i64 h.slot, i64 h.gen]
def zn6 : Ctr := zbU Unit (fun _ => True) (fun _ => []) (fun _ => .bool true)
def awJ5 : LA := cutA 116 [(1, .ptr 1 [] 0), (2, .ptr 5 [] 0), (3, i64 aw22a.a), (5, i64 aw22a.e)] (qfQ aw22a.s awT ++ [qe7 aw22a.t]) 5 [2]
def awJ6 : LA := cutA 116 [(1, .ptr 1 [] 0), (2, .ptr 5 [] 0), (3, i64 aw22a.a), (5, i64 aw22a.e), (6, i64 aw22b.a), (7, .ptr 6 [] 0), (8, i64 aw22b.e)] (qfQ aw22b.s awT ++ [qe7 aw22b.t, handC aw22b.h]) 5 [2, 7]
def awJ7 : LA := { T := Int × Int × Int, F := fun t => frm 116 [(1, .ptr 1 [] 0), (2, .ptr 5 [] 0), (5, i64 t.1), (7, .ptr 6 [] 0), (8, i64 t.2.1), (9, i64 aw22c.a), (10, i64 t.2.2)], H := fun _ => qfQ aw22c.s awT ++ [qe7 aw22c.t, handC aw22b.h], ρ₁ := zgR 5 [2, 7], ρ₂ := zgR 5 [2, 7] }
theorem zxO : mkRes (zcM 30 0) (zjJ ((30 : Nat) : Int) 9 100) 5 1 = aw22a := rfl
theorem zxN : mkRes aw22a.s aw22a.t 3 2 = aw22b := rfl
theorem zxM : lkRes aw22b.s aw22b.t aw22a.a aw22b.a = aw22c := rfl
theorem qbH {ws : List Nat} {n : Nat} {out : List EntT} {a : Int} {r : List Int} (h : zcC ws a = 0) : znN ws (n + 1) out (a :: r) = znN ws n (out ++ [(zaI ws a).e]) ((zaI ws a).kids ++ r) := by rw [znN, if_pos h]
attribute [irreducible] aw22a aw22b aw22c

structure AwOk : Prop where
 wa : zaG aw22a.s
 ta : zbC aw22a.t
 ia : I64 aw22a.a
 ea : aw22a.e = 0
 wb : zaG aw22b.s
 tb : zbC aw22b.t
 ib : I64 aw22b.a
 hb : aw22b.h = ⟨1, 1⟩
 eb : aw22b.e = 0
 wc : zaG aw22c.s
 tc : zbC aw22c.t
 ic : I64 aw22c.a
 ec : aw22c.e = 0
 list : zcN aw22c.s.ws aw22c.a = ([⟨1, 1, 3, 2⟩, ⟨0, 1, 5, 1⟩], 0)
 seat : zc2 aw22c.s.ws aw22c.t ⟨1, 1⟩ = 0
 next : (zdL aw22c.s.ws aw22c.t ⟨1, 1⟩).next = aw22c.a
theorem aw_ok : AwOk := by
 have I0 : NInv (zcM 30 0) (zjJ ((30 : Nat) : Int) 9 100) zz3 [] := zlE (by omega) (by omega) ⟨by omega, by omega, by omega, by omega, by omega, by omega⟩
 have f0 := ziV I0.inv (roomK_made 30) (by decide)
 have M1 := zzF I0 (by simp [zjJ] at f0; omega) (a := 0) (g := 1) rfl (k := 5) (v := 1) ⟨by omega, by omega⟩ ⟨by omega, by omega⟩
 rw [zxO] at M1
 have h1 := M1.inv.inv.high
 have R1 := (roomK_made 30).env M1.env
 have d1 : (zc9 zz3 aw22a.a).gens.length = 1 := rfl
 rw [d1] at h1
 have f1 := ziV M1.inv.inv R1 (by omega)
 have s1 : aw22a.t.slots = 9 := M1.geo.1
 have M2 := zzF M1.inv (by rw [h1] at f1; simp at f1; omega) (a := 1) (g := 1) (by rw [s1]; rfl) (k := 3) (v := 2) ⟨by omega, by omega⟩ ⟨by omega, by omega⟩
 rw [zxN] at M2
 have h2 := M2.inv.inv.high
 have R2 := R1.env M2.env
 have d2 : (zc9 (zc9 zz3 aw22a.a) aw22b.a).gens.length = 2 := rfl
 rw [d2] at h2
 have f2 := ziV M2.inv.inv R2 (by omega)
 have ma : aw22a.a ∈ [aw22b.a, aw22a.a] := by simp
 have mb : aw22b.a ∈ [aw22b.a, aw22a.a] := by simp
 have nA : zaI aw22b.s.ws aw22a.a = mkN ⟨0, 1⟩ 5 1 := by rw [M2.oth _ (by simp), M1.node]; rfl
 have nB : zaI aw22b.s.ws aw22b.a = mkN ⟨1, 1⟩ 3 2 := by rw [M2.node]; rfl
 have hne : aw22a.a ≠ aw22b.a := fun e => M2.new (by rw [<- e]; simp)
 obtain ⟨p, c, d', hpc, hah, T⟩ := qhP M2.inv (by rw [h2] at f2; simp at f2; omega) ma mb hne (by rw [nA, nB]; rfl) (by rw [nA]; decide)
 rw [zxM] at T
 have hp : p = aw22b.a/\c = aw22a.a := by
  rcases hpc with ⟨e1, e2⟩ | k
  ·rw [e1, e2, nA, nB] at hah; exact absurd hah (by decide)
  ·exact k
 obtain ⟨rfl, rfl⟩ := hp
 have ra := M2.inv.range ma
 have rb := M2.inv.range mb
 rw [nB] at T
 have nC := T.node
 have nA' := T.oth _ ma hne
 rw [nA] at nA'
 have e2 := T.inv.node aw22c.a (List.mem_cons_self ..)
 have hn : aw22a.a ∈ [aw22b.a, aw22a.a].erase aw22b.a := (List.Nodup.mem_erase_iff M2.inv.nd).2 ⟨hne, ma⟩
 have eA := T.inv.node aw22a.a (List.mem_cons_of_mem _ hn)
 obtain ⟨s1, s2⟩ := zkV T.inv.inv e2.2.1
 rw [nC] at s1 s2 e2
 refine ⟨M1.inv.W, M1.inv.tI, ⟨by omega, by omega⟩, M1.e, M2.inv.W, M2.inv.tI, ⟨by omega, by omega⟩, M2.hand, M2.e, T.inv.W, T.inv.tI, ⟨by have := T.at2; omega, by have := T.at2; omega⟩, T.e, ?_, s1, ?_⟩
 ·have q1 := qbH (n := 1791) (out := []) (r := []) e2.1
  have q2 := qbH (n := 1790) (out := [⟨1, 1, 3, 2⟩]) (r := []) eA.1
  rw [nC] at q1
  rw [nA'] at q2
  exact (q1.trans q2).trans rfl
 ·exact (congrArg SeatT.next s2).trans e2.2.2

end Yard
