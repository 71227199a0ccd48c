import Derived.Test.YtkdppdofkkakaaaGreatDoorPutMath

namespace Yard
open Go Go.Sx Go.Proofs
set_option linter.unusedVariables false
set_option linter.unusedSimpArgs false
set_option maxRecDepth 4000

structure Act20 where
 slot : Int
 x : SeatT
 mark : Bool
abbrev act20V (a : Act20) : List AV := [i64 a.slot, .bool a.x.live, i64 a.x.gen, i64 a.x.next, .bool a.mark]
def ze0 : Act20 := ⟨0, seatZ, false⟩
abbrev acts20A (l : List Act20) : AV := .ro 5 l.length (fun i => act20V (l.getD i ze0))
def zsE (a : Act20) : Prop := I64 a.slot/\zc7 a.x
def zvP (l : List Act20) : Prop := (∀ a ∈ l, zsE a)/\l.length <= 9223372036854775807
def lastS (l : List Act20) (slot : Int) : SeatT := l.foldl (fun y a => if a.slot = slot then a.x else y) seatZ
def zkS : Ctr := zbT Int (fun x => I64 x) (fun x => [i64 x]) (fun x => .bool (decide (2 <= x/\x <= 3071)))
def zsP : Ctr := zbT SeatT zc7 (fun x => [zyF x]) (fun x => .bool (decide (zaX x)))
def zpX : Ctr := zbT Unit (fun _ => True) (fun _ => []) (fun _ => .bool true)

theorem qeK : (∀ (x : Int),
 let q1 : Bool := decide ((2 : Int) <= x/\x <= (3071 : Int)); -9223372036854775808 <= x/\x <= (9223372036854775807 : Int)->BC (decide ((2 : Int) <= x)) (Exx Unit fun y => ((decide (x <= (3071 : Int)) = q1/\True)/\true = true/\True)/\True) (Exx Unit fun y => ((false = q1/\True)/\true = true/\True)/\True)) = (fnVC tb [] Tryz.f70 zkS (fun _ => {}) (fun _ => none)) := by kernel_rfl

theorem zn8 : SpecOk Tryz.prog 70 (zaA zkS) := by
 refine zaF zaH zaG SPok.nil Tryz.func70 (by decide) (zaI fun _ => rfl) (Eq.mp qeK ?_)
 simp (maxSteps := 10000000) only [std, stdU, stdV, Exx, I64, Nat.reduceMul, Nat.reduceDiv, Nat.reduceAdd, Int.reduceToNat]
 exact fun x _ => ⟨fun h => decide_eq_decide.2 (by omega), fun h => (decide_eq_false (by omega)).symm⟩

theorem seat09V : (∀ (x : SeatT),
 let q1 : Prop := Exx Unit fun y => ((false = decide (zaX x)/\True)/\true = true/\True)/\True; zc7 x->BC (decide (x.gen < (0 : Int))) q1 (BC (decide ((4294967295 : Int) < x.gen)) q1 (BC x.live (BC (decide ((0 : Int) < x.gen)) (Exx Int fun x_1 => ((Tr 1 (x.next = x_1)/\True)/\true = true/\True)/\(-9223372036854775808 <= x_1/\x_1 <= (9223372036854775807 : Int))/\∀ (y : Unit), True->Exx Unit fun y => ((decide ((2 : Int) <= x_1/\x_1 <= (3071 : Int)) = decide (zaX x)/\True)/\true = true/\True)/\True) q1) (BC (decide ((0 : Int) <= x.next)) (BC (decide (x.next <= (1792 : Int))) (BC (!decide (x.gen = (0 : Int))) (Exx Unit fun y => ((true = decide (zaX x)/\True)/\true = true/\True)/\True) (Exx Unit fun y => ((decide (x.next = (0 : Int)) = decide (zaX x)/\True)/\true = true/\True)/\True)) q1) q1)))) = (fnVC tb [(70, zaA zkS)] Tryz.f135 zsP (fun _ => {}) (fun _ => none)) := by kernel_rfl

theorem zyG : SpecOk Tryz.prog 135 (zaA zsP) := by
 refine zaF zaH zaG (SPok.cons zn8 SPok.nil) Tryz.func135 (by decide) (zaI fun _ => rfl) (Eq.mp seat09V ?_)
 simp (maxSteps := 10000000) only [std, stdU, stdV, Exx, I64, Nat.reduceMul, Nat.reduceDiv, Nat.reduceAdd, Int.reduceToNat]
 rintro ⟨l, g, n⟩ ⟨⟨h1, h2⟩, h3, h4⟩
 dsimp only at *
 have et : ∀ g n : Int, zaX ⟨true, g, n⟩ ↔ (1 <= g/\g <= 4294967295/\2 <= n/\n <= 3071) := fun g n => by simp [zaX]
 have ef : ∀ g n : Int, zaX ⟨false, g, n⟩ ↔ (0 <= g/\g <= 4294967295/\0 <= n/\n <= 1792/\(0 < g\/n = 0)) := fun g n => by simp [zaX]
 have hno : ∀ l : Bool, ¬ (0 <= g/\g <= 4294967295)->false = decide (zaX ⟨l, g, n⟩) := fun l h => (decide_eq_false (fun k => by
  cases l
  ·have := (ef g n).1 k; omega
  ·have := (et g n).1 k; omega)).symm
 refine ⟨fun h => hno l (by omega), fun h0 => ⟨fun h => hno l (by omega), fun h5 => ⟨fun hl => ?_, fun hl => ?_⟩⟩⟩
 ·subst hl
  exact ⟨fun hg => ⟨h3, h4, decide_eq_decide.2 (by rw [et]; omega)⟩, fun hg => (decide_eq_false (fun k => by have := (et g n).1 k; omega)).symm⟩
 ·subst hl
  exact ⟨fun hn => ⟨fun hn2 => ⟨fun hg => (decide_eq_true ((ef g n).2 (by omega))).symm, fun hg => decide_eq_decide.2 (by rw [ef]; omega)⟩, fun hn2 => (decide_eq_false (fun k => by have := (ef g n).1 k; omega)).symm⟩, fun hn => (decide_eq_false (fun k => by have := (ef g n).1 k; omega)).symm⟩

def aw1 : Wr := putR (zdM 20 0) 0 120 ⟨true, 1, 5⟩
def aw2 : Wr := putR aw1.s aw1.at_ 121 ⟨true, 1, 5⟩
theorem aw_k1 : aw1.e = 0 := by decide +kernel
theorem aw_k2 : aw2.e = 0 := by decide +kernel
theorem aw_k3 : zaP aw2.s.ws aw2.at_ 120 = 0 := by decide +kernel
theorem aw_k4 : ((za8 aw1.s.a.n aw1.s.a.w).length : Int) = 5 := by decide +kernel
theorem aw_k5 : ((za8 aw2.s.a.n aw2.s.a.w).length : Int) = 5 := by decide +kernel
theorem aw_k6 : zfM aw2.s.ws aw2.at_ 120 = ⟨true, 1, 5⟩ := by decide +kernel

theorem qeM : (
 let q1 : Prop := true = true/\zaB/\(0 : Nat) = 0;
 let q2 : Prop := q1/\True;
 let q3 : Prop := (146 : TypeId) = 146/\q1/\q2;
 let q4 : Prop := Exx Unit fun y => ((false = true/\True)/\true = true/\True)/\True; ∀ (x : Unit), True->Exx (Nat × Int) fun x => ((Tr 1 ((20 : Int) = (x.1 : Int))/\Tr 1 ((0 : Int) = x.2)/\True)/\true = true/\True)/\(x.1 <= 3072/\(0 : Int) <= x.2/\I64 x.2)/\∀ (y : Unit), True->Exx (StoreT × Int × Int × SeatT) fun x_1 =>
 let q5 : Wr := putR x_1.1 x_1.2.1 x_1.2.2.1 x_1.2.2.2;
 let q6 : StoreT := q5.s;
 let q7 : Int := q5.e; ((q1/\Tr 1 ((0 : Int) = x_1.2.1)/\Tr 1 ((120 : Int) = x_1.2.2.1)/\(true = x_1.2.2.2.live/\Tr 1 ((1 : Int) = x_1.2.2.2.gen)/\Tr 1 ((5 : Int) = x_1.2.2.2.next)/\True)/\True)/\true = true/\q3/\devB (zdM x.1 x.2).ws = devB x_1.1.ws/\zaC (zdM x.1 x.2).a = zaC x_1.1.a/\True)/\(zaE x_1.1/\I64 x_1.2.1/\I64 x_1.2.2.1/\zc7 x_1.2.2.2)/\∀ (y : Unit), True->Exx AllocT fun x => (q2/\true = true/\zaC q6.a = zaC x/\True)/\za2 x/\∀ (y : Unit), True->Exx ((Nat × Nat) × Unit) fun x_2 =>
 let q8 : Int := (↑(za8 x_2.1.1 x_2.1.2).length : Int); (q2/\true = true/\setB (x.n, x.w) = setB x_2.1/\True)/\(SetW x_2.1/\True)/\∀ (y : Unit), True->Exx (StoreT × Int × Int × SeatT) fun x_3 =>
 let q9 : Wr := putR x_3.1 x_3.2.1 x_3.2.2.1 x_3.2.2.2;
 let q10 : StoreT := q9.s;
 let q11 : Int := q9.e; ((q1/\Tr 1 (q5.at_ = x_3.2.1)/\Tr 1 ((121 : Int) = x_3.2.2.1)/\(true = x_3.2.2.2.live/\Tr 1 ((1 : Int) = x_3.2.2.2.gen)/\Tr 1 ((5 : Int) = x_3.2.2.2.next)/\True)/\True)/\true = true/\q3/\devB q6.ws = devB x_3.1.ws/\zaC x = zaC x_3.1.a/\True)/\(zaE x_3.1/\I64 x_3.2.1/\I64 x_3.2.2.1/\zc7 x_3.2.2.2)/\∀ (y : Unit), True->Exx (StoreT × Int × Int) fun x =>
 let q12 : Int := zaP x.1.ws x.2.1 x.2.2;
 let q13 : SeatT := zfM x.1.ws x.2.1 x.2.2; ((q1/\Tr 1 (q9.at_ = x.2.1)/\Tr 1 ((120 : Int) = x.2.2)/\True)/\true = true/\q3/\devB q10.ws = devB x.1.ws/\zaC q10.a = zaC x.1.a/\True)/\(zaE x.1/\I64 x.2.1/\I64 x.2.2)/\∀ (y : Unit), True->BC (decide (q7 = (0 : Int))) (BC (decide (q11 = (0 : Int))) (BC (decide (q12 = (0 : Int))) (BC (decide (q8 = (5 : Int))) (Exx AllocT fun x_4 => (q2/\true = true/\zaC x.1.a = zaC x_4/\True)/\za2 x_4/\∀ (y : Unit), True->Exx ((Nat × Nat) × Unit) fun x =>
 let q14 : Int := (↑(za8 x.1.1 x.1.2).length : Int); (q2/\true = true/\setB (x_4.n, x_4.w) = setB x.1/\True)/\(SetW x.1/\True)/\∀ (y : Unit), True->BC (decide (q14 = (5 : Int))) (Tr 3 True/\Tr 3 True/\∀ (b : Bool), (b = true ↔ q13.live = true/\q13.gen = (1 : Int)/\q13.next = (5 : Int)/\True)->Exx Unit fun y => ((b = true/\True)/\true = true/\True)/\True) q4) q4) q4) q4) q4) = (fnVC tb [(10, zaA zeS), (11, zaA zkD), (21, zaA qeC), (42, zaA zp7), (44, zaA zfT)] Tryz.f9 zpX (fun _ => {}) (fun _ => none)) := by kernel_rfl

theorem zw8 : SpecOk Tryz.prog 9 (zaA zpX) := by
 refine zaF zaH zaG (SPok.cons zj5 (SPok.cons znB (SPok.cons qaT (SPok.cons zoD (SPok.cons zhD SPok.nil))))) Tryz.func9 (by decide) (zaI fun _ => rfl) (Eq.mp qeM ?_)
 simp (maxSteps := 10000000) only [std, stdU, stdV, Exx, I64, Nat.reduceMul, Nat.reduceDiv, Nat.reduceAdd, Int.reduceToNat, zaU, zaO, zaR]
 have hI : zc7 ⟨true, 1, 5⟩ := ⟨⟨by show (-9223372036854775808 : Int) <= 1; omega, by show (1 : Int) <= 9223372036854775807; omega⟩, ⟨by show (-9223372036854775808 : Int) <= 5; omega, by show (5 : Int) <= 9223372036854775807; omega⟩⟩
 have hG := (zrD (n := 20) (by omega) (by omega)).W
 have hW1 : zaE aw1.s := zyZ hG _ _ _
 have hW2 : zaE aw2.s := zyZ hW1 _ _ _
 have ha1 : I64 aw1.at_ := zs1 hG ziU _ _
 have ha2 : I64 aw2.at_ := zs1 hW1 ha1 _ _
 refine ⟨20, rfl, by omega, by omega, by omega, by omega, zdM 20 0, ⟨true, 1, 5⟩, rfl, rfl, rfl, rfl, rfl, hG, by omega, by omega, by omega, by omega, hI, hW1.2, ⟨hW1.2.1, hW1.2.2.2.2.2.2⟩, aw1.s, ⟨true, 1, 5⟩, rfl, rfl, rfl, rfl, rfl, hW1, ha1.1, ha1.2, by omega, by omega, hI, aw2.s, rfl, rfl, hW2, ha2.1, ha2.2, by omega, by omega, fun _ => ⟨fun _ => ⟨fun _ => ⟨fun _ => ⟨hW2.2, ⟨hW2.2.1, hW2.2.2.2.2.2.2⟩, fun _ b hb => ?_, fun h => h aw_k5⟩, fun h => h aw_k4⟩, fun h => h aw_k3⟩, fun h => h aw_k2⟩, fun h => h aw_k1⟩
 exact hb.2 ⟨congrArg SeatT.live aw_k6, congrArg SeatT.gen aw_k6, congrArg SeatT.next aw_k6⟩


def zwP (s : StoreT) : StoreT := { s with a := markS s.a }
theorem zzR {s : StoreT} (h : GoodS s) : GoodS (zwP s) := ⟨⟨h.W.1, qbC h.W.2 2 3⟩, h.lines, h.r0, h.c0, h.c1⟩
theorem zzQ {X : Int->Prop} {s : StoreT} {top : Int} (h : TreeX X s top) : TreeX X (zwP s) top := ⟨h.sh, h.et, h.ek, h.ef⟩
theorem act_get {l : List Act20} (h : zvP l) (i : Nat) : zsE (l.getD i ze0) :=
 zbO (p := zsE) h.1 ⟨ziU, qc2 qc0⟩ i

def qb8 (s : StoreT) (top : Int) (l : List Act20) : Prop := ∀ slot, zbS slot->tS s.ws top (placeK slot 0) (placeK slot 1) (placeK slot 2) = lastS l slot
structure Inv (n i : Nat) (s : StoreT) (top : Int) (l : List Act20) : Prop where
 good : GoodS s
 tree : qb7 s top
 hn : s.a.n = n
 htop : I64 top
 free : (n : Int) - 2 <= zfL s.a + 3 * i
 seats : qb8 s top l
 acts : ∀ a ∈ l, zsE a/\zbS a.slot
 len : l.length <= i
structure Inv0 (n i : Nat) (s : StoreT) (top : Int) (l : List Act20) : Prop where
 good : GoodS s
 tree : qb7 s top
 hn : s.a.n = n
 htop : I64 top
 seats : qb8 s top l
 acts : ∀ a ∈ l, zsE a/\zbS a.slot
 len : l.length <= i
theorem law_map {P : Program} {f : Nat} {X X' : Type} {pre : X->Prop} {args : X->List AV} {pre' : X'->Prop} {args' : X'->List AV} (h : SpecOk P f (zaA (zbT X pre args fun _ => .bool true))) (g : X'->X) (he : ∀ x, args (g x) = args' x) (hp : ∀ x, pre' x->pre (g x)) :
  SpecOk P f (zaA (zbT X' pre' args' fun _ => .bool true)) :=
 ⟨h.fn, fun W D R ids own H w avs vals K hgl hT hR hS => h.ok W D R ids own H w avs vals K hgl hT hR (by
  obtain ⟨x, h1, h2, h3⟩ := hS
  have e : args' x = args (g x) := (he x).symm
  exact ⟨g x, by simpa only [zbT, e] using h1, hp x h2, h3⟩)⟩
abbrev A20 : Type := Int × (Bool × Int × Int) × Bool
def a20Z : A20 := (0, (false, 0, 0), false)
def a20 (p : A20) : Act20 := ⟨p.1, ⟨p.2.1.1, p.2.1.2.1, p.2.1.2.2⟩, p.2.2⟩
abbrev a20A (l : List A20) : AV := .ro 5 l.length (fun i => [i64 (l.getD i a20Z).1, .bool (l.getD i a20Z).2.1.1, i64 (l.getD i a20Z).2.1.2.1, i64 (l.getD i a20Z).2.1.2.2, .bool (l.getD i a20Z).2.2])
def A20I (l : List A20) : Prop := (∀ a ∈ l, I64 a.1/\I64 a.2.1.2.1/\I64 a.2.1.2.2)/\l.length <= 9223372036854775807
theorem a20_get (l : List A20) (i : Nat) : (l.map a20).getD i ze0 = a20 (l.getD i a20Z) := by
 rw [List.getD_eq_getElem?_getD, List.getD_eq_getElem?_getD, List.getElem?_map]
 cases l[i]? <;> rfl
theorem qeU (l : List A20) : acts20A (l.map a20) = a20A l := by
 unfold acts20A a20A
 rw [List.length_map]
 congr 1
 funext i
 rw [a20_get]; rfl
theorem qeV {l : List A20} (h : A20I l) : zvP (l.map a20) := by
 refine ⟨fun a ha => ?_, by rw [List.length_map]; exact h.2⟩
 obtain ⟨b, hb, rfl⟩ := List.mem_map.1 ha
 have := h.1 b hb
 exact ⟨this.1, this.2.1, this.2.2⟩

end Yard
