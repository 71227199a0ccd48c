import Derived.Test.YtlicnnoljbfhfaaDoorAlloc
import Derived.Test.YtlicnnoljbfhfaaDoorRefSet

namespace Yard
open Go Go.Sx Go.Proofs
set_option linter.unusedVariables false
set_option linter.unusedSimpArgs false
set_option maxRecDepth 4000
set_option maxHeartbeats 4000000

abbrev lC (x : AllocT) : List Int := listN (x.n, x.c)
abbrev lE (x : AllocT) : List Int := listN (x.n, x.e)
abbrev lM (x : AllocT) : List Int := listN (x.n, x.m)
abbrev lW (x : AllocT) : List Int := listN (x.n, x.w)

def rE (e : Bool) : Nat := match e with
  | true => 1
  | false => 2
def rM (e m : Bool) : Nat := match m with
  | true => 1
  | false => match e with
    | true => 2
    | false => 3
def rW (e m w : Bool) : Nat := match w with
  | true => rM e m
  | false => match e, m with
    | true, true => 2
    | true, false => 3
    | false, true => 3
    | false, false => 4
abbrev slI (p : Nat) (l : List Int) (c : Nat) : AV := .sl p [] 0 1 0 l.length c
def sE (x : AllocT) (e : Bool) (c : Nat × Nat × Nat × Nat) : AV := match e with
  | true => slI 1 (lC x) c.1
  | false => slI 2 (lE x) c.2.1
def sM (x : AllocT) (e m : Bool) (c : Nat × Nat × Nat × Nat) : AV := match m with
  | true => slI 1 (lC x) c.1
  | false => slI (rM e m) (lM x) c.2.2.1
def sW (x : AllocT) (e m w : Bool) (c : Nat × Nat × Nat × Nat) : AV := match w with
  | true => sM x e m c
  | false => slI (rW e m w) (lW x) c.2.2.2
def rowIf (b : Bool) (c : Nat) (l : List Int) (r : AH) : AH := match b with
  | true => r
  | false => rowI 3 .i64 c l :: r
def famR (x : AllocT) (e m w : Bool) (c : Nat × Nat × Nat × Nat) : AH :=
  .cells 38 [i64 (x.n : Int), i64 x.r, slI 1 (lC x) c.1, sE x e c, sM x e m c, sW x e m w c] :: rowI 3 .i64 c.1 (lC x) :: rowIf e c.2.1 (lE x) (rowIf m c.2.2.1 (lM x) (rowIf w c.2.2.2 (lW x) []))
def RC1 (b : Bool) (p q : Prop) : Prop := match b with
  | true => p
  | false => q
theorem RC1_t {p q : Prop} : RC1 true p q = p := rfl
theorem RC1_f {p q : Prop} : RC1 false p q = q := rfl
def RCap (x : AllocT) (e m w : Bool) (c : Nat × Nat × Nat × Nat) : Prop :=
  ((lC x).length ≤ c.1 ∧ c.1 ≤ 9223372036854775807) ∧ RC1 e (x.e = x.c) ((lE x).length ≤ c.2.1 ∧ c.2.1 ≤ 9223372036854775807) ∧ RC1 m (x.m = x.c) ((lM x).length ≤ c.2.2.1 ∧ c.2.2.1 ≤ 9223372036854775807) ∧ RC1 w (x.w = x.m) ((lW x).length ≤ c.2.2.2 ∧ c.2.2.2 ≤ 9223372036854775807)
theorem famR_pl (x : AllocT) (e m w : Bool) (c : Nat × Nat × Nat × Nat) : plH (famR x e m w c) := by
  cases e <;> cases m <;> cases w <;> exact (by
    refine ⟨⟨rfl, rfl, rfl, rfl, rfl, rfl, trivial⟩, ?_⟩
    repeat' first
      | exact trivial
      | exact ⟨fun _ _ => ⟨rfl, trivial⟩, trivial⟩
      | refine And.intro ⟨fun _ _ => ⟨rfl, trivial⟩, trivial⟩ ?_)
theorem famR_nf (x : AllocT) (e m w : Bool) (c : Nat × Nat × Nat × Nat) : noF (famR x e m w c) = true := by
  cases e <;> cases m <;> cases w <;> rfl
abbrev tagR (x : AllocT) : List (List Int) := [[(x.n : Int)], [x.r], [(x.c : Int)], [(x.e : Int)], [(x.m : Int)], [(x.w : Int)]]
abbrev altR (x : AllocT) (e m w : Bool) : Opn := { tag := tagR x, G := Subtype (RCap x e m w), fam := fun c => famR x e m w c.1, pl := fun c => famR_pl x e m w c.1, nf := fun c => famR_nf x e m w c.1, root := fun _ => rfl }
abbrev refO (x : AllocT) : OpA := { tag := tagR x, alts := [altR x true true true, altR x true true false, altR x true false true, altR x true false false, altR x false true true, altR x false true false, altR x false false true, altR x false false false], peek := [i64 (x.n : Int), i64 x.r], pk := .inr ⟨rfl, fun q hq g => by
    simp only [List.mem_cons, List.not_mem_nil, or_false] at hq
    rcases hq with rfl | rfl | rfl | rfl | rfl | rfl | rfl | rfl <;> exact ⟨_, _, _, rfl⟩⟩ }
def refB (x : AllocT) : Ob := (refO x).ob
abbrev refI (x : AllocT) : Sx.Item := .obj (refB x)
theorem refB_inj {s t : AllocT} : (refB s = refB t) ↔ s = t := by
  constructor
  · intro h
    have := congrArg Ob.tag h
    simp only [refB, OpA.ob, List.cons.injEq, and_true] at this
    obtain ⟨h1, h2, h3, h4, h5, h6⟩ := this
    cases s; cases t
    simp only at *
    rw [Int.ofNat_inj.1 h1, h2, Int.ofNat_inj.1 h3, Int.ofNat_inj.1 h4, Int.ofNat_inj.1 h5, Int.ofNat_inj.1 h6]
  · intro h; rw [h]
theorem refB_open {s t : AllocT} : (refB s = (refO t).ob) ↔ s = t := refB_inj
theorem altR_up (x : AllocT) (e m w : Bool) : ∀ b S (u : World), (∃ g, Opens (famR x e m w (Subtype.val (p := RCap x e m w) g)) b S u) → (refB x).holds b S u := fun b S u h => by
  refine ⟨altR x e m w, ?_, h⟩
  cases e <;> cases m <;> cases w <;> simp
abbrev altU (x : AllocT) (e m w : Bool) : Opn := { tag := tagR x, G := Subtype (RCap x e m w), fam := fun c => famR x e m w c.1, pl := fun c => famR_pl x e m w c.1, nf := fun c => famR_nf x e m w c.1, root := fun _ => rfl, up := some ⟨refB x, altR_up x e m w⟩ }

def refAt (p : Nat) (H : AH) : Option (Nat × Nat × Nat × Nat) := match H[p]? with
  | some (.cells _ (_ :: _ :: .sl c _ _ _ _ _ _ :: .sl e _ _ _ _ _ _ :: .sl m _ _ _ _ _ _ :: .sl w _ _ _ _ _ _ :: _)) => some (c, e, m, w)
  | _ => none

def rowRenR (t n : Nat) (F : Fr) (_ : AH) : Option Ren := match F.getD t .any with
  | .sl q _ _ _ _ _ _ => some (idRen n n ++ [some q])
  | _ => some (idRen n n ++ [none])
def clR (p : Nat) (H : AH) (x : AllocT) : List (Nat × List Nat × Opn) := match refAt p H with
  | none => []
  | some (c, e, m, w) => match Nat.beq e c, Nat.beq m c, Nat.beq w m with
    | true, true, true => [(p, [c], altU x true true true)]
    | true, true, false => [(p, [c, w], altU x true true false)]
    | true, false, true => [(p, [c, m], altU x true false true)]
    | true, false, false => [(p, [c, m, w], altU x true false false)]
    | false, true, true => [(p, [c, e], altU x false true true)]
    | false, true, false => [(p, [c, e, w], altU x false true false)]
    | false, false, true => [(p, [c, e, m], altU x false false true)]
    | false, false, false => [(p, [c, e, m, w], altU x false false false)]
abbrev opR (p : Nat) (x : AllocT) : OpAE := { p := p, Y := Unit, o := fun _ => refO x }

theorem inS_iff' {n m : Nat} {a : Int} : hasN (n, m) a = true ↔ 0 ≤ a ∧ a < (n : Int) ∧ m.testBit a.toNat = true := by
  unfold hasN
  rw [Bool.and_eq_true, decide_eq_true_eq, inSet, and_assoc]
structure RefW (x : AllocT) : Prop where
  W : AllocW x
  n : x.n ≤ 40
theorem hasN_mem {n m : Nat} {a : Int} : hasN (n, m) a = decide (a ∈ listN (n, m)) := by
  rw [Bool.eq_iff_iff, decide_eq_true_eq]; exact inS_iff'.trans (mem_listN (s := (n, m))).symm
theorem RefW.I {x : AllocT} (h : RefW x) (m : Nat) : IntL (listN (x.n, m)) := (listN_Ints (s := (x.n, m)) (by have := h.n; show x.n ≤ 3072; omega)).intL
def refGetC (Y : Type) (pre : AllocT × Y → Prop) (args : AllocT × Y → List AV) (res : AllocT × Y → AV) : Ctr where
  X := AllocT × Y
  Y := Unit
  conv := true
  tau := ptrTau
  pre := fun x => RefW x.1 ∧ pre x
  args := fun x => .ptr 0 [] 0 :: args x
  heap := fun x => [refI x.1]
  Q := fun _ _ => True
  res := fun x _ => res x
  its := fun x _ => [refI x.1]
  new := fun _ _ => []
theorem refGetC_ok {Y : Type} {pre : AllocT × Y → Prop} {args : AllocT × Y → List AV} {res : AllocT × Y → AV} (h : ∀ x, plV 2 (res x)) : CtrOk (refGetC Y pre args res) :=
  ⟨fun _ _ _ _ => (rfl : 1 = 1), fun _ _ _ _ => ⟨rfl, rfl⟩, fun x _ _ _ _ => ⟨⟨⟨trivial, trivial⟩, trivial⟩, h x⟩⟩
def refSetC (Y : Type) (pre : AllocT × Y → Prop) (args : AllocT × Y → List AV) (g : AllocT × Y → AllocT) (res : AllocT × Y → AV) : Ctr where
  X := AllocT × Y
  Y := Unit
  conv := true
  tau := ptrTau
  pre := fun x => RefW x.1 ∧ pre x
  args := fun x => .ptr 0 [] 0 :: args x
  heap := fun x => [refI x.1]
  Q := fun _ _ => True
  res := fun x _ => res x
  its := fun x _ => [refI (g x)]
  new := fun _ _ => []
theorem refSetC_ok {Y : Type} {pre : AllocT × Y → Prop} {args : AllocT × Y → List AV} {g : AllocT × Y → AllocT} {res : AllocT × Y → AV} (h : ∀ x, plV 2 (res x)) : CtrOk (refSetC Y pre args g res) :=
  ⟨fun _ _ _ _ => (rfl : 1 = 1), fun _ _ _ _ => ⟨rfl, rfl⟩, fun x _ _ _ _ => ⟨⟨⟨trivial, trivial⟩, trivial⟩, h x⟩⟩

def refOwnC : Ctr := refGetC Int (fun x => I64 x.2) (fun x => [i64 x.2]) (fun x => .bool (hasN (x.1.n, x.1.w) x.2 && !hasN (x.1.n, x.1.m) x.2))
def refGiveC : Ctr := refSetC Int (fun x => I64 x.2) (fun x => [i64 x.2]) (fun x => giveS x.1 x.2) (fun x => i64 (giveErr x.1 x.2))
def doS (x : AllocT) (k : Int) : AllocT := if k = 0 then markS x else if k = 1 then backS x else if k = 2 then commitS x else if k = 3 then abortS x else x
def refDoC : Ctr := refSetC Int (fun x => I64 x.2) (fun x => [i64 x.2]) (fun x => doS x.1 x.2) (fun x => .tup [])

theorem drop_no {n m : Nat} {a : Int} (h : a ∉ listN (n, m)) : drop1 n m a = m := by
  apply Nat.eq_of_testBit_eq
  intro i
  rw [drop1_bit]
  by_cases e : i < n ∧ (i : Int) = a
  · obtain ⟨e1, rfl⟩ := e
    have : m.testBit i = false := by
      cases hb : m.testBit i with
      | false => rfl
      | true => exact absurd ((mem_listN (s := (n, m))).2 ⟨by omega, by simp only; omega, by simpa using hb⟩) h
    rw [this]; rfl
  · rw [decide_eq_false e]; simp

def freeP (x : AllocT) (k : Nat) : List Int := ((List.range k).filter (fun i => !(heldN x).testBit i)).map fun i : Nat => (i : Int)
def freeL (x : AllocT) : List Int := freeP x x.n
theorem freeP_len (x : AllocT) (k : Nat) : (freeP x k).length ≤ k := by
  rw [freeP, List.length_map]
  have := List.length_filter_le (fun i => !(heldN x).testBit i) (List.range k)
  rwa [List.length_range] at this
theorem freeP_yes {x : AllocT} {k : Nat} (h : (heldN x).testBit k = false) : freeP x (k + 1) = freeP x k ++ [(k : Int)] := by
  rw [freeP, List.range_succ, List.filter_append, List.map_append, List.filter_cons, if_pos (by rw [h]; rfl)]; rfl
theorem freeP_no {x : AllocT} {k : Nat} (h : (heldN x).testBit k = true) : freeP x (k + 1) = freeP x k := by
  rw [freeP, List.range_succ, List.filter_append, List.map_append, List.filter_cons, if_neg (by rw [h]; simp)]; simp [freeP]
theorem freeL_len {x : AllocT} (h : AllocW x) : ((freeL x).length : Int) = freeN x := by
  rw [freeL, freeP, List.length_map, freeN, bitsL]
  have : ∀ (p : Nat → Bool) (n : Nat), ((List.range n).filter fun i => !p i).length + ((List.range n).filter p).length = n := fun p n => by
    induction n with
    | zero => rfl
    | succ n ih =>
      rw [List.range_succ, List.filter_append, List.filter_append, List.length_append, List.length_append]
      cases hp : p n <;> simp [hp] <;> omega
  have := this (heldN x).testBit x.n
  omega
theorem gapF_min (s : Nat × Nat) : ∀ k a : Nat, s.1 < a + k → gapF s k a = match (List.range' a (s.1 - a)).filter (fun i => !s.2.testBit i) with
    | [] => -1
    | i :: _ => (i : Int)
  | 0, a, h => by
    rw [show s.1 - a = 0 by omega]; rfl
  | k + 1, a, h => by
    unfold gapF
    by_cases ha : a < s.1
    · rw [if_pos ha, show s.1 - a = (s.1 - (a + 1)) + 1 by omega, List.range'_succ, List.filter_cons]
      by_cases hb : s.2.testBit a = true
      · rw [if_pos hb, if_neg (by rw [hb]; simp), gapF_min s k (a + 1) (by omega)]
      · rw [if_neg hb, if_pos (by simpa using hb)]
    · rw [if_neg ha, show s.1 - a = 0 by omega]; rfl
theorem freeL_head {x : AllocT} (h : RefW x) (hl : 0 < (freeL x).length) : (freeL x).getD 0 0 = gapN (x.n, heldN x) 0 ∧ 0 ≤ (freeL x).getD 0 0 ∧ (freeL x).getD 0 0 < (x.n : Int) ∧ (heldN x).testBit ((freeL x).getD 0 0).toNat = false := by
  have e := gapF_min (x.n, heldN x) (x.n + 1) 0 (by simp only; omega)
  have er : List.range' 0 (x.n - 0) = List.range x.n := by rw [Nat.sub_zero, List.range_eq_range']
  rw [er] at e
  unfold freeL freeP at hl ⊢
  cases hf : (List.range x.n).filter (fun i => !(heldN x).testBit i) with
  | nil => rw [hf] at hl; cases hl
  | cons i r =>
    simp only at e
    rw [hf] at e
    have hm : i ∈ (List.range x.n).filter (fun i => !(heldN x).testBit i) := by rw [hf]; exact List.mem_cons_self ..
    have hm := List.mem_filter.1 hm
    have hi := List.mem_range.1 hm.1
    have eg : gapN (x.n, heldN x) 0 = (i : Int) := e
    rw [eg]
    refine ⟨rfl, ?_, ?_, ?_⟩
    · show (0 : Int) ≤ (i : Int); omega
    · show (i : Int) < (x.n : Int); omega
    · show (heldN x).testBit ((i : Int)).toNat = false
      simpa using hm.2
theorem take_yes {x : AllocT} (h : RefW x) {b : Int} (hgt : ¬ ((freeL x).length : Int) ≤ b) (hb : -9223372036854775808 ≤ b) (hb0 : 0 ≤ b ∨ 0 < (freeL x).length) :
    (0 ≤ (freeL x).getD 0 0 ∧ (freeL x).getD 0 0 < (x.n : Int)) ∧ (freeL x).getD 0 0 ∉ listN (x.n, x.w) ∧ takeS x b = { x with w := add1 x.n x.w ((freeL x).getD 0 0) } ∧ takeAt x b = (freeL x).getD 0 0 ∧ takeErr x b = 0 ∧ 0 < (freeL x).length := by
  have hl : 0 < (freeL x).length := by omega
  obtain ⟨e, h0, h1, h2⟩ := freeL_head h hl
  have hf : ¬ freeN x ≤ b := by rw [← freeL_len h.W]; exact hgt
  refine ⟨⟨h0, h1⟩, fun k => ?_, by rw [takeS, if_neg hf, e], by rw [takeAt, if_neg hf, e], by rw [takeErr, if_neg hf], hl⟩
  have := (mem_listN (s := (x.n, x.w))).1 k
  have hh : (heldN x).testBit ((freeL x).getD 0 0).toNat = true := by
    unfold heldN
    simp only [Nat.testBit_or, this.2.2, Bool.true_or]
  rw [h2] at hh; cases hh
theorem take_no {x : AllocT} (h : RefW x) {b : Int} (hle : ((freeL x).length : Int) ≤ b) : takeS x b = x ∧ takeAt x b = 0 ∧ takeErr x b = 10 := by
  have hf : freeN x ≤ b := by rw [← freeL_len h.W]; exact hle
  exact ⟨by rw [takeS, if_pos hf], by rw [takeAt, if_pos hf], by rw [takeErr, if_pos hf]⟩

end Yard
