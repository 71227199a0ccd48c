/- Sx: conditions made plain: when two told lists are one. -/
import Derived.Test.YtlecpjgbmeejdaaDoorSxW
namespace Go.Sx

theorem list_eq_of {α : Type} {l m : List α} (d : α) (h1 : l.length = m.length) (h2 : ∀ i, i < m.length → l.getD i d = m.getD i d) : l = m := by
  refine List.ext_getElem h1 fun i hi hj => ?_
  have := h2 i hj
  rwa [List.getD_eq_getElem?_getD, List.getD_eq_getElem?_getD, List.getElem?_eq_getElem hi, List.getElem?_eq_getElem hj] at this

theorem int1 {k : IntKind} {a b : Int} : ([AV.int k a] = [AV.int k b]) ↔ a = b := by simp
theorem nat1 {k : IntKind} {a b : Nat} : ([AV.int k (a : Int)] = [AV.int k (b : Int)]) ↔ a = b := by simp [Int.ofNat_inj]

theorem nats_iff {k : IntKind} {l m : List Nat} : (l.length = m.length ∧ ∀ i, i < m.length → [AV.int k ((l.getD i 0 : Nat) : Int)] = [AV.int k ((m.getD i 0 : Nat) : Int)]) ↔ l = m :=
  ⟨fun h => list_eq_of 0 h.1 fun i hi => nat1.1 (h.2 i hi), fun h => by subst h; exact ⟨rfl, fun _ _ => rfl⟩⟩
theorem nats_iff' {k : IntKind} {l m : List Nat} {P : Prop} : (l.length = m.length ∧ (∀ i, i < m.length → [AV.int k ((l.getD i 0 : Nat) : Int)] = [AV.int k ((m.getD i 0 : Nat) : Int)]) ∧ P) ↔ (l = m ∧ P) := by
  rw [← and_assoc, nats_iff]
theorem ints_iff {k : IntKind} {l m : List Int} : (l.length = m.length ∧ ∀ i, i < m.length → [AV.int k (l.getD i 0)] = [AV.int k (m.getD i 0)]) ↔ l = m :=
  ⟨fun h => list_eq_of 0 h.1 fun i hi => int1.1 (h.2 i hi), fun h => by subst h; exact ⟨rfl, fun _ _ => rfl⟩⟩
theorem ints_iff' {k : IntKind} {l m : List Int} {P : Prop} : (l.length = m.length ∧ (∀ i, i < m.length → [AV.int k (l.getD i 0)] = [AV.int k (m.getD i 0)]) ∧ P) ↔ (l = m ∧ P) := by
  rw [← and_assoc, ints_iff]

theorem ro_nats {k : IntKind} {l m : List Nat} : (AV.ro 1 l.length (fun i => [AV.int k ((l.getD i 0 : Nat) : Int)]) = AV.ro 1 m.length (fun i => [AV.int k ((m.getD i 0 : Nat) : Int)])) ↔ l = m := by
  constructor
  · intro h
    simp only [AV.ro.injEq, true_and] at h
    refine list_eq_of 0 h.1 fun i _ => nat1.1 (congrFun h.2 i)
  · intro h; subst h; rfl
theorem ro1_nats {k : IntKind} {l m : List Nat} : ([AV.ro 1 l.length (fun i => [AV.int k ((l.getD i 0 : Nat) : Int)])] = [AV.ro 1 m.length (fun i => [AV.int k ((m.getD i 0 : Nat) : Int)])]) ↔ l = m := by
  rw [← ro_nats (k := k)]; simp
theorem natss_iff {k : IntKind} {l m : List (List Nat)} : (l.length = m.length ∧ ∀ i, i < m.length → [AV.ro 1 (l.getD i []).length (fun j => [AV.int k (((l.getD i []).getD j 0 : Nat) : Int)])] = [AV.ro 1 (m.getD i []).length (fun j => [AV.int k (((m.getD i []).getD j 0 : Nat) : Int)])]) ↔ l = m :=
  ⟨fun h => list_eq_of [] h.1 fun i hi => ro1_nats.1 (h.2 i hi), fun h => by subst h; exact ⟨rfl, fun _ _ => rfl⟩⟩
theorem natss_iff' {k : IntKind} {l m : List (List Nat)} {P : Prop} : (l.length = m.length ∧ (∀ i, i < m.length → [AV.ro 1 (l.getD i []).length (fun j => [AV.int k (((l.getD i []).getD j 0 : Nat) : Int)])] = [AV.ro 1 (m.getD i []).length (fun j => [AV.int k (((m.getD i []).getD j 0 : Nat) : Int)])]) ∧ P) ↔ (l = m ∧ P) := by
  rw [← and_assoc, natss_iff]

/-- A slice of one, of two slices of numbers. -/
theorem one_iff {k : IntKind} {l : List Nat} {m : List (List Nat)} {P : Prop} : (1 = m.length ∧ (∀ i, i < m.length → (if i = 0 then [AV.ro 1 l.length fun i => [AV.int k ((l.getD i 0 : Nat) : Int)]] else [AV.nils]) =
    [AV.ro 1 (m.getD i []).length fun j => [AV.int k (((m.getD i []).getD j 0 : Nat) : Int)]]) ∧ P) ↔ ([l] = m ∧ P) := by
  rw [← and_assoc]
  refine and_congr_left fun _ => ⟨fun ⟨h1, h2⟩ => ?_, fun h => ?_⟩
  · match m, h1 with
    | [a], _ =>
      have := h2 0 (by simp)
      simp only [if_true, List.getD_cons_zero] at this
      rw [ro1_nats.1 this]
  · subst h
    refine ⟨rfl, fun i hi => ?_⟩
    have : i = 0 := by simpa using hi
    subst this; rfl
theorem two_iff {k : IntKind} {l r : List Nat} {m : List (List Nat)} {P : Prop} : (2 = m.length ∧ (∀ i, i < m.length → (if i = 1 then [AV.ro 1 r.length fun i => [AV.int k ((r.getD i 0 : Nat) : Int)]] else
      if i = 0 then [AV.ro 1 l.length fun i => [AV.int k ((l.getD i 0 : Nat) : Int)]] else [AV.nils]) =
    [AV.ro 1 (m.getD i []).length fun j => [AV.int k (((m.getD i []).getD j 0 : Nat) : Int)]]) ∧ P) ↔ ([l, r] = m ∧ P) := by
  rw [← and_assoc]
  refine and_congr_left fun _ => ⟨fun ⟨h1, h2⟩ => ?_, fun h => ?_⟩
  · match m, h1 with
    | [a, b], _ =>
      have e0 := h2 0 (by simp)
      have e1 := h2 1 (by simp)
      simp at e0 e1
      have f0 : l = a := list_eq_of 0 e0.1 fun i _ => by have := congrFun e0.2 i; simpa [Int.ofNat_inj, List.getD_eq_getElem?_getD] using this
      have f1 : r = b := list_eq_of 0 e1.1 fun i _ => by have := congrFun e1.2 i; simpa [Int.ofNat_inj, List.getD_eq_getElem?_getD] using this
      rw [f0, f1]
  · subst h
    refine ⟨rfl, fun i hi => ?_⟩
    have : i = 0 ∨ i = 1 := by simp at hi; omega
    rcases this with rfl | rfl <;> rfl

theorem one_get {α : Type} {d a : α} {m : List α} {P : Prop} : (1 = m.length ∧ a = m.getD 0 d ∧ P) ↔ ([a] = m ∧ P) := by
  rw [← and_assoc]
  refine and_congr_left fun _ => ⟨fun ⟨h1, h2⟩ => ?_, fun h => by subst h; exact ⟨rfl, rfl⟩⟩
  match m, h1 with
  | [b], _ => rw [h2]; rfl

end Go.Sx
namespace Yard
/-- A proposition as a bool. -/
noncomputable def bOf (p : Prop) : Bool := @decide p (Classical.propDecidable p)
theorem bOf_true {p : Prop} : (bOf p = true) = p := by unfold bOf; simp
theorem bOf_false {p : Prop} : (bOf p = false) = ¬ p := by unfold bOf; simp
theorem true_bOf {p : Prop} : (true = bOf p) = p := (propext eq_comm).trans bOf_true
theorem false_bOf {p : Prop} : (false = bOf p) = ¬ p := (propext eq_comm).trans bOf_false
theorem bOf_congr {p q : Prop} (h : p ↔ q) : bOf p = bOf q := by rw [propext h]
theorem bOf_iff {p : Prop} {b : Bool} : (b = bOf p) = (b = true ↔ p) := by
  unfold bOf; cases b <;> simp
end Yard
namespace Go.Sx
/-- Two empty paths. -/
def NilNil : Prop := ([] : List (Nat × Nat × Nat)) = []
theorem nilnil : NilNil = True := by simp [NilNil]

theorem nat_cast_inj {a b : Nat} : ((a : Int) = (b : Int)) ↔ a = b := Int.ofNat_inj

theorem int_ite {k : IntKind} {j i : Nat} {x y : Int} : ([AV.int k (if j = i then x else y)] : List AV) = if j = i then [AV.int k x] else [AV.int k y] := by split <;> rfl

end Go.Sx
