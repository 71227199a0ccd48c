/- Sx: a function's own view of its arguments' memory, and the way back into the caller's heap. -/
import Derived.Test.YtlecpjgbmeejdaaDoorSxO
namespace Go.Sx
variable {W W' : Base} {D D' : Nat → Prop} {R R' : Nat → Option Obj} {ids ids' own own' : Nat → Option Nat} {P : Program} {tb : TB} {sp : SP} {w w' : World} {H H' : AH}

/-! ### Names of items, changed -/
def renA0 (ρ : Nat → Option Nat) (a : AV) : AV := match a with
  | .ptr p path off => match ρ p with
    | some q => .ptr q path off
    | none => .cell
  | .sl p path off es lo n cap => match ρ p with
    | some q => .sl q path off es lo n cap
    | none => .cell
  | .agg _ => .any
  | .tup _ => .any
  | a => a
def renA (ρ : Nat → Option Nat) : Nat → AV → AV
  | 0, a => renA0 ρ a
  | k + 1, a => match a with
    | .agg l => .agg (l.map (renA0 ρ))
    | .tup l => .tup (l.map (renA ρ k))
    | a => renA0 ρ a
def renI (ρ : Nat → Option Nat) : Item → Item
  | .cells T l => .cells T (l.map (renA0 ρ))
  | it => it

theorem renA0_one {ρ : Nat → Option Nat} {a : AV} (h : a.one = true) : (renA0 ρ a).one = true := by
  cases a with
  | ptr p path off => simp only [renA0]; cases ρ p <;> rfl
  | sl p path off es lo n cap => simp only [renA0]; cases ρ p <;> rfl
  | agg => simp [AV.one] at h
  | tup => simp [AV.one] at h
  | _ => exact h

theorem renA0_ok {ρ : Nat → Option Nat} (hi : ∀ q p b, ρ q = some p → ids q = some b → ids' p = some b) {a : AV} {v : Value} (h : V R ids a v) : V R ids' (renA0 ρ a) v := by
  cases h with
  | any => exact .any _
  | cell _ h => exact .cell _ h
  | fn f => exact .fn f
  | int k n => exact .int k n
  | bool b => exact .bool b
  | str l h => exact .str l h
  | nilp => exact .nilp
  | nils => exact .nils
  | ptr p path off b hb =>
    simp only [renA0]
    split
    · rename_i q hq; exact .ptr q path off b (hi _ _ _ hq hb)
    · exact .cell _ rfl
  | rp segs off b o cs h3 h4 => exact .rp segs off b o cs h3 h4
  | sl p path off es lo n cap a h1 h2 h3 =>
    simp only [renA0]
    split
    · rename_i q hq; exact .sl q path off es lo n cap a (fun hc => let ⟨b, hb, e⟩ := h1 hc; ⟨b, hi _ _ _ hq hb, e⟩) h2 h3
    · exact .cell _ rfl
  | ro es n f b o cap cs h3 h4 h5 h6 h7 => exact .ro es n f b o cap cs h3 h4 h5 h6 h7
  | ro0 es f a cap hc => exact .ro0 es f a cap hc
  | agg l cs hc => exact .any _
  | tup l cs hc => exact .any _

theorem renS_ok {ρ : Nat → Option Nat} (hi : ∀ q p b, ρ q = some p → ids q = some b → ids' p = some b) : ∀ {l : List AV} {vs : List Value}, Vs R ids l vs → Vs R ids' (l.map (renA0 ρ)) vs
  | _, _, .nil => .nil
  | _, _, .one a v as vs h1 h2 h3 => .one _ v _ vs (renA0_one h1) (renA0_ok hi h2) (renS_ok hi h3)
  | _, _, .arr es n f cs as ws vs h1 h2 h3 h4 => .arr es n f cs _ ws vs h1 h2 h3 (renS_ok hi h4)

theorem Ts.mapA {g : AV → AV} (hg : ∀ a v, V R ids a v → V R ids' (g a) v) : ∀ {l : List AV} {vs : List Value}, Ts R ids l vs → Ts R ids' (l.map g) vs
  | _, _, .nil => .nil
  | _, _, .cons a v as vs h1 h2 => .cons _ v _ vs (hg a v h1) (h2.mapA hg)

theorem renA_ok {ρ : Nat → Option Nat} (hi : ∀ q p b, ρ q = some p → ids q = some b → ids' p = some b) : ∀ (k : Nat) {a : AV} {v : Value}, V R ids a v → V R ids' (renA ρ k a) v
  | 0, a, v, h => renA0_ok hi h
  | k + 1, a, v, h => by
    have h0 := renA0_ok hi h
    cases h with
    | agg l cs hc => exact .agg _ cs (renS_ok hi hc)
    | tup l vs hc =>
      exact .tup _ vs (hc.mapA (fun a v h => renA_ok hi k h))
    | _ => exact h0

/-! ### What leads to nothing that is only read -/
def plA : AV → Bool
  | .ro .. | .rp .. | .agg _ | .tup _ | .arr .. => false
  | _ => true
def plG (g : List AV → Prop) : List AV → Prop
  | [] => True
  | a :: r => match a with
    | .arr _ n f => (∀ i, i < n → g (f i)) ∧ plG g r
    | a => plA a = true ∧ plG g r
def plL : Nat → List AV → Prop
  | 0 => plG (fun _ => False)
  | k + 1 => plG (plL k)
def plT (g : AV → Prop) : List AV → Prop
  | [] => True
  | a :: r => g a ∧ plT g r
def plV0 (a : AV) : Prop := match a with
  | .agg l => plL 3 l
  | a => plA a = true
def plV : Nat → AV → Prop
  | 0, a => plV0 a
  | k + 1, a => match a with
    | .tup l => plT (plV k) l
    | a => plV0 a
def plI : Item → Prop
  | .cells _ l => plL 3 l
  | .row _ es _ n f => plL 3 [.arr es n f]
  | .view es n f => plL 3 [.arr es n f]
  | _ => True
def plH : AH → Prop
  | [] => True
  | it :: r => plI it ∧ plH r

theorem plA_ok {a : AV} {v : Value} (h : V R ids a v) (hp : plA a = true) : V R' ids a v := by
  cases h <;> first
    | (simp [plA] at hp; done)
    | (constructor <;> assumption)

theorem plG_ok {g : List AV → Prop} (hg : ∀ {l : List AV} {vs : List Value}, g l → Vs R noIds l vs → Vs R' noIds l vs) {ids : Nat → Option Nat} : ∀ {l : List AV} {vs : List Value}, plG g l → Vs R ids l vs → Vs R' ids l vs := by
  intro l vs hp h
  induction l generalizing vs with
  | nil => cases h; exact .nil
  | cons x r ih =>
    cases h with
    | one _ v _ vs h1 h2 h3 =>
      have hp' : plA x = true ∧ plG g r := by
        cases x <;> first
          | exact hp
          | (simp [AV.one] at h1; done)
      exact .one x v r vs h1 (plA_ok h2 hp'.1) (ih hp'.2 h3)
    | arr es n f cs _ ws vs h1 h2 h3 h4 => exact .arr es n f cs r ws vs h1 h2 (fun i hi => hg (hp.1 i hi) (h3 i hi)) (ih hp.2 h4)

theorem plL_ok : ∀ {k : Nat} {ids : Nat → Option Nat} {l : List AV} {vs : List Value}, plL k l → Vs R ids l vs → Vs R' ids l vs
  | 0, _, _, _, hp, h => plG_ok (g := fun _ => False) (fun h _ => h.elim) hp h
  | k + 1, _, _, _, hp, h => plG_ok (g := plL k) (fun hp h => plL_ok (k := k) hp h) hp h

theorem plV0_ok {a : AV} {v : Value} (hp : plV0 a) (h : V R ids a v) : V R' ids a v := by
  unfold plV0 at hp
  split at hp
  · cases h with
    | agg _ cs hc => exact .agg _ cs (plL_ok hp hc)
  · exact plA_ok h hp
theorem plT_ok {g : AV → Prop} (hg : ∀ {a : AV} {v : Value}, g a → V R ids a v → V R' ids a v) : ∀ {l : List AV} {vs : List Value}, plT g l → Ts R ids l vs → Ts R' ids l vs := by
  intro l vs hp h
  induction l generalizing vs with
  | nil => cases h; exact .nil
  | cons x r ih =>
    cases h with
    | cons _ v _ vs h1 h2 => exact .cons x v r vs (hg hp.1 h1) (ih hp.2 h2)
theorem plV_ok : ∀ {k : Nat} {ids : Nat → Option Nat} {a : AV} {v : Value}, plV k a → V R ids a v → V R' ids a v
  | 0, ids, a, v, hp, h => plV0_ok hp h
  | k + 1, ids, a, v, hp, h => by
    unfold plV at hp
    split at hp
    · cases h with
      | tup l vs hc =>
        exact .tup _ vs (plT_ok (fun hp h => plV_ok (k := k) hp h) hp hc)
    · exact plV0_ok hp h

theorem plI_ok {it : Item} {S : Nat → Prop} {p : Nat} (h : plI it) (hs : Sat R ids S w p it) : Sat R' ids S w p it := by
  cases it with
  | cells T l => obtain ⟨b, cs, h1, h2, h3, h4⟩ := hs; exact ⟨b, cs, h1, h2, h3, plL_ok h h4⟩
  | row T es cap n f =>
    rcases hs with h0 | ⟨b, cur, h1, h2, h3, h4, h5, h6, h7⟩
    · exact .inl h0
    · exact .inr ⟨b, cur, h1, h2, h3, h4, h5, h6, plL_ok h h7⟩
  | view es n f => obtain ⟨b, cur, T, fr, h1, h2, h3, h4, h5⟩ := hs; exact ⟨b, cur, T, fr, h1, h2, h3, h4, plL_ok h h5⟩
  | obj A => exact hs
  | gone => trivial
  | junk => trivial
  | fence => trivial

/-! ### What is only read -/
def inT : List Nat → Nat → Bool
  | [], _ => false
  | q :: r, p => Nat.beq q p || inT r p
theorem inT_iff : ∀ {τ : List Nat} {p : Nat}, inT τ p = true ↔ ∃ q : Nat, τ[q]? = some p
  | [], p => by simp [inT]
  | x :: r, p => by
    have ih := inT_iff (τ := r) (p := p)
    simp only [inT, Bool.or_eq_true, ih]
    constructor
    · rintro (h | ⟨q, h⟩)
      · exact ⟨0, by rw [Nat.eq_of_beq_eq_true h]; rfl⟩
      · exact ⟨q + 1, by simpa using h⟩
    · rintro ⟨q, h⟩
      cases q with
      | zero => simp at h; subst h; exact .inl (by simp)
      | succ q => exact .inr ⟨q, by simpa using h⟩

/-- The caller's other blocks are read alone while a callee runs. -/
def convR (conv : Bool) (R : Nat → Option Obj) (own : Nat → Option Nat) (τ : List Nat) (w : World) : Nat → Option Obj := fun b => match R b, conv, own b with
  | some o, _, _ => some o
  | none, true, some p => if inT τ p = true then none else w.heap[b]?
  | _, _, _ => none

theorem convR_le {conv : Bool} {τ : List Nat} {b : Nat} {o : Obj} (h : R b = some o) : convR conv R own τ w b = some o := by simp [convR, h]

theorem Reads.ro {A : World → Prop} {es n : Nat} {f : Nat → List AV} {v : Value} {Rc : Nat → Option Obj} (h : Reads R A es n f v) (hr : ∀ b o, R b = some o → Rc b = some o)
    (hA : ∀ w2 : World, (∀ b o, Rc b = some o → w2.heap[b]? = some o) → A w2) (hw : ∀ b o, Rc b = some o → w.heap[b]? = some o) : V Rc ids' (.ro es n f) v := by
  obtain ⟨a, cap, rfl, h1, h2, h3⟩ := h
  rcases h3 with rfl | ⟨b, o, cs, rfl, g1, g2, g3⟩
  · exact .ro0 es f a cap h2
  · refine .ro es n f b o cap cs h1 h2 g1 (fun i hi j hj => ?_) (fun i hi => (g3 i hi).into (fun _ _ e => e) hr)
    -- a world in which all else is wiped
    let w2 : World := { w with heap := w.heap.mapIdx fun k x => if (Rc k).isSome then x else .cells #[] 0 (0, 0) }
    have e := g2 w2 (hA w2 fun k x hk => by simp [w2, hw k x hk, hk]) i hi j hj
    have hlt : j < (cs i).length := by rw [g1 i hi]; exact hj
    rw [List.getElem?_eq_getElem hlt] at e ⊢
    simp only [World.cell?, w2, Array.getElem?_mapIdx] at e
    cases hb : Rc b with
    | none =>
      rw [hb] at e
      cases hx : w.heap[b]? with
      | none => rw [hx] at e; simp at e
      | some x => rw [hx] at e; simp at e
    | some x =>
      rw [hw b x hb] at e
      simp only [hb, Option.map_some, Option.isSome_some, if_true] at e
      unfold rcell
      rw [hb]
      cases x <;> simp_all

end Go.Sx
