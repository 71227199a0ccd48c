/- Sx: objects of several blocks as one item: opened and closed. -/
import Derived.Test.YtlecpjgbmeejdaaDoorSxR
namespace Go.Sx
variable {W W' : Base} {D D' : Nat → Prop} {R R' : Nat → Option Obj} {ids ids' own own' : Nat → Option Nat} {P : Program} {tb : TB} {sp : SP} {w w' : World} {H H' : AH}

def noR : Nat → Option Obj := fun _ => none

/-- The items of an object that lies at b, all of whose blocks are in S. -/
def Opens (its : AH) (b : Nat) (S : Nat → Prop) (w : World) : Prop :=
  ∃ (ids own : Nat → Option Nat), ids 0 = some b ∧ (∀ x p, own x = some p → S x ∧ p < its.length) ∧ (∀ p, its.length ≤ p → ids p = none) ∧
    ∀ p it, its[p]? = some it → Sat noR ids (fun x => own x = some p) w p it

theorem Opens.frame {its : AH} {b : Nat} {S : Nat → Prop} (hw : ∀ x, S x → w'.heap[x]? = w.heap[x]?) (h : Opens its b S w) : Opens its b S w' := by
  obtain ⟨ids, own, h0, h1, h2, h3⟩ := h
  exact ⟨ids, own, h0, h1, h2, fun p it hp => (h3 p it hp).mono (fun _ => Iff.rfl) (fun x hx => hw x (h1 x p hx).1) rfl (fun _ _ e => e) (fun _ _ e => e)⟩

def rootB : AH → Bool
  | .cells .. :: _ => true
  | .obj _ :: _ => true
  | _ => false

/-- A kind of object, of one model: its name, and what it may look like. -/
structure Opn where
  tag : List (List Int)
  G : Type
  fam : G → AH
  pl : ∀ g, plH (fam g)
  nf : ∀ g, noF (fam g) = true
  root : ∀ g, rootB (fam g) = true

def Opn.ob (o : Opn) : Ob where
  tag := o.tag
  holds := fun b S w => ∃ g, Opens (o.fam g) b S w
  here := fun _ _ _ _ hw ⟨g, h⟩ => ⟨g, h.frame hw⟩

def openR (p n : Nat) : Nat → Option Nat
  | 0 => some p
  | j + 1 => some (n + j)

def aOpenAt (H : AH) (p : Nat) : AH → AH
  | [] => H
  | it0 :: r => H.set p (renI (openR p H.length) it0) ++ r.map (renI (openR p H.length))

theorem renI_fence {ρ : Nat → Option Nat} {it : Item} (h : renI ρ it = .fence) : it = .fence := by cases it <;> simp_all [renI]

theorem Rep.open (hR : Rep W D R ids own H w) {p : Nat} {o : Opn} (hp : H[p]? = some (.obj o.ob)) : ∃ g ids' own', Rep W D R ids' own' (aOpenAt H p (o.fam g)) w ∧ ∀ q b, ids q = some b → ids' q = some b := by
  obtain ⟨b, hb, hS, g, ids0, own0, h0, h1, h2, h3⟩ := hR.items p _ hp
  have hpn : p < H.length := lt_of_some hp
  have hnf := o.nf g
  have hroot := o.root g
  generalize hits : o.fam g = its at *
  cases its with
  | nil => simp [rootB] at hroot
  | cons it0 r =>
    refine ⟨g, fun q => if q < H.length then ids q else ids0 (q - H.length + 1), fun x => match own x with
      | some q => if q = p then (own0 x).bind (openR p H.length) else some q
      | none => none, ?_, ?_⟩
    · rw [hits]
      have hlen : (aOpenAt H p (it0 :: r)).length = H.length + r.length := by simp [aOpenAt]
      have hmono : ∀ q b, ids q = some b → (if q < H.length then ids q else ids0 (q - H.length + 1)) = some b := fun q b hq => by
        have : q < H.length := by
          rcases Nat.lt_or_ge q H.length with h | h
          · exact h
          · rw [hR.blind q h] at hq; cases hq
        rw [if_pos this]; exact hq
      have hown : ∀ x q, (match own x with
          | some q => if q = p then (own0 x).bind (openR p H.length) else some q
          | none => none) = some q ↔ (own x = some q ∧ q ≠ p) ∨ (own x = some p ∧ ∃ i, own0 x = some i ∧ openR p H.length i = some q) := fun x q => by
        cases hx : own x with
        | none => simp
        | some q0 =>
          by_cases e : q0 = p
          · subst e
            simp only [if_true, Option.bind_eq_some_iff, Option.some.injEq]
            constructor
            · exact fun h => .inr ⟨trivial, h⟩
            · rintro (⟨h, h'⟩ | ⟨_, h⟩)
              · exact absurd h.symm h'
              · exact h
          · simp only [if_neg e, Option.some.injEq]
            constructor
            · rintro rfl; exact .inl ⟨rfl, e⟩
            · rintro (⟨h, _⟩ | ⟨h, _⟩)
              · exact h
              · exact absurd h e
      have hsub : ∀ i q, openR p H.length i = some q → i < r.length + 1 → (i = 0 ∧ q = p) ∨ (0 < i ∧ q = H.length + (i - 1)) := fun i q h _ => by
        cases i with
        | zero => simp [openR] at h; exact .inl ⟨rfl, h.symm⟩
        | succ j => simp [openR] at h; exact .inr ⟨by omega, by omega⟩
      have hget : ∀ q it, (aOpenAt H p (it0 :: r))[q]? = some it → (q ≠ p ∧ q < H.length ∧ H[q]? = some it) ∨ (q = p ∧ it = renI (openR p H.length) it0) ∨ (∃ j x, q = H.length + j ∧ r[j]? = some x ∧ it = renI (openR p H.length) x) := fun q it h => by
        unfold aOpenAt at h
        rcases Nat.lt_or_ge q H.length with hlt | hge
        · rw [List.getElem?_append_left (by simpa using hlt)] at h
          by_cases e : q = p
          · subst e; rw [List.getElem?_set_self hlt] at h; cases h; exact .inr (.inl ⟨rfl, rfl⟩)
          · rw [List.getElem?_set_ne (fun k => e k.symm)] at h; exact .inl ⟨e, hlt, h⟩
        · rw [List.getElem?_append_right (by simpa using hge), List.length_set, List.getElem?_map] at h
          cases hx : r[q - H.length]? with
          | none => rw [hx] at h; cases h
          | some x => rw [hx] at h; cases h; exact .inr (.inr ⟨q - H.length, x, by omega, hx, rfl⟩)
      have hin : ∀ (i q : Nat), openR p H.length i = some q → (if q < H.length then ids q else ids0 (q - H.length + 1)) = ids0 i := fun i q h => by
        cases i with
        | zero => simp [openR] at h; subst h; rw [if_pos hpn, h0, hb]
        | succ j => simp [openR] at h; subst h; rw [if_neg (by omega)]; congr 1; omega
      refine ⟨hR.os, hR.tape, hR.output, hR.size, fun x q hx => ?_, hR.keep, hR.ro, fun q it hq => ?_, fun q hq => ?_, hR.low, hR.high, fun q y hy => ?_, fun hf q hq => ?_⟩
      · rcases (hown x q).1 hx with ⟨k, _⟩ | ⟨k, i, k1, k2⟩
        · obtain ⟨g1, g2, g3⟩ := hR.owns x q k
          exact ⟨g1, by omega, g3⟩
        · obtain ⟨g1, g2, g3⟩ := hR.owns x p k
          have hi := (h1 x i k1).2
          simp only [List.length_cons] at hi
          refine ⟨g1, ?_, g3⟩
          rcases hsub i q k2 hi with ⟨_, rfl⟩ | ⟨_, rfl⟩ <;> omega
      · rcases hget q it hq with ⟨k1, k2, k3⟩ | ⟨rfl, rfl⟩ | ⟨j, x, rfl, k2, rfl⟩
        · refine (hR.items q it k3).mono (fun x => ?_) (fun _ _ => rfl) (by rw [if_pos k2]) hmono (fun _ _ e => e)
          rw [hown]
          constructor
          · exact fun h => .inl ⟨h, k1⟩
          · rintro (⟨h, _⟩ | ⟨h, i, g1, g2⟩)
            · exact h
            · have hi := (h1 x i g1).2
              simp only [List.length_cons] at hi
              rcases hsub i q g2 hi with ⟨_, e⟩ | ⟨_, e⟩
              · exact absurd e k1
              · omega
        · have hs := (h3 0 it0 rfl).out (ρ := openR q H.length) (ids' := fun q' => if q' < H.length then ids q' else ids0 (q' - H.length + 1)) (p := q) (S' := fun x => (match own x with
              | some q' => if q' = q then (own0 x).bind (openR q H.length) else some q'
              | none => none) = some q) (fun x => by
              rw [hown]
              constructor
              · exact fun h => .inr ⟨(h1 x 0 h).1, 0, h, rfl⟩
              · rintro (⟨_, h⟩ | ⟨_, i, g1, g2⟩)
                · exact absurd rfl h
                · have hi := (h1 x i g1).2
                  simp only [List.length_cons] at hi
                  rcases hsub i q g2 hi with ⟨rfl, _⟩ | ⟨_, e⟩
                  · exact g1
                  · omega) (hin 0 q rfl) (fun i q' b' hr hb' => by rw [hin i q' hr]; exact hb')
          exact hs.mono (fun _ => Iff.rfl) (fun _ _ => rfl) rfl (fun _ _ e => e) (fun _ _ e => by cases e)
        · have hs := (h3 (j + 1) x (by simpa using k2)).out (ρ := openR p H.length) (ids' := fun q' => if q' < H.length then ids q' else ids0 (q' - H.length + 1)) (p := H.length + j) (S' := fun x => (match own x with
              | some q' => if q' = p then (own0 x).bind (openR p H.length) else some q'
              | none => none) = some (H.length + j)) (fun x => by
              rw [hown]
              constructor
              · exact fun h => .inr ⟨(h1 x _ h).1, j + 1, h, rfl⟩
              · rintro (⟨h, _⟩ | ⟨_, i, g1, g2⟩)
                · have := (hR.owns x _ h).2.1; omega
                · have hi := (h1 x i g1).2
                  simp only [List.length_cons] at hi
                  rcases hsub i _ g2 hi with ⟨_, e⟩ | ⟨k, e⟩
                  · omega
                  · rw [g1]; congr 1; omega) (hin (j + 1) _ rfl) (fun i q' b' hr hb' => by rw [hin i q' hr]; exact hb')
          exact hs.mono (fun _ => Iff.rfl) (fun _ _ => rfl) rfl (fun _ _ e => e) (fun _ _ e => by cases e)
      · rw [hlen] at hq
        simp only [if_neg (show ¬ q < H.length by omega)]
        exact h2 _ (by simp only [List.length_cons]; omega)
      · obtain ⟨k1, k2⟩ := hR.pins q y hy
        have hlt := lt_of_some k2
        have hne : q ≠ p := fun e => by subst e; rw [hp] at k2; cases k2
        refine ⟨by simp only [if_pos hlt]; exact k1, ?_⟩
        unfold aOpenAt
        rw [List.getElem?_append_left (by simpa using hlt), List.getElem?_set_ne (fun k => hne k.symm)]; exact k2
      · have hf' : H[W.nst]? = some .fence := by
          rcases hget _ _ hf with ⟨_, _, k⟩ | ⟨_, k⟩ | ⟨j, x, _, k2, k⟩
          · exact k
          · have := renI_fence k.symm
            subst this
            simp [noF, Item.isFence] at hnf
          · have := renI_fence k.symm
            subst this
            exact absurd (show (it0 :: r)[j + 1]? = some .fence by simpa using k2) (noF_get hnf)
        have : q < H.length := Nat.lt_trans hq (lt_of_some hf')
        simp only [if_pos this]
        exact hR.stay hf' q hq
    · intro q b' hq
      have : q < H.length := by
        rcases Nat.lt_or_ge q H.length with h | h
        · exact h
        · rw [hR.blind q h] at hq; cases hq
      simp only [if_pos this]; exact hq

/-- Closed: the object's items are at these places, its own one first. -/
def aCloseAt (H : AH) (p : Nat) (r : List Nat) (A : Ob) : AH := setAll H (p :: r) (.obj A :: r.map fun _ => .junk)

theorem Rep.close (hR : Rep W D R ids own H w) {p : Nat} {r : List Nat} {o : Opn} {g : o.G} (hn : nodupR (someT (p :: r)) = true) (hg : goodT H (p :: r) = true) (hl : (p :: r).length = (o.fam g).length) (hf : fitH (someT (p :: r)) H 0 (o.fam g)) :
    ∃ own', Rep W D R ids own' (aCloseAt H p r o.ob) w := by
  have hlen : (aCloseAt H p r o.ob).length = H.length := by rw [aCloseAt, setAll_length]
  have hpl : inT (p :: r) p = true := by simp [inT]
  refine ⟨fun x => match own x with
    | some q => if inT (p :: r) q = true then some p else some q
    | none => none, ?_⟩
  have hown : ∀ x q, (match own x with
      | some q => if inT (p :: r) q = true then some p else some q
      | none => none) = some q ↔ (own x = some q ∧ inT (p :: r) q = false) ∨ (q = p ∧ ∃ q', own x = some q' ∧ inT (p :: r) q' = true) := fun x q => by
    cases hx : own x with
    | none => simp
    | some q0 =>
      cases ht : inT (p :: r) q0 with
      | true =>
        simp only [ht, if_true, Option.some.injEq]
        constructor
        · rintro rfl; exact .inr ⟨rfl, q0, rfl, ht⟩
        · rintro (⟨rfl, h⟩ | ⟨rfl, _⟩)
          · rw [ht] at h; cases h
          · rfl
      | false =>
        simp only [ht, Bool.false_eq_true, if_false, Option.some.injEq]
        constructor
        · rintro rfl; exact .inl ⟨rfl, ht⟩
        · rintro (⟨h, _⟩ | ⟨_, q', rfl, h⟩)
          · exact h
          · rw [ht] at h; cases h
  have hget : ∀ q, (aCloseAt H p r o.ob)[q]? = if inT (p :: r) q = true then (if q = p then some (.obj o.ob) else some .junk) else H[q]? := fun q => by
    unfold aCloseAt
    cases ht : inT (p :: r) q with
    | false => rw [setAll_other ht]; simp
    | true =>
      obtain ⟨i, hi⟩ := inT_iff.1 ht
      have hq := (goodT_get hg hi).1
      rw [setAll_at hn hi hq (by simpa using lt_of_some hi)]
      simp only [if_true]
      cases i with
      | zero => simp at hi; subst hi; simp
      | succ j =>
        have hj : r[j]? = some q := by simpa using hi
        have hne : q ≠ p := fun e => by
          subst e
          have h0 : (someT (q :: r))[0]? = some (some q) := rfl
          have hj' : (someT (q :: r))[j + 1]? = some (some q) := by rw [someT_get]; exact hi
          have a := (posIn_iff hn).2 h0
          have b := (posIn_iff hn).2 hj'
          rw [a] at b; cases b
        rw [if_neg hne]
        simp [hj]
  refine ⟨hR.os, hR.tape, hR.output, hR.size, fun x q hx => ?_, hR.keep, hR.ro, fun q it hq => ?_, fun q hq => hR.blind q (by rwa [hlen] at hq), hR.low, hR.high, fun q y hy => ?_, fun hfe q hq => ?_⟩
  · rw [hlen]
    rcases (hown x q).1 hx with ⟨k, _⟩ | ⟨rfl, q', k, _⟩
    · exact hR.owns x q k
    · obtain ⟨g1, g2, g3⟩ := hR.owns x q' k
      exact ⟨g1, (goodT_get hg (q := 0) rfl).1, g3⟩
  · rw [hget] at hq
    split at hq
    · rename_i ht
      split at hq
      · rename_i e
        subst e
        cases hq
        -- the object
        have hit : ∀ i it, (o.fam g)[i]? = some it → Sat R (renIds (someT (q :: r)) ids) (fun x => renOwn (someT (q :: r)) own x = some i) w i it := fun i it hi => by
          have h := fitH_at hf hi
          rw [Nat.zero_add] at h
          unfold fitAt at h
          have hnf : it.isFence = false := by
            cases e : it.isFence with
            | false => rfl
            | true =>
              have : it = .fence := by cases it <;> simp_all [Item.isFence]
              subst this
              exact absurd hi (noF_get (o.nf g))
          rw [hnf] at h
          simp only at h
          have hil : i < (q :: r).length := by rw [hl]; exact lt_of_some hi
          have hσ : (someT (q :: r))[i]? = some (some (q :: r)[i]) := by rw [someT_get]; exact List.getElem?_eq_getElem hil
          rw [hσ] at h
          simp only at h
          split at h
          · rename_i it0 h0
            refine fitI_ok h (hR.items _ it0 h0) (fun x => ?_) (by simp only [renIds, hσ])
            unfold renOwn
            cases hx : own x with
            | none => simp
            | some q0 =>
              simp only [Option.some.injEq]
              rw [posIn_iff hn, hσ]
              simp [eq_comm]
          · exact h.elim
        have hr0 : ∃ b, ids q = some b ∧ own b = some q := by
          have hroot := o.root g
          generalize o.fam g = its at *
          cases its with
          | nil => simp [rootB] at hroot
          | cons it0 rr =>
            have hs := hit 0 it0 rfl
            have e0 : renIds (someT (q :: r)) ids 0 = ids q := by simp [renIds]
            have e1 : ∀ b, renOwn (someT (q :: r)) own b = some 0 → own b = some q := fun b hb => by
              unfold renOwn at hb
              cases hx : own b with
              | none => rw [hx] at hb; cases hb
              | some q0 =>
                rw [hx] at hb
                simp only at hb
                have := (posIn_iff hn).1 hb
                simp at this; rw [this]
            cases it0 with
            | cells T l => obtain ⟨b, cs, k1, k2, _⟩ := hs; exact ⟨b, by rw [← e0]; exact k1, e1 b k2⟩
            | obj A => obtain ⟨b, k1, k2, _⟩ := hs; exact ⟨b, by rw [← e0]; exact k1, e1 b k2⟩
            | _ => simp [rootB] at hroot
        obtain ⟨b, hb, hob⟩ := hr0
        refine ⟨b, hb, ?_, g, renIds (someT (q :: r)) ids, renOwn (someT (q :: r)) own, by simp [renIds, hb], fun x i hx => ?_, fun i hi => ?_, fun i it hi => plI_ok (plH_get (o.pl g) hi) (hit i it hi)⟩
        · exact (hown b q).2 (.inr ⟨rfl, q, hob, hpl⟩)
        · unfold renOwn at hx
          cases hy : own x with
          | none => rw [hy] at hx; cases hx
          | some q0 =>
            rw [hy] at hx
            simp only at hx
            have hσ := (posIn_iff hn).1 hx
            have hi := someT_get.1 hσ
            refine ⟨?_, by rw [← hl]; exact lt_of_some hi⟩
            exact (hown x q).2 (.inr ⟨rfl, q0, hy, inT_iff.2 ⟨i, hi⟩⟩)
        · have : (someT (q :: r))[i]? = none := List.getElem?_eq_none (by rw [List.length_map, hl]; exact hi)
          simp only [renIds, this]
      · cases hq; trivial
    · rename_i ht
      have ht : inT (p :: r) q = false := by simpa using ht
      refine (hR.items q it hq).mono (fun x => ?_) (fun _ _ => rfl) rfl (fun _ _ e => e) (fun _ _ e => e)
      rw [hown]
      constructor
      · exact fun h => .inl ⟨h, ht⟩
      · rintro (⟨h, _⟩ | ⟨rfl, _⟩)
        · exact h
        · rw [hpl] at ht; cases ht
  · obtain ⟨k1, k2⟩ := hR.pins q y hy
    refine ⟨k1, ?_⟩
    rw [hget]
    cases ht : inT (p :: r) q with
    | false => simpa using k2
    | true =>
      obtain ⟨i, hi⟩ := inT_iff.1 ht
      exact absurd k2 (goodT_get hg hi).2.1
  · refine hR.stay ?_ q hq
    rw [hget] at hfe
    split at hfe
    · split at hfe <;> cases hfe
    · exact hfe

/-! ### As steps of a condition -/
def openAll : List (Nat × Opn) → AH → (AH → Prop) → Prop
  | [], H, K => K H
  | (p, o) :: r, H, K => match H[p]? with
    | some (.obj A) => A = o.ob ∧ ∀ g, openAll r (aOpenAt H p (o.fam g)) K
    | _ => False

def closeAll : List (Nat × List Nat × Opn) → AH → (AH → Prop) → Prop
  | [], H, K => K H
  | (p, r, o) :: l, H, K => match nodupR (someT (p :: r)) && goodT H (p :: r) with
    | true => ∃ g, ((p :: r).length = (o.fam g).length ∧ fitH (someT (p :: r)) H 0 (o.fam g)) ∧ closeAll l (aCloseAt H p r o.ob) K
    | false => False

theorem openAll_ok : ∀ {l : List (Nat × Opn)} {H : AH} {ids own : Nat → Option Nat} {K : AH → Prop}, Rep W D R ids own H w → openAll l H K → ∃ H' ids' own', Rep W D R ids' own' H' w ∧ (∀ q b, ids q = some b → ids' q = some b) ∧ K H'
  | [], H, ids, own, K, hR, h => ⟨H, ids, own, hR, fun _ _ e => e, h⟩
  | (p, o) :: r, H, ids, own, K, hR, h => by
    unfold openAll at h
    split at h
    · rename_i A hp
      obtain ⟨rfl, h⟩ := h
      obtain ⟨g, ids', own', h1, h2⟩ := hR.open hp
      obtain ⟨H', ids2, own2, k1, k2, k3⟩ := openAll_ok h1 (h g)
      exact ⟨H', ids2, own2, k1, fun q b e => k2 q b (h2 q b e), k3⟩
    · exact h.elim

theorem closeAll_ok : ∀ {l : List (Nat × List Nat × Opn)} {H : AH} {own : Nat → Option Nat} {K : AH → Prop}, Rep W D R ids own H w → closeAll l H K → ∃ H' own', Rep W D R ids own' H' w ∧ K H'
  | [], H, own, K, hR, h => ⟨H, own, hR, h⟩
  | (p, r, o) :: l, H, own, K, hR, h => by
    unfold closeAll at h
    split at h
    · rename_i hb
      simp only [Bool.and_eq_true] at hb
      obtain ⟨g, ⟨h1, h2⟩, h3⟩ := h
      obtain ⟨own', hR'⟩ := hR.close hb.1 hb.2 h1 h2
      exact closeAll_ok hR' h3
    · exact h.elim

end Go.Sx
