/- Sx: into a callee's view, and back. -/
import Derived.Test.YtlecpjgbmeejdaaDoorSxQ
namespace Go.Sx
variable {W W' : Base} {D D' : Nat → Prop} {R R' : Nat → Option Obj} {ids ids' own own' : Nat → Option Nat} {P : Program} {tb : TB} {sp : SP} {w w' : World} {H H' : AH}

abbrev someT (τ : List Nat) : Ren := τ.map some

theorem someT_get {τ : List Nat} {q p : Nat} : (someT τ)[q]? = some (some p) ↔ τ[q]? = some p := by
  rw [List.getElem?_map]
  cases τ[q]? <;> simp

/-- Where a callee begins. -/
def inW (Rc : Nat → Option Obj) (τ : List Nat) (ids : Nat → Option Nat) (w : World) : Base :=
  { w with R := Rc, pins := fun _ => none, nst := τ.length, ids0 := renIds (someT τ) ids }
def inD (own : Nat → Option Nat) (τ : List Nat) : Nat → Prop := fun b => ∃ p, own b = some p ∧ inT τ p = true

theorem convR_heap (hR : Rep W D R ids own H w) {conv : Bool} {τ : List Nat} {b : Nat} {o : Obj} (h : convR conv R own τ w b = some o) : w.heap[b]? = some o := by
  cases hr : R b with
  | some x => simp [convR, hr] at h; subst h; exact hR.ro b x hr
  | none =>
    cases conv with
    | false => simp [convR, hr] at h
    | true =>
      cases ho : own b with
      | none => simp [convR, hr, ho] at h
      | some p =>
        simp only [convR, hr, ho] at h
        split at h
        · cases h
        · exact h

theorem convR_own (hR : Rep W D R ids own H w) {conv : Bool} {τ : List Nat} {b p : Nat} (h : own b = some p) (ht : inT τ p = true) : convR conv R own τ w b = none := by
  have := (hR.owns b p h).2.2.1
  cases conv <;> simp [convR, this, h, ht]

theorem Rep.enter (hR : Rep W D R ids own H w) (conv : Bool) {τ : List Nat} {Hx : AH} (hn : nodupR (someT τ) = true) (hl : τ.length = Hx.length) (hf : fitH (someT τ) H 0 Hx) :
    Rep (inW (convR conv R own τ w) τ ids w) (inD own τ) (convR conv R own τ w) (renIds (someT τ) ids) (renOwn (someT τ) own) (Hx ++ [.fence]) w := by
  have hown : ∀ b q, renOwn (someT τ) own b = some q ↔ ∃ p, own b = some p ∧ τ[q]? = some p := fun b q => by
    unfold renOwn
    cases e : own b with
    | none => simp
    | some p =>
      simp only [posIn_iff hn, someT_get, Option.some.injEq]
      exact ⟨fun h => ⟨p, rfl, h⟩, fun ⟨p', e', h⟩ => by subst e'; exact h⟩
  refine ⟨rfl, rfl, rfl, Nat.le_refl _, fun b q hb => ?_, fun _ _ _ => rfl, fun b o hb => convR_heap hR hb, fun q it hq => ?_, fun q hq => ?_, fun _ _ h => h, fun _ _ h => h, fun _ _ h => by simp [inW] at h, fun _ q _ => rfl⟩
  · obtain ⟨p, h1, h2⟩ := (hown b q).1 hb
    have ht : inT τ p = true := inT_iff.2 ⟨q, h2⟩
    refine ⟨(hR.owns b p h1).1, ?_, convR_own hR h1 ht, .inl ⟨p, h1, ht⟩⟩
    have := lt_of_some h2
    simp; omega
  · rcases Nat.lt_or_ge q Hx.length with hlt | hge
    · rw [List.getElem?_append_left hlt] at hq
      have h := fitH_at hf hq
      rw [Nat.zero_add] at h
      unfold fitAt at h
      split at h
      · rename_i hf; cases it <;> simp [Item.isFence] at hf; trivial
      split at h
      · rename_i p hp
        split at h
        · rename_i it0 h0
          have hs := (hR.items p it0 h0).mono (R' := convR conv R own τ w) (fun _ => Iff.rfl) (fun _ _ => rfl) rfl (fun _ _ e => e) (fun _ _ e => convR_le e)
          refine fitI_ok h hs (fun b => ?_) (by simp [renIds, hp])
          rw [hown]
          exact ⟨fun k => ⟨p, k, someT_get.1 hp⟩, fun ⟨p', k, k2⟩ => by rw [someT_get.1 hp] at k2; cases k2; exact k⟩
        · exact h.elim
      · rename_i hp
        rw [List.getElem?_map] at hp
        cases hq' : τ[q]? <;> rw [hq'] at hp <;> simp at hp
      · exact h.elim
    · rw [List.getElem?_append_right hge] at hq
      cases hk : q - Hx.length with
      | zero => rw [hk] at hq; simp at hq; subst hq; trivial
      | succ j => rw [hk] at hq; simp at hq
  · simp at hq
    simp [renIds, List.getElem?_eq_none (show τ.length ≤ q by omega)]

/-! ### Back -/
def setAll : AH → List Nat → AH → AH
  | H, p :: τ, it :: r => setAll (H.set p it) τ r
  | H, _, _ => H

theorem setAll_length : ∀ (H : AH) (τ : List Nat) (r : AH), (setAll H τ r).length = H.length
  | H, [], _ => by simp [setAll]
  | H, p :: τ, [] => by simp [setAll]
  | H, p :: τ, it :: r => by rw [setAll, setAll_length]; simp

theorem setAll_other : ∀ {H : AH} {τ : List Nat} {r : AH} {p : Nat}, inT τ p = false → (setAll H τ r)[p]? = H[p]?
  | H, [], _, p, _ => by simp [setAll]
  | H, q :: τ, [], p, _ => by simp [setAll]
  | H, q :: τ, it :: r, p, h => by
    simp only [inT, Bool.or_eq_false_iff] at h
    rw [setAll, setAll_other h.2, List.getElem?_set_ne (fun e => by subst e; simp at h)]

theorem inT_of_hasR : ∀ {τ : List Nat} {p : Nat}, hasR (someT τ) p = false → inT τ p = false
  | [], p, _ => rfl
  | q :: τ, p, h => by
    simp only [someT, List.map_cons, hasR, Bool.or_eq_false_iff] at h
    simp only [inT, Bool.or_eq_false_iff]
    exact ⟨h.1, inT_of_hasR h.2⟩

theorem setAll_at : ∀ {H : AH} {τ : List Nat} {r : AH} {q p : Nat}, nodupR (someT τ) = true → τ[q]? = some p → p < H.length → q < r.length → (setAll H τ r)[p]? = r[q]?
  | H, [], _, q, p, _, h, _, _ => by simp at h
  | H, x :: τ, [], q, p, _, h, _, hl => by simp at hl
  | H, x :: τ, it :: r, 0, p, hn, h, hp, hl => by
    simp at h; subst h
    simp only [someT, List.map_cons, nodupR, Bool.and_eq_true, Bool.not_eq_true'] at hn
    rw [setAll, setAll_other (inT_of_hasR hn.1), List.getElem?_set_self hp]; rfl
  | H, x :: τ, it :: r, q + 1, p, hn, h, hp, hl => by
    simp only [someT, List.map_cons, nodupR, Bool.and_eq_true, Bool.not_eq_true'] at hn
    rw [setAll, setAll_at (q := q) hn.2 (by simpa using h) (by simpa using hp) (by simpa using hl)]
    simp

/-- The callee's items, by the caller's names. -/
def outR (τ : List Nat) (hl : Nat) : Nat → Option Nat := fun q => match τ[q]? with
  | some p => some p
  | none => match Nat.blt τ.length q with
    | true => some (hl + (q - (τ.length + 1)))
    | false => none

def joinH (H : AH) (τ : List Nat) (its new : AH) : AH := setAll H τ (its.map (renI (outR τ H.length))) ++ new.map (renI (outR τ H.length))

def goodT (H : AH) : List Nat → Bool
  | [] => true
  | p :: r => (match H[p]? with
    | some .gone => false
    | some .fence => false
    | some _ => true
    | none => false) && goodT H r
theorem goodT_get : ∀ {τ : List Nat}, goodT H τ = true → ∀ {q p : Nat}, τ[q]? = some p → p < H.length ∧ H[p]? ≠ some .gone ∧ H[p]? ≠ some .fence
  | [], _, q, p, h => by simp at h
  | x :: r, hg, 0, p, h => by
    simp at h; subst h
    simp only [goodT, Bool.and_eq_true] at hg
    have hg := hg.1
    split at hg
    · cases hg
    · cases hg
    · rename_i it e1 e2 e
      exact ⟨lt_of_some e, by rw [e]; intro k; cases k; exact e1 rfl, by rw [e]; intro k; cases k; exact e2 rfl⟩
    · cases hg
  | x :: r, hg, q + 1, p, h => by
    simp only [goodT, Bool.and_eq_true] at hg
    exact goodT_get hg.2 (q := q) (by simpa using h)

def noF : AH → Bool
  | [] => true
  | it :: r => !it.isFence && noF r
theorem noF_get : ∀ {H : AH}, noF H = true → ∀ {q : Nat}, H[q]? ≠ some .fence
  | [], _, q, h => by simp at h
  | x :: r, hn, 0, h => by simp at h; subst h; simp [noF, Item.isFence] at hn
  | x :: r, hn, q + 1, h => by
    simp only [noF, Bool.and_eq_true] at hn
    exact noF_get hn.2 (q := q) (by simpa using h)

theorem Sat.out {ρ : Nat → Option Nat} {S S' : Nat → Prop} {p q : Nat} {it : Item} (h : Sat R ids S w q it) (hS : ∀ b, S b ↔ S' b) (hp : ids' p = ids q)
    (hi : ∀ q p b, ρ q = some p → ids q = some b → ids' p = some b) : Sat R ids' S' w p (renI ρ it) := by
  obtain rfl : S = S' := funext fun b => propext (hS b)
  cases it with
  | cells T l =>
    obtain ⟨b, cs, h1, h2, h3, h4⟩ := h
    exact ⟨b, cs, hp.trans h1, h2, h3, renS_ok hi h4⟩
  | row T es cap n f =>
    rcases h with ⟨h1, h2, h3⟩ | ⟨b, cur, h1, h2, h3, h4, h5, h6, h7⟩
    · exact .inl ⟨hp.trans h1, h2, h3⟩
    · exact .inr ⟨b, cur, hp.trans h1, h2, h3, h4, h5, h6, renS_ok hi h7⟩
  | view es n f =>
    obtain ⟨b, cur, T, fr, h1, h2, h3, h4, h5⟩ := h
    exact ⟨b, cur, T, fr, hp.trans h1, h2, h3, h4, renS_ok hi h5⟩
  | obj A =>
    obtain ⟨b, h1, h2, h3⟩ := h
    exact ⟨b, hp.trans h1, h2, h3⟩
  | gone => trivial
  | junk => trivial
  | fence => trivial

theorem plH_get : ∀ {H : AH}, plH H → ∀ {q : Nat} {it : Item}, H[q]? = some it → plI it
  | [], _, q, it, h => by simp at h
  | x :: r, hp, 0, it, h => by simp at h; subst h; exact hp.1
  | x :: r, hp, q + 1, it, h => plH_get hp.2 (q := q) (by simpa using h)

def outI (ids ids' : Nat → Option Nat) (n hl : Nat) : Nat → Option Nat := fun p => if p < hl then ids p else ids' (p - hl + (n + 1))
def outO (own own' : Nat → Option Nat) (τ : List Nat) (hl : Nat) : Nat → Option Nat := fun b => match own b with
  | some p => if inT τ p = true then (own' b).bind (outR τ hl) else some p
  | none => (own' b).bind (outR τ hl)
def outRO (conv : Bool) (R R' : Nat → Option Obj) : Nat → Option Obj := match conv with
  | true => R
  | false => R'

section
variable {τ : List Nat} {conv : Bool} {its new : AH}

theorem outR_some {q p hl : Nat} (h : outR τ hl q = some p) : τ[q]? = some p ∨ (τ.length < q ∧ p = hl + (q - (τ.length + 1))) := by
  unfold outR at h
  split at h
  · rename_i e; cases h; exact .inl e
  · split at h
    · rename_i e; cases h; exact .inr ⟨by simpa using e, rfl⟩
    · cases h

theorem out_ids (hg : goodT H τ = true) (hl : its.length = τ.length) (h : Rep (inW (convR conv R own τ w) τ ids w) (inD own τ) R' ids' own' (its ++ .fence :: new) w') :
    ∀ q p b, outR τ H.length q = some p → ids' q = some b → outI ids ids' τ.length H.length p = some b := by
  intro q p b hq hb
  rcases outR_some hq with e | ⟨e, rfl⟩
  · have hp := (goodT_get hg e).1
    have hqn := lt_of_some e
    have := h.stay (by simp [inW, ← hl]) q hqn
    simp only [inW, renIds, someT_get.2 e] at this
    simp [outI, hp, ← this, hb]
  · simp only [outI, if_neg (show ¬ H.length + (q - (τ.length + 1)) < H.length by omega)]
    rw [show H.length + (q - (τ.length + 1)) - H.length + (τ.length + 1) = q by omega]
    exact hb

theorem out_mono (hR : Rep W D R ids own H w) {n : Nat} : ∀ q b, ids q = some b → outI ids ids' n H.length q = some b := by
  intro q b hb
  have : q < H.length := by
    rcases Nat.lt_or_ge q H.length with h | h
    · exact h
    · rw [hR.blind q h] at hb; cases hb
  simp [outI, this, hb]

theorem outRO_le (h : Rep (inW (convR conv R own τ w) τ ids w) (inD own τ) R' ids' own' H' w') : ∀ b o, R b = some o → outRO conv R R' b = some o := by
  intro b o hb
  cases conv with
  | true => exact hb
  | false => exact h.low b o (convR_le hb)

theorem Rep.leave (hR : Rep W D R ids own H w) (hn : nodupR (someT τ) = true) (hg : goodT H τ = true) (hl : its.length = τ.length) (hnf : noF its = true) (hnf' : noF new = true)
    (hpl : conv = true → plH its ∧ plH new) (h : Rep (inW (convR conv R own τ w) τ ids w) (inD own τ) R' ids' own' (its ++ .fence :: new) w') :
    Rep W D (outRO conv R R') (outI ids ids' τ.length H.length) (outO own own' τ H.length) (joinH H τ its new) w' := by
  have hids := out_ids hg hl h
  have hsz : w.heap.size ≤ w'.heap.size := h.size
  have hlen : (joinH H τ its new).length = H.length + new.length := by simp [joinH, setAll_length]
  have hex : ∀ b p, own b = some p → inT τ p = false → own' b = none := fun b p hb hp => by
    cases ho : own' b with
    | none => rfl
    | some q =>
      rcases (h.owns b q ho).2.2.2 with ⟨p', e, h2⟩ | k
      · rw [hb] at e; cases e; rw [hp] at h2; cases h2
      · have := (hR.owns b p hb).1
        simp only [inW] at k; omega
  have hin : ∀ b p, own b = some p → D b ∨ W.heap.size ≤ b := fun b p hb => (hR.owns b p hb).2.2.2
  have hown : ∀ b p, outO own own' τ H.length b = some p ↔ (own b = some p ∧ inT τ p = false) ∨ ∃ q, own' b = some q ∧ outR τ H.length q = some p := fun b p => by
    unfold outO
    cases hb : own b with
    | none => simp [Option.bind_eq_some_iff]
    | some p0 =>
      cases ht : inT τ p0 with
      | true =>
        simp only [ht, if_true, Option.bind_eq_some_iff, Option.some.injEq]
        constructor
        · exact .inr
        · rintro (⟨rfl, k⟩ | k)
          · rw [ht] at k; cases k
          · exact k
      | false =>
        simp only [ht, Bool.false_eq_true, if_false, Option.some.injEq]
        constructor
        · rintro rfl; exact .inl ⟨rfl, ht⟩
        · rintro (⟨k, _⟩ | ⟨q, k, _⟩)
          · exact k
          · rw [hex b p0 hb ht] at k; cases k
  have hkeep : ∀ b, b < w.heap.size → ¬ inD own τ b → w'.heap[b]? = w.heap[b]? := h.keep
  have hro : ∀ b o, outRO conv R R' b = some o → w'.heap[b]? = some o := fun b o hb => by
    cases conv with
    | true =>
      have hw := hR.ro b o hb
      rw [hkeep b (Array.getElem?_eq_some_iff.1 hw).1 (fun ⟨p, e, _⟩ => by have := (hR.owns b p e).2.2.1; rw [show R b = some o from hb] at this; cases this)]
      exact hw
    | false => exact h.ro b o hb
  refine ⟨h.os.trans hR.os, h.tape.trans hR.tape, h.output.trans hR.output, Nat.le_trans hR.size hsz, fun b p hb => ?_, fun b hb hd => ?_, hro, fun p it hp => ?_, fun p hp => ?_,
    fun b o hb => outRO_le h b o (hR.low b o hb), fun b o hb => ?_, fun p o hp => ?_, fun hf => ?_⟩
  · rw [hlen]
    rcases (hown b p).1 hb with ⟨h1, h2⟩ | ⟨q, h1, h2⟩
    · obtain ⟨g1, g2, g3, g4⟩ := hR.owns b p h1
      refine ⟨by omega, by omega, ?_, g4⟩
      cases conv with
      | true => exact g3
      | false =>
        show R' b = none
        cases hx : R' b with
        | none => rfl
        | some o =>
          have k := h.high b o hx
          simp only [inW, convR, g3] at k; cases k
    · obtain ⟨g1, g2, g3, g4⟩ := h.owns b q h1
      have hlq : q < τ.length + 1 + new.length := by simp [hl] at g2; omega
      refine ⟨g1, ?_, ?_, ?_⟩
      · rcases outR_some h2 with e | ⟨e, rfl⟩
        · have := (goodT_get hg e).1; omega
        · omega
      · cases conv with
        | true =>
          show R b = none
          cases hx : R b with
          | none => rfl
          | some o =>
            have hw := (Array.getElem?_eq_some_iff.1 (hR.ro b o hx)).1
            rcases g4 with ⟨p', k, _⟩ | k
            · rw [(hR.owns b p' k).2.2.1] at hx; cases hx
            · simp only [inW] at k; omega
        | false => exact g3
      · rcases g4 with ⟨p', k, _⟩ | k
        · exact hin b p' k
        · exact .inr (Nat.le_trans hR.size k)
  · have hb' : b < w.heap.size := Nat.lt_of_lt_of_le hb hR.size
    rw [hkeep b hb' (fun ⟨p, e, _⟩ => by rcases hin b p e with k | k; exact hd k; omega)]
    exact hR.keep b hb hd
  · rcases Nat.lt_or_ge p H.length with hlt | hge
    · have hp' : (setAll H τ (its.map (renI (outR τ H.length))))[p]? = some it := by
        rw [joinH, List.getElem?_append_left (by rw [setAll_length]; exact hlt)] at hp; exact hp
      cases ht : inT τ p with
      | false =>
        rw [setAll_other ht] at hp'
        refine (hR.items p it hp').mono (fun b => ?_) (fun b hb => ?_) (by simp [outI, hlt]) (out_mono hR) (outRO_le h)
        · rw [hown]
          constructor
          · exact fun k => .inl ⟨k, ht⟩
          · rintro (k | ⟨q, _, k⟩)
            · exact k.1
            · rcases outR_some k with e | ⟨_, e⟩
              · rw [inT_iff.2 ⟨q, e⟩] at ht; cases ht
              · omega
        · exact hkeep b (hR.owns b p hb).1 (fun ⟨p', e, k⟩ => by rw [hb] at e; cases e; rw [ht] at k; cases k)
      | true =>
        obtain ⟨q, hq⟩ := inT_iff.1 ht
        have hqn := lt_of_some hq
        rw [setAll_at (q := q) hn hq hlt (by simp; omega), List.getElem?_map] at hp'
        cases hi : its[q]? with
        | none => rw [hi] at hp'; cases hp'
        | some it0 =>
          rw [hi] at hp'
          simp only [Option.map_some, Option.some.injEq] at hp'
          subst hp'
          have hs := h.items q it0 (by rw [List.getElem?_append_left (by omega)]; exact hi)
          have hs' : Sat (outRO conv R R') ids' (fun b => own' b = some q) w' q it0 := by
            cases conv with
            | true => exact plI_ok (plH_get (hpl rfl).1 hi) hs
            | false => exact hs
          refine hs'.out (fun b => ?_) ?_ hids
          · rw [hown]
            constructor
            · exact fun k => .inr ⟨q, k, by simp [outR, hq]⟩
            · rintro (⟨_, k⟩ | ⟨q', k, k2⟩)
              · rw [ht] at k; cases k
              · rcases outR_some k2 with e | ⟨_, e⟩
                · have e1 := (posIn_iff hn).2 (someT_get.2 e)
                  have e2 := (posIn_iff hn).2 (someT_get.2 hq)
                  rw [e1] at e2; cases e2; exact k
                · omega
          · have := h.stay (by simp [inW, ← hl]) q hqn
            simp only [inW, renIds, someT_get.2 hq] at this
            simp [outI, hlt, this]
    · rw [joinH, List.getElem?_append_right (by rw [setAll_length]; exact hge), setAll_length, List.getElem?_map] at hp
      cases hi : new[p - H.length]? with
      | none => rw [hi] at hp; cases hp
      | some it0 =>
        rw [hi] at hp
        simp only [Option.map_some, Option.some.injEq] at hp
        subst hp
        have hs := h.items (p - H.length + (τ.length + 1)) it0 (by
          rw [List.getElem?_append_right (by omega), show p - H.length + (τ.length + 1) - its.length = (p - H.length) + 1 by omega]; simpa using hi)
        have hs' : Sat (outRO conv R R') ids' (fun b => own' b = some (p - H.length + (τ.length + 1))) w' (p - H.length + (τ.length + 1)) it0 := by
          cases conv with
          | true => exact plI_ok (plH_get (hpl rfl).2 hi) hs
          | false => exact hs
        refine hs'.out (fun b => ?_) (by simp [outI, Nat.not_lt.2 hge]) hids
        rw [hown]
        constructor
        · refine fun k => .inr ⟨_, k, ?_⟩
          have : τ[p - H.length + (τ.length + 1)]? = none := List.getElem?_eq_none (by omega)
          have hb : Nat.blt τ.length (p - H.length + (τ.length + 1)) = true := by rw [Nat.blt_eq]; omega
          simp only [outR, this, hb, Option.some.injEq]
          omega
        · rintro (⟨k, _⟩ | ⟨q', k, k2⟩)
          · have := (hR.owns b p k).2.1; omega
          · rcases outR_some k2 with e | ⟨e1, e⟩
            · have := (goodT_get hg e).1; omega
            · rw [show p - H.length + (τ.length + 1) = q' by omega]; exact k
  · rw [hlen] at hp
    simp only [outI, if_neg (show ¬ p < H.length by omega)]
    exact h.blind _ (by simp; omega)
  · cases conv with
    | true => exact hR.high b o hb
    | false =>
      have : convR false R own τ w b = some o := h.high b o hb
      cases hr : R b with
      | none => simp [convR, hr] at this
      | some x => simp [convR, hr] at this; subst this; exact hR.high b x hr
  · obtain ⟨h1, h2⟩ := hR.pins p o hp
    have hlt := lt_of_some h2
    have ht : inT τ p = false := by
      cases ht : inT τ p with
      | false => rfl
      | true => obtain ⟨q, hq⟩ := inT_iff.1 ht; exact absurd h2 (goodT_get hg hq).2.1
    refine ⟨by simp [outI, hlt, h1], ?_⟩
    rw [joinH, List.getElem?_append_left (by rw [setAll_length]; exact hlt), setAll_other ht]
    exact h2
  · have hlt : W.nst < H.length := by
      rcases Nat.lt_or_ge W.nst H.length with k | k
      · exact k
      · rw [joinH, List.getElem?_append_right (by rw [setAll_length]; exact k), setAll_length, List.getElem?_map] at hf
        cases hi : new[W.nst - H.length]? with
        | none => rw [hi] at hf; cases hf
        | some x =>
          rw [hi] at hf
          simp only [Option.map_some, Option.some.injEq] at hf
          have : x = .fence := by cases x <;> simp [renI] at hf ⊢
          subst this
          exact absurd hi (noF_get hnf')
    have hf' : (setAll H τ (its.map (renI (outR τ H.length))))[W.nst]? = some .fence := by
      rw [joinH, List.getElem?_append_left (by rw [setAll_length]; exact hlt)] at hf; exact hf
    have ht : inT τ W.nst = false := by
      cases ht : inT τ W.nst with
      | false => rfl
      | true =>
        obtain ⟨q, hq⟩ := inT_iff.1 ht
        have hqn := lt_of_some hq
        rw [setAll_at (q := q) hn hq hlt (by simp; omega), List.getElem?_map] at hf'
        cases hi : its[q]? with
        | none => rw [hi] at hf'; cases hf'
        | some x =>
          rw [hi] at hf'
          simp only [Option.map_some, Option.some.injEq] at hf'
          have : x = .fence := by cases x <;> simp [renI] at hf' ⊢
          subst this
          exact absurd hi (noF_get hnf)
    rw [setAll_other ht] at hf'
    intro q hq
    simp only [outI, if_pos (Nat.lt_trans hq hlt)]
    exact hR.stay hf' q hq

end
end Go.Sx
