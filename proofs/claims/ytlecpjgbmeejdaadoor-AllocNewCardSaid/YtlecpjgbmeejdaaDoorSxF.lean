/- Sx: the operations that make or write memory, and calls. -/
import Derived.Test.YtlecpjgbmeejdaaDoorSxE
namespace Go.Sx
variable {W W' : Base} {D D' : Nat → Prop} {R R' : Nat → Option Obj} {ids ids' own own' : Nat → Option Nat} {P : Program} {tb : TB} {w w' : World} {H H' : AH}

/-- An operation goes on: with a value, with none, or behind a call. -/
def Goes (P : Program) (s : Sem Next) (w : World) (G : Value → World → Prop) : Prop :=
  (∃ v w', s.run P w = .ok (.value v) w' ∧ G v w') ∨ (∃ w', s.run P w = .ok .skip w' ∧ G undef w') ∨
    ∃ f args w', s.run P w = .ok (.enter f args) w' ∧ Calls P f args w' (fun e w'' => ∃ v, e = .returned v ∧ G v w'')

theorem Goes.wp {o : Oper} {a : Act} {next : Act → World → Prop} {Q : Exit → Act → World → Prop} (h : Goes P (execOp a.eval o) w (fun v w' => next (a.put o.dst v) w')) : o.wp P a w next Q := by
  unfold Oper.wp
  rcases h with ⟨v, w', hr, hg⟩ | ⟨w', hr, hg⟩ | ⟨f, args, w', hr, hc⟩
  · rw [hr]; exact hg
  · rw [hr]; exact hg
  · rw [hr]
    exact hc.mono fun e w'' ⟨v, he, hg⟩ => by subst he; exact hg

/-- What stands behind an operation. -/
def Stands (W : Base) (D : Nat → Prop) (tmps : List Value) (K : AV → Fr → AH → Prop) (v : Value) (w' : World) : Prop :=
  ∃ av F' H' R' ids' own', V R' ids' av v ∧ Ts R' ids' F' tmps ∧ Rep W D R' ids' own' H' w' ∧ K av F' H'

def cellsA (a : AV) : Option (List AV) := match a with
  | .agg l => some l
  | a => match a.one with
    | true => some [a]
    | false => none

theorem cellsA_ok {a : AV} {v : Value} {l : List AV} (h : V R ids a v) (hc : cellsA a = some l) : Vs R ids l v.cells.toList := by
  unfold cellsA at hc
  split at hc
  · cases hc
    obtain ⟨cs, rfl, hv⟩ := h.agg_inv
    simpa [Value.cells] using hv
  · split at hc
    · rename_i hone
      cases hc
      have ho := h.oneCell hone
      have e : v.cells.toList = [v] := by cases v <;> simp_all [Value.cells, Value.oneCell']
      rw [e]
      exact .one a v [] [] hone h .nil
    · cases hc

/-- Cells, or an element of an array that stands at the head. -/
def putA (segs : List AV) (off m : Nat) (new : List AV) : Option (List AV) := match segs with
  | .arr es n f :: r => match Nat.beq es m, Nat.beq (off % es) 0, Nat.blt (off / es) n, new.all AV.flat with
    | true, true, true, true => some (.arr es n (updf f (off / es) new) :: r)
    | _, _, _, _ => putS segs off m new
  | _ => putS segs off m new

theorem putA_ok {segs s' new : List AV} {cs c : List Value} {off m : Nat} (h : Vs R ids segs cs) (hp : putA segs off m new = some s') (hn : Vs R ids new c) (hc : c.length = m) :
    Vs R ids s' (cs.take off ++ (c ++ cs.drop (off + m))) ∧ off + m ≤ cs.length := by
  unfold putA at hp
  split at hp
  · rename_i es n f r
    split at hp
    · rename_i h1 h2 h3 h4
      cases hp
      have e1 := Nat.eq_of_beq_eq_true h1
      subst e1
      have e2 := Nat.eq_of_beq_eq_true h2
      have e3 : off / es < n := by simpa [Nat.blt_eq] using h3
      have e4 : off / es * es = off := by have := Nat.div_add_mod' off es; omega
      have := h.elem_put (i := off / es) e3 (hn.unbound h4) hc
      have hl := (h.elem (i := off / es) e3).2
      rw [e4, List.append_assoc] at this
      rw [e4] at hl
      exact ⟨this, hl⟩
    · exact putS_ok h hp hn
  · exact putS_ok h hp hn

def fillA (place : Nat → Option (Nat × Nat)) : List AV → List (Nat × AV) → Option (List AV)
  | segs, [] => some segs
  | segs, (i, x) :: r => match place i, cellsA x with
    | some (off, size), some new => match Nat.beq (sizes new) size with
      | true => match putA segs off size new with
        | some s => fillA place s r
        | none => none
      | false => none
    | _, _ => none

theorem foldl_set (off : Nat) : ∀ (v : List Value) (k : Nat) (cs : Array Value), off + k + v.length ≤ cs.size →
    ((v.zipIdx k).foldl (fun cs (c, j) => cs.setIfInBounds (off + j) c) cs).toList = cs.toList.take (off + k) ++ (v ++ cs.toList.drop (off + k + v.length))
  | [], k, cs, h => by simp
  | x :: v, k, cs, h => by
    simp only [List.zipIdx_cons, List.foldl_cons, List.length_cons] at h ⊢
    rw [foldl_set off v (k + 1) _ (by simp; omega)]
    apply List.ext_getElem?
    intro q
    simp only [List.getElem?_append, List.getElem?_take, List.getElem?_drop, List.length_take, Array.toList_setIfInBounds, List.getElem?_set, List.length_set, Array.length_toList, List.length_cons]
    have e1 : min (off + (k + 1)) cs.size = off + k + 1 := by omega
    have e2 : min (off + k) cs.size = off + k := by omega
    simp only [e1, e2]
    by_cases h1 : q < off + k
    · have a1 : q < off + k + 1 := by omega
      have a2 : q < off + (k + 1) := by omega
      have a3 : off + k ≠ q := by omega
      simp [h1, a1, a2, a3]
    · by_cases h2 : q = off + k
      · subst h2
        have : off + k < cs.size := by omega
        simp [this, Nat.add_assoc]
      · have a1 : ¬ q < off + k + 1 := by omega
        obtain ⟨d, rfl⟩ : ∃ d, q = off + k + 1 + d := ⟨q - (off + k + 1), by omega⟩
        have a2 : ¬ off + k + 1 + d < off + (k + 1) := by omega
        have a3 : off + k + 1 + d - (off + k) = d + 1 := by omega
        have a4 : off + k + 1 + d - (off + k + 1) = d := by omega
        simp only [h1, a1, if_false, a3, a4, List.getElem?_cons_succ, Nat.add_lt_add_iff_right]
        split
        · rfl
        · rw [if_neg (by omega)]
          congr 1
          omega

theorem fillA_ok {place : Nat → Option (Nat × Nat)} : ∀ {parts : List (Nat × AV)} {vparts : List (Nat × Value)} {segs s' : List AV} {cs : List Value}, Vs R ids segs cs →
    parts.map (·.1) = vparts.map (·.1) → Ts R ids (parts.map (·.2)) (vparts.map (·.2)) → fillA place segs parts = some s' →
    ∃ cs', Instr.fill place cs.toArray vparts = some cs' ∧ Vs R ids s' cs'.toList ∧ cs'.size = cs.length
  | [], vparts, segs, s', cs, h, he, ht, hf => by
    cases vparts with
    | cons x r => simp at he
    | nil => simp only [fillA, Option.some.injEq] at hf; subst hf; exact ⟨_, rfl, h, rfl⟩
  | (i, x) :: r, vparts, segs, s', cs, h, he, ht, hf => by
    cases vparts with
    | nil => simp at he
    | cons y vr =>
      obtain ⟨i', v⟩ := y
      simp only [List.map_cons, List.cons.injEq] at he
      obtain ⟨rfl, he⟩ := he
      simp only [List.map_cons] at ht
      cases ht with
      | cons _ _ _ _ hx hr =>
      unfold fillA at hf
      split at hf
      · rename_i off size new hp hc
        split at hf
        · rename_i hb
          have hsz := Nat.eq_of_beq_eq_true hb
          split at hf
          · rename_i s hs
            have hn := cellsA_ok hx hc
            have hl : v.cells.toList.length = size := by rw [hn.length, hsz]
            obtain ⟨g1, g2⟩ := putA_ok h hs hn hl
            have hl' : v.cells.size = size := by simpa using hl
            have e : (v.cells.zipIdx.foldl (fun cs (c, j) => cs.setIfInBounds (off + j) c) cs.toArray).toList = cs.take off ++ (v.cells.toList ++ cs.drop (off + size)) := by
              have := foldl_set off v.cells.toList 0 cs.toArray (by simp; omega)
              rw [← Array.foldl_toList, Array.toList_zipIdx]
              simpa [hl'] using this
            obtain ⟨cs', k1, k2, k3⟩ := fillA_ok g1 he hr hf
            refine ⟨cs', ?_, k2, by rw [k3]; simp; omega⟩
            unfold Instr.fill
            simp only [hp, hl']
            rw [if_neg (by simp; omega)]
            rw [← k1]
            congr 1
            apply Array.ext'
            rw [e]
          · cases hf
        · cases hf
      · cases hf

end Go.Sx
