import Derived.Test.YtkdppdofkkakaaaGreatDoorSxL

namespace Go.Sx
variable {W W' : Base} {D D' : Nat->Prop} {R R' : Nat->Option Obj} {ids ids' own own' : Nat->Option Nat} {P : Program} {tb : TB} {sp : SP} {w w' : World} {H H' : AH}

theorem Sat.move {ok : Nat->Bool} {S S' : Nat->Prop} {p : Nat} {it : Item} (h : Sat R ids S w p it) (hS : ∀ b, S b ↔ S' b) (hw : ∀ b, S b->w'.heap[b]? = w.heap[b]?) (hp : ids' p = ids p)
  (hi : ∀ q, ok q = true->∀ b, ids q = some b->ids' q = some b) (hr : ∀ b o, R b = some o->R' b = some o) : Sat R' ids' S' w' p (scrubJ ok it) := by
 obtain rfl : S = S' := funext fun b => propext (hS b)
 cases it with
 | cells T l =>
   obtain ⟨b, cs, h1, h2, h3, h4⟩ := h
   exact ⟨b, cs, hp.trans h1, h2, (hw b h2).trans h3, (h4.scrubC hi).into (fun _ _ e => e) hr⟩
 | row T es cap n f =>
   rcases h with ⟨h1, h2, h3⟩ | ⟨b, cur, h1, h2, h3, h4, h5, h6, h7⟩
   ·exact .inl ⟨hp.trans h1, h2, h3⟩
   ·exact .inr ⟨b, cur, hp.trans h1, h2, (hw b h2).trans h3, h4, h5, h6, (Vs.keep (ok := ok) (n := 0) hi h7 (by simp [okA])).into (fun _ _ e => e) hr⟩
 | view es n f =>
   obtain ⟨b, cur, T, fr, h1, h2, h3, h4, h5⟩ := h
   exact ⟨b, cur, T, fr, hp.trans h1, h2, (hw b h2).trans h3, h4, (Vs.keep (ok := ok) (n := 0) hi h5 (by simp [okA])).into (fun _ _ e => e) hr⟩
 | obj A =>
   obtain ⟨b, h1, h2, h3⟩ := h
   exact ⟨b, hp.trans h1, h2, A.here b S w w' hw h3⟩
 | gone => trivial
 | junk => trivial
 | fence => trivial

def zcU : List Bool->AH->AH
 | true :: m, it :: H => (match it.isFence with | true => it | false => .gone) :: zcU m H
 | false :: m, it :: H => it :: zcU m H
 | _, H => H

def za7 (ok : Nat->Bool) : List Bool->AH->AH->AH
 | true :: m, it :: H, x :: H' => (match it.isFence with | true => x | false => scrubJ ok it) :: za7 ok m H H'
 | false :: m, _ :: H, x :: H' => x :: za7 ok m H H'
 | _, _, H' => H'

def zdI : List Bool->AH->AH
 | true :: m, it :: H => (match it.isFence with | true => .gone | false => it) :: zdI m H
 | false :: m, _ :: H => .gone :: zdI m H
 | _, _ :: H => .gone :: zdI [] H
 | _, [] => []

def zcV (m : List Bool) (H : AH) (q : Nat) : Bool := match m[q]?, H[q]? with
 | some true, some it => !it.isFence
 | _, _ => false

theorem zdS {x : Bool} {m : List Bool} {y : Item} {H : AH} {q : Nat} : zcV (x :: m) (y :: H) (q + 1) = zcV m H q := by simp [zcV]

theorem zdY : ∀ (m : List Bool) (H : AH) (q : Nat), (zcU m H)[q]? = if zcV m H q = true then some .gone else H[q]?
 | [], H, q => by simp [zcU, zcV]
 | true :: m, [], q => by simp [zcU, zcV]
 | false :: m, [], q => by simp [zcU, zcV]
 | true :: m, it :: H, 0 => by cases e : it.isFence <;> simp [zcU, zcV, e]
 | false :: m, it :: H, 0 => by simp [zcU, zcV]
 | true :: m, it :: H, q + 1 => by
   rw [zcU, List.getElem?_cons_succ, List.getElem?_cons_succ, zdS]; exact zdY m H q
 | false :: m, it :: H, q + 1 => by
   rw [zcU, List.getElem?_cons_succ, List.getElem?_cons_succ, zdS]; exact zdY m H q

theorem zeA : ∀ (m : List Bool) (H : AH), (zcU m H).length = H.length
 | [], H => by simp [zcU]
 | true :: m, [] => by simp [zcU]
 | false :: m, [] => by simp [zcU]
 | true :: m, it :: H => by simp [zcU, zeA m H]
 | false :: m, it :: H => by simp [zcU, zeA m H]

theorem zf0 (ok : Nat->Bool) : ∀ (m : List Bool) (H H' : AH) (q : Nat), (za7 ok m H H')[q]? = if zcV m H q = true then (match H'[q]?, H[q]? with | some _, some it => some (scrubJ ok it) | _, _ => none) else H'[q]?
 | [], H, H', q => by simp [za7, zcV]
 | true :: m, [], H', q => by simp [za7, zcV]
 | false :: m, [], H', q => by simp [za7, zcV]
 | true :: m, it :: H, [], q => by simp [za7]
 | false :: m, it :: H, [], q => by simp [za7]
 | true :: m, it :: H, x :: H', 0 => by cases e : it.isFence <;> simp [za7, zcV, e]
 | false :: m, it :: H, x :: H', 0 => by simp [za7, zcV]
 | true :: m, it :: H, x :: H', q + 1 => by
   rw [za7, List.getElem?_cons_succ, List.getElem?_cons_succ, List.getElem?_cons_succ, zdS]; exact zf0 ok m H H' q
 | false :: m, it :: H, x :: H', q + 1 => by
   rw [za7, List.getElem?_cons_succ, List.getElem?_cons_succ, List.getElem?_cons_succ, zdS]; exact zf0 ok m H H' q

theorem zcY (ok : Nat->Bool) : ∀ (m : List Bool) (H H' : AH), (za7 ok m H H').length = H'.length
 | [], H, H' => by simp [za7]
 | true :: m, [], H' => by simp [za7]
 | false :: m, [], H' => by simp [za7]
 | true :: m, it :: H, [] => by simp [za7]
 | false :: m, it :: H, [] => by simp [za7]
 | true :: m, it :: H, x :: H' => by simp [za7, zcY ok m H H']
 | false :: m, it :: H, x :: H' => by simp [za7, zcY ok m H H']

theorem onlyL_get : ∀ (m : List Bool) (H : AH) (q : Nat) (it : Item), (zdI m H)[q]? = some it->it = .gone\/(zcV m H q = true/\H[q]? = some it)
 | [], [], q, it => by simp [zdI]
 | true :: m, [], q, it => by simp [zdI]
 | false :: m, [], q, it => by simp [zdI]
 | [], x :: H, 0, it => by simp only [zdI, List.getElem?_cons_zero, Option.some.injEq]; intro h; exact .inl h.symm
 | [], x :: H, q + 1, it => fun h => by
   have := onlyL_get [] H q it (by simpa [zdI] using h)
   rcases this with h | ⟨h, _⟩
   ·exact .inl h
   ·simp [zcV] at h
 | true :: m, x :: H, 0, it => by
   cases e : x.isFence <;> simp [zdI, zcV, e]
   ·exact .inr
   ·exact fun h => h.symm
 | false :: m, x :: H, 0, it => by simp only [zdI, List.getElem?_cons_zero, Option.some.injEq]; intro h; exact .inl h.symm
 | true :: m, x :: H, q + 1, it => fun h => by
   rw [List.getElem?_cons_succ, zdS]
   exact onlyL_get m H q it (by simpa [zdI] using h)
 | false :: m, x :: H, q + 1, it => fun h => by
   rw [List.getElem?_cons_succ, zdS]
   exact onlyL_get m H q it (by simpa [zdI] using h)

def Item.goneB : Option Item->Bool
 | some .gone => true
 | _ => false
theorem Item.goneB_eq {x : Option Item} (h : Item.goneB x = true) : x = some .gone := by
 unfold Item.goneB at h; split at h
 ·rfl
 ·cases h

def zhN (W : Base) (R : Nat->Option Obj) (ids : Nat->Option Nat) (Hm : AH) (w : World) : Base :=
 { w with R := R, pins := fun q => if Item.goneB Hm[q]? = true then some (ids q) else none, nst := W.nst, ids0 := W.ids0 }
def zm1 (own : Nat->Option Nat) (m : List Bool) (H : AH) : Nat->Prop := fun b => ∃ p, own b = some p/\zcV m H p = false
def zzO (own : Nat->Option Nat) (m : List Bool) (H : AH) : Nat->Option Nat := fun b => match own b with
 | some p => if zcV m H p = true then none else some p
 | none => none
def restO (own own' : Nat->Option Nat) (m : List Bool) (H : AH) : Nat->Option Nat := fun b => match own b with
 | some p => if zcV m H p = true then some p else zzO own' m H b
 | none => zzO own' m H b

theorem zgU {m : List Bool} {b p : Nat} : zzO own m H b = some p ↔ own b = some p/\zcV m H p = false := by
 unfold zzO
 cases h : own b with
 | none => simp
 | some q =>
   by_cases hq : zcV m H q = true
   ·simp only [if_pos hq]
    constructor
    ·intro h; cases h
    ·rintro ⟨e, h2⟩; cases e; rw [hq] at h2; cases h2
   ·simp only [if_neg hq, Option.some.injEq]
    constructor
    ·rintro rfl; exact ⟨rfl, by simpa using hq⟩
    ·exact fun h => h.1

theorem Rep.mask (hR : Rep W D R ids own H w) (m : List Bool) : Rep (zhN W R ids (zcU m H) w) (zm1 own m H) R ids (zzO own m H) (zcU m H) w := by
 refine ⟨rfl, rfl, rfl, Nat.le_refl _, fun b p hb => ?_, fun _ _ _ => rfl, hR.ro, fun p it hp => ?_, fun p hp => hR.blind p (by rwa [zeA] at hp), fun _ _ h => h, fun _ _ h => h, fun p o hp => ?_, fun h => ?_⟩
 ·obtain ⟨h1, h2⟩ := zgU.1 hb
  obtain ⟨g1, g2, g3, _⟩ := hR.owns b p h1
  exact ⟨g1, by rwa [zeA], g3, .inl ⟨p, h1, h2⟩⟩
 ·rw [zdY] at hp
  split at hp
  ·cases hp; trivial
  ·rename_i hh
   refine (hR.items p it hp).mono (fun b => ?_) (fun _ _ => rfl) rfl (fun _ _ e => e) (fun _ _ e => e)
   rw [zgU]
   exact ⟨fun h => ⟨h, by simpa using hh⟩, fun h => h.1⟩
 ·simp only [zhN] at hp
  split at hp
  ·rename_i hg; cases hp; exact ⟨rfl, Item.goneB_eq hg⟩
  ·cases hp
 ·simp only [zhN] at h
  rw [zdY] at h
  split at h
  ·cases h
  ·exact hR.stay h

def okM (m : List Bool) (H : AH) : Nat->Bool := fun q => Item.goneB (zcU m H)[q]?

theorem Rep.rest (hR : Rep W D R ids own H w) {m : List Bool} (h : Rep (zhN W R ids (zcU m H) w) (zm1 own m H) R' ids' own' H' w') :
  Rep W D R' ids' (restO own own' m H) (za7 (okM m H) m H H') w' := by
 have hpin : ∀ q, Item.goneB (zcU m H)[q]? = true->ids' q = ids q/\H'[q]? = some .gone := fun q hq => h.pins q (ids q) (by simp [zhN, hq])
 have hheld : ∀ q, zcV m H q = true->Item.goneB (zcU m H)[q]? = true := fun q hq => by rw [zdY, if_pos hq]; rfl
 have hkeep : ∀ b p, own b = some p->zcV m H p = true->w'.heap[b]? = w.heap[b]? := fun b p hb hp =>
  h.keep b (hR.owns b p hb).1 (fun ⟨q, hq, hq'⟩ => by rw [hb] at hq; cases hq; rw [hp] at hq'; cases hq')
 have hfresh : ∀ b q, own' b = some q->∀ p, own b = some p->zcV m H p = true->False := fun b q hb p hp hh => by
  rcases (h.owns b q hb).2.2.2 with ⟨p', e, h2⟩ | h2
  ·rw [hp] at e; cases e; rw [hh] at h2; cases h2
  ·have := (hR.owns b p hp).1
   simp only [zhN] at h2
   omega
 have hrest : ∀ b p, restO own own' m H b = some p ↔ (own b = some p/\zcV m H p = true)\/(own' b = some p/\zcV m H p = false) := fun b p => by
  unfold restO
  cases hb : own b with
  | none => simp [zgU]
  | some q =>
    by_cases hq : zcV m H q = true
    ·simp only [if_pos hq, Option.some.injEq]
     constructor
     ·rintro rfl; exact .inl ⟨rfl, hq⟩
     ·rintro (⟨e, _⟩ | ⟨e, _⟩)
      ·exact e
      ·exact (hfresh b p e q hb hq).elim
    ·simp only [if_neg hq, zgU]
     constructor
     ·exact .inr
     ·rintro (⟨e, h2⟩ | h2)
      ·cases e; exact absurd h2 hq
      ·exact h2
 refine ⟨h.os.trans hR.os, h.tape.trans hR.tape, h.output.trans hR.output, Nat.le_trans hR.size h.size, fun b p hb => ?_, fun b hb hd => ?_, h.ro, fun p it hp => ?_,
  fun p hp => h.blind p (by rwa [zcY] at hp), fun b o hb => h.low b o (hR.low b o hb), fun b o hb => ?_, fun p o hp => ?_, fun hf => ?_⟩
 ·rw [zcY]
  rcases (hrest b p).1 hb with ⟨h1, h2⟩ | ⟨h1, h2⟩
  ·obtain ⟨g1, g2, g3, g4⟩ := hR.owns b p h1
   refine ⟨Nat.lt_of_lt_of_le g1 h.size, zaS (hpin p (hheld p h2)).2, ?_, g4⟩
   cases hx : R' b with
   | none => rfl
   | some o =>
     have k := h.high b o hx
     simp only [zhN] at k; rw [g3] at k; cases k
  ·obtain ⟨g1, g2, g3, g4⟩ := h.owns b p h1
   refine ⟨g1, g2, g3, ?_⟩
   rcases g4 with ⟨q, k1, _⟩ | g4
   ·exact (hR.owns b q k1).2.2.2
   ·exact .inr (Nat.le_trans hR.size g4)
 ·rw [h.keep b (Nat.lt_of_lt_of_le hb hR.size) (fun ⟨q, k1, _⟩ => ?_)]
  ·exact hR.keep b hb hd
  ·rcases (hR.owns b q k1).2.2.2 with k | k
   ·exact hd k
   ·omega
 ·rw [zf0] at hp
  split at hp
  ·rename_i hh
   split at hp
   ·rename_i x it0 hx hit
    cases hp
    refine (hR.items p it0 hit).move (fun b => ?_) (fun b hb => hkeep b p hb hh) (hpin p (hheld p hh)).1 (fun q hq b hb => (hpin q hq).1.trans hb) h.low
    rw [hrest]
    exact ⟨fun k => .inl ⟨k, hh⟩, fun k => by rcases k with k | k; exact k.1; rw [hh] at k; cases k.2⟩
   ·cases hp
  ·rename_i hh
   refine (h.items p it hp).mono (fun b => ?_) (fun _ _ => rfl) rfl (fun _ _ e => e) (fun _ _ e => e)
   rw [hrest]
   exact ⟨fun k => .inr ⟨k, by simpa using hh⟩, fun k => by rcases k with k | k; exact absurd k.2 hh; exact k.1⟩
 ·exact hR.high b o (h.high b o hb)
 ·obtain ⟨k1, k2⟩ := hR.pins p o hp
  have hg : Item.goneB (zcU m H)[p]? = true := by
   rw [zdY]
   split
   ·rfl
   ·rw [k2]; rfl
  refine ⟨(hpin p hg).1.trans k1, ?_⟩
  rw [zf0]
  split
  ·rw [(hpin p hg).2, k2]; rfl
  ·exact (hpin p hg).2
 ·rw [zf0] at hf
  split at hf
  ·split at hf
   ·rename_i hh _ _ x it0 hx hit
    simp only [zcV] at hh
    split at hh
    ·rename_i it1 _ h1
     rw [hit] at h1; cases h1
     cases it0 <;> simp [scrubJ, Item.isFence] at hf hh
    ·cases hh
   ·cases hf
  ·exact h.stay hf

theorem Rep.only (hR : Rep W D R ids own H w) (m : List Bool) : View R ids own (zdI m H) w :=
 ⟨hR.ro, fun p it hp => by
  rcases onlyL_get m H p it hp with rfl | ⟨_, h⟩
  ·trivial
  ·exact hR.items p it h⟩

theorem Rep.agr (hR : Rep W D R ids own H w) {m : List Bool} {w2 : World} (h : ∀ b, b < w.heap.size->¬ zm1 own m H b->w2.heap[b]? = w.heap[b]?) : Agr R own (zdI m H) w w2 := by
 refine ⟨fun b o hb => ?_, fun b p it hb hp hg => ?_⟩
 ·have hw := hR.ro b o hb
  rw [h b (lt_of_some' hw) (fun ⟨q, k, _⟩ => by have := (hR.owns b q k).2.2.1; rw [hb] at this; cases this)]
  exact hw
 ·rcases onlyL_get m H p it hp with rfl | ⟨k, _⟩
  ·cases hg
  ·exact h b (hR.owns b p hb).1 (fun ⟨q, k1, k2⟩ => by rw [hb] at k1; cases k1; rw [k] at k2; cases k2)
where lt_of_some' {a : Array Obj} {i : Nat} {x : Obj} (h : a[i]? = some x) : i < a.size := (Array.getElem?_eq_some_iff.1 h).1

end Go.Sx
