import Derived.Test.YtlihikockhjodaaGreatDoorRefPage
import Derived.Test.YtlihikockhjodaaGreatDoorTreeList

namespace Yard
open Go Go.Sx Go.Proofs
set_option linter.unusedVariables false
set_option linter.unusedSimpArgs false
set_option maxRecDepth 4000
set_option maxHeartbeats 4000000

def qf7 (img : List Nat) (a : Int) : Prop := 0 <= a/\a < ((img.length / 64 : Nat) : Int)
instance (img : List Nat) (a : Int) : Decidable (qf7 img a) := by unfold qf7; infer_instance
def imgL (img : List Nat) (a : Int) : List Nat := if qf7 img a then (img.drop (64 * a.toNat)).take 64 else []
theorem not_fan : ¬ zjB [] := fun k => by have := k.1.1; simp at this
theorem qj0 : ¬ zeE [] := fun k => by have := k.1.1; simp at this
theorem qjZ : ¬ zeK [] := fun k => by have := k.1.1; simp at this

def zgS (img : List Nat) (a : Int) (i : Nat) : Int := if a = 0 then 0 else zdV (imgL img a) i
def zfV (img : List Nat) (a : Int) : Prop := a = 0\/zjB (imgL img a)
instance (img : List Nat) (a : Int) : Decidable (zfV img a) := by unfold zfV; infer_instance
def zsH (img : List Nat) (a : Int) (i : Nat) : SeatT := if a = 0 then seatZ else za3 (imgL img a) i
def ziY (img : List Nat) (a : Int) : Prop := a = 0\/zeE (imgL img a)
instance (img : List Nat) (a : Int) : Decidable (ziY img a) := by unfold ziY; infer_instance
def imgF (img : List Nat) (top : Int) (i j : Nat) : Int := zgS img (zgS img top i) j
def zgR (img : List Nat) (top : Int) (s : Nat) : Prop := zfV img top/\zfV img (zgS img top (s / 112))/\ziY img (imgF img top (s / 112) (s / 7 % 16))
instance (img : List Nat) (top : Int) (s : Nat) : Decidable (zgR img top s) := by unfold zgR; infer_instance
def zsI (img : List Nat) (top : Int) (s : Nat) : SeatT := if zfV img top/\zfV img (zgS img top (s / 112)) then zsH img (imgF img top (s / 112) (s / 7 % 16)) (s % 7) else seatZ
def kidsP (img : List Nat) (a : Int) (k : Nat) : List Int := ((List.range k).map (zgS img a)).filter (fun c => decide (c ≠ 0))
def fanP (img : List Nat) (a : Int) : List Int := (if a = 0 then [] else [a]) ++ kidsP img a 16
def pagesP (img : List Nat) (top : Int) (k : Nat) : List Int := (if top = 0 then [] else [top]) ++ (List.range k).flatMap (fun i => fanP img (zgS img top i))
def zzE (img : List Nat) (top : Int) (k : Nat) : Prop := ∀ i, i < k->zfV img (zgS img top i)/\∀ j, j < 16->ziY img (imgF img top i j)
def zr3 (img : List Nat) (top : Int) : Prop := zfV img top/\zzE img top 16
instance (img : List Nat) (top : Int) : Decidable (zr3 img top) := by unfold zr3 zzE; infer_instance
def pagesI (img : List Nat) (top : Int) : List Int := if zr3 img top then pagesP img top 16 else []

abbrev EB : Type := List EntT × List Int
def zdT (T : Nat->Int->Option EB) (e : EntT) (a : Int) (l : List Int) : Nat->Option EB
 | 0 => some ([e], [a])
 | i + 1 => match zdT T e a l i with
   | none => none
   | some p => match T i (l.getD i 0) with
     | none => none
     | some q => if ahead e (q.1.getD 0 entZ) then some (p.1 ++ q.1, p.2 ++ q.2) else none
def qaG (N : Int->Option NodeT) : Nat->Nat->Int->Option EB
 | 0, _, _ => none
 | f + 1, k, a => match N a with
   | none => none
   | some n => if n.kids.length = k then zdT (qaG N f) n.e a n.kids k else none
def zdC (N : Int->Option NodeT) (k : Nat) (a : Int) : Option EB := qaG N (k + 1) k a
theorem zjX {T T' : Nat->Int->Option EB} {e : EntT} {a : Int} {l : List Int} : ∀ {k : Nat}, (∀ i, i < k->∀ c, T i c = T' i c)->zdT T e a l k = zdT T' e a l k
 | 0, _ => rfl
 | k + 1, h => by
   rw [zdT, zdT, zjX (k := k) fun i hi c => h i (by omega) c, h k (by omega)]
theorem qaF (N : Int->Option NodeT) : ∀ (f k : Nat) (a : Int), k + 1 <= f->qaG N f k a = zdC N k a := fun f => by
 induction f using Nat.strongRecOn with
 | ind f ih =>
   intro k a h
   cases f with
   | zero => omega
   | succ f =>
     rw [zdC, qaG, qaG]
     cases N a with
     | none => rfl
     | some n =>
       simp only
       split
       ·refine zjX fun i hi c => ?_
        rw [ih f (by omega) i c (by omega), ih k (by omega) i c (by omega)]
       ·rfl
theorem zm1 (N : Int->Option NodeT) (k : Nat) (a : Int) : zdC N k a = match N a with
  | none => none
  | some n => if n.kids.length = k then zdT (zdC N) n.e a n.kids k else none := by
 rw [zdC, qaG]
 cases N a with
 | none => rfl
 | some n =>
   simp only
   split
   ·exact zjX fun i hi c => qaF N k i c hi
   ·rfl
theorem zeW {T : Nat->Int->Option EB} {e : EntT} {a : Int} {l : List Int} : ∀ {k : Nat} {p : EB}, zdT T e a l k = some p->(∃ r, p.1 = e :: r)/\∃ r, p.2 = a :: r
 | 0, p, h => by cases h; exact ⟨⟨[], rfl⟩, [], rfl⟩
 | k + 1, p, h => by
   rw [zdT] at h
   cases hk : zdT T e a l k with
   | none => rw [hk] at h; cases h
   | some q =>
     rw [hk] at h
     simp only at h
     cases hT : T k (l.getD k 0) with
     | none => rw [hT] at h; cases h
     | some r =>
       rw [hT] at h
       simp only at h
       split at h
       ·cases h
        obtain ⟨⟨r1, h1⟩, r2, h2⟩ := zeW hk
        exact ⟨⟨r1 ++ r.1, by simp only; rw [h1]; rfl⟩, r2 ++ r.2, by simp only; rw [h2]; rfl⟩
       ·cases h
theorem zdY {N : Int->Option NodeT} {k : Nat} {a : Int} {p : EB} (h : zdC N k a = some p) : ∃ n, N a = some n/\n.kids.length = k/\zdT (zdC N) n.e a n.kids k = some p := by
 rw [zm1] at h
 cases hN : N a with
 | none => rw [hN] at h; cases h
 | some n =>
   rw [hN] at h
   simp only at h
   split at h
   ·exact ⟨n, rfl, by assumption, h⟩
   ·cases h
def imgN (img : List Nat) (a : Int) : Option NodeT := if zeK (imgL img a) then some (zbM (imgL img a)) else none
theorem zu1 {P : EntT->Prop} {T : Nat->Int->Option EB} {e : EntT} {a : Int} {l : List Int} (he : P e) : ∀ {k : Nat} {p : EB}, (∀ i, i < k->∀ c q, T i c = some q->∀ x ∈ q.1, P x)->zdT T e a l k = some p->∀ x ∈ p.1, P x
 | 0, p, _, h => by cases h; intro x hx; rw [List.mem_singleton] at hx; rw [hx]; exact he
 | k + 1, p, hT0, h => by
   rw [zdT] at h
   cases hk : zdT T e a l k with
   | none => rw [hk] at h; cases h
   | some q =>
     rw [hk] at h
     simp only at h
     cases hT : T k (l.getD k 0) with
     | none => rw [hT] at h; cases h
     | some r =>
       rw [hT] at h
       simp only at h
       split at h
       ·cases h
        intro x hx
        rcases List.mem_append.1 hx with hx | hx
        ·exact zu1 he (fun i hi => hT0 i (by omega)) hk x hx
        ·exact hT0 k (by omega) _ _ hT x hx
       ·cases h
theorem imgN_I {img : List Nat} {a : Int} {n : NodeT} (h : imgN img a = some n) : zfJ n/\zb6 n := by
 unfold imgN at h
 split at h
 ·rename_i hn
  cases h
  exact ⟨(zxF _).2 (by have := hn.2.2.1; omega), hn.2.2.2.1⟩
 ·cases h
theorem qc6 {P : EntT->Prop} {N : Int->Option NodeT} (hN : ∀ a n, N a = some n->P n.e) : ∀ (k : Nat) (a : Int) (p : EB), zdC N k a = some p->∀ x ∈ p.1, P x := fun k => by
 induction k using Nat.strongRecOn with
 | ind k ih =>
   intro a p h
   obtain ⟨n, h1, _, h2⟩ := zdY h
   exact zu1 (hN a n h1) (fun i hi c q hq => ih i hi c q hq) h2

def EntsI (l : List EntT) : Prop := (∀ x ∈ l, EntI x)/\l.length <= 1000000
def insAt (x : EntT) (l : List EntT) : Nat->Nat
 | 0 => 0
 | k + 1 => if ahead x (l.getD k entZ) then insAt x l k else k + 1
def insE (l : List EntT) (x : EntT) : List EntT := l.take (insAt x l l.length) ++ x :: l.drop (insAt x l l.length)
def sortE (l : List EntT) : List EntT := l.foldl insE []
theorem EntsI.take {l : List EntT} (h : EntsI l) (n : Nat) : EntsI (l.take n) := ⟨fun x hx => h.1 x (List.mem_of_mem_take hx), by rw [List.length_take]; have := h.2; omega⟩
def slSg (av : AV) : Option Ren := match av with
 | .sl q _ _ _ _ _ _ => some [some 0, some q]
 | _ => some [some 0, none]
end Yard
