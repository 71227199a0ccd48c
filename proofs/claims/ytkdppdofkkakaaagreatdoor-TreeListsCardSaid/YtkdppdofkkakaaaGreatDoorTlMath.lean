import Derived.Test.YtkdppdofkkakaaaGreatDoorStand
import Derived.Test.YtkdppdofkkakaaaGreatDoorLinkOps
import Derived.Test.YtkdppdofkkakaaaGreatDoorRefList

namespace Yard
open Go Go.Sx Go.Proofs
set_option linter.unusedVariables false
set_option linter.unusedSimpArgs false
set_option maxRecDepth 4000
set_option maxHeartbeats 4000000

theorem octetsN_drop : ∀ (k : Nat) (ws : List Nat), (octetsN ws).drop (8 * k) = octetsN (ws.drop k)
  | 0, ws => by simp
  | k + 1, [] => by simp [octetsN]
  | k + 1, w :: r => by
    have e : octetsN (w :: r) = layN w 8 ++ octetsN r := by simp [octetsN]
    have e2 : (layN w 8 ++ octetsN r).drop 8 = octetsN r := List.drop_left' (layN_length 8 w)
    rw [e, show 8 * (k + 1) = 8 + 8 * k by omega, ← List.drop_drop, e2, octetsN_drop k r]
    rfl
theorem octetsN_take : ∀ (k : Nat) (ws : List Nat), (octetsN ws).take (8 * k) = octetsN (ws.take k)
  | 0, ws => by simp [octetsN]
  | k + 1, [] => by simp [octetsN]
  | k + 1, w :: r => by
    have e : octetsN (w :: r) = layN w 8 ++ octetsN r := by simp [octetsN]
    have e2 : octetsN ((w :: r).take (k + 1)) = layN w 8 ++ octetsN (r.take k) := by simp [octetsN]
    rw [e, e2, List.take_append, layN_length, List.take_of_length_le (by rw [layN_length]; omega), show 8 * (k + 1) - 8 = 8 * k by omega, octetsN_take k r]
theorem img_ok {ws : List Nat} {a : Int} : imgOk (octetsN ws) a ↔ inLine ws a := by
  unfold imgOk inLine linesN
  rw [octetsN_length, show 8 * ws.length / 64 = ws.length / 8 by omega]
theorem img_line (ws : List Nat) (a : Int) : imgL (octetsN ws) a = lineL ws a := by
  unfold imgL lineL
  by_cases h : inLine ws a
  · rw [if_pos (img_ok.2 h), if_pos h, show 64 * a.toNat = 8 * (8 * a.toNat) by omega, octetsN_drop, show (64 : Nat) = 8 * 8 from rfl, octetsN_take]; rfl
  · rw [if_neg (fun k => h (img_ok.1 k)), if_neg h]
theorem line_no {ws : List Nat} {a : Int} (h : lineErr ws a ≠ 0) : lineL ws a = [] := by
  rw [lineL, if_neg (fun k => h (lineErr_zero.2 k))]
def ndN (ws : List Nat) (c : Int) : Option NodeT := if readE ws c = 0 then some (readT ws c) else none
theorem img_node (ws : List Nat) (c : Int) : imgN (octetsN ws) c = ndN ws c := by
  unfold imgN ndN
  rw [img_line]
  by_cases h : lineErr ws c = 0
  · by_cases h2 : isNode (lineL ws c)
    · have e := readE_zero.2 ⟨h, h2⟩
      rw [if_pos h2, if_pos e, readT, if_pos e]
    · rw [if_neg h2, if_neg fun k => h2 (readE_zero.1 k).2]
  · rw [line_no h, if_neg not_node, if_neg fun k => h (readE_zero.1 k).1]
end Yard


namespace Yard
open Go Go.Sx Go.Proofs
set_option linter.unusedVariables false
set_option linter.unusedSimpArgs false
set_option maxRecDepth 4000
set_option maxHeartbeats 4000000

end Yard


namespace Yard
open Go Go.Sx Go.Proofs
set_option linter.unusedVariables false
set_option linter.unusedSimpArgs false
set_option maxRecDepth 4000
set_option maxHeartbeats 4000000

theorem from_img {img : List Nat} (h : ∀ c ∈ img, c < 256) (h64 : img.length % 64 = 0) (hl : img.length / 64 ≤ 4096) : octetsN (fromL img) = img := by
  have e : 64 * min (img.length / 64) 4096 = img.length := by omega
  rw [fromL, e, List.take_length, octets_words h, show 8 * (img.length / 8) = img.length by omega, List.take_length]
theorem read_img (ws : List Nat) (a : Int) : (readE ws a = 0 ↔ isNode (imgL (octetsN ws) a)) ∧ readT ws a = getNodeT (imgL (octetsN ws) a) := by
  have k := img_node ws a
  unfold imgN ndN at k
  unfold readT getNodeT
  by_cases h1 : readE ws a = 0
  · by_cases h2 : isNode (imgL (octetsN ws) a)
    · exact ⟨⟨fun _ => h2, fun _ => h1⟩, by rw [if_pos h1, if_pos h2, img_line]⟩
    · rw [if_pos h1, if_neg h2] at k; cases k
  · by_cases h2 : isNode (imgL (octetsN ws) a)
    · rw [if_neg h1, if_pos h2] at k; cases k
    · exact ⟨⟨fun q => absurd q h1, fun q => absurd q h2⟩, by rw [if_neg h1, if_neg h2]⟩
theorem listG_img (ws : List Nat) : ∀ (n : Nat) (out : List EntT) (todo : List Int), (listG ws n out todo).1 = (listH (imgN (octetsN ws)) n out todo).1 ∧ ((listG ws n out todo).2 = 0 ↔ (listH (imgN (octetsN ws)) n out todo).2 = true)
  | 0, out, [] => ⟨rfl, fun _ => rfl, fun _ => rfl⟩
  | n + 1, out, [] => ⟨rfl, fun _ => rfl, fun _ => rfl⟩
  | 0, out, a :: r => ⟨rfl, fun h => (by change (31 : Int) = 0 at h; omega), fun h => Bool.noConfusion (show false = true from h)⟩
  | n + 1, out, a :: r => by
    rw [listG, listH, img_node, ndN]
    by_cases h : readE ws a = 0
    · rw [if_pos h, if_pos h]; exact listG_img ws n _ _
    · rw [if_neg h, if_neg h]; exact ⟨rfl, fun q => absurd q h, fun q => Bool.noConfusion (show false = true from q)⟩
theorem listG_I (ws : List Nat) : ∀ (n : Nat) (out : List EntT) (todo : List Int), (∀ x ∈ out, EntI x) → (∀ x ∈ (listG ws n out todo).1, EntI x) ∧ (listG ws n out todo).1.length ≤ out.length + n
  | 0, out, [], h => ⟨h, Nat.le_refl _⟩
  | n + 1, out, [], h => ⟨h, by simp only [listG]; omega⟩
  | 0, out, a :: r, h => ⟨fun x hx => (by cases hx), Nat.zero_le _⟩
  | n + 1, out, a :: r, h => by
    rw [listG]
    by_cases hz : readE ws a = 0
    · rw [if_pos hz]
      have := listG_I ws n (out ++ [(readT ws a).e]) ((readT ws a).kids ++ r) fun x hx => by
        rcases List.mem_append.1 hx with k | k
        · exact h x k
        · rw [List.mem_singleton.1 k]; exact (readT_I ws a).1
      exact ⟨this.1, by have := this.2; simp only [List.length_append, List.length_cons, List.length_nil] at this; omega⟩
    · rw [if_neg hz]; exact ⟨fun x hx => (by cases hx), Nat.zero_le _⟩
theorem listE_I (ws : List Nat) (a : Int) : EntsI (listE ws a).1 := by
  have := listG_I ws 1792 [] [a] (fun x hx => (by cases hx))
  exact ⟨this.1, by have := this.2; simp only [List.length_nil] at this; unfold listE; omega⟩
theorem flat_succ {l : List (List Nat)} {i : Nat} (h : i < l.length) : (l.take (i + 1)).flatten = (l.take i).flatten ++ l.getD i [] := by
  rw [take_succ_getD [] h, List.flatten_append]; simp

end Yard
