import Derived.Test.YtkdppdofkkakaaaGreatDoorTlMath
import Derived.Test.YtkdppdofkkakaaaGreatDoorPagesImg

namespace Yard
open Go Go.Sx Go.Proofs
set_option linter.unusedVariables false
set_option linter.unusedSimpArgs false
set_option maxRecDepth 4000
set_option maxHeartbeats 4000000

theorem zkV (s : StoreT) (a : Int) (b : List Nat) : (zb3 s a b).s.ws.length = s.ws.length := by
 show (writeL s.ws a b).length = _
 unfold writeL
 split
 ·exact zb0 _ _ _
 ·rfl
theorem zpE (s : StoreT) (b : List Nat) : (zbY s b).s.ws.length = s.ws.length := by
 unfold zbY
 split
 ·split
  ·exact zkV _ _ _
  ·rfl
 ·rfl
theorem qcE (s : StoreT) (a : Int) (b : List Nat) : (zfP s a b).s.ws.length = s.ws.length := by
 unfold zfP
 split
 ·split
  ·exact zkV _ _ _
  ·split
   ·exact zpE s b
   ·exact zpE s b
 ·rfl
theorem ztI (s : StoreT) (a : Int) (b : List Nat) (ok : Bool) : (layR s a b ok).s.ws.length = s.ws.length := by
 unfold layR
 split
 ·split
  ·exact zpE s b
  ·exact qcE s a b
 ·rfl
theorem put_len (s : StoreT) (top slot : Int) (x : SeatT) : (putR s top slot x).s.ws.length = s.ws.length := by
 have h1 : (put1 s top slot x).s.ws.length = s.ws.length := ztI _ _ _ _
 have h2 : (put2 s top slot (put1 s top slot x)).s.ws.length = s.ws.length := (ztI _ _ _ _).trans h1
 have h3 : ∀ (r : StoreT) (a : Int), r.ws.length = s.ws.length->(zf1 s.ws top slot r a).s.ws.length = s.ws.length := fun r a h => by
  unfold zf1
  split
  ·exact h
  ·exact (ztI _ _ _ _).trans h
 unfold putR
 split
 ·split
  ·split
   ·split
    ·exact h3 _ _ h1
    ·split
     ·exact h3 _ _ h2
     ·exact h2
   ·exact h1
  ·rfl
 ·rfl
theorem zi3 {f : Nat->Int} : ∀ (n i : Nat), zmZ f n i = 0->∀ k, k < n->f (i + k) = 0
 | 0, _, _, k, hk => absurd hk (Nat.not_lt_zero _)
 | n + 1, i, h, k, hk => by
   rw [zmZ] at h
   by_cases e : f i = 0
   ·rw [if_pos e] at h
    cases k with
    | zero => exact e
    | succ k => have := zi3 n (i + 1) h k (by omega); rwa [show i + 1 + k = i + (k + 1) by omega] at this
   ·rw [if_neg e] at h; exact absurd h e
theorem zzH (ws : List Nat) (top : Int) : (zbD ws top = 0 ↔ zcN (octetsN ws) top)/\(zcN (octetsN ws) top->zbM ws top = zb5 (octetsN ws) top)/\(¬ zcN (octetsN ws) top->zbM ws top = []) := by
 have e : zbD ws top = 0 ↔ zcN (octetsN ws) top := by
  unfold zbD zcN zkI
  rw [ziI]
  refine ⟨fun h => ?_, fun ⟨h1, h2⟩ => ?_⟩
  ·by_cases e : fanErr ws top = 0
   ·rw [if_pos e] at h
    refine ⟨e, fun i hi => ?_⟩
    have := zi3 _ _ h i hi
    rw [Nat.zero_add, zfK] at this
    rw [ziI, zeD]
    by_cases e2 : fanErr ws (fanF ws top i) = 0
    ·rw [if_pos e2, zfB] at this
     refine ⟨e2, fun j hj => ?_⟩
     have := zi3 _ _ this j hj
     rw [Nat.zero_add] at this
     rw [zl6, qaB]; exact this
    ·rw [if_neg e2] at this; exact absurd this e2
   ·rw [if_neg e] at h; exact absurd h e
  ·rw [if_pos h1]
   refine zdR _ _ fun i hi => ?_
   have := h2 i hi
   rw [ziI, zeD] at this
   rw [Nat.zero_add, zfK, if_pos this.1, zfB]
   refine zdR _ _ fun j hj => ?_
   have := this.2 j hj
   rw [zl6, qaB] at this
   rw [Nat.zero_add]; exact this
 exact ⟨e, fun h => by rw [zbM, if_pos (e.2 h), zb5, if_pos h, zzI], fun h => by rw [zbM, if_neg fun k => h (e.1 k)]⟩
theorem ztQ {ws : List Nat} {a : Int} : (fanErr ws a = 0\/fanErr ws a = 31\/fanErr ws a = 2)/\(za3 ws a = 0\/za3 ws a = 31\/za3 ws a = 2) := by
 have h : zaT ws a = 0\/zaT ws a = 2 := by
  unfold zaT mayErr
  split <;> simp
 unfold fanErr za3
 constructor
 ·split
  ·simp
  ·split
   ·split <;> simp
   ·right; right; exact h.resolve_left (by assumption)
 ·split
  ·simp
  ·split
   ·split <;> simp
   ·right; right; exact h.resolve_left (by assumption)
theorem qeB (ws : List Nat) (top : Int) {n : Nat} (hn : n < 1792) : (zaP ws top (n : Int) = 0 ↔ zcK (octetsN ws) top n)/\(zcK (octetsN ws) top n->zfM ws top (n : Int) = zeH (octetsN ws) top n)/\(¬ zcK (octetsN ws) top n->zfM ws top (n : Int) = seatZ)/\(zaP ws top (n : Int) = 0\/zaP ws top (n : Int) = 31\/zaP ws top (n : Int) = 2) := by
 have hp : zbS (n : Int) := ⟨by omega, by omega⟩
 have e0 : placeK (n : Int) 0 = n / 112 := by simp [placeK, hp]; omega
 have e1 : placeK (n : Int) 1 = n / 7 % 16 := by simp [placeK, hp]
 have e2 : placeK (n : Int) 2 = n % 7 := by simp [placeK, hp]
 have b1 : wb1 ws top (n : Int) = fanF ws top (n / 112) := by rw [wb1, e0]
 have b2 : wb2 ws top (n : Int) = tF ws top (n / 112) (n / 7 % 16) := by rw [wb2, b1, e1]; rfl
 have e : zaP ws top (n : Int) = 0 ↔ zcK (octetsN ws) top n := by
  rw [qaA, zaP, if_pos hp, b1, b2]
  by_cases h1 : fanErr ws top = 0
  ·by_cases h2 : fanErr ws (fanF ws top (n / 112)) = 0
   ·rw [if_pos h1, if_pos h2]; exact ⟨fun h => ⟨h1, h2, h⟩, fun h => h.2.2⟩
   ·rw [if_pos h1, if_neg h2]; exact ⟨fun h => absurd h h2, fun h => absurd h.2.1 h2⟩
  ·rw [if_neg h1]; exact ⟨fun h => absurd h h1, fun h => absurd h.1 h1⟩
 refine ⟨e, fun h => ?_, fun h => by rw [zfM, if_neg fun k => h (e.1 k)], ?_⟩
 ·rw [zfM, if_pos (e.2 h), e2, b2, zeH, if_pos ⟨h.1, h.2.1⟩, zz9, qaB]
 ·rw [zaP, if_pos hp]
  split
  ·split
   ·exact ztQ.2
   ·exact ztQ.1
  ·exact ztQ.1

end Yard
