import Derived.Test.YtkdppdofkkakaaaGreatDoorStand
import Derived.Test.YtkdppdofkkakaaaGreatDoorLinkOps
import Derived.Test.YtkdppdofkkakaaaGreatDoorRefList

namespace Yard
open Go Go.Sx Go.Proofs
set_option linter.unusedVariables false
set_option linter.unusedSimpArgs false
set_option maxRecDepth 4000
set_option maxHeartbeats 4000000

theorem zj3 : ∀ (k : Nat) (ws : List Nat), (octetsN ws).drop (8 * k) = octetsN (ws.drop k)
 | 0, ws => by simp
 | k + 1, [] => by simp [octetsN]
 | k + 1, w :: r => by
   have e : octetsN (w :: r) = layN w 8 ++ octetsN r := by simp [octetsN]
   have e2 : (layN w 8 ++ octetsN r).drop 8 = octetsN r := List.drop_left' (zaD 8 w)
   rw [e, show 8 * (k + 1) = 8 + 8 * k by omega, <- List.drop_drop, e2, zj3 k r]
   rfl
theorem zj2 : ∀ (k : Nat) (ws : List Nat), (octetsN ws).take (8 * k) = octetsN (ws.take k)
 | 0, ws => by simp [octetsN]
 | k + 1, [] => by simp [octetsN]
 | k + 1, w :: r => by
   have e : octetsN (w :: r) = layN w 8 ++ octetsN r := by simp [octetsN]
   have e2 : octetsN ((w :: r).take (k + 1)) = layN w 8 ++ octetsN (r.take k) := by simp [octetsN]
   rw [e, e2, List.take_append, zaD, List.take_of_length_le (by rw [zaD]; omega), show 8 * (k + 1) - 8 = 8 * k by omega, zj2 k r]
theorem qe6 {ws : List Nat} {a : Int} : imgOk (octetsN ws) a ↔ zeU ws a := by
 unfold imgOk zeU linesN
 rw [zbB, show 8 * ws.length / 64 = ws.length / 8 by omega]
theorem zkO (ws : List Nat) (a : Int) : imgL (octetsN ws) a = zaY ws a := by
 unfold imgL zaY
 by_cases h : zeU ws a
 ·rw [if_pos (qe6.2 h), if_pos h, show 64 * a.toNat = 8 * (8 * a.toNat) by omega, zj3, show (64 : Nat) = 8 * 8 from rfl, zj2]; rfl
 ·rw [if_neg (fun k => h (qe6.1 k)), if_neg h]
theorem zzX {ws : List Nat} {a : Int} (h : zaT ws a ≠ 0) : zaY ws a = [] := by
 rw [zaY, if_neg (fun k => h (zc0.2 k))]
theorem zeD (ws : List Nat) (a : Int) (i : Nat) : imgFanF (octetsN ws) a i = fanF ws a i := by unfold imgFanF fanF; rw [zkO]
theorem ziI (ws : List Nat) (a : Int) : zb2 (octetsN ws) a ↔ fanErr ws a = 0 := by
 unfold zb2 fanErr
 rw [zkO]
 by_cases h : a = 0
 ·simp [h]
 ·by_cases h2 : zaT ws a = 0
  ·by_cases h3 : zd0 (zaY ws a) <;> simp [h, h2, h3]
  ·have := zzX h2
   rw [this]; simp [h, h2, ztD]
theorem zz9 (ws : List Nat) (a : Int) (i : Nat) : zbU (octetsN ws) a i = zdZ ws a i := by unfold zbU zdZ; rw [zkO]
theorem zl6 (ws : List Nat) (a : Int) : zcJ (octetsN ws) a ↔ za3 ws a = 0 := by
 unfold zcJ za3
 rw [zkO]
 by_cases h : a = 0
 ·simp [h]
 ·by_cases h2 : zaT ws a = 0
  ·by_cases h3 : zb6 (zaY ws a) <;> simp [h, h2, h3]
  ·have := zzX h2
   rw [this]; simp [h, h2, zpB]
theorem qaB (ws : List Nat) (top : Int) (i j : Nat) : imgF (octetsN ws) top i j = tF ws top i j := by unfold imgF tF; rw [zeD, zeD]
theorem qaA (ws : List Nat) (top : Int) (s : Nat) : zcK (octetsN ws) top s ↔ fanErr ws top = 0/\fanErr ws (fanF ws top (s / 112)) = 0/\za3 ws (tF ws top (s / 112) (s / 7 % 16)) = 0 := by
 unfold zcK; rw [ziI, zeD, ziI, qaB, zl6]



theorem qd9 {img : List Nat} (h : ∀ c ∈ img, c < 256) (h64 : img.length % 64 = 0) (hl : img.length / 64 <= 4096) : octetsN (zbI img) = img := by
 have e : 64 * min (img.length / 64) 4096 = img.length := by omega
 rw [zbI, e, List.take_length, zq3 h, show 8 * (img.length / 8) = img.length by omega, List.take_length]
end Yard
