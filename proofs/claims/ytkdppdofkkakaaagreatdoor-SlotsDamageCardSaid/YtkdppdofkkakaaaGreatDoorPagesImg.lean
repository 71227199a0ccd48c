import Derived.Test.YtkdppdofkkakaaaGreatDoorTlMath
import Derived.Test.YtkdppdofkkakaaaGreatDoorPages

namespace Yard
open Go Go.Sx Go.Proofs
set_option linter.unusedVariables false
set_option linter.unusedSimpArgs false
set_option maxRecDepth 4000
set_option maxHeartbeats 4000000

theorem zzI (ws : List Nat) (top : Int) : zdX (octetsN ws) top 16 = zc9 ws top 16 := by
 have hk : ∀ g : Int, zl3 (octetsN ws) g 16 = zdA ws g 16 := fun g => by
  unfold zl3 zdA
  have : ∀ l : List Nat, (l.map (imgFanF (octetsN ws) g)).filter (fun c => decide (c ≠ 0)) = l.flatMap fun j => one0 (fanF ws g j) := fun l => by
   induction l with
   | nil => rfl
   | cons j l ih =>
     rw [List.map_cons, List.flatMap_cons, <- ih, zeD]
     unfold one0
     by_cases e : fanF ws g j = 0
     ·rw [if_pos e, e]; rfl
     ·rw [if_neg e, List.filter_cons_of_pos (by simpa using e)]; rfl
  exact this _
 unfold zdX zc9 fanP kidL
 congr 1
 have : ∀ l : List Nat, (l.flatMap fun i => (if imgFanF (octetsN ws) top i = 0 then [] else [imgFanF (octetsN ws) top i]) ++ zl3 (octetsN ws) (imgFanF (octetsN ws) top i) 16) = l.flatMap fun i => one0 (fanF ws top i) ++ zdA ws (fanF ws top i) 16 := fun l => by
  induction l with
  | nil => rfl
  | cons j l ih => rw [List.flatMap_cons, List.flatMap_cons, ih, hk, zeD]; rfl
 exact this _

end Yard
