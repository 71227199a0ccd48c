import Derived.Test.YtkdppdofkkakaaaGreatDoorSlotInv

namespace Yard
open Go Go.Sx Go.Proofs
set_option linter.unusedVariables false
set_option linter.unusedSimpArgs false
set_option maxRecDepth 4000
set_option maxHeartbeats 4000000

def one0 (a : Int) : List Int := if a = 0 then [] else [a]
def zmQ (ws : List Nat) (g : Int) (j : Nat) : List Int := (List.range j).flatMap fun j => one0 (fanF ws g j)
def kidL (ws : List Nat) (g : Int) : List Int := one0 g ++ zmQ ws g 16
def zeC (ws : List Nat) (top : Int) (i : Nat) : List Int := one0 top ++ (List.range i).flatMap fun i => kidL ws (fanF ws top i)
end Yard
