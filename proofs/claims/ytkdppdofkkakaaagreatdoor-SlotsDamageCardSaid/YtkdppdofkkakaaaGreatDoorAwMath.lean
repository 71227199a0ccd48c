import Derived.Test.YtkdppdofkkakaaaGreatDoorTreeList
import Derived.Test.YtkdppdofkkakaaaGreatDoorLinkOps

namespace Yard
open Go Go.Sx Go.Proofs
set_option linter.unusedVariables false
set_option linter.unusedSimpArgs false
set_option maxRecDepth 4000
set_option maxHeartbeats 4000000


def frRen (n : Nat) (ts : List Nat) (F : Fr) (_ : AH) : Option Ren := some (qaE n n ++ ts.map fun t => match F.getD t .any with
 | .ptr q _ _ => some q
 | .sl q _ _ _ _ _ _ => some q
 | _ => none)
def awT : TickT := qcG ((30 : Nat) : Int) 9 100
def aw22a : MR := mkRes (zdM 30 0) awT 5 1
def aw22b : MR := mkRes aw22a.s aw22a.t 3 2
def aw22c : TR := lkRes aw22b.s aw22b.t aw22a.a aw22b.a
attribute [irreducible] aw22a aw22b aw22c

structure AwOk : Prop where
 wa : zaE aw22a.s
 ta : qeW aw22a.t
 ia : I64 aw22a.a
 ea : aw22a.e = 0
 wb : zaE aw22b.s
 tb : qeW aw22b.t
 ib : I64 aw22b.a
 hb : aw22b.h = ⟨1, 1⟩
 eb : aw22b.e = 0
 wc : zaE aw22c.s
 tc : qeW aw22c.t
 ic : I64 aw22c.a
 ec : aw22c.e = 0
 list : listE aw22c.s.ws aw22c.a = ([⟨1, 1, 3, 2⟩, ⟨0, 1, 5, 1⟩], 0)
 seat : zsN aw22c.s.ws aw22c.t ⟨1, 1⟩ = 0
 next : (qc1 aw22c.s.ws aw22c.t ⟨1, 1⟩).next = aw22c.a
end Yard
