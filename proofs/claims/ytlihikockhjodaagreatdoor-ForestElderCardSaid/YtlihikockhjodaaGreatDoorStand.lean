import Derived.Test.YtlihikockhjodaaGreatDoorShadow
import Derived.Test.YtlihikockhjodaaGreatDoorRefList
import Derived.Test.YtlihikockhjodaaGreatDoorAwMath

namespace Yard
open Go Go.Sx Go.Proofs
set_option linter.unusedVariables false
set_option linter.unusedSimpArgs false
set_option maxRecDepth 4000
set_option maxHeartbeats 4000000


def qmE (img:List Nat) (top:Int) (k:Nat):Nat:=((List.range k).filter fun i=>(zsV img top i).live).length
def zu5 (s:StoreT) (t:TickT) (es:List EntT) (bs:List Int):Prop:=es.length=bs.length/\(∀i,i<es.length->zcQ s.ws t (entH (es.getD i entZ))=0/\(seatX s.ws t (entH (es.getD i entZ))).next=bs.getD i 0)/\(∀i,i<t.high.toNat->zg6 (zaG s.ws) t.top i)/\qmE (zaG s.ws) t.top t.high.toNat=es.length
instance (s:StoreT) (t:TickT) (es:List EntT) (bs:List Int):Decidable (zu5 s t es bs):=by unfold zu5; infer_instance
end Yard
