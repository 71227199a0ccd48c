import Derived.Test.YtlihikockhjodaaGreatDoorForStart

namespace Yard
open Go Go.Sx Go.Proofs
set_option linter.unusedVariables false
set_option linter.unusedSimpArgs false
set_option maxRecDepth 4000
set_option maxHeartbeats 4000000

theorem es_I {es:List (List Int)} (h:∀e∈es,∀v∈e,I64 v) (i j:Nat):I64 ((es.getD i []).getD j 0):=by
 have:∀v∈es.getD i [],I64 v:=getD_mem (p:=fun e=>∀v∈e,I64 v) h (fun v hv=>by cases hv) i
 exact getD_mem (p:=I64) this I64_0 j
end Yard
