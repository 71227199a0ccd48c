import Derived.Test.YtlihikockhjodaaGreatDoorForStart

namespace Yard
open Go Go.Sx Go.Proofs
set_option linter.unusedVariables false
set_option linter.unusedSimpArgs false
set_option maxRecDepth 4000
set_option maxHeartbeats 4000000

abbrev esA (es:List (List Int)):AV := .ro 2 es.length (fun i=>[.arr 1 2 (fun j=>[i64 ((es.getD i []).getD j 0)])])

theorem es_I {es:List (List Int)} (h:∀e∈es,∀v∈e,I64 v) (i j:Nat):I64 ((es.getD i []).getD j 0):=by
 have:∀v∈es.getD i [],I64 v:=getD_mem (p:=fun e=>∀v∈e,I64 v) h (fun v hv=>by cases hv) i
 exact getD_mem (p:=I64) this I64_0 j
abbrev AcT:Type:=Bool×Bool×Int×Int
def acZ:AcT:=(false,false,0,0)
abbrev actsA (l:List AcT):AV := .ro 4 l.length (fun i=>[.bool (l.getD i acZ).1,.bool (l.getD i acZ).2.1,i64 (l.getD i acZ).2.2.1,i64 (l.getD i acZ).2.2.2])
def AcI (x:AcT):Prop:=I64 x.2.2.1/\I64 x.2.2.2

end Yard
