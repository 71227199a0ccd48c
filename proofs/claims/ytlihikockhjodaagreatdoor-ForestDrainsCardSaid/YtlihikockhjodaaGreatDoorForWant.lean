import Derived.Test.YtlihikockhjodaaGreatDoorForStart

namespace Yard
open Go Go.Sx Go.Proofs
set_option linter.unusedVariables false
set_option linter.unusedSimpArgs false
set_option maxRecDepth 4000
set_option maxHeartbeats 4000000

abbrev esA (es:List (List Int)):AV := .ro 2 es.length (fun i=>[.arr 1 2 (fun j=>[i64 ((es.getD i []).getD j 0)])])

def wE (es:List (List Int)) (i:Nat):EntT:=⟨(i:Int),1,(es.getD i []).getD 0 0,(es.getD i []).getD 1 0⟩
def wL (es:List (List Int)) (n:Nat):List EntT:=(List.range n).map (wE es)
theorem wL_succ (es:List (List Int)) (n:Nat):wL es (n+1)=wL es n++[wE es n]:=by unfold wL; rw [List.range_succ,List.map_append]; rfl
theorem wL_mem {es:List (List Int)} {n:Nat} {y:EntT}:y∈wL es n ↔ ∃k,k<n/\y=wE es k:=by
 unfold wL
 rw [List.mem_map]
 exact ⟨fun ⟨k,hk,e⟩=>⟨k,List.mem_range.1 hk,e.symm⟩,fun ⟨k,hk,e⟩=>⟨k,List.mem_range.2 hk,e.symm⟩⟩
theorem wE_inj {es:List (List Int)} {i j:Nat} (h:wE es i=wE es j):i=j:=by
 have:=congrArg EntT.slot h
 simp only [wE] at this
 omega
theorem es_I {es:List (List Int)} (h:∀e∈es,∀v∈e,I64 v) (i j:Nat):I64 ((es.getD i []).getD j 0):=by
 have:∀v∈es.getD i [],I64 v:=getD_mem (p:=fun e=>∀v∈e,I64 v) h (fun v hv=>by cases hv) i
 exact getD_mem (p:=I64) this I64_0 j
end Yard
