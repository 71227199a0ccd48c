import Derived.Test.YtlihikockhjodaaGreatDoorAwMath

namespace Yard
open Go Go.Sx Go.Proofs
set_option linter.unusedVariables false
set_option linter.unusedSimpArgs false
set_option maxRecDepth 4000
set_option maxHeartbeats 4000000

theorem NInv.i64 {s:StoreT} {t:TickT} {d:DeskT} {xs:List Int} (h:NInv s t d xs) {c:Int} (hc:c∈xs):I64 c:=by
 have:=h.range hc; exact ⟨by omega,by omega⟩
structure TwOk (p q r:MR) (t:TR):Prop where
 w4:zaG t.s
 t4:zaS t.t
 i1:I64 p.a
 i2:I64 q.a
 i3:I64 r.a
 i4:I64 t.a
 e4:t.e=0
 bad:∀i k:Int,(i=t.a\/i=r.a\/i=0\/i=1000)->(k=t.a\/k=r.a\/k=0\/k=1000)->lkRes t.s t.t i k=⟨t.s,tickZ,0,if i=0\/(k=0/\i≠1000) then 31 else 2⟩
end Yard
