import Derived.Test.YtlihikockhjodaaGreatDoorFRun
import Derived.Test.YtlihikockhjodaaGreatDoorForest5

namespace Yard
open Go Go.Sx Go.Proofs
set_option linter.unusedVariables false
set_option linter.unusedSimpArgs false
set_option maxRecDepth 4000
set_option maxHeartbeats 4000000

theorem FR1.other {sl:Int} {s s0:StoreT} {t t0:TickT} {d d0:DeskT} {r r1:Nat->Int} {G G0 R:List GT} {l l1:List EntT} {i i0:Nat} (h:FR1 sl s t d r G R l i) (k:FR1 sl s0 t0 d0 r1 R G0 l1 i0):FR1 sl s t d r1 R G l1 i :=
 ⟨h.yd.perm List.perm_append_comm,k.roots,k.es,k.cnt,h.slots,h.gens⟩
theorem qfF (r:Nat->Int):∀k,nzK r k=(fKn r k).map (fun x=>x.2)
 | 0=>rfl
 | k+1=>by
   rw [zeF,fKn,List.map_append,qfF r k]
   congr 1
   split <;> rfl
theorem nzL_fK (r:Nat->Int):nzL r=(fK r).map (fun x=>x.2):=qfF r 12
end Yard
