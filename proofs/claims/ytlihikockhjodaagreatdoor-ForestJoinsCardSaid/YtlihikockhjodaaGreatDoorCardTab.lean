import Derived.Test.YtlihikockhjodaaGreatDoorRows
import Derived.Test.YtlihikockhjodaaGreatDoorTie
import Derived.Test.YtlihikockhjodaaGreatDoorSxY
import Derived.SevenTiedAt
import Derived.ProofKit
import Derived.LaidMore
import Derived.Lib.LaidTab
import Derived.Stop.Joined

namespace Go.Proofs.YtlihikockhjodaaGreatDoor
open Go Go.ChangeShapes Go.WideShapes Go.RowKit Go.Sx
namespace Card
theorem own:ownKnob Tryz.prog.godebug=none:=by kernel_rfl
theorem laidOut:laidOutB Tryz.prog=true:=by kernel_rfl
theorem qiH:Tryz.prog.globalNamed "math/bits.deBruijn64tab" = some 0:=by kernel_rfl
theorem tabType:(Tryz.prog.globals[0]?).map (·.type)=some 314:=by kernel_rfl
theorem qfD:Tryz.prog.cellsOf 314=64:=by kernel_rfl
theorem qgI:Tryz.prog.cellsOf 5=1:=by kernel_rfl
abbrev laid:List (String×DataW Unit):=[("math/bits.deBruijn64tab",Rows.laid_math_bits_deBruijn64tab)]
theorem tabData:(Rows.laid_math_bits_deBruijn64tab:DataW Unit)=Lib.tabData .u8 (tabList.map fun n:Nat=>(n:Int)):=rfl

theorem tab_of {W:World} (h:laidMetH Tryz.prog laid W):hasTab Tryz.prog=true->∃cs T fr,cs.toList=tabCells/\W.heap[0]? = some (.cells cs T fr):=fun _=>by
 have h':laidMet Tryz.prog laid W:=h
 have h2:Lib.TabIs Tryz.prog W "math/bits.deBruijn64tab" .u8 (tabList.map fun n:Nat=>(n:Int)) :=
  Lib.tabIs_of_head qiH tabType Tryz.underlying314 Tryz.underlying5 qgI qfD (rest:=[]) (by rw [<- tabData]; exact h')
 unfold Lib.TabIs World.var? at h2
 rw [qiH] at h2
 simp only [Option.bind_some] at h2
 cases hb:W.heap[0]? with
 | none=>rw [hb] at h2; cases h2
 | some o =>
   rw [hb] at h2
   cases o with
   | cells cs T fr =>
     simp only [Option.some.injEq] at h2
     exact ⟨cs,T,fr,by rw [h2]; simp [tabCells],rfl⟩
   | _=>cases h2

noncomputable def laidWorld (os:Os):World :=
 { World.holding Tryz.prog os ⟨#[],#[],[]⟩ with heap:=(World.holding Tryz.prog os ⟨#[],#[],[]⟩).heap.modify 0 fun
   | .cells _ t frozen => .cells tabCells.toArray t frozen
   | o=>o }
theorem laidWorld_met (os:Os) (args:Array Value):laidMetH Tryz.prog laid ((laidWorld os).forCall (fun _ _=>0) ⟨#[],args,[]⟩).memory :=
 show laidMet Tryz.prog laid _ from laidMet_of_run' 8 (by kernel_rfl) (by kernel_rfl)
end Card
end Go.Proofs.YtlihikockhjodaaGreatDoor
