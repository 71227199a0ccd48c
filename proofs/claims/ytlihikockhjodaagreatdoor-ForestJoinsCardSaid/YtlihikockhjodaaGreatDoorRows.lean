/-
  NARROWER THAN 'FOR EVERY INPUT', by the rows' own cells (each row's printed sentence says how): ForestGreat: laid · ForestDrains: laid · ForestJoins: laid · ForestElder: laid · ForestCounts: laid · ForestActs: laid · TrailOrder: laid · TrailElder: laid · TrailForeign: laid · TrailActs: laid · TrailFinds: laid.
  DERIVED. THE GIVEN ROWS OF THIS SEAT. 11 by the template 'for every input the law returns true; each argument reads behind the call as it read before'; 0 by the template 'total and deterministic' (their statements: YtlihikockhjodaaGreatDoorTotals.lean).
  GIVEN WITH THE SEED: the statements are not yours to turn. If you find one false, say at which input.
  Laid BY PROGRAM, IN A SANDBOX (cutbox-rows.mjs): the forced cells as the released guide's own fill.sh prints them over the translation 9d340204ea0db8c5… (all of the seat's roots in one cut). By AI agents, Wed Nov 11 2026. No macro, syntax, notation, axiom, sorry.
-/
import Derived.Test.YtlihikockhjodaaGreatDoorChecked
import GoSem.Claim
import GoSem.ClaimJoined
import GoSem.ClaimMapViews
import Derived.JoinedTies
import Derived.KernelRfl
namespace Go.Proofs.YtlihikockhjodaaGreatDoor
/- THE CELL 'sum', in the pinned program and in every row, IS THE sha256 OF THE DUMP (.gsa) THAT YtlihikockhjodaaGreatDoorProg.lean LOADS. Nothing in Lean hashes anything: it is a label: what it is worth is what the hold of that sum in a sandbox is worth. -/
noncomputable def Tryz.pinned : Pinned := { name := "ytlihikockhjodaagreatdoor", sum := "9d340204ea0db8c58b749044c0958361f85df7b4dd108c9b16c302dd19f59e95", checked := Tryz.checked }
namespace Rows
def none {H : Type} : Left H := { results := [], args := [] }

/- WHAT THE LISTED PACKAGE-LEVEL VARIABLES READ AS WHEN THE CALL BEGINS. Each datum BY PROGRAM (the guide's laid-datum.mjs) off the statement by which the dump's own 'gosem.cut.vars' lays the variable. In a bare row this is a premise. The card (YtlihikockhjodaaGreatDoorCards.lean) ties it to the program's text. -/
def laid_math_bits_deBruijn64tab {H : Type} : DataW H := .agg [.lit (.int .u8 0), .lit (.int .u8 1), .lit (.int .u8 56), .lit (.int .u8 2), .lit (.int .u8 57), .lit (.int .u8 49), .lit (.int .u8 28), .lit (.int .u8 3), .lit (.int .u8 61), .lit (.int .u8 58), .lit (.int .u8 42), .lit (.int .u8 50), .lit (.int .u8 38), .lit (.int .u8 29), .lit (.int .u8 17), .lit (.int .u8 4), .lit (.int .u8 62), .lit (.int .u8 47), .lit (.int .u8 59), .lit (.int .u8 36), .lit (.int .u8 45), .lit (.int .u8 43), .lit (.int .u8 51), .lit (.int .u8 22), .lit (.int .u8 53), .lit (.int .u8 39), .lit (.int .u8 33), .lit (.int .u8 30), .lit (.int .u8 24), .lit (.int .u8 18), .lit (.int .u8 12), .lit (.int .u8 5), .lit (.int .u8 63), .lit (.int .u8 55), .lit (.int .u8 48), .lit (.int .u8 27), .lit (.int .u8 60), .lit (.int .u8 41), .lit (.int .u8 37), .lit (.int .u8 16), .lit (.int .u8 46), .lit (.int .u8 35), .lit (.int .u8 44), .lit (.int .u8 21), .lit (.int .u8 52), .lit (.int .u8 32), .lit (.int .u8 23), .lit (.int .u8 11), .lit (.int .u8 54), .lit (.int .u8 26), .lit (.int .u8 40), .lit (.int .u8 15), .lit (.int .u8 34), .lit (.int .u8 20), .lit (.int .u8 31), .lit (.int .u8 10), .lit (.int .u8 25), .lit (.int .u8 14), .lit (.int .u8 19), .lit (.int .u8 9), .lit (.int .u8 13), .lit (.int .u8 8), .lit (.int .u8 7), .lit (.int .u8 6)]

/-- 'rickyardlaw23.ForestGreat': WHATEVER THE INPUT: true; the input reads as it did. -/
def forestGreatSpec : ChangeSpec := { name := "forestGreat", fn := fun _ => fun
  | [d1, d2] => { results := [.lit (.bool true)], args := [d1, d2] }
  | _ => none }
def forestGreatRow : OpenClaim := { program := "ytlihikockhjodaagreatdoor", sum := "9d340204ea0db8c58b749044c0958361f85df7b4dd108c9b16c302dd19f59e95", func := "rickyard/rickyardlaw23.ForestGreat", spec := "forestGreat", unfollowed := true, recurses := true, named := ["math/bits.deBruijn64tab"], apart := false, laid := [("math/bits.deBruijn64tab", laid_math_bits_deBruijn64tab)] }
def ForestGreatSaid : Prop := forestGreatRow.holds Tryz.pinned (OpenSpec.ofChange forestGreatSpec)

/-- ITS FALSE NEIGHBOUR: 'it returns false'. Refute it at one input. -/
def forestGreatWrong : ChangeSpec := { name := "forestGreat", fn := fun _ => fun
  | [d1, d2] => { results := [.lit (.bool false)], args := [d1, d2] }
  | _ => none }
def ForestGreatWrongFalsely : Prop := forestGreatRow.holds Tryz.pinned (OpenSpec.ofChange forestGreatWrong)

/-- 'rickyardlaw23.ForestDrains': WHATEVER THE INPUT: true; the input reads as it did. -/
def forestDrainsSpec : ChangeSpec := { name := "forestDrains", fn := fun _ => fun
  | [d] => { results := [.lit (.bool true)], args := [d] }
  | _ => none }
def forestDrainsRow : OpenClaim := { program := "ytlihikockhjodaagreatdoor", sum := "9d340204ea0db8c58b749044c0958361f85df7b4dd108c9b16c302dd19f59e95", func := "rickyard/rickyardlaw23.ForestDrains", spec := "forestDrains", unfollowed := true, recurses := true, named := ["math/bits.deBruijn64tab"], apart := false, laid := [("math/bits.deBruijn64tab", laid_math_bits_deBruijn64tab)] }
def ForestDrainsSaid : Prop := forestDrainsRow.holds Tryz.pinned (OpenSpec.ofChange forestDrainsSpec)

/-- ITS FALSE NEIGHBOUR: 'it returns false'. Refute it at one input. -/
def forestDrainsWrong : ChangeSpec := { name := "forestDrains", fn := fun _ => fun
  | [d] => { results := [.lit (.bool false)], args := [d] }
  | _ => none }
def ForestDrainsWrongFalsely : Prop := forestDrainsRow.holds Tryz.pinned (OpenSpec.ofChange forestDrainsWrong)

/-- 'rickyardlaw23.ForestJoins': WHATEVER THE INPUT: true; the input reads as it did. -/
def forestJoinsSpec : ChangeSpec := { name := "forestJoins", fn := fun _ => fun
  | [d1, d2, d3] => { results := [.lit (.bool true)], args := [d1, d2, d3] }
  | _ => none }
def forestJoinsRow : OpenClaim := { program := "ytlihikockhjodaagreatdoor", sum := "9d340204ea0db8c58b749044c0958361f85df7b4dd108c9b16c302dd19f59e95", func := "rickyard/rickyardlaw23.ForestJoins", spec := "forestJoins", unfollowed := true, recurses := true, named := ["math/bits.deBruijn64tab"], apart := false, laid := [("math/bits.deBruijn64tab", laid_math_bits_deBruijn64tab)] }
def ForestJoinsSaid : Prop := forestJoinsRow.holds Tryz.pinned (OpenSpec.ofChange forestJoinsSpec)

/-- ITS FALSE NEIGHBOUR: 'it returns false'. Refute it at one input. -/
def forestJoinsWrong : ChangeSpec := { name := "forestJoins", fn := fun _ => fun
  | [d1, d2, d3] => { results := [.lit (.bool false)], args := [d1, d2, d3] }
  | _ => none }
def ForestJoinsWrongFalsely : Prop := forestJoinsRow.holds Tryz.pinned (OpenSpec.ofChange forestJoinsWrong)

/-- 'rickyardlaw23.ForestElder': WHATEVER THE INPUT: true; the input reads as it did. -/
def forestElderSpec : ChangeSpec := { name := "forestElder", fn := fun _ => fun
  | [d1, d2] => { results := [.lit (.bool true)], args := [d1, d2] }
  | _ => none }
def forestElderRow : OpenClaim := { program := "ytlihikockhjodaagreatdoor", sum := "9d340204ea0db8c58b749044c0958361f85df7b4dd108c9b16c302dd19f59e95", func := "rickyard/rickyardlaw23.ForestElder", spec := "forestElder", unfollowed := true, recurses := true, named := ["math/bits.deBruijn64tab"], apart := false, laid := [("math/bits.deBruijn64tab", laid_math_bits_deBruijn64tab)] }
def ForestElderSaid : Prop := forestElderRow.holds Tryz.pinned (OpenSpec.ofChange forestElderSpec)

/-- ITS FALSE NEIGHBOUR: 'it returns false'. Refute it at one input. -/
def forestElderWrong : ChangeSpec := { name := "forestElder", fn := fun _ => fun
  | [d1, d2] => { results := [.lit (.bool false)], args := [d1, d2] }
  | _ => none }
def ForestElderWrongFalsely : Prop := forestElderRow.holds Tryz.pinned (OpenSpec.ofChange forestElderWrong)

/-- 'rickyardlaw23.ForestCounts': WHATEVER THE INPUT: true; the input reads as it did. -/
def forestCountsSpec : ChangeSpec := { name := "forestCounts", fn := fun _ => fun
  | [d] => { results := [.lit (.bool true)], args := [d] }
  | _ => none }
def forestCountsRow : OpenClaim := { program := "ytlihikockhjodaagreatdoor", sum := "9d340204ea0db8c58b749044c0958361f85df7b4dd108c9b16c302dd19f59e95", func := "rickyard/rickyardlaw23.ForestCounts", spec := "forestCounts", unfollowed := true, recurses := true, named := ["math/bits.deBruijn64tab"], apart := false, laid := [("math/bits.deBruijn64tab", laid_math_bits_deBruijn64tab)] }
def ForestCountsSaid : Prop := forestCountsRow.holds Tryz.pinned (OpenSpec.ofChange forestCountsSpec)

/-- ITS FALSE NEIGHBOUR: 'it returns false'. Refute it at one input. -/
def forestCountsWrong : ChangeSpec := { name := "forestCounts", fn := fun _ => fun
  | [d] => { results := [.lit (.bool false)], args := [d] }
  | _ => none }
def ForestCountsWrongFalsely : Prop := forestCountsRow.holds Tryz.pinned (OpenSpec.ofChange forestCountsWrong)

/-- 'rickyardlaw23.ForestActs': WHATEVER THE INPUT: true; the input reads as it did. -/
def forestActsSpec : ChangeSpec := { name := "forestActs", fn := fun _ => fun
  | [d] => { results := [.lit (.bool true)], args := [d] }
  | _ => none }
def forestActsRow : OpenClaim := { program := "ytlihikockhjodaagreatdoor", sum := "9d340204ea0db8c58b749044c0958361f85df7b4dd108c9b16c302dd19f59e95", func := "rickyard/rickyardlaw23.ForestActs", spec := "forestActs", unfollowed := true, recurses := true, named := ["math/bits.deBruijn64tab"], apart := false, laid := [("math/bits.deBruijn64tab", laid_math_bits_deBruijn64tab)] }
def ForestActsSaid : Prop := forestActsRow.holds Tryz.pinned (OpenSpec.ofChange forestActsSpec)

/-- ITS FALSE NEIGHBOUR: 'it returns false'. Refute it at one input. -/
def forestActsWrong : ChangeSpec := { name := "forestActs", fn := fun _ => fun
  | [d] => { results := [.lit (.bool false)], args := [d] }
  | _ => none }
def ForestActsWrongFalsely : Prop := forestActsRow.holds Tryz.pinned (OpenSpec.ofChange forestActsWrong)

/-- 'rickyardlaw24.TrailOrder': WHATEVER THE INPUT: true; the input reads as it did. -/
def trailOrderSpec : ChangeSpec := { name := "trailOrder", fn := fun _ => fun
  | [d1, d2] => { results := [.lit (.bool true)], args := [d1, d2] }
  | _ => none }
def trailOrderRow : OpenClaim := { program := "ytlihikockhjodaagreatdoor", sum := "9d340204ea0db8c58b749044c0958361f85df7b4dd108c9b16c302dd19f59e95", func := "rickyard/rickyardlaw24.TrailOrder", spec := "trailOrder", unfollowed := true, recurses := true, named := ["math/bits.deBruijn64tab"], apart := false, laid := [("math/bits.deBruijn64tab", laid_math_bits_deBruijn64tab)] }
def TrailOrderSaid : Prop := trailOrderRow.holds Tryz.pinned (OpenSpec.ofChange trailOrderSpec)

/-- ITS FALSE NEIGHBOUR: 'it returns false'. Refute it at one input. -/
def trailOrderWrong : ChangeSpec := { name := "trailOrder", fn := fun _ => fun
  | [d1, d2] => { results := [.lit (.bool false)], args := [d1, d2] }
  | _ => none }
def TrailOrderWrongFalsely : Prop := trailOrderRow.holds Tryz.pinned (OpenSpec.ofChange trailOrderWrong)

/-- 'rickyardlaw24.TrailElder': WHATEVER THE INPUT: true; the input reads as it did. -/
def trailElderSpec : ChangeSpec := { name := "trailElder", fn := fun _ => fun
  | [d1, d2] => { results := [.lit (.bool true)], args := [d1, d2] }
  | _ => none }
def trailElderRow : OpenClaim := { program := "ytlihikockhjodaagreatdoor", sum := "9d340204ea0db8c58b749044c0958361f85df7b4dd108c9b16c302dd19f59e95", func := "rickyard/rickyardlaw24.TrailElder", spec := "trailElder", unfollowed := true, recurses := true, named := ["math/bits.deBruijn64tab"], apart := false, laid := [("math/bits.deBruijn64tab", laid_math_bits_deBruijn64tab)] }
def TrailElderSaid : Prop := trailElderRow.holds Tryz.pinned (OpenSpec.ofChange trailElderSpec)

/-- ITS FALSE NEIGHBOUR: 'it returns false'. Refute it at one input. -/
def trailElderWrong : ChangeSpec := { name := "trailElder", fn := fun _ => fun
  | [d1, d2] => { results := [.lit (.bool false)], args := [d1, d2] }
  | _ => none }
def TrailElderWrongFalsely : Prop := trailElderRow.holds Tryz.pinned (OpenSpec.ofChange trailElderWrong)

/-- 'rickyardlaw24.TrailForeign': WHATEVER THE INPUT: true; the input reads as it did. -/
def trailForeignSpec : ChangeSpec := { name := "trailForeign", fn := fun _ => fun
  | [d1, d2, d3] => { results := [.lit (.bool true)], args := [d1, d2, d3] }
  | _ => none }
def trailForeignRow : OpenClaim := { program := "ytlihikockhjodaagreatdoor", sum := "9d340204ea0db8c58b749044c0958361f85df7b4dd108c9b16c302dd19f59e95", func := "rickyard/rickyardlaw24.TrailForeign", spec := "trailForeign", unfollowed := true, recurses := true, named := ["math/bits.deBruijn64tab"], apart := false, laid := [("math/bits.deBruijn64tab", laid_math_bits_deBruijn64tab)] }
def TrailForeignSaid : Prop := trailForeignRow.holds Tryz.pinned (OpenSpec.ofChange trailForeignSpec)

/-- ITS FALSE NEIGHBOUR: 'it returns false'. Refute it at one input. -/
def trailForeignWrong : ChangeSpec := { name := "trailForeign", fn := fun _ => fun
  | [d1, d2, d3] => { results := [.lit (.bool false)], args := [d1, d2, d3] }
  | _ => none }
def TrailForeignWrongFalsely : Prop := trailForeignRow.holds Tryz.pinned (OpenSpec.ofChange trailForeignWrong)

/-- 'rickyardlaw24.TrailActs': WHATEVER THE INPUT: true; the input reads as it did. -/
def trailActsSpec : ChangeSpec := { name := "trailActs", fn := fun _ => fun
  | [d] => { results := [.lit (.bool true)], args := [d] }
  | _ => none }
def trailActsRow : OpenClaim := { program := "ytlihikockhjodaagreatdoor", sum := "9d340204ea0db8c58b749044c0958361f85df7b4dd108c9b16c302dd19f59e95", func := "rickyard/rickyardlaw24.TrailActs", spec := "trailActs", unfollowed := true, recurses := true, named := ["math/bits.deBruijn64tab"], apart := false, laid := [("math/bits.deBruijn64tab", laid_math_bits_deBruijn64tab)] }
def TrailActsSaid : Prop := trailActsRow.holds Tryz.pinned (OpenSpec.ofChange trailActsSpec)

/-- ITS FALSE NEIGHBOUR: 'it returns false'. Refute it at one input. -/
def trailActsWrong : ChangeSpec := { name := "trailActs", fn := fun _ => fun
  | [d] => { results := [.lit (.bool false)], args := [d] }
  | _ => none }
def TrailActsWrongFalsely : Prop := trailActsRow.holds Tryz.pinned (OpenSpec.ofChange trailActsWrong)

/-- 'rickyardlaw24.TrailFinds': WHATEVER THE INPUT: true; the input reads as it did. -/
def trailFindsSpec : ChangeSpec := { name := "trailFinds", fn := fun _ => fun
  | [d1, d2, d3] => { results := [.lit (.bool true)], args := [d1, d2, d3] }
  | _ => none }
def trailFindsRow : OpenClaim := { program := "ytlihikockhjodaagreatdoor", sum := "9d340204ea0db8c58b749044c0958361f85df7b4dd108c9b16c302dd19f59e95", func := "rickyard/rickyardlaw24.TrailFinds", spec := "trailFinds", unfollowed := true, recurses := true, named := ["math/bits.deBruijn64tab"], apart := false, laid := [("math/bits.deBruijn64tab", laid_math_bits_deBruijn64tab)] }
def TrailFindsSaid : Prop := trailFindsRow.holds Tryz.pinned (OpenSpec.ofChange trailFindsSpec)

/-- ITS FALSE NEIGHBOUR: 'it returns false'. Refute it at one input. -/
def trailFindsWrong : ChangeSpec := { name := "trailFinds", fn := fun _ => fun
  | [d1, d2, d3] => { results := [.lit (.bool false)], args := [d1, d2, d3] }
  | _ => none }
def TrailFindsWrongFalsely : Prop := trailFindsRow.holds Tryz.pinned (OpenSpec.ofChange trailFindsWrong)

/- THE SECOND FORM. 'bulk': how many values and letters a reading holds, each counted each time it is reached (what is shared counts as often as it is met; a slice's spare places count too). A statement '..UptoSaid' is the law's where the arguments, and the package variables that the reading takes, are together of bulk at most 1048576: NARROWER than '..Said'. Prove '..Said' where nothing that the law and all that it calls make is longer than what came in: it says more and counts as full. Else prove '..UptoSaid'. A law counts once. -/
mutual
def uptoBulk {H : Type} : DataW H → Nat
  | .lit (.string bytes) => bytes.length + 1
  | .lit _ => 1
  | .nil => 1
  | .ptr d => uptoBulk d + 1
  | .slice elems spare => uptoBulkAll elems + uptoBulkAll spare + 1
  | .agg parts => uptoBulkAll parts + 1
  | .iface _ d => uptoBulk d + 1
  | .map entries => uptoBulkEntries entries + 1
  | .held _ => 1
def uptoBulkAll {H : Type} : List (DataW H) → Nat
  | [] => 0
  | d :: r => uptoBulk d + uptoBulkAll r
def uptoBulkEntries {H : Type} : List (Lit × DataW H) → Nat
  | [] => 0
  | x :: r => uptoBulkEntry x + uptoBulkEntries r
def uptoBulkEntry {H : Type} : Lit × DataW H → Nat
  | (.string bytes, d) => bytes.length + uptoBulk d + 1
  | (_, d) => uptoBulk d + 1
 end
def uptoSmall : (H : Type) → List (DataW H) → Bool := fun _ ds => decide (uptoBulkAll ds ≤ 1048576)
def OpenSpec.upto (s : _root_.Go.ChangeSpec) : _root_.Go.OpenSpec := { _root_.Go.OpenSpec.ofChange s with cond := some uptoSmall }

/-- 'rickyardlaw23.ForestGreat', WHERE WHAT IT READS IS OF BULK AT MOST 1048576: true; the input reads as it did. -/
def forestGreatUptoRow : OpenClaim := { program := "ytlihikockhjodaagreatdoor", sum := "9d340204ea0db8c58b749044c0958361f85df7b4dd108c9b16c302dd19f59e95", func := "rickyard/rickyardlaw23.ForestGreat", spec := "forestGreat", unfollowed := true, recurses := true, named := ["math/bits.deBruijn64tab"], apart := false, laid := [("math/bits.deBruijn64tab", laid_math_bits_deBruijn64tab)], narrowed := true }
def ForestGreatUptoSaid : Prop := forestGreatUptoRow.holds Tryz.pinned (OpenSpec.upto forestGreatSpec)

/-- 'rickyardlaw23.ForestDrains', WHERE WHAT IT READS IS OF BULK AT MOST 1048576: true; the input reads as it did. -/
def forestDrainsUptoRow : OpenClaim := { program := "ytlihikockhjodaagreatdoor", sum := "9d340204ea0db8c58b749044c0958361f85df7b4dd108c9b16c302dd19f59e95", func := "rickyard/rickyardlaw23.ForestDrains", spec := "forestDrains", unfollowed := true, recurses := true, named := ["math/bits.deBruijn64tab"], apart := false, laid := [("math/bits.deBruijn64tab", laid_math_bits_deBruijn64tab)], narrowed := true }
def ForestDrainsUptoSaid : Prop := forestDrainsUptoRow.holds Tryz.pinned (OpenSpec.upto forestDrainsSpec)

/-- 'rickyardlaw23.ForestJoins', WHERE WHAT IT READS IS OF BULK AT MOST 1048576: true; the input reads as it did. -/
def forestJoinsUptoRow : OpenClaim := { program := "ytlihikockhjodaagreatdoor", sum := "9d340204ea0db8c58b749044c0958361f85df7b4dd108c9b16c302dd19f59e95", func := "rickyard/rickyardlaw23.ForestJoins", spec := "forestJoins", unfollowed := true, recurses := true, named := ["math/bits.deBruijn64tab"], apart := false, laid := [("math/bits.deBruijn64tab", laid_math_bits_deBruijn64tab)], narrowed := true }
def ForestJoinsUptoSaid : Prop := forestJoinsUptoRow.holds Tryz.pinned (OpenSpec.upto forestJoinsSpec)

/-- 'rickyardlaw23.ForestElder', WHERE WHAT IT READS IS OF BULK AT MOST 1048576: true; the input reads as it did. -/
def forestElderUptoRow : OpenClaim := { program := "ytlihikockhjodaagreatdoor", sum := "9d340204ea0db8c58b749044c0958361f85df7b4dd108c9b16c302dd19f59e95", func := "rickyard/rickyardlaw23.ForestElder", spec := "forestElder", unfollowed := true, recurses := true, named := ["math/bits.deBruijn64tab"], apart := false, laid := [("math/bits.deBruijn64tab", laid_math_bits_deBruijn64tab)], narrowed := true }
def ForestElderUptoSaid : Prop := forestElderUptoRow.holds Tryz.pinned (OpenSpec.upto forestElderSpec)

/-- 'rickyardlaw23.ForestCounts', WHERE WHAT IT READS IS OF BULK AT MOST 1048576: true; the input reads as it did. -/
def forestCountsUptoRow : OpenClaim := { program := "ytlihikockhjodaagreatdoor", sum := "9d340204ea0db8c58b749044c0958361f85df7b4dd108c9b16c302dd19f59e95", func := "rickyard/rickyardlaw23.ForestCounts", spec := "forestCounts", unfollowed := true, recurses := true, named := ["math/bits.deBruijn64tab"], apart := false, laid := [("math/bits.deBruijn64tab", laid_math_bits_deBruijn64tab)], narrowed := true }
def ForestCountsUptoSaid : Prop := forestCountsUptoRow.holds Tryz.pinned (OpenSpec.upto forestCountsSpec)

/-- 'rickyardlaw23.ForestActs', WHERE WHAT IT READS IS OF BULK AT MOST 1048576: true; the input reads as it did. -/
def forestActsUptoRow : OpenClaim := { program := "ytlihikockhjodaagreatdoor", sum := "9d340204ea0db8c58b749044c0958361f85df7b4dd108c9b16c302dd19f59e95", func := "rickyard/rickyardlaw23.ForestActs", spec := "forestActs", unfollowed := true, recurses := true, named := ["math/bits.deBruijn64tab"], apart := false, laid := [("math/bits.deBruijn64tab", laid_math_bits_deBruijn64tab)], narrowed := true }
def ForestActsUptoSaid : Prop := forestActsUptoRow.holds Tryz.pinned (OpenSpec.upto forestActsSpec)

/-- 'rickyardlaw24.TrailOrder', WHERE WHAT IT READS IS OF BULK AT MOST 1048576: true; the input reads as it did. -/
def trailOrderUptoRow : OpenClaim := { program := "ytlihikockhjodaagreatdoor", sum := "9d340204ea0db8c58b749044c0958361f85df7b4dd108c9b16c302dd19f59e95", func := "rickyard/rickyardlaw24.TrailOrder", spec := "trailOrder", unfollowed := true, recurses := true, named := ["math/bits.deBruijn64tab"], apart := false, laid := [("math/bits.deBruijn64tab", laid_math_bits_deBruijn64tab)], narrowed := true }
def TrailOrderUptoSaid : Prop := trailOrderUptoRow.holds Tryz.pinned (OpenSpec.upto trailOrderSpec)

/-- 'rickyardlaw24.TrailElder', WHERE WHAT IT READS IS OF BULK AT MOST 1048576: true; the input reads as it did. -/
def trailElderUptoRow : OpenClaim := { program := "ytlihikockhjodaagreatdoor", sum := "9d340204ea0db8c58b749044c0958361f85df7b4dd108c9b16c302dd19f59e95", func := "rickyard/rickyardlaw24.TrailElder", spec := "trailElder", unfollowed := true, recurses := true, named := ["math/bits.deBruijn64tab"], apart := false, laid := [("math/bits.deBruijn64tab", laid_math_bits_deBruijn64tab)], narrowed := true }
def TrailElderUptoSaid : Prop := trailElderUptoRow.holds Tryz.pinned (OpenSpec.upto trailElderSpec)

/-- 'rickyardlaw24.TrailForeign', WHERE WHAT IT READS IS OF BULK AT MOST 1048576: true; the input reads as it did. -/
def trailForeignUptoRow : OpenClaim := { program := "ytlihikockhjodaagreatdoor", sum := "9d340204ea0db8c58b749044c0958361f85df7b4dd108c9b16c302dd19f59e95", func := "rickyard/rickyardlaw24.TrailForeign", spec := "trailForeign", unfollowed := true, recurses := true, named := ["math/bits.deBruijn64tab"], apart := false, laid := [("math/bits.deBruijn64tab", laid_math_bits_deBruijn64tab)], narrowed := true }
def TrailForeignUptoSaid : Prop := trailForeignUptoRow.holds Tryz.pinned (OpenSpec.upto trailForeignSpec)

/-- 'rickyardlaw24.TrailActs', WHERE WHAT IT READS IS OF BULK AT MOST 1048576: true; the input reads as it did. -/
def trailActsUptoRow : OpenClaim := { program := "ytlihikockhjodaagreatdoor", sum := "9d340204ea0db8c58b749044c0958361f85df7b4dd108c9b16c302dd19f59e95", func := "rickyard/rickyardlaw24.TrailActs", spec := "trailActs", unfollowed := true, recurses := true, named := ["math/bits.deBruijn64tab"], apart := false, laid := [("math/bits.deBruijn64tab", laid_math_bits_deBruijn64tab)], narrowed := true }
def TrailActsUptoSaid : Prop := trailActsUptoRow.holds Tryz.pinned (OpenSpec.upto trailActsSpec)

/-- 'rickyardlaw24.TrailFinds', WHERE WHAT IT READS IS OF BULK AT MOST 1048576: true; the input reads as it did. -/
def trailFindsUptoRow : OpenClaim := { program := "ytlihikockhjodaagreatdoor", sum := "9d340204ea0db8c58b749044c0958361f85df7b4dd108c9b16c302dd19f59e95", func := "rickyard/rickyardlaw24.TrailFinds", spec := "trailFinds", unfollowed := true, recurses := true, named := ["math/bits.deBruijn64tab"], apart := false, laid := [("math/bits.deBruijn64tab", laid_math_bits_deBruijn64tab)], narrowed := true }
def TrailFindsUptoSaid : Prop := trailFindsUptoRow.holds Tryz.pinned (OpenSpec.upto trailFindsSpec)

end Rows
end Go.Proofs.YtlihikockhjodaaGreatDoor
