/-
  NARROWER THAN 'FOR EVERY INPUT', by the rows' own cells (each row's printed sentence says how): TicketOnce: laid · TicketSpent: laid · TicketStack: laid · TicketWrong: laid · TicketActs: laid.
  DERIVED. THE GIVEN ROWS OF THIS SEAT. 5 by the template 'for every input the law returns true; each argument reads behind the call as it read before'; 0 by the template 'total and deterministic' (their statements: YtceockijgbkneaaDoorTotals.lean).
  GIVEN WITH THE SEED: the statements are not yours to turn. If you find one false, say at which input.
  Laid BY PROGRAM, IN A SANDBOX (cutbox-rows.mjs): the forced cells as the released guide's own fill.sh prints them over the translation 5c8d28ca57ed50b6… (all of the seat's roots in one cut). By AI agents, Wed Nov 11 2026. No macro, syntax, notation, axiom, sorry.
-/
import Derived.Test.YtceockijgbkneaaDoorChecked
import GoSem.Claim
import GoSem.ClaimJoined
import GoSem.ClaimMapViews
import Derived.JoinedTies
import Derived.KernelRfl
namespace Go.Proofs.YtceockijgbkneaaDoor
/- THE CELL 'sum', in the pinned program and in every row, IS THE sha256 OF THE DUMP (.gsa) THAT YtceockijgbkneaaDoorProg.lean LOADS. Nothing in Lean hashes anything: it is a label: what it is worth is what the hold of that sum in a sandbox is worth. -/
noncomputable def Tryd.pinned : Pinned := { name := "ytceockijgbkneaadoor", sum := "5c8d28ca57ed50b6556fe17d5e08b21acc09e6207d82dfef1a342ec50ee0a9ba", checked := Tryd.checked }
namespace Rows
def none {H : Type} : Left H := { results := [], args := [] }

/- WHAT THE LISTED PACKAGE-LEVEL VARIABLES READ AS WHEN THE CALL BEGINS. Each datum BY PROGRAM (the guide's laid-datum.mjs) off the statement by which the dump's own 'gosem.cut.vars' lays the variable. In a bare row this is a premise. The card (YtceockijgbkneaaDoorCards.lean) ties it to the program's text. -/
def laid_math_bits_deBruijn64tab {H : Type} : DataW H := .agg [.lit (.int .u8 0), .lit (.int .u8 1), .lit (.int .u8 56), .lit (.int .u8 2), .lit (.int .u8 57), .lit (.int .u8 49), .lit (.int .u8 28), .lit (.int .u8 3), .lit (.int .u8 61), .lit (.int .u8 58), .lit (.int .u8 42), .lit (.int .u8 50), .lit (.int .u8 38), .lit (.int .u8 29), .lit (.int .u8 17), .lit (.int .u8 4), .lit (.int .u8 62), .lit (.int .u8 47), .lit (.int .u8 59), .lit (.int .u8 36), .lit (.int .u8 45), .lit (.int .u8 43), .lit (.int .u8 51), .lit (.int .u8 22), .lit (.int .u8 53), .lit (.int .u8 39), .lit (.int .u8 33), .lit (.int .u8 30), .lit (.int .u8 24), .lit (.int .u8 18), .lit (.int .u8 12), .lit (.int .u8 5), .lit (.int .u8 63), .lit (.int .u8 55), .lit (.int .u8 48), .lit (.int .u8 27), .lit (.int .u8 60), .lit (.int .u8 41), .lit (.int .u8 37), .lit (.int .u8 16), .lit (.int .u8 46), .lit (.int .u8 35), .lit (.int .u8 44), .lit (.int .u8 21), .lit (.int .u8 52), .lit (.int .u8 32), .lit (.int .u8 23), .lit (.int .u8 11), .lit (.int .u8 54), .lit (.int .u8 26), .lit (.int .u8 40), .lit (.int .u8 15), .lit (.int .u8 34), .lit (.int .u8 20), .lit (.int .u8 31), .lit (.int .u8 10), .lit (.int .u8 25), .lit (.int .u8 14), .lit (.int .u8 19), .lit (.int .u8 9), .lit (.int .u8 13), .lit (.int .u8 8), .lit (.int .u8 7), .lit (.int .u8 6)]

/-- 'rickyardlaw21.TicketOnce': WHATEVER THE INPUT: true; the input reads as it did. -/
def ticketOnceSpec : ChangeSpec := { name := "ticketOnce", fn := fun _ => fun
  | [d1, d2, d3] => { results := [.lit (.bool true)], args := [d1, d2, d3] }
  | _ => none }
def ticketOnceRow : OpenClaim := { program := "ytceockijgbkneaadoor", sum := "5c8d28ca57ed50b6556fe17d5e08b21acc09e6207d82dfef1a342ec50ee0a9ba", func := "rickyard/rickyardlaw21.TicketOnce", spec := "ticketOnce", named := ["math/bits.deBruijn64tab"], apart := false, laid := [("math/bits.deBruijn64tab", laid_math_bits_deBruijn64tab)] }
def TicketOnceSaid : Prop := ticketOnceRow.holds Tryd.pinned (OpenSpec.ofChange ticketOnceSpec)

/-- ITS FALSE NEIGHBOUR: 'it returns false'. Refute it at one input. -/
def ticketOnceWrong : ChangeSpec := { name := "ticketOnce", fn := fun _ => fun
  | [d1, d2, d3] => { results := [.lit (.bool false)], args := [d1, d2, d3] }
  | _ => none }
def TicketOnceWrongFalsely : Prop := ticketOnceRow.holds Tryd.pinned (OpenSpec.ofChange ticketOnceWrong)

/-- 'rickyardlaw21.TicketSpent': WHATEVER THE INPUT: true; the input reads as it did. -/
def ticketSpentSpec : ChangeSpec := { name := "ticketSpent", fn := fun _ => fun
  | [d] => { results := [.lit (.bool true)], args := [d] }
  | _ => none }
def ticketSpentRow : OpenClaim := { program := "ytceockijgbkneaadoor", sum := "5c8d28ca57ed50b6556fe17d5e08b21acc09e6207d82dfef1a342ec50ee0a9ba", func := "rickyard/rickyardlaw21.TicketSpent", spec := "ticketSpent", named := ["math/bits.deBruijn64tab"], apart := false, laid := [("math/bits.deBruijn64tab", laid_math_bits_deBruijn64tab)] }
def TicketSpentSaid : Prop := ticketSpentRow.holds Tryd.pinned (OpenSpec.ofChange ticketSpentSpec)

/-- ITS FALSE NEIGHBOUR: 'it returns false'. Refute it at one input. -/
def ticketSpentWrong : ChangeSpec := { name := "ticketSpent", fn := fun _ => fun
  | [d] => { results := [.lit (.bool false)], args := [d] }
  | _ => none }
def TicketSpentWrongFalsely : Prop := ticketSpentRow.holds Tryd.pinned (OpenSpec.ofChange ticketSpentWrong)

/-- 'rickyardlaw21.TicketStack': WHATEVER THE INPUT: true; the input reads as it did. -/
def ticketStackSpec : ChangeSpec := { name := "ticketStack", fn := fun _ => fun
  | [d] => { results := [.lit (.bool true)], args := [d] }
  | _ => none }
def ticketStackRow : OpenClaim := { program := "ytceockijgbkneaadoor", sum := "5c8d28ca57ed50b6556fe17d5e08b21acc09e6207d82dfef1a342ec50ee0a9ba", func := "rickyard/rickyardlaw21.TicketStack", spec := "ticketStack", named := ["math/bits.deBruijn64tab"], apart := false, laid := [("math/bits.deBruijn64tab", laid_math_bits_deBruijn64tab)] }
def TicketStackSaid : Prop := ticketStackRow.holds Tryd.pinned (OpenSpec.ofChange ticketStackSpec)

/-- ITS FALSE NEIGHBOUR: 'it returns false'. Refute it at one input. -/
def ticketStackWrong : ChangeSpec := { name := "ticketStack", fn := fun _ => fun
  | [d] => { results := [.lit (.bool false)], args := [d] }
  | _ => none }
def TicketStackWrongFalsely : Prop := ticketStackRow.holds Tryd.pinned (OpenSpec.ofChange ticketStackWrong)

/-- 'rickyardlaw21.TicketWrong': WHATEVER THE INPUT: true; the input reads as it did. -/
def ticketWrongSpec : ChangeSpec := { name := "ticketWrong", fn := fun _ => fun
  | [d1, d2, d3] => { results := [.lit (.bool true)], args := [d1, d2, d3] }
  | _ => none }
def ticketWrongRow : OpenClaim := { program := "ytceockijgbkneaadoor", sum := "5c8d28ca57ed50b6556fe17d5e08b21acc09e6207d82dfef1a342ec50ee0a9ba", func := "rickyard/rickyardlaw21.TicketWrong", spec := "ticketWrong", named := ["math/bits.deBruijn64tab"], apart := false, laid := [("math/bits.deBruijn64tab", laid_math_bits_deBruijn64tab)] }
def TicketWrongSaid : Prop := ticketWrongRow.holds Tryd.pinned (OpenSpec.ofChange ticketWrongSpec)

/-- ITS FALSE NEIGHBOUR: 'it returns false'. Refute it at one input. -/
def ticketWrongWrong : ChangeSpec := { name := "ticketWrong", fn := fun _ => fun
  | [d1, d2, d3] => { results := [.lit (.bool false)], args := [d1, d2, d3] }
  | _ => none }
def TicketWrongWrongFalsely : Prop := ticketWrongRow.holds Tryd.pinned (OpenSpec.ofChange ticketWrongWrong)

/-- 'rickyardlaw21.TicketActs': WHATEVER THE INPUT: true; the input reads as it did. -/
def ticketActsSpec : ChangeSpec := { name := "ticketActs", fn := fun _ => fun
  | [d1, d2, d3] => { results := [.lit (.bool true)], args := [d1, d2, d3] }
  | _ => none }
def ticketActsRow : OpenClaim := { program := "ytceockijgbkneaadoor", sum := "5c8d28ca57ed50b6556fe17d5e08b21acc09e6207d82dfef1a342ec50ee0a9ba", func := "rickyard/rickyardlaw21.TicketActs", spec := "ticketActs", named := ["math/bits.deBruijn64tab"], apart := false, laid := [("math/bits.deBruijn64tab", laid_math_bits_deBruijn64tab)] }
def TicketActsSaid : Prop := ticketActsRow.holds Tryd.pinned (OpenSpec.ofChange ticketActsSpec)

/-- ITS FALSE NEIGHBOUR: 'it returns false'. Refute it at one input. -/
def ticketActsWrong : ChangeSpec := { name := "ticketActs", fn := fun _ => fun
  | [d1, d2, d3] => { results := [.lit (.bool false)], args := [d1, d2, d3] }
  | _ => none }
def TicketActsWrongFalsely : Prop := ticketActsRow.holds Tryd.pinned (OpenSpec.ofChange ticketActsWrong)

/- THE SECOND FORM. 'bulk': how many values and letters a reading holds, each counted each time it is reached (what is shared counts as often as it is met; a slice's spare places count too). A statement '..UptoSaid' is the law's where the arguments, and the package variables that the reading takes, are together of bulk at most 1048576: NARROWER than '..Said'. Prove '..Said' where nothing that the law and all that it calls make is longer than what came in: it says more and counts as full. Else prove '..UptoSaid'. A law counts once. -/
mutual
def uptoBulk {H : Type} : DataW H → Nat
  | .lit (.string bytes) => bytes.length + 1
  | .lit _ => 1
  | .nil => 1
  | .ptr d => uptoBulk d + 1
  | .slice elems spare => uptoBulkAll elems + uptoBulkAll spare + 1
  | .agg parts => uptoBulkAll parts + 1
  | .iface _ d => uptoBulk d + 1
  | .map entries => uptoBulkEntries entries + 1
  | .held _ => 1
def uptoBulkAll {H : Type} : List (DataW H) → Nat
  | [] => 0
  | d :: r => uptoBulk d + uptoBulkAll r
def uptoBulkEntries {H : Type} : List (Lit × DataW H) → Nat
  | [] => 0
  | x :: r => uptoBulkEntry x + uptoBulkEntries r
def uptoBulkEntry {H : Type} : Lit × DataW H → Nat
  | (.string bytes, d) => bytes.length + uptoBulk d + 1
  | (_, d) => uptoBulk d + 1
 end
def uptoSmall : (H : Type) → List (DataW H) → Bool := fun _ ds => decide (uptoBulkAll ds ≤ 1048576)
def OpenSpec.upto (s : _root_.Go.ChangeSpec) : _root_.Go.OpenSpec := { _root_.Go.OpenSpec.ofChange s with cond := some uptoSmall }

/-- 'rickyardlaw21.TicketOnce', WHERE WHAT IT READS IS OF BULK AT MOST 1048576: true; the input reads as it did. -/
def ticketOnceUptoRow : OpenClaim := { program := "ytceockijgbkneaadoor", sum := "5c8d28ca57ed50b6556fe17d5e08b21acc09e6207d82dfef1a342ec50ee0a9ba", func := "rickyard/rickyardlaw21.TicketOnce", spec := "ticketOnce", named := ["math/bits.deBruijn64tab"], apart := false, laid := [("math/bits.deBruijn64tab", laid_math_bits_deBruijn64tab)], narrowed := true }
def TicketOnceUptoSaid : Prop := ticketOnceUptoRow.holds Tryd.pinned (OpenSpec.upto ticketOnceSpec)

/-- 'rickyardlaw21.TicketSpent', WHERE WHAT IT READS IS OF BULK AT MOST 1048576: true; the input reads as it did. -/
def ticketSpentUptoRow : OpenClaim := { program := "ytceockijgbkneaadoor", sum := "5c8d28ca57ed50b6556fe17d5e08b21acc09e6207d82dfef1a342ec50ee0a9ba", func := "rickyard/rickyardlaw21.TicketSpent", spec := "ticketSpent", named := ["math/bits.deBruijn64tab"], apart := false, laid := [("math/bits.deBruijn64tab", laid_math_bits_deBruijn64tab)], narrowed := true }
def TicketSpentUptoSaid : Prop := ticketSpentUptoRow.holds Tryd.pinned (OpenSpec.upto ticketSpentSpec)

/-- 'rickyardlaw21.TicketStack', WHERE WHAT IT READS IS OF BULK AT MOST 1048576: true; the input reads as it did. -/
def ticketStackUptoRow : OpenClaim := { program := "ytceockijgbkneaadoor", sum := "5c8d28ca57ed50b6556fe17d5e08b21acc09e6207d82dfef1a342ec50ee0a9ba", func := "rickyard/rickyardlaw21.TicketStack", spec := "ticketStack", named := ["math/bits.deBruijn64tab"], apart := false, laid := [("math/bits.deBruijn64tab", laid_math_bits_deBruijn64tab)], narrowed := true }
def TicketStackUptoSaid : Prop := ticketStackUptoRow.holds Tryd.pinned (OpenSpec.upto ticketStackSpec)

/-- 'rickyardlaw21.TicketWrong', WHERE WHAT IT READS IS OF BULK AT MOST 1048576: true; the input reads as it did. -/
def ticketWrongUptoRow : OpenClaim := { program := "ytceockijgbkneaadoor", sum := "5c8d28ca57ed50b6556fe17d5e08b21acc09e6207d82dfef1a342ec50ee0a9ba", func := "rickyard/rickyardlaw21.TicketWrong", spec := "ticketWrong", named := ["math/bits.deBruijn64tab"], apart := false, laid := [("math/bits.deBruijn64tab", laid_math_bits_deBruijn64tab)], narrowed := true }
def TicketWrongUptoSaid : Prop := ticketWrongUptoRow.holds Tryd.pinned (OpenSpec.upto ticketWrongSpec)

/-- 'rickyardlaw21.TicketActs', WHERE WHAT IT READS IS OF BULK AT MOST 1048576: true; the input reads as it did. -/
def ticketActsUptoRow : OpenClaim := { program := "ytceockijgbkneaadoor", sum := "5c8d28ca57ed50b6556fe17d5e08b21acc09e6207d82dfef1a342ec50ee0a9ba", func := "rickyard/rickyardlaw21.TicketActs", spec := "ticketActs", named := ["math/bits.deBruijn64tab"], apart := false, laid := [("math/bits.deBruijn64tab", laid_math_bits_deBruijn64tab)], narrowed := true }
def TicketActsUptoSaid : Prop := ticketActsUptoRow.holds Tryd.pinned (OpenSpec.upto ticketActsSpec)

end Rows
end Go.Proofs.YtceockijgbkneaaDoor
