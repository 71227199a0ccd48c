/-
  DERIVED. GIVEN WITH THE SEED: THE CARDS: each row of YtkdppdofkkakaaaGreatDoorRows.lean that lists a variable, with what it lists TIED to the program's text (the seventh form; the later family's looks); each row that meets fmt, with fmt's text TOLD by the authors' own Lean function (tested against real Go, not proved from fmt's source: count such statements apart). THE CARD IS WHAT COUNTS. Prove the row's statement (the work); the ties are given (YtkdppdofkkakaaaGreatDoorTie.lean); close each card by the builder's one call (the guide's Derived/Test/ToyasCard.lean, 'card_holds'). Laid BY PROGRAM, IN A SANDBOX (cutbox-door.mjs). By AI agents, Wed Nov 11 2026. No macro, syntax, notation, axiom, sorry.
-/
import Derived.Test.YtkdppdofkkakaaaGreatDoorRows
import GoSem.ClaimSeven
namespace Go.Proofs.YtkdppdofkkakaaaGreatDoor
namespace Rows

/-- THE TIED CARD OF 'rickyardlaw20.SlotsDamage'. -/
def slotsDamageCard : Claim7 := { stood := { row := slotsDamageRow, standIns := [], harness := (true, "936e06a9e7b8435d0e941473ff96673581a93be7b910560ba0bb2a1a8e83e075"), looks := false }, kinds := [], alts := [], laidByText := true, laidKinds := [.data], laidTests := true, laidLooks := .later }
def SlotsDamageCardSaid : Prop := Claim7.holds Tryz.pinned (.plain (OpenSpec.ofChange slotsDamageSpec)) slotsDamageCard

/-- THE TIED CARD OF 'rickyardlaw22.TreeWrong'. -/
def treeWrongCard : Claim7 := { stood := { row := treeWrongRow, standIns := [], harness := (true, "936e06a9e7b8435d0e941473ff96673581a93be7b910560ba0bb2a1a8e83e075"), looks := false }, kinds := [], alts := [], laidByText := true, laidKinds := [.data], laidTests := true, laidLooks := .later }
def TreeWrongCardSaid : Prop := Claim7.holds Tryz.pinned (.plain (OpenSpec.ofChange treeWrongSpec)) treeWrongCard

/-- THE TIED CARD OF 'rickyardlaw22.TreeTurns'. -/
def treeTurnsCard : Claim7 := { stood := { row := treeTurnsRow, standIns := [], harness := (true, "936e06a9e7b8435d0e941473ff96673581a93be7b910560ba0bb2a1a8e83e075"), looks := false }, kinds := [], alts := [], laidByText := true, laidKinds := [.data], laidTests := true, laidLooks := .later }
def TreeTurnsCardSaid : Prop := Claim7.holds Tryz.pinned (.plain (OpenSpec.ofChange treeTurnsSpec)) treeTurnsCard

/-- THE TIED CARD OF 'rickyardlaw22.TreeLists'. -/
def treeListsCard : Claim7 := { stood := { row := treeListsRow, standIns := [], harness := (true, "936e06a9e7b8435d0e941473ff96673581a93be7b910560ba0bb2a1a8e83e075"), looks := false }, kinds := [], alts := [], laidByText := true, laidKinds := [.data], laidTests := true, laidLooks := .later }
def TreeListsCardSaid : Prop := Claim7.holds Tryz.pinned (.plain (OpenSpec.ofChange treeListsSpec)) treeListsCard

/-- THE TIED CARD OF 'rickyardlaw22.TreeGrows'. -/
def treeGrowsCard : Claim7 := { stood := { row := treeGrowsRow, standIns := [], harness := (true, "936e06a9e7b8435d0e941473ff96673581a93be7b910560ba0bb2a1a8e83e075"), looks := false }, kinds := [], alts := [], laidByText := true, laidKinds := [.data], laidTests := true, laidLooks := .later }
def TreeGrowsCardSaid : Prop := Claim7.holds Tryz.pinned (.plain (OpenSpec.ofChange treeGrowsSpec)) treeGrowsCard

/-- THE TIED CARD OF 'rickyardlaw22.TreeBlocks'. -/
def treeBlocksCard : Claim7 := { stood := { row := treeBlocksRow, standIns := [], harness := (true, "936e06a9e7b8435d0e941473ff96673581a93be7b910560ba0bb2a1a8e83e075"), looks := false }, kinds := [], alts := [], laidByText := true, laidKinds := [.data], laidTests := true, laidLooks := .later }
def TreeBlocksCardSaid : Prop := Claim7.holds Tryz.pinned (.plain (OpenSpec.ofChange treeBlocksSpec)) treeBlocksCard

/-- THE SECOND FORM's CARD OF 'rickyardlaw20.SlotsDamage'. -/
def slotsDamageUptoCard : Claim7 := { stood := { row := slotsDamageUptoRow, standIns := [], harness := (true, "936e06a9e7b8435d0e941473ff96673581a93be7b910560ba0bb2a1a8e83e075"), looks := false }, kinds := [], alts := [], laidByText := true, laidKinds := [.data], laidTests := true, laidLooks := .later }
def SlotsDamageUptoCardSaid : Prop := Claim7.holds Tryz.pinned (.plain (OpenSpec.upto slotsDamageSpec)) slotsDamageUptoCard

/-- THE SECOND FORM's CARD OF 'rickyardlaw22.TreeWrong'. -/
def treeWrongUptoCard : Claim7 := { stood := { row := treeWrongUptoRow, standIns := [], harness := (true, "936e06a9e7b8435d0e941473ff96673581a93be7b910560ba0bb2a1a8e83e075"), looks := false }, kinds := [], alts := [], laidByText := true, laidKinds := [.data], laidTests := true, laidLooks := .later }
def TreeWrongUptoCardSaid : Prop := Claim7.holds Tryz.pinned (.plain (OpenSpec.upto treeWrongSpec)) treeWrongUptoCard

/-- THE SECOND FORM's CARD OF 'rickyardlaw22.TreeTurns'. -/
def treeTurnsUptoCard : Claim7 := { stood := { row := treeTurnsUptoRow, standIns := [], harness := (true, "936e06a9e7b8435d0e941473ff96673581a93be7b910560ba0bb2a1a8e83e075"), looks := false }, kinds := [], alts := [], laidByText := true, laidKinds := [.data], laidTests := true, laidLooks := .later }
def TreeTurnsUptoCardSaid : Prop := Claim7.holds Tryz.pinned (.plain (OpenSpec.upto treeTurnsSpec)) treeTurnsUptoCard

/-- THE SECOND FORM's CARD OF 'rickyardlaw22.TreeLists'. -/
def treeListsUptoCard : Claim7 := { stood := { row := treeListsUptoRow, standIns := [], harness := (true, "936e06a9e7b8435d0e941473ff96673581a93be7b910560ba0bb2a1a8e83e075"), looks := false }, kinds := [], alts := [], laidByText := true, laidKinds := [.data], laidTests := true, laidLooks := .later }
def TreeListsUptoCardSaid : Prop := Claim7.holds Tryz.pinned (.plain (OpenSpec.upto treeListsSpec)) treeListsUptoCard

/-- THE SECOND FORM's CARD OF 'rickyardlaw22.TreeGrows'. -/
def treeGrowsUptoCard : Claim7 := { stood := { row := treeGrowsUptoRow, standIns := [], harness := (true, "936e06a9e7b8435d0e941473ff96673581a93be7b910560ba0bb2a1a8e83e075"), looks := false }, kinds := [], alts := [], laidByText := true, laidKinds := [.data], laidTests := true, laidLooks := .later }
def TreeGrowsUptoCardSaid : Prop := Claim7.holds Tryz.pinned (.plain (OpenSpec.upto treeGrowsSpec)) treeGrowsUptoCard

/-- THE SECOND FORM's CARD OF 'rickyardlaw22.TreeBlocks'. -/
def treeBlocksUptoCard : Claim7 := { stood := { row := treeBlocksUptoRow, standIns := [], harness := (true, "936e06a9e7b8435d0e941473ff96673581a93be7b910560ba0bb2a1a8e83e075"), looks := false }, kinds := [], alts := [], laidByText := true, laidKinds := [.data], laidTests := true, laidLooks := .later }
def TreeBlocksUptoCardSaid : Prop := Claim7.holds Tryz.pinned (.plain (OpenSpec.upto treeBlocksSpec)) treeBlocksUptoCard
end Rows
end Go.Proofs.YtkdppdofkkakaaaGreatDoor
