/-
  DERIVED. GIVEN WITH THE SEED: THE CARDS: each row of YtlihikockhjodaaGreatDoorRows.lean that lists a variable, with what it lists TIED to the program's text (the seventh form; the later family's looks); each row that meets fmt, with fmt's text TOLD by the authors' own Lean function (tested against real Go, not proved from fmt's source: count such statements apart). THE CARD IS WHAT COUNTS. Prove the row's statement (the work); the ties are given (YtlihikockhjodaaGreatDoorTie.lean); close each card by the builder's one call (the guide's Derived/Test/ToyasCard.lean, 'card_holds'). Laid BY PROGRAM, IN A SANDBOX (cutbox-door.mjs). By AI agents, Wed Nov 11 2026. No macro, syntax, notation, axiom, sorry.
-/
import Derived.Test.YtlihikockhjodaaGreatDoorRows
import GoSem.ClaimSeven
namespace Go.Proofs.YtlihikockhjodaaGreatDoor
namespace Rows

/-- THE TIED CARD OF 'rickyardlaw23.ForestGreat'. -/
def forestGreatCard : Claim7 := { stood := { row := forestGreatRow, standIns := [], harness := (true, "263f442805522f4d3089d455b962996f34063d3e812d1888192a163b34312ed3"), looks := false }, kinds := [], alts := [], laidByText := true, laidKinds := [.data], laidTests := true, laidLooks := .later }
def ForestGreatCardSaid : Prop := Claim7.holds Tryz.pinned (.plain (OpenSpec.ofChange forestGreatSpec)) forestGreatCard

/-- THE TIED CARD OF 'rickyardlaw23.ForestDrains'. -/
def forestDrainsCard : Claim7 := { stood := { row := forestDrainsRow, standIns := [], harness := (true, "263f442805522f4d3089d455b962996f34063d3e812d1888192a163b34312ed3"), looks := false }, kinds := [], alts := [], laidByText := true, laidKinds := [.data], laidTests := true, laidLooks := .later }
def ForestDrainsCardSaid : Prop := Claim7.holds Tryz.pinned (.plain (OpenSpec.ofChange forestDrainsSpec)) forestDrainsCard

/-- THE TIED CARD OF 'rickyardlaw23.ForestJoins'. -/
def forestJoinsCard : Claim7 := { stood := { row := forestJoinsRow, standIns := [], harness := (true, "263f442805522f4d3089d455b962996f34063d3e812d1888192a163b34312ed3"), looks := false }, kinds := [], alts := [], laidByText := true, laidKinds := [.data], laidTests := true, laidLooks := .later }
def ForestJoinsCardSaid : Prop := Claim7.holds Tryz.pinned (.plain (OpenSpec.ofChange forestJoinsSpec)) forestJoinsCard

/-- THE TIED CARD OF 'rickyardlaw23.ForestElder'. -/
def forestElderCard : Claim7 := { stood := { row := forestElderRow, standIns := [], harness := (true, "263f442805522f4d3089d455b962996f34063d3e812d1888192a163b34312ed3"), looks := false }, kinds := [], alts := [], laidByText := true, laidKinds := [.data], laidTests := true, laidLooks := .later }
def ForestElderCardSaid : Prop := Claim7.holds Tryz.pinned (.plain (OpenSpec.ofChange forestElderSpec)) forestElderCard

/-- THE TIED CARD OF 'rickyardlaw23.ForestCounts'. -/
def forestCountsCard : Claim7 := { stood := { row := forestCountsRow, standIns := [], harness := (true, "263f442805522f4d3089d455b962996f34063d3e812d1888192a163b34312ed3"), looks := false }, kinds := [], alts := [], laidByText := true, laidKinds := [.data], laidTests := true, laidLooks := .later }
def ForestCountsCardSaid : Prop := Claim7.holds Tryz.pinned (.plain (OpenSpec.ofChange forestCountsSpec)) forestCountsCard

/-- THE TIED CARD OF 'rickyardlaw23.ForestActs'. -/
def forestActsCard : Claim7 := { stood := { row := forestActsRow, standIns := [], harness := (true, "263f442805522f4d3089d455b962996f34063d3e812d1888192a163b34312ed3"), looks := false }, kinds := [], alts := [], laidByText := true, laidKinds := [.data], laidTests := true, laidLooks := .later }
def ForestActsCardSaid : Prop := Claim7.holds Tryz.pinned (.plain (OpenSpec.ofChange forestActsSpec)) forestActsCard

/-- THE TIED CARD OF 'rickyardlaw24.TrailOrder'. -/
def trailOrderCard : Claim7 := { stood := { row := trailOrderRow, standIns := [], harness := (true, "263f442805522f4d3089d455b962996f34063d3e812d1888192a163b34312ed3"), looks := false }, kinds := [], alts := [], laidByText := true, laidKinds := [.data], laidTests := true, laidLooks := .later }
def TrailOrderCardSaid : Prop := Claim7.holds Tryz.pinned (.plain (OpenSpec.ofChange trailOrderSpec)) trailOrderCard

/-- THE TIED CARD OF 'rickyardlaw24.TrailElder'. -/
def trailElderCard : Claim7 := { stood := { row := trailElderRow, standIns := [], harness := (true, "263f442805522f4d3089d455b962996f34063d3e812d1888192a163b34312ed3"), looks := false }, kinds := [], alts := [], laidByText := true, laidKinds := [.data], laidTests := true, laidLooks := .later }
def TrailElderCardSaid : Prop := Claim7.holds Tryz.pinned (.plain (OpenSpec.ofChange trailElderSpec)) trailElderCard

/-- THE TIED CARD OF 'rickyardlaw24.TrailForeign'. -/
def trailForeignCard : Claim7 := { stood := { row := trailForeignRow, standIns := [], harness := (true, "263f442805522f4d3089d455b962996f34063d3e812d1888192a163b34312ed3"), looks := false }, kinds := [], alts := [], laidByText := true, laidKinds := [.data], laidTests := true, laidLooks := .later }
def TrailForeignCardSaid : Prop := Claim7.holds Tryz.pinned (.plain (OpenSpec.ofChange trailForeignSpec)) trailForeignCard

/-- THE TIED CARD OF 'rickyardlaw24.TrailActs'. -/
def trailActsCard : Claim7 := { stood := { row := trailActsRow, standIns := [], harness := (true, "263f442805522f4d3089d455b962996f34063d3e812d1888192a163b34312ed3"), looks := false }, kinds := [], alts := [], laidByText := true, laidKinds := [.data], laidTests := true, laidLooks := .later }
def TrailActsCardSaid : Prop := Claim7.holds Tryz.pinned (.plain (OpenSpec.ofChange trailActsSpec)) trailActsCard

/-- THE TIED CARD OF 'rickyardlaw24.TrailFinds'. -/
def trailFindsCard : Claim7 := { stood := { row := trailFindsRow, standIns := [], harness := (true, "263f442805522f4d3089d455b962996f34063d3e812d1888192a163b34312ed3"), looks := false }, kinds := [], alts := [], laidByText := true, laidKinds := [.data], laidTests := true, laidLooks := .later }
def TrailFindsCardSaid : Prop := Claim7.holds Tryz.pinned (.plain (OpenSpec.ofChange trailFindsSpec)) trailFindsCard

/-- THE SECOND FORM's CARD OF 'rickyardlaw23.ForestGreat'. -/
def forestGreatUptoCard : Claim7 := { stood := { row := forestGreatUptoRow, standIns := [], harness := (true, "263f442805522f4d3089d455b962996f34063d3e812d1888192a163b34312ed3"), looks := false }, kinds := [], alts := [], laidByText := true, laidKinds := [.data], laidTests := true, laidLooks := .later }
def ForestGreatUptoCardSaid : Prop := Claim7.holds Tryz.pinned (.plain (OpenSpec.upto forestGreatSpec)) forestGreatUptoCard

/-- THE SECOND FORM's CARD OF 'rickyardlaw23.ForestDrains'. -/
def forestDrainsUptoCard : Claim7 := { stood := { row := forestDrainsUptoRow, standIns := [], harness := (true, "263f442805522f4d3089d455b962996f34063d3e812d1888192a163b34312ed3"), looks := false }, kinds := [], alts := [], laidByText := true, laidKinds := [.data], laidTests := true, laidLooks := .later }
def ForestDrainsUptoCardSaid : Prop := Claim7.holds Tryz.pinned (.plain (OpenSpec.upto forestDrainsSpec)) forestDrainsUptoCard

/-- THE SECOND FORM's CARD OF 'rickyardlaw23.ForestJoins'. -/
def forestJoinsUptoCard : Claim7 := { stood := { row := forestJoinsUptoRow, standIns := [], harness := (true, "263f442805522f4d3089d455b962996f34063d3e812d1888192a163b34312ed3"), looks := false }, kinds := [], alts := [], laidByText := true, laidKinds := [.data], laidTests := true, laidLooks := .later }
def ForestJoinsUptoCardSaid : Prop := Claim7.holds Tryz.pinned (.plain (OpenSpec.upto forestJoinsSpec)) forestJoinsUptoCard

/-- THE SECOND FORM's CARD OF 'rickyardlaw23.ForestElder'. -/
def forestElderUptoCard : Claim7 := { stood := { row := forestElderUptoRow, standIns := [], harness := (true, "263f442805522f4d3089d455b962996f34063d3e812d1888192a163b34312ed3"), looks := false }, kinds := [], alts := [], laidByText := true, laidKinds := [.data], laidTests := true, laidLooks := .later }
def ForestElderUptoCardSaid : Prop := Claim7.holds Tryz.pinned (.plain (OpenSpec.upto forestElderSpec)) forestElderUptoCard

/-- THE SECOND FORM's CARD OF 'rickyardlaw23.ForestCounts'. -/
def forestCountsUptoCard : Claim7 := { stood := { row := forestCountsUptoRow, standIns := [], harness := (true, "263f442805522f4d3089d455b962996f34063d3e812d1888192a163b34312ed3"), looks := false }, kinds := [], alts := [], laidByText := true, laidKinds := [.data], laidTests := true, laidLooks := .later }
def ForestCountsUptoCardSaid : Prop := Claim7.holds Tryz.pinned (.plain (OpenSpec.upto forestCountsSpec)) forestCountsUptoCard

/-- THE SECOND FORM's CARD OF 'rickyardlaw23.ForestActs'. -/
def forestActsUptoCard : Claim7 := { stood := { row := forestActsUptoRow, standIns := [], harness := (true, "263f442805522f4d3089d455b962996f34063d3e812d1888192a163b34312ed3"), looks := false }, kinds := [], alts := [], laidByText := true, laidKinds := [.data], laidTests := true, laidLooks := .later }
def ForestActsUptoCardSaid : Prop := Claim7.holds Tryz.pinned (.plain (OpenSpec.upto forestActsSpec)) forestActsUptoCard

/-- THE SECOND FORM's CARD OF 'rickyardlaw24.TrailOrder'. -/
def trailOrderUptoCard : Claim7 := { stood := { row := trailOrderUptoRow, standIns := [], harness := (true, "263f442805522f4d3089d455b962996f34063d3e812d1888192a163b34312ed3"), looks := false }, kinds := [], alts := [], laidByText := true, laidKinds := [.data], laidTests := true, laidLooks := .later }
def TrailOrderUptoCardSaid : Prop := Claim7.holds Tryz.pinned (.plain (OpenSpec.upto trailOrderSpec)) trailOrderUptoCard

/-- THE SECOND FORM's CARD OF 'rickyardlaw24.TrailElder'. -/
def trailElderUptoCard : Claim7 := { stood := { row := trailElderUptoRow, standIns := [], harness := (true, "263f442805522f4d3089d455b962996f34063d3e812d1888192a163b34312ed3"), looks := false }, kinds := [], alts := [], laidByText := true, laidKinds := [.data], laidTests := true, laidLooks := .later }
def TrailElderUptoCardSaid : Prop := Claim7.holds Tryz.pinned (.plain (OpenSpec.upto trailElderSpec)) trailElderUptoCard

/-- THE SECOND FORM's CARD OF 'rickyardlaw24.TrailForeign'. -/
def trailForeignUptoCard : Claim7 := { stood := { row := trailForeignUptoRow, standIns := [], harness := (true, "263f442805522f4d3089d455b962996f34063d3e812d1888192a163b34312ed3"), looks := false }, kinds := [], alts := [], laidByText := true, laidKinds := [.data], laidTests := true, laidLooks := .later }
def TrailForeignUptoCardSaid : Prop := Claim7.holds Tryz.pinned (.plain (OpenSpec.upto trailForeignSpec)) trailForeignUptoCard

/-- THE SECOND FORM's CARD OF 'rickyardlaw24.TrailActs'. -/
def trailActsUptoCard : Claim7 := { stood := { row := trailActsUptoRow, standIns := [], harness := (true, "263f442805522f4d3089d455b962996f34063d3e812d1888192a163b34312ed3"), looks := false }, kinds := [], alts := [], laidByText := true, laidKinds := [.data], laidTests := true, laidLooks := .later }
def TrailActsUptoCardSaid : Prop := Claim7.holds Tryz.pinned (.plain (OpenSpec.upto trailActsSpec)) trailActsUptoCard

/-- THE SECOND FORM's CARD OF 'rickyardlaw24.TrailFinds'. -/
def trailFindsUptoCard : Claim7 := { stood := { row := trailFindsUptoRow, standIns := [], harness := (true, "263f442805522f4d3089d455b962996f34063d3e812d1888192a163b34312ed3"), looks := false }, kinds := [], alts := [], laidByText := true, laidKinds := [.data], laidTests := true, laidLooks := .later }
def TrailFindsUptoCardSaid : Prop := Claim7.holds Tryz.pinned (.plain (OpenSpec.upto trailFindsSpec)) trailFindsUptoCard
end Rows
end Go.Proofs.YtlihikockhjodaaGreatDoor
