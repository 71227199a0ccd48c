/-
  DERIVED. GIVEN WITH THE SEED: THE CARDS: each row of YtlicnnoljbfhfaaDoorRows.lean that lists a variable, with what it lists TIED to the program's text (the seventh form; the later family's looks); each row that meets fmt, with fmt's text TOLD by the authors' own Lean function (tested against real Go, not proved from fmt's source: count such statements apart). THE CARD IS WHAT COUNTS. Prove the row's statement (the work); the ties are given (YtlicnnoljbfhfaaDoorTie.lean); close each card by the builder's one call (the guide's Derived/Test/ToyasCard.lean, 'card_holds'). Laid BY PROGRAM, IN A SANDBOX (cutbox-door.mjs). By AI agents, Wed Nov 11 2026. No macro, syntax, notation, axiom, sorry.
-/
import Derived.Test.YtlicnnoljbfhfaaDoorRows
import GoSem.ClaimSeven
namespace Go.Proofs.YtlicnnoljbfhfaaDoor
namespace Rows

/-- THE TIED CARD OF 'rickyardlaw18.AllocFull'. -/
def allocFullCard : Claim7 := { stood := { row := allocFullRow, standIns := [], harness := (true, "5b6ca123e755831dc392a6a57f9afd37b7ed1bcadaced64db1d69de81eeb8bd1"), looks := false }, kinds := [], alts := [], laidByText := true, laidKinds := [.data], laidTests := true, laidLooks := .later }
def AllocFullCardSaid : Prop := Claim7.holds Tryd.pinned (.plain (OpenSpec.ofChange allocFullSpec)) allocFullCard

/-- THE TIED CARD OF 'rickyardlaw18.AllocSafe'. -/
def allocSafeCard : Claim7 := { stood := { row := allocSafeRow, standIns := [], harness := (true, "5b6ca123e755831dc392a6a57f9afd37b7ed1bcadaced64db1d69de81eeb8bd1"), looks := false }, kinds := [], alts := [], laidByText := true, laidKinds := [.data], laidTests := true, laidLooks := .later }
def AllocSafeCardSaid : Prop := Claim7.holds Tryd.pinned (.plain (OpenSpec.ofChange allocSafeSpec)) allocSafeCard

/-- THE TIED CARD OF 'rickyardlaw18.AllocBack'. -/
def allocBackCard : Claim7 := { stood := { row := allocBackRow, standIns := [], harness := (true, "5b6ca123e755831dc392a6a57f9afd37b7ed1bcadaced64db1d69de81eeb8bd1"), looks := false }, kinds := [], alts := [], laidByText := true, laidKinds := [.data], laidTests := true, laidLooks := .later }
def AllocBackCardSaid : Prop := Claim7.holds Tryd.pinned (.plain (OpenSpec.ofChange allocBackSpec)) allocBackCard

/-- THE TIED CARD OF 'rickyardlaw18.AllocActs'. -/
def allocActsCard : Claim7 := { stood := { row := allocActsRow, standIns := [], harness := (true, "5b6ca123e755831dc392a6a57f9afd37b7ed1bcadaced64db1d69de81eeb8bd1"), looks := false }, kinds := [], alts := [], laidByText := true, laidKinds := [.data], laidTests := true, laidLooks := .later }
def AllocActsCardSaid : Prop := Claim7.holds Tryd.pinned (.plain (OpenSpec.ofChange allocActsSpec)) allocActsCard

/-- THE SECOND FORM's CARD OF 'rickyardlaw18.AllocFull'. -/
def allocFullUptoCard : Claim7 := { stood := { row := allocFullUptoRow, standIns := [], harness := (true, "5b6ca123e755831dc392a6a57f9afd37b7ed1bcadaced64db1d69de81eeb8bd1"), looks := false }, kinds := [], alts := [], laidByText := true, laidKinds := [.data], laidTests := true, laidLooks := .later }
def AllocFullUptoCardSaid : Prop := Claim7.holds Tryd.pinned (.plain (OpenSpec.upto allocFullSpec)) allocFullUptoCard

/-- THE SECOND FORM's CARD OF 'rickyardlaw18.AllocSafe'. -/
def allocSafeUptoCard : Claim7 := { stood := { row := allocSafeUptoRow, standIns := [], harness := (true, "5b6ca123e755831dc392a6a57f9afd37b7ed1bcadaced64db1d69de81eeb8bd1"), looks := false }, kinds := [], alts := [], laidByText := true, laidKinds := [.data], laidTests := true, laidLooks := .later }
def AllocSafeUptoCardSaid : Prop := Claim7.holds Tryd.pinned (.plain (OpenSpec.upto allocSafeSpec)) allocSafeUptoCard

/-- THE SECOND FORM's CARD OF 'rickyardlaw18.AllocBack'. -/
def allocBackUptoCard : Claim7 := { stood := { row := allocBackUptoRow, standIns := [], harness := (true, "5b6ca123e755831dc392a6a57f9afd37b7ed1bcadaced64db1d69de81eeb8bd1"), looks := false }, kinds := [], alts := [], laidByText := true, laidKinds := [.data], laidTests := true, laidLooks := .later }
def AllocBackUptoCardSaid : Prop := Claim7.holds Tryd.pinned (.plain (OpenSpec.upto allocBackSpec)) allocBackUptoCard

/-- THE SECOND FORM's CARD OF 'rickyardlaw18.AllocActs'. -/
def allocActsUptoCard : Claim7 := { stood := { row := allocActsUptoRow, standIns := [], harness := (true, "5b6ca123e755831dc392a6a57f9afd37b7ed1bcadaced64db1d69de81eeb8bd1"), looks := false }, kinds := [], alts := [], laidByText := true, laidKinds := [.data], laidTests := true, laidLooks := .later }
def AllocActsUptoCardSaid : Prop := Claim7.holds Tryd.pinned (.plain (OpenSpec.upto allocActsSpec)) allocActsUptoCard
end Rows
end Go.Proofs.YtlicnnoljbfhfaaDoor
