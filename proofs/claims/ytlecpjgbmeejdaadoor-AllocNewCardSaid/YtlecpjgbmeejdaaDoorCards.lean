/-
  DERIVED. GIVEN WITH THE SEED: THE CARDS: each row of YtlecpjgbmeejdaaDoorRows.lean that lists a variable, with what it lists TIED to the program's text (the seventh form; the later family's looks); each row that meets fmt, with fmt's text TOLD by the authors' own Lean function (tested against real Go, not proved from fmt's source: count such statements apart). THE CARD IS WHAT COUNTS. Prove the row's statement (the work); the ties are given (YtlecpjgbmeejdaaDoorTie.lean); close each card by the builder's one call (the guide's Derived/Test/ToyasCard.lean, 'card_holds'). Laid BY PROGRAM, IN A SANDBOX (cutbox-door.mjs). By AI agents, Wed Nov 11 2026. No macro, syntax, notation, axiom, sorry.
-/
import Derived.Test.YtlecpjgbmeejdaaDoorRows
import GoSem.ClaimSeven
namespace Go.Proofs.YtlecpjgbmeejdaaDoor
namespace Rows

/-- THE TIED CARD OF 'rickyardlaw17.BitsGaps'. -/
def bitsGapsCard : Claim7 := { stood := { row := bitsGapsRow, standIns := [], harness := (true, "87eb27ca65c516ab412787a11156c4c0652f973e25d7be29ffb29370f98019f6"), looks := false }, kinds := [], alts := [], laidByText := true, laidKinds := [.data], laidTests := true, laidLooks := .later }
def BitsGapsCardSaid : Prop := Claim7.holds Tryd.pinned (.plain (OpenSpec.ofChange bitsGapsSpec)) bitsGapsCard

/-- THE TIED CARD OF 'rickyardlaw17.BitsActs'. -/
def bitsActsCard : Claim7 := { stood := { row := bitsActsRow, standIns := [], harness := (true, "87eb27ca65c516ab412787a11156c4c0652f973e25d7be29ffb29370f98019f6"), looks := false }, kinds := [], alts := [], laidByText := true, laidKinds := [.data], laidTests := true, laidLooks := .later }
def BitsActsCardSaid : Prop := Claim7.holds Tryd.pinned (.plain (OpenSpec.ofChange bitsActsSpec)) bitsActsCard

/-- THE TIED CARD OF 'rickyardlaw18.AllocFull'. -/
def allocFullCard : Claim7 := { stood := { row := allocFullRow, standIns := [], harness := (true, "87eb27ca65c516ab412787a11156c4c0652f973e25d7be29ffb29370f98019f6"), looks := false }, kinds := [], alts := [], laidByText := true, laidKinds := [.data], laidTests := true, laidLooks := .later }
def AllocFullCardSaid : Prop := Claim7.holds Tryd.pinned (.plain (OpenSpec.ofChange allocFullSpec)) allocFullCard

/-- THE TIED CARD OF 'rickyardlaw18.AllocNew'. -/
def allocNewCard : Claim7 := { stood := { row := allocNewRow, standIns := [], harness := (true, "87eb27ca65c516ab412787a11156c4c0652f973e25d7be29ffb29370f98019f6"), looks := false }, kinds := [], alts := [], laidByText := true, laidKinds := [.data], laidTests := true, laidLooks := .later }
def AllocNewCardSaid : Prop := Claim7.holds Tryd.pinned (.plain (OpenSpec.ofChange allocNewSpec)) allocNewCard

/-- THE TIED CARD OF 'rickyardlaw17.BitsFrom'. -/
def bitsFromCard : Claim7 := { stood := { row := bitsFromRow, standIns := [], harness := (true, "87eb27ca65c516ab412787a11156c4c0652f973e25d7be29ffb29370f98019f6"), looks := false }, kinds := [], alts := [], laidByText := true, laidKinds := [.data], laidTests := true, laidLooks := .later }
def BitsFromCardSaid : Prop := Claim7.holds Tryd.pinned (.plain (OpenSpec.ofChange bitsFromSpec)) bitsFromCard

/-- THE TIED CARD OF 'rickyardlaw17.BitsJoins'. -/
def bitsJoinsCard : Claim7 := { stood := { row := bitsJoinsRow, standIns := [], harness := (true, "87eb27ca65c516ab412787a11156c4c0652f973e25d7be29ffb29370f98019f6"), looks := false }, kinds := [], alts := [], laidByText := true, laidKinds := [.data], laidTests := true, laidLooks := .later }
def BitsJoinsCardSaid : Prop := Claim7.holds Tryd.pinned (.plain (OpenSpec.ofChange bitsJoinsSpec)) bitsJoinsCard

/-- THE TIED CARD OF 'rickyardlaw17.BitsCharts'. -/
def bitsChartsCard : Claim7 := { stood := { row := bitsChartsRow, standIns := [], harness := (true, "87eb27ca65c516ab412787a11156c4c0652f973e25d7be29ffb29370f98019f6"), looks := false }, kinds := [], alts := [], laidByText := true, laidKinds := [.data], laidTests := true, laidLooks := .later }
def BitsChartsCardSaid : Prop := Claim7.holds Tryd.pinned (.plain (OpenSpec.ofChange bitsChartsSpec)) bitsChartsCard

/-- THE TIED CARD OF 'rickyardlaw18.AllocSafe'. -/
def allocSafeCard : Claim7 := { stood := { row := allocSafeRow, standIns := [], harness := (true, "87eb27ca65c516ab412787a11156c4c0652f973e25d7be29ffb29370f98019f6"), looks := false }, kinds := [], alts := [], laidByText := true, laidKinds := [.data], laidTests := true, laidLooks := .later }
def AllocSafeCardSaid : Prop := Claim7.holds Tryd.pinned (.plain (OpenSpec.ofChange allocSafeSpec)) allocSafeCard

/-- THE TIED CARD OF 'rickyardlaw18.AllocBack'. -/
def allocBackCard : Claim7 := { stood := { row := allocBackRow, standIns := [], harness := (true, "87eb27ca65c516ab412787a11156c4c0652f973e25d7be29ffb29370f98019f6"), looks := false }, kinds := [], alts := [], laidByText := true, laidKinds := [.data], laidTests := true, laidLooks := .later }
def AllocBackCardSaid : Prop := Claim7.holds Tryd.pinned (.plain (OpenSpec.ofChange allocBackSpec)) allocBackCard

/-- THE TIED CARD OF 'rickyardlaw18.AllocActs'. -/
def allocActsCard : Claim7 := { stood := { row := allocActsRow, standIns := [], harness := (true, "87eb27ca65c516ab412787a11156c4c0652f973e25d7be29ffb29370f98019f6"), looks := false }, kinds := [], alts := [], laidByText := true, laidKinds := [.data], laidTests := true, laidLooks := .later }
def AllocActsCardSaid : Prop := Claim7.holds Tryd.pinned (.plain (OpenSpec.ofChange allocActsSpec)) allocActsCard

/-- THE SECOND FORM's CARD OF 'rickyardlaw17.BitsGaps'. -/
def bitsGapsUptoCard : Claim7 := { stood := { row := bitsGapsUptoRow, standIns := [], harness := (true, "87eb27ca65c516ab412787a11156c4c0652f973e25d7be29ffb29370f98019f6"), looks := false }, kinds := [], alts := [], laidByText := true, laidKinds := [.data], laidTests := true, laidLooks := .later }
def BitsGapsUptoCardSaid : Prop := Claim7.holds Tryd.pinned (.plain (OpenSpec.upto bitsGapsSpec)) bitsGapsUptoCard

/-- THE SECOND FORM's CARD OF 'rickyardlaw17.BitsActs'. -/
def bitsActsUptoCard : Claim7 := { stood := { row := bitsActsUptoRow, standIns := [], harness := (true, "87eb27ca65c516ab412787a11156c4c0652f973e25d7be29ffb29370f98019f6"), looks := false }, kinds := [], alts := [], laidByText := true, laidKinds := [.data], laidTests := true, laidLooks := .later }
def BitsActsUptoCardSaid : Prop := Claim7.holds Tryd.pinned (.plain (OpenSpec.upto bitsActsSpec)) bitsActsUptoCard

/-- THE SECOND FORM's CARD OF 'rickyardlaw18.AllocFull'. -/
def allocFullUptoCard : Claim7 := { stood := { row := allocFullUptoRow, standIns := [], harness := (true, "87eb27ca65c516ab412787a11156c4c0652f973e25d7be29ffb29370f98019f6"), looks := false }, kinds := [], alts := [], laidByText := true, laidKinds := [.data], laidTests := true, laidLooks := .later }
def AllocFullUptoCardSaid : Prop := Claim7.holds Tryd.pinned (.plain (OpenSpec.upto allocFullSpec)) allocFullUptoCard

/-- THE SECOND FORM's CARD OF 'rickyardlaw18.AllocNew'. -/
def allocNewUptoCard : Claim7 := { stood := { row := allocNewUptoRow, standIns := [], harness := (true, "87eb27ca65c516ab412787a11156c4c0652f973e25d7be29ffb29370f98019f6"), looks := false }, kinds := [], alts := [], laidByText := true, laidKinds := [.data], laidTests := true, laidLooks := .later }
def AllocNewUptoCardSaid : Prop := Claim7.holds Tryd.pinned (.plain (OpenSpec.upto allocNewSpec)) allocNewUptoCard

/-- THE SECOND FORM's CARD OF 'rickyardlaw17.BitsFrom'. -/
def bitsFromUptoCard : Claim7 := { stood := { row := bitsFromUptoRow, standIns := [], harness := (true, "87eb27ca65c516ab412787a11156c4c0652f973e25d7be29ffb29370f98019f6"), looks := false }, kinds := [], alts := [], laidByText := true, laidKinds := [.data], laidTests := true, laidLooks := .later }
def BitsFromUptoCardSaid : Prop := Claim7.holds Tryd.pinned (.plain (OpenSpec.upto bitsFromSpec)) bitsFromUptoCard

/-- THE SECOND FORM's CARD OF 'rickyardlaw17.BitsJoins'. -/
def bitsJoinsUptoCard : Claim7 := { stood := { row := bitsJoinsUptoRow, standIns := [], harness := (true, "87eb27ca65c516ab412787a11156c4c0652f973e25d7be29ffb29370f98019f6"), looks := false }, kinds := [], alts := [], laidByText := true, laidKinds := [.data], laidTests := true, laidLooks := .later }
def BitsJoinsUptoCardSaid : Prop := Claim7.holds Tryd.pinned (.plain (OpenSpec.upto bitsJoinsSpec)) bitsJoinsUptoCard

/-- THE SECOND FORM's CARD OF 'rickyardlaw17.BitsCharts'. -/
def bitsChartsUptoCard : Claim7 := { stood := { row := bitsChartsUptoRow, standIns := [], harness := (true, "87eb27ca65c516ab412787a11156c4c0652f973e25d7be29ffb29370f98019f6"), looks := false }, kinds := [], alts := [], laidByText := true, laidKinds := [.data], laidTests := true, laidLooks := .later }
def BitsChartsUptoCardSaid : Prop := Claim7.holds Tryd.pinned (.plain (OpenSpec.upto bitsChartsSpec)) bitsChartsUptoCard

/-- THE SECOND FORM's CARD OF 'rickyardlaw18.AllocSafe'. -/
def allocSafeUptoCard : Claim7 := { stood := { row := allocSafeUptoRow, standIns := [], harness := (true, "87eb27ca65c516ab412787a11156c4c0652f973e25d7be29ffb29370f98019f6"), looks := false }, kinds := [], alts := [], laidByText := true, laidKinds := [.data], laidTests := true, laidLooks := .later }
def AllocSafeUptoCardSaid : Prop := Claim7.holds Tryd.pinned (.plain (OpenSpec.upto allocSafeSpec)) allocSafeUptoCard

/-- THE SECOND FORM's CARD OF 'rickyardlaw18.AllocBack'. -/
def allocBackUptoCard : Claim7 := { stood := { row := allocBackUptoRow, standIns := [], harness := (true, "87eb27ca65c516ab412787a11156c4c0652f973e25d7be29ffb29370f98019f6"), looks := false }, kinds := [], alts := [], laidByText := true, laidKinds := [.data], laidTests := true, laidLooks := .later }
def AllocBackUptoCardSaid : Prop := Claim7.holds Tryd.pinned (.plain (OpenSpec.upto allocBackSpec)) allocBackUptoCard

/-- THE SECOND FORM's CARD OF 'rickyardlaw18.AllocActs'. -/
def allocActsUptoCard : Claim7 := { stood := { row := allocActsUptoRow, standIns := [], harness := (true, "87eb27ca65c516ab412787a11156c4c0652f973e25d7be29ffb29370f98019f6"), looks := false }, kinds := [], alts := [], laidByText := true, laidKinds := [.data], laidTests := true, laidLooks := .later }
def AllocActsUptoCardSaid : Prop := Claim7.holds Tryd.pinned (.plain (OpenSpec.upto allocActsSpec)) allocActsUptoCard
end Rows
end Go.Proofs.YtlecpjgbmeejdaaDoor
