/-
  DERIVED. GIVEN WITH THE SEED: THE CARDS: each row of YtceockijgbkneaaDoorRows.lean that lists a variable, with what it lists TIED to the program's text (the seventh form; the later family's looks); each row that meets fmt, with fmt's text TOLD by the authors' own Lean function (tested against real Go, not proved from fmt's source: count such statements apart). THE CARD IS WHAT COUNTS. Prove the row's statement (the work); the ties are given (YtceockijgbkneaaDoorTie.lean); close each card by the builder's one call (the guide's Derived/Test/ToyasCard.lean, 'card_holds'). Laid BY PROGRAM, IN A SANDBOX (cutbox-door.mjs). By AI agents, Wed Nov 11 2026. No macro, syntax, notation, axiom, sorry.
-/
import Derived.Test.YtceockijgbkneaaDoorRows
import GoSem.ClaimSeven
namespace Go.Proofs.YtceockijgbkneaaDoor
namespace Rows

/-- THE TIED CARD OF 'rickyardlaw21.TicketOnce'. -/
def ticketOnceCard : Claim7 := { stood := { row := ticketOnceRow, standIns := [], harness := (true, "c8c0f125cd7a5894267361c097393b0b0bb20f38b359c2558b85fae09d7e0713"), looks := false }, kinds := [], alts := [], laidByText := true, laidKinds := [.data], laidTests := true, laidLooks := .later }
def TicketOnceCardSaid : Prop := Claim7.holds Tryd.pinned (.plain (OpenSpec.ofChange ticketOnceSpec)) ticketOnceCard

/-- THE TIED CARD OF 'rickyardlaw21.TicketSpent'. -/
def ticketSpentCard : Claim7 := { stood := { row := ticketSpentRow, standIns := [], harness := (true, "c8c0f125cd7a5894267361c097393b0b0bb20f38b359c2558b85fae09d7e0713"), looks := false }, kinds := [], alts := [], laidByText := true, laidKinds := [.data], laidTests := true, laidLooks := .later }
def TicketSpentCardSaid : Prop := Claim7.holds Tryd.pinned (.plain (OpenSpec.ofChange ticketSpentSpec)) ticketSpentCard

/-- THE TIED CARD OF 'rickyardlaw21.TicketStack'. -/
def ticketStackCard : Claim7 := { stood := { row := ticketStackRow, standIns := [], harness := (true, "c8c0f125cd7a5894267361c097393b0b0bb20f38b359c2558b85fae09d7e0713"), looks := false }, kinds := [], alts := [], laidByText := true, laidKinds := [.data], laidTests := true, laidLooks := .later }
def TicketStackCardSaid : Prop := Claim7.holds Tryd.pinned (.plain (OpenSpec.ofChange ticketStackSpec)) ticketStackCard

/-- THE TIED CARD OF 'rickyardlaw21.TicketWrong'. -/
def ticketWrongCard : Claim7 := { stood := { row := ticketWrongRow, standIns := [], harness := (true, "c8c0f125cd7a5894267361c097393b0b0bb20f38b359c2558b85fae09d7e0713"), looks := false }, kinds := [], alts := [], laidByText := true, laidKinds := [.data], laidTests := true, laidLooks := .later }
def TicketWrongCardSaid : Prop := Claim7.holds Tryd.pinned (.plain (OpenSpec.ofChange ticketWrongSpec)) ticketWrongCard

/-- THE TIED CARD OF 'rickyardlaw21.TicketActs'. -/
def ticketActsCard : Claim7 := { stood := { row := ticketActsRow, standIns := [], harness := (true, "c8c0f125cd7a5894267361c097393b0b0bb20f38b359c2558b85fae09d7e0713"), looks := false }, kinds := [], alts := [], laidByText := true, laidKinds := [.data], laidTests := true, laidLooks := .later }
def TicketActsCardSaid : Prop := Claim7.holds Tryd.pinned (.plain (OpenSpec.ofChange ticketActsSpec)) ticketActsCard

/-- THE SECOND FORM's CARD OF 'rickyardlaw21.TicketOnce'. -/
def ticketOnceUptoCard : Claim7 := { stood := { row := ticketOnceUptoRow, standIns := [], harness := (true, "c8c0f125cd7a5894267361c097393b0b0bb20f38b359c2558b85fae09d7e0713"), looks := false }, kinds := [], alts := [], laidByText := true, laidKinds := [.data], laidTests := true, laidLooks := .later }
def TicketOnceUptoCardSaid : Prop := Claim7.holds Tryd.pinned (.plain (OpenSpec.upto ticketOnceSpec)) ticketOnceUptoCard

/-- THE SECOND FORM's CARD OF 'rickyardlaw21.TicketSpent'. -/
def ticketSpentUptoCard : Claim7 := { stood := { row := ticketSpentUptoRow, standIns := [], harness := (true, "c8c0f125cd7a5894267361c097393b0b0bb20f38b359c2558b85fae09d7e0713"), looks := false }, kinds := [], alts := [], laidByText := true, laidKinds := [.data], laidTests := true, laidLooks := .later }
def TicketSpentUptoCardSaid : Prop := Claim7.holds Tryd.pinned (.plain (OpenSpec.upto ticketSpentSpec)) ticketSpentUptoCard

/-- THE SECOND FORM's CARD OF 'rickyardlaw21.TicketStack'. -/
def ticketStackUptoCard : Claim7 := { stood := { row := ticketStackUptoRow, standIns := [], harness := (true, "c8c0f125cd7a5894267361c097393b0b0bb20f38b359c2558b85fae09d7e0713"), looks := false }, kinds := [], alts := [], laidByText := true, laidKinds := [.data], laidTests := true, laidLooks := .later }
def TicketStackUptoCardSaid : Prop := Claim7.holds Tryd.pinned (.plain (OpenSpec.upto ticketStackSpec)) ticketStackUptoCard

/-- THE SECOND FORM's CARD OF 'rickyardlaw21.TicketWrong'. -/
def ticketWrongUptoCard : Claim7 := { stood := { row := ticketWrongUptoRow, standIns := [], harness := (true, "c8c0f125cd7a5894267361c097393b0b0bb20f38b359c2558b85fae09d7e0713"), looks := false }, kinds := [], alts := [], laidByText := true, laidKinds := [.data], laidTests := true, laidLooks := .later }
def TicketWrongUptoCardSaid : Prop := Claim7.holds Tryd.pinned (.plain (OpenSpec.upto ticketWrongSpec)) ticketWrongUptoCard

/-- THE SECOND FORM's CARD OF 'rickyardlaw21.TicketActs'. -/
def ticketActsUptoCard : Claim7 := { stood := { row := ticketActsUptoRow, standIns := [], harness := (true, "c8c0f125cd7a5894267361c097393b0b0bb20f38b359c2558b85fae09d7e0713"), looks := false }, kinds := [], alts := [], laidByText := true, laidKinds := [.data], laidTests := true, laidLooks := .later }
def TicketActsUptoCardSaid : Prop := Claim7.holds Tryd.pinned (.plain (OpenSpec.upto ticketActsSpec)) ticketActsUptoCard
end Rows
end Go.Proofs.YtceockijgbkneaaDoor
