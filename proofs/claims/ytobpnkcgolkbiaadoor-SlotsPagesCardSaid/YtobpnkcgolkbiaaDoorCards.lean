/-
  DERIVED. GIVEN WITH THE SEED: THE CARDS: each row of YtobpnkcgolkbiaaDoorRows.lean that lists a variable, with what it lists TIED to the program's text (the seventh form; the later family's looks); each row that meets fmt, with fmt's text TOLD by the authors' own Lean function (tested against real Go, not proved from fmt's source: count such statements apart). THE CARD IS WHAT COUNTS. Prove the row's statement (the work); the ties are given (YtobpnkcgolkbiaaDoorTie.lean); close each card by the builder's one call (the guide's Derived/Test/ToyasCard.lean, 'card_holds'). Laid BY PROGRAM, IN A SANDBOX (cutbox-door.mjs). By AI agents, Wed Nov 11 2026. No macro, syntax, notation, axiom, sorry.
-/
import Derived.Test.YtobpnkcgolkbiaaDoorRows
import GoSem.ClaimSeven
namespace Go.Proofs.YtobpnkcgolkbiaaDoor
namespace Rows

/-- THE TIED CARD OF 'rickyardlaw20.SlotsPuts'. -/
def slotsPutsCard : Claim7 := { stood := { row := slotsPutsRow, standIns := [], harness := (true, "93f3e3b60959f0596374d966abc09315dc7eb92721fe6cc4854ffce61dc58f97"), looks := false }, kinds := [], alts := [], laidByText := true, laidKinds := [.data], laidTests := true, laidLooks := .later }
def SlotsPutsCardSaid : Prop := Claim7.holds Tryd.pinned (.plain (OpenSpec.ofChange slotsPutsSpec)) slotsPutsCard

/-- THE TIED CARD OF 'rickyardlaw20.SlotsElder'. -/
def slotsElderCard : Claim7 := { stood := { row := slotsElderRow, standIns := [], harness := (true, "93f3e3b60959f0596374d966abc09315dc7eb92721fe6cc4854ffce61dc58f97"), looks := false }, kinds := [], alts := [], laidByText := true, laidKinds := [.data], laidTests := true, laidLooks := .later }
def SlotsElderCardSaid : Prop := Claim7.holds Tryd.pinned (.plain (OpenSpec.ofChange slotsElderSpec)) slotsElderCard

/-- THE TIED CARD OF 'rickyardlaw20.SlotsFull'. -/
def slotsFullCard : Claim7 := { stood := { row := slotsFullRow, standIns := [], harness := (true, "93f3e3b60959f0596374d966abc09315dc7eb92721fe6cc4854ffce61dc58f97"), looks := false }, kinds := [], alts := [], laidByText := true, laidKinds := [.data], laidTests := true, laidLooks := .later }
def SlotsFullCardSaid : Prop := Claim7.holds Tryd.pinned (.plain (OpenSpec.ofChange slotsFullSpec)) slotsFullCard

/-- THE TIED CARD OF 'rickyardlaw20.SlotsPages'. -/
def slotsPagesCard : Claim7 := { stood := { row := slotsPagesRow, standIns := [], harness := (true, "93f3e3b60959f0596374d966abc09315dc7eb92721fe6cc4854ffce61dc58f97"), looks := false }, kinds := [], alts := [], laidByText := true, laidKinds := [.data], laidTests := true, laidLooks := .later }
def SlotsPagesCardSaid : Prop := Claim7.holds Tryd.pinned (.plain (OpenSpec.ofChange slotsPagesSpec)) slotsPagesCard

/-- THE TIED CARD OF 'rickyardlaw21.TicketOnce'. -/
def ticketOnceCard : Claim7 := { stood := { row := ticketOnceRow, standIns := [], harness := (true, "93f3e3b60959f0596374d966abc09315dc7eb92721fe6cc4854ffce61dc58f97"), looks := false }, kinds := [], alts := [], laidByText := true, laidKinds := [.data], laidTests := true, laidLooks := .later }
def TicketOnceCardSaid : Prop := Claim7.holds Tryd.pinned (.plain (OpenSpec.ofChange ticketOnceSpec)) ticketOnceCard

/-- THE TIED CARD OF 'rickyardlaw21.TicketSpent'. -/
def ticketSpentCard : Claim7 := { stood := { row := ticketSpentRow, standIns := [], harness := (true, "93f3e3b60959f0596374d966abc09315dc7eb92721fe6cc4854ffce61dc58f97"), looks := false }, kinds := [], alts := [], laidByText := true, laidKinds := [.data], laidTests := true, laidLooks := .later }
def TicketSpentCardSaid : Prop := Claim7.holds Tryd.pinned (.plain (OpenSpec.ofChange ticketSpentSpec)) ticketSpentCard

/-- THE TIED CARD OF 'rickyardlaw21.TicketStack'. -/
def ticketStackCard : Claim7 := { stood := { row := ticketStackRow, standIns := [], harness := (true, "93f3e3b60959f0596374d966abc09315dc7eb92721fe6cc4854ffce61dc58f97"), looks := false }, kinds := [], alts := [], laidByText := true, laidKinds := [.data], laidTests := true, laidLooks := .later }
def TicketStackCardSaid : Prop := Claim7.holds Tryd.pinned (.plain (OpenSpec.ofChange ticketStackSpec)) ticketStackCard

/-- THE TIED CARD OF 'rickyardlaw21.TicketWrong'. -/
def ticketWrongCard : Claim7 := { stood := { row := ticketWrongRow, standIns := [], harness := (true, "93f3e3b60959f0596374d966abc09315dc7eb92721fe6cc4854ffce61dc58f97"), looks := false }, kinds := [], alts := [], laidByText := true, laidKinds := [.data], laidTests := true, laidLooks := .later }
def TicketWrongCardSaid : Prop := Claim7.holds Tryd.pinned (.plain (OpenSpec.ofChange ticketWrongSpec)) ticketWrongCard

/-- THE TIED CARD OF 'rickyardlaw21.TicketActs'. -/
def ticketActsCard : Claim7 := { stood := { row := ticketActsRow, standIns := [], harness := (true, "93f3e3b60959f0596374d966abc09315dc7eb92721fe6cc4854ffce61dc58f97"), looks := false }, kinds := [], alts := [], laidByText := true, laidKinds := [.data], laidTests := true, laidLooks := .later }
def TicketActsCardSaid : Prop := Claim7.holds Tryd.pinned (.plain (OpenSpec.ofChange ticketActsSpec)) ticketActsCard

/-- THE SECOND FORM's CARD OF 'rickyardlaw20.SlotsPuts'. -/
def slotsPutsUptoCard : Claim7 := { stood := { row := slotsPutsUptoRow, standIns := [], harness := (true, "93f3e3b60959f0596374d966abc09315dc7eb92721fe6cc4854ffce61dc58f97"), looks := false }, kinds := [], alts := [], laidByText := true, laidKinds := [.data], laidTests := true, laidLooks := .later }
def SlotsPutsUptoCardSaid : Prop := Claim7.holds Tryd.pinned (.plain (OpenSpec.upto slotsPutsSpec)) slotsPutsUptoCard

/-- THE SECOND FORM's CARD OF 'rickyardlaw20.SlotsElder'. -/
def slotsElderUptoCard : Claim7 := { stood := { row := slotsElderUptoRow, standIns := [], harness := (true, "93f3e3b60959f0596374d966abc09315dc7eb92721fe6cc4854ffce61dc58f97"), looks := false }, kinds := [], alts := [], laidByText := true, laidKinds := [.data], laidTests := true, laidLooks := .later }
def SlotsElderUptoCardSaid : Prop := Claim7.holds Tryd.pinned (.plain (OpenSpec.upto slotsElderSpec)) slotsElderUptoCard

/-- THE SECOND FORM's CARD OF 'rickyardlaw20.SlotsFull'. -/
def slotsFullUptoCard : Claim7 := { stood := { row := slotsFullUptoRow, standIns := [], harness := (true, "93f3e3b60959f0596374d966abc09315dc7eb92721fe6cc4854ffce61dc58f97"), looks := false }, kinds := [], alts := [], laidByText := true, laidKinds := [.data], laidTests := true, laidLooks := .later }
def SlotsFullUptoCardSaid : Prop := Claim7.holds Tryd.pinned (.plain (OpenSpec.upto slotsFullSpec)) slotsFullUptoCard

/-- THE SECOND FORM's CARD OF 'rickyardlaw20.SlotsPages'. -/
def slotsPagesUptoCard : Claim7 := { stood := { row := slotsPagesUptoRow, standIns := [], harness := (true, "93f3e3b60959f0596374d966abc09315dc7eb92721fe6cc4854ffce61dc58f97"), looks := false }, kinds := [], alts := [], laidByText := true, laidKinds := [.data], laidTests := true, laidLooks := .later }
def SlotsPagesUptoCardSaid : Prop := Claim7.holds Tryd.pinned (.plain (OpenSpec.upto slotsPagesSpec)) slotsPagesUptoCard

/-- THE SECOND FORM's CARD OF 'rickyardlaw21.TicketOnce'. -/
def ticketOnceUptoCard : Claim7 := { stood := { row := ticketOnceUptoRow, standIns := [], harness := (true, "93f3e3b60959f0596374d966abc09315dc7eb92721fe6cc4854ffce61dc58f97"), looks := false }, kinds := [], alts := [], laidByText := true, laidKinds := [.data], laidTests := true, laidLooks := .later }
def TicketOnceUptoCardSaid : Prop := Claim7.holds Tryd.pinned (.plain (OpenSpec.upto ticketOnceSpec)) ticketOnceUptoCard

/-- THE SECOND FORM's CARD OF 'rickyardlaw21.TicketSpent'. -/
def ticketSpentUptoCard : Claim7 := { stood := { row := ticketSpentUptoRow, standIns := [], harness := (true, "93f3e3b60959f0596374d966abc09315dc7eb92721fe6cc4854ffce61dc58f97"), looks := false }, kinds := [], alts := [], laidByText := true, laidKinds := [.data], laidTests := true, laidLooks := .later }
def TicketSpentUptoCardSaid : Prop := Claim7.holds Tryd.pinned (.plain (OpenSpec.upto ticketSpentSpec)) ticketSpentUptoCard

/-- THE SECOND FORM's CARD OF 'rickyardlaw21.TicketStack'. -/
def ticketStackUptoCard : Claim7 := { stood := { row := ticketStackUptoRow, standIns := [], harness := (true, "93f3e3b60959f0596374d966abc09315dc7eb92721fe6cc4854ffce61dc58f97"), looks := false }, kinds := [], alts := [], laidByText := true, laidKinds := [.data], laidTests := true, laidLooks := .later }
def TicketStackUptoCardSaid : Prop := Claim7.holds Tryd.pinned (.plain (OpenSpec.upto ticketStackSpec)) ticketStackUptoCard

/-- THE SECOND FORM's CARD OF 'rickyardlaw21.TicketWrong'. -/
def ticketWrongUptoCard : Claim7 := { stood := { row := ticketWrongUptoRow, standIns := [], harness := (true, "93f3e3b60959f0596374d966abc09315dc7eb92721fe6cc4854ffce61dc58f97"), looks := false }, kinds := [], alts := [], laidByText := true, laidKinds := [.data], laidTests := true, laidLooks := .later }
def TicketWrongUptoCardSaid : Prop := Claim7.holds Tryd.pinned (.plain (OpenSpec.upto ticketWrongSpec)) ticketWrongUptoCard

/-- THE SECOND FORM's CARD OF 'rickyardlaw21.TicketActs'. -/
def ticketActsUptoCard : Claim7 := { stood := { row := ticketActsUptoRow, standIns := [], harness := (true, "93f3e3b60959f0596374d966abc09315dc7eb92721fe6cc4854ffce61dc58f97"), looks := false }, kinds := [], alts := [], laidByText := true, laidKinds := [.data], laidTests := true, laidLooks := .later }
def TicketActsUptoCardSaid : Prop := Claim7.holds Tryd.pinned (.plain (OpenSpec.upto ticketActsSpec)) ticketActsUptoCard
end Rows
end Go.Proofs.YtobpnkcgolkbiaaDoor
