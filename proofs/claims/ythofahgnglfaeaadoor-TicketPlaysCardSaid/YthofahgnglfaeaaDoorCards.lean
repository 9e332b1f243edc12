/-
  DERIVED. GIVEN WITH THE SEED: THE CARDS: each row of YthofahgnglfaeaaDoorRows.lean that lists a variable, with what it lists TIED to the program's text (the seventh form; the later family's looks); each row that meets fmt, with fmt's text TOLD by the authors' own Lean function (tested against real Go, not proved from fmt's source: count such statements apart). THE CARD IS WHAT COUNTS. Prove the row's statement (the work); the ties are given (YthofahgnglfaeaaDoorTie.lean); close each card by the builder's one call (the guide's Derived/Test/ToyasCard.lean, 'card_holds'). Laid BY PROGRAM, IN A SANDBOX (cutbox-door.mjs). By AI agents, Wed Nov 11 2026. No macro, syntax, notation, axiom, sorry.
-/
import Derived.Test.YthofahgnglfaeaaDoorRows
import GoSem.ClaimSeven
namespace Go.Proofs.YthofahgnglfaeaaDoor
namespace Rows

/-- THE TIED CARD OF 'purlinlaw09.TicketPlays'. -/
def ticketPlaysCard : Claim7 := { stood := { row := ticketPlaysRow, standIns := [], harness := (true, "73cadc04ba2859b50c05b92443cb1a2802b121fc4114a058b8175c1f851f19d3"), looks := false }, kinds := [], alts := [], laidByText := true, laidKinds := [.data], laidTests := true, laidLooks := .later }
def TicketPlaysCardSaid : Prop := Claim7.holds Tryd.pinned (.plain (OpenSpec.ofChange ticketPlaysSpec)) ticketPlaysCard

/-- THE TIED CARD OF 'purlinlaw09.TicketOrder'. -/
def ticketOrderCard : Claim7 := { stood := { row := ticketOrderRow, standIns := [], harness := (true, "73cadc04ba2859b50c05b92443cb1a2802b121fc4114a058b8175c1f851f19d3"), looks := false }, kinds := [], alts := [], laidByText := true, laidKinds := [.data], laidTests := true, laidLooks := .later }
def TicketOrderCardSaid : Prop := Claim7.holds Tryd.pinned (.plain (OpenSpec.ofChange ticketOrderSpec)) ticketOrderCard

/-- THE TIED CARD OF 'purlinlaw09.TicketCell'. -/
def ticketCellCard : Claim7 := { stood := { row := ticketCellRow, standIns := [], harness := (true, "73cadc04ba2859b50c05b92443cb1a2802b121fc4114a058b8175c1f851f19d3"), looks := false }, kinds := [], alts := [], laidByText := true, laidKinds := [.data], laidTests := true, laidLooks := .later }
def TicketCellCardSaid : Prop := Claim7.holds Tryd.pinned (.plain (OpenSpec.ofChange ticketCellSpec)) ticketCellCard

/-- THE TIED CARD OF 'purlinlaw09.TicketSame'. -/
def ticketSameCard : Claim7 := { stood := { row := ticketSameRow, standIns := [], harness := (true, "73cadc04ba2859b50c05b92443cb1a2802b121fc4114a058b8175c1f851f19d3"), looks := false }, kinds := [], alts := [], laidByText := true, laidKinds := [.data], laidTests := true, laidLooks := .later }
def TicketSameCardSaid : Prop := Claim7.holds Tryd.pinned (.plain (OpenSpec.ofChange ticketSameSpec)) ticketSameCard

/-- THE TIED CARD OF 'purlinlaw09.TicketAlone'. -/
def ticketAloneCard : Claim7 := { stood := { row := ticketAloneRow, standIns := [], harness := (true, "73cadc04ba2859b50c05b92443cb1a2802b121fc4114a058b8175c1f851f19d3"), looks := false }, kinds := [], alts := [], laidByText := true, laidKinds := [.data], laidTests := true, laidLooks := .later }
def TicketAloneCardSaid : Prop := Claim7.holds Tryd.pinned (.plain (OpenSpec.ofChange ticketAloneSpec)) ticketAloneCard

/-- THE TIED CARD OF 'purlinlaw09.TicketEnds'. -/
def ticketEndsCard : Claim7 := { stood := { row := ticketEndsRow, standIns := [], harness := (true, "73cadc04ba2859b50c05b92443cb1a2802b121fc4114a058b8175c1f851f19d3"), looks := false }, kinds := [], alts := [], laidByText := true, laidKinds := [.data], laidTests := true, laidLooks := .later }
def TicketEndsCardSaid : Prop := Claim7.holds Tryd.pinned (.plain (OpenSpec.ofChange ticketEndsSpec)) ticketEndsCard

/-- THE SECOND FORM's CARD OF 'purlinlaw09.TicketPlays'. -/
def ticketPlaysUptoCard : Claim7 := { stood := { row := ticketPlaysUptoRow, standIns := [], harness := (true, "73cadc04ba2859b50c05b92443cb1a2802b121fc4114a058b8175c1f851f19d3"), looks := false }, kinds := [], alts := [], laidByText := true, laidKinds := [.data], laidTests := true, laidLooks := .later }
def TicketPlaysUptoCardSaid : Prop := Claim7.holds Tryd.pinned (.plain (OpenSpec.upto ticketPlaysSpec)) ticketPlaysUptoCard

/-- THE SECOND FORM's CARD OF 'purlinlaw09.TicketOrder'. -/
def ticketOrderUptoCard : Claim7 := { stood := { row := ticketOrderUptoRow, standIns := [], harness := (true, "73cadc04ba2859b50c05b92443cb1a2802b121fc4114a058b8175c1f851f19d3"), looks := false }, kinds := [], alts := [], laidByText := true, laidKinds := [.data], laidTests := true, laidLooks := .later }
def TicketOrderUptoCardSaid : Prop := Claim7.holds Tryd.pinned (.plain (OpenSpec.upto ticketOrderSpec)) ticketOrderUptoCard

/-- THE SECOND FORM's CARD OF 'purlinlaw09.TicketCell'. -/
def ticketCellUptoCard : Claim7 := { stood := { row := ticketCellUptoRow, standIns := [], harness := (true, "73cadc04ba2859b50c05b92443cb1a2802b121fc4114a058b8175c1f851f19d3"), looks := false }, kinds := [], alts := [], laidByText := true, laidKinds := [.data], laidTests := true, laidLooks := .later }
def TicketCellUptoCardSaid : Prop := Claim7.holds Tryd.pinned (.plain (OpenSpec.upto ticketCellSpec)) ticketCellUptoCard

/-- THE SECOND FORM's CARD OF 'purlinlaw09.TicketSame'. -/
def ticketSameUptoCard : Claim7 := { stood := { row := ticketSameUptoRow, standIns := [], harness := (true, "73cadc04ba2859b50c05b92443cb1a2802b121fc4114a058b8175c1f851f19d3"), looks := false }, kinds := [], alts := [], laidByText := true, laidKinds := [.data], laidTests := true, laidLooks := .later }
def TicketSameUptoCardSaid : Prop := Claim7.holds Tryd.pinned (.plain (OpenSpec.upto ticketSameSpec)) ticketSameUptoCard

/-- THE SECOND FORM's CARD OF 'purlinlaw09.TicketAlone'. -/
def ticketAloneUptoCard : Claim7 := { stood := { row := ticketAloneUptoRow, standIns := [], harness := (true, "73cadc04ba2859b50c05b92443cb1a2802b121fc4114a058b8175c1f851f19d3"), looks := false }, kinds := [], alts := [], laidByText := true, laidKinds := [.data], laidTests := true, laidLooks := .later }
def TicketAloneUptoCardSaid : Prop := Claim7.holds Tryd.pinned (.plain (OpenSpec.upto ticketAloneSpec)) ticketAloneUptoCard

/-- THE SECOND FORM's CARD OF 'purlinlaw09.TicketEnds'. -/
def ticketEndsUptoCard : Claim7 := { stood := { row := ticketEndsUptoRow, standIns := [], harness := (true, "73cadc04ba2859b50c05b92443cb1a2802b121fc4114a058b8175c1f851f19d3"), looks := false }, kinds := [], alts := [], laidByText := true, laidKinds := [.data], laidTests := true, laidLooks := .later }
def TicketEndsUptoCardSaid : Prop := Claim7.holds Tryd.pinned (.plain (OpenSpec.upto ticketEndsSpec)) ticketEndsUptoCard
end Rows
end Go.Proofs.YthofahgnglfaeaaDoor
