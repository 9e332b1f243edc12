/-
  DERIVED. GIVEN WITH THE SEED: THE CARDS: each row of YtplbncncnjiahaaDoorRows.lean that lists a variable, with what it lists TIED to the program's text (the seventh form; the later family's looks); each row that meets fmt, with fmt's text TOLD by the authors' own Lean function (tested against real Go, not proved from fmt's source: count such statements apart). THE CARD IS WHAT COUNTS. Prove the row's statement (the work); the ties are given (YtplbncncnjiahaaDoorTie.lean); close each card by the builder's one call (the guide's Derived/Test/ToyasCard.lean, 'card_holds'). Laid BY PROGRAM, IN A SANDBOX (cutbox-door.mjs). By AI agents, Wed Nov 11 2026. No macro, syntax, notation, axiom, sorry.
-/
import Derived.Test.YtplbncncnjiahaaDoorRows
import GoSem.ClaimSeven
namespace Go.Proofs.YtplbncncnjiahaaDoor
namespace Rows

/-- THE TIED CARD OF 'purlinlaw12.RingMakes'. -/
def ringMakesCard : Claim7 := { stood := { row := ringMakesRow, standIns := [], harness := (true, "d1740da5cc1cde5f03aaf35af3590cfa3a99c491e1539768d2777db315b86032"), looks := false }, kinds := [], alts := [], laidByText := true, laidKinds := [.data], laidTests := true, laidLooks := .later }
def RingMakesCardSaid : Prop := Claim7.holds Tryd.pinned (.plain (OpenSpec.ofChange ringMakesSpec)) ringMakesCard

/-- THE TIED CARD OF 'purlinlaw12.RingPlays'. -/
def ringPlaysCard : Claim7 := { stood := { row := ringPlaysRow, standIns := [], harness := (true, "d1740da5cc1cde5f03aaf35af3590cfa3a99c491e1539768d2777db315b86032"), looks := false }, kinds := [], alts := [], laidByText := true, laidKinds := [.data], laidTests := true, laidLooks := .later }
def RingPlaysCardSaid : Prop := Claim7.holds Tryd.pinned (.plain (OpenSpec.ofChange ringPlaysSpec)) ringPlaysCard

/-- THE TIED CARD OF 'purlinlaw12.RingOrder'. -/
def ringOrderCard : Claim7 := { stood := { row := ringOrderRow, standIns := [], harness := (true, "d1740da5cc1cde5f03aaf35af3590cfa3a99c491e1539768d2777db315b86032"), looks := false }, kinds := [], alts := [], laidByText := true, laidKinds := [.data], laidTests := true, laidLooks := .later }
def RingOrderCardSaid : Prop := Claim7.holds Tryd.pinned (.plain (OpenSpec.ofChange ringOrderSpec)) ringOrderCard

/-- THE TIED CARD OF 'purlinlaw12.RingFull'. -/
def ringFullCard : Claim7 := { stood := { row := ringFullRow, standIns := [], harness := (true, "d1740da5cc1cde5f03aaf35af3590cfa3a99c491e1539768d2777db315b86032"), looks := false }, kinds := [], alts := [], laidByText := true, laidKinds := [.data], laidTests := true, laidLooks := .later }
def RingFullCardSaid : Prop := Claim7.holds Tryd.pinned (.plain (OpenSpec.ofChange ringFullSpec)) ringFullCard

/-- THE TIED CARD OF 'purlinlaw12.RingSame'. -/
def ringSameCard : Claim7 := { stood := { row := ringSameRow, standIns := [], harness := (true, "d1740da5cc1cde5f03aaf35af3590cfa3a99c491e1539768d2777db315b86032"), looks := false }, kinds := [], alts := [], laidByText := true, laidKinds := [.data], laidTests := true, laidLooks := .later }
def RingSameCardSaid : Prop := Claim7.holds Tryd.pinned (.plain (OpenSpec.ofChange ringSameSpec)) ringSameCard

/-- THE SECOND FORM's CARD OF 'purlinlaw12.RingMakes'. -/
def ringMakesUptoCard : Claim7 := { stood := { row := ringMakesUptoRow, standIns := [], harness := (true, "d1740da5cc1cde5f03aaf35af3590cfa3a99c491e1539768d2777db315b86032"), looks := false }, kinds := [], alts := [], laidByText := true, laidKinds := [.data], laidTests := true, laidLooks := .later }
def RingMakesUptoCardSaid : Prop := Claim7.holds Tryd.pinned (.plain (OpenSpec.upto ringMakesSpec)) ringMakesUptoCard

/-- THE SECOND FORM's CARD OF 'purlinlaw12.RingPlays'. -/
def ringPlaysUptoCard : Claim7 := { stood := { row := ringPlaysUptoRow, standIns := [], harness := (true, "d1740da5cc1cde5f03aaf35af3590cfa3a99c491e1539768d2777db315b86032"), looks := false }, kinds := [], alts := [], laidByText := true, laidKinds := [.data], laidTests := true, laidLooks := .later }
def RingPlaysUptoCardSaid : Prop := Claim7.holds Tryd.pinned (.plain (OpenSpec.upto ringPlaysSpec)) ringPlaysUptoCard

/-- THE SECOND FORM's CARD OF 'purlinlaw12.RingOrder'. -/
def ringOrderUptoCard : Claim7 := { stood := { row := ringOrderUptoRow, standIns := [], harness := (true, "d1740da5cc1cde5f03aaf35af3590cfa3a99c491e1539768d2777db315b86032"), looks := false }, kinds := [], alts := [], laidByText := true, laidKinds := [.data], laidTests := true, laidLooks := .later }
def RingOrderUptoCardSaid : Prop := Claim7.holds Tryd.pinned (.plain (OpenSpec.upto ringOrderSpec)) ringOrderUptoCard

/-- THE SECOND FORM's CARD OF 'purlinlaw12.RingFull'. -/
def ringFullUptoCard : Claim7 := { stood := { row := ringFullUptoRow, standIns := [], harness := (true, "d1740da5cc1cde5f03aaf35af3590cfa3a99c491e1539768d2777db315b86032"), looks := false }, kinds := [], alts := [], laidByText := true, laidKinds := [.data], laidTests := true, laidLooks := .later }
def RingFullUptoCardSaid : Prop := Claim7.holds Tryd.pinned (.plain (OpenSpec.upto ringFullSpec)) ringFullUptoCard

/-- THE SECOND FORM's CARD OF 'purlinlaw12.RingSame'. -/
def ringSameUptoCard : Claim7 := { stood := { row := ringSameUptoRow, standIns := [], harness := (true, "d1740da5cc1cde5f03aaf35af3590cfa3a99c491e1539768d2777db315b86032"), looks := false }, kinds := [], alts := [], laidByText := true, laidKinds := [.data], laidTests := true, laidLooks := .later }
def RingSameUptoCardSaid : Prop := Claim7.holds Tryd.pinned (.plain (OpenSpec.upto ringSameSpec)) ringSameUptoCard
end Rows
end Go.Proofs.YtplbncncnjiahaaDoor
