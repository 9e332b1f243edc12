/-
  DERIVED. GIVEN WITH THE SEED: THE CARDS: each row of YtdadfgeepinpbaaDoorRows.lean that lists a variable, with what it lists TIED to the program's text (the seventh form; the later family's looks); each row that meets fmt, with fmt's text TOLD by the authors' own Lean function (tested against real Go, not proved from fmt's source: count such statements apart). THE CARD IS WHAT COUNTS. Prove the row's statement (the work); the ties are given (YtdadfgeepinpbaaDoorTie.lean); close each card by the builder's one call (the guide's Derived/Test/ToyasCard.lean, 'card_holds'). Laid BY PROGRAM, IN A SANDBOX (cutbox-door.mjs). By AI agents, Wed Nov 11 2026. No macro, syntax, notation, axiom, sorry.
-/
import Derived.Test.YtdadfgeepinpbaaDoorRows
import GoSem.ClaimSeven
namespace Go.Proofs.YtdadfgeepinpbaaDoor
namespace Rows

/-- THE TIED CARD OF 'purlinlaw19.PortSlot'. -/
def portSlotCard : Claim7 := { stood := { row := portSlotRow, standIns := [], harness := (true, "26005250c44813a50d0ca5dca7688cf89d785614a3052a4882ea51e622a4594b"), looks := true }, kinds := [], alts := [], laidByText := true, laidKinds := [.data], laidTests := true, laidLooks := .later }
def PortSlotCardSaid : Prop := Claim7.holds Tryd.pinned (.plain (OpenSpec.ofChange portSlotSpec)) portSlotCard

/-- THE TIED CARD OF 'purlinlaw19.PortRing'. -/
def portRingCard : Claim7 := { stood := { row := portRingRow, standIns := [], harness := (true, "26005250c44813a50d0ca5dca7688cf89d785614a3052a4882ea51e622a4594b"), looks := true }, kinds := [], alts := [], laidByText := true, laidKinds := [.data], laidTests := true, laidLooks := .later }
def PortRingCardSaid : Prop := Claim7.holds Tryd.pinned (.plain (OpenSpec.ofChange portRingSpec)) portRingCard

/-- THE SECOND FORM's CARD OF 'purlinlaw19.PortSlot'. -/
def portSlotUptoCard : Claim7 := { stood := { row := portSlotUptoRow, standIns := [], harness := (true, "26005250c44813a50d0ca5dca7688cf89d785614a3052a4882ea51e622a4594b"), looks := true }, kinds := [], alts := [], laidByText := true, laidKinds := [.data], laidTests := true, laidLooks := .later }
def PortSlotUptoCardSaid : Prop := Claim7.holds Tryd.pinned (.plain (OpenSpec.upto portSlotSpec)) portSlotUptoCard

/-- THE SECOND FORM's CARD OF 'purlinlaw19.PortRing'. -/
def portRingUptoCard : Claim7 := { stood := { row := portRingUptoRow, standIns := [], harness := (true, "26005250c44813a50d0ca5dca7688cf89d785614a3052a4882ea51e622a4594b"), looks := true }, kinds := [], alts := [], laidByText := true, laidKinds := [.data], laidTests := true, laidLooks := .later }
def PortRingUptoCardSaid : Prop := Claim7.holds Tryd.pinned (.plain (OpenSpec.upto portRingSpec)) portRingUptoCard
end Rows
end Go.Proofs.YtdadfgeepinpbaaDoor
