/-
  DERIVED. GIVEN WITH THE SEED: THE CARDS: each row of YtfapadgpihpmhaaDoorRows.lean that lists a variable, with what it lists TIED to the program's text (the seventh form; the later family's looks); each row that meets fmt, with fmt's text TOLD by the authors' own Lean function (tested against real Go, not proved from fmt's source: count such statements apart). THE CARD IS WHAT COUNTS. Prove the row's statement (the work); the ties are given (YtfapadgpihpmhaaDoorTie.lean); close each card by the builder's one call (the guide's Derived/Test/ToyasCard.lean, 'card_holds'). Laid BY PROGRAM, IN A SANDBOX (cutbox-door.mjs). By AI agents, Wed Nov 11 2026. No macro, syntax, notation, axiom, sorry.
-/
import Derived.Test.YtfapadgpihpmhaaDoorRows
import GoSem.ClaimSeven
namespace Go.Proofs.YtfapadgpihpmhaaDoor
namespace Rows

/-- THE TIED CARD OF 'purlinlaw13.SlotPlays'. -/
def slotPlaysCard : Claim7 := { stood := { row := slotPlaysRow, standIns := [], harness := (true, "16beb7fb948d9f43db77ebee301224daaedb73040c1f9e5ceb87b636f9a913cb"), looks := false }, kinds := [], alts := [], laidByText := true, laidKinds := [.data], laidTests := true, laidLooks := .later }
def SlotPlaysCardSaid : Prop := Claim7.holds Tryd.pinned (.plain (OpenSpec.ofChange slotPlaysSpec)) slotPlaysCard

/-- THE TIED CARD OF 'purlinlaw13.SlotFresh'. -/
def slotFreshCard : Claim7 := { stood := { row := slotFreshRow, standIns := [], harness := (true, "16beb7fb948d9f43db77ebee301224daaedb73040c1f9e5ceb87b636f9a913cb"), looks := false }, kinds := [], alts := [], laidByText := true, laidKinds := [.data], laidTests := true, laidLooks := .later }
def SlotFreshCardSaid : Prop := Claim7.holds Tryd.pinned (.plain (OpenSpec.ofChange slotFreshSpec)) slotFreshCard

/-- THE TIED CARD OF 'purlinlaw13.SlotBack'. -/
def slotBackCard : Claim7 := { stood := { row := slotBackRow, standIns := [], harness := (true, "16beb7fb948d9f43db77ebee301224daaedb73040c1f9e5ceb87b636f9a913cb"), looks := false }, kinds := [], alts := [], laidByText := true, laidKinds := [.data], laidTests := true, laidLooks := .later }
def SlotBackCardSaid : Prop := Claim7.holds Tryd.pinned (.plain (OpenSpec.ofChange slotBackSpec)) slotBackCard

/-- THE TIED CARD OF 'purlinlaw13.SlotWhole'. -/
def slotWholeCard : Claim7 := { stood := { row := slotWholeRow, standIns := [], harness := (true, "16beb7fb948d9f43db77ebee301224daaedb73040c1f9e5ceb87b636f9a913cb"), looks := false }, kinds := [], alts := [], laidByText := true, laidKinds := [.data], laidTests := true, laidLooks := .later }
def SlotWholeCardSaid : Prop := Claim7.holds Tryd.pinned (.plain (OpenSpec.ofChange slotWholeSpec)) slotWholeCard

/-- THE SECOND FORM's CARD OF 'purlinlaw13.SlotPlays'. -/
def slotPlaysUptoCard : Claim7 := { stood := { row := slotPlaysUptoRow, standIns := [], harness := (true, "16beb7fb948d9f43db77ebee301224daaedb73040c1f9e5ceb87b636f9a913cb"), looks := false }, kinds := [], alts := [], laidByText := true, laidKinds := [.data], laidTests := true, laidLooks := .later }
def SlotPlaysUptoCardSaid : Prop := Claim7.holds Tryd.pinned (.plain (OpenSpec.upto slotPlaysSpec)) slotPlaysUptoCard

/-- THE SECOND FORM's CARD OF 'purlinlaw13.SlotFresh'. -/
def slotFreshUptoCard : Claim7 := { stood := { row := slotFreshUptoRow, standIns := [], harness := (true, "16beb7fb948d9f43db77ebee301224daaedb73040c1f9e5ceb87b636f9a913cb"), looks := false }, kinds := [], alts := [], laidByText := true, laidKinds := [.data], laidTests := true, laidLooks := .later }
def SlotFreshUptoCardSaid : Prop := Claim7.holds Tryd.pinned (.plain (OpenSpec.upto slotFreshSpec)) slotFreshUptoCard

/-- THE SECOND FORM's CARD OF 'purlinlaw13.SlotBack'. -/
def slotBackUptoCard : Claim7 := { stood := { row := slotBackUptoRow, standIns := [], harness := (true, "16beb7fb948d9f43db77ebee301224daaedb73040c1f9e5ceb87b636f9a913cb"), looks := false }, kinds := [], alts := [], laidByText := true, laidKinds := [.data], laidTests := true, laidLooks := .later }
def SlotBackUptoCardSaid : Prop := Claim7.holds Tryd.pinned (.plain (OpenSpec.upto slotBackSpec)) slotBackUptoCard

/-- THE SECOND FORM's CARD OF 'purlinlaw13.SlotWhole'. -/
def slotWholeUptoCard : Claim7 := { stood := { row := slotWholeUptoRow, standIns := [], harness := (true, "16beb7fb948d9f43db77ebee301224daaedb73040c1f9e5ceb87b636f9a913cb"), looks := false }, kinds := [], alts := [], laidByText := true, laidKinds := [.data], laidTests := true, laidLooks := .later }
def SlotWholeUptoCardSaid : Prop := Claim7.holds Tryd.pinned (.plain (OpenSpec.upto slotWholeSpec)) slotWholeUptoCard
end Rows
end Go.Proofs.YtfapadgpihpmhaaDoor
