/-
  DERIVED. GIVEN WITH THE SEED: THE CARDS: each row of YtmknmbacecjfmaaDoorRows.lean that lists a variable, with what it lists TIED to the program's text (the seventh form; the later family's looks); each row that meets fmt, with fmt's text TOLD by the authors' own Lean function (tested against real Go, not proved from fmt's source: count such statements apart). THE CARD IS WHAT COUNTS. Prove the row's statement (the work); the ties are given (YtmknmbacecjfmaaDoorTie.lean); close each card by the builder's one call (the guide's Derived/Test/ToyasCard.lean, 'card_holds'). Laid BY PROGRAM, IN A SANDBOX (cutbox-door.mjs). By AI agents, Wed Nov 11 2026. No macro, syntax, notation, axiom, sorry.
-/
import Derived.Test.YtmknmbacecjfmaaDoorRows
import GoSem.ClaimSeven
namespace Go.Proofs.YtmknmbacecjfmaaDoor
namespace Rows

/-- THE TIED CARD OF 'purlinlaw10.SeqlockWhole'. -/
def seqlockWholeCard : Claim7 := { stood := { row := seqlockWholeRow, standIns := [], harness := (true, "36615c33a046c977069959ba8d3f78b38ae8727331ea5e7bb16af767492c5681"), looks := false }, kinds := [], alts := [], laidByText := true, laidKinds := [.data], laidTests := true, laidLooks := .later }
def SeqlockWholeCardSaid : Prop := Claim7.holds Tryd.pinned (.plain (OpenSpec.ofChange seqlockWholeSpec)) seqlockWholeCard

/-- THE TIED CARD OF 'purlinlaw10.SeqlockCalm'. -/
def seqlockCalmCard : Claim7 := { stood := { row := seqlockCalmRow, standIns := [], harness := (true, "36615c33a046c977069959ba8d3f78b38ae8727331ea5e7bb16af767492c5681"), looks := false }, kinds := [], alts := [], laidByText := true, laidKinds := [.data], laidTests := true, laidLooks := .later }
def SeqlockCalmCardSaid : Prop := Claim7.holds Tryd.pinned (.plain (OpenSpec.ofChange seqlockCalmSpec)) seqlockCalmCard

/-- THE TIED CARD OF 'purlinlaw10.SeqlockOdd'. -/
def seqlockOddCard : Claim7 := { stood := { row := seqlockOddRow, standIns := [], harness := (true, "36615c33a046c977069959ba8d3f78b38ae8727331ea5e7bb16af767492c5681"), looks := false }, kinds := [], alts := [], laidByText := true, laidKinds := [.data], laidTests := true, laidLooks := .later }
def SeqlockOddCardSaid : Prop := Claim7.holds Tryd.pinned (.plain (OpenSpec.ofChange seqlockOddSpec)) seqlockOddCard

/-- THE TIED CARD OF 'purlinlaw10.SeqlockTries'. -/
def seqlockTriesCard : Claim7 := { stood := { row := seqlockTriesRow, standIns := [], harness := (true, "36615c33a046c977069959ba8d3f78b38ae8727331ea5e7bb16af767492c5681"), looks := false }, kinds := [], alts := [], laidByText := true, laidKinds := [.data], laidTests := true, laidLooks := .later }
def SeqlockTriesCardSaid : Prop := Claim7.holds Tryd.pinned (.plain (OpenSpec.ofChange seqlockTriesSpec)) seqlockTriesCard

/-- THE TIED CARD OF 'purlinlaw10.SeqlockPlays'. -/
def seqlockPlaysCard : Claim7 := { stood := { row := seqlockPlaysRow, standIns := [], harness := (true, "36615c33a046c977069959ba8d3f78b38ae8727331ea5e7bb16af767492c5681"), looks := false }, kinds := [], alts := [], laidByText := true, laidKinds := [.data], laidTests := true, laidLooks := .later }
def SeqlockPlaysCardSaid : Prop := Claim7.holds Tryd.pinned (.plain (OpenSpec.ofChange seqlockPlaysSpec)) seqlockPlaysCard

/-- THE SECOND FORM's CARD OF 'purlinlaw10.SeqlockWhole'. -/
def seqlockWholeUptoCard : Claim7 := { stood := { row := seqlockWholeUptoRow, standIns := [], harness := (true, "36615c33a046c977069959ba8d3f78b38ae8727331ea5e7bb16af767492c5681"), looks := false }, kinds := [], alts := [], laidByText := true, laidKinds := [.data], laidTests := true, laidLooks := .later }
def SeqlockWholeUptoCardSaid : Prop := Claim7.holds Tryd.pinned (.plain (OpenSpec.upto seqlockWholeSpec)) seqlockWholeUptoCard

/-- THE SECOND FORM's CARD OF 'purlinlaw10.SeqlockCalm'. -/
def seqlockCalmUptoCard : Claim7 := { stood := { row := seqlockCalmUptoRow, standIns := [], harness := (true, "36615c33a046c977069959ba8d3f78b38ae8727331ea5e7bb16af767492c5681"), looks := false }, kinds := [], alts := [], laidByText := true, laidKinds := [.data], laidTests := true, laidLooks := .later }
def SeqlockCalmUptoCardSaid : Prop := Claim7.holds Tryd.pinned (.plain (OpenSpec.upto seqlockCalmSpec)) seqlockCalmUptoCard

/-- THE SECOND FORM's CARD OF 'purlinlaw10.SeqlockOdd'. -/
def seqlockOddUptoCard : Claim7 := { stood := { row := seqlockOddUptoRow, standIns := [], harness := (true, "36615c33a046c977069959ba8d3f78b38ae8727331ea5e7bb16af767492c5681"), looks := false }, kinds := [], alts := [], laidByText := true, laidKinds := [.data], laidTests := true, laidLooks := .later }
def SeqlockOddUptoCardSaid : Prop := Claim7.holds Tryd.pinned (.plain (OpenSpec.upto seqlockOddSpec)) seqlockOddUptoCard

/-- THE SECOND FORM's CARD OF 'purlinlaw10.SeqlockTries'. -/
def seqlockTriesUptoCard : Claim7 := { stood := { row := seqlockTriesUptoRow, standIns := [], harness := (true, "36615c33a046c977069959ba8d3f78b38ae8727331ea5e7bb16af767492c5681"), looks := false }, kinds := [], alts := [], laidByText := true, laidKinds := [.data], laidTests := true, laidLooks := .later }
def SeqlockTriesUptoCardSaid : Prop := Claim7.holds Tryd.pinned (.plain (OpenSpec.upto seqlockTriesSpec)) seqlockTriesUptoCard

/-- THE SECOND FORM's CARD OF 'purlinlaw10.SeqlockPlays'. -/
def seqlockPlaysUptoCard : Claim7 := { stood := { row := seqlockPlaysUptoRow, standIns := [], harness := (true, "36615c33a046c977069959ba8d3f78b38ae8727331ea5e7bb16af767492c5681"), looks := false }, kinds := [], alts := [], laidByText := true, laidKinds := [.data], laidTests := true, laidLooks := .later }
def SeqlockPlaysUptoCardSaid : Prop := Claim7.holds Tryd.pinned (.plain (OpenSpec.upto seqlockPlaysSpec)) seqlockPlaysUptoCard
end Rows
end Go.Proofs.YtmknmbacecjfmaaDoor
