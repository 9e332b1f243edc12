/-
  DERIVED. GIVEN WITH THE SEED: THE CARDS: each row of YtafipmkobdhigaaDoorRows.lean that lists a variable, with what it lists TIED to the program's text (the seventh form; the later family's looks); each row that meets fmt, with fmt's text TOLD by the authors' own Lean function (tested against real Go, not proved from fmt's source: count such statements apart). THE CARD IS WHAT COUNTS. Prove the row's statement (the work); the ties are given (YtafipmkobdhigaaDoorTie.lean); close each card by the builder's one call (the guide's Derived/Test/ToyasCard.lean, 'card_holds'). Laid BY PROGRAM, IN A SANDBOX (cutbox-door.mjs). By AI agents, Wed Nov 11 2026. No macro, syntax, notation, axiom, sorry.
-/
import Derived.Test.YtafipmkobdhigaaDoorRows
import GoSem.ClaimSeven
namespace Go.Proofs.YtafipmkobdhigaaDoor
namespace Rows

/-- THE TIED CARD OF 'purlinlaw11.BarrierTogether'. -/
def barrierTogetherCard : Claim7 := { stood := { row := barrierTogetherRow, standIns := [], harness := (true, "5340de74056126574def8ef511dda3e3b0548d0d040a3b0c655bde2b3164287a"), looks := false }, kinds := [], alts := [], laidByText := true, laidKinds := [.data], laidTests := true, laidLooks := .later }
def BarrierTogetherCardSaid : Prop := Claim7.holds Tryd.pinned (.plain (OpenSpec.ofChange barrierTogetherSpec)) barrierTogetherCard

/-- THE TIED CARD OF 'purlinlaw11.BarrierEnds'. -/
def barrierEndsCard : Claim7 := { stood := { row := barrierEndsRow, standIns := [], harness := (true, "5340de74056126574def8ef511dda3e3b0548d0d040a3b0c655bde2b3164287a"), looks := false }, kinds := [], alts := [], laidByText := true, laidKinds := [.data], laidTests := true, laidLooks := .later }
def BarrierEndsCardSaid : Prop := Claim7.holds Tryd.pinned (.plain (OpenSpec.ofChange barrierEndsSpec)) barrierEndsCard

/-- THE TIED CARD OF 'purlinlaw11.BarrierPlays'. -/
def barrierPlaysCard : Claim7 := { stood := { row := barrierPlaysRow, standIns := [], harness := (true, "5340de74056126574def8ef511dda3e3b0548d0d040a3b0c655bde2b3164287a"), looks := false }, kinds := [], alts := [], laidByText := true, laidKinds := [.data], laidTests := true, laidLooks := .later }
def BarrierPlaysCardSaid : Prop := Claim7.holds Tryd.pinned (.plain (OpenSpec.ofChange barrierPlaysSpec)) barrierPlaysCard

/-- THE TIED CARD OF 'purlinlaw11.BarrierRuns'. -/
def barrierRunsCard : Claim7 := { stood := { row := barrierRunsRow, standIns := [], harness := (true, "5340de74056126574def8ef511dda3e3b0548d0d040a3b0c655bde2b3164287a"), looks := false }, kinds := [], alts := [], laidByText := true, laidKinds := [.data], laidTests := true, laidLooks := .later }
def BarrierRunsCardSaid : Prop := Claim7.holds Tryd.pinned (.plain (OpenSpec.ofChange barrierRunsSpec)) barrierRunsCard

/-- THE SECOND FORM's CARD OF 'purlinlaw11.BarrierTogether'. -/
def barrierTogetherUptoCard : Claim7 := { stood := { row := barrierTogetherUptoRow, standIns := [], harness := (true, "5340de74056126574def8ef511dda3e3b0548d0d040a3b0c655bde2b3164287a"), looks := false }, kinds := [], alts := [], laidByText := true, laidKinds := [.data], laidTests := true, laidLooks := .later }
def BarrierTogetherUptoCardSaid : Prop := Claim7.holds Tryd.pinned (.plain (OpenSpec.upto barrierTogetherSpec)) barrierTogetherUptoCard

/-- THE SECOND FORM's CARD OF 'purlinlaw11.BarrierEnds'. -/
def barrierEndsUptoCard : Claim7 := { stood := { row := barrierEndsUptoRow, standIns := [], harness := (true, "5340de74056126574def8ef511dda3e3b0548d0d040a3b0c655bde2b3164287a"), looks := false }, kinds := [], alts := [], laidByText := true, laidKinds := [.data], laidTests := true, laidLooks := .later }
def BarrierEndsUptoCardSaid : Prop := Claim7.holds Tryd.pinned (.plain (OpenSpec.upto barrierEndsSpec)) barrierEndsUptoCard

/-- THE SECOND FORM's CARD OF 'purlinlaw11.BarrierPlays'. -/
def barrierPlaysUptoCard : Claim7 := { stood := { row := barrierPlaysUptoRow, standIns := [], harness := (true, "5340de74056126574def8ef511dda3e3b0548d0d040a3b0c655bde2b3164287a"), looks := false }, kinds := [], alts := [], laidByText := true, laidKinds := [.data], laidTests := true, laidLooks := .later }
def BarrierPlaysUptoCardSaid : Prop := Claim7.holds Tryd.pinned (.plain (OpenSpec.upto barrierPlaysSpec)) barrierPlaysUptoCard

/-- THE SECOND FORM's CARD OF 'purlinlaw11.BarrierRuns'. -/
def barrierRunsUptoCard : Claim7 := { stood := { row := barrierRunsUptoRow, standIns := [], harness := (true, "5340de74056126574def8ef511dda3e3b0548d0d040a3b0c655bde2b3164287a"), looks := false }, kinds := [], alts := [], laidByText := true, laidKinds := [.data], laidTests := true, laidLooks := .later }
def BarrierRunsUptoCardSaid : Prop := Claim7.holds Tryd.pinned (.plain (OpenSpec.upto barrierRunsSpec)) barrierRunsUptoCard
end Rows
end Go.Proofs.YtafipmkobdhigaaDoor
