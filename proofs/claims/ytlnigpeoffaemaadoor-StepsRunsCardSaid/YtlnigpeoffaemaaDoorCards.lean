/-
  DERIVED. GIVEN WITH THE SEED: THE CARDS: each row of YtlnigpeoffaemaaDoorRows.lean that lists a variable, with what it lists TIED to the program's text (the seventh form; the later family's looks); each row that meets fmt, with fmt's text TOLD by the authors' own Lean function (tested against real Go, not proved from fmt's source: count such statements apart). THE CARD IS WHAT COUNTS. Prove the row's statement (the work); the ties are given (YtlnigpeoffaemaaDoorTie.lean); close each card by the builder's one call (the guide's Derived/Test/ToyasCard.lean, 'card_holds'). Laid BY PROGRAM, IN A SANDBOX (cutbox-door.mjs). By AI agents, Wed Nov 11 2026. No macro, syntax, notation, axiom, sorry.
-/
import Derived.Test.YtlnigpeoffaemaaDoorRows
import GoSem.ClaimSeven
namespace Go.Proofs.YtlnigpeoffaemaaDoor
namespace Rows

/-- THE TIED CARD OF 'purlinlaw08.StepsOnce'. -/
def stepsOnceCard : Claim7 := { stood := { row := stepsOnceRow, standIns := [], harness := (true, "d90261366db72eb46ba6faba76c7a3211de98c3a667fa4679d6db3b4718bd348"), looks := false }, kinds := [], alts := [], laidByText := true, laidKinds := [.data], laidTests := true, laidLooks := .later }
def StepsOnceCardSaid : Prop := Claim7.holds Tryd.pinned (.plain (OpenSpec.ofChange stepsOnceSpec)) stepsOnceCard

/-- THE TIED CARD OF 'purlinlaw08.StepsPlays'. -/
def stepsPlaysCard : Claim7 := { stood := { row := stepsPlaysRow, standIns := [], harness := (true, "d90261366db72eb46ba6faba76c7a3211de98c3a667fa4679d6db3b4718bd348"), looks := false }, kinds := [], alts := [], laidByText := true, laidKinds := [.data], laidTests := true, laidLooks := .later }
def StepsPlaysCardSaid : Prop := Claim7.holds Tryd.pinned (.plain (OpenSpec.ofChange stepsPlaysSpec)) stepsPlaysCard

/-- THE TIED CARD OF 'purlinlaw08.StepsApart'. -/
def stepsApartCard : Claim7 := { stood := { row := stepsApartRow, standIns := [], harness := (true, "d90261366db72eb46ba6faba76c7a3211de98c3a667fa4679d6db3b4718bd348"), looks := false }, kinds := [], alts := [], laidByText := true, laidKinds := [.data], laidTests := true, laidLooks := .later }
def StepsApartCardSaid : Prop := Claim7.holds Tryd.pinned (.plain (OpenSpec.ofChange stepsApartSpec)) stepsApartCard

/-- THE TIED CARD OF 'purlinlaw08.StepsLose'. -/
def stepsLoseCard : Claim7 := { stood := { row := stepsLoseRow, standIns := [], harness := (true, "d90261366db72eb46ba6faba76c7a3211de98c3a667fa4679d6db3b4718bd348"), looks := false }, kinds := [], alts := [], laidByText := true, laidKinds := [.data], laidTests := true, laidLooks := .later }
def StepsLoseCardSaid : Prop := Claim7.holds Tryd.pinned (.plain (OpenSpec.ofChange stepsLoseSpec)) stepsLoseCard

/-- THE TIED CARD OF 'purlinlaw08.StepsAdd'. -/
def stepsAddCard : Claim7 := { stood := { row := stepsAddRow, standIns := [], harness := (true, "d90261366db72eb46ba6faba76c7a3211de98c3a667fa4679d6db3b4718bd348"), looks := false }, kinds := [], alts := [], laidByText := true, laidKinds := [.data], laidTests := true, laidLooks := .later }
def StepsAddCardSaid : Prop := Claim7.holds Tryd.pinned (.plain (OpenSpec.ofChange stepsAddSpec)) stepsAddCard

/-- THE TIED CARD OF 'purlinlaw08.StepsRuns'. -/
def stepsRunsCard : Claim7 := { stood := { row := stepsRunsRow, standIns := [], harness := (true, "d90261366db72eb46ba6faba76c7a3211de98c3a667fa4679d6db3b4718bd348"), looks := false }, kinds := [], alts := [], laidByText := true, laidKinds := [.data], laidTests := true, laidLooks := .later }
def StepsRunsCardSaid : Prop := Claim7.holds Tryd.pinned (.plain (OpenSpec.ofChange stepsRunsSpec)) stepsRunsCard

/-- THE SECOND FORM's CARD OF 'purlinlaw08.StepsOnce'. -/
def stepsOnceUptoCard : Claim7 := { stood := { row := stepsOnceUptoRow, standIns := [], harness := (true, "d90261366db72eb46ba6faba76c7a3211de98c3a667fa4679d6db3b4718bd348"), looks := false }, kinds := [], alts := [], laidByText := true, laidKinds := [.data], laidTests := true, laidLooks := .later }
def StepsOnceUptoCardSaid : Prop := Claim7.holds Tryd.pinned (.plain (OpenSpec.upto stepsOnceSpec)) stepsOnceUptoCard

/-- THE SECOND FORM's CARD OF 'purlinlaw08.StepsPlays'. -/
def stepsPlaysUptoCard : Claim7 := { stood := { row := stepsPlaysUptoRow, standIns := [], harness := (true, "d90261366db72eb46ba6faba76c7a3211de98c3a667fa4679d6db3b4718bd348"), looks := false }, kinds := [], alts := [], laidByText := true, laidKinds := [.data], laidTests := true, laidLooks := .later }
def StepsPlaysUptoCardSaid : Prop := Claim7.holds Tryd.pinned (.plain (OpenSpec.upto stepsPlaysSpec)) stepsPlaysUptoCard

/-- THE SECOND FORM's CARD OF 'purlinlaw08.StepsApart'. -/
def stepsApartUptoCard : Claim7 := { stood := { row := stepsApartUptoRow, standIns := [], harness := (true, "d90261366db72eb46ba6faba76c7a3211de98c3a667fa4679d6db3b4718bd348"), looks := false }, kinds := [], alts := [], laidByText := true, laidKinds := [.data], laidTests := true, laidLooks := .later }
def StepsApartUptoCardSaid : Prop := Claim7.holds Tryd.pinned (.plain (OpenSpec.upto stepsApartSpec)) stepsApartUptoCard

/-- THE SECOND FORM's CARD OF 'purlinlaw08.StepsLose'. -/
def stepsLoseUptoCard : Claim7 := { stood := { row := stepsLoseUptoRow, standIns := [], harness := (true, "d90261366db72eb46ba6faba76c7a3211de98c3a667fa4679d6db3b4718bd348"), looks := false }, kinds := [], alts := [], laidByText := true, laidKinds := [.data], laidTests := true, laidLooks := .later }
def StepsLoseUptoCardSaid : Prop := Claim7.holds Tryd.pinned (.plain (OpenSpec.upto stepsLoseSpec)) stepsLoseUptoCard

/-- THE SECOND FORM's CARD OF 'purlinlaw08.StepsAdd'. -/
def stepsAddUptoCard : Claim7 := { stood := { row := stepsAddUptoRow, standIns := [], harness := (true, "d90261366db72eb46ba6faba76c7a3211de98c3a667fa4679d6db3b4718bd348"), looks := false }, kinds := [], alts := [], laidByText := true, laidKinds := [.data], laidTests := true, laidLooks := .later }
def StepsAddUptoCardSaid : Prop := Claim7.holds Tryd.pinned (.plain (OpenSpec.upto stepsAddSpec)) stepsAddUptoCard

/-- THE SECOND FORM's CARD OF 'purlinlaw08.StepsRuns'. -/
def stepsRunsUptoCard : Claim7 := { stood := { row := stepsRunsUptoRow, standIns := [], harness := (true, "d90261366db72eb46ba6faba76c7a3211de98c3a667fa4679d6db3b4718bd348"), looks := false }, kinds := [], alts := [], laidByText := true, laidKinds := [.data], laidTests := true, laidLooks := .later }
def StepsRunsUptoCardSaid : Prop := Claim7.holds Tryd.pinned (.plain (OpenSpec.upto stepsRunsSpec)) stepsRunsUptoCard
end Rows
end Go.Proofs.YtlnigpeoffaemaaDoor
