/-
  NARROWER THAN 'FOR EVERY INPUT', by the rows' own cells (each row's printed sentence says how): BarrierTogether: laid · BarrierEnds: laid · BarrierPlays: laid · BarrierRuns: laid.
  DERIVED. THE GIVEN ROWS OF THIS SEAT. 4 by the template 'for every input the law returns true; each argument reads behind the call as it read before'; 0 by the template 'total and deterministic' (their statements: YtafipmkobdhigaaDoorTotals.lean).
  GIVEN WITH THE SEED: the statements are not yours to turn. If you find one false, say at which input.
  Laid BY PROGRAM, IN A SANDBOX (cutbox-rows.mjs): the forced cells as the released guide's own fill.sh prints them over the translation 73a36c368a6622b3… (all of the seat's roots in one cut). By AI agents, Wed Nov 11 2026. No macro, syntax, notation, axiom, sorry.
-/
import Derived.Test.YtafipmkobdhigaaDoorChecked
import GoSem.Claim
import GoSem.ClaimJoined
import GoSem.ClaimMapViews
import Derived.JoinedTies
import Derived.KernelRfl
namespace Go.Proofs.YtafipmkobdhigaaDoor
/- THE CELL 'sum', in the pinned program and in every row, IS THE sha256 OF THE DUMP (.gsa) THAT YtafipmkobdhigaaDoorProg.lean LOADS. Nothing in Lean hashes anything: it is a label: what it is worth is what the hold of that sum in a sandbox is worth. -/
noncomputable def Tryd.pinned : Pinned := { name := "ytafipmkobdhigaadoor", sum := "73a36c368a6622b395af6f1c5a6e6bff4679ce00c85a3237854acdc2b6e625c7", checked := Tryd.checked }
namespace Rows
def none {H : Type} : Left H := { results := [], args := [] }

/- WHAT THE LISTED PACKAGE-LEVEL VARIABLES READ AS WHEN THE CALL BEGINS. Each datum BY PROGRAM (the guide's laid-datum.mjs) off the statement by which the dump's own 'gosem.cut.vars' lays the variable. In a bare row this is a premise. The card (YtafipmkobdhigaaDoorCards.lean) ties it to the program's text. -/
def laid_purlin_mem_look {H : Type} : DataW H := .agg [.lit (.int .u32 4294967295), .lit (.int .u32 0), .lit (.int .u32 0)]

/-- 'purlinlaw11.BarrierTogether': WHATEVER THE INPUT: true; the input reads as it did. -/
def barrierTogetherSpec : ChangeSpec := { name := "barrierTogether", fn := fun _ => fun
  | [d1, d2, d3] => { results := [.lit (.bool true)], args := [d1, d2, d3] }
  | _ => none }
def barrierTogetherRow : OpenClaim := { program := "ytafipmkobdhigaadoor", sum := "73a36c368a6622b395af6f1c5a6e6bff4679ce00c85a3237854acdc2b6e625c7", func := "purlin/purlinlaw11.BarrierTogether", spec := "barrierTogether", unfollowed := true, recurses := true, named := ["purlin/mem.look"], apart := false, laid := [("purlin/mem.look", laid_purlin_mem_look)] }
def BarrierTogetherSaid : Prop := barrierTogetherRow.holds Tryd.pinned (OpenSpec.ofChange barrierTogetherSpec)

/-- ITS FALSE NEIGHBOUR: 'it returns false'. Refute it at one input. -/
def barrierTogetherWrong : ChangeSpec := { name := "barrierTogether", fn := fun _ => fun
  | [d1, d2, d3] => { results := [.lit (.bool false)], args := [d1, d2, d3] }
  | _ => none }
def BarrierTogetherWrongFalsely : Prop := barrierTogetherRow.holds Tryd.pinned (OpenSpec.ofChange barrierTogetherWrong)

/-- 'purlinlaw11.BarrierEnds': WHATEVER THE INPUT: true; the input reads as it did. -/
def barrierEndsSpec : ChangeSpec := { name := "barrierEnds", fn := fun _ => fun
  | [d1, d2, d3] => { results := [.lit (.bool true)], args := [d1, d2, d3] }
  | _ => none }
def barrierEndsRow : OpenClaim := { program := "ytafipmkobdhigaadoor", sum := "73a36c368a6622b395af6f1c5a6e6bff4679ce00c85a3237854acdc2b6e625c7", func := "purlin/purlinlaw11.BarrierEnds", spec := "barrierEnds", unfollowed := true, recurses := true, named := ["purlin/mem.look"], apart := false, laid := [("purlin/mem.look", laid_purlin_mem_look)] }
def BarrierEndsSaid : Prop := barrierEndsRow.holds Tryd.pinned (OpenSpec.ofChange barrierEndsSpec)

/-- ITS FALSE NEIGHBOUR: 'it returns false'. Refute it at one input. -/
def barrierEndsWrong : ChangeSpec := { name := "barrierEnds", fn := fun _ => fun
  | [d1, d2, d3] => { results := [.lit (.bool false)], args := [d1, d2, d3] }
  | _ => none }
def BarrierEndsWrongFalsely : Prop := barrierEndsRow.holds Tryd.pinned (OpenSpec.ofChange barrierEndsWrong)

/-- 'purlinlaw11.BarrierPlays': WHATEVER THE INPUT: true; the input reads as it did. -/
def barrierPlaysSpec : ChangeSpec := { name := "barrierPlays", fn := fun _ => fun
  | [d1, d2, d3] => { results := [.lit (.bool true)], args := [d1, d2, d3] }
  | _ => none }
def barrierPlaysRow : OpenClaim := { program := "ytafipmkobdhigaadoor", sum := "73a36c368a6622b395af6f1c5a6e6bff4679ce00c85a3237854acdc2b6e625c7", func := "purlin/purlinlaw11.BarrierPlays", spec := "barrierPlays", unfollowed := true, recurses := true, named := ["purlin/mem.look"], apart := false, laid := [("purlin/mem.look", laid_purlin_mem_look)] }
def BarrierPlaysSaid : Prop := barrierPlaysRow.holds Tryd.pinned (OpenSpec.ofChange barrierPlaysSpec)

/-- ITS FALSE NEIGHBOUR: 'it returns false'. Refute it at one input. -/
def barrierPlaysWrong : ChangeSpec := { name := "barrierPlays", fn := fun _ => fun
  | [d1, d2, d3] => { results := [.lit (.bool false)], args := [d1, d2, d3] }
  | _ => none }
def BarrierPlaysWrongFalsely : Prop := barrierPlaysRow.holds Tryd.pinned (OpenSpec.ofChange barrierPlaysWrong)

/-- 'purlinlaw11.BarrierRuns': WHATEVER THE INPUT: true; the input reads as it did. -/
def barrierRunsSpec : ChangeSpec := { name := "barrierRuns", fn := fun _ => fun
  | [d1, d2, d3] => { results := [.lit (.bool true)], args := [d1, d2, d3] }
  | _ => none }
def barrierRunsRow : OpenClaim := { program := "ytafipmkobdhigaadoor", sum := "73a36c368a6622b395af6f1c5a6e6bff4679ce00c85a3237854acdc2b6e625c7", func := "purlin/purlinlaw11.BarrierRuns", spec := "barrierRuns", unfollowed := true, recurses := true, named := ["purlin/mem.look"], apart := false, laid := [("purlin/mem.look", laid_purlin_mem_look)] }
def BarrierRunsSaid : Prop := barrierRunsRow.holds Tryd.pinned (OpenSpec.ofChange barrierRunsSpec)

/-- ITS FALSE NEIGHBOUR: 'it returns false'. Refute it at one input. -/
def barrierRunsWrong : ChangeSpec := { name := "barrierRuns", fn := fun _ => fun
  | [d1, d2, d3] => { results := [.lit (.bool false)], args := [d1, d2, d3] }
  | _ => none }
def BarrierRunsWrongFalsely : Prop := barrierRunsRow.holds Tryd.pinned (OpenSpec.ofChange barrierRunsWrong)

/- THE SECOND FORM. 'bulk': how many values and letters a reading holds, each counted each time it is reached (what is shared counts as often as it is met; a slice's spare places count too). A statement '..UptoSaid' is the law's where the arguments, and the package variables that the reading takes, are together of bulk at most 1048576: NARROWER than '..Said'. Prove '..Said' where nothing that the law and all that it calls make is longer than what came in: it says more and counts as full. Else prove '..UptoSaid'. A law counts once. -/
mutual
def uptoBulk {H : Type} : DataW H → Nat
  | .lit (.string bytes) => bytes.length + 1
  | .lit _ => 1
  | .nil => 1
  | .ptr d => uptoBulk d + 1
  | .slice elems spare => uptoBulkAll elems + uptoBulkAll spare + 1
  | .agg parts => uptoBulkAll parts + 1
  | .iface _ d => uptoBulk d + 1
  | .map entries => uptoBulkEntries entries + 1
  | .held _ => 1
def uptoBulkAll {H : Type} : List (DataW H) → Nat
  | [] => 0
  | d :: r => uptoBulk d + uptoBulkAll r
def uptoBulkEntries {H : Type} : List (Lit × DataW H) → Nat
  | [] => 0
  | x :: r => uptoBulkEntry x + uptoBulkEntries r
def uptoBulkEntry {H : Type} : Lit × DataW H → Nat
  | (.string bytes, d) => bytes.length + uptoBulk d + 1
  | (_, d) => uptoBulk d + 1
 end
def uptoSmall : (H : Type) → List (DataW H) → Bool := fun _ ds => decide (uptoBulkAll ds ≤ 1048576)
def OpenSpec.upto (s : _root_.Go.ChangeSpec) : _root_.Go.OpenSpec := { _root_.Go.OpenSpec.ofChange s with cond := some uptoSmall }

/-- 'purlinlaw11.BarrierTogether', WHERE WHAT IT READS IS OF BULK AT MOST 1048576: true; the input reads as it did. -/
def barrierTogetherUptoRow : OpenClaim := { program := "ytafipmkobdhigaadoor", sum := "73a36c368a6622b395af6f1c5a6e6bff4679ce00c85a3237854acdc2b6e625c7", func := "purlin/purlinlaw11.BarrierTogether", spec := "barrierTogether", unfollowed := true, recurses := true, named := ["purlin/mem.look"], apart := false, laid := [("purlin/mem.look", laid_purlin_mem_look)], narrowed := true }
def BarrierTogetherUptoSaid : Prop := barrierTogetherUptoRow.holds Tryd.pinned (OpenSpec.upto barrierTogetherSpec)

/-- 'purlinlaw11.BarrierEnds', WHERE WHAT IT READS IS OF BULK AT MOST 1048576: true; the input reads as it did. -/
def barrierEndsUptoRow : OpenClaim := { program := "ytafipmkobdhigaadoor", sum := "73a36c368a6622b395af6f1c5a6e6bff4679ce00c85a3237854acdc2b6e625c7", func := "purlin/purlinlaw11.BarrierEnds", spec := "barrierEnds", unfollowed := true, recurses := true, named := ["purlin/mem.look"], apart := false, laid := [("purlin/mem.look", laid_purlin_mem_look)], narrowed := true }
def BarrierEndsUptoSaid : Prop := barrierEndsUptoRow.holds Tryd.pinned (OpenSpec.upto barrierEndsSpec)

/-- 'purlinlaw11.BarrierPlays', WHERE WHAT IT READS IS OF BULK AT MOST 1048576: true; the input reads as it did. -/
def barrierPlaysUptoRow : OpenClaim := { program := "ytafipmkobdhigaadoor", sum := "73a36c368a6622b395af6f1c5a6e6bff4679ce00c85a3237854acdc2b6e625c7", func := "purlin/purlinlaw11.BarrierPlays", spec := "barrierPlays", unfollowed := true, recurses := true, named := ["purlin/mem.look"], apart := false, laid := [("purlin/mem.look", laid_purlin_mem_look)], narrowed := true }
def BarrierPlaysUptoSaid : Prop := barrierPlaysUptoRow.holds Tryd.pinned (OpenSpec.upto barrierPlaysSpec)

/-- 'purlinlaw11.BarrierRuns', WHERE WHAT IT READS IS OF BULK AT MOST 1048576: true; the input reads as it did. -/
def barrierRunsUptoRow : OpenClaim := { program := "ytafipmkobdhigaadoor", sum := "73a36c368a6622b395af6f1c5a6e6bff4679ce00c85a3237854acdc2b6e625c7", func := "purlin/purlinlaw11.BarrierRuns", spec := "barrierRuns", unfollowed := true, recurses := true, named := ["purlin/mem.look"], apart := false, laid := [("purlin/mem.look", laid_purlin_mem_look)], narrowed := true }
def BarrierRunsUptoSaid : Prop := barrierRunsUptoRow.holds Tryd.pinned (OpenSpec.upto barrierRunsSpec)

end Rows
end Go.Proofs.YtafipmkobdhigaaDoor
