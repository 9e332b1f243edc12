/-
  NARROWER THAN 'FOR EVERY INPUT', by the rows' own cells (each row's printed sentence says how): StepsOnce: laid · StepsPlays: laid · StepsApart: laid · StepsLose: laid · StepsAdd: laid · StepsRuns: laid.
  DERIVED. THE GIVEN ROWS OF THIS SEAT. 6 by the template 'for every input the law returns true; each argument reads behind the call as it read before'; 0 by the template 'total and deterministic' (their statements: YtlnigpeoffaemaaDoorTotals.lean).
  GIVEN WITH THE SEED: the statements are not yours to turn. If you find one false, say at which input.
  Laid BY PROGRAM, IN A SANDBOX (cutbox-rows.mjs): the forced cells as the released guide's own fill.sh prints them over the translation 200a6fa1b4888331… (all of the seat's roots in one cut). By AI agents, Wed Nov 11 2026. No macro, syntax, notation, axiom, sorry.
-/
import Derived.Test.YtlnigpeoffaemaaDoorChecked
import GoSem.Claim
import GoSem.ClaimJoined
import GoSem.ClaimMapViews
import Derived.JoinedTies
import Derived.KernelRfl
namespace Go.Proofs.YtlnigpeoffaemaaDoor
/- THE CELL 'sum', in the pinned program and in every row, IS THE sha256 OF THE DUMP (.gsa) THAT YtlnigpeoffaemaaDoorProg.lean LOADS. Nothing in Lean hashes anything: it is a label: what it is worth is what the hold of that sum in a sandbox is worth. -/
noncomputable def Tryd.pinned : Pinned := { name := "ytlnigpeoffaemaadoor", sum := "200a6fa1b48883312e8b6e9aa4b04a8ba935bc8525e3e1af0aa95112d917d91e", checked := Tryd.checked }
namespace Rows
def none {H : Type} : Left H := { results := [], args := [] }

/- WHAT THE LISTED PACKAGE-LEVEL VARIABLES READ AS WHEN THE CALL BEGINS. Each datum BY PROGRAM (the guide's laid-datum.mjs) off the statement by which the dump's own 'gosem.cut.vars' lays the variable. In a bare row this is a premise. The card (YtlnigpeoffaemaaDoorCards.lean) ties it to the program's text. -/
def laid_purlin_mem_look {H : Type} : DataW H := .agg [.lit (.int .u32 4294967295), .lit (.int .u32 0), .lit (.int .u32 0)]

/-- 'purlinlaw08.StepsOnce': WHATEVER THE INPUT: true; the input reads as it did. -/
def stepsOnceSpec : ChangeSpec := { name := "stepsOnce", fn := fun _ => fun
  | [d1, d2] => { results := [.lit (.bool true)], args := [d1, d2] }
  | _ => none }
def stepsOnceRow : OpenClaim := { program := "ytlnigpeoffaemaadoor", sum := "200a6fa1b48883312e8b6e9aa4b04a8ba935bc8525e3e1af0aa95112d917d91e", func := "purlin/purlinlaw08.StepsOnce", spec := "stepsOnce", unfollowed := true, recurses := true, named := ["purlin/mem.look"], apart := false, laid := [("purlin/mem.look", laid_purlin_mem_look)] }
def StepsOnceSaid : Prop := stepsOnceRow.holds Tryd.pinned (OpenSpec.ofChange stepsOnceSpec)

/-- ITS FALSE NEIGHBOUR: 'it returns false'. Refute it at one input. -/
def stepsOnceWrong : ChangeSpec := { name := "stepsOnce", fn := fun _ => fun
  | [d1, d2] => { results := [.lit (.bool false)], args := [d1, d2] }
  | _ => none }
def StepsOnceWrongFalsely : Prop := stepsOnceRow.holds Tryd.pinned (OpenSpec.ofChange stepsOnceWrong)

/-- 'purlinlaw08.StepsPlays': WHATEVER THE INPUT: true; the input reads as it did. -/
def stepsPlaysSpec : ChangeSpec := { name := "stepsPlays", fn := fun _ => fun
  | [d1, d2] => { results := [.lit (.bool true)], args := [d1, d2] }
  | _ => none }
def stepsPlaysRow : OpenClaim := { program := "ytlnigpeoffaemaadoor", sum := "200a6fa1b48883312e8b6e9aa4b04a8ba935bc8525e3e1af0aa95112d917d91e", func := "purlin/purlinlaw08.StepsPlays", spec := "stepsPlays", unfollowed := true, recurses := true, named := ["purlin/mem.look"], apart := false, laid := [("purlin/mem.look", laid_purlin_mem_look)] }
def StepsPlaysSaid : Prop := stepsPlaysRow.holds Tryd.pinned (OpenSpec.ofChange stepsPlaysSpec)

/-- ITS FALSE NEIGHBOUR: 'it returns false'. Refute it at one input. -/
def stepsPlaysWrong : ChangeSpec := { name := "stepsPlays", fn := fun _ => fun
  | [d1, d2] => { results := [.lit (.bool false)], args := [d1, d2] }
  | _ => none }
def StepsPlaysWrongFalsely : Prop := stepsPlaysRow.holds Tryd.pinned (OpenSpec.ofChange stepsPlaysWrong)

/-- 'purlinlaw08.StepsApart': WHATEVER THE INPUT: true; the input reads as it did. -/
def stepsApartSpec : ChangeSpec := { name := "stepsApart", fn := fun _ => fun
  | [d1, d2, d3] => { results := [.lit (.bool true)], args := [d1, d2, d3] }
  | _ => none }
def stepsApartRow : OpenClaim := { program := "ytlnigpeoffaemaadoor", sum := "200a6fa1b48883312e8b6e9aa4b04a8ba935bc8525e3e1af0aa95112d917d91e", func := "purlin/purlinlaw08.StepsApart", spec := "stepsApart", unfollowed := true, recurses := true, named := ["purlin/mem.look"], apart := false, laid := [("purlin/mem.look", laid_purlin_mem_look)] }
def StepsApartSaid : Prop := stepsApartRow.holds Tryd.pinned (OpenSpec.ofChange stepsApartSpec)

/-- ITS FALSE NEIGHBOUR: 'it returns false'. Refute it at one input. -/
def stepsApartWrong : ChangeSpec := { name := "stepsApart", fn := fun _ => fun
  | [d1, d2, d3] => { results := [.lit (.bool false)], args := [d1, d2, d3] }
  | _ => none }
def StepsApartWrongFalsely : Prop := stepsApartRow.holds Tryd.pinned (OpenSpec.ofChange stepsApartWrong)

/-- 'purlinlaw08.StepsLose': WHATEVER THE INPUT: true; the input reads as it did. -/
def stepsLoseSpec : ChangeSpec := { name := "stepsLose", fn := fun _ => fun
  | [d1, d2] => { results := [.lit (.bool true)], args := [d1, d2] }
  | _ => none }
def stepsLoseRow : OpenClaim := { program := "ytlnigpeoffaemaadoor", sum := "200a6fa1b48883312e8b6e9aa4b04a8ba935bc8525e3e1af0aa95112d917d91e", func := "purlin/purlinlaw08.StepsLose", spec := "stepsLose", unfollowed := true, recurses := true, named := ["purlin/mem.look"], apart := false, laid := [("purlin/mem.look", laid_purlin_mem_look)] }
def StepsLoseSaid : Prop := stepsLoseRow.holds Tryd.pinned (OpenSpec.ofChange stepsLoseSpec)

/-- ITS FALSE NEIGHBOUR: 'it returns false'. Refute it at one input. -/
def stepsLoseWrong : ChangeSpec := { name := "stepsLose", fn := fun _ => fun
  | [d1, d2] => { results := [.lit (.bool false)], args := [d1, d2] }
  | _ => none }
def StepsLoseWrongFalsely : Prop := stepsLoseRow.holds Tryd.pinned (OpenSpec.ofChange stepsLoseWrong)

/-- 'purlinlaw08.StepsAdd': WHATEVER THE INPUT: true; the input reads as it did. -/
def stepsAddSpec : ChangeSpec := { name := "stepsAdd", fn := fun _ => fun
  | [d1, d2, d3] => { results := [.lit (.bool true)], args := [d1, d2, d3] }
  | _ => none }
def stepsAddRow : OpenClaim := { program := "ytlnigpeoffaemaadoor", sum := "200a6fa1b48883312e8b6e9aa4b04a8ba935bc8525e3e1af0aa95112d917d91e", func := "purlin/purlinlaw08.StepsAdd", spec := "stepsAdd", unfollowed := true, recurses := true, named := ["purlin/mem.look"], apart := false, laid := [("purlin/mem.look", laid_purlin_mem_look)] }
def StepsAddSaid : Prop := stepsAddRow.holds Tryd.pinned (OpenSpec.ofChange stepsAddSpec)

/-- ITS FALSE NEIGHBOUR: 'it returns false'. Refute it at one input. -/
def stepsAddWrong : ChangeSpec := { name := "stepsAdd", fn := fun _ => fun
  | [d1, d2, d3] => { results := [.lit (.bool false)], args := [d1, d2, d3] }
  | _ => none }
def StepsAddWrongFalsely : Prop := stepsAddRow.holds Tryd.pinned (OpenSpec.ofChange stepsAddWrong)

/-- 'purlinlaw08.StepsRuns': WHATEVER THE INPUT: true; the input reads as it did. -/
def stepsRunsSpec : ChangeSpec := { name := "stepsRuns", fn := fun _ => fun
  | [d1, d2, d3] => { results := [.lit (.bool true)], args := [d1, d2, d3] }
  | _ => none }
def stepsRunsRow : OpenClaim := { program := "ytlnigpeoffaemaadoor", sum := "200a6fa1b48883312e8b6e9aa4b04a8ba935bc8525e3e1af0aa95112d917d91e", func := "purlin/purlinlaw08.StepsRuns", spec := "stepsRuns", unfollowed := true, recurses := true, named := ["purlin/mem.look"], apart := false, laid := [("purlin/mem.look", laid_purlin_mem_look)] }
def StepsRunsSaid : Prop := stepsRunsRow.holds Tryd.pinned (OpenSpec.ofChange stepsRunsSpec)

/-- ITS FALSE NEIGHBOUR: 'it returns false'. Refute it at one input. -/
def stepsRunsWrong : ChangeSpec := { name := "stepsRuns", fn := fun _ => fun
  | [d1, d2, d3] => { results := [.lit (.bool false)], args := [d1, d2, d3] }
  | _ => none }
def StepsRunsWrongFalsely : Prop := stepsRunsRow.holds Tryd.pinned (OpenSpec.ofChange stepsRunsWrong)

/- THE SECOND FORM. 'bulk': how many values and letters a reading holds, each counted each time it is reached (what is shared counts as often as it is met; a slice's spare places count too). A statement '..UptoSaid' is the law's where the arguments, and the package variables that the reading takes, are together of bulk at most 1048576: NARROWER than '..Said'. Prove '..Said' where nothing that the law and all that it calls make is longer than what came in: it says more and counts as full. Else prove '..UptoSaid'. A law counts once. -/
mutual
def uptoBulk {H : Type} : DataW H → Nat
  | .lit (.string bytes) => bytes.length + 1
  | .lit _ => 1
  | .nil => 1
  | .ptr d => uptoBulk d + 1
  | .slice elems spare => uptoBulkAll elems + uptoBulkAll spare + 1
  | .agg parts => uptoBulkAll parts + 1
  | .iface _ d => uptoBulk d + 1
  | .map entries => uptoBulkEntries entries + 1
  | .held _ => 1
def uptoBulkAll {H : Type} : List (DataW H) → Nat
  | [] => 0
  | d :: r => uptoBulk d + uptoBulkAll r
def uptoBulkEntries {H : Type} : List (Lit × DataW H) → Nat
  | [] => 0
  | x :: r => uptoBulkEntry x + uptoBulkEntries r
def uptoBulkEntry {H : Type} : Lit × DataW H → Nat
  | (.string bytes, d) => bytes.length + uptoBulk d + 1
  | (_, d) => uptoBulk d + 1
 end
def uptoSmall : (H : Type) → List (DataW H) → Bool := fun _ ds => decide (uptoBulkAll ds ≤ 1048576)
def OpenSpec.upto (s : _root_.Go.ChangeSpec) : _root_.Go.OpenSpec := { _root_.Go.OpenSpec.ofChange s with cond := some uptoSmall }

/-- 'purlinlaw08.StepsOnce', WHERE WHAT IT READS IS OF BULK AT MOST 1048576: true; the input reads as it did. -/
def stepsOnceUptoRow : OpenClaim := { program := "ytlnigpeoffaemaadoor", sum := "200a6fa1b48883312e8b6e9aa4b04a8ba935bc8525e3e1af0aa95112d917d91e", func := "purlin/purlinlaw08.StepsOnce", spec := "stepsOnce", unfollowed := true, recurses := true, named := ["purlin/mem.look"], apart := false, laid := [("purlin/mem.look", laid_purlin_mem_look)], narrowed := true }
def StepsOnceUptoSaid : Prop := stepsOnceUptoRow.holds Tryd.pinned (OpenSpec.upto stepsOnceSpec)

/-- 'purlinlaw08.StepsPlays', WHERE WHAT IT READS IS OF BULK AT MOST 1048576: true; the input reads as it did. -/
def stepsPlaysUptoRow : OpenClaim := { program := "ytlnigpeoffaemaadoor", sum := "200a6fa1b48883312e8b6e9aa4b04a8ba935bc8525e3e1af0aa95112d917d91e", func := "purlin/purlinlaw08.StepsPlays", spec := "stepsPlays", unfollowed := true, recurses := true, named := ["purlin/mem.look"], apart := false, laid := [("purlin/mem.look", laid_purlin_mem_look)], narrowed := true }
def StepsPlaysUptoSaid : Prop := stepsPlaysUptoRow.holds Tryd.pinned (OpenSpec.upto stepsPlaysSpec)

/-- 'purlinlaw08.StepsApart', WHERE WHAT IT READS IS OF BULK AT MOST 1048576: true; the input reads as it did. -/
def stepsApartUptoRow : OpenClaim := { program := "ytlnigpeoffaemaadoor", sum := "200a6fa1b48883312e8b6e9aa4b04a8ba935bc8525e3e1af0aa95112d917d91e", func := "purlin/purlinlaw08.StepsApart", spec := "stepsApart", unfollowed := true, recurses := true, named := ["purlin/mem.look"], apart := false, laid := [("purlin/mem.look", laid_purlin_mem_look)], narrowed := true }
def StepsApartUptoSaid : Prop := stepsApartUptoRow.holds Tryd.pinned (OpenSpec.upto stepsApartSpec)

/-- 'purlinlaw08.StepsLose', WHERE WHAT IT READS IS OF BULK AT MOST 1048576: true; the input reads as it did. -/
def stepsLoseUptoRow : OpenClaim := { program := "ytlnigpeoffaemaadoor", sum := "200a6fa1b48883312e8b6e9aa4b04a8ba935bc8525e3e1af0aa95112d917d91e", func := "purlin/purlinlaw08.StepsLose", spec := "stepsLose", unfollowed := true, recurses := true, named := ["purlin/mem.look"], apart := false, laid := [("purlin/mem.look", laid_purlin_mem_look)], narrowed := true }
def StepsLoseUptoSaid : Prop := stepsLoseUptoRow.holds Tryd.pinned (OpenSpec.upto stepsLoseSpec)

/-- 'purlinlaw08.StepsAdd', WHERE WHAT IT READS IS OF BULK AT MOST 1048576: true; the input reads as it did. -/
def stepsAddUptoRow : OpenClaim := { program := "ytlnigpeoffaemaadoor", sum := "200a6fa1b48883312e8b6e9aa4b04a8ba935bc8525e3e1af0aa95112d917d91e", func := "purlin/purlinlaw08.StepsAdd", spec := "stepsAdd", unfollowed := true, recurses := true, named := ["purlin/mem.look"], apart := false, laid := [("purlin/mem.look", laid_purlin_mem_look)], narrowed := true }
def StepsAddUptoSaid : Prop := stepsAddUptoRow.holds Tryd.pinned (OpenSpec.upto stepsAddSpec)

/-- 'purlinlaw08.StepsRuns', WHERE WHAT IT READS IS OF BULK AT MOST 1048576: true; the input reads as it did. -/
def stepsRunsUptoRow : OpenClaim := { program := "ytlnigpeoffaemaadoor", sum := "200a6fa1b48883312e8b6e9aa4b04a8ba935bc8525e3e1af0aa95112d917d91e", func := "purlin/purlinlaw08.StepsRuns", spec := "stepsRuns", unfollowed := true, recurses := true, named := ["purlin/mem.look"], apart := false, laid := [("purlin/mem.look", laid_purlin_mem_look)], narrowed := true }
def StepsRunsUptoSaid : Prop := stepsRunsUptoRow.holds Tryd.pinned (OpenSpec.upto stepsRunsSpec)

end Rows
end Go.Proofs.YtlnigpeoffaemaaDoor
