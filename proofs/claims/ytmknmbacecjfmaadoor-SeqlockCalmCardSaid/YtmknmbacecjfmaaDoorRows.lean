/-
  NARROWER THAN 'FOR EVERY INPUT', by the rows' own cells (each row's printed sentence says how): SeqlockWhole: laid · SeqlockCalm: laid · SeqlockOdd: laid · SeqlockTries: laid · SeqlockPlays: laid.
  DERIVED. THE GIVEN ROWS OF THIS SEAT. 5 by the template 'for every input the law returns true; each argument reads behind the call as it read before'; 0 by the template 'total and deterministic' (their statements: YtmknmbacecjfmaaDoorTotals.lean).
  GIVEN WITH THE SEED: the statements are not yours to turn. If you find one false, say at which input.
  Laid BY PROGRAM, IN A SANDBOX (cutbox-rows.mjs): the forced cells as the released guide's own fill.sh prints them over the translation 0248df9704663c18… (all of the seat's roots in one cut). By AI agents, Wed Nov 11 2026. No macro, syntax, notation, axiom, sorry.
-/
import Derived.Test.YtmknmbacecjfmaaDoorChecked
import GoSem.Claim
import GoSem.ClaimJoined
import GoSem.ClaimMapViews
import Derived.JoinedTies
import Derived.KernelRfl
namespace Go.Proofs.YtmknmbacecjfmaaDoor
/- THE CELL 'sum', in the pinned program and in every row, IS THE sha256 OF THE DUMP (.gsa) THAT YtmknmbacecjfmaaDoorProg.lean LOADS. Nothing in Lean hashes anything: it is a label: what it is worth is what the hold of that sum in a sandbox is worth. -/
noncomputable def Tryd.pinned : Pinned := { name := "ytmknmbacecjfmaadoor", sum := "0248df9704663c1888a482824a483c5c968f2fca2b6fc2ca9dde3f3c107bb9d0", checked := Tryd.checked }
namespace Rows
def none {H : Type} : Left H := { results := [], args := [] }

/- WHAT THE LISTED PACKAGE-LEVEL VARIABLES READ AS WHEN THE CALL BEGINS. Each datum BY PROGRAM (the guide's laid-datum.mjs) off the statement by which the dump's own 'gosem.cut.vars' lays the variable. In a bare row this is a premise. The card (YtmknmbacecjfmaaDoorCards.lean) ties it to the program's text. -/
def laid_purlin_mem_look {H : Type} : DataW H := .agg [.lit (.int .u32 4294967295), .lit (.int .u32 0), .lit (.int .u32 0)]

/-- 'purlinlaw10.SeqlockWhole': WHATEVER THE INPUT: true; the input reads as it did. -/
def seqlockWholeSpec : ChangeSpec := { name := "seqlockWhole", fn := fun _ => fun
  | [d1, d2, d3] => { results := [.lit (.bool true)], args := [d1, d2, d3] }
  | _ => none }
def seqlockWholeRow : OpenClaim := { program := "ytmknmbacecjfmaadoor", sum := "0248df9704663c1888a482824a483c5c968f2fca2b6fc2ca9dde3f3c107bb9d0", func := "purlin/purlinlaw10.SeqlockWhole", spec := "seqlockWhole", named := ["purlin/mem.look"], apart := false, laid := [("purlin/mem.look", laid_purlin_mem_look)] }
def SeqlockWholeSaid : Prop := seqlockWholeRow.holds Tryd.pinned (OpenSpec.ofChange seqlockWholeSpec)

/-- ITS FALSE NEIGHBOUR: 'it returns false'. Refute it at one input. -/
def seqlockWholeWrong : ChangeSpec := { name := "seqlockWhole", fn := fun _ => fun
  | [d1, d2, d3] => { results := [.lit (.bool false)], args := [d1, d2, d3] }
  | _ => none }
def SeqlockWholeWrongFalsely : Prop := seqlockWholeRow.holds Tryd.pinned (OpenSpec.ofChange seqlockWholeWrong)

/-- 'purlinlaw10.SeqlockCalm': WHATEVER THE INPUT: true; the input reads as it did. -/
def seqlockCalmSpec : ChangeSpec := { name := "seqlockCalm", fn := fun _ => fun
  | [d1, d2, d3] => { results := [.lit (.bool true)], args := [d1, d2, d3] }
  | _ => none }
def seqlockCalmRow : OpenClaim := { program := "ytmknmbacecjfmaadoor", sum := "0248df9704663c1888a482824a483c5c968f2fca2b6fc2ca9dde3f3c107bb9d0", func := "purlin/purlinlaw10.SeqlockCalm", spec := "seqlockCalm", named := ["purlin/mem.look"], apart := false, laid := [("purlin/mem.look", laid_purlin_mem_look)] }
def SeqlockCalmSaid : Prop := seqlockCalmRow.holds Tryd.pinned (OpenSpec.ofChange seqlockCalmSpec)

/-- ITS FALSE NEIGHBOUR: 'it returns false'. Refute it at one input. -/
def seqlockCalmWrong : ChangeSpec := { name := "seqlockCalm", fn := fun _ => fun
  | [d1, d2, d3] => { results := [.lit (.bool false)], args := [d1, d2, d3] }
  | _ => none }
def SeqlockCalmWrongFalsely : Prop := seqlockCalmRow.holds Tryd.pinned (OpenSpec.ofChange seqlockCalmWrong)

/-- 'purlinlaw10.SeqlockOdd': WHATEVER THE INPUT: true; the input reads as it did. -/
def seqlockOddSpec : ChangeSpec := { name := "seqlockOdd", fn := fun _ => fun
  | [d1, d2, d3] => { results := [.lit (.bool true)], args := [d1, d2, d3] }
  | _ => none }
def seqlockOddRow : OpenClaim := { program := "ytmknmbacecjfmaadoor", sum := "0248df9704663c1888a482824a483c5c968f2fca2b6fc2ca9dde3f3c107bb9d0", func := "purlin/purlinlaw10.SeqlockOdd", spec := "seqlockOdd", named := ["purlin/mem.look"], apart := false, laid := [("purlin/mem.look", laid_purlin_mem_look)] }
def SeqlockOddSaid : Prop := seqlockOddRow.holds Tryd.pinned (OpenSpec.ofChange seqlockOddSpec)

/-- ITS FALSE NEIGHBOUR: 'it returns false'. Refute it at one input. -/
def seqlockOddWrong : ChangeSpec := { name := "seqlockOdd", fn := fun _ => fun
  | [d1, d2, d3] => { results := [.lit (.bool false)], args := [d1, d2, d3] }
  | _ => none }
def SeqlockOddWrongFalsely : Prop := seqlockOddRow.holds Tryd.pinned (OpenSpec.ofChange seqlockOddWrong)

/-- 'purlinlaw10.SeqlockTries': WHATEVER THE INPUT: true; the input reads as it did. -/
def seqlockTriesSpec : ChangeSpec := { name := "seqlockTries", fn := fun _ => fun
  | [d1, d2, d3] => { results := [.lit (.bool true)], args := [d1, d2, d3] }
  | _ => none }
def seqlockTriesRow : OpenClaim := { program := "ytmknmbacecjfmaadoor", sum := "0248df9704663c1888a482824a483c5c968f2fca2b6fc2ca9dde3f3c107bb9d0", func := "purlin/purlinlaw10.SeqlockTries", spec := "seqlockTries", named := ["purlin/mem.look"], apart := false, laid := [("purlin/mem.look", laid_purlin_mem_look)] }
def SeqlockTriesSaid : Prop := seqlockTriesRow.holds Tryd.pinned (OpenSpec.ofChange seqlockTriesSpec)

/-- ITS FALSE NEIGHBOUR: 'it returns false'. Refute it at one input. -/
def seqlockTriesWrong : ChangeSpec := { name := "seqlockTries", fn := fun _ => fun
  | [d1, d2, d3] => { results := [.lit (.bool false)], args := [d1, d2, d3] }
  | _ => none }
def SeqlockTriesWrongFalsely : Prop := seqlockTriesRow.holds Tryd.pinned (OpenSpec.ofChange seqlockTriesWrong)

/-- 'purlinlaw10.SeqlockPlays': WHATEVER THE INPUT: true; the input reads as it did. -/
def seqlockPlaysSpec : ChangeSpec := { name := "seqlockPlays", fn := fun _ => fun
  | [d1, d2, d3] => { results := [.lit (.bool true)], args := [d1, d2, d3] }
  | _ => none }
def seqlockPlaysRow : OpenClaim := { program := "ytmknmbacecjfmaadoor", sum := "0248df9704663c1888a482824a483c5c968f2fca2b6fc2ca9dde3f3c107bb9d0", func := "purlin/purlinlaw10.SeqlockPlays", spec := "seqlockPlays", named := ["purlin/mem.look"], apart := false, laid := [("purlin/mem.look", laid_purlin_mem_look)] }
def SeqlockPlaysSaid : Prop := seqlockPlaysRow.holds Tryd.pinned (OpenSpec.ofChange seqlockPlaysSpec)

/-- ITS FALSE NEIGHBOUR: 'it returns false'. Refute it at one input. -/
def seqlockPlaysWrong : ChangeSpec := { name := "seqlockPlays", fn := fun _ => fun
  | [d1, d2, d3] => { results := [.lit (.bool false)], args := [d1, d2, d3] }
  | _ => none }
def SeqlockPlaysWrongFalsely : Prop := seqlockPlaysRow.holds Tryd.pinned (OpenSpec.ofChange seqlockPlaysWrong)

/- THE SECOND FORM. 'bulk': how many values and letters a reading holds, each counted each time it is reached (what is shared counts as often as it is met; a slice's spare places count too). A statement '..UptoSaid' is the law's where the arguments, and the package variables that the reading takes, are together of bulk at most 1048576: NARROWER than '..Said'. Prove '..Said' where nothing that the law and all that it calls make is longer than what came in: it says more and counts as full. Else prove '..UptoSaid'. A law counts once. -/
mutual
def uptoBulk {H : Type} : DataW H → Nat
  | .lit (.string bytes) => bytes.length + 1
  | .lit _ => 1
  | .nil => 1
  | .ptr d => uptoBulk d + 1
  | .slice elems spare => uptoBulkAll elems + uptoBulkAll spare + 1
  | .agg parts => uptoBulkAll parts + 1
  | .iface _ d => uptoBulk d + 1
  | .map entries => uptoBulkEntries entries + 1
  | .held _ => 1
def uptoBulkAll {H : Type} : List (DataW H) → Nat
  | [] => 0
  | d :: r => uptoBulk d + uptoBulkAll r
def uptoBulkEntries {H : Type} : List (Lit × DataW H) → Nat
  | [] => 0
  | x :: r => uptoBulkEntry x + uptoBulkEntries r
def uptoBulkEntry {H : Type} : Lit × DataW H → Nat
  | (.string bytes, d) => bytes.length + uptoBulk d + 1
  | (_, d) => uptoBulk d + 1
 end
def uptoSmall : (H : Type) → List (DataW H) → Bool := fun _ ds => decide (uptoBulkAll ds ≤ 1048576)
def OpenSpec.upto (s : _root_.Go.ChangeSpec) : _root_.Go.OpenSpec := { _root_.Go.OpenSpec.ofChange s with cond := some uptoSmall }

/-- 'purlinlaw10.SeqlockWhole', WHERE WHAT IT READS IS OF BULK AT MOST 1048576: true; the input reads as it did. -/
def seqlockWholeUptoRow : OpenClaim := { program := "ytmknmbacecjfmaadoor", sum := "0248df9704663c1888a482824a483c5c968f2fca2b6fc2ca9dde3f3c107bb9d0", func := "purlin/purlinlaw10.SeqlockWhole", spec := "seqlockWhole", named := ["purlin/mem.look"], apart := false, laid := [("purlin/mem.look", laid_purlin_mem_look)], narrowed := true }
def SeqlockWholeUptoSaid : Prop := seqlockWholeUptoRow.holds Tryd.pinned (OpenSpec.upto seqlockWholeSpec)

/-- 'purlinlaw10.SeqlockCalm', WHERE WHAT IT READS IS OF BULK AT MOST 1048576: true; the input reads as it did. -/
def seqlockCalmUptoRow : OpenClaim := { program := "ytmknmbacecjfmaadoor", sum := "0248df9704663c1888a482824a483c5c968f2fca2b6fc2ca9dde3f3c107bb9d0", func := "purlin/purlinlaw10.SeqlockCalm", spec := "seqlockCalm", named := ["purlin/mem.look"], apart := false, laid := [("purlin/mem.look", laid_purlin_mem_look)], narrowed := true }
def SeqlockCalmUptoSaid : Prop := seqlockCalmUptoRow.holds Tryd.pinned (OpenSpec.upto seqlockCalmSpec)

/-- 'purlinlaw10.SeqlockOdd', WHERE WHAT IT READS IS OF BULK AT MOST 1048576: true; the input reads as it did. -/
def seqlockOddUptoRow : OpenClaim := { program := "ytmknmbacecjfmaadoor", sum := "0248df9704663c1888a482824a483c5c968f2fca2b6fc2ca9dde3f3c107bb9d0", func := "purlin/purlinlaw10.SeqlockOdd", spec := "seqlockOdd", named := ["purlin/mem.look"], apart := false, laid := [("purlin/mem.look", laid_purlin_mem_look)], narrowed := true }
def SeqlockOddUptoSaid : Prop := seqlockOddUptoRow.holds Tryd.pinned (OpenSpec.upto seqlockOddSpec)

/-- 'purlinlaw10.SeqlockTries', WHERE WHAT IT READS IS OF BULK AT MOST 1048576: true; the input reads as it did. -/
def seqlockTriesUptoRow : OpenClaim := { program := "ytmknmbacecjfmaadoor", sum := "0248df9704663c1888a482824a483c5c968f2fca2b6fc2ca9dde3f3c107bb9d0", func := "purlin/purlinlaw10.SeqlockTries", spec := "seqlockTries", named := ["purlin/mem.look"], apart := false, laid := [("purlin/mem.look", laid_purlin_mem_look)], narrowed := true }
def SeqlockTriesUptoSaid : Prop := seqlockTriesUptoRow.holds Tryd.pinned (OpenSpec.upto seqlockTriesSpec)

/-- 'purlinlaw10.SeqlockPlays', WHERE WHAT IT READS IS OF BULK AT MOST 1048576: true; the input reads as it did. -/
def seqlockPlaysUptoRow : OpenClaim := { program := "ytmknmbacecjfmaadoor", sum := "0248df9704663c1888a482824a483c5c968f2fca2b6fc2ca9dde3f3c107bb9d0", func := "purlin/purlinlaw10.SeqlockPlays", spec := "seqlockPlays", named := ["purlin/mem.look"], apart := false, laid := [("purlin/mem.look", laid_purlin_mem_look)], narrowed := true }
def SeqlockPlaysUptoSaid : Prop := seqlockPlaysUptoRow.holds Tryd.pinned (OpenSpec.upto seqlockPlaysSpec)

end Rows
end Go.Proofs.YtmknmbacecjfmaaDoor
