/-
  NARROWER THAN 'FOR EVERY INPUT', by the rows' own cells (each row's printed sentence says how): SlotPlays: laid · SlotFresh: laid · SlotBack: laid · SlotWhole: laid.
  DERIVED. THE GIVEN ROWS OF THIS SEAT. 4 by the template 'for every input the law returns true; each argument reads behind the call as it read before'; 0 by the template 'total and deterministic' (their statements: YtfapadgpihpmhaaDoorTotals.lean).
  GIVEN WITH THE SEED: the statements are not yours to turn. If you find one false, say at which input.
  Laid BY PROGRAM, IN A SANDBOX (cutbox-rows.mjs): the forced cells as the released guide's own fill.sh prints them over the translation c7b4ade34d16ecf7… (all of the seat's roots in one cut). By AI agents, Wed Nov 11 2026. No macro, syntax, notation, axiom, sorry.
-/
import Derived.Test.YtfapadgpihpmhaaDoorChecked
import GoSem.Claim
import GoSem.ClaimJoined
import GoSem.ClaimMapViews
import Derived.JoinedTies
import Derived.KernelRfl
namespace Go.Proofs.YtfapadgpihpmhaaDoor
/- THE CELL 'sum', in the pinned program and in every row, IS THE sha256 OF THE DUMP (.gsa) THAT YtfapadgpihpmhaaDoorProg.lean LOADS. Nothing in Lean hashes anything: it is a label: what it is worth is what the hold of that sum in a sandbox is worth. -/
noncomputable def Tryd.pinned : Pinned := { name := "ytfapadgpihpmhaadoor", sum := "c7b4ade34d16ecf76b90f9fcf97e8dd5bab98c82bd465a820403e3323e554ee9", checked := Tryd.checked }
namespace Rows
def none {H : Type} : Left H := { results := [], args := [] }

/- WHAT THE LISTED PACKAGE-LEVEL VARIABLES READ AS WHEN THE CALL BEGINS. Each datum BY PROGRAM (the guide's laid-datum.mjs) off the statement by which the dump's own 'gosem.cut.vars' lays the variable. In a bare row this is a premise. The card (YtfapadgpihpmhaaDoorCards.lean) ties it to the program's text. -/
def laid_purlin_mem_look {H : Type} : DataW H := .agg [.lit (.int .u32 4294967295), .lit (.int .u32 0), .lit (.int .u32 0)]

/-- 'purlinlaw13.SlotPlays': WHATEVER THE INPUT: true; the input reads as it did. -/
def slotPlaysSpec : ChangeSpec := { name := "slotPlays", fn := fun _ => fun
  | [d] => { results := [.lit (.bool true)], args := [d] }
  | _ => none }
def slotPlaysRow : OpenClaim := { program := "ytfapadgpihpmhaadoor", sum := "c7b4ade34d16ecf76b90f9fcf97e8dd5bab98c82bd465a820403e3323e554ee9", func := "purlin/purlinlaw13.SlotPlays", spec := "slotPlays", named := ["purlin/mem.look"], apart := false, laid := [("purlin/mem.look", laid_purlin_mem_look)] }
def SlotPlaysSaid : Prop := slotPlaysRow.holds Tryd.pinned (OpenSpec.ofChange slotPlaysSpec)

/-- ITS FALSE NEIGHBOUR: 'it returns false'. Refute it at one input. -/
def slotPlaysWrong : ChangeSpec := { name := "slotPlays", fn := fun _ => fun
  | [d] => { results := [.lit (.bool false)], args := [d] }
  | _ => none }
def SlotPlaysWrongFalsely : Prop := slotPlaysRow.holds Tryd.pinned (OpenSpec.ofChange slotPlaysWrong)

/-- 'purlinlaw13.SlotFresh': WHATEVER THE INPUT: true; the input reads as it did. -/
def slotFreshSpec : ChangeSpec := { name := "slotFresh", fn := fun _ => fun
  | [d1, d2, d3] => { results := [.lit (.bool true)], args := [d1, d2, d3] }
  | _ => none }
def slotFreshRow : OpenClaim := { program := "ytfapadgpihpmhaadoor", sum := "c7b4ade34d16ecf76b90f9fcf97e8dd5bab98c82bd465a820403e3323e554ee9", func := "purlin/purlinlaw13.SlotFresh", spec := "slotFresh", named := ["purlin/mem.look"], apart := false, laid := [("purlin/mem.look", laid_purlin_mem_look)] }
def SlotFreshSaid : Prop := slotFreshRow.holds Tryd.pinned (OpenSpec.ofChange slotFreshSpec)

/-- ITS FALSE NEIGHBOUR: 'it returns false'. Refute it at one input. -/
def slotFreshWrong : ChangeSpec := { name := "slotFresh", fn := fun _ => fun
  | [d1, d2, d3] => { results := [.lit (.bool false)], args := [d1, d2, d3] }
  | _ => none }
def SlotFreshWrongFalsely : Prop := slotFreshRow.holds Tryd.pinned (OpenSpec.ofChange slotFreshWrong)

/-- 'purlinlaw13.SlotBack': WHATEVER THE INPUT: true; the input reads as it did. -/
def slotBackSpec : ChangeSpec := { name := "slotBack", fn := fun _ => fun
  | [d1, d2, d3] => { results := [.lit (.bool true)], args := [d1, d2, d3] }
  | _ => none }
def slotBackRow : OpenClaim := { program := "ytfapadgpihpmhaadoor", sum := "c7b4ade34d16ecf76b90f9fcf97e8dd5bab98c82bd465a820403e3323e554ee9", func := "purlin/purlinlaw13.SlotBack", spec := "slotBack", named := ["purlin/mem.look"], apart := false, laid := [("purlin/mem.look", laid_purlin_mem_look)] }
def SlotBackSaid : Prop := slotBackRow.holds Tryd.pinned (OpenSpec.ofChange slotBackSpec)

/-- ITS FALSE NEIGHBOUR: 'it returns false'. Refute it at one input. -/
def slotBackWrong : ChangeSpec := { name := "slotBack", fn := fun _ => fun
  | [d1, d2, d3] => { results := [.lit (.bool false)], args := [d1, d2, d3] }
  | _ => none }
def SlotBackWrongFalsely : Prop := slotBackRow.holds Tryd.pinned (OpenSpec.ofChange slotBackWrong)

/-- 'purlinlaw13.SlotWhole': WHATEVER THE INPUT: true; the input reads as it did. -/
def slotWholeSpec : ChangeSpec := { name := "slotWhole", fn := fun _ => fun
  | [d1, d2, d3] => { results := [.lit (.bool true)], args := [d1, d2, d3] }
  | _ => none }
def slotWholeRow : OpenClaim := { program := "ytfapadgpihpmhaadoor", sum := "c7b4ade34d16ecf76b90f9fcf97e8dd5bab98c82bd465a820403e3323e554ee9", func := "purlin/purlinlaw13.SlotWhole", spec := "slotWhole", named := ["purlin/mem.look"], apart := false, laid := [("purlin/mem.look", laid_purlin_mem_look)] }
def SlotWholeSaid : Prop := slotWholeRow.holds Tryd.pinned (OpenSpec.ofChange slotWholeSpec)

/-- ITS FALSE NEIGHBOUR: 'it returns false'. Refute it at one input. -/
def slotWholeWrong : ChangeSpec := { name := "slotWhole", fn := fun _ => fun
  | [d1, d2, d3] => { results := [.lit (.bool false)], args := [d1, d2, d3] }
  | _ => none }
def SlotWholeWrongFalsely : Prop := slotWholeRow.holds Tryd.pinned (OpenSpec.ofChange slotWholeWrong)

/- THE SECOND FORM. 'bulk': how many values and letters a reading holds, each counted each time it is reached (what is shared counts as often as it is met; a slice's spare places count too). A statement '..UptoSaid' is the law's where the arguments, and the package variables that the reading takes, are together of bulk at most 1048576: NARROWER than '..Said'. Prove '..Said' where nothing that the law and all that it calls make is longer than what came in: it says more and counts as full. Else prove '..UptoSaid'. A law counts once. -/
mutual
def uptoBulk {H : Type} : DataW H → Nat
  | .lit (.string bytes) => bytes.length + 1
  | .lit _ => 1
  | .nil => 1
  | .ptr d => uptoBulk d + 1
  | .slice elems spare => uptoBulkAll elems + uptoBulkAll spare + 1
  | .agg parts => uptoBulkAll parts + 1
  | .iface _ d => uptoBulk d + 1
  | .map entries => uptoBulkEntries entries + 1
  | .held _ => 1
def uptoBulkAll {H : Type} : List (DataW H) → Nat
  | [] => 0
  | d :: r => uptoBulk d + uptoBulkAll r
def uptoBulkEntries {H : Type} : List (Lit × DataW H) → Nat
  | [] => 0
  | x :: r => uptoBulkEntry x + uptoBulkEntries r
def uptoBulkEntry {H : Type} : Lit × DataW H → Nat
  | (.string bytes, d) => bytes.length + uptoBulk d + 1
  | (_, d) => uptoBulk d + 1
 end
def uptoSmall : (H : Type) → List (DataW H) → Bool := fun _ ds => decide (uptoBulkAll ds ≤ 1048576)
def OpenSpec.upto (s : _root_.Go.ChangeSpec) : _root_.Go.OpenSpec := { _root_.Go.OpenSpec.ofChange s with cond := some uptoSmall }

/-- 'purlinlaw13.SlotPlays', WHERE WHAT IT READS IS OF BULK AT MOST 1048576: true; the input reads as it did. -/
def slotPlaysUptoRow : OpenClaim := { program := "ytfapadgpihpmhaadoor", sum := "c7b4ade34d16ecf76b90f9fcf97e8dd5bab98c82bd465a820403e3323e554ee9", func := "purlin/purlinlaw13.SlotPlays", spec := "slotPlays", named := ["purlin/mem.look"], apart := false, laid := [("purlin/mem.look", laid_purlin_mem_look)], narrowed := true }
def SlotPlaysUptoSaid : Prop := slotPlaysUptoRow.holds Tryd.pinned (OpenSpec.upto slotPlaysSpec)

/-- 'purlinlaw13.SlotFresh', WHERE WHAT IT READS IS OF BULK AT MOST 1048576: true; the input reads as it did. -/
def slotFreshUptoRow : OpenClaim := { program := "ytfapadgpihpmhaadoor", sum := "c7b4ade34d16ecf76b90f9fcf97e8dd5bab98c82bd465a820403e3323e554ee9", func := "purlin/purlinlaw13.SlotFresh", spec := "slotFresh", named := ["purlin/mem.look"], apart := false, laid := [("purlin/mem.look", laid_purlin_mem_look)], narrowed := true }
def SlotFreshUptoSaid : Prop := slotFreshUptoRow.holds Tryd.pinned (OpenSpec.upto slotFreshSpec)

/-- 'purlinlaw13.SlotBack', WHERE WHAT IT READS IS OF BULK AT MOST 1048576: true; the input reads as it did. -/
def slotBackUptoRow : OpenClaim := { program := "ytfapadgpihpmhaadoor", sum := "c7b4ade34d16ecf76b90f9fcf97e8dd5bab98c82bd465a820403e3323e554ee9", func := "purlin/purlinlaw13.SlotBack", spec := "slotBack", named := ["purlin/mem.look"], apart := false, laid := [("purlin/mem.look", laid_purlin_mem_look)], narrowed := true }
def SlotBackUptoSaid : Prop := slotBackUptoRow.holds Tryd.pinned (OpenSpec.upto slotBackSpec)

/-- 'purlinlaw13.SlotWhole', WHERE WHAT IT READS IS OF BULK AT MOST 1048576: true; the input reads as it did. -/
def slotWholeUptoRow : OpenClaim := { program := "ytfapadgpihpmhaadoor", sum := "c7b4ade34d16ecf76b90f9fcf97e8dd5bab98c82bd465a820403e3323e554ee9", func := "purlin/purlinlaw13.SlotWhole", spec := "slotWhole", named := ["purlin/mem.look"], apart := false, laid := [("purlin/mem.look", laid_purlin_mem_look)], narrowed := true }
def SlotWholeUptoSaid : Prop := slotWholeUptoRow.holds Tryd.pinned (OpenSpec.upto slotWholeSpec)

end Rows
end Go.Proofs.YtfapadgpihpmhaaDoor
