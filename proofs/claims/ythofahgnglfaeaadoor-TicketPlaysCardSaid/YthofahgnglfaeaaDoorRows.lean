/-
  NARROWER THAN 'FOR EVERY INPUT', by the rows' own cells (each row's printed sentence says how): TicketPlays: laid · TicketOrder: laid · TicketCell: laid · TicketSame: laid · TicketAlone: laid · TicketEnds: laid.
  DERIVED. THE GIVEN ROWS OF THIS SEAT. 6 by the template 'for every input the law returns true; each argument reads behind the call as it read before'; 0 by the template 'total and deterministic' (their statements: YthofahgnglfaeaaDoorTotals.lean).
  GIVEN WITH THE SEED: the statements are not yours to turn. If you find one false, say at which input.
  Laid BY PROGRAM, IN A SANDBOX (cutbox-rows.mjs): the forced cells as the released guide's own fill.sh prints them over the translation 2c3652ac3557f2cd… (all of the seat's roots in one cut). By AI agents, Wed Nov 11 2026. No macro, syntax, notation, axiom, sorry.
-/
import Derived.Test.YthofahgnglfaeaaDoorChecked
import GoSem.Claim
import GoSem.ClaimJoined
import GoSem.ClaimMapViews
import Derived.JoinedTies
import Derived.KernelRfl
namespace Go.Proofs.YthofahgnglfaeaaDoor
/- THE CELL 'sum', in the pinned program and in every row, IS THE sha256 OF THE DUMP (.gsa) THAT YthofahgnglfaeaaDoorProg.lean LOADS. Nothing in Lean hashes anything: it is a label: what it is worth is what the hold of that sum in a sandbox is worth. -/
noncomputable def Tryd.pinned : Pinned := { name := "ythofahgnglfaeaadoor", sum := "2c3652ac3557f2cdb832f817e517fd5b592181f77a7131ceac2bde59fdfc39c9", checked := Tryd.checked }
namespace Rows
def none {H : Type} : Left H := { results := [], args := [] }

/- WHAT THE LISTED PACKAGE-LEVEL VARIABLES READ AS WHEN THE CALL BEGINS. Each datum BY PROGRAM (the guide's laid-datum.mjs) off the statement by which the dump's own 'gosem.cut.vars' lays the variable. In a bare row this is a premise. The card (YthofahgnglfaeaaDoorCards.lean) ties it to the program's text. -/
def laid_purlin_mem_look {H : Type} : DataW H := .agg [.lit (.int .u32 4294967295), .lit (.int .u32 0), .lit (.int .u32 0)]

/-- 'purlinlaw09.TicketPlays': WHATEVER THE INPUT: true; the input reads as it did. -/
def ticketPlaysSpec : ChangeSpec := { name := "ticketPlays", fn := fun _ => fun
  | [d1, d2, d3] => { results := [.lit (.bool true)], args := [d1, d2, d3] }
  | _ => none }
def ticketPlaysRow : OpenClaim := { program := "ythofahgnglfaeaadoor", sum := "2c3652ac3557f2cdb832f817e517fd5b592181f77a7131ceac2bde59fdfc39c9", func := "purlin/purlinlaw09.TicketPlays", spec := "ticketPlays", unfollowed := true, recurses := true, named := ["purlin/mem.look"], apart := false, laid := [("purlin/mem.look", laid_purlin_mem_look)] }
def TicketPlaysSaid : Prop := ticketPlaysRow.holds Tryd.pinned (OpenSpec.ofChange ticketPlaysSpec)

/-- ITS FALSE NEIGHBOUR: 'it returns false'. Refute it at one input. -/
def ticketPlaysWrong : ChangeSpec := { name := "ticketPlays", fn := fun _ => fun
  | [d1, d2, d3] => { results := [.lit (.bool false)], args := [d1, d2, d3] }
  | _ => none }
def TicketPlaysWrongFalsely : Prop := ticketPlaysRow.holds Tryd.pinned (OpenSpec.ofChange ticketPlaysWrong)

/-- 'purlinlaw09.TicketOrder': WHATEVER THE INPUT: true; the input reads as it did. -/
def ticketOrderSpec : ChangeSpec := { name := "ticketOrder", fn := fun _ => fun
  | [d1, d2, d3] => { results := [.lit (.bool true)], args := [d1, d2, d3] }
  | _ => none }
def ticketOrderRow : OpenClaim := { program := "ythofahgnglfaeaadoor", sum := "2c3652ac3557f2cdb832f817e517fd5b592181f77a7131ceac2bde59fdfc39c9", func := "purlin/purlinlaw09.TicketOrder", spec := "ticketOrder", unfollowed := true, recurses := true, named := ["purlin/mem.look"], apart := false, laid := [("purlin/mem.look", laid_purlin_mem_look)] }
def TicketOrderSaid : Prop := ticketOrderRow.holds Tryd.pinned (OpenSpec.ofChange ticketOrderSpec)

/-- ITS FALSE NEIGHBOUR: 'it returns false'. Refute it at one input. -/
def ticketOrderWrong : ChangeSpec := { name := "ticketOrder", fn := fun _ => fun
  | [d1, d2, d3] => { results := [.lit (.bool false)], args := [d1, d2, d3] }
  | _ => none }
def TicketOrderWrongFalsely : Prop := ticketOrderRow.holds Tryd.pinned (OpenSpec.ofChange ticketOrderWrong)

/-- 'purlinlaw09.TicketCell': WHATEVER THE INPUT: true; the input reads as it did. -/
def ticketCellSpec : ChangeSpec := { name := "ticketCell", fn := fun _ => fun
  | [d1, d2, d3] => { results := [.lit (.bool true)], args := [d1, d2, d3] }
  | _ => none }
def ticketCellRow : OpenClaim := { program := "ythofahgnglfaeaadoor", sum := "2c3652ac3557f2cdb832f817e517fd5b592181f77a7131ceac2bde59fdfc39c9", func := "purlin/purlinlaw09.TicketCell", spec := "ticketCell", unfollowed := true, recurses := true, named := ["purlin/mem.look"], apart := false, laid := [("purlin/mem.look", laid_purlin_mem_look)] }
def TicketCellSaid : Prop := ticketCellRow.holds Tryd.pinned (OpenSpec.ofChange ticketCellSpec)

/-- ITS FALSE NEIGHBOUR: 'it returns false'. Refute it at one input. -/
def ticketCellWrong : ChangeSpec := { name := "ticketCell", fn := fun _ => fun
  | [d1, d2, d3] => { results := [.lit (.bool false)], args := [d1, d2, d3] }
  | _ => none }
def TicketCellWrongFalsely : Prop := ticketCellRow.holds Tryd.pinned (OpenSpec.ofChange ticketCellWrong)

/-- 'purlinlaw09.TicketSame': WHATEVER THE INPUT: true; the input reads as it did. -/
def ticketSameSpec : ChangeSpec := { name := "ticketSame", fn := fun _ => fun
  | [d1, d2, d3] => { results := [.lit (.bool true)], args := [d1, d2, d3] }
  | _ => none }
def ticketSameRow : OpenClaim := { program := "ythofahgnglfaeaadoor", sum := "2c3652ac3557f2cdb832f817e517fd5b592181f77a7131ceac2bde59fdfc39c9", func := "purlin/purlinlaw09.TicketSame", spec := "ticketSame", unfollowed := true, recurses := true, named := ["purlin/mem.look"], apart := false, laid := [("purlin/mem.look", laid_purlin_mem_look)] }
def TicketSameSaid : Prop := ticketSameRow.holds Tryd.pinned (OpenSpec.ofChange ticketSameSpec)

/-- ITS FALSE NEIGHBOUR: 'it returns false'. Refute it at one input. -/
def ticketSameWrong : ChangeSpec := { name := "ticketSame", fn := fun _ => fun
  | [d1, d2, d3] => { results := [.lit (.bool false)], args := [d1, d2, d3] }
  | _ => none }
def TicketSameWrongFalsely : Prop := ticketSameRow.holds Tryd.pinned (OpenSpec.ofChange ticketSameWrong)

/-- 'purlinlaw09.TicketAlone': WHATEVER THE INPUT: true; the input reads as it did. -/
def ticketAloneSpec : ChangeSpec := { name := "ticketAlone", fn := fun _ => fun
  | [d1, d2, d3] => { results := [.lit (.bool true)], args := [d1, d2, d3] }
  | _ => none }
def ticketAloneRow : OpenClaim := { program := "ythofahgnglfaeaadoor", sum := "2c3652ac3557f2cdb832f817e517fd5b592181f77a7131ceac2bde59fdfc39c9", func := "purlin/purlinlaw09.TicketAlone", spec := "ticketAlone", unfollowed := true, recurses := true, named := ["purlin/mem.look"], apart := false, laid := [("purlin/mem.look", laid_purlin_mem_look)] }
def TicketAloneSaid : Prop := ticketAloneRow.holds Tryd.pinned (OpenSpec.ofChange ticketAloneSpec)

/-- ITS FALSE NEIGHBOUR: 'it returns false'. Refute it at one input. -/
def ticketAloneWrong : ChangeSpec := { name := "ticketAlone", fn := fun _ => fun
  | [d1, d2, d3] => { results := [.lit (.bool false)], args := [d1, d2, d3] }
  | _ => none }
def TicketAloneWrongFalsely : Prop := ticketAloneRow.holds Tryd.pinned (OpenSpec.ofChange ticketAloneWrong)

/-- 'purlinlaw09.TicketEnds': WHATEVER THE INPUT: true; the input reads as it did. -/
def ticketEndsSpec : ChangeSpec := { name := "ticketEnds", fn := fun _ => fun
  | [d1, d2, d3] => { results := [.lit (.bool true)], args := [d1, d2, d3] }
  | _ => none }
def ticketEndsRow : OpenClaim := { program := "ythofahgnglfaeaadoor", sum := "2c3652ac3557f2cdb832f817e517fd5b592181f77a7131ceac2bde59fdfc39c9", func := "purlin/purlinlaw09.TicketEnds", spec := "ticketEnds", unfollowed := true, recurses := true, named := ["purlin/mem.look"], apart := false, laid := [("purlin/mem.look", laid_purlin_mem_look)] }
def TicketEndsSaid : Prop := ticketEndsRow.holds Tryd.pinned (OpenSpec.ofChange ticketEndsSpec)

/-- ITS FALSE NEIGHBOUR: 'it returns false'. Refute it at one input. -/
def ticketEndsWrong : ChangeSpec := { name := "ticketEnds", fn := fun _ => fun
  | [d1, d2, d3] => { results := [.lit (.bool false)], args := [d1, d2, d3] }
  | _ => none }
def TicketEndsWrongFalsely : Prop := ticketEndsRow.holds Tryd.pinned (OpenSpec.ofChange ticketEndsWrong)

/- THE SECOND FORM. 'bulk': how many values and letters a reading holds, each counted each time it is reached (what is shared counts as often as it is met; a slice's spare places count too). A statement '..UptoSaid' is the law's where the arguments, and the package variables that the reading takes, are together of bulk at most 1048576: NARROWER than '..Said'. Prove '..Said' where nothing that the law and all that it calls make is longer than what came in: it says more and counts as full. Else prove '..UptoSaid'. A law counts once. -/
mutual
def uptoBulk {H : Type} : DataW H → Nat
  | .lit (.string bytes) => bytes.length + 1
  | .lit _ => 1
  | .nil => 1
  | .ptr d => uptoBulk d + 1
  | .slice elems spare => uptoBulkAll elems + uptoBulkAll spare + 1
  | .agg parts => uptoBulkAll parts + 1
  | .iface _ d => uptoBulk d + 1
  | .map entries => uptoBulkEntries entries + 1
  | .held _ => 1
def uptoBulkAll {H : Type} : List (DataW H) → Nat
  | [] => 0
  | d :: r => uptoBulk d + uptoBulkAll r
def uptoBulkEntries {H : Type} : List (Lit × DataW H) → Nat
  | [] => 0
  | x :: r => uptoBulkEntry x + uptoBulkEntries r
def uptoBulkEntry {H : Type} : Lit × DataW H → Nat
  | (.string bytes, d) => bytes.length + uptoBulk d + 1
  | (_, d) => uptoBulk d + 1
 end
def uptoSmall : (H : Type) → List (DataW H) → Bool := fun _ ds => decide (uptoBulkAll ds ≤ 1048576)
def OpenSpec.upto (s : _root_.Go.ChangeSpec) : _root_.Go.OpenSpec := { _root_.Go.OpenSpec.ofChange s with cond := some uptoSmall }

/-- 'purlinlaw09.TicketPlays', WHERE WHAT IT READS IS OF BULK AT MOST 1048576: true; the input reads as it did. -/
def ticketPlaysUptoRow : OpenClaim := { program := "ythofahgnglfaeaadoor", sum := "2c3652ac3557f2cdb832f817e517fd5b592181f77a7131ceac2bde59fdfc39c9", func := "purlin/purlinlaw09.TicketPlays", spec := "ticketPlays", unfollowed := true, recurses := true, named := ["purlin/mem.look"], apart := false, laid := [("purlin/mem.look", laid_purlin_mem_look)], narrowed := true }
def TicketPlaysUptoSaid : Prop := ticketPlaysUptoRow.holds Tryd.pinned (OpenSpec.upto ticketPlaysSpec)

/-- 'purlinlaw09.TicketOrder', WHERE WHAT IT READS IS OF BULK AT MOST 1048576: true; the input reads as it did. -/
def ticketOrderUptoRow : OpenClaim := { program := "ythofahgnglfaeaadoor", sum := "2c3652ac3557f2cdb832f817e517fd5b592181f77a7131ceac2bde59fdfc39c9", func := "purlin/purlinlaw09.TicketOrder", spec := "ticketOrder", unfollowed := true, recurses := true, named := ["purlin/mem.look"], apart := false, laid := [("purlin/mem.look", laid_purlin_mem_look)], narrowed := true }
def TicketOrderUptoSaid : Prop := ticketOrderUptoRow.holds Tryd.pinned (OpenSpec.upto ticketOrderSpec)

/-- 'purlinlaw09.TicketCell', WHERE WHAT IT READS IS OF BULK AT MOST 1048576: true; the input reads as it did. -/
def ticketCellUptoRow : OpenClaim := { program := "ythofahgnglfaeaadoor", sum := "2c3652ac3557f2cdb832f817e517fd5b592181f77a7131ceac2bde59fdfc39c9", func := "purlin/purlinlaw09.TicketCell", spec := "ticketCell", unfollowed := true, recurses := true, named := ["purlin/mem.look"], apart := false, laid := [("purlin/mem.look", laid_purlin_mem_look)], narrowed := true }
def TicketCellUptoSaid : Prop := ticketCellUptoRow.holds Tryd.pinned (OpenSpec.upto ticketCellSpec)

/-- 'purlinlaw09.TicketSame', WHERE WHAT IT READS IS OF BULK AT MOST 1048576: true; the input reads as it did. -/
def ticketSameUptoRow : OpenClaim := { program := "ythofahgnglfaeaadoor", sum := "2c3652ac3557f2cdb832f817e517fd5b592181f77a7131ceac2bde59fdfc39c9", func := "purlin/purlinlaw09.TicketSame", spec := "ticketSame", unfollowed := true, recurses := true, named := ["purlin/mem.look"], apart := false, laid := [("purlin/mem.look", laid_purlin_mem_look)], narrowed := true }
def TicketSameUptoSaid : Prop := ticketSameUptoRow.holds Tryd.pinned (OpenSpec.upto ticketSameSpec)

/-- 'purlinlaw09.TicketAlone', WHERE WHAT IT READS IS OF BULK AT MOST 1048576: true; the input reads as it did. -/
def ticketAloneUptoRow : OpenClaim := { program := "ythofahgnglfaeaadoor", sum := "2c3652ac3557f2cdb832f817e517fd5b592181f77a7131ceac2bde59fdfc39c9", func := "purlin/purlinlaw09.TicketAlone", spec := "ticketAlone", unfollowed := true, recurses := true, named := ["purlin/mem.look"], apart := false, laid := [("purlin/mem.look", laid_purlin_mem_look)], narrowed := true }
def TicketAloneUptoSaid : Prop := ticketAloneUptoRow.holds Tryd.pinned (OpenSpec.upto ticketAloneSpec)

/-- 'purlinlaw09.TicketEnds', WHERE WHAT IT READS IS OF BULK AT MOST 1048576: true; the input reads as it did. -/
def ticketEndsUptoRow : OpenClaim := { program := "ythofahgnglfaeaadoor", sum := "2c3652ac3557f2cdb832f817e517fd5b592181f77a7131ceac2bde59fdfc39c9", func := "purlin/purlinlaw09.TicketEnds", spec := "ticketEnds", unfollowed := true, recurses := true, named := ["purlin/mem.look"], apart := false, laid := [("purlin/mem.look", laid_purlin_mem_look)], narrowed := true }
def TicketEndsUptoSaid : Prop := ticketEndsUptoRow.holds Tryd.pinned (OpenSpec.upto ticketEndsSpec)

end Rows
end Go.Proofs.YthofahgnglfaeaaDoor
