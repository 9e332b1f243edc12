/-
  NARROWER THAN 'FOR EVERY INPUT', by the rows' own cells (each row's printed sentence says how): RingMakes: laid · RingPlays: laid · RingOrder: laid · RingFull: laid · RingSame: laid.
  DERIVED. THE GIVEN ROWS OF THIS SEAT. 5 by the template 'for every input the law returns true; each argument reads behind the call as it read before'; 0 by the template 'total and deterministic' (their statements: YtplbncncnjiahaaDoorTotals.lean).
  GIVEN WITH THE SEED: the statements are not yours to turn. If you find one false, say at which input.
  Laid BY PROGRAM, IN A SANDBOX (cutbox-rows.mjs): the forced cells as the released guide's own fill.sh prints them over the translation 68224602f78f0dda… (all of the seat's roots in one cut). By AI agents, Wed Nov 11 2026. No macro, syntax, notation, axiom, sorry.
-/
import Derived.Test.YtplbncncnjiahaaDoorChecked
import GoSem.Claim
import GoSem.ClaimJoined
import GoSem.ClaimMapViews
import Derived.JoinedTies
import Derived.KernelRfl
namespace Go.Proofs.YtplbncncnjiahaaDoor
/- THE CELL 'sum', in the pinned program and in every row, IS THE sha256 OF THE DUMP (.gsa) THAT YtplbncncnjiahaaDoorProg.lean LOADS. Nothing in Lean hashes anything: it is a label: what it is worth is what the hold of that sum in a sandbox is worth. -/
noncomputable def Tryd.pinned : Pinned := { name := "ytplbncncnjiahaadoor", sum := "68224602f78f0dda9b1f51243c32755597c59f14fe38ad300e3d492c8e757da2", checked := Tryd.checked }
namespace Rows
def none {H : Type} : Left H := { results := [], args := [] }

/- WHAT THE LISTED PACKAGE-LEVEL VARIABLES READ AS WHEN THE CALL BEGINS. Each datum BY PROGRAM (the guide's laid-datum.mjs) off the statement by which the dump's own 'gosem.cut.vars' lays the variable. In a bare row this is a premise. The card (YtplbncncnjiahaaDoorCards.lean) ties it to the program's text. -/
def laid_purlin_mem_look {H : Type} : DataW H := .agg [.lit (.int .u32 4294967295), .lit (.int .u32 0), .lit (.int .u32 0)]

/-- 'purlinlaw12.RingMakes': WHATEVER THE INPUT: true; the input reads as it did. -/
def ringMakesSpec : ChangeSpec := { name := "ringMakes", fn := fun _ => fun
  | [d1, d2] => { results := [.lit (.bool true)], args := [d1, d2] }
  | _ => none }
def ringMakesRow : OpenClaim := { program := "ytplbncncnjiahaadoor", sum := "68224602f78f0dda9b1f51243c32755597c59f14fe38ad300e3d492c8e757da2", func := "purlin/purlinlaw12.RingMakes", spec := "ringMakes", unfollowed := true, recurses := true, named := ["purlin/mem.look"], apart := false, laid := [("purlin/mem.look", laid_purlin_mem_look)] }
def RingMakesSaid : Prop := ringMakesRow.holds Tryd.pinned (OpenSpec.ofChange ringMakesSpec)

/-- ITS FALSE NEIGHBOUR: 'it returns false'. Refute it at one input. -/
def ringMakesWrong : ChangeSpec := { name := "ringMakes", fn := fun _ => fun
  | [d1, d2] => { results := [.lit (.bool false)], args := [d1, d2] }
  | _ => none }
def RingMakesWrongFalsely : Prop := ringMakesRow.holds Tryd.pinned (OpenSpec.ofChange ringMakesWrong)

/-- 'purlinlaw12.RingPlays': WHATEVER THE INPUT: true; the input reads as it did. -/
def ringPlaysSpec : ChangeSpec := { name := "ringPlays", fn := fun _ => fun
  | [d1, d2] => { results := [.lit (.bool true)], args := [d1, d2] }
  | _ => none }
def ringPlaysRow : OpenClaim := { program := "ytplbncncnjiahaadoor", sum := "68224602f78f0dda9b1f51243c32755597c59f14fe38ad300e3d492c8e757da2", func := "purlin/purlinlaw12.RingPlays", spec := "ringPlays", unfollowed := true, recurses := true, named := ["purlin/mem.look"], apart := false, laid := [("purlin/mem.look", laid_purlin_mem_look)] }
def RingPlaysSaid : Prop := ringPlaysRow.holds Tryd.pinned (OpenSpec.ofChange ringPlaysSpec)

/-- ITS FALSE NEIGHBOUR: 'it returns false'. Refute it at one input. -/
def ringPlaysWrong : ChangeSpec := { name := "ringPlays", fn := fun _ => fun
  | [d1, d2] => { results := [.lit (.bool false)], args := [d1, d2] }
  | _ => none }
def RingPlaysWrongFalsely : Prop := ringPlaysRow.holds Tryd.pinned (OpenSpec.ofChange ringPlaysWrong)

/-- 'purlinlaw12.RingOrder': WHATEVER THE INPUT: true; the input reads as it did. -/
def ringOrderSpec : ChangeSpec := { name := "ringOrder", fn := fun _ => fun
  | [d1, d2, d3] => { results := [.lit (.bool true)], args := [d1, d2, d3] }
  | _ => none }
def ringOrderRow : OpenClaim := { program := "ytplbncncnjiahaadoor", sum := "68224602f78f0dda9b1f51243c32755597c59f14fe38ad300e3d492c8e757da2", func := "purlin/purlinlaw12.RingOrder", spec := "ringOrder", unfollowed := true, recurses := true, named := ["purlin/mem.look"], apart := false, laid := [("purlin/mem.look", laid_purlin_mem_look)] }
def RingOrderSaid : Prop := ringOrderRow.holds Tryd.pinned (OpenSpec.ofChange ringOrderSpec)

/-- ITS FALSE NEIGHBOUR: 'it returns false'. Refute it at one input. -/
def ringOrderWrong : ChangeSpec := { name := "ringOrder", fn := fun _ => fun
  | [d1, d2, d3] => { results := [.lit (.bool false)], args := [d1, d2, d3] }
  | _ => none }
def RingOrderWrongFalsely : Prop := ringOrderRow.holds Tryd.pinned (OpenSpec.ofChange ringOrderWrong)

/-- 'purlinlaw12.RingFull': WHATEVER THE INPUT: true; the input reads as it did. -/
def ringFullSpec : ChangeSpec := { name := "ringFull", fn := fun _ => fun
  | [d1, d2, d3] => { results := [.lit (.bool true)], args := [d1, d2, d3] }
  | _ => none }
def ringFullRow : OpenClaim := { program := "ytplbncncnjiahaadoor", sum := "68224602f78f0dda9b1f51243c32755597c59f14fe38ad300e3d492c8e757da2", func := "purlin/purlinlaw12.RingFull", spec := "ringFull", unfollowed := true, recurses := true, named := ["purlin/mem.look"], apart := false, laid := [("purlin/mem.look", laid_purlin_mem_look)] }
def RingFullSaid : Prop := ringFullRow.holds Tryd.pinned (OpenSpec.ofChange ringFullSpec)

/-- ITS FALSE NEIGHBOUR: 'it returns false'. Refute it at one input. -/
def ringFullWrong : ChangeSpec := { name := "ringFull", fn := fun _ => fun
  | [d1, d2, d3] => { results := [.lit (.bool false)], args := [d1, d2, d3] }
  | _ => none }
def RingFullWrongFalsely : Prop := ringFullRow.holds Tryd.pinned (OpenSpec.ofChange ringFullWrong)

/-- 'purlinlaw12.RingSame': WHATEVER THE INPUT: true; the input reads as it did. -/
def ringSameSpec : ChangeSpec := { name := "ringSame", fn := fun _ => fun
  | [d1, d2, d3] => { results := [.lit (.bool true)], args := [d1, d2, d3] }
  | _ => none }
def ringSameRow : OpenClaim := { program := "ytplbncncnjiahaadoor", sum := "68224602f78f0dda9b1f51243c32755597c59f14fe38ad300e3d492c8e757da2", func := "purlin/purlinlaw12.RingSame", spec := "ringSame", unfollowed := true, recurses := true, named := ["purlin/mem.look"], apart := false, laid := [("purlin/mem.look", laid_purlin_mem_look)] }
def RingSameSaid : Prop := ringSameRow.holds Tryd.pinned (OpenSpec.ofChange ringSameSpec)

/-- ITS FALSE NEIGHBOUR: 'it returns false'. Refute it at one input. -/
def ringSameWrong : ChangeSpec := { name := "ringSame", fn := fun _ => fun
  | [d1, d2, d3] => { results := [.lit (.bool false)], args := [d1, d2, d3] }
  | _ => none }
def RingSameWrongFalsely : Prop := ringSameRow.holds Tryd.pinned (OpenSpec.ofChange ringSameWrong)

/- THE SECOND FORM. 'bulk': how many values and letters a reading holds, each counted each time it is reached (what is shared counts as often as it is met; a slice's spare places count too). A statement '..UptoSaid' is the law's where the arguments, and the package variables that the reading takes, are together of bulk at most 1048576: NARROWER than '..Said'. Prove '..Said' where nothing that the law and all that it calls make is longer than what came in: it says more and counts as full. Else prove '..UptoSaid'. A law counts once. -/
mutual
def uptoBulk {H : Type} : DataW H → Nat
  | .lit (.string bytes) => bytes.length + 1
  | .lit _ => 1
  | .nil => 1
  | .ptr d => uptoBulk d + 1
  | .slice elems spare => uptoBulkAll elems + uptoBulkAll spare + 1
  | .agg parts => uptoBulkAll parts + 1
  | .iface _ d => uptoBulk d + 1
  | .map entries => uptoBulkEntries entries + 1
  | .held _ => 1
def uptoBulkAll {H : Type} : List (DataW H) → Nat
  | [] => 0
  | d :: r => uptoBulk d + uptoBulkAll r
def uptoBulkEntries {H : Type} : List (Lit × DataW H) → Nat
  | [] => 0
  | x :: r => uptoBulkEntry x + uptoBulkEntries r
def uptoBulkEntry {H : Type} : Lit × DataW H → Nat
  | (.string bytes, d) => bytes.length + uptoBulk d + 1
  | (_, d) => uptoBulk d + 1
 end
def uptoSmall : (H : Type) → List (DataW H) → Bool := fun _ ds => decide (uptoBulkAll ds ≤ 1048576)
def OpenSpec.upto (s : _root_.Go.ChangeSpec) : _root_.Go.OpenSpec := { _root_.Go.OpenSpec.ofChange s with cond := some uptoSmall }

/-- 'purlinlaw12.RingMakes', WHERE WHAT IT READS IS OF BULK AT MOST 1048576: true; the input reads as it did. -/
def ringMakesUptoRow : OpenClaim := { program := "ytplbncncnjiahaadoor", sum := "68224602f78f0dda9b1f51243c32755597c59f14fe38ad300e3d492c8e757da2", func := "purlin/purlinlaw12.RingMakes", spec := "ringMakes", unfollowed := true, recurses := true, named := ["purlin/mem.look"], apart := false, laid := [("purlin/mem.look", laid_purlin_mem_look)], narrowed := true }
def RingMakesUptoSaid : Prop := ringMakesUptoRow.holds Tryd.pinned (OpenSpec.upto ringMakesSpec)

/-- 'purlinlaw12.RingPlays', WHERE WHAT IT READS IS OF BULK AT MOST 1048576: true; the input reads as it did. -/
def ringPlaysUptoRow : OpenClaim := { program := "ytplbncncnjiahaadoor", sum := "68224602f78f0dda9b1f51243c32755597c59f14fe38ad300e3d492c8e757da2", func := "purlin/purlinlaw12.RingPlays", spec := "ringPlays", unfollowed := true, recurses := true, named := ["purlin/mem.look"], apart := false, laid := [("purlin/mem.look", laid_purlin_mem_look)], narrowed := true }
def RingPlaysUptoSaid : Prop := ringPlaysUptoRow.holds Tryd.pinned (OpenSpec.upto ringPlaysSpec)

/-- 'purlinlaw12.RingOrder', WHERE WHAT IT READS IS OF BULK AT MOST 1048576: true; the input reads as it did. -/
def ringOrderUptoRow : OpenClaim := { program := "ytplbncncnjiahaadoor", sum := "68224602f78f0dda9b1f51243c32755597c59f14fe38ad300e3d492c8e757da2", func := "purlin/purlinlaw12.RingOrder", spec := "ringOrder", unfollowed := true, recurses := true, named := ["purlin/mem.look"], apart := false, laid := [("purlin/mem.look", laid_purlin_mem_look)], narrowed := true }
def RingOrderUptoSaid : Prop := ringOrderUptoRow.holds Tryd.pinned (OpenSpec.upto ringOrderSpec)

/-- 'purlinlaw12.RingFull', WHERE WHAT IT READS IS OF BULK AT MOST 1048576: true; the input reads as it did. -/
def ringFullUptoRow : OpenClaim := { program := "ytplbncncnjiahaadoor", sum := "68224602f78f0dda9b1f51243c32755597c59f14fe38ad300e3d492c8e757da2", func := "purlin/purlinlaw12.RingFull", spec := "ringFull", unfollowed := true, recurses := true, named := ["purlin/mem.look"], apart := false, laid := [("purlin/mem.look", laid_purlin_mem_look)], narrowed := true }
def RingFullUptoSaid : Prop := ringFullUptoRow.holds Tryd.pinned (OpenSpec.upto ringFullSpec)

/-- 'purlinlaw12.RingSame', WHERE WHAT IT READS IS OF BULK AT MOST 1048576: true; the input reads as it did. -/
def ringSameUptoRow : OpenClaim := { program := "ytplbncncnjiahaadoor", sum := "68224602f78f0dda9b1f51243c32755597c59f14fe38ad300e3d492c8e757da2", func := "purlin/purlinlaw12.RingSame", spec := "ringSame", unfollowed := true, recurses := true, named := ["purlin/mem.look"], apart := false, laid := [("purlin/mem.look", laid_purlin_mem_look)], narrowed := true }
def RingSameUptoSaid : Prop := ringSameUptoRow.holds Tryd.pinned (OpenSpec.upto ringSameSpec)

end Rows
end Go.Proofs.YtplbncncnjiahaaDoor
