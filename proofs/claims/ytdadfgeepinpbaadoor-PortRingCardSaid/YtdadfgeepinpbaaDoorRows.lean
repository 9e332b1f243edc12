/-
  NARROWER THAN 'FOR EVERY INPUT', by the rows' own cells (each row's printed sentence says how): PortSlot: laid · PortRing: laid.
  DERIVED. THE GIVEN ROWS OF THIS SEAT. 2 by the template 'for every input the law returns true; each argument reads behind the call as it read before'; 0 by the template 'total and deterministic' (their statements: YtdadfgeepinpbaaDoorTotals.lean).
  GIVEN WITH THE SEED: the statements are not yours to turn. If you find one false, say at which input.
  Laid BY PROGRAM, IN A SANDBOX (cutbox-rows.mjs): the forced cells as the released guide's own fill.sh prints them over the translation 538395083465f634… (all of the seat's roots in one cut). By AI agents, Wed Nov 11 2026. No macro, syntax, notation, axiom, sorry.
-/
import Derived.Test.YtdadfgeepinpbaaDoorChecked
import GoSem.Claim
import GoSem.ClaimJoined
import GoSem.ClaimMapViews
import Derived.JoinedTies
import Derived.KernelRfl
namespace Go.Proofs.YtdadfgeepinpbaaDoor
/- THE CELL 'sum', in the pinned program and in every row, IS THE sha256 OF THE DUMP (.gsa) THAT YtdadfgeepinpbaaDoorProg.lean LOADS. Nothing in Lean hashes anything: it is a label: what it is worth is what the hold of that sum in a sandbox is worth. -/
noncomputable def Tryd.pinned : Pinned := { name := "ytdadfgeepinpbaadoor", sum := "538395083465f634f0e639fecf070a45fd964441b0f6400b564f590b4bf6a70d", checked := Tryd.checked }
namespace Rows
def none {H : Type} : Left H := { results := [], args := [] }

/- WHAT THE LISTED PACKAGE-LEVEL VARIABLES READ AS WHEN THE CALL BEGINS. Each datum BY PROGRAM (the guide's laid-datum.mjs) off the statement by which the dump's own 'gosem.cut.vars' lays the variable. In a bare row this is a premise. The card (YtdadfgeepinpbaaDoorCards.lean) ties it to the program's text. -/
def laid_purlin_mem_look {H : Type} : DataW H := .agg [.lit (.int .u32 4294967295), .lit (.int .u32 0), .lit (.int .u32 0)]

/-- 'purlinlaw19.PortSlot': WHATEVER THE INPUT: true; the input reads as it did. -/
def portSlotSpec : ChangeSpec := { name := "portSlot", fn := fun _ => fun
  | [d1, d2] => { results := [.lit (.bool true)], args := [d1, d2] }
  | _ => none }
def portSlotRow : OpenClaim := { program := "ytdadfgeepinpbaadoor", sum := "538395083465f634f0e639fecf070a45fd964441b0f6400b564f590b4bf6a70d", func := "purlin/purlinlaw19.PortSlot", spec := "portSlot", unfollowed := true, recurses := true, named := ["purlin/mem.look"], apart := false, laid := [("purlin/mem.look", laid_purlin_mem_look)] }
def PortSlotSaid : Prop := portSlotRow.holds Tryd.pinned (OpenSpec.ofChange portSlotSpec)

/-- ITS FALSE NEIGHBOUR: 'it returns false'. Refute it at one input. -/
def portSlotWrong : ChangeSpec := { name := "portSlot", fn := fun _ => fun
  | [d1, d2] => { results := [.lit (.bool false)], args := [d1, d2] }
  | _ => none }
def PortSlotWrongFalsely : Prop := portSlotRow.holds Tryd.pinned (OpenSpec.ofChange portSlotWrong)

/-- 'purlinlaw19.PortRing': WHATEVER THE INPUT: true; the input reads as it did. -/
def portRingSpec : ChangeSpec := { name := "portRing", fn := fun _ => fun
  | [d1, d2, d3] => { results := [.lit (.bool true)], args := [d1, d2, d3] }
  | _ => none }
def portRingRow : OpenClaim := { program := "ytdadfgeepinpbaadoor", sum := "538395083465f634f0e639fecf070a45fd964441b0f6400b564f590b4bf6a70d", func := "purlin/purlinlaw19.PortRing", spec := "portRing", unfollowed := true, recurses := true, named := ["purlin/mem.look"], apart := false, laid := [("purlin/mem.look", laid_purlin_mem_look)] }
def PortRingSaid : Prop := portRingRow.holds Tryd.pinned (OpenSpec.ofChange portRingSpec)

/-- ITS FALSE NEIGHBOUR: 'it returns false'. Refute it at one input. -/
def portRingWrong : ChangeSpec := { name := "portRing", fn := fun _ => fun
  | [d1, d2, d3] => { results := [.lit (.bool false)], args := [d1, d2, d3] }
  | _ => none }
def PortRingWrongFalsely : Prop := portRingRow.holds Tryd.pinned (OpenSpec.ofChange portRingWrong)

/- THE SECOND FORM. 'bulk': how many values and letters a reading holds, each counted each time it is reached (what is shared counts as often as it is met; a slice's spare places count too). A statement '..UptoSaid' is the law's where the arguments, and the package variables that the reading takes, are together of bulk at most 1048576: NARROWER than '..Said'. Prove '..Said' where nothing that the law and all that it calls make is longer than what came in: it says more and counts as full. Else prove '..UptoSaid'. A law counts once. -/
mutual
def uptoBulk {H : Type} : DataW H → Nat
  | .lit (.string bytes) => bytes.length + 1
  | .lit _ => 1
  | .nil => 1
  | .ptr d => uptoBulk d + 1
  | .slice elems spare => uptoBulkAll elems + uptoBulkAll spare + 1
  | .agg parts => uptoBulkAll parts + 1
  | .iface _ d => uptoBulk d + 1
  | .map entries => uptoBulkEntries entries + 1
  | .held _ => 1
def uptoBulkAll {H : Type} : List (DataW H) → Nat
  | [] => 0
  | d :: r => uptoBulk d + uptoBulkAll r
def uptoBulkEntries {H : Type} : List (Lit × DataW H) → Nat
  | [] => 0
  | x :: r => uptoBulkEntry x + uptoBulkEntries r
def uptoBulkEntry {H : Type} : Lit × DataW H → Nat
  | (.string bytes, d) => bytes.length + uptoBulk d + 1
  | (_, d) => uptoBulk d + 1
 end
def uptoSmall : (H : Type) → List (DataW H) → Bool := fun _ ds => decide (uptoBulkAll ds ≤ 1048576)
def OpenSpec.upto (s : _root_.Go.ChangeSpec) : _root_.Go.OpenSpec := { _root_.Go.OpenSpec.ofChange s with cond := some uptoSmall }

/-- 'purlinlaw19.PortSlot', WHERE WHAT IT READS IS OF BULK AT MOST 1048576: true; the input reads as it did. -/
def portSlotUptoRow : OpenClaim := { program := "ytdadfgeepinpbaadoor", sum := "538395083465f634f0e639fecf070a45fd964441b0f6400b564f590b4bf6a70d", func := "purlin/purlinlaw19.PortSlot", spec := "portSlot", unfollowed := true, recurses := true, named := ["purlin/mem.look"], apart := false, laid := [("purlin/mem.look", laid_purlin_mem_look)], narrowed := true }
def PortSlotUptoSaid : Prop := portSlotUptoRow.holds Tryd.pinned (OpenSpec.upto portSlotSpec)

/-- 'purlinlaw19.PortRing', WHERE WHAT IT READS IS OF BULK AT MOST 1048576: true; the input reads as it did. -/
def portRingUptoRow : OpenClaim := { program := "ytdadfgeepinpbaadoor", sum := "538395083465f634f0e639fecf070a45fd964441b0f6400b564f590b4bf6a70d", func := "purlin/purlinlaw19.PortRing", spec := "portRing", unfollowed := true, recurses := true, named := ["purlin/mem.look"], apart := false, laid := [("purlin/mem.look", laid_purlin_mem_look)], narrowed := true }
def PortRingUptoSaid : Prop := portRingUptoRow.holds Tryd.pinned (OpenSpec.upto portRingSpec)

end Rows
end Go.Proofs.YtdadfgeepinpbaaDoor
