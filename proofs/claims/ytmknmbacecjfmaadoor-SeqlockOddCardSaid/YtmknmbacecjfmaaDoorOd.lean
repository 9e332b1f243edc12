/- SeqlockOdd returns true at every input, without condition, and leaves its arguments as they were; its listed variable is tied to the program's text. -/
import Derived.Test.YtmknmbacecjfmaaDoorSxB
import Derived.Test.YtmknmbacecjfmaaDoorRows
import Derived.Test.YtmknmbacecjfmaaDoorCards
import Derived.Test.YtmknmbacecjfmaaDoorTie
import Derived.ProofKit
import Derived.LaidMore
import Derived.OpenShut
import Derived.Stop.Joined
/- Layer 10: the configuration. -/
namespace Go.Proofs.YtmknmbacecjfmaaDoor
open Go Go.Proofs.YtmknmbacecjfmaaDoor.Sx
set_option linter.unusedVariables false
/-- the package's variable, as it was laid -/
def encLook : Enc Unit := encOf 2 (fun _ => [.lit .u32 4294967295, .lit .u32 0, .lit .u32 0]) () (fun _ => rfl) (by intro env env' x vs h; simpa [DenL, Den] using h)
abbrev lookB : Blk := .ro encLook [()]
noncomputable def cfg0 : Cfg := { P := Tryd.prog, ex := fun k => match k with | .i64 => true | _ => false, gl := [(0, 0)], sm := fun _ => none }
theorem cfg0_ok : SmOk cfg0 := by intro f g h; cases h
abbrev awL (i : Nat) : T SVal := T.need true (T.ret ((List.take (1 : Nat) ([[SVal.lit IntKind.u32 (1 : Int)], [SVal.lit IntKind.u32 (2 : Int)]].getD i []) ++ List.replicate (0 : Nat) SVal.bad).getD (0 : Nat) SVal.bad))
set_option maxRecDepth 100000 in
theorem awake_val : (callF cfg0 100 10 [] [lookB]).valE = some (awL 0 = awL 0 ∧ awL 1 = awL 1 ∧ True, .bl true) := by kernel_rfl
noncomputable def cfg : Cfg := { P := Tryd.prog, ex := fun k => match k with | .i64 => true | _ => false, gl := [(0, 0)], sm := fun f => match f with | 10 => some (smClosed [0] [lookB] (.bl true)) | _ => none }
theorem cfg_ok : SmOk cfg := by
  intro f g h
  simp only [cfg] at h
  split at h
  · simp only [Option.some.injEq] at h; subst h
    exact smClosedE_ok cfg0_ok awake_val ⟨rfl, rfl, trivial⟩ (by kernel_rfl) rfl rfl (by intro b hb e; rw [List.mem_singleton.1 hb]; rfl)
  · cases h
noncomputable def b5 : Code := Tryd.f5.body.getD .skip
noncomputable def reg5 : Code := lft (lft (restC 4 b5))
noncomputable def blk5 : Code := rgt (lft (restC 4 b5))
noncomputable def round5 : Code := lft (lft blk5)
noncomputable def end5 : Code := rgt (restC 4 b5)
/-- a memory of forty words, of which the first one is v; used c times -/
abbrev memW (v : SVal) : Blk := .own [.c v, .c (.lit .u32 0), .c (.lit .u32 0), .c (.lit .u32 0), .c (.lit .u32 0), .c (.lit .u32 0), .c (.lit .u32 0), .c (.lit .u32 0), .c (.lit .u32 0), .c (.lit .u32 0), .c (.lit .u32 0), .c (.lit .u32 0), .c (.lit .u32 0), .c (.lit .u32 0), .c (.lit .u32 0), .c (.lit .u32 0), .c (.lit .u32 0), .c (.lit .u32 0), .c (.lit .u32 0), .c (.lit .u32 0), .c (.lit .u32 0), .c (.lit .u32 0), .c (.lit .u32 0), .c (.lit .u32 0), .c (.lit .u32 0), .c (.lit .u32 0), .c (.lit .u32 0), .c (.lit .u32 0), .c (.lit .u32 0), .c (.lit .u32 0), .c (.lit .u32 0), .c (.lit .u32 0), .c (.lit .u32 0), .c (.lit .u32 0), .c (.lit .u32 0), .c (.lit .u32 0), .c (.lit .u32 0), .c (.lit .u32 0), .c (.lit .u32 0), .c (.lit .u32 0)] 22
abbrev memB (i : Nat) (c : SVal) : Blk := .own [.c (.sli i (.c 0) 1 (.c 40) (some (.c 40))), .c c] 68
/-- a reader that hasn't begun -/
abbrev rdB (n : Int) : Blk := .own [.c (.lit .i64 0), .c (.int .i64 n), .c (.lit .i64 0), .c (.lit .i64 0), .c (.lit .u32 0), .c (.lit .u32 0), .c (.lit .u32 0), .c (.lit .u32 0), .c (.lit .u32 0), .c (.lit .u32 0), .c (.lit .u32 0), .c (.lit .u32 0), .c (.lit .u32 0), .c (.lit .u32 0), .c (.lit .u32 0), .c (.lit .u32 0), .c (.lit .u32 0), .c (.lit .u32 0), .c (.lit .u32 0), .c (.lit .u32 0), .c (.lit .u32 0), .c (.lit .u32 0), .c (.lit .u32 0), .c (.lit .u32 0), .c (.lit .u32 0), .c (.lit .u32 0), .c (.lit .u32 0), .c (.lit .u32 0), .c (.lit .u32 0), .c (.lit .u32 0), .c (.lit .u32 0), .c (.lit .u32 0), .c (.lit .u32 0), .c (.lit .u32 0), .c (.lit .u32 0), .c (.lit .u32 0), .c (.lit .u32 0), .c (.bl false), .c (.lit .i64 0)] 73
abbrev s5 (v c n : Int) : St := [lookB, memB 2 (.int .i64 c), memW (.int .u32 v), rdB n]
abbrev n5 : List Nat := [2, 6, 7, 9, 11]
abbrev v5 (steps i : Int) : List SVal := [.int .u8 steps, .bl false, .ptr 1 0, .ptr 3 0, .int .i64 i]
end Go.Proofs.YtmknmbacecjfmaaDoor

namespace Go.Proofs.YtmknmbacecjfmaaDoor
open Go Go.Proofs.YtmknmbacecjfmaaDoor.Sx
set_option linter.unusedVariables false
set_option maxRecDepth 100000 in
theorem q5_a {count n steps : Int} : (execN cfg 100 4 b5 ([.int .u32 count, .int .u8 n, .int .u8 steps] ++ List.replicate 74 .bad) [lookB]).bind (canon [(0, 0)] 77 [2, 6, 7, 9]) =
 
 (.need (inR .i64 n)
 (.need (true)
 (.need (inR .i64 ((1 : Int) + n.tmod (32 : Int)))
 (.br (decide ((1 : Int) ≤ (1 : Int) + n.tmod (32 : Int)))
 (.br (!decide ((1 : Int) + n.tmod (32 : Int) ≤ (32 : Int)))
 (.eq (some [Blk.ro encLook [PUnit.unit]] = some [Blk.ro encLook [PUnit.unit]])
 (.ret (.ret, [.int .u8 steps, .bl false, .ptr 1 0, .pnil], [.ro encLook [PUnit.unit], .own [.c (.sli 2 (.c 0) 1 (.c 40) (some (.c 40))), .c (.lit .i64 (0 : Int))] 68, .own [.c (.lit .u32 (0 : Int)), .c (.lit .u32 (0 : Int)), .c (.lit .u32 (0 : Int)), .c (.lit .u32 (0 : Int)), .c (.lit .u32 (0 : Int)), .c (.lit .u32 (0 : Int)), .c (.lit .u32 (0 : Int)), .c (.lit .u32 (0 : Int)), .c (.lit .u32 (0 : Int)), .c (.lit .u32 (0 : Int)), .c (.lit .u32 (0 : Int)), .c (.lit .u32 (0 : Int)), .c (.lit .u32 (0 : Int)), .c (.lit .u32 (0 : Int)), .c (.lit .u32 (0 : Int)), .c (.lit .u32 (0 : Int)), .c (.lit .u32 (0 : Int)), .c (.lit .u32 (0 : Int)), .c (.lit .u32 (0 : Int)), .c (.lit .u32 (0 : Int)), .c (.lit .u32 (0 : Int)), .c (.lit .u32 (0 : Int)), .c (.lit .u32 (0 : Int)), .c (.lit .u32 (0 : Int)), .c (.lit .u32 (0 : Int)), .c (.lit .u32 (0 : Int)), .c (.lit .u32 (0 : Int)), .c (.lit .u32 (0 : Int)), .c (.lit .u32 (0 : Int)), .c (.lit .u32 (0 : Int)), .c (.lit .u32 (0 : Int)), .c (.lit .u32 (0 : Int)), .c (.lit .u32 (0 : Int)), .c (.lit .u32 (0 : Int)), .c (.lit .u32 (0 : Int)), .c (.lit .u32 (0 : Int)), .c (.lit .u32 (0 : Int)), .c (.lit .u32 (0 : Int)), .c (.lit .u32 (0 : Int)), .c (.lit .u32 (0 : Int))] 22])))
 (.eq (some [Blk.ro encLook [PUnit.unit]] = some [Blk.ro encLook [PUnit.unit]])
 (.need (true)
 (.need (true)
 (.need (true)
 (.eq (T.ret (SVal.int .u32 (bitop BinOp.or IntKind.u32 count (1 : Int))) = T.ret (SVal.int .u32 (bitop BinOp.or IntKind.u32 count (1 : Int))))
 (.eq (T.ret (SVal.int .u32 (bitop BinOp.or IntKind.u32 (0 : Int) (bitop BinOp.or IntKind.u32 count (1 : Int)))) = T.ret (SVal.int .u32 (bitop BinOp.or IntKind.u32 (0 : Int) (bitop BinOp.or IntKind.u32 count (1 : Int)))))
 (.ret (.normal, [.int .u8 steps, .bl false, .ptr 1 0, .ptr 3 0], [.ro encLook [PUnit.unit], .own [.c (.sli 2 (.c 0) 1 (.c 40) (some (.c 40))), .c (.lit .i64 (1 : Int))] 68, .own [.c (.int .u32 (IntKind.u32.wrap (bitop BinOp.or IntKind.u32 (0 : Int) (bitop BinOp.or IntKind.u32 count (1 : Int)) + (0 : Int)))), .c (.lit .u32 (0 : Int)), .c (.lit .u32 (0 : Int)), .c (.lit .u32 (0 : Int)), .c (.lit .u32 (0 : Int)), .c (.lit .u32 (0 : Int)), .c (.lit .u32 (0 : Int)), .c (.lit .u32 (0 : Int)), .c (.lit .u32 (0 : Int)), .c (.lit .u32 (0 : Int)), .c (.lit .u32 (0 : Int)), .c (.lit .u32 (0 : Int)), .c (.lit .u32 (0 : Int)), .c (.lit .u32 (0 : Int)), .c (.lit .u32 (0 : Int)), .c (.lit .u32 (0 : Int)), .c (.lit .u32 (0 : Int)), .c (.lit .u32 (0 : Int)), .c (.lit .u32 (0 : Int)), .c (.lit .u32 (0 : Int)), .c (.lit .u32 (0 : Int)), .c (.lit .u32 (0 : Int)), .c (.lit .u32 (0 : Int)), .c (.lit .u32 (0 : Int)), .c (.lit .u32 (0 : Int)), .c (.lit .u32 (0 : Int)), .c (.lit .u32 (0 : Int)), .c (.lit .u32 (0 : Int)), .c (.lit .u32 (0 : Int)), .c (.lit .u32 (0 : Int)), .c (.lit .u32 (0 : Int)), .c (.lit .u32 (0 : Int)), .c (.lit .u32 (0 : Int)), .c (.lit .u32 (0 : Int)), .c (.lit .u32 (0 : Int)), .c (.lit .u32 (0 : Int)), .c (.lit .u32 (0 : Int)), .c (.lit .u32 (0 : Int)), .c (.lit .u32 (0 : Int)), .c (.lit .u32 (0 : Int))] 22, .own [.c (.lit .i64 (0 : Int)), .c (.int .i64 ((1 : Int) + n.tmod (32 : Int))), .c (.lit .i64 (0 : Int)), .c (.lit .i64 (0 : Int)), .c (.lit .u32 (0 : Int)), .c (.lit .u32 (0 : Int)), .c (.lit .u32 (0 : Int)), .c (.lit .u32 (0 : Int)), .c (.lit .u32 (0 : Int)), .c (.lit .u32 (0 : Int)), .c (.lit .u32 (0 : Int)), .c (.lit .u32 (0 : Int)), .c (.lit .u32 (0 : Int)), .c (.lit .u32 (0 : Int)), .c (.lit .u32 (0 : Int)), .c (.lit .u32 (0 : Int)), .c (.lit .u32 (0 : Int)), .c (.lit .u32 (0 : Int)), .c (.lit .u32 (0 : Int)), .c (.lit .u32 (0 : Int)), .c (.lit .u32 (0 : Int)), .c (.lit .u32 (0 : Int)), .c (.lit .u32 (0 : Int)), .c (.lit .u32 (0 : Int)), .c (.lit .u32 (0 : Int)), .c (.lit .u32 (0 : Int)), .c (.lit .u32 (0 : Int)), .c (.lit .u32 (0 : Int)), .c (.lit .u32 (0 : Int)), .c (.lit .u32 (0 : Int)), .c (.lit .u32 (0 : Int)), .c (.lit .u32 (0 : Int)), .c (.lit .u32 (0 : Int)), .c (.lit .u32 (0 : Int)), .c (.lit .u32 (0 : Int)), .c (.lit .u32 (0 : Int)), .c (.lit .u32 (0 : Int)), .c (.bl false), .c (.lit .i64 (0 : Int))] 73])))))))))
 (.eq (some [Blk.ro encLook [PUnit.unit]] = some [Blk.ro encLook [PUnit.unit]])
 (.ret (.ret, [.int .u8 steps, .bl false, .ptr 1 0, .pnil], [.ro encLook [PUnit.unit], .own [.c (.sli 2 (.c 0) 1 (.c 40) (some (.c 40))), .c (.lit .i64 (0 : Int))] 68, .own [.c (.lit .u32 (0 : Int)), .c (.lit .u32 (0 : Int)), .c (.lit .u32 (0 : Int)), .c (.lit .u32 (0 : Int)), .c (.lit .u32 (0 : Int)), .c (.lit .u32 (0 : Int)), .c (.lit .u32 (0 : Int)), .c (.lit .u32 (0 : Int)), .c (.lit .u32 (0 : Int)), .c (.lit .u32 (0 : Int)), .c (.lit .u32 (0 : Int)), .c (.lit .u32 (0 : Int)), .c (.lit .u32 (0 : Int)), .c (.lit .u32 (0 : Int)), .c (.lit .u32 (0 : Int)), .c (.lit .u32 (0 : Int)), .c (.lit .u32 (0 : Int)), .c (.lit .u32 (0 : Int)), .c (.lit .u32 (0 : Int)), .c (.lit .u32 (0 : Int)), .c (.lit .u32 (0 : Int)), .c (.lit .u32 (0 : Int)), .c (.lit .u32 (0 : Int)), .c (.lit .u32 (0 : Int)), .c (.lit .u32 (0 : Int)), .c (.lit .u32 (0 : Int)), .c (.lit .u32 (0 : Int)), .c (.lit .u32 (0 : Int)), .c (.lit .u32 (0 : Int)), .c (.lit .u32 (0 : Int)), .c (.lit .u32 (0 : Int)), .c (.lit .u32 (0 : Int)), .c (.lit .u32 (0 : Int)), .c (.lit .u32 (0 : Int)), .c (.lit .u32 (0 : Int)), .c (.lit .u32 (0 : Int)), .c (.lit .u32 (0 : Int)), .c (.lit .u32 (0 : Int)), .c (.lit .u32 (0 : Int)), .c (.lit .u32 (0 : Int))] 22]))))))) := by kernel_rfl
set_option maxRecDepth 100000 in
theorem q5_reg {steps n v : Int} : (exec cfg 100 reg5 (fr 77 [2, 6, 7, 9] [.int .u8 steps, .bl false, .ptr 1 0, .ptr 3 0]) [lookB, memB 2 (.lit .i64 1), memW (.int .u32 v), rdB n]).bind (canon [(0, 0)] 77 n5) =
 
 (.ret (.normal, [.int .u8 steps, .bl false, .ptr 1 0, .ptr 3 0, .lit .i64 (0 : Int)], [.ro encLook [PUnit.unit], .own [.c (.sli 2 (.c 0) 1 (.c 40) (some (.c 40))), .c (.lit .i64 (1 : Int))] 68, .own [.c (.int .u32 v), .c (.lit .u32 (0 : Int)), .c (.lit .u32 (0 : Int)), .c (.lit .u32 (0 : Int)), .c (.lit .u32 (0 : Int)), .c (.lit .u32 (0 : Int)), .c (.lit .u32 (0 : Int)), .c (.lit .u32 (0 : Int)), .c (.lit .u32 (0 : Int)), .c (.lit .u32 (0 : Int)), .c (.lit .u32 (0 : Int)), .c (.lit .u32 (0 : Int)), .c (.lit .u32 (0 : Int)), .c (.lit .u32 (0 : Int)), .c (.lit .u32 (0 : Int)), .c (.lit .u32 (0 : Int)), .c (.lit .u32 (0 : Int)), .c (.lit .u32 (0 : Int)), .c (.lit .u32 (0 : Int)), .c (.lit .u32 (0 : Int)), .c (.lit .u32 (0 : Int)), .c (.lit .u32 (0 : Int)), .c (.lit .u32 (0 : Int)), .c (.lit .u32 (0 : Int)), .c (.lit .u32 (0 : Int)), .c (.lit .u32 (0 : Int)), .c (.lit .u32 (0 : Int)), .c (.lit .u32 (0 : Int)), .c (.lit .u32 (0 : Int)), .c (.lit .u32 (0 : Int)), .c (.lit .u32 (0 : Int)), .c (.lit .u32 (0 : Int)), .c (.lit .u32 (0 : Int)), .c (.lit .u32 (0 : Int)), .c (.lit .u32 (0 : Int)), .c (.lit .u32 (0 : Int)), .c (.lit .u32 (0 : Int)), .c (.lit .u32 (0 : Int)), .c (.lit .u32 (0 : Int)), .c (.lit .u32 (0 : Int))] 22, .own [.c (.lit .i64 (0 : Int)), .c (.int .i64 n), .c (.lit .i64 (0 : Int)), .c (.lit .i64 (0 : Int)), .c (.lit .u32 (0 : Int)), .c (.lit .u32 (0 : Int)), .c (.lit .u32 (0 : Int)), .c (.lit .u32 (0 : Int)), .c (.lit .u32 (0 : Int)), .c (.lit .u32 (0 : Int)), .c (.lit .u32 (0 : Int)), .c (.lit .u32 (0 : Int)), .c (.lit .u32 (0 : Int)), .c (.lit .u32 (0 : Int)), .c (.lit .u32 (0 : Int)), .c (.lit .u32 (0 : Int)), .c (.lit .u32 (0 : Int)), .c (.lit .u32 (0 : Int)), .c (.lit .u32 (0 : Int)), .c (.lit .u32 (0 : Int)), .c (.lit .u32 (0 : Int)), .c (.lit .u32 (0 : Int)), .c (.lit .u32 (0 : Int)), .c (.lit .u32 (0 : Int)), .c (.lit .u32 (0 : Int)), .c (.lit .u32 (0 : Int)), .c (.lit .u32 (0 : Int)), .c (.lit .u32 (0 : Int)), .c (.lit .u32 (0 : Int)), .c (.lit .u32 (0 : Int)), .c (.lit .u32 (0 : Int)), .c (.lit .u32 (0 : Int)), .c (.lit .u32 (0 : Int)), .c (.lit .u32 (0 : Int)), .c (.lit .u32 (0 : Int)), .c (.lit .u32 (0 : Int)), .c (.lit .u32 (0 : Int)), .c (.bl false), .c (.lit .i64 (0 : Int))] 73])) := by kernel_rfl
set_option maxRecDepth 100000 in
theorem q5_r {steps n v c i : Int} : (exec cfg 100 round5 (fr 77 n5 (v5 steps i)) (s5 v c n)).bind (canon [(0, 0)] 77 n5) =
 
 (.need (inR .i64 steps)
 (.br (decide (i < steps))
 (.need (true)
 (.need (true)
 (.need (true)
 (.need (inR .i64 (c + (1 : Int)))
 (.need (true)
 (.need (true)
 (.need (true)
 (.need (true)
 (.br (v.tmod (2 : Int) == (0 : Int))
 (.need (inR .i64 (i + (1 : Int)))
 (.ret (.normal, [.int .u8 steps, .bl false, .ptr 1 0, .ptr 3 0, .int .i64 (i + (1 : Int))], [.ro encLook [PUnit.unit], .own [.c (.sli 2 (.c 0) 1 (.c 40) (some (.c 40))), .c (.int .i64 (c + (1 : Int)))] 68, .own [.c (.int .u32 v), .c (.lit .u32 (0 : Int)), .c (.lit .u32 (0 : Int)), .c (.lit .u32 (0 : Int)), .c (.lit .u32 (0 : Int)), .c (.lit .u32 (0 : Int)), .c (.lit .u32 (0 : Int)), .c (.lit .u32 (0 : Int)), .c (.lit .u32 (0 : Int)), .c (.lit .u32 (0 : Int)), .c (.lit .u32 (0 : Int)), .c (.lit .u32 (0 : Int)), .c (.lit .u32 (0 : Int)), .c (.lit .u32 (0 : Int)), .c (.lit .u32 (0 : Int)), .c (.lit .u32 (0 : Int)), .c (.lit .u32 (0 : Int)), .c (.lit .u32 (0 : Int)), .c (.lit .u32 (0 : Int)), .c (.lit .u32 (0 : Int)), .c (.lit .u32 (0 : Int)), .c (.lit .u32 (0 : Int)), .c (.lit .u32 (0 : Int)), .c (.lit .u32 (0 : Int)), .c (.lit .u32 (0 : Int)), .c (.lit .u32 (0 : Int)), .c (.lit .u32 (0 : Int)), .c (.lit .u32 (0 : Int)), .c (.lit .u32 (0 : Int)), .c (.lit .u32 (0 : Int)), .c (.lit .u32 (0 : Int)), .c (.lit .u32 (0 : Int)), .c (.lit .u32 (0 : Int)), .c (.lit .u32 (0 : Int)), .c (.lit .u32 (0 : Int)), .c (.lit .u32 (0 : Int)), .c (.lit .u32 (0 : Int)), .c (.lit .u32 (0 : Int)), .c (.lit .u32 (0 : Int)), .c (.lit .u32 (0 : Int))] 22, .own [.c (.lit .i64 (0 : Int)), .c (.int .i64 n), .c (.lit .i64 (0 : Int)), .c (.lit .i64 (1 : Int)), .c (.int .u32 v), .c (.lit .u32 (0 : Int)), .c (.lit .u32 (0 : Int)), .c (.lit .u32 (0 : Int)), .c (.lit .u32 (0 : Int)), .c (.lit .u32 (0 : Int)), .c (.lit .u32 (0 : Int)), .c (.lit .u32 (0 : Int)), .c (.lit .u32 (0 : Int)), .c (.lit .u32 (0 : Int)), .c (.lit .u32 (0 : Int)), .c (.lit .u32 (0 : Int)), .c (.lit .u32 (0 : Int)), .c (.lit .u32 (0 : Int)), .c (.lit .u32 (0 : Int)), .c (.lit .u32 (0 : Int)), .c (.lit .u32 (0 : Int)), .c (.lit .u32 (0 : Int)), .c (.lit .u32 (0 : Int)), .c (.lit .u32 (0 : Int)), .c (.lit .u32 (0 : Int)), .c (.lit .u32 (0 : Int)), .c (.lit .u32 (0 : Int)), .c (.lit .u32 (0 : Int)), .c (.lit .u32 (0 : Int)), .c (.lit .u32 (0 : Int)), .c (.lit .u32 (0 : Int)), .c (.lit .u32 (0 : Int)), .c (.lit .u32 (0 : Int)), .c (.lit .u32 (0 : Int)), .c (.lit .u32 (0 : Int)), .c (.lit .u32 (0 : Int)), .c (.lit .u32 (0 : Int)), .c (.bl false), .c (.lit .i64 (1 : Int))] 73])))
 (.need (inR .i64 (i + (1 : Int)))
 (.ret (.normal, [.int .u8 steps, .bl false, .ptr 1 0, .ptr 3 0, .int .i64 (i + (1 : Int))], [.ro encLook [PUnit.unit], .own [.c (.sli 2 (.c 0) 1 (.c 40) (some (.c 40))), .c (.int .i64 (c + (1 : Int)))] 68, .own [.c (.int .u32 v), .c (.lit .u32 (0 : Int)), .c (.lit .u32 (0 : Int)), .c (.lit .u32 (0 : Int)), .c (.lit .u32 (0 : Int)), .c (.lit .u32 (0 : Int)), .c (.lit .u32 (0 : Int)), .c (.lit .u32 (0 : Int)), .c (.lit .u32 (0 : Int)), .c (.lit .u32 (0 : Int)), .c (.lit .u32 (0 : Int)), .c (.lit .u32 (0 : Int)), .c (.lit .u32 (0 : Int)), .c (.lit .u32 (0 : Int)), .c (.lit .u32 (0 : Int)), .c (.lit .u32 (0 : Int)), .c (.lit .u32 (0 : Int)), .c (.lit .u32 (0 : Int)), .c (.lit .u32 (0 : Int)), .c (.lit .u32 (0 : Int)), .c (.lit .u32 (0 : Int)), .c (.lit .u32 (0 : Int)), .c (.lit .u32 (0 : Int)), .c (.lit .u32 (0 : Int)), .c (.lit .u32 (0 : Int)), .c (.lit .u32 (0 : Int)), .c (.lit .u32 (0 : Int)), .c (.lit .u32 (0 : Int)), .c (.lit .u32 (0 : Int)), .c (.lit .u32 (0 : Int)), .c (.lit .u32 (0 : Int)), .c (.lit .u32 (0 : Int)), .c (.lit .u32 (0 : Int)), .c (.lit .u32 (0 : Int)), .c (.lit .u32 (0 : Int)), .c (.lit .u32 (0 : Int)), .c (.lit .u32 (0 : Int)), .c (.lit .u32 (0 : Int)), .c (.lit .u32 (0 : Int)), .c (.lit .u32 (0 : Int))] 22, .own [.c (.lit .i64 (0 : Int)), .c (.int .i64 n), .c (.lit .i64 (0 : Int)), .c (.lit .i64 (0 : Int)), .c (.lit .u32 (0 : Int)), .c (.lit .u32 (0 : Int)), .c (.lit .u32 (0 : Int)), .c (.lit .u32 (0 : Int)), .c (.lit .u32 (0 : Int)), .c (.lit .u32 (0 : Int)), .c (.lit .u32 (0 : Int)), .c (.lit .u32 (0 : Int)), .c (.lit .u32 (0 : Int)), .c (.lit .u32 (0 : Int)), .c (.lit .u32 (0 : Int)), .c (.lit .u32 (0 : Int)), .c (.lit .u32 (0 : Int)), .c (.lit .u32 (0 : Int)), .c (.lit .u32 (0 : Int)), .c (.lit .u32 (0 : Int)), .c (.lit .u32 (0 : Int)), .c (.lit .u32 (0 : Int)), .c (.lit .u32 (0 : Int)), .c (.lit .u32 (0 : Int)), .c (.lit .u32 (0 : Int)), .c (.lit .u32 (0 : Int)), .c (.lit .u32 (0 : Int)), .c (.lit .u32 (0 : Int)), .c (.lit .u32 (0 : Int)), .c (.lit .u32 (0 : Int)), .c (.lit .u32 (0 : Int)), .c (.lit .u32 (0 : Int)), .c (.lit .u32 (0 : Int)), .c (.lit .u32 (0 : Int)), .c (.lit .u32 (0 : Int)), .c (.lit .u32 (0 : Int)), .c (.lit .u32 (0 : Int)), .c (.bl false), .c (.lit .i64 (0 : Int))] 73]))))))))))))
 (.ret (.exit (0 : Nat), [.int .u8 steps, .bl false, .ptr 1 0, .ptr 3 0, .int .i64 i], [.ro encLook [PUnit.unit], .own [.c (.sli 2 (.c 0) 1 (.c 40) (some (.c 40))), .c (.int .i64 c)] 68, .own [.c (.int .u32 v), .c (.lit .u32 (0 : Int)), .c (.lit .u32 (0 : Int)), .c (.lit .u32 (0 : Int)), .c (.lit .u32 (0 : Int)), .c (.lit .u32 (0 : Int)), .c (.lit .u32 (0 : Int)), .c (.lit .u32 (0 : Int)), .c (.lit .u32 (0 : Int)), .c (.lit .u32 (0 : Int)), .c (.lit .u32 (0 : Int)), .c (.lit .u32 (0 : Int)), .c (.lit .u32 (0 : Int)), .c (.lit .u32 (0 : Int)), .c (.lit .u32 (0 : Int)), .c (.lit .u32 (0 : Int)), .c (.lit .u32 (0 : Int)), .c (.lit .u32 (0 : Int)), .c (.lit .u32 (0 : Int)), .c (.lit .u32 (0 : Int)), .c (.lit .u32 (0 : Int)), .c (.lit .u32 (0 : Int)), .c (.lit .u32 (0 : Int)), .c (.lit .u32 (0 : Int)), .c (.lit .u32 (0 : Int)), .c (.lit .u32 (0 : Int)), .c (.lit .u32 (0 : Int)), .c (.lit .u32 (0 : Int)), .c (.lit .u32 (0 : Int)), .c (.lit .u32 (0 : Int)), .c (.lit .u32 (0 : Int)), .c (.lit .u32 (0 : Int)), .c (.lit .u32 (0 : Int)), .c (.lit .u32 (0 : Int)), .c (.lit .u32 (0 : Int)), .c (.lit .u32 (0 : Int)), .c (.lit .u32 (0 : Int)), .c (.lit .u32 (0 : Int)), .c (.lit .u32 (0 : Int)), .c (.lit .u32 (0 : Int))] 22, .own [.c (.lit .i64 (0 : Int)), .c (.int .i64 n), .c (.lit .i64 (0 : Int)), .c (.lit .i64 (0 : Int)), .c (.lit .u32 (0 : Int)), .c (.lit .u32 (0 : Int)), .c (.lit .u32 (0 : Int)), .c (.lit .u32 (0 : Int)), .c (.lit .u32 (0 : Int)), .c (.lit .u32 (0 : Int)), .c (.lit .u32 (0 : Int)), .c (.lit .u32 (0 : Int)), .c (.lit .u32 (0 : Int)), .c (.lit .u32 (0 : Int)), .c (.lit .u32 (0 : Int)), .c (.lit .u32 (0 : Int)), .c (.lit .u32 (0 : Int)), .c (.lit .u32 (0 : Int)), .c (.lit .u32 (0 : Int)), .c (.lit .u32 (0 : Int)), .c (.lit .u32 (0 : Int)), .c (.lit .u32 (0 : Int)), .c (.lit .u32 (0 : Int)), .c (.lit .u32 (0 : Int)), .c (.lit .u32 (0 : Int)), .c (.lit .u32 (0 : Int)), .c (.lit .u32 (0 : Int)), .c (.lit .u32 (0 : Int)), .c (.lit .u32 (0 : Int)), .c (.lit .u32 (0 : Int)), .c (.lit .u32 (0 : Int)), .c (.lit .u32 (0 : Int)), .c (.lit .u32 (0 : Int)), .c (.lit .u32 (0 : Int)), .c (.lit .u32 (0 : Int)), .c (.lit .u32 (0 : Int)), .c (.lit .u32 (0 : Int)), .c (.bl false), .c (.lit .i64 (0 : Int))] 73])))) := by kernel_rfl
set_option maxRecDepth 100000 in
theorem q5_e {steps n v c i : Int} : (exec cfg 100 end5 (fr 77 n5 (v5 steps i)) (s5 v c n)).bind (canon [(0, 0)] 77 [6]) =
 
 (.ret (.ret, [.bl true], [.ro encLook [PUnit.unit]])) := by kernel_rfl
end Go.Proofs.YtmknmbacecjfmaaDoor

/- SeqlockOdd: its call. -/
namespace Go.Proofs.YtmknmbacecjfmaaDoor
open Go Go.Proofs.YtmknmbacecjfmaaDoor.Sx
set_option linter.unusedVariables false
theorem wrap_u32 (x : Int) : IntKind.u32.wrap x = x % 4294967296 := by simp [IntKind.wrap, IntKind.signed, IntKind.bits]
theorem or_odd (x : Nat) : (x ||| 1) % 2 = 1 := by
  rw [Nat.mod_two_eq_one_iff_testBit_zero, Nat.testBit_or]
  simp
theorem low_u32 (x : Int) : low .u32 x = (x % 4294967296).toNat := rfl
theorem or_zero {y : Int} (h : 0 ≤ y ∧ y < 4294967296) : bitop .or .u32 0 y = y := by
  have h1 : low .u32 0 = 0 := by decide
  simp only [bitop, wrap_u32, h1, Nat.zero_or, low_u32]
  omega
theorem odd_word (c : Int) : (IntKind.u32.wrap (bitop .or .u32 0 (bitop .or .u32 c 1) + 0)).tmod 2 ≠ 0 := by
  have h2 : low .u32 1 = 1 := by decide
  have h3 := or_odd (low .u32 c)
  have h4 : bitop .or .u32 c 1 = ((low .u32 c ||| 1 : Nat) : Int) % 4294967296 := by simp only [bitop, wrap_u32, h2]
  rw [or_zero (by rw [h4]; omega), h4, wrap_u32]
  generalize low .u32 c ||| 1 = m at *
  rw [Int.tmod_eq_emod_of_nonneg (by omega)]
  omega
theorem b5_eq : Tryd.f5.body = some b5 := by kernel_rfl
abbrev Q5 (w0 : From) : Exit → Act → World → Prop := bodyPost Tryd.prog Tryd.f5 (Said w0)
def I5 (w0 : From) (steps n v : Int) (j : Nat) (a : Act) (w : World) : Prop :=
  j ≤ 255 ∧ ∃ env, At [(0, 0)] w0 env (fr 77 n5 (v5 steps (j : Nat))) (s5 v (j + 1 : Nat) n) a w
theorem end5_ok {w0 : From} {steps n v : Int} {j : Nat} {a : Act} {w : World} (h : I5 w0 steps n v j a w) : end5.wp Tryd.prog (Q5 w0) a w := by
  obtain ⟨h1, env, hA⟩ := h
  refine pieceT cfg_ok [6] q5_e hA (all_ret fun env' a' w' hA' => ?_)
  exact hA'.said (by kernel_rfl)
theorem round5_ok {w0 : From} {steps n v : Int} (hs : 0 ≤ steps ∧ steps ≤ 255) (hv : v.tmod 2 ≠ 0) {j : Nat} {a : Act} {w : World} (h : I5 w0 steps n v j a w) :
    round5.wp Tryd.prog (Exit.then (fun a' w' => ∃ k, I5 w0 steps n v k a' w' ∧ 255 - k < 255 - j) (Exit.inBlock 0 (Exit.then (end5.wp Tryd.prog (Q5 w0)) (Q5 w0)))) a w := by
  obtain ⟨h1, env, hA⟩ := h
  refine pieceT cfg_ok n5 q5_r hA ?_
  repeat' (first
    | refine all_brp (by simp only [decide_eq_true_eq, beq_iff_eq]; exact Iff.rfl) (fun _ => ?_) (fun _ => ?_)
    | refine all_needp (by simp only [inR_i64]; exact Iff.rfl) ?_ (fun _ => ?_)
    | refine all_need rfl (fun _ => ?_)
    | refine all_eq rfl ?_
    | refine all_ret (fun _ _ _ _ => ?_))
  all_goals first
    | omega
    | trivial
    | (exfalso; omega)
    | skip
  · rename_i hA'
    exact ⟨j + 1, ⟨by omega, _, hA'⟩, by omega⟩
  · rename_i hA'
    exact end5_ok ⟨h1, _, hA'⟩
theorem odd_call {count n steps : Int} (hn : 0 ≤ n ∧ n ≤ 255) (hs : 0 ≤ steps ∧ steps ≤ 255) {e : Slot} (he : e.blk = 0 ∧ e.off = 0) {w : World} (hr : Rep [e] [lookB] w) :
    Calls Tryd.prog 5 ⟨[.int .u32 count, .int .u8 n, .int .u8 steps]⟩ w (Said ⟨w, fun _ => False⟩) := by
  refine call_begin (c := cfg) Tryd.func5 b5_eq (args := [.int .u32 count, .int .u8 n, .int .u8 steps]) (by
    intro p hp
    rw [List.mem_singleton.1 hp]
    exact ⟨e, rfl, he⟩) hr ⟨_, _, rfl, rfl, _, _, rfl, rfl, _, _, rfl, rfl, rfl⟩ (F := fun _ => False) ?_ ?_
  · rintro x ⟨id, e, b, he, hb, hx⟩
    match id with
    | 0 => simp at hb; subst hb; cases hx
    | n + 1 => simp at hb
  intro a hA
  have hm : n.tmod 32 = n % 32 := Int.tmod_eq_emod_of_nonneg hn.1
  refine pieceNT (c := cfg) cfg_ok 4 [2, 6, 7, 9] q5_a hA ?_
  repeat' (first
    | refine all_brp (by simp only [decide_eq_true_eq, Bool.not_eq_true', decide_eq_false_iff_not]; exact Iff.rfl) (fun _ => ?_) (fun _ => ?_)
    | refine all_needp (by simp only [inR_i64]; exact Iff.rfl) ?_ (fun _ => ?_)
    | refine all_need rfl (fun _ => ?_)
    | refine all_eq rfl ?_
    | refine all_ret (fun _ _ _ _ => ?_))
  all_goals first
    | omega
    | trivial
    | (exfalso; omega)
    | skip
  rename_i env1 a1 w1 hA1
  simp only [Ex.to, Exit.then]
  refine wpS (by kernel_rfl) (wpS (by kernel_rfl) ?_)
  refine pieceT cfg_ok n5 q5_reg hA1 (all_ret fun env2 a2 w2 hA2 => ?_)
  have hA3 := (hA2.vals (v5 steps (0 : Nat)) ⟨fun _ h => h, fun _ h => h, fun _ h => h, fun _ h => h, fun _ h => by simpa [Den] using h, trivial⟩).own 1 (l := [.sli 2 (.c 0) 1 (.c 40) (some (.c 40)), .lit .i64 1]) (l' := [.sli 2 (.c 0) 1 (.c 40) (some (.c 40)), .int .i64 (0 + 1 : Nat)]) rfl (fun env cs h => by simpa [DenL, Den] using h)
  refine wpB 0 (by kernel_rfl) (wpL (by kernel_rfl) (I5 ⟨w, fun _ => False⟩ steps _ _) (fun j => 255 - j) 0 ⟨by omega, env2, hA3⟩ ?_)
  intro j a w h
  exact round5_ok hs (odd_word count) h
end Go.Proofs.YtmknmbacecjfmaaDoor

/- Layer 10: the package's variable, and how a card is closed. -/
namespace Go.Proofs.YtmknmbacecjfmaaDoor
open Go Go.Proofs.YtmknmbacecjfmaaDoor.Sx Go.ChangeShapes Go.WideShapes Go.ChangeAt Go.RowKit
set_option linter.unusedVariables false
abbrev laid1 : List (String × DataW Unit) := [("purlin/mem.look", Rows.laid_purlin_mem_look)]
theorem Tryd.own : ownKnob Tryd.prog.godebug = none := by kernel_rfl
theorem Tryd.laidOut : laidOutB Tryd.prog = true := by kernel_rfl
theorem gLook : Tryd.prog.globalNamed "purlin/mem.look" = some 0 := by kernel_rfl
theorem tLook : (Tryd.prog.globals[0]?).map (·.type) = some 76 := by kernel_rfl
/-- the door's own heap meets the condition -/
theorem door_met (os : Os) (args : Array Value) : laidMetH Tryd.prog laid1 ((World.doorLaid Tryd.prog 400 os).forCall (fun _ _ => 0) ⟨#[], args, []⟩).memory :=
  laidMetH_of_parts3 (fuel := 8) (laidMet_of_run' 8 (by kernel_rfl) (by kernel_rfl)) (by kernel_rfl) (by kernel_rfl)
/-- what the condition gives -/
theorem of_laid {W : World} (h : laidMetH Tryd.prog laid1 W) : ∃ e : Slot, (e.blk = 0 ∧ e.off = 0) ∧ Rep [e] [lookB] W := by
  rw [MakeChecks.laidMetH_plain _ _ _ (by kernel_rfl)] at h
  obtain ⟨ps, ⟨g0, t0, cs0, f0, p0, q0, hg0, ht0, hv0, hd0, _, _⟩, _, _⟩ := h
  obtain rfl := Option.some.inj (gLook.symm.trans hg0)
  obtain rfl := Option.some.inj (tLook.symm.trans ht0)
  obtain ⟨xs, m, _, hx, hlen, hxl, hf⟩ := DataW.trod_struct Tryd.underlying76 hd0
  have hC : Tryd.prog.cellsOf 76 = 3 := by kernel_rfl
  have k22 : Tryd.prog.cellsOf 22 = 1 := by kernel_rfl
  rw [hC] at hlen
  obtain ⟨l⟩ := cs0
  simp only at hlen hf
  match l, hlen with
  | [c0, c1, c2], _ =>
    match xs, hxl, hx with
    | [y0, y1, y2], _, hx =>
      have f0 : DataW.trod _ Tryd.prog W 0 _ false m 22 (([c0, c1, c2].drop 0).take (Tryd.prog.cellsOf 22)) = some y0 := hf 0 _ rfl
      have f1 : DataW.trod _ Tryd.prog W 0 _ false m 22 (([c0, c1, c2].drop 1).take (Tryd.prog.cellsOf 22)) = some y1 := hf 1 _ rfl
      have f2 : DataW.trod _ Tryd.prog W 0 _ false m 22 (([c0, c1, c2].drop 2).take (Tryd.prog.cellsOf 22)) = some y2 := hf 2 _ rfl
      rw [k22] at f0 f1 f2
      obtain ⟨a0, h0, e0, _⟩ := DataW.trod_int Tryd.underlying22 f0
      obtain ⟨a1, h1, e1, _⟩ := DataW.trod_int Tryd.underlying22 f1
      obtain ⟨a2, h2, e2, _⟩ := DataW.trod_int Tryd.underlying22 f2
      simp at h0 h1 h2
      subst h0 h1 h2 e0 e1 e2
      simp [Rows.laid_purlin_mem_look] at hx
      obtain ⟨⟨rfl, rfl, rfl⟩, _⟩ := hx
      have hc := fun i => World.var?_cell hg0 hv0 i
      have hsz : 0 < W.heap.size := by
        have := hc 0
        simp only [World.cell?] at this
        rcases Nat.eq_zero_or_pos W.heap.size with h | h
        · rw [Array.getElem?_eq_none (by omega)] at this; simp at this
        · exact h
      refine ⟨⟨0, 0, 0⟩, ⟨rfl, rfl⟩, rfl, ?_, ?_, ?_⟩
      · intro id sl b he hb
        match id with
        | 0 =>
          simp only [List.getElem?_cons_zero, Option.some.injEq] at he hb
          subst he hb
          refine ⟨[.int .u32 4294967295, .int .u32 0, .int .u32 0], by simp [encLook, encOf, DenL, Den], fun i hi => ?_⟩
          have := hc i
          simpa using this
        | n + 1 => simp at he
      · intro i j e f b c hij he hf' hb' hc' x hx''
        match i, j with
        | 0, 0 => exact (hij rfl).elim
        | i + 1, _ => simp at he
        | 0, j + 1 => simp at hf'
      · intro id sl b he hb x hx
        match id with
        | 0 =>
          simp only [List.getElem?_cons_zero, Option.some.injEq] at he hb
          subst he hb
          simp [Blk.supp] at hx
          omega
        | n + 1 => simp at he
end Go.Proofs.YtmknmbacecjfmaaDoor

/- SeqlockOdd: its row and its card. -/
namespace Go.Proofs.YtmknmbacecjfmaaDoor
open Go Go.Proofs.YtmknmbacecjfmaaDoor.Sx Go.ChangeShapes Go.WideShapes Go.ChangeAt Go.RowKit
set_option linter.unusedVariables false
theorem wf_u8 {n : Int} (h : (Lit.int .u8 n).wf = true) : 0 ≤ n ∧ n ≤ 255 := by simp [Lit.wf, IntKind.min, IntKind.max, IntKind.signed, IntKind.bits] at h; omega
set_option maxRecDepth 100000 in
theorem seqlockOdd_lifted (os : Os) (started : os.Started) (H : Type) (enc : TypeId × Value → H) :
    ReturnsInHanded {} Tryd.checked os 5 .any (fun w args => (Rows.seqlockOddSpec.pre enc Tryd.prog Tryd.f5 [] false w args ∧ laidMetH Tryd.prog laid1 w) ∧ sizedMet enc Tryd.prog Tryd.f5 (OpenSpec.ofChange Rows.seqlockOddSpec) false w args)
      (Rows.seqlockOddSpec.post enc Tryd.prog Tryd.f5 false true false false) := by
  refine returnsInHanded_of_change_and (C := Tryd.checked) (X := fun w _ => laidMetH Tryd.prog laid1 w) (fun _ _ _ hh h => h.of_heap hh) Tryd.own started (by kernel_rfl) Tryd.func5
    (ChangeSpec.witness_shaped (enc := enc) (C := Tryd.checked) (os := os) (X := fun w _ => laidMetH Tryd.prog laid1 w) false (World.doorLaid Tryd.prog 400 os) #[.int .u32 0, .int .u8 0, .int .u8 0] 8 rfl (World.shaped_of_RefB (by kernel_rfl) (by kernel_rfl)) (by kernel_rfl) (by kernel_rfl) (by kernel_rfl) (door_met os _)) ?_
  intro W base args ds gs before hval0 hW _ _ hL _
  have hval : ∀ (j : Nat) t v, Tryd.f5.params[j]? = some t → args[j]? = some v → Value.okWide Tryd.prog W .any base t v := hval0
  have hW' := hW
  obtain ⟨p, q, hA0, hV, rfl, hfz, hnd⟩ := hW
  have hA : DataW.TrodAll enc Tryd.prog W 0 (fun _ => true) true Tryd.f5.params.toList args.toList ds p := hA0
  rw [Tryd.params5] at hA hval
  obtain ⟨v0, v1, v2, d0, d1, d2, p0, p1, p2, rfl, rfl, rfl, h0, h1, h2⟩ := trodAll_three hA
  obtain ⟨rfl, rfl⟩ := trodVars_none hV
  obtain ⟨a, rfl, rfl, rfl, wa⟩ := open_int Tryd.underlying22 (hval 0 22 v0 rfl rfl) h0
  obtain ⟨b, rfl, rfl, rfl, wb⟩ := open_int Tryd.underlying5 (hval 1 5 v1 rfl rfl) h1
  obtain ⟨c, rfl, rfl, rfl, wc⟩ := open_int Tryd.underlying5 (hval 2 5 v2 rfl rfl) h2
  obtain ⟨e, he, hr⟩ := of_laid hL
  clear hA0 hval0
  have fin : ∀ e W', Said ⟨W, fun _ => False⟩ e W' → ∃ v, e = .returned v ∧ Rows.seqlockOddSpec.post enc Tryd.prog Tryd.f5 false true false false W #[.int .u32 a, .int .u8 b, .int .u8 c] v W' := by
    rintro e W' ⟨rfl, hsz, hk, hc⟩
    have hk' : ∀ x, x < W.heap.size → W'.heap[x]? = W.heap[x]? := fun x hx => hk x hx (fun h => h)
    refine ⟨_, rfl, _, _, _, [], _, [], hW', ⟨[], [], shut_bool Tryd.underlying4 true, rfl, rfl⟩, trodAll_mk3 (shut_int Tryd.underlying22 wa) (shut_int Tryd.underlying5 wb) (shut_int Tryd.underlying5 wc), rfl, keptBut_of _ hc hk', fun h => by cases h⟩
  exact (odd_call (wf_u8 wb) (wf_u8 wc) he hr).mono fun e W' h => fin e W' h
theorem seqlockOdd_row : Rows.SeqlockOddSaid :=
  OpenClaim.holds_of_wide 5 Tryd.f5 rfl rfl rfl rfl rfl rfl rfl ⟨rfl, rfl, rfl, rfl, rfl⟩ rfl rfl rfl rfl rfl (by kernel_rfl) Tryd.func5 (by kernel_rfl)
    (of_decide_eq_true (by kernel_rfl)) (by unfold Func.isWrapper; first | (rw [if_pos (by decide +kernel)]; kernel_rfl) | (rw [if_neg (by decide +kernel)]; exact ⟨rfl, rfl⟩))
    (fun os started H enc _ => seqlockOdd_lifted os started H enc)
theorem seqlockOdd_holds : Rows.SeqlockOddCardSaid :=
  Claim7.holds_tied_plain_at .later [] [.data] true _ _ seqlockOdd_row (fun _ h => by cases h) (by kernel_rfl) (fun _ h => by cases h) seqlockOdd_row_tie rfl ⟨rfl, rfl⟩ (by kernel_rfl) rfl
    (fun f fn hf hfn => by
      obtain rfl : f = 5 := Option.some.inj ((show Tryd.prog.funcNamed "purlin/purlinlaw10.SeqlockOdd" = some 5 by kernel_rfl).symm.trans hf) |>.symm
      obtain rfl : fn = Tryd.f5 := (Option.some.inj (Tryd.func5.symm.trans hfn)).symm
      exact ⟨by kernel_rfl, fun j t ht => by
        rw [Tryd.params5] at ht
        have hm : t ∈ [22, 5, 5] := by simpa using Array.mem_of_getElem? ht
        have hall : ([22, 5, 5].all fun u => !Tryd.prog.wantsStandIn u) = true := by kernel_rfl
        exact (show Tryd.prog.wantsStandIn t = false by simpa using List.all_eq_true.1 hall t hm)⟩)
    (by kernel_rfl)
end Go.Proofs.YtmknmbacecjfmaaDoor

