/- The objects of this layer: what a machine of them does. -/
import Derived.Test.YtlnigpeoffaemaaDoorSxC
import Derived.Test.YtlnigpeoffaemaaDoorRows
/- Layer 8: the configuration. -/
namespace Go.Proofs.YtlnigpeoffaemaaDoor
open Go Go.Proofs.YtlnigpeoffaemaaDoor.Sx
set_option linter.unusedVariables false
/-- the package's variable, as it was laid -/
def encLook : Enc Unit := encOf 2 (fun _ => [.lit .u32 4294967295, .lit .u32 0, .lit .u32 0]) () (fun _ => rfl) (by intro env env' x vs h; simpa [DenL, Den] using h)
abbrev lookB : Blk := .ro encLook [()]
abbrev exI : IntKind → Bool := fun k => match k with | .i64 => true | _ => false
noncomputable def cfgN : Cfg := { P := Tryd.prog, ex := exI, gl := [(0, 0)], sm := fun _ => none }
theorem cfgN_ok : SmOk cfgN := by intro f g h; cases h
/-- a new machine -/
noncomputable def smNew : List SVal → St → T (SVal × St) := smAny cfgN 100 11
theorem new_sel (fn : Func) (b : Code) (p : Code × Array Oper × Code) (h1 : Tryd.prog.funcs[11]? = some fn) (h2 : fn.body = some b) (h3 : partsAny b = some p) : Region.noSelect p.2.1 = true := by
  rw [Tryd.func11] at h1
  simp only [Option.some.injEq] at h1; subst h1
  have h4 : (Tryd.f11.body.bind partsAny).elim false (fun q => Region.noSelect q.2.1) = true := by kernel_rfl
  rw [h2] at h4
  simp only [Option.bind_some, h3] at h4
  exact h4
noncomputable def cfg0 : Cfg := { P := Tryd.prog, ex := exI, gl := [(0, 0)], sm := fun f => match f with | 11 => some smNew | _ => none }
theorem cfg0_ok : SmOk cfg0 := by
  intro f g h
  simp only [cfg0] at h
  split at h
  · simp only [Option.some.injEq] at h; subst h
    exact smAny_ok cfgN_ok (by kernel_rfl) new_sel
  · cases h
end Go.Proofs.YtlnigpeoffaemaaDoor

/- Layer 8: awake. -/
namespace Go.Proofs.YtlnigpeoffaemaaDoor
open Go Go.Proofs.YtlnigpeoffaemaaDoor.Sx
set_option linter.unusedVariables false
def nA0 : List SVal := [SVal.ptr (2 : Nat) (0 : Nat), SVal.sli (7 : Nat) (NN.c (0 : Nat)) (1 : Nat) (NN.c (2 : Nat)) (some (NN.c (2 : Nat)))]
def nS0 : St := [Blk.ro encLook [PUnit.unit], Blk.own [Seg.c (SVal.lit IntKind.u32 (0 : Int))] (45 : Nat), Blk.own [Seg.c (SVal.sli (1 : Nat) (NN.c (0 : Nat)) (1 : Nat) (NN.c (1 : Nat)) (some (NN.c (1 : Nat)))), Seg.c (SVal.lit IntKind.i64 (0 : Int))] (67 : Nat), Blk.own [Seg.c (SVal.lit IntKind.u32 (0 : Int))] (45 : Nat), Blk.own [Seg.c (SVal.sli (3 : Nat) (NN.c (0 : Nat)) (1 : Nat) (NN.c (1 : Nat)) (some (NN.c (1 : Nat)))), Seg.c (SVal.lit IntKind.i64 (0 : Int))] (67 : Nat), Blk.own [Seg.c (SVal.lit IntKind.i64 (0 : Int)), Seg.c (SVal.lit IntKind.i64 (1 : Int)), Seg.c (SVal.bl false), Seg.c (SVal.lit IntKind.u32 (0 : Int)), Seg.c (SVal.fn (Fn.func (27 : Nat)) [] [])] (78 : Nat), Blk.own [Seg.c (SVal.lit IntKind.i64 (0 : Int)), Seg.c (SVal.lit IntKind.i64 (1 : Int)), Seg.c (SVal.bl false), Seg.c (SVal.lit IntKind.u32 (0 : Int)), Seg.c (SVal.fn (Fn.func (27 : Nat)) [] [])] (78 : Nat), Blk.own [Seg.c (SVal.ifc (74 : Nat) (SVal.ptr (5 : Nat) (0 : Nat))), Seg.c (SVal.ifc (74 : Nat) (SVal.ptr (6 : Nat) (0 : Nat)))] (44 : Nat)]
def nA1 : List SVal := [SVal.ptr (4 : Nat) (0 : Nat), SVal.sli (14 : Nat) (NN.c (0 : Nat)) (1 : Nat) (NN.c (2 : Nat)) (some (NN.c (2 : Nat)))]
def nS1 : St := [Blk.ro encLook [PUnit.unit], Blk.own [Seg.c (SVal.lit IntKind.u32 (0 : Int))] (45 : Nat), Blk.own [Seg.c (SVal.sli (1 : Nat) (NN.c (0 : Nat)) (1 : Nat) (NN.c (1 : Nat)) (some (NN.c (1 : Nat)))), Seg.c (SVal.lit IntKind.i64 (0 : Int))] (67 : Nat), Blk.own [Seg.c (SVal.lit IntKind.u32 (0 : Int))] (45 : Nat), Blk.own [Seg.c (SVal.sli (3 : Nat) (NN.c (0 : Nat)) (1 : Nat) (NN.c (1 : Nat)) (some (NN.c (1 : Nat)))), Seg.c (SVal.lit IntKind.i64 (0 : Int))] (67 : Nat), Blk.own [Seg.c (SVal.lit IntKind.i64 (0 : Int)), Seg.c (SVal.lit IntKind.i64 (1 : Int)), Seg.c (SVal.bl false), Seg.c (SVal.lit IntKind.u32 (0 : Int)), Seg.c (SVal.fn (Fn.func (27 : Nat)) [] [])] (78 : Nat), Blk.own [Seg.c (SVal.lit IntKind.i64 (0 : Int)), Seg.c (SVal.lit IntKind.i64 (1 : Int)), Seg.c (SVal.bl false), Seg.c (SVal.lit IntKind.u32 (0 : Int)), Seg.c (SVal.fn (Fn.func (27 : Nat)) [] [])] (78 : Nat), Blk.own [Seg.c (SVal.ifc (74 : Nat) (SVal.ptr (5 : Nat) (0 : Nat))), Seg.c (SVal.ifc (74 : Nat) (SVal.ptr (6 : Nat) (0 : Nat)))] (44 : Nat), Blk.gone, Blk.vec (encRow (0 : Nat)) [[SVal.ifc (74 : Nat) (SVal.ptr (5 : Nat) (0 : Nat))], [SVal.ifc (74 : Nat) (SVal.ptr (6 : Nat) (0 : Nat))]] (44 : Nat), Blk.own [Seg.c (SVal.bl false), Seg.c (SVal.bl false)] (4 : Nat), Blk.own [Seg.c (SVal.ptr (2 : Nat) (0 : Nat)), Seg.c (SVal.sli (9 : Nat) (NN.c (0 : Nat)) (1 : Nat) (NN.c (2 : Nat)) none), Seg.c (SVal.sli (10 : Nat) (NN.c (0 : Nat)) (1 : Nat) (NN.c (2 : Nat)) (some (NN.c (2 : Nat))))] (70 : Nat), Blk.own [Seg.c (SVal.lit IntKind.i64 (0 : Int)), Seg.c (SVal.lit IntKind.i64 (1 : Int)), Seg.c (SVal.bl false), Seg.c (SVal.lit IntKind.u32 (0 : Int)), Seg.c (SVal.fn (Fn.func (30 : Nat)) [] [])] (78 : Nat), Blk.own [Seg.c (SVal.lit IntKind.i64 (0 : Int)), Seg.c (SVal.lit IntKind.i64 (1 : Int)), Seg.c (SVal.bl false), Seg.c (SVal.lit IntKind.u32 (0 : Int)), Seg.c (SVal.fn (Fn.func (30 : Nat)) [] [])] (78 : Nat), Blk.own [Seg.c (SVal.ifc (74 : Nat) (SVal.ptr (12 : Nat) (0 : Nat))), Seg.c (SVal.ifc (74 : Nat) (SVal.ptr (13 : Nat) (0 : Nat)))] (44 : Nat)]
abbrev nE0 : T SVal := T.need true (T.ret ((List.take (1 : Nat) ([[SVal.ifc (74 : Nat) (SVal.ptr (5 : Nat) (0 : Nat))], [SVal.ifc (74 : Nat) (SVal.ptr (6 : Nat) (0 : Nat))]].getD (0 : Nat) []) ++ List.replicate (0 : Nat) SVal.bad).getD (0 : Nat) SVal.bad))
abbrev nE1 : T SVal := T.need true (T.ret ((List.take (1 : Nat) ([[SVal.ifc (74 : Nat) (SVal.ptr (5 : Nat) (0 : Nat))], [SVal.ifc (74 : Nat) (SVal.ptr (6 : Nat) (0 : Nat))]].getD (1 : Nat) []) ++ List.replicate (0 : Nat) SVal.bad).getD (0 : Nat) SVal.bad))
abbrev nE2 : T SVal := T.ret (SVal.fn (Fn.func (27 : Nat)) [] [])
abbrev nE3 : T SVal := T.need true (T.ret ((List.take (1 : Nat) ([[SVal.ifc (74 : Nat) (SVal.ptr (12 : Nat) (0 : Nat))], [SVal.ifc (74 : Nat) (SVal.ptr (13 : Nat) (0 : Nat))]].getD (0 : Nat) []) ++ List.replicate (0 : Nat) SVal.bad).getD (0 : Nat) SVal.bad))
abbrev nE4 : T SVal := T.need true (T.ret ((List.take (1 : Nat) ([[SVal.ifc (74 : Nat) (SVal.ptr (12 : Nat) (0 : Nat))], [SVal.ifc (74 : Nat) (SVal.ptr (13 : Nat) (0 : Nat))]].getD (1 : Nat) []) ++ List.replicate (0 : Nat) SVal.bad).getD (0 : Nat) SVal.bad))
abbrev nE5 : T SVal := T.ret (SVal.fn (Fn.func (30 : Nat)) [] [])
set_option maxRecDepth 100000 in
theorem awake_val : (callF cfg0 100 10 [] [lookB]).valE = some (anyP cfgN 100 11 nA0 nS0 ∧ anyP cfgN 100 11 nA1 nS1 ∧ nE0 = nE0 ∧ nE1 = nE1 ∧ nE2 = nE2 ∧ nE0 = nE0 ∧ nE2 = nE2 ∧ nE1 = nE1 ∧ nE3 = nE3 ∧ nE4 = nE4 ∧ nE5 = nE5 ∧ nE3 = nE3 ∧ nE5 = nE5 ∧ nE4 = nE4 ∧ nE4 = nE4 ∧ nE5 = nE5 ∧ nE4 = nE4 ∧ True, .bl true) := by kernel_rfl
end Go.Proofs.YtlnigpeoffaemaaDoor

namespace Go.Proofs.YtlnigpeoffaemaaDoor
open Go Go.Proofs.YtlnigpeoffaemaaDoor.Sx
set_option linter.unusedVariables false
set_option maxRecDepth 100000 in
theorem new0 : anyP cfgN 100 11 nA0 nS0 := by
  have h1 : (anyTP cfgN 100 11 nA0 nS0).asks = some True := by kernel_rfl
  exact anyP_closed h1 trivial (by kernel_rfl)
set_option maxRecDepth 100000 in
theorem new1 : anyP cfgN 100 11 nA1 nS1 := by
  have h1 : (anyTP cfgN 100 11 nA1 nS1).asks = some True := by kernel_rfl
  exact anyP_closed h1 trivial (by kernel_rfl)
end Go.Proofs.YtlnigpeoffaemaaDoor

/- Layer 8: the memory's state. -/
namespace Go.Proofs.YtlnigpeoffaemaaDoor
open Go Go.Proofs.YtlnigpeoffaemaaDoor.Sx
set_option linter.unusedVariables false
/-- nothing is exact: counts -/
noncomputable def cfgW : Cfg := { P := Tryd.prog, ex := fun _ => false, gl := [(0, 0)], sm := fun _ => none }
theorem cfgW_ok : SmOk cfgW := by intro f g h; cases h
/-- a memory: its words, how often it was used -/
abbrev memS (n : Nat) (l : List Int) (c : Int) : St := [lookB, .own [.c (.sli 2 (.c 0) 1 (.v n) (some (.v n))), .c (.int .i64 c)] 67, .own [.a (encInt .u32) n l] 45]
abbrev upP (c : Int) : Int := IntKind.i64.wrap (c + 1)
def inP (a : Int) (n : Nat) : Bool := decide (0 ≤ a) && decide (a < (n : Int))
theorem inP_iff (a : Int) (n : Nat) : inP a n = true ↔ 0 ≤ a ∧ a < n := by simp [inP]
/-- a word, 1 more -/
def incP (x : Int) : Int := IntKind.u32.wrap (bitop .or .u32 (bitop .and .u32 x 4294967295) 0 + 1)
/-- a word, set -/
def setP (x v : Int) : Int := IntKind.u32.wrap (bitop .or .u32 (bitop .and .u32 x 0) v + 0)
end Go.Proofs.YtlnigpeoffaemaaDoor

namespace Go.Proofs.YtlnigpeoffaemaaDoor
open Go Go.Proofs.YtlnigpeoffaemaaDoor.Sx
set_option linter.unusedVariables false
set_option maxRecDepth 100000 in
theorem t_load {n : Nat} {l : List Int} {c : Int} {a : Int} : callF cfgW 100 22 [.ptr 1 0, .int .i64 a] (memS n l c) =
 

 (.need (true)

 (.need (true)

 (.need (true)

 (.br (decide (a < (0 : Int)))

 (.ret (.tup [.lit .u32 (0 : Int), .lit .i64 (81 : Int)], [.ro encLook [PUnit.unit], .own [.c (.sli 2 (.c 0) 1 (.v n) (some (.v n))), .c (.int .i64 c)] 67, .own [.a (encInt IntKind.u32) n l] 45, .own [.c (.lit .u32 (4294967295 : Int)), .c (.lit .u32 (0 : Int)), .c (.lit .u32 (0 : Int))] 81]))

 (.br (decide ((↑n : Int) ≤ a))

 (.ret (.tup [.lit .u32 (0 : Int), .lit .i64 (81 : Int)], [.ro encLook [PUnit.unit], .own [.c (.sli 2 (.c 0) 1 (.v n) (some (.v n))), .c (.int .i64 c)] 67, .own [.a (encInt IntKind.u32) n l] 45, .own [.c (.lit .u32 (4294967295 : Int)), .c (.lit .u32 (0 : Int)), .c (.lit .u32 (0 : Int))] 81]))

 (.need (decide ((0 : Int) ≤ a) && decide (a.toNat < n))

 (.need (decide (a.toNat < n))

 (.need (true)

 (.need (true)

 (.need (true)

 (.ret (.tup [.int .u32 (l.getD a.toNat (0 : Int)), .lit .i64 (0 : Int)], [.ro encLook [PUnit.unit], .own [.c (.sli 2 (.c 0) 1 (.v n) (some (.v n))), .c (.int .i64 (IntKind.i64.wrap (c + (1 : Int))))] 67, .own [.a (encInt IntKind.u32) n l] 45, .own [.c (.lit .u32 (4294967295 : Int)), .c (.lit .u32 (0 : Int)), .c (.lit .u32 (0 : Int))] 81])))))))))))) := by kernel_rfl
set_option maxRecDepth 100000 in
theorem t_store {n : Nat} {l : List Int} {c : Int} {a : Int} {v : Int} : callF cfgW 100 28 [.ptr 1 0, .int .i64 a, .int .u32 v] (memS n l c) =
 

 (.br (decide (a < (0 : Int)))

 (.ret (.lit .i64 (81 : Int), [.ro encLook [PUnit.unit], .own [.c (.sli 2 (.c 0) 1 (.v n) (some (.v n))), .c (.int .i64 c)] 67, .own [.a (encInt IntKind.u32) n l] 45, .own [.c (.lit .u32 (0 : Int)), .c (.int .u32 v), .c (.lit .u32 (0 : Int))] 81]))

 (.br (decide ((↑n : Int) ≤ a))

 (.ret (.lit .i64 (81 : Int), [.ro encLook [PUnit.unit], .own [.c (.sli 2 (.c 0) 1 (.v n) (some (.v n))), .c (.int .i64 c)] 67, .own [.a (encInt IntKind.u32) n l] 45, .own [.c (.lit .u32 (0 : Int)), .c (.int .u32 v), .c (.lit .u32 (0 : Int))] 81]))

 (.need (decide ((0 : Int) ≤ a) && decide (a.toNat < n))

 (.need (decide (a.toNat < n))

 (.need (true)

 (.need (true)

 (.need (true)

 (.need (decide ((0 : Int) ≤ a) && decide (a.toNat < n))

 (.need (decide (a.toNat < n))
 (.eq (T.ret (SVal.sli (2 : Nat) (NN.c (0 : Nat)) (1 : Nat) (NN.v n) (some (NN.v n))) = T.ret (SVal.sli (2 : Nat) (NN.c (0 : Nat)) (1 : Nat) (NN.v n) (some (NN.v n))))
 (.eq (T.ret (SVal.int IntKind.u32 v) = T.ret (SVal.int IntKind.u32 v))

 (.need (decide ((0 : Int) ≤ a) && decide (a.toNat < n))

 (.need (decide (a.toNat < n))

 (.need (decide ((0 : Int) ≤ a) && decide (a.toNat < n))

 (.need (decide (a.toNat < n))
 (.eq (T.ret (SVal.sli (2 : Nat) (NN.c (0 : Nat)) (1 : Nat) (NN.v n) (some (NN.v n))) = T.ret (SVal.sli (2 : Nat) (NN.c (0 : Nat)) (1 : Nat) (NN.v n) (some (NN.v n))))
 (.eq (T.need (decide (a.toNat < n)) (T.ret ([SVal.int IntKind.u32 ((l.set a.toNat (bitop BinOp.or IntKind.u32 (bitop BinOp.and IntKind.u32 (l.getD a.toNat (0 : Int)) (0 : Int)) v)).getD a.toNat (0 : Int))].getD (0 : Nat) SVal.bad)) = T.need (decide (a.toNat < n)) (T.ret ([SVal.int IntKind.u32 ((l.set a.toNat (bitop BinOp.or IntKind.u32 (bitop BinOp.and IntKind.u32 (l.getD a.toNat (0 : Int)) (0 : Int)) v)).getD a.toNat (0 : Int))].getD (0 : Nat) SVal.bad)))

 (.ret (.lit .i64 (0 : Int), [.ro encLook [PUnit.unit], .own [.c (.sli 2 (.c 0) 1 (.v n) (some (.v n))), .c (.int .i64 (IntKind.i64.wrap (c + (1 : Int))))] 67, .own [.a (encInt IntKind.u32) n ((l.set a.toNat (bitop BinOp.or IntKind.u32 (bitop BinOp.and IntKind.u32 (l.getD a.toNat (0 : Int)) (0 : Int)) v)).set a.toNat (IntKind.u32.wrap ((l.set a.toNat (bitop BinOp.or IntKind.u32 (bitop BinOp.and IntKind.u32 (l.getD a.toNat (0 : Int)) (0 : Int)) v)).getD a.toNat (0 : Int) + (0 : Int))))] 45, .own [.c (.lit .u32 (0 : Int)), .c (.int .u32 v), .c (.lit .u32 (0 : Int))] 81]))))))))))))))))))) := by kernel_rfl
set_option maxRecDepth 100000 in
theorem t_add {n : Nat} {l : List Int} {c : Int} {a : Int} : callF cfgW 100 51 [.ptr 1 0, .int .i64 a, .lit .u32 1] (memS n l c) =
 

 (.need (true)

 (.br (decide (a < (0 : Int)))

 (.ret (.tup [.lit .u32 (0 : Int), .lit .i64 (81 : Int)], [.ro encLook [PUnit.unit], .own [.c (.sli 2 (.c 0) 1 (.v n) (some (.v n))), .c (.int .i64 c)] 67, .own [.a (encInt IntKind.u32) n l] 45, .own [.c (.lit .u32 (4294967295 : Int)), .c (.lit .u32 (0 : Int)), .c (.lit .u32 (1 : Int))] 81]))

 (.br (decide ((↑n : Int) ≤ a))

 (.ret (.tup [.lit .u32 (0 : Int), .lit .i64 (81 : Int)], [.ro encLook [PUnit.unit], .own [.c (.sli 2 (.c 0) 1 (.v n) (some (.v n))), .c (.int .i64 c)] 67, .own [.a (encInt IntKind.u32) n l] 45, .own [.c (.lit .u32 (4294967295 : Int)), .c (.lit .u32 (0 : Int)), .c (.lit .u32 (1 : Int))] 81]))

 (.need (decide ((0 : Int) ≤ a) && decide (a.toNat < n))

 (.need (decide (a.toNat < n))

 (.need (true)

 (.need (true)

 (.need (true)

 (.need (decide ((0 : Int) ≤ a) && decide (a.toNat < n))

 (.need (decide (a.toNat < n))
 (.eq (T.ret (SVal.sli (2 : Nat) (NN.c (0 : Nat)) (1 : Nat) (NN.v n) (some (NN.v n))) = T.ret (SVal.sli (2 : Nat) (NN.c (0 : Nat)) (1 : Nat) (NN.v n) (some (NN.v n))))

 (.need (decide ((0 : Int) ≤ a) && decide (a.toNat < n))

 (.need (decide (a.toNat < n))

 (.need (decide ((0 : Int) ≤ a) && decide (a.toNat < n))

 (.need (decide (a.toNat < n))
 (.eq (T.ret (SVal.sli (2 : Nat) (NN.c (0 : Nat)) (1 : Nat) (NN.v n) (some (NN.v n))) = T.ret (SVal.sli (2 : Nat) (NN.c (0 : Nat)) (1 : Nat) (NN.v n) (some (NN.v n))))
 (.eq (T.need (decide (a.toNat < n)) (T.ret ([SVal.int IntKind.u32 ((l.set a.toNat (bitop BinOp.or IntKind.u32 (bitop BinOp.and IntKind.u32 (l.getD a.toNat (0 : Int)) (4294967295 : Int)) (0 : Int))).getD a.toNat (0 : Int))].getD (0 : Nat) SVal.bad)) = T.need (decide (a.toNat < n)) (T.ret ([SVal.int IntKind.u32 ((l.set a.toNat (bitop BinOp.or IntKind.u32 (bitop BinOp.and IntKind.u32 (l.getD a.toNat (0 : Int)) (4294967295 : Int)) (0 : Int))).getD a.toNat (0 : Int))].getD (0 : Nat) SVal.bad)))

 (.ret (.tup [.int .u32 (l.getD a.toNat (0 : Int)), .lit .i64 (0 : Int)], [.ro encLook [PUnit.unit], .own [.c (.sli 2 (.c 0) 1 (.v n) (some (.v n))), .c (.int .i64 (IntKind.i64.wrap (c + (1 : Int))))] 67, .own [.a (encInt IntKind.u32) n ((l.set a.toNat (bitop BinOp.or IntKind.u32 (bitop BinOp.and IntKind.u32 (l.getD a.toNat (0 : Int)) (4294967295 : Int)) (0 : Int))).set a.toNat (IntKind.u32.wrap ((l.set a.toNat (bitop BinOp.or IntKind.u32 (bitop BinOp.and IntKind.u32 (l.getD a.toNat (0 : Int)) (4294967295 : Int)) (0 : Int))).getD a.toNat (0 : Int) + (1 : Int))))] 45, .own [.c (.lit .u32 (4294967295 : Int)), .c (.lit .u32 (0 : Int)), .c (.lit .u32 (1 : Int))] 81]))))))))))))))))))) := by kernel_rfl
set_option maxRecDepth 100000 in
theorem t_swap {n : Nat} {l : List Int} {c : Int} {a : Int} {o : Int} {v : Int} : callF cfgW 100 31 [.ptr 1 0, .int .i64 a, .int .u32 o, .int .u32 v] (memS n l c) =
 

 (.need (true)

 (.need (true)

 (.need (true)

 (.br (decide ((0 : Int) ≤ a))

 (.br (decide (a < (↑n : Int)))

 (.need (decide ((0 : Int) ≤ a) && decide (a.toNat < n))

 (.need (decide (a.toNat < n))

 (.br (l.getD a.toNat (0 : Int) == o)

 (.br (decide (a < (0 : Int)))

 (.ret (.tup [.bl false, .lit .i64 (81 : Int)], [.ro encLook [PUnit.unit], .own [.c (.sli 2 (.c 0) 1 (.v n) (some (.v n))), .c (.int .i64 c)] 67, .own [.a (encInt IntKind.u32) n l] 45, .own [.c (.lit .u32 (0 : Int)), .c (.int .u32 v), .c (.lit .u32 (0 : Int))] 81, .own [.c (.lit .u32 (0 : Int)), .c (.int .u32 v), .c (.lit .u32 (0 : Int))] 81]))

 (.br (decide ((↑n : Int) ≤ a))

 (.ret (.tup [.bl false, .lit .i64 (81 : Int)], [.ro encLook [PUnit.unit], .own [.c (.sli 2 (.c 0) 1 (.v n) (some (.v n))), .c (.int .i64 c)] 67, .own [.a (encInt IntKind.u32) n l] 45, .own [.c (.lit .u32 (0 : Int)), .c (.int .u32 v), .c (.lit .u32 (0 : Int))] 81, .own [.c (.lit .u32 (0 : Int)), .c (.int .u32 v), .c (.lit .u32 (0 : Int))] 81]))

 (.need (decide ((0 : Int) ≤ a) && decide (a.toNat < n))

 (.need (decide (a.toNat < n))

 (.need (true)

 (.need (true)

 (.need (true)

 (.need (decide ((0 : Int) ≤ a) && decide (a.toNat < n))

 (.need (decide (a.toNat < n))
 (.eq (T.ret (SVal.sli (2 : Nat) (NN.c (0 : Nat)) (1 : Nat) (NN.v n) (some (NN.v n))) = T.ret (SVal.sli (2 : Nat) (NN.c (0 : Nat)) (1 : Nat) (NN.v n) (some (NN.v n))))
 (.eq (T.ret (SVal.int IntKind.u32 v) = T.ret (SVal.int IntKind.u32 v))

 (.need (decide ((0 : Int) ≤ a) && decide (a.toNat < n))

 (.need (decide (a.toNat < n))

 (.need (decide ((0 : Int) ≤ a) && decide (a.toNat < n))

 (.need (decide (a.toNat < n))
 (.eq (T.ret (SVal.sli (2 : Nat) (NN.c (0 : Nat)) (1 : Nat) (NN.v n) (some (NN.v n))) = T.ret (SVal.sli (2 : Nat) (NN.c (0 : Nat)) (1 : Nat) (NN.v n) (some (NN.v n))))
 (.eq (T.need (decide (a.toNat < n)) (T.ret ([SVal.int IntKind.u32 ((l.set a.toNat (bitop BinOp.or IntKind.u32 (bitop BinOp.and IntKind.u32 (l.getD a.toNat (0 : Int)) (0 : Int)) v)).getD a.toNat (0 : Int))].getD (0 : Nat) SVal.bad)) = T.need (decide (a.toNat < n)) (T.ret ([SVal.int IntKind.u32 ((l.set a.toNat (bitop BinOp.or IntKind.u32 (bitop BinOp.and IntKind.u32 (l.getD a.toNat (0 : Int)) (0 : Int)) v)).getD a.toNat (0 : Int))].getD (0 : Nat) SVal.bad)))

 (.ret (.tup [.sb (l.getD a.toNat (0 : Int) == o), .lit .i64 (0 : Int)], [.ro encLook [PUnit.unit], .own [.c (.sli 2 (.c 0) 1 (.v n) (some (.v n))), .c (.int .i64 (IntKind.i64.wrap (c + (1 : Int))))] 67, .own [.a (encInt IntKind.u32) n ((l.set a.toNat (bitop BinOp.or IntKind.u32 (bitop BinOp.and IntKind.u32 (l.getD a.toNat (0 : Int)) (0 : Int)) v)).set a.toNat (IntKind.u32.wrap ((l.set a.toNat (bitop BinOp.or IntKind.u32 (bitop BinOp.and IntKind.u32 (l.getD a.toNat (0 : Int)) (0 : Int)) v)).getD a.toNat (0 : Int) + (0 : Int))))] 45, .own [.c (.lit .u32 (0 : Int)), .c (.int .u32 v), .c (.lit .u32 (0 : Int))] 81, .own [.c (.lit .u32 (0 : Int)), .c (.int .u32 v), .c (.lit .u32 (0 : Int))] 81])))))))))))))))))))

 (.br (decide (a < (0 : Int)))

 (.ret (.tup [.bl false, .lit .i64 (81 : Int)], [.ro encLook [PUnit.unit], .own [.c (.sli 2 (.c 0) 1 (.v n) (some (.v n))), .c (.int .i64 c)] 67, .own [.a (encInt IntKind.u32) n l] 45, .own [.c (.lit .u32 (4294967295 : Int)), .c (.lit .u32 (0 : Int)), .c (.lit .u32 (0 : Int))] 81, .own [.c (.lit .u32 (4294967295 : Int)), .c (.lit .u32 (0 : Int)), .c (.lit .u32 (0 : Int))] 81]))

 (.br (decide ((↑n : Int) ≤ a))

 (.ret (.tup [.bl false, .lit .i64 (81 : Int)], [.ro encLook [PUnit.unit], .own [.c (.sli 2 (.c 0) 1 (.v n) (some (.v n))), .c (.int .i64 c)] 67, .own [.a (encInt IntKind.u32) n l] 45, .own [.c (.lit .u32 (4294967295 : Int)), .c (.lit .u32 (0 : Int)), .c (.lit .u32 (0 : Int))] 81, .own [.c (.lit .u32 (4294967295 : Int)), .c (.lit .u32 (0 : Int)), .c (.lit .u32 (0 : Int))] 81]))

 (.need (decide ((0 : Int) ≤ a) && decide (a.toNat < n))

 (.need (decide (a.toNat < n))

 (.need (true)

 (.need (true)

 (.need (true)

 (.ret (.tup [.sb (l.getD a.toNat (0 : Int) == o), .lit .i64 (0 : Int)], [.ro encLook [PUnit.unit], .own [.c (.sli 2 (.c 0) 1 (.v n) (some (.v n))), .c (.int .i64 (IntKind.i64.wrap (c + (1 : Int))))] 67, .own [.a (encInt IntKind.u32) n l] 45, .own [.c (.lit .u32 (4294967295 : Int)), .c (.lit .u32 (0 : Int)), .c (.lit .u32 (0 : Int))] 81, .own [.c (.lit .u32 (4294967295 : Int)), .c (.lit .u32 (0 : Int)), .c (.lit .u32 (0 : Int))] 81]))))))))))))

 (.br (decide (a < (0 : Int)))

 (.ret (.tup [.bl false, .lit .i64 (81 : Int)], [.ro encLook [PUnit.unit], .own [.c (.sli 2 (.c 0) 1 (.v n) (some (.v n))), .c (.int .i64 c)] 67, .own [.a (encInt IntKind.u32) n l] 45, .own [.c (.lit .u32 (4294967295 : Int)), .c (.lit .u32 (0 : Int)), .c (.lit .u32 (0 : Int))] 81, .own [.c (.lit .u32 (4294967295 : Int)), .c (.lit .u32 (0 : Int)), .c (.lit .u32 (0 : Int))] 81]))

 (.br (decide ((↑n : Int) ≤ a))

 (.ret (.tup [.bl false, .lit .i64 (81 : Int)], [.ro encLook [PUnit.unit], .own [.c (.sli 2 (.c 0) 1 (.v n) (some (.v n))), .c (.int .i64 c)] 67, .own [.a (encInt IntKind.u32) n l] 45, .own [.c (.lit .u32 (4294967295 : Int)), .c (.lit .u32 (0 : Int)), .c (.lit .u32 (0 : Int))] 81, .own [.c (.lit .u32 (4294967295 : Int)), .c (.lit .u32 (0 : Int)), .c (.lit .u32 (0 : Int))] 81]))

 (.need (decide ((0 : Int) ≤ a) && decide (a.toNat < n))

 (.need (decide (a.toNat < n))

 (.need (true)

 (.need (true)

 (.need (true)

 (.ret (.tup [.sb (l.getD a.toNat (0 : Int) == o), .lit .i64 (0 : Int)], [.ro encLook [PUnit.unit], .own [.c (.sli 2 (.c 0) 1 (.v n) (some (.v n))), .c (.int .i64 (IntKind.i64.wrap (c + (1 : Int))))] 67, .own [.a (encInt IntKind.u32) n l] 45, .own [.c (.lit .u32 (4294967295 : Int)), .c (.lit .u32 (0 : Int)), .c (.lit .u32 (0 : Int))] 81, .own [.c (.lit .u32 (4294967295 : Int)), .c (.lit .u32 (0 : Int)), .c (.lit .u32 (0 : Int))] 81]))))))))))

 (.br (decide (a < (0 : Int)))

 (.ret (.tup [.bl false, .lit .i64 (81 : Int)], [.ro encLook [PUnit.unit], .own [.c (.sli 2 (.c 0) 1 (.v n) (some (.v n))), .c (.int .i64 c)] 67, .own [.a (encInt IntKind.u32) n l] 45, .own [.c (.lit .u32 (4294967295 : Int)), .c (.lit .u32 (0 : Int)), .c (.lit .u32 (0 : Int))] 81, .own [.c (.lit .u32 (4294967295 : Int)), .c (.lit .u32 (0 : Int)), .c (.lit .u32 (0 : Int))] 81]))

 (.br (decide ((↑n : Int) ≤ a))

 (.ret (.tup [.bl false, .lit .i64 (81 : Int)], [.ro encLook [PUnit.unit], .own [.c (.sli 2 (.c 0) 1 (.v n) (some (.v n))), .c (.int .i64 c)] 67, .own [.a (encInt IntKind.u32) n l] 45, .own [.c (.lit .u32 (4294967295 : Int)), .c (.lit .u32 (0 : Int)), .c (.lit .u32 (0 : Int))] 81, .own [.c (.lit .u32 (4294967295 : Int)), .c (.lit .u32 (0 : Int)), .c (.lit .u32 (0 : Int))] 81]))

 (.need (decide ((0 : Int) ≤ a) && decide (a.toNat < n))

 (.need (decide (a.toNat < n))

 (.need (true)

 (.need (true)

 (.need (true)

 (.ret (.tup [.sb (l.getD a.toNat (0 : Int) == o), .lit .i64 (0 : Int)], [.ro encLook [PUnit.unit], .own [.c (.sli 2 (.c 0) 1 (.v n) (some (.v n))), .c (.int .i64 (IntKind.i64.wrap (c + (1 : Int))))] 67, .own [.a (encInt IntKind.u32) n l] 45, .own [.c (.lit .u32 (4294967295 : Int)), .c (.lit .u32 (0 : Int)), .c (.lit .u32 (0 : Int))] 81, .own [.c (.lit .u32 (4294967295 : Int)), .c (.lit .u32 (0 : Int)), .c (.lit .u32 (0 : Int))] 81]))))))))))))) := by kernel_rfl
end Go.Proofs.YtlnigpeoffaemaaDoor

/- Layer 8: what loads, stores and adds come to. -/
namespace Go.Proofs.YtlnigpeoffaemaaDoor
open Go Go.Proofs.YtlnigpeoffaemaaDoor.Sx
set_option linter.unusedVariables false
theorem memS_ren {n : Nat} {l : List Int} {c : Int} : renSt (List.range 3) (memS n l c) (List.range 3) = some (memS n l c) := by kernel_rfl
theorem memS_ro {n n' : Nat} {l l' : List Int} {c c' : Int} : roSame (memS n l c) (memS n' l' c') :=
  roSame_cons (.inr rfl) (roSame_cons (.inl rfl) (roSame_cons (.inl rfl) roSame_nil))
theorem asI_int {env : Env} {s : SVal} {v : Value} {k : IntKind} {x : Int} {b : Bool} (h : asI s = some (k, x, b)) (hd : Den env s v) : Den env (.int k x) v := by rw [asI_den h hd]; simp [Den]
theorem asI_ren {s : SVal} {k : IntKind} {x : Int} {b : Bool} {m : List Nat} (h : asI s = some (k, x, b)) : ren m s = s := by
  cases s <;> simp [asI] at h <;> rfl
noncomputable def gLoad (args : List SVal) (st : St) : T (SVal × St) := match args, st with
  | [.ptr 1 0, a], [_, .own [_, .c cv] _, b2] => match asI a, asI cv, wordsOf b2 with
    | some (.i64, a, _), some (_, c, _), some (n, l) => .eq (st = memS n l c ∧ l.length = n) (.br (inP a n) (.ret (.tup [.int .u32 (l.getD a.toNat 0), .lit .i64 0], memS n l (upP c))) (.ret (.tup [.lit .u32 0, .lit .i64 81], memS n l c)))
    | _, _, _ => .no 170
  | _, _ => .no 171
noncomputable def gStore (args : List SVal) (st : St) : T (SVal × St) := match args, st with
  | [.ptr 1 0, a, v], [_, .own [_, .c cv] _, b2] => match asI a, asI v, asI cv, wordsOf b2 with
    | some (.i64, a, _), some (.u32, v, _), some (_, c, _), some (n, l) => .eq (st = memS n l c ∧ l.length = n) (.br (inP a n) (.ret (.lit .i64 0, memS n (l.set a.toNat (setP (l.getD a.toNat 0) v)) (upP c))) (.ret (.lit .i64 81, memS n l c)))
    | _, _, _, _ => .no 170
  | _, _ => .no 171
noncomputable def gInc (args : List SVal) (st : St) : T (SVal × St) := match args, st with
  | [.ptr 1 0, a, .lit .u32 1], [_, .own [_, .c cv] _, b2] => match asI a, asI cv, wordsOf b2 with
    | some (.i64, a, _), some (_, c, _), some (n, l) => .eq (st = memS n l c ∧ l.length = n) (.br (inP a n) (.ret (.tup [.int .u32 (l.getD a.toNat 0), .lit .i64 0], memS n (l.set a.toNat (incP (l.getD a.toNat 0))) (upP c))) (.ret (.tup [.lit .u32 0, .lit .i64 81], memS n l c)))
    | _, _, _ => .no 170
  | _, _ => .no 171
noncomputable def gSwap (args : List SVal) (st : St) : T (SVal × St) := match args, st with
  | [.ptr 1 0, a, o, v], [_, .own [_, .c cv] _, b2] => match asI a, asI o, asI v, asI cv, wordsOf b2 with
    | some (.i64, a, _), some (.u32, o, _), some (.u32, v, _), some (_, c, _), some (n, l) => .eq (st = memS n l c ∧ l.length = n)
      (.br (inP a n) (.br (l.getD a.toNat 0 == o) (.ret (.tup [.bl true, .lit .i64 0], memS n (l.set a.toNat (setP (l.getD a.toNat 0) v)) (upP c))) (.ret (.tup [.bl false, .lit .i64 0], memS n l (upP c)))) (.ret (.tup [.bl false, .lit .i64 81], memS n l c)))
    | _, _, _, _, _ => .no 170
  | _, _ => .no 171
set_option maxRecDepth 10000 in
theorem load_ok (args : List SVal) (S : St) (s : SVal) (S' : St) (h : (gLoad args S).at (s, S')) : PreOk cfgW 3 22 args S s S' := by
  unfold gLoad at h
  split at h
  · rename_i a b0 s0 cv TT b2
    split at h
    · rename_i a' la kc c lc n l h1 h2 h3
      obtain ⟨⟨e0, hl⟩, h⟩ := h
      rw [e0]
      have hr : renL (List.range 3) [.ptr 1 0, a] = [.ptr 1 0, a] := by simp only [renL, asI_ren h1]; rfl
      have key : ∀ (env : Env) (w : World) (vs : List Value), GlOk cfgW.gl env → Rep env (memS n l c) w → DenL env [.ptr 1 0, a] vs → Calls cfgW.P 22 ⟨vs⟩ w (Ends1 env (memS n l c) w s S') := by
        intro env w vs hg hr hd
        have hd' : DenL env [.ptr 1 0, .int .i64 a'] vs := by
          obtain ⟨u, us, rfl, h4, u2, us2, rfl, h5, rfl⟩ := hd
          exact ⟨_, _, rfl, h4, _, _, rfl, asI_int h1 h5, rfl⟩
        simp only [T.at, Prod.mk.injEq] at h
        rcases h with ⟨hb, e1, e2⟩ | ⟨hb, e1, e2⟩
        · rw [inP_iff] at hb
          refine ends_all (s := s) (S' := S') cfgW_ok t_load (by kernel_rfl) (by rw [← e2] <;> rfl) (by rw [← e2]; exact memS_ren) (by rw [← e1]; rfl) ?_ env w vs hg hr hd'
          subst e1 e2
          repeat' (first
            | (refine all_brp (by simp only [decide_eq_true_eq]; exact Iff.rfl) (fun _ => ?_) (fun _ => ?_) <;> try (exfalso; omega))
            | refine all_needq (by simp only [decide_eq_true_eq, Bool.and_eq_true]; exact Iff.rfl) (by omega) ?_
            | refine all_need rfl (fun _ => ?_)
            | refine all_eq rfl ?_)
          exact all_ret ⟨_, rfl⟩
        · rw [← Bool.not_eq_true, inP_iff] at hb
          refine ends_all (s := s) (S' := S') cfgW_ok t_load (by kernel_rfl) (by rw [← e2] <;> rfl) (by rw [← e2]; exact memS_ren) (by rw [← e1]; rfl) ?_ env w vs hg hr hd'
          subst e1 e2
          repeat' (first
            | (refine all_brp (by simp only [decide_eq_true_eq]; exact Iff.rfl) (fun _ => ?_) (fun _ => ?_) <;> try (exfalso; omega))
            | refine all_needq (by simp only [decide_eq_true_eq, Bool.and_eq_true]; exact Iff.rfl) (by omega) ?_
            | refine all_need rfl (fun _ => ?_)
            | refine all_eq rfl ?_)
          all_goals exact all_ret ⟨_, rfl⟩
      have hS' : ∃ n' l' c', S' = memS n' l' c' := by
        simp only [T.at, Prod.mk.injEq] at h
        rcases h with ⟨hb, rfl, rfl⟩ | ⟨hb, rfl, rfl⟩ <;> exact ⟨_, _, _, rfl⟩
      obtain ⟨n', l', c', rfl⟩ := hS'
      exact ⟨key, rfl, rfl, memS_ro, memS_ren, hr⟩
    · exact h.elim
  · exact h.elim
set_option maxRecDepth 10000 in
theorem store_ok (args : List SVal) (S : St) (s : SVal) (S' : St) (h : (gStore args S).at (s, S')) : PreOk cfgW 3 28 args S s S' := by
  unfold gStore at h
  split at h
  · rename_i a v b0 s0 cv TT b2
    split at h
    · rename_i a' la v' lv kc c lc n l h1 h0 h2 h3
      obtain ⟨⟨e0, hl⟩, h⟩ := h
      rw [e0]
      have hr : renL (List.range 3) [.ptr 1 0, a, v] = [.ptr 1 0, a, v] := by simp only [renL, asI_ren h1, asI_ren h0]; rfl
      have key : ∀ (env : Env) (w : World) (vs : List Value), GlOk cfgW.gl env → Rep env (memS n l c) w → DenL env [.ptr 1 0, a, v] vs → Calls cfgW.P 28 ⟨vs⟩ w (Ends1 env (memS n l c) w s S') := by
        intro env w vs hg hr hd
        have hd' : DenL env [.ptr 1 0, .int .i64 a', .int .u32 v'] vs := by
          obtain ⟨u, us, rfl, h4, u2, us2, rfl, h5, u3, us3, rfl, h6, rfl⟩ := hd
          exact ⟨_, _, rfl, h4, _, _, rfl, asI_int h1 h5, _, _, rfl, asI_int h0 h6, rfl⟩
        simp only [T.at, Prod.mk.injEq] at h
        rcases h with ⟨hb, e1, e2⟩ | ⟨hb, e1, e2⟩
        · rw [inP_iff] at hb
          refine ends_all (s := s) (S' := S') cfgW_ok t_store (by kernel_rfl) (by rw [← e2] <;> rfl) (by rw [← e2]; exact memS_ren) (by rw [← e1]; rfl) ?_ env w vs hg hr hd'
          subst e1 e2
          repeat' (first
            | (refine all_brp (by simp only [decide_eq_true_eq]; exact Iff.rfl) (fun _ => ?_) (fun _ => ?_) <;> try (exfalso; omega))
            | refine all_needq (by simp only [decide_eq_true_eq, Bool.and_eq_true]; exact Iff.rfl) (by omega) ?_
            | refine all_need rfl (fun _ => ?_)
            | refine all_eq rfl ?_)
          rw [List.set_set, getD_set_self (by omega)]
          exact all_ret ⟨_, rfl⟩
        · rw [← Bool.not_eq_true, inP_iff] at hb
          refine ends_all (s := s) (S' := S') cfgW_ok t_store (by kernel_rfl) (by rw [← e2] <;> rfl) (by rw [← e2]; exact memS_ren) (by rw [← e1]; rfl) ?_ env w vs hg hr hd'
          subst e1 e2
          repeat' (first
            | (refine all_brp (by simp only [decide_eq_true_eq]; exact Iff.rfl) (fun _ => ?_) (fun _ => ?_) <;> try (exfalso; omega))
            | refine all_needq (by simp only [decide_eq_true_eq, Bool.and_eq_true]; exact Iff.rfl) (by omega) ?_
            | refine all_need rfl (fun _ => ?_)
            | refine all_eq rfl ?_)
          all_goals exact all_ret ⟨_, rfl⟩
      have hS' : ∃ n' l' c', S' = memS n' l' c' := by
        simp only [T.at, Prod.mk.injEq] at h
        rcases h with ⟨hb, rfl, rfl⟩ | ⟨hb, rfl, rfl⟩ <;> exact ⟨_, _, _, rfl⟩
      obtain ⟨n', l', c', rfl⟩ := hS'
      exact ⟨key, rfl, rfl, memS_ro, memS_ren, hr⟩
    · exact h.elim
  · exact h.elim
set_option maxRecDepth 10000 in
theorem inc_ok (args : List SVal) (S : St) (s : SVal) (S' : St) (h : (gInc args S).at (s, S')) : PreOk cfgW 3 51 args S s S' := by
  unfold gInc at h
  split at h
  · rename_i a b0 s0 cv TT b2
    split at h
    · rename_i a' la kc c lc n l h1 h2 h3
      obtain ⟨⟨e0, hl⟩, h⟩ := h
      rw [e0]
      have hr : renL (List.range 3) [.ptr 1 0, a, .lit .u32 1] = [.ptr 1 0, a, .lit .u32 1] := by simp only [renL, asI_ren h1]; rfl
      have key : ∀ (env : Env) (w : World) (vs : List Value), GlOk cfgW.gl env → Rep env (memS n l c) w → DenL env [.ptr 1 0, a, .lit .u32 1] vs → Calls cfgW.P 51 ⟨vs⟩ w (Ends1 env (memS n l c) w s S') := by
        intro env w vs hg hr hd
        have hd' : DenL env [.ptr 1 0, .int .i64 a', .lit .u32 1] vs := by
          obtain ⟨u, us, rfl, h4, u2, us2, rfl, h5, h6⟩ := hd
          exact ⟨_, _, rfl, h4, _, _, rfl, asI_int h1 h5, h6⟩
        simp only [T.at, Prod.mk.injEq] at h
        rcases h with ⟨hb, e1, e2⟩ | ⟨hb, e1, e2⟩
        · rw [inP_iff] at hb
          refine ends_all (s := s) (S' := S') cfgW_ok t_add (by kernel_rfl) (by rw [← e2] <;> rfl) (by rw [← e2]; exact memS_ren) (by rw [← e1]; rfl) ?_ env w vs hg hr hd'
          subst e1 e2
          repeat' (first
            | (refine all_brp (by simp only [decide_eq_true_eq]; exact Iff.rfl) (fun _ => ?_) (fun _ => ?_) <;> try (exfalso; omega))
            | refine all_needq (by simp only [decide_eq_true_eq, Bool.and_eq_true]; exact Iff.rfl) (by omega) ?_
            | refine all_need rfl (fun _ => ?_)
            | refine all_eq rfl ?_)
          rw [List.set_set, getD_set_self (by omega)]
          exact all_ret ⟨_, rfl⟩
        · rw [← Bool.not_eq_true, inP_iff] at hb
          refine ends_all (s := s) (S' := S') cfgW_ok t_add (by kernel_rfl) (by rw [← e2] <;> rfl) (by rw [← e2]; exact memS_ren) (by rw [← e1]; rfl) ?_ env w vs hg hr hd'
          subst e1 e2
          repeat' (first
            | (refine all_brp (by simp only [decide_eq_true_eq]; exact Iff.rfl) (fun _ => ?_) (fun _ => ?_) <;> try (exfalso; omega))
            | refine all_needq (by simp only [decide_eq_true_eq, Bool.and_eq_true]; exact Iff.rfl) (by omega) ?_
            | refine all_need rfl (fun _ => ?_)
            | refine all_eq rfl ?_)
          all_goals exact all_ret ⟨_, rfl⟩
      have hS' : ∃ n' l' c', S' = memS n' l' c' := by
        simp only [T.at, Prod.mk.injEq] at h
        rcases h with ⟨hb, rfl, rfl⟩ | ⟨hb, rfl, rfl⟩ <;> exact ⟨_, _, _, rfl⟩
      obtain ⟨n', l', c', rfl⟩ := hS'
      exact ⟨key, rfl, rfl, memS_ro, memS_ren, hr⟩
    · exact h.elim
  · exact h.elim
theorem tup_sb {x : Bool} {b : Bool} (h : x = b) (l : List SVal) : gen (.tup (.sb x :: l)) = gen (.tup (.bl b :: l)) := by subst h; rfl
set_option maxRecDepth 10000 in
theorem swap_ok (args : List SVal) (S : St) (s : SVal) (S' : St) (h : (gSwap args S).at (s, S')) : PreOk cfgW 3 31 args S s S' := by
  unfold gSwap at h
  split at h
  · rename_i a o v b0 s0 cv TT b2
    split at h
    · rename_i a' la o' lo v' lv kc c lc n l h1 h4 h0 h2 h3
      obtain ⟨⟨e0, hl⟩, h⟩ := h
      rw [e0]
      have hr : renL (List.range 3) [.ptr 1 0, a, o, v] = [.ptr 1 0, a, o, v] := by simp only [renL, asI_ren h1, asI_ren h4, asI_ren h0]; rfl
      have key : ∀ (env : Env) (w : World) (vs : List Value), GlOk cfgW.gl env → Rep env (memS n l c) w → DenL env [.ptr 1 0, a, o, v] vs → Calls cfgW.P 31 ⟨vs⟩ w (Ends1 env (memS n l c) w s S') := by
        intro env w vs hg hr hd
        have hd' : DenL env [.ptr 1 0, .int .i64 a', .int .u32 o', .int .u32 v'] vs := by
          obtain ⟨u, us, rfl, k1, u2, us2, rfl, k2, u3, us3, rfl, k3, u4, us4, rfl, k4, rfl⟩ := hd
          exact ⟨_, _, rfl, k1, _, _, rfl, asI_int h1 k2, _, _, rfl, asI_int h4 k3, _, _, rfl, asI_int h0 k4, rfl⟩
        simp only [T.at, Prod.mk.injEq] at h
        rcases h with ⟨hb, (⟨hq, e1, e2⟩ | ⟨hq, e1, e2⟩)⟩ | ⟨hb, e1, e2⟩
        · rw [inP_iff] at hb
          have hq' := beq_iff_eq.1 hq
          refine ends_allg (s := s) (S' := S') cfgW_ok t_swap (by kernel_rfl) (by rw [← e2] <;> rfl) (by rw [← e2]; exact memS_ren) (by rw [← e1]; rfl) ?_ env w vs hg hr hd'
          subst e1 e2
          repeat' (first
            | (refine all_brp (by simp only [decide_eq_true_eq, beq_iff_eq]; exact Iff.rfl) (fun _ => ?_) (fun _ => ?_) <;> try (first | (exfalso; omega) | contradiction))
            | refine all_needq (by simp only [decide_eq_true_eq, Bool.and_eq_true]; exact Iff.rfl) (by omega) ?_
            | refine all_need rfl (fun _ => ?_)
            | refine all_eq rfl ?_)
          rw [List.set_set, getD_set_self (by omega)]
          exact all_ret ⟨_, tup_sb hq _, rfl⟩
        · rw [inP_iff] at hb
          have hq' := beq_eq_false_iff_ne.1 hq
          refine ends_allg (s := s) (S' := S') cfgW_ok t_swap (by kernel_rfl) (by rw [← e2] <;> rfl) (by rw [← e2]; exact memS_ren) (by rw [← e1]; rfl) ?_ env w vs hg hr hd'
          subst e1 e2
          repeat' (first
            | (refine all_brp (by simp only [decide_eq_true_eq, beq_iff_eq]; exact Iff.rfl) (fun _ => ?_) (fun _ => ?_) <;> try (first | (exfalso; omega) | contradiction))
            | refine all_needq (by simp only [decide_eq_true_eq, Bool.and_eq_true]; exact Iff.rfl) (by omega) ?_
            | refine all_need rfl (fun _ => ?_)
            | refine all_eq rfl ?_)
          all_goals exact all_ret ⟨_, tup_sb hq _, rfl⟩
        · rw [← Bool.not_eq_true, inP_iff] at hb
          refine ends_allg (s := s) (S' := S') cfgW_ok t_swap (by kernel_rfl) (by rw [← e2] <;> rfl) (by rw [← e2]; exact memS_ren) (by rw [← e1]; rfl) ?_ env w vs hg hr hd'
          subst e1 e2
          repeat' (first
            | (refine all_brp (by simp only [decide_eq_true_eq, beq_iff_eq]; exact Iff.rfl) (fun _ => ?_) (fun _ => ?_) <;> try (first | (exfalso; omega) | contradiction))
            | refine all_needq (by simp only [decide_eq_true_eq, Bool.and_eq_true]; exact Iff.rfl) (by omega) ?_
            | refine all_need rfl (fun _ => ?_)
            | refine all_eq rfl ?_)
          all_goals exact all_ret ⟨_, rfl, rfl⟩
      have hS' : ∃ n' l' c', S' = memS n' l' c' := by
        simp only [T.at, Prod.mk.injEq] at h
        rcases h with ⟨hb, (⟨hq, rfl, rfl⟩ | ⟨hq, rfl, rfl⟩)⟩ | ⟨hb, rfl, rfl⟩ <;> exact ⟨_, _, _, rfl⟩
      obtain ⟨n', l', c', rfl⟩ := hS'
      exact ⟨key, rfl, rfl, memS_ro, memS_ren, hr⟩
    · exact h.elim
  · exact h.elim
theorem gl_lt {k : Nat} (h : 0 < k) : ∀ p ∈ cfgW.gl, p.2 < k := by
  intro p hp
  rw [List.mem_singleton.1 hp]; exact h
noncomputable def smMem : FuncId → Option (List SVal → St → T (SVal × St)) := fun f => match f with
  | 22 => some (smPre 3 gLoad)
  | 28 => some (smPre 3 gStore)
  | 51 => some (smPre 3 gInc)
  | 31 => some (smPre 3 gSwap)
  | _ => none
/-- with memory -/
noncomputable def cfgM : Cfg := { P := Tryd.prog, ex := exI, gl := [(0, 0)], sm := smMem }
theorem smMem_ok : ∀ f g, smMem f = some g → ∀ (args : List SVal) (st : St) (s : SVal) (st' : St) (env : Env) (w : World) (vs : List Value), (g args st).at (s, st') → GlOk [(0, 0)] env → Rep env st w → DenL env args vs →
    Calls Tryd.prog f ⟨vs⟩ w fun e w' => ∃ env' v, e = .returned v ∧ Ext env st w env' st' w' ∧ Rep env' st' w' ∧ Den env' s v := by
  intro f g h
  simp only [smMem] at h
  split at h
  · simp only [Option.some.injEq] at h; subst h
    exact smPre_ok (c := cfgW) (gl_lt (by omega)) load_ok
  · simp only [Option.some.injEq] at h; subst h
    exact smPre_ok (c := cfgW) (gl_lt (by omega)) store_ok
  · simp only [Option.some.injEq] at h; subst h
    exact smPre_ok (c := cfgW) (gl_lt (by omega)) inc_ok
  · simp only [Option.some.injEq] at h; subst h
    exact smPre_ok (c := cfgW) (gl_lt (by omega)) swap_ok
  · cases h
theorem cfgM_ok : SmOk cfgM := smMem_ok
end Go.Proofs.YtlnigpeoffaemaaDoor

/- Layer 8, plain: tasks and their steps. -/
namespace Go.Proofs.YtlnigpeoffaemaaDoor
open Go Go.Proofs.YtlnigpeoffaemaaDoor.Sx
set_option linter.unusedVariables false
/-- a task that adds -/
structure Ad where
  at' : Int
  times : Int
/-- a task of two steps: it stores, or swaps -/
structure Tw where
  at' : Int
  times : Int
  has : Bool
  v : Int
  swap : Bool
abbrev u32P (x : Int) : Int := IntKind.u32.wrap x
def stepAd (x : Ad) (l : List Int) : Ad × List Int × Bool :=
  match decide (x.times < 1) with
  | true => (x, l, true)
  | false => match inP x.at' l.length with
    | true => (⟨x.at', x.times - 1⟩, l.set x.at'.toNat (incP (l.getD x.at'.toNat 0)), x.times - 1 == 0)
    | false => (⟨x.at', x.times - 1⟩, l, true)
def usesAd (x : Ad) (l : List Int) (c : Int) : Int :=
  match decide (x.times < 1) with
  | true => c
  | false => match inP x.at' l.length with
    | true => upP c
    | false => c
def stepTw (x : Tw) (l : List Int) : Tw × List Int × Bool :=
  match decide (x.times < 1) with
  | true => (x, l, true)
  | false => match x.has with
    | false => match inP x.at' l.length with
      | true => (⟨x.at', x.times, true, l.getD x.at'.toNat 0, x.swap⟩, l, false)
      | false => (⟨x.at', x.times, true, 0, x.swap⟩, l, true)
    | true => match inP x.at' l.length with
      | true => match !x.swap || l.getD x.at'.toNat 0 == x.v with
        | true => (⟨x.at', x.times - 1, false, x.v, x.swap⟩, l.set x.at'.toNat (setP (l.getD x.at'.toNat 0) (u32P (x.v + 1))), x.times - 1 == 0)
        | false => (⟨x.at', x.times, false, x.v, x.swap⟩, l, x.times == 0)
      | false => (⟨x.at', x.times, false, x.v, x.swap⟩, l, x.times == 0)
def usesTw (x : Tw) (l : List Int) (c : Int) : Int :=
  match decide (x.times < 1) with
  | true => c
  | false => match inP x.at' l.length with
    | true => upP c
    | false => c
/-- any task: 0 adds, 1 stores, 2 swaps -/
structure Tk where
  kind : Nat
  at' : Int
  times : Int
  has : Bool
  v : Int
def Ad.tk (x : Ad) : Tk := ⟨0, x.at', x.times, false, 0⟩
def Tw.tk (x : Tw) : Tk := ⟨match x.swap with | true => 2 | false => 1, x.at', x.times, x.has, x.v⟩
/-- a step of any task -/
def stepA (t : Tk) (l : List Int) : Tk × List Int × Bool :=
  match decide (t.times < 1) with
  | true => (t, l, true)
  | false => match t.kind with
    | 0 => match inP t.at' l.length with
      | true => ({t with times := t.times - 1}, l.set t.at'.toNat (incP (l.getD t.at'.toNat 0)), t.times - 1 == 0)
      | false => ({t with times := t.times - 1}, l, true)
    | _ => match t.has with
      | false => match inP t.at' l.length with
        | true => ({t with has := true, v := l.getD t.at'.toNat 0}, l, false)
        | false => ({t with has := true, v := 0}, l, true)
      | true => match inP t.at' l.length with
        | true => match t.kind == 1 || l.getD t.at'.toNat 0 == t.v with
          | true => ({t with times := t.times - 1, has := false}, l.set t.at'.toNat (setP (l.getD t.at'.toNat 0) (u32P (t.v + 1))), t.times - 1 == 0)
          | false => ({t with has := false}, l, t.times == 0)
        | false => ({t with has := false}, l, t.times == 0)
theorem stepAd_A (x : Ad) (l : List Int) : stepA x.tk l = ((stepAd x l).1.tk, (stepAd x l).2) := by
  obtain ⟨a, t⟩ := x
  by_cases h : t < 1
  · simp only [stepA, stepAd, Ad.tk, h, decide_true]
  · cases hq : inP a l.length <;> simp only [stepA, stepAd, Ad.tk, h, decide_false, hq]
theorem stepTw_A (x : Tw) (l : List Int) : stepA x.tk l = ((stepTw x l).1.tk, (stepTw x l).2) := by
  obtain ⟨a, t, h, v, s⟩ := x
  by_cases ht : t < 1
  · simp only [stepA, stepTw, Tw.tk, ht, decide_true]
  · have hk : ∀ s : Bool, ((match s with | true => 2 | false => 1 : Nat) == 1) = !s := by intro s; cases s <;> rfl
    cases hq : inP a l.length <;> cases h <;> cases s <;> cases he : (l.getD a.toNat 0 == v) <;> simp [-List.getD_eq_getElem?_getD, stepA, stepTw, Tw.tk, ht, hq, he]
theorem stepAd_len (x : Ad) (l : List Int) : (stepAd x l).2.1.length = l.length := by
  unfold stepAd
  repeat' (first | split | rfl | (simp only [List.length_set]))
theorem stepTw_len (x : Tw) (l : List Int) : (stepTw x l).2.1.length = l.length := by
  unfold stepTw
  repeat' (first | split | rfl | (simp only [List.length_set]))
end Go.Proofs.YtlnigpeoffaemaaDoor

/- Layer 8: tasks in the heap. -/
namespace Go.Proofs.YtlnigpeoffaemaaDoor
open Go Go.Proofs.YtlnigpeoffaemaaDoor.Sx
set_option linter.unusedVariables false
abbrev putV (s : Bool) : SVal := .sw s (.fn (.func 30) [] []) (.fn (.func 27) [] [])
abbrev adB (x : Ad) : Blk := .own [.c (.int .i64 x.at'), .c (.int .i64 x.times)] 86
abbrev twB (x : Tw) : Blk := .own [.c (.int .i64 x.at'), .c (.int .i64 x.times), .c (.sb x.has), .c (.int .u32 x.v), .c (putV x.swap)] 78
def encAd : Enc Ad := encOf 1 (fun x => [.int .i64 x.at', .int .i64 x.times]) ⟨0, 0⟩ (fun _ => rfl) (by intro env env' x vs h; simpa [DenL, Den] using h)
def encTw : Enc Tw := encOf 4 (fun x => [.int .i64 x.at', .int .i64 x.times, .sb x.has, .int .u32 x.v, putV x.swap]) ⟨0, 0, false, 0, false⟩ (fun _ => rfl) (by intro env env' x vs h; simpa [DenL, Den] using h)
end Go.Proofs.YtlnigpeoffaemaaDoor

namespace Go.Proofs.YtlnigpeoffaemaaDoor
open Go Go.Proofs.YtlnigpeoffaemaaDoor.Sx
set_option linter.unusedVariables false
set_option maxRecDepth 100000 in
theorem t_ad {n : Nat} {l : List Int} {c : Int} {x : Ad} : callF cfgM 100 50 [.ptr 3 0, .ptr 1 0] (memS n l c ++ [adB x]) =
 

 (.br (decide (x.2 < (1 : Int)))

 (.ret (.bl true, [.ro encLook [PUnit.unit], .own [.c (.sli 2 (.c 0) 1 (.v n) (some (.v n))), .c (.int .i64 c)] 67, .own [.a (encInt IntKind.u32) n l] 45, .own [.c (.int .i64 x.1), .c (.int .i64 x.2)] 86]))

 (.need (inR .i64 (x.2 - (1 : Int)))

 (.eq ([Blk.ro encLook [PUnit.unit], .own [.c (.sli 2 (.c 0) 1 (.v n) (some (.v n))), .c (.int .i64 c)] 67, .own [.a (encInt IntKind.u32) n l] 45] = [Blk.ro encLook [PUnit.unit], .own [.c (.sli 2 (.c 0) 1 (.v n) (some (.v n))), .c (.int .i64 c)] 67, .own [.a (encInt IntKind.u32) n l] 45] ∧ l.length = n)

 (.br (inP x.1 n)

 (.br (x.2 - (1 : Int) == (0 : Int))

 (.ret (.bl true, [.ro encLook [PUnit.unit], .own [.c (.sli 2 (.c 0) 1 (.v n) (some (.v n))), .c (.int .i64 (upP c))] 67, .own [.a (encInt IntKind.u32) n (l.set x.1.toNat (incP (l.getD x.1.toNat (0 : Int))))] 45, .own [.c (.int .i64 x.1), .c (.int .i64 (x.2 - (1 : Int)))] 86]))

 (.ret (.bl false, [.ro encLook [PUnit.unit], .own [.c (.sli 2 (.c 0) 1 (.v n) (some (.v n))), .c (.int .i64 (upP c))] 67, .own [.a (encInt IntKind.u32) n (l.set x.1.toNat (incP (l.getD x.1.toNat (0 : Int))))] 45, .own [.c (.int .i64 x.1), .c (.int .i64 (x.2 - (1 : Int)))] 86])))

 (.br (x.2 - (1 : Int) == (0 : Int))

 (.ret (.bl true, [.ro encLook [PUnit.unit], .own [.c (.sli 2 (.c 0) 1 (.v n) (some (.v n))), .c (.int .i64 c)] 67, .own [.a (encInt IntKind.u32) n l] 45, .own [.c (.int .i64 x.1), .c (.int .i64 (x.2 - (1 : Int)))] 86]))

 (.ret (.bl true, [.ro encLook [PUnit.unit], .own [.c (.sli 2 (.c 0) 1 (.v n) (some (.v n))), .c (.int .i64 c)] 67, .own [.a (encInt IntKind.u32) n l] 45, .own [.c (.int .i64 x.1), .c (.int .i64 (x.2 - (1 : Int)))] 86]))))))) := by kernel_rfl
set_option maxRecDepth 100000 in
theorem t_tw {n : Nat} {l : List Int} {c : Int} {xs : List Ad} {x : Tw} : callF cfgM 100 49 [.ptr 4 0, .ptr 1 0] (memS n l c ++ [.many encAd xs 86, twB x]) =
 

 (.br (decide (x.2 < (1 : Int)))

 (.ret (.bl true, [.ro encLook [PUnit.unit], .own [.c (.sli 2 (.c 0) 1 (.v n) (some (.v n))), .c (.int .i64 c)] 67, .own [.a (encInt IntKind.u32) n l] 45, .many encAd xs 86, .own [.c (.int .i64 x.1), .c (.int .i64 x.2), .c (.sb x.3), .c (.int .u32 x.4), .c (.sw x.5 (SVal.fn (Fn.func 30) [] []) (SVal.fn (Fn.func 27) [] []))] 78]))

 (.br (!x.3)

 (.eq ([Blk.ro encLook [PUnit.unit], .own [.c (.sli 2 (.c 0) 1 (.v n) (some (.v n))), .c (.int .i64 c)] 67, .own [.a (encInt IntKind.u32) n l] 45] = [Blk.ro encLook [PUnit.unit], .own [.c (.sli 2 (.c 0) 1 (.v n) (some (.v n))), .c (.int .i64 c)] 67, .own [.a (encInt IntKind.u32) n l] 45] ∧ l.length = n)

 (.br (inP x.1 n)

 (.ret (.bl false, [.ro encLook [PUnit.unit], .own [.c (.sli 2 (.c 0) 1 (.v n) (some (.v n))), .c (.int .i64 (upP c))] 67, .own [.a (encInt IntKind.u32) n l] 45, .many encAd xs 86, .own [.c (.int .i64 x.1), .c (.int .i64 x.2), .c (.bl true), .c (.int .u32 (l.getD x.1.toNat (0 : Int))), .c (.sw x.5 (SVal.fn (Fn.func 30) [] []) (SVal.fn (Fn.func 27) [] []))] 78]))

 (.ret (.bl true, [.ro encLook [PUnit.unit], .own [.c (.sli 2 (.c 0) 1 (.v n) (some (.v n))), .c (.int .i64 c)] 67, .own [.a (encInt IntKind.u32) n l] 45, .many encAd xs 86, .own [.c (.int .i64 x.1), .c (.int .i64 x.2), .c (.bl true), .c (.lit .u32 (0 : Int)), .c (.sw x.5 (SVal.fn (Fn.func 30) [] []) (SVal.fn (Fn.func 27) [] []))] 78]))))

 (.br (x.5)

 (.eq ([Blk.ro encLook [PUnit.unit], .own [.c (.sli 2 (.c 0) 1 (.v n) (some (.v n))), .c (.int .i64 c)] 67, .own [.a (encInt IntKind.u32) n l] 45] = [Blk.ro encLook [PUnit.unit], .own [.c (.sli 2 (.c 0) 1 (.v n) (some (.v n))), .c (.int .i64 c)] 67, .own [.a (encInt IntKind.u32) n l] 45] ∧ l.length = n)

 (.br (inP x.1 n)

 (.br (l.getD x.1.toNat (0 : Int) == x.4)
 (.eq (T.br x.5 (T.ret (SVal.fn (Fn.func (30 : Nat)) [] [])) (T.ret (SVal.fn (Fn.func (27 : Nat)) [] [])) = T.br x.5 (T.ret (SVal.fn (Fn.func (30 : Nat)) [] [])) (T.ret (SVal.fn (Fn.func (27 : Nat)) [] [])))
 (.eq (T.ret (SVal.int IntKind.i64 x.1) = T.ret (SVal.int IntKind.i64 x.1))
 (.eq (T.ret (SVal.int IntKind.u32 x.4) = T.ret (SVal.int IntKind.u32 x.4))

 (.need (inR .i64 (x.2 - (1 : Int)))

 (.ret (.sb (x.2 - (1 : Int) == (0 : Int)), [.ro encLook [PUnit.unit], .own [.c (.sli 2 (.c 0) 1 (.v n) (some (.v n))), .c (.int .i64 (upP c))] 67, .own [.a (encInt IntKind.u32) n (l.set x.1.toNat (setP (l.getD x.1.toNat (0 : Int)) (IntKind.u32.wrap (x.4 + (1 : Int)))))] 45, .many encAd xs 86, .own [.c (.int .i64 x.1), .c (.int .i64 (x.2 - (1 : Int))), .c (.bl false), .c (.int .u32 x.4), .c (.sw x.5 (SVal.fn (Fn.func 30) [] []) (SVal.fn (Fn.func 27) [] []))] 78]))))))
 (.eq (T.br x.5 (T.ret (SVal.fn (Fn.func (30 : Nat)) [] [])) (T.ret (SVal.fn (Fn.func (27 : Nat)) [] [])) = T.br x.5 (T.ret (SVal.fn (Fn.func (30 : Nat)) [] [])) (T.ret (SVal.fn (Fn.func (27 : Nat)) [] [])))
 (.eq (T.ret (SVal.int IntKind.i64 x.1) = T.ret (SVal.int IntKind.i64 x.1))
 (.eq (T.ret (SVal.int IntKind.u32 x.4) = T.ret (SVal.int IntKind.u32 x.4))

 (.ret (.sb (x.2 == (0 : Int)), [.ro encLook [PUnit.unit], .own [.c (.sli 2 (.c 0) 1 (.v n) (some (.v n))), .c (.int .i64 (upP c))] 67, .own [.a (encInt IntKind.u32) n l] 45, .many encAd xs 86, .own [.c (.int .i64 x.1), .c (.int .i64 x.2), .c (.bl false), .c (.int .u32 x.4), .c (.sw x.5 (SVal.fn (Fn.func 30) [] []) (SVal.fn (Fn.func 27) [] []))] 78]))))))
 (.eq (T.br x.5 (T.ret (SVal.fn (Fn.func (30 : Nat)) [] [])) (T.ret (SVal.fn (Fn.func (27 : Nat)) [] [])) = T.br x.5 (T.ret (SVal.fn (Fn.func (30 : Nat)) [] [])) (T.ret (SVal.fn (Fn.func (27 : Nat)) [] [])))
 (.eq (T.ret (SVal.int IntKind.i64 x.1) = T.ret (SVal.int IntKind.i64 x.1))
 (.eq (T.ret (SVal.int IntKind.u32 x.4) = T.ret (SVal.int IntKind.u32 x.4))

 (.ret (.sb (x.2 == (0 : Int)), [.ro encLook [PUnit.unit], .own [.c (.sli 2 (.c 0) 1 (.v n) (some (.v n))), .c (.int .i64 c)] 67, .own [.a (encInt IntKind.u32) n l] 45, .many encAd xs 86, .own [.c (.int .i64 x.1), .c (.int .i64 x.2), .c (.bl false), .c (.int .u32 x.4), .c (.sw x.5 (SVal.fn (Fn.func 30) [] []) (SVal.fn (Fn.func 27) [] []))] 78])))))))

 (.eq ([Blk.ro encLook [PUnit.unit], .own [.c (.sli 2 (.c 0) 1 (.v n) (some (.v n))), .c (.int .i64 c)] 67, .own [.a (encInt IntKind.u32) n l] 45] = [Blk.ro encLook [PUnit.unit], .own [.c (.sli 2 (.c 0) 1 (.v n) (some (.v n))), .c (.int .i64 c)] 67, .own [.a (encInt IntKind.u32) n l] 45] ∧ l.length = n)

 (.br (inP x.1 n)
 (.eq (T.br x.5 (T.ret (SVal.fn (Fn.func (30 : Nat)) [] [])) (T.ret (SVal.fn (Fn.func (27 : Nat)) [] [])) = T.br x.5 (T.ret (SVal.fn (Fn.func (30 : Nat)) [] [])) (T.ret (SVal.fn (Fn.func (27 : Nat)) [] [])))
 (.eq (T.ret (SVal.int IntKind.i64 x.1) = T.ret (SVal.int IntKind.i64 x.1))
 (.eq (T.ret (SVal.int IntKind.u32 x.4) = T.ret (SVal.int IntKind.u32 x.4))

 (.need (inR .i64 (x.2 - (1 : Int)))

 (.ret (.sb (x.2 - (1 : Int) == (0 : Int)), [.ro encLook [PUnit.unit], .own [.c (.sli 2 (.c 0) 1 (.v n) (some (.v n))), .c (.int .i64 (upP c))] 67, .own [.a (encInt IntKind.u32) n (l.set x.1.toNat (setP (l.getD x.1.toNat (0 : Int)) (IntKind.u32.wrap (x.4 + (1 : Int)))))] 45, .many encAd xs 86, .own [.c (.int .i64 x.1), .c (.int .i64 (x.2 - (1 : Int))), .c (.bl false), .c (.int .u32 x.4), .c (.sw x.5 (SVal.fn (Fn.func 30) [] []) (SVal.fn (Fn.func 27) [] []))] 78]))))))
 (.eq (T.br x.5 (T.ret (SVal.fn (Fn.func (30 : Nat)) [] [])) (T.ret (SVal.fn (Fn.func (27 : Nat)) [] [])) = T.br x.5 (T.ret (SVal.fn (Fn.func (30 : Nat)) [] [])) (T.ret (SVal.fn (Fn.func (27 : Nat)) [] [])))
 (.eq (T.ret (SVal.int IntKind.i64 x.1) = T.ret (SVal.int IntKind.i64 x.1))
 (.eq (T.ret (SVal.int IntKind.u32 x.4) = T.ret (SVal.int IntKind.u32 x.4))

 (.ret (.sb (x.2 == (0 : Int)), [.ro encLook [PUnit.unit], .own [.c (.sli 2 (.c 0) 1 (.v n) (some (.v n))), .c (.int .i64 c)] 67, .own [.a (encInt IntKind.u32) n l] 45, .many encAd xs 86, .own [.c (.int .i64 x.1), .c (.int .i64 x.2), .c (.bl false), .c (.int .u32 x.4), .c (.sw x.5 (SVal.fn (Fn.func 30) [] []) (SVal.fn (Fn.func 27) [] []))] 78])))))))))) := by kernel_rfl
end Go.Proofs.YtlnigpeoffaemaaDoor

/- Layer 8: a task's step. -/
namespace Go.Proofs.YtlnigpeoffaemaaDoor
open Go Go.Proofs.YtlnigpeoffaemaaDoor.Sx
set_option linter.unusedVariables false
abbrev adS (n : Nat) (l : List Int) (c : Int) (x : Ad) : St := memS n l c ++ [adB x]
abbrev twS (n : Nat) (l : List Int) (c : Int) (xs : List Ad) (x : Tw) : St := memS n l c ++ [.many encAd xs 86, twB x]
theorem adS_ren {n : Nat} {l : List Int} {c : Int} {x : Ad} : renSt (List.range 4) (adS n l c x) (List.range 4) = some (adS n l c x) := by kernel_rfl
theorem twS_ren {n : Nat} {l : List Int} {c : Int} {xs : List Ad} {x : Tw} : renSt (List.range 5) (twS n l c xs x) (List.range 5) = some (twS n l c xs x) := by kernel_rfl
set_option maxHeartbeats 1000000 in
theorem ad_call {x : Ad} (ht : x.times ≤ 1000) {n : Nat} {l : List Int} (hl : l.length = n) {c : Int} :
    ∀ (env : Env) (w : World) (vs : List Value), GlOk cfgM.gl env → Rep env (adS n l c x) w → DenL env [.ptr 3 0, .ptr 1 0] vs → Calls cfgM.P 50 ⟨vs⟩ w (Ends1 env (adS n l c x) w (.sb (stepAd x l).2.2) (adS n (stepAd x l).2.1 (usesAd x l c) (stepAd x l).1)) := by
  obtain ⟨at', times⟩ := x
  subst hl
  simp only at ht
  have hs : ∀ b, ren (List.range 4) (.sb b) = .sb b := fun _ => rfl
  refine ends_allg cfgM_ok t_ad (by kernel_rfl) rfl adS_ren (hs _) ?_
  generalize hr : stepAd _ l = r
  generalize hc : usesAd _ l c = cc
  by_cases h : times < 1
  · simp only [stepAd, h, decide_true] at hr
    simp only [usesAd, h, decide_true] at hc
    subst hr hc
    refine all_brp (by simp only [decide_eq_true_eq]; first | done | exact Iff.rfl) (fun _ => all_ret ⟨[], rfl, rfl⟩) (fun hh => absurd h hh)
  · refine all_brp (by simp only [decide_eq_true_eq]; first | done | exact Iff.rfl) (fun hh => absurd hh h) (fun _ => ?_)
    refine all_needq (by simp only [inR_i64]; first | done | exact Iff.rfl) (by omega) ?_
    refine all_eq (by first | exact ⟨rfl, rfl⟩ | exact ⟨trivial, trivial⟩ | trivial) ?_
    refine all_br (fun hb => ?_) (fun hb => ?_)
    · simp only [stepAd, h, decide_false, hb] at hr
      simp only [usesAd, h, decide_false, hb] at hc
      subst hr hc
      refine all_br (fun hq => ?_) (fun hq => ?_)
      · simp only [hq]; exact all_ret ⟨[], rfl, rfl⟩
      · simp only [hq]; exact all_ret ⟨[], rfl, rfl⟩
    · simp only [stepAd, h, decide_false, hb] at hr
      simp only [usesAd, h, decide_false, hb] at hc
      subst hr hc
      refine all_br (fun hq => ?_) (fun hq => ?_)
      · exact all_ret ⟨[], rfl, rfl⟩
      · exact all_ret ⟨[], rfl, rfl⟩
set_option maxHeartbeats 1000000 in
theorem tw_call {x : Tw} (ht : x.times ≤ 1000) {n : Nat} {l : List Int} (hl : l.length = n) {c : Int} {xs : List Ad} :
    ∀ (env : Env) (w : World) (vs : List Value), GlOk cfgM.gl env → Rep env (twS n l c xs x) w → DenL env [.ptr 4 0, .ptr 1 0] vs → Calls cfgM.P 49 ⟨vs⟩ w (Ends1 env (twS n l c xs x) w (.sb (stepTw x l).2.2) (twS n (stepTw x l).2.1 (usesTw x l c) xs (stepTw x l).1)) := by
  obtain ⟨at', times, has, v, swap⟩ := x
  subst hl
  simp only at ht
  have hs : ∀ b, ren (List.range 5) (.sb b) = .sb b := fun _ => rfl
  refine ends_allg cfgM_ok t_tw (by kernel_rfl) rfl twS_ren (hs _) ?_
  generalize hr : stepTw _ l = r
  generalize hc : usesTw _ l c = cc
  by_cases h : times < 1
  · simp only [stepTw, h, decide_true] at hr
    simp only [usesTw, h, decide_true] at hc
    subst hr hc
    refine all_brp (by simp only [decide_eq_true_eq]; first | done | exact Iff.rfl) (fun _ => all_ret ⟨[], rfl, rfl⟩) (fun hh => absurd h hh)
  · refine all_brp (by simp only [decide_eq_true_eq]; first | done | exact Iff.rfl) (fun hh => absurd hh h) (fun _ => ?_)
    cases has with
    | false =>
      refine all_br (fun _ => ?_) (fun hh => by simp at hh)
      refine all_eq (by first | exact ⟨rfl, rfl⟩ | exact ⟨trivial, trivial⟩ | trivial) ?_
      refine all_br (fun hb => ?_) (fun hb => ?_)
      · simp only [stepTw, h, decide_false, hb] at hr
        simp only [usesTw, h, decide_false, hb] at hc
        subst hr hc
        exact all_ret ⟨[], rfl, rfl⟩
      · simp only [stepTw, h, decide_false, hb] at hr
        simp only [usesTw, h, decide_false, hb] at hc
        subst hr hc
        exact all_ret ⟨[], rfl, rfl⟩
    | true =>
      refine all_br (fun hh => by simp at hh) (fun _ => ?_)
      cases swap with
      | true =>
        refine all_br (fun _ => ?_) (fun hh => by simp at hh)
        refine all_eq (by first | exact ⟨rfl, rfl⟩ | exact ⟨trivial, trivial⟩ | trivial) ?_
        refine all_br (fun hb => ?_) (fun hb => ?_)
        · refine all_br (fun hq => ?_) (fun hq => ?_)
          · simp only [stepTw, h, decide_false, hb, hq, Bool.not_true, Bool.false_or] at hr
            simp only [usesTw, h, decide_false, hb] at hc
            subst hr hc
            refine all_eq rfl (all_eq rfl (all_eq rfl (all_needq (by simp only [inR_i64]; first | done | exact Iff.rfl) (by omega) ?_)))
            exact all_ret ⟨[], rfl, rfl⟩
          · simp only [stepTw, h, decide_false, hb, hq, Bool.not_true, Bool.false_or] at hr
            simp only [usesTw, h, decide_false, hb] at hc
            subst hr hc
            exact all_eq rfl (all_eq rfl (all_eq rfl (all_ret ⟨[], rfl, rfl⟩)))
        · simp only [stepTw, h, decide_false, hb] at hr
          simp only [usesTw, h, decide_false, hb] at hc
          subst hr hc
          exact all_eq rfl (all_eq rfl (all_eq rfl (all_ret ⟨[], rfl, rfl⟩)))
      | false =>
        refine all_br (fun hh => by simp at hh) (fun _ => ?_)
        refine all_eq (by first | exact ⟨rfl, rfl⟩ | exact ⟨trivial, trivial⟩ | trivial) ?_
        refine all_br (fun hb => ?_) (fun hb => ?_)
        · simp only [stepTw, h, decide_false, hb, Bool.not_false, Bool.true_or] at hr
          simp only [usesTw, h, decide_false, hb] at hc
          subst hr hc
          refine all_eq rfl (all_eq rfl (all_eq rfl (all_needq (by simp only [inR_i64]; first | done | exact Iff.rfl) (by omega) ?_)))
          exact all_ret ⟨[], rfl, rfl⟩
        · simp only [stepTw, h, decide_false, hb] at hr
          simp only [usesTw, h, decide_false, hb] at hc
          subst hr hc
          exact all_eq rfl (all_eq rfl (all_eq rfl (all_ret ⟨[], rfl, rfl⟩)))
abbrev famS (n : Nat) (l : List Int) (c : Int) (xs : List Ad) (ys : List Tw) : St := memS n l c ++ [.many encAd xs 86, .many encTw ys 78]
theorem famS_ren {n : Nat} {l : List Int} {c : Int} {xs : List Ad} {ys : List Tw} : renSt (List.range 5) (famS n l c xs ys) (List.range 5) = some (famS n l c xs ys) := by kernel_rfl
theorem famS_ro {n n' : Nat} {l l' : List Int} {c c' : Int} {xs xs' : List Ad} {ys ys' : List Tw} : roSame (famS n l c xs ys) (famS n' l' c' xs' ys') :=
  roSame_cons (.inr rfl) (roSame_cons (.inl rfl) (roSame_cons (.inl rfl) (roSame_cons (.inl rfl) (roSame_cons (.inl rfl) roSame_nil))))
theorem mem1_ren {n : Nat} {l : List Int} {c : Int} {xs : List Ad} : renSt (List.range 4) (memS n l c ++ [.many encAd xs 86]) (List.range 4) = some (memS n l c ++ [.many encAd xs 86]) := by kernel_rfl
theorem mem1_ro {n n' : Nat} {l l' : List Int} {c c' : Int} {xs xs' : List Ad} : roSame (memS n l c ++ [.many encAd xs 86]) (memS n' l' c' ++ [.many encAd xs' 86]) :=
  roSame_cons (.inr rfl) (roSame_cons (.inl rfl) (roSame_cons (.inl rfl) (roSame_cons (.inl rfl) roSame_nil)))
theorem ad_fam {n : Nat} {l : List Int} (hl : l.length = n) {c : Int} {xs : List Ad} {ys : List Tw} {i : Nat} (hi : i < xs.length) (ht : (xs.getD i encAd.dflt).times ≤ 1000) :
    ∀ (env : Env) (w : World) (vs : List Value), GlOk cfgM.gl env → Rep env (famS n l c xs ys) w → DenL env [.pto 3 i 0, .ptr 1 0] vs →
      Calls cfgM.P 50 ⟨vs⟩ w (Ends1 env (famS n l c xs ys) w (.sb (stepAd (xs.getD i encAd.dflt) l).2.2) (famS n (stepAd (xs.getD i encAd.dflt) l).2.1 (usesAd (xs.getD i encAd.dflt) l c) (xs.set i (stepAd (xs.getD i encAd.dflt) l).1) ys)) :=
  frame (c := cfgM) (S := memS n l c ++ [Blk.many encAd xs 86]) (S' := memS n (stepAd (xs.getD i encAd.dflt) l).2.1 (usesAd (xs.getD i encAd.dflt) l c) ++ [Blk.many encAd (xs.set i (stepAd (xs.getD i encAd.dflt) l).1) 86])
    (focus (S := memS n l c) (S' := memS n (stepAd (xs.getD i encAd.dflt) l).2.1 (usesAd (xs.getD i encAd.dflt) l c)) (E := encAd) (A := [.ptr 1 0]) hi (ad_call ht hl) rfl rfl rfl (gl_lt (by simp)) memS_ren memS_ren (fun _ => rfl) memS_ro)
    [Blk.many encTw ys 78] rfl rfl (gl_lt (by simp)) mem1_ren mem1_ro
theorem tw_fam {n : Nat} {l : List Int} (hl : l.length = n) {c : Int} {xs : List Ad} {ys : List Tw} {i : Nat} (hi : i < ys.length) (ht : (ys.getD i encTw.dflt).times ≤ 1000) :
    ∀ (env : Env) (w : World) (vs : List Value), GlOk cfgM.gl env → Rep env (famS n l c xs ys) w → DenL env [.pto 4 i 0, .ptr 1 0] vs →
      Calls cfgM.P 49 ⟨vs⟩ w (Ends1 env (famS n l c xs ys) w (.sb (stepTw (ys.getD i encTw.dflt) l).2.2) (famS n (stepTw (ys.getD i encTw.dflt) l).2.1 (usesTw (ys.getD i encTw.dflt) l c) xs (ys.set i (stepTw (ys.getD i encTw.dflt) l).1))) :=
  focus (S := memS n l c ++ [Blk.many encAd xs 86]) (S' := memS n (stepTw (ys.getD i encTw.dflt) l).2.1 (usesTw (ys.getD i encTw.dflt) l c) ++ [Blk.many encAd xs 86]) (E := encTw) (A := [.ptr 1 0]) hi (tw_call ht hl) rfl rfl rfl (gl_lt (by simp)) mem1_ren mem1_ren (fun _ => rfl) mem1_ro
/-- a machine's pick asks for it -/
noncomputable def gAd (n : Nat) (l : List Int) (c : Int) (xs : List Ad) (ys : List Tw) (args : List SVal) (st : St) : T (SVal × St) := match args with
  | [.pto 3 i 0, .ptr 1 0] => .eq (st = famS n l c xs ys ∧ l.length = n ∧ i < xs.length ∧ (xs.getD i encAd.dflt).times ≤ 1000)
      (.ret (.sb (stepAd (xs.getD i encAd.dflt) l).2.2, famS n (stepAd (xs.getD i encAd.dflt) l).2.1 (usesAd (xs.getD i encAd.dflt) l c) (xs.set i (stepAd (xs.getD i encAd.dflt) l).1) ys))
  | _ => .no 172
noncomputable def gTw (n : Nat) (l : List Int) (c : Int) (xs : List Ad) (ys : List Tw) (args : List SVal) (st : St) : T (SVal × St) := match args with
  | [.pto 4 i 0, .ptr 1 0] => .eq (st = famS n l c xs ys ∧ l.length = n ∧ i < ys.length ∧ (ys.getD i encTw.dflt).times ≤ 1000)
      (.ret (.sb (stepTw (ys.getD i encTw.dflt) l).2.2, famS n (stepTw (ys.getD i encTw.dflt) l).2.1 (usesTw (ys.getD i encTw.dflt) l c) xs (ys.set i (stepTw (ys.getD i encTw.dflt) l).1)))
  | _ => .no 172
theorem gAd_ok {n : Nat} {l : List Int} {c : Int} {xs : List Ad} {ys : List Tw} (args : List SVal) (S : St) (s : SVal) (S' : St) (h : (gAd n l c xs ys args S).at (s, S')) : PreOk cfgM 5 50 args S s S' := by
  unfold gAd at h
  split at h
  · rename_i i
    obtain ⟨⟨e0, hl, hi, ht⟩, h⟩ := h
    simp only [T.at, Prod.mk.injEq] at h
    obtain ⟨rfl, rfl⟩ := h
    rw [e0]
    exact ⟨ad_fam hl hi ht, rfl, rfl, famS_ro, famS_ren, rfl⟩
  · exact h.elim
theorem gTw_ok {n : Nat} {l : List Int} {c : Int} {xs : List Ad} {ys : List Tw} (args : List SVal) (S : St) (s : SVal) (S' : St) (h : (gTw n l c xs ys args S).at (s, S')) : PreOk cfgM 5 49 args S s S' := by
  unfold gTw at h
  split at h
  · rename_i i
    obtain ⟨⟨e0, hl, hi, ht⟩, h⟩ := h
    simp only [T.at, Prod.mk.injEq] at h
    obtain ⟨rfl, rfl⟩ := h
    rw [e0]
    exact ⟨tw_fam hl hi ht, rfl, rfl, famS_ro, famS_ren, rfl⟩
  · exact h.elim
end Go.Proofs.YtlnigpeoffaemaaDoor

/- Layer 8: a machine's state. -/
namespace Go.Proofs.YtlnigpeoffaemaaDoor
open Go Go.Proofs.YtlnigpeoffaemaaDoor.Sx
set_option linter.unusedVariables false
noncomputable def cfgP (n : Nat) (l : List Int) (c : Int) (xs : List Ad) (ys : List Tw) : Cfg := { P := Tryd.prog, ex := exI, gl := [(0, 0)], sm := fun f => match f with | 50 => some (smPre 5 (gAd n l c xs ys)) | 49 => some (smPre 5 (gTw n l c xs ys)) | _ => none }
theorem cfgP_ok {n : Nat} {l : List Int} {c : Int} {xs : List Ad} {ys : List Tw} : SmOk (cfgP n l c xs ys) := by
  intro f g h
  simp only [cfgP] at h
  split at h
  · simp only [Option.some.injEq] at h; subst h
    exact smPre_ok (c := cfgM) (gl_lt (by omega)) gAd_ok
  · simp only [Option.some.injEq] at h; subst h
    exact smPre_ok (c := cfgM) (gl_lt (by omega)) gTw_ok
  · cases h
/-- a task, by its kind and place -/
def encTs (a b : Nat) : Enc (Bool × Nat) where
  tag := .other
  shut := false
  shutOk := by simp
  sz := 1
  enc x := [.sw x.1 (.ifc 84 (.pto a x.2 0)) (.ifc 74 (.pto b x.2 0))]
  dec l := match l with
    | [.ifc t (.pto i x j)] => match Nat.decEq t 84, Nat.decEq i a, Nat.decEq j 0 with
      | .isTrue _, .isTrue _, .isTrue _ => some (true, x)
      | _, _, _ => match Nat.decEq t 74, Nat.decEq i b, Nat.decEq j 0 with
        | .isTrue _, .isTrue _, .isTrue _ => some (false, x)
        | _, _, _ => none
    | _ => none
  dflt := (false, 0)
  top := some (max a b + 1)
  topOk := by
    intro k hk m hm x
    simp only [Option.some.injEq] at hk; subst hk
    simp [renL, ren, idx_pref hm (show a < max a b + 1 by omega), idx_pref hm (show b < max a b + 1 by omega)]
  pos := by omega
  len _ := rfl
  ok := by
    intro env l x vs h hd
    split at h
    · split at h
      · rename_i h1 h2 h3 _ _ _
        subst h1 h2 h3
        simp only [Option.some.injEq] at h; subst h
        obtain ⟨u, us, rfl, h4, h5⟩ := hd
        exact ⟨u, us, rfl, .inl ⟨rfl, h4⟩, h5⟩
      · split at h
        · rename_i h1 h2 h3 _ _ _
          subst h1 h2 h3
          simp only [Option.some.injEq] at h; subst h
          obtain ⟨u, us, rfl, h4, h5⟩ := hd
          exact ⟨u, us, rfl, .inr ⟨rfl, h4⟩, h5⟩
        · cases h
    · cases h
abbrev machB (m : Nat) : Blk := .own [.c (.ptr 1 0), .c (.sli 6 (.c 0) 1 (.v m) none), .c (.sli 7 (.c 0) 1 (.v m) (some (.v m)))] 70
abbrev pickS (n : Nat) (l : List Int) (c : Int) (xs : List Ad) (ys : List Tw) (m : Nat) (ts : List (Bool × Nat)) (ds : List Bool) : St :=
  famS n l c xs ys ++ [machB m, .vec (encTs 3 4) ts 44, .own [.a encBool m ds] 4]
end Go.Proofs.YtlnigpeoffaemaaDoor

namespace Go.Proofs.YtlnigpeoffaemaaDoor
open Go Go.Proofs.YtlnigpeoffaemaaDoor.Sx
set_option linter.unusedVariables false
set_option maxRecDepth 100000 in
theorem t_pick {n : Nat} {l : List Int} {c : Int} {xs : List Ad} {ys : List Tw} {m : Nat} {ts : List (Bool × Nat)} {ds : List Bool} {i : Int} : callF (cfgP n l c xs ys) 100 12 [.ptr 5 0, .int .i64 i] (pickS n l c xs ys m ts ds) =
 

 (.br (decide (i < (0 : Int)))

 (.ret (.lit .i64 (90 : Int), [.ro encLook [PUnit.unit], .own [.c (.sli 2 (.c 0) 1 (.v n) (some (.v n))), .c (.int .i64 c)] 67, .own [.a (encInt IntKind.u32) n l] 45, .many encAd xs 86, .many encTw ys 78, .own [.c (.ptr 1 0), .c (.sli 6 (.c 0) 1 (.v m) none), .c (.sli 7 (.c 0) 1 (.v m) (some (.v m)))] 70, .vec (encTs 3 4) ts 44, .own [.a encBool m ds] 4]))

 (.br (decide ((↑m : Int) ≤ i))

 (.ret (.lit .i64 (90 : Int), [.ro encLook [PUnit.unit], .own [.c (.sli 2 (.c 0) 1 (.v n) (some (.v n))), .c (.int .i64 c)] 67, .own [.a (encInt IntKind.u32) n l] 45, .many encAd xs 86, .many encTw ys 78, .own [.c (.ptr 1 0), .c (.sli 6 (.c 0) 1 (.v m) none), .c (.sli 7 (.c 0) 1 (.v m) (some (.v m)))] 70, .vec (encTs 3 4) ts 44, .own [.a encBool m ds] 4]))

 (.need (decide ((0 : Int) ≤ i) && decide (i.toNat < m))

 (.need (decide (i.toNat < m))

 (.br (ds.getD i.toNat false)

 (.ret (.lit .i64 (91 : Int), [.ro encLook [PUnit.unit], .own [.c (.sli 2 (.c 0) 1 (.v n) (some (.v n))), .c (.int .i64 c)] 67, .own [.a (encInt IntKind.u32) n l] 45, .many encAd xs 86, .many encTw ys 78, .own [.c (.ptr 1 0), .c (.sli 6 (.c 0) 1 (.v m) none), .c (.sli 7 (.c 0) 1 (.v m) (some (.v m)))] 70, .vec (encTs 3 4) ts 44, .own [.a encBool m ds] 4]))

 (.need (decide ((0 : Int) ≤ i) && decide (i.toNat < m))

 (.need (decide (i.toNat < ts.length))

 (.br ((ts.getD i.toNat (false, 0)).fst)

 (.eq ([Blk.ro encLook [PUnit.unit], .own [.c (.sli 2 (.c 0) 1 (.v n) (some (.v n))), .c (.int .i64 c)] 67, .own [.a (encInt IntKind.u32) n l] 45, .many encAd xs 86, .many encTw ys 78] = [Blk.ro encLook [PUnit.unit], .own [.c (.sli 2 (.c 0) 1 (.v n) (some (.v n))), .c (.int .i64 c)] 67, .own [.a (encInt IntKind.u32) n l] 45, .many encAd xs 86, .many encTw ys 78] ∧ l.length = n ∧ (ts.getD i.toNat (false, 0)).snd < xs.length ∧ (xs.getD (ts.getD i.toNat (false, 0)).snd { at' := (0 : Int), times := (0 : Int) }).times ≤ (1000 : Int))

 (.need (decide ((0 : Int) ≤ i) && decide (i.toNat < m))

 (.need (decide (i.toNat < m))
 (.eq (T.ret (SVal.sli (7 : Nat) (NN.c (0 : Nat)) (1 : Nat) (NN.v m) (some (NN.v m))) = T.ret (SVal.sli (7 : Nat) (NN.c (0 : Nat)) (1 : Nat) (NN.v m) (some (NN.v m))))
 (.eq (T.ret (SVal.sli (7 : Nat) (NN.c (0 : Nat)) (1 : Nat) (NN.v m) (some (NN.v m))) = T.ret (SVal.sli (7 : Nat) (NN.c (0 : Nat)) (1 : Nat) (NN.v m) (some (NN.v m))))
 (.eq (T.ret (SVal.sli (6 : Nat) (NN.c (0 : Nat)) (1 : Nat) (NN.v m) none) = T.ret (SVal.sli (6 : Nat) (NN.c (0 : Nat)) (1 : Nat) (NN.v m) none))
 (.eq (T.need (decide (i.toNat < ts.length)) (T.br (ts.getD i.toNat (false, (0 : Nat))).fst (T.ret (SVal.ifc (84 : Nat) (SVal.pto (3 : Nat) (ts.getD i.toNat (false, (0 : Nat))).snd (0 : Nat)))) (T.ret (SVal.ifc (74 : Nat) (SVal.pto (4 : Nat) (ts.getD i.toNat (false, (0 : Nat))).snd (0 : Nat))))) = T.need (decide (i.toNat < ts.length)) (T.br (ts.getD i.toNat (false, (0 : Nat))).fst (T.ret (SVal.ifc (84 : Nat) (SVal.pto (3 : Nat) (ts.getD i.toNat (false, (0 : Nat))).snd (0 : Nat)))) (T.ret (SVal.ifc (74 : Nat) (SVal.pto (4 : Nat) (ts.getD i.toNat (false, (0 : Nat))).snd (0 : Nat))))))

 (.ret (.lit .i64 (0 : Int), [.ro encLook [PUnit.unit], .own [.c (.sli 2 (.c 0) 1 (.v n) (some (.v n))), .c (.int .i64 (Bool.rec (Bool.rec c (upP c) (inP (xs.getD (ts.getD i.toNat (false, 0)).snd { at' := (0 : Int), times := (0 : Int) }).at' l.length)) c (decide ((xs.getD (ts.getD i.toNat (false, 0)).snd { at' := (0 : Int), times := (0 : Int) }).times < (1 : Int)))))] 67, .own [.a (encInt IntKind.u32) n (stepAd (xs.getD (ts.getD i.toNat (false, 0)).snd encAd.dflt) l).snd.1] 45, .many encAd (xs.set (ts.getD i.toNat (false, 0)).snd (stepAd (xs.getD (ts.getD i.toNat (false, 0)).snd encAd.dflt) l).1) 86, .many encTw ys 78, .own [.c (.ptr 1 0), .c (.sli 6 (.c 0) 1 (.v m) none), .c (.sli 7 (.c 0) 1 (.v m) (some (.v m)))] 70, .vec (encTs 3 4) ts 44, .own [.a encBool m (ds.set i.toNat (stepAd (xs.getD (ts.getD i.toNat (false, 0)).snd encAd.dflt) l).snd.2)] 4])))))))))

 (.eq ([Blk.ro encLook [PUnit.unit], .own [.c (.sli 2 (.c 0) 1 (.v n) (some (.v n))), .c (.int .i64 c)] 67, .own [.a (encInt IntKind.u32) n l] 45, .many encAd xs 86, .many encTw ys 78] = [Blk.ro encLook [PUnit.unit], .own [.c (.sli 2 (.c 0) 1 (.v n) (some (.v n))), .c (.int .i64 c)] 67, .own [.a (encInt IntKind.u32) n l] 45, .many encAd xs 86, .many encTw ys 78] ∧ l.length = n ∧ (ts.getD i.toNat (false, 0)).snd < ys.length ∧ (ys.getD (ts.getD i.toNat (false, 0)).snd { at' := (0 : Int), times := (0 : Int), has := false, v := (0 : Int), swap := false }).times ≤ (1000 : Int))

 (.need (decide ((0 : Int) ≤ i) && decide (i.toNat < m))

 (.need (decide (i.toNat < m))
 (.eq (T.ret (SVal.sli (7 : Nat) (NN.c (0 : Nat)) (1 : Nat) (NN.v m) (some (NN.v m))) = T.ret (SVal.sli (7 : Nat) (NN.c (0 : Nat)) (1 : Nat) (NN.v m) (some (NN.v m))))
 (.eq (T.ret (SVal.sli (7 : Nat) (NN.c (0 : Nat)) (1 : Nat) (NN.v m) (some (NN.v m))) = T.ret (SVal.sli (7 : Nat) (NN.c (0 : Nat)) (1 : Nat) (NN.v m) (some (NN.v m))))
 (.eq (T.ret (SVal.sli (6 : Nat) (NN.c (0 : Nat)) (1 : Nat) (NN.v m) none) = T.ret (SVal.sli (6 : Nat) (NN.c (0 : Nat)) (1 : Nat) (NN.v m) none))
 (.eq (T.need (decide (i.toNat < ts.length)) (T.br (ts.getD i.toNat (false, (0 : Nat))).fst (T.ret (SVal.ifc (84 : Nat) (SVal.pto (3 : Nat) (ts.getD i.toNat (false, (0 : Nat))).snd (0 : Nat)))) (T.ret (SVal.ifc (74 : Nat) (SVal.pto (4 : Nat) (ts.getD i.toNat (false, (0 : Nat))).snd (0 : Nat))))) = T.need (decide (i.toNat < ts.length)) (T.br (ts.getD i.toNat (false, (0 : Nat))).fst (T.ret (SVal.ifc (84 : Nat) (SVal.pto (3 : Nat) (ts.getD i.toNat (false, (0 : Nat))).snd (0 : Nat)))) (T.ret (SVal.ifc (74 : Nat) (SVal.pto (4 : Nat) (ts.getD i.toNat (false, (0 : Nat))).snd (0 : Nat))))))

 (.ret (.lit .i64 (0 : Int), [.ro encLook [PUnit.unit], .own [.c (.sli 2 (.c 0) 1 (.v n) (some (.v n))), .c (.int .i64 (Bool.rec (Bool.rec c (upP c) (inP (ys.getD (ts.getD i.toNat (false, 0)).snd { at' := (0 : Int), times := (0 : Int), has := false, v := (0 : Int), swap := false }).at' l.length)) c (decide ((ys.getD (ts.getD i.toNat (false, 0)).snd { at' := (0 : Int), times := (0 : Int), has := false, v := (0 : Int), swap := false }).times < (1 : Int)))))] 67, .own [.a (encInt IntKind.u32) n (stepTw (ys.getD (ts.getD i.toNat (false, 0)).snd encTw.dflt) l).snd.1] 45, .many encAd xs 86, .many encTw (ys.set (ts.getD i.toNat (false, 0)).snd (stepTw (ys.getD (ts.getD i.toNat (false, 0)).snd encTw.dflt) l).1) 78, .own [.c (.ptr 1 0), .c (.sli 6 (.c 0) 1 (.v m) none), .c (.sli 7 (.c 0) 1 (.v m) (some (.v m)))] 70, .vec (encTs 3 4) ts 44, .own [.a encBool m (ds.set i.toNat (stepTw (ys.getD (ts.getD i.toNat (false, 0)).snd encTw.dflt) l).snd.2)] 4]))))))))))))))))) := by kernel_rfl
end Go.Proofs.YtlnigpeoffaemaaDoor

/- Layer 8: what a pick comes to. -/
namespace Go.Proofs.YtlnigpeoffaemaaDoor
open Go Go.Proofs.YtlnigpeoffaemaaDoor.Sx
set_option linter.unusedVariables false
/-- a machine: the words, how often they were used, both kinds of tasks, who is done -/
structure Mc where
  l : List Int
  c : Int
  ad : List Ad
  tw : List Tw
  ds : List Bool
abbrev tsAt (ts : List (Bool × Nat)) (i : Nat) : Bool × Nat := ts.getD i (false, 0)
abbrev adAt (s : Mc) (j : Nat) : Ad := s.ad.getD j encAd.dflt
abbrev twAt (s : Mc) (j : Nat) : Tw := s.tw.getD j encTw.dflt
/-- a pick -/
def pickP (m : Nat) (ts : List (Bool × Nat)) (s : Mc) (i : Int) : Mc :=
  match inP i m with
  | true => match s.ds.getD i.toNat false with
    | true => s
    | false => match (tsAt ts i.toNat).1 with
      | true => ⟨(stepAd (adAt s (tsAt ts i.toNat).2) s.l).2.1, usesAd (adAt s (tsAt ts i.toNat).2) s.l s.c, s.ad.set (tsAt ts i.toNat).2 (stepAd (adAt s (tsAt ts i.toNat).2) s.l).1, s.tw, s.ds.set i.toNat (stepAd (adAt s (tsAt ts i.toNat).2) s.l).2.2⟩
      | false => ⟨(stepTw (twAt s (tsAt ts i.toNat).2) s.l).2.1, usesTw (twAt s (tsAt ts i.toNat).2) s.l s.c, s.ad, s.tw.set (tsAt ts i.toNat).2 (stepTw (twAt s (tsAt ts i.toNat).2) s.l).1, s.ds.set i.toNat (stepTw (twAt s (tsAt ts i.toNat).2) s.l).2.2⟩
  | false => s
/-- what it answers -/
def errP (m : Nat) (s : Mc) (i : Int) : Int :=
  match inP i m with
  | true => match s.ds.getD i.toNat false with
    | true => 91
    | false => 0
  | false => 90
def tkOk (s : Mc) (t : Bool × Nat) : Prop := match t.1 with
  | true => t.2 < s.ad.length ∧ (adAt s t.2).times ≤ 1000
  | false => t.2 < s.tw.length ∧ (twAt s t.2).times ≤ 1000
structure McOk (n m : Nat) (ts : List (Bool × Nat)) (s : Mc) : Prop where
  ll : s.l.length = n
  lt : ts.length = m
  ld : s.ds.length = m
  tk : ∀ i, i < m → tkOk s (tsAt ts i)
  inj : ∀ i j, i < m → j < m → tsAt ts i = tsAt ts j → i = j
abbrev mcS (n m : Nat) (ts : List (Bool × Nat)) (s : Mc) : St := pickS n s.l s.c s.ad s.tw m ts s.ds
theorem mcS_ren {n m : Nat} {ts : List (Bool × Nat)} {s : Mc} : renSt (List.range 8) (mcS n m ts s) (List.range 8) = some (mcS n m ts s) := by kernel_rfl
theorem mcS_ro {n m : Nat} {ts : List (Bool × Nat)} {s s' : Mc} : roSame (mcS n m ts s) (mcS n m ts s') :=
  roSame_cons (.inr rfl) (roSame_cons (.inl rfl) (roSame_cons (.inl rfl) (roSame_cons (.inl rfl) (roSame_cons (.inl rfl) (roSame_cons (.inl rfl) (roSame_cons (.inl rfl) (roSame_cons (.inl rfl) roSame_nil)))))))
set_option maxHeartbeats 1000000 in
theorem pick_call {n m : Nat} {ts : List (Bool × Nat)} {s : Mc} (hs : McOk n m ts s) {i : Int} :
    ∀ (env : Env) (w : World) (vs : List Value), GlOk cfgM.gl env → Rep env (mcS n m ts s) w → DenL env [.ptr 5 0, .int .i64 i] vs → Calls cfgM.P 12 ⟨vs⟩ w (Ends1 env (mcS n m ts s) w (.int .i64 (errP m s i)) (mcS n m ts (pickP m ts s i))) := by
  obtain ⟨l, c, xs, ys, ds⟩ := s
  obtain ⟨h1, h2, h3, h4, h5⟩ := hs
  simp only at h1 h2 h3
  refine ends_allg (c := cfgP n l c xs ys) cfgP_ok t_pick (by kernel_rfl) rfl mcS_ren rfl ?_
  generalize hr : pickP m ts _ i = r
  generalize he : errP m _ i = er
  cases hb : inP i m with
  | false =>
    have hb' := (not_congr (inP_iff _ _)).1 (by rw [hb]; simp)
    simp only [pickP, hb] at hr
    simp only [errP, hb] at he
    subst hr he
    repeat' (first
      | (refine all_brp (by simp only [decide_eq_true_eq]; exact Iff.rfl) (fun _ => ?_) (fun _ => ?_) <;> try (exfalso; omega))
      | exact all_ret ⟨[], rfl, rfl⟩)
  | true =>
    have hb' := (inP_iff _ _).1 hb
    have hk := h4 i.toNat (by omega)
    refine all_brp (by simp only [decide_eq_true_eq]; exact Iff.rfl) (fun _ => by exfalso; omega) (fun _ => ?_)
    refine all_brp (by simp only [decide_eq_true_eq]; exact Iff.rfl) (fun _ => by exfalso; omega) (fun _ => ?_)
    refine all_needq (by simp only [decide_eq_true_eq, Bool.and_eq_true]; exact Iff.rfl) (by omega) ?_
    refine all_needq (by simp only [decide_eq_true_eq]; exact Iff.rfl) (by omega) ?_
    refine all_br (fun hd => ?_) (fun hd => ?_)
    · simp only [pickP, hb, hd] at hr
      simp only [errP, hb, hd] at he
      subst hr he
      exact all_ret ⟨[], rfl, rfl⟩
    · refine all_needq (by simp only [decide_eq_true_eq, Bool.and_eq_true]; exact Iff.rfl) (by omega) ?_
      refine all_needq (by simp only [decide_eq_true_eq]; exact Iff.rfl) (by omega) ?_
      refine all_br (fun hf => ?_) (fun hf => ?_)
      · simp only [pickP, hb, hd, hf] at hr
        simp only [errP, hb, hd] at he
        subst hr he
        simp only [tkOk, hf] at hk
        refine all_eq ⟨rfl, h1, hk.1, hk.2⟩ ?_
        refine all_needq (by simp only [decide_eq_true_eq, Bool.and_eq_true]; exact Iff.rfl) (by omega) ?_
        refine all_needq (by simp only [decide_eq_true_eq]; exact Iff.rfl) (by omega) ?_
        exact all_eq rfl (all_eq rfl (all_eq rfl (all_eq rfl (all_ret ⟨[], rfl, by kernel_rfl⟩))))
      · simp only [pickP, hb, hd, hf] at hr
        simp only [errP, hb, hd] at he
        subst hr he
        simp only [tkOk, hf] at hk
        refine all_eq ⟨rfl, h1, hk.1, hk.2⟩ ?_
        refine all_needq (by simp only [decide_eq_true_eq, Bool.and_eq_true]; exact Iff.rfl) (by omega) ?_
        refine all_needq (by simp only [decide_eq_true_eq]; exact Iff.rfl) (by omega) ?_
        exact all_eq rfl (all_eq rfl (all_eq rfl (all_eq rfl (all_ret ⟨[], rfl, by kernel_rfl⟩))))
noncomputable def gPick (n m : Nat) (ts : List (Bool × Nat)) (s : Mc) (args : List SVal) (st : St) : T (SVal × St) := match args with
  | [.ptr 5 0, a] => match asI a with
    | some (.i64, i, _) => .eq (st = mcS n m ts s ∧ McOk n m ts s) (.ret (.int .i64 (errP m s i), mcS n m ts (pickP m ts s i)))
    | _ => .no 173
  | _ => .no 174
theorem gPick_ok {n m : Nat} {ts : List (Bool × Nat)} {s : Mc} (args : List SVal) (S : St) (v : SVal) (S' : St) (h : (gPick n m ts s args S).at (v, S')) : PreOk cfgM 8 12 args S v S' := by
  unfold gPick at h
  split at h
  · rename_i a
    split at h
    · rename_i i la h1
      obtain ⟨⟨rfl, hs⟩, h⟩ := h
      simp only [T.at, Prod.mk.injEq] at h
      obtain ⟨rfl, rfl⟩ := h
      refine ⟨fun env w vs hg hr hd => ?_, rfl, rfl, mcS_ro, mcS_ren, by simp only [renL, asI_ren h1]; rfl⟩
      obtain ⟨u, us, rfl, h4, u2, us2, rfl, h5, rfl⟩ := hd
      exact pick_call hs env w _ hg hr ⟨_, _, rfl, h4, _, _, rfl, asI_int h1 h5, rfl⟩
    · exact h.elim
  · exact h.elim
/-- with a machine's picks, and memory -/
noncomputable def cfgQ (n m : Nat) (ts : List (Bool × Nat)) (s : Mc) : Cfg := { P := Tryd.prog, ex := exI, gl := [(0, 0)], sm := fun f => match f with | 12 => some (smPre 8 (gPick n m ts s)) | 22 => some (smPre 3 gLoad) | _ => none }
theorem cfgQ_ok {n m : Nat} {ts : List (Bool × Nat)} {s : Mc} : SmOk (cfgQ n m ts s) := by
  intro f g h
  simp only [cfgQ] at h
  split at h
  · simp only [Option.some.injEq] at h; subst h
    exact smPre_ok (c := cfgM) (gl_lt (by omega)) gPick_ok
  · simp only [Option.some.injEq] at h; subst h
    exact smPre_ok (c := cfgW) (gl_lt (by omega)) load_ok
  · cases h
end Go.Proofs.YtlnigpeoffaemaaDoor

/- Layer 8: how many are left; rounds: pieces. -/
namespace Go.Proofs.YtlnigpeoffaemaaDoor
open Go Go.Proofs.YtlnigpeoffaemaaDoor.Sx
set_option linter.unusedVariables false
/-- how many aren't done -/
def leftP (ds : List Bool) : Int := ((ds.filter fun b => !b).length : Nat)
noncomputable def b25 : Code := Tryd.f19.body.getD .skip
noncomputable def c25 : Code := restC 2 b25
noncomputable def reg25 : Code := lft (lft c25)
noncomputable def blk25 : Code := rgt (lft c25)
noncomputable def lp25 : Code := lft (lft blk25)
noncomputable def end25 : Code := rgt c25
abbrev n25a : List Nat := [0, 3]
abbrev n25b : List Nat := [3, 9, 10, 11]
abbrev v25 (m : Nat) (c k : Int) : List SVal := [.int .i64 c, .sli 7 (.c 0) 1 (.v m) (some (.v m)), .int .i64 (m : Nat), .int .i64 k]
end Go.Proofs.YtlnigpeoffaemaaDoor

namespace Go.Proofs.YtlnigpeoffaemaaDoor
open Go Go.Proofs.YtlnigpeoffaemaaDoor.Sx
set_option linter.unusedVariables false
set_option maxRecDepth 100000 in
theorem t25_pre {n m : Nat} {ts : List (Bool × Nat)} {s : Mc} : (execN cfgM 100 2 b25 ([.ptr 5 0] ++ List.replicate 20 .bad) (mcS n m ts s)).bind (canonK 8 [(0,0)] 21 n25a) =
 

 (.ret (.normal, [.ptr 5 0, .lit .i64 (0 : Int)], [.ro encLook [PUnit.unit], .own [.c (.sli 2 (.c 0) 1 (.v n) (some (.v n))), .c (.int .i64 s.2)] 67, .own [.a (encInt IntKind.u32) n s.1] 45, .many encAd s.3 86, .many encTw s.4 78, .own [.c (.ptr 1 0), .c (.sli 6 (.c 0) 1 (.v m) none), .c (.sli 7 (.c 0) 1 (.v m) (some (.v m)))] 70, .vec (encTs 3 4) ts 44, .own [.a encBool m s.5] 4])) := by kernel_rfl
set_option maxRecDepth 100000 in
theorem t25_reg {n m : Nat} {ts : List (Bool × Nat)} {s : Mc} : (exec cfgM 100 reg25 (fr 21 n25a [.ptr 5 0, .lit .i64 0]) (mcS n m ts s)).bind (canonK 8 [(0,0)] 21 n25b) =
 

 (.ret (.normal, [.lit .i64 (0 : Int), .sli 7 (.c 0) 1 (.v m) (some (.v m)), .int .i64 (↑m : Int), .lit .i64 (0 : Int)], [.ro encLook [PUnit.unit], .own [.c (.sli 2 (.c 0) 1 (.v n) (some (.v n))), .c (.int .i64 s.2)] 67, .own [.a (encInt IntKind.u32) n s.1] 45, .many encAd s.3 86, .many encTw s.4 78, .own [.c (.ptr 1 0), .c (.sli 6 (.c 0) 1 (.v m) none), .c (.sli 7 (.c 0) 1 (.v m) (some (.v m)))] 70, .vec (encTs 3 4) ts 44, .own [.a encBool m s.5] 4])) := by kernel_rfl
set_option maxRecDepth 100000 in
theorem t25_lp {n m : Nat} {ts : List (Bool × Nat)} {s : Mc} {c : Int} {k : Nat} : (exec cfgM 100 lp25 (fr 21 n25b (v25 m c (k : Nat))) (mcS n m ts s)).bind (canonK 8 [(0,0)] 21 n25b) =
 

 (.br (decide ((↑k : Int) < (↑m : Int)))

 (.need (decide ((0 : Int) ≤ (↑k : Int)) && decide ((↑k : Int).toNat < m))

 (.need (decide ((↑k : Int).toNat < m))

 (.br (!s.5.getD (↑k : Int).toNat false)

 (.need (inR .i64 (c + (1 : Int)))

 (.need (inR .i64 ((↑k : Int) + (1 : Int)))

 (.ret (.normal, [.int .i64 (c + (1 : Int)), .sli 7 (.c 0) 1 (.v m) (some (.v m)), .int .i64 (↑m : Int), .int .i64 ((↑k : Int) + (1 : Int))], [.ro encLook [PUnit.unit], .own [.c (.sli 2 (.c 0) 1 (.v n) (some (.v n))), .c (.int .i64 s.2)] 67, .own [.a (encInt IntKind.u32) n s.1] 45, .many encAd s.3 86, .many encTw s.4 78, .own [.c (.ptr 1 0), .c (.sli 6 (.c 0) 1 (.v m) none), .c (.sli 7 (.c 0) 1 (.v m) (some (.v m)))] 70, .vec (encTs 3 4) ts 44, .own [.a encBool m s.5] 4]))))

 (.need (inR .i64 ((↑k : Int) + (1 : Int)))

 (.ret (.normal, [.int .i64 c, .sli 7 (.c 0) 1 (.v m) (some (.v m)), .int .i64 (↑m : Int), .int .i64 ((↑k : Int) + (1 : Int))], [.ro encLook [PUnit.unit], .own [.c (.sli 2 (.c 0) 1 (.v n) (some (.v n))), .c (.int .i64 s.2)] 67, .own [.a (encInt IntKind.u32) n s.1] 45, .many encAd s.3 86, .many encTw s.4 78, .own [.c (.ptr 1 0), .c (.sli 6 (.c 0) 1 (.v m) none), .c (.sli 7 (.c 0) 1 (.v m) (some (.v m)))] 70, .vec (encTs 3 4) ts 44, .own [.a encBool m s.5] 4]))))))

 (.ret (.exit 0, [.int .i64 c, .sli 7 (.c 0) 1 (.v m) (some (.v m)), .int .i64 (↑m : Int), .int .i64 (↑k : Int)], [.ro encLook [PUnit.unit], .own [.c (.sli 2 (.c 0) 1 (.v n) (some (.v n))), .c (.int .i64 s.2)] 67, .own [.a (encInt IntKind.u32) n s.1] 45, .many encAd s.3 86, .many encTw s.4 78, .own [.c (.ptr 1 0), .c (.sli 6 (.c 0) 1 (.v m) none), .c (.sli 7 (.c 0) 1 (.v m) (some (.v m)))] 70, .vec (encTs 3 4) ts 44, .own [.a encBool m s.5] 4]))) := by kernel_rfl
set_option maxRecDepth 100000 in
theorem t25_end {n m : Nat} {ts : List (Bool × Nat)} {s : Mc} {c : Int} {k : Nat} : (exec cfgM 100 end25 (fr 21 n25b (v25 m c (k : Nat))) (mcS n m ts s)).bind (canonK 8 [(0,0)] 21 [2]) =
 

 (.ret (.ret, [.int .i64 c], [.ro encLook [PUnit.unit], .own [.c (.sli 2 (.c 0) 1 (.v n) (some (.v n))), .c (.int .i64 s.2)] 67, .own [.a (encInt IntKind.u32) n s.1] 45, .many encAd s.3 86, .many encTw s.4 78, .own [.c (.ptr 1 0), .c (.sli 6 (.c 0) 1 (.v m) none), .c (.sli 7 (.c 0) 1 (.v m) (some (.v m)))] 70, .vec (encTs 3 4) ts 44, .own [.a encBool m s.5] 4])) := by kernel_rfl
end Go.Proofs.YtlnigpeoffaemaaDoor

/- Layer 8: what a machine's Left comes to. -/
namespace Go.Proofs.YtlnigpeoffaemaaDoor
open Go Go.Proofs.YtlnigpeoffaemaaDoor.Sx
set_option linter.unusedVariables false
theorem b25_eq : Tryd.f19.body = some b25 := by kernel_rfl
theorem leftP_take {ds : List Bool} {k : Nat} (hk : k < ds.length) : leftP (ds.take (k + 1)) = leftP (ds.take k) + (if ds.getD k false then 0 else 1) := by
  unfold leftP
  rw [List.take_add_one, List.filter_append, List.length_append]
  have : ds[k]?.toList = [ds[k]] := by simp [hk]
  rw [this]
  have h2 : ds.getD k false = ds[k] := by simp [List.getD_eq_getElem?_getD, hk]
  rw [h2]
  cases ds[k] <;> simp
theorem leftP_le (ds : List Bool) : 0 ≤ leftP ds ∧ leftP ds ≤ ds.length := by
  unfold leftP
  have := List.length_filter_le (fun b => !b) ds
  omega
abbrev Q25 (env0 : Env) (n m : Nat) (ts : List (Bool × Nat)) (s : Mc) (w0 : World) : Exit → Act → World → Prop := bodyPost Tryd.prog Tryd.f19 (Ends1 env0 (mcS n m ts s) w0 (.int .i64 (leftP s.ds)) (mcS n m ts s))
def Inv25 (env0 : Env) (n m : Nat) (ts : List (Bool × Nat)) (s : Mc) (w0 : World) (k : Nat) (a : Act) (w : World) : Prop :=
  k ≤ m ∧ ∃ env, AtK env0 [(0, 0)] ⟨w0, inFoot env0 (mcS n m ts s)⟩ env (fr 21 n25b (v25 m (leftP (s.ds.take k)) (k : Nat))) (mcS n m ts s) a w
theorem left_call {n m : Nat} {ts : List (Bool × Nat)} {s : Mc} (hd : s.ds.length = m) (hm : m ≤ 1000) :
    ∀ (env : Env) (w : World) (vs : List Value), GlOk cfgM.gl env → Rep env (mcS n m ts s) w → DenL env [.ptr 5 0] vs → Calls cfgM.P 19 ⟨vs⟩ w (Ends1 env (mcS n m ts s) w (.int .i64 (leftP s.ds)) (mcS n m ts s)) := by
  intro env w vs hg hr hdv
  have hb0 : env.length = 8 := hr.len
  refine AtK.begin (c := cfgM) Tryd.func19 b25_eq hg hr hdv fun a hA => ?_
  refine pieceNTK2 (c := cfgM) cfgM_ok 2 n25a (t25_pre (n := n) (m := m) (ts := ts) (s := s)) (by omega) (by simp) hA ?_
  refine all_ret fun env1 a1 w1 hA1 => ?_
  simp only [Ex.to, Exit.then]
  refine (show c25.wp Tryd.prog (Q25 env n m ts s w) a1 w1 from wpS (by kernel_rfl) (wpS (by kernel_rfl) ?_))
  refine pieceTK2 (c := cfgM) cfgM_ok n25b (t25_reg (n := n) (m := m) (ts := ts) (s := s)) (by omega) (by simp) hA1 ?_
  refine all_ret fun env2 a2 w2 hA2 => ?_
  simp only [Ex.to, Exit.then]
  have hA3 := hA2.on fun h => h.gvals (v25 m (leftP (s.ds.take 0)) ((0 : Nat) : Int)) rfl
  refine wpB 0 (by kernel_rfl) (wpL (by kernel_rfl) (Inv25 env n m ts s w) (fun k => m - k) 0 ⟨Nat.zero_le _, env2, hA3⟩ ?_)
  rintro k a w' ⟨hk, env3, hA⟩
  refine (show lp25.wp Tryd.prog _ a w' from ?_)
  refine pieceTK2 (c := cfgM) cfgM_ok n25b (t25_lp (n := n) (m := m) (ts := ts) (s := s)) (by omega) (by simp) hA ?_
  have hle := leftP_le (s.ds.take k)
  have hlt : (s.ds.take k).length ≤ m := by simp; omega
  refine all_brp (by simp only [decide_eq_true_eq]; exact Iff.rfl) (fun h1 => ?_) (fun h1 => ?_)
  · have hk' : k < m := by omega
    have ht := leftP_take (ds := s.ds) (k := k) (by omega)
    simp only [Int.toNat_natCast]
    refine all_needq (by simp only [decide_eq_true_eq, Bool.and_eq_true]; exact Iff.rfl) (by omega) ?_
    refine all_needq (by simp only [decide_eq_true_eq]; exact Iff.rfl) (by omega) ?_
    have nx : ∀ {c' : Int}, leftP (s.ds.take (k + 1)) = c' → ∀ {env' a' w''}, AtK env [(0, 0)] ⟨w, inFoot env (mcS n m ts s)⟩ env' (fr 21 n25b (v25 m c' ((k : Int) + 1))) (mcS n m ts s) a' w'' → ∃ k', Inv25 env n m ts s w k' a' w'' ∧ m - k' < m - k := by
      intro c' hc env' a' w'' h
      subst hc
      exact ⟨k + 1, ⟨by omega, env', h⟩, by omega⟩
    refine all_br (fun hb => ?_) (fun hb => ?_)
    · have hb' : s.ds.getD k false = false := by simpa using hb
      rw [hb'] at ht
      refine all_needq (by simp only [inR_i64]; exact Iff.rfl) (by omega) ?_
      refine all_needq (by simp only [inR_i64]; exact Iff.rfl) (by omega) ?_
      exact all_ret fun _ _ _ h => nx (by simpa using ht) h
    · have hb' : s.ds.getD k false = true := by simpa using hb
      rw [hb'] at ht
      refine all_needq (by simp only [inR_i64]; exact Iff.rfl) (by omega) ?_
      exact all_ret fun _ _ _ h => nx (by simpa using ht) h
  · have hkm : k = m := by omega
    subst hkm
    refine all_ret fun env4 a4 w4 hA4 => ?_
    simp only [Ex.to, Exit.then, Exit.inBlock, if_true]
    rw [List.take_of_length_le (by omega)] at hA4
    refine (show end25.wp Tryd.prog (Q25 env n k ts s w) a4 w4 from ?_)
    refine pieceTK2 (c := cfgM) cfgM_ok [2] (t25_end (n := n) (m := k) (ts := ts) (s := s)) (by omega) (by simp) hA4 ?_
    exact all_ret fun _ _ _ h => h.out (c := cfgM) (by kernel_rfl)
noncomputable def gLeft (n m : Nat) (ts : List (Bool × Nat)) (s : Mc) (args : List SVal) (st : St) : T (SVal × St) := match args with
  | [.ptr 5 0] => .eq (st = mcS n m ts s ∧ s.ds.length = m ∧ m ≤ 1000) (.ret (.int .i64 (leftP s.ds), mcS n m ts s))
  | _ => .no 175
theorem gLeft_ok {n m : Nat} {ts : List (Bool × Nat)} {s : Mc} (args : List SVal) (S : St) (v : SVal) (S' : St) (h : (gLeft n m ts s args S).at (v, S')) : PreOk cfgM 8 19 args S v S' := by
  unfold gLeft at h
  split at h
  · obtain ⟨⟨rfl, hd, hm⟩, h⟩ := h
    simp only [T.at, Prod.mk.injEq] at h
    obtain ⟨rfl, rfl⟩ := h
    exact ⟨left_call hd hm, rfl, rfl, mcS_ro, mcS_ren, rfl⟩
  · exact h.elim
/-- with a machine's picks, what is left of it, and memory -/
noncomputable def cfgR (n m : Nat) (ts : List (Bool × Nat)) (s : Mc) : Cfg := { P := Tryd.prog, ex := exI, gl := [(0, 0)], sm := fun f => match f with | 12 => some (smPre 8 (gPick n m ts s)) | 19 => some (smPre 8 (gLeft n m ts s)) | 22 => some (smPre 3 gLoad) | _ => none }
theorem cfgR_ok {n m : Nat} {ts : List (Bool × Nat)} {s : Mc} : SmOk (cfgR n m ts s) := by
  intro f g h
  simp only [cfgR] at h
  split at h
  · simp only [Option.some.injEq] at h; subst h
    exact smPre_ok (c := cfgM) (gl_lt (by omega)) gPick_ok
  · simp only [Option.some.injEq] at h; subst h
    exact smPre_ok (c := cfgM) (gl_lt (by omega)) gLeft_ok
  · simp only [Option.some.injEq] at h; subst h
    exact smPre_ok (c := cfgW) (gl_lt (by omega)) load_ok
  · cases h
end Go.Proofs.YtlnigpeoffaemaaDoor

/- Layer 8: rounds: pieces. -/
namespace Go.Proofs.YtlnigpeoffaemaaDoor
open Go Go.Proofs.YtlnigpeoffaemaaDoor.Sx
set_option linter.unusedVariables false
noncomputable def b26 : Code := Tryd.f21.body.getD .skip
noncomputable def blk26 : Code := lft (restC 2 b26)
noncomputable def end26 : Code := rgt (restC 2 b26)
noncomputable def lp26 : Code := lft (lft blk26)
noncomputable def tm26 : Code := lft lp26
noncomputable def bb26 : Code := lft (rgt lp26)
noncomputable def r26 : Code := lft (lft bb26)
noncomputable def blk26k : Code := rgt (lft bb26)
noncomputable def lp26k : Code := lft (lft blk26k)
noncomputable def inc26 : Code := rgt bb26
abbrev n26a : List Nat := [0, 1, 5]
abbrev n26b : List Nat := [0, 1, 5, 18, 19, 20]
abbrev v26 (most n : Int) : List SVal := [.ptr 5 0, .int .i64 most, .int .i64 n]
abbrev v26k (most n : Int) (m : Nat) (k : Int) : List SVal := v26 most n ++ [.sli 6 (.c 0) 1 (.v m) none, .int .i64 (m : Nat), .int .i64 k]
end Go.Proofs.YtlnigpeoffaemaaDoor

namespace Go.Proofs.YtlnigpeoffaemaaDoor
open Go Go.Proofs.YtlnigpeoffaemaaDoor.Sx
set_option linter.unusedVariables false
set_option maxRecDepth 100000 in
theorem t26_pre {n m : Nat} {ts : List (Bool × Nat)} {s : Mc} {most : Int} : (execN cfgM 100 2 b26 ([.ptr 5 0, .int .i64 most] ++ List.replicate 28 .bad) (mcS n m ts s)).bind (canonK 8 [(0,0)] 30 n26a) =
 

 (.ret (.normal, [.ptr 5 0, .int .i64 most, .lit .i64 (0 : Int)], [.ro encLook [PUnit.unit], .own [.c (.sli 2 (.c 0) 1 (.v n) (some (.v n))), .c (.int .i64 s.2)] 67, .own [.a (encInt IntKind.u32) n s.1] 45, .many encAd s.3 86, .many encTw s.4 78, .own [.c (.ptr 1 0), .c (.sli 6 (.c 0) 1 (.v m) none), .c (.sli 7 (.c 0) 1 (.v m) (some (.v m)))] 70, .vec (encTs 3 4) ts 44, .own [.a encBool m s.5] 4])) := by kernel_rfl
set_option maxRecDepth 100000 in
theorem t26_tm {n m : Nat} {ts : List (Bool × Nat)} {s : Mc} {most : Int} {r : Nat} : (exec (cfgR n m ts s) 100 tm26 (fr 30 n26a (v26 most (r : Nat))) (mcS n m ts s)).bind (canonK 8 [(0,0)] 30 n26a) =
 

 (.br (decide ((↑r : Int) < most))

 (.eq ([Blk.ro encLook [PUnit.unit], .own [.c (.sli 2 (.c 0) 1 (.v n) (some (.v n))), .c (.int .i64 s.2)] 67, .own [.a (encInt IntKind.u32) n s.1] 45, .many encAd s.3 86, .many encTw s.4 78, .own [.c (.ptr 1 0), .c (.sli 6 (.c 0) 1 (.v m) none), .c (.sli 7 (.c 0) 1 (.v m) (some (.v m)))] 70, .vec (encTs 3 4) ts 44, .own [.a encBool m s.5] 4] = [Blk.ro encLook [PUnit.unit], .own [.c (.sli 2 (.c 0) 1 (.v n) (some (.v n))), .c (.int .i64 s.2)] 67, .own [.a (encInt IntKind.u32) n s.1] 45, .many encAd s.3 86, .many encTw s.4 78, .own [.c (.ptr 1 0), .c (.sli 6 (.c 0) 1 (.v m) none), .c (.sli 7 (.c 0) 1 (.v m) (some (.v m)))] 70, .vec (encTs 3 4) ts 44, .own [.a encBool m s.5] 4] ∧ s.5.length = m ∧ m ≤ 1000)

 (.br (decide ((0 : Int) < leftP s.5))

 (.ret (.normal, [.ptr 5 0, .int .i64 most, .int .i64 (↑r : Int)], [.ro encLook [PUnit.unit], .own [.c (.sli 2 (.c 0) 1 (.v n) (some (.v n))), .c (.int .i64 s.2)] 67, .own [.a (encInt IntKind.u32) n s.1] 45, .many encAd s.3 86, .many encTw s.4 78, .own [.c (.ptr 1 0), .c (.sli 6 (.c 0) 1 (.v m) none), .c (.sli 7 (.c 0) 1 (.v m) (some (.v m)))] 70, .vec (encTs 3 4) ts 44, .own [.a encBool m s.5] 4]))

 (.ret (.exit 0, [.ptr 5 0, .int .i64 most, .int .i64 (↑r : Int)], [.ro encLook [PUnit.unit], .own [.c (.sli 2 (.c 0) 1 (.v n) (some (.v n))), .c (.int .i64 s.2)] 67, .own [.a (encInt IntKind.u32) n s.1] 45, .many encAd s.3 86, .many encTw s.4 78, .own [.c (.ptr 1 0), .c (.sli 6 (.c 0) 1 (.v m) none), .c (.sli 7 (.c 0) 1 (.v m) (some (.v m)))] 70, .vec (encTs 3 4) ts 44, .own [.a encBool m s.5] 4]))))

 (.ret (.exit 0, [.ptr 5 0, .int .i64 most, .int .i64 (↑r : Int)], [.ro encLook [PUnit.unit], .own [.c (.sli 2 (.c 0) 1 (.v n) (some (.v n))), .c (.int .i64 s.2)] 67, .own [.a (encInt IntKind.u32) n s.1] 45, .many encAd s.3 86, .many encTw s.4 78, .own [.c (.ptr 1 0), .c (.sli 6 (.c 0) 1 (.v m) none), .c (.sli 7 (.c 0) 1 (.v m) (some (.v m)))] 70, .vec (encTs 3 4) ts 44, .own [.a encBool m s.5] 4]))) := by kernel_rfl
set_option maxRecDepth 100000 in
theorem t26_r {n m : Nat} {ts : List (Bool × Nat)} {s : Mc} {most : Int} {r : Nat} : (exec cfgM 100 r26 (fr 30 n26a (v26 most (r : Nat))) (mcS n m ts s)).bind (canonK 8 [(0,0)] 30 n26b) =
 

 (.ret (.normal, [.ptr 5 0, .int .i64 most, .int .i64 (↑r : Int), .sli 6 (.c 0) 1 (.v m) none, .int .i64 (↑m : Int), .lit .i64 (0 : Int)], [.ro encLook [PUnit.unit], .own [.c (.sli 2 (.c 0) 1 (.v n) (some (.v n))), .c (.int .i64 s.2)] 67, .own [.a (encInt IntKind.u32) n s.1] 45, .many encAd s.3 86, .many encTw s.4 78, .own [.c (.ptr 1 0), .c (.sli 6 (.c 0) 1 (.v m) none), .c (.sli 7 (.c 0) 1 (.v m) (some (.v m)))] 70, .vec (encTs 3 4) ts 44, .own [.a encBool m s.5] 4])) := by kernel_rfl
set_option maxRecDepth 100000 in
theorem t26_in {n m : Nat} {ts : List (Bool × Nat)} {s : Mc} {most : Int} {r k : Nat} : (exec (cfgR n m ts s) 100 lp26k (fr 30 n26b (v26k most (r : Nat) m (k : Nat))) (mcS n m ts s)).bind (canonK 8 [(0,0)] 30 n26b) =
 

 (.br (decide ((↑k : Int) < (↑m : Int)))

 (.eq ([Blk.ro encLook [PUnit.unit], .own [.c (.sli 2 (.c 0) 1 (.v n) (some (.v n))), .c (.int .i64 s.2)] 67, .own [.a (encInt IntKind.u32) n s.1] 45, .many encAd s.3 86, .many encTw s.4 78, .own [.c (.ptr 1 0), .c (.sli 6 (.c 0) 1 (.v m) none), .c (.sli 7 (.c 0) 1 (.v m) (some (.v m)))] 70, .vec (encTs 3 4) ts 44, .own [.a encBool m s.5] 4] = [Blk.ro encLook [PUnit.unit], .own [.c (.sli 2 (.c 0) 1 (.v n) (some (.v n))), .c (.int .i64 s.2)] 67, .own [.a (encInt IntKind.u32) n s.1] 45, .many encAd s.3 86, .many encTw s.4 78, .own [.c (.ptr 1 0), .c (.sli 6 (.c 0) 1 (.v m) none), .c (.sli 7 (.c 0) 1 (.v m) (some (.v m)))] 70, .vec (encTs 3 4) ts 44, .own [.a encBool m s.5] 4] ∧ McOk n m ts s)

 (.need (inR .i64 ((↑k : Int) + (1 : Int)))

 (.ret (.normal, [.ptr 5 0, .int .i64 most, .int .i64 (↑r : Int), .sli 6 (.c 0) 1 (.v m) none, .int .i64 (↑m : Int), .int .i64 ((↑k : Int) + (1 : Int))], [.ro encLook [PUnit.unit], .own [.c (.sli 2 (.c 0) 1 (.v n) (some (.v n))), .c (.int .i64 (pickP m ts s (↑k : Int)).c)] 67, .own [.a (encInt IntKind.u32) n (pickP m ts s (↑k : Int)).l] 45, .many encAd (pickP m ts s (↑k : Int)).ad 86, .many encTw (pickP m ts s (↑k : Int)).tw 78, .own [.c (.ptr 1 0), .c (.sli 6 (.c 0) 1 (.v m) none), .c (.sli 7 (.c 0) 1 (.v m) (some (.v m)))] 70, .vec (encTs 3 4) ts 44, .own [.a encBool m (pickP m ts s (↑k : Int)).ds] 4]))))

 (.ret (.exit 2, [.ptr 5 0, .int .i64 most, .int .i64 (↑r : Int), .sli 6 (.c 0) 1 (.v m) none, .int .i64 (↑m : Int), .int .i64 (↑k : Int)], [.ro encLook [PUnit.unit], .own [.c (.sli 2 (.c 0) 1 (.v n) (some (.v n))), .c (.int .i64 s.2)] 67, .own [.a (encInt IntKind.u32) n s.1] 45, .many encAd s.3 86, .many encTw s.4 78, .own [.c (.ptr 1 0), .c (.sli 6 (.c 0) 1 (.v m) none), .c (.sli 7 (.c 0) 1 (.v m) (some (.v m)))] 70, .vec (encTs 3 4) ts 44, .own [.a encBool m s.5] 4]))) := by kernel_rfl
set_option maxRecDepth 100000 in
theorem t26_inc {n m : Nat} {ts : List (Bool × Nat)} {s : Mc} {most : Int} {r : Nat} : (exec cfgM 100 inc26 (fr 30 n26a (v26 most (r : Nat))) (mcS n m ts s)).bind (canonK 8 [(0,0)] 30 n26a) =
 

 (.need (inR .i64 ((↑r : Int) + (1 : Int)))

 (.ret (.normal, [.ptr 5 0, .int .i64 most, .int .i64 ((↑r : Int) + (1 : Int))], [.ro encLook [PUnit.unit], .own [.c (.sli 2 (.c 0) 1 (.v n) (some (.v n))), .c (.int .i64 s.2)] 67, .own [.a (encInt IntKind.u32) n s.1] 45, .many encAd s.3 86, .many encTw s.4 78, .own [.c (.ptr 1 0), .c (.sli 6 (.c 0) 1 (.v m) none), .c (.sli 7 (.c 0) 1 (.v m) (some (.v m)))] 70, .vec (encTs 3 4) ts 44, .own [.a encBool m s.5] 4]))) := by kernel_rfl
set_option maxRecDepth 100000 in
theorem t26_end {n m : Nat} {ts : List (Bool × Nat)} {s : Mc} {most : Int} {r : Nat} : (exec cfgM 100 end26 (fr 30 n26a (v26 most (r : Nat))) (mcS n m ts s)).bind (canonK 8 [(0,0)] 30 [4]) =
 

 (.ret (.ret, [.int .i64 (↑r : Int)], [.ro encLook [PUnit.unit], .own [.c (.sli 2 (.c 0) 1 (.v n) (some (.v n))), .c (.int .i64 s.2)] 67, .own [.a (encInt IntKind.u32) n s.1] 45, .many encAd s.3 86, .many encTw s.4 78, .own [.c (.ptr 1 0), .c (.sli 6 (.c 0) 1 (.v m) none), .c (.sli 7 (.c 0) 1 (.v m) (some (.v m)))] 70, .vec (encTs 3 4) ts 44, .own [.a encBool m s.5] 4])) := by kernel_rfl
end Go.Proofs.YtlnigpeoffaemaaDoor

/- Layer 8: what a machine's Round comes to. -/
namespace Go.Proofs.YtlnigpeoffaemaaDoor
open Go Go.Proofs.YtlnigpeoffaemaaDoor.Sx
set_option linter.unusedVariables false
/-- the first picks of a round -/
def passP (m : Nat) (ts : List (Bool × Nat)) (s : Mc) : Nat → Mc
  | 0 => s
  | k + 1 => pickP m ts (passP m ts s k) (k : Nat)
/-- how many rounds there are, at most so many -/
def stopP (m : Nat) (ts : List (Bool × Nat)) : Mc → Nat → Nat
  | _, 0 => 0
  | s, f + 1 => if leftP s.ds = 0 then 0 else stopP m ts (passP m ts s m) f + 1
/-- what they leave -/
def endP (m : Nat) (ts : List (Bool × Nat)) : Mc → Nat → Mc
  | s, 0 => s
  | s, f + 1 => if leftP s.ds = 0 then s else endP m ts (passP m ts s m) f
theorem stepAd_times (x : Ad) (l : List Int) (h : x.times ≤ 1000) : (stepAd x l).1.times ≤ 1000 := by
  unfold stepAd
  repeat' split
  all_goals (simp only; omega)
theorem stepTw_times (x : Tw) (l : List Int) (h : x.times ≤ 1000) : (stepTw x l).1.times ≤ 1000 := by
  unfold stepTw
  repeat' split
  all_goals (simp only; omega)
theorem ok_pick {n m : Nat} {ts : List (Bool × Nat)} {s : Mc} (h : McOk n m ts s) (i : Int) : McOk n m ts (pickP m ts s i) := by
  unfold pickP
  split
  · rename_i hb
    have hb := (inP_iff _ _).1 hb
    split
    · exact h
    · split
      · rename_i hf
        have hk := h.tk i.toNat (by omega)
        simp only [tkOk, hf] at hk
        refine ⟨by simp only; rw [stepAd_len]; exact h.ll, h.lt, by simp [h.ld], fun j hj => ?_, h.inj⟩
        have h2 := h.tk j hj
        unfold tkOk at h2 ⊢
        split at h2 <;> rename_i hg <;> simp only [hg]
        · refine ⟨by simpa using h2.1, ?_⟩
          by_cases he : (tsAt ts i.toNat).2 = (tsAt ts j).2
          · simp only [adAt, he]
            rw [Sx.getD_set_self (by rw [← he]; exact hk.1)]
            exact stepAd_times _ _ h2.2
          · simp only [adAt]
            rw [Sx.getD_set_ne he]
            exact h2.2
        · exact h2
      · rename_i hf
        have hk := h.tk i.toNat (by omega)
        simp only [tkOk, hf] at hk
        refine ⟨by simp only; rw [stepTw_len]; exact h.ll, h.lt, by simp [h.ld], fun j hj => ?_, h.inj⟩
        have h2 := h.tk j hj
        unfold tkOk at h2 ⊢
        split at h2 <;> rename_i hg <;> simp only [hg]
        · exact h2
        · refine ⟨by simpa using h2.1, ?_⟩
          by_cases he : (tsAt ts i.toNat).2 = (tsAt ts j).2
          · simp only [twAt, he]
            rw [Sx.getD_set_self (by rw [← he]; exact hk.1)]
            exact stepTw_times _ _ h2.2
          · simp only [twAt]
            rw [Sx.getD_set_ne he]
            exact h2.2
  · exact h
theorem ok_pass {n m : Nat} {ts : List (Bool × Nat)} {s : Mc} (h : McOk n m ts s) : ∀ k, McOk n m ts (passP m ts s k)
  | 0 => h
  | k + 1 => ok_pick (ok_pass h k) _
theorem stopP_le (m : Nat) (ts : List (Bool × Nat)) : ∀ (f : Nat) (s : Mc), stopP m ts s f ≤ f
  | 0, s => by simp [stopP]
  | f + 1, s => by
    simp only [stopP]
    split
    · omega
    · have := stopP_le m ts f (passP m ts s m); omega
theorem b26_eq : Tryd.f21.body = some b26 := by kernel_rfl
abbrev Q26 (env0 : Env) (n m : Nat) (ts : List (Bool × Nat)) (s0 : Mc) (most : Int) (w0 : World) : Exit → Act → World → Prop := bodyPost Tryd.prog Tryd.f21 (Ends1 env0 (mcS n m ts s0) w0 (.int .i64 (stopP m ts s0 most.toNat : Nat)) (mcS n m ts (endP m ts s0 most.toNat)))
structure Ix26 where
  r : Nat
  s : Mc
def Inv26 (env0 : Env) (n m : Nat) (ts : List (Bool × Nat)) (s0 : Mc) (most : Int) (w0 : World) (j : Ix26) (a : Act) (w : World) : Prop :=
  (j.r ≤ most.toNat ∧ McOk n m ts j.s ∧ stopP m ts s0 most.toNat = j.r + stopP m ts j.s (most.toNat - j.r) ∧ endP m ts s0 most.toNat = endP m ts j.s (most.toNat - j.r)) ∧
  ∃ env, AtK env0 [(0, 0)] ⟨w0, inFoot env0 (mcS n m ts s0)⟩ env (fr 30 n26a (v26 most (j.r : Nat))) (mcS n m ts j.s) a w
def Inv26k (env0 : Env) (n m : Nat) (ts : List (Bool × Nat)) (s0 : Mc) (most : Int) (w0 : World) (r : Nat) (s : Mc) (k : Nat) (a : Act) (w : World) : Prop :=
  k ≤ m ∧ ∃ env, AtK env0 [(0, 0)] ⟨w0, inFoot env0 (mcS n m ts s0)⟩ env (fr 30 n26b (v26k most (r : Nat) m (k : Nat))) (mcS n m ts (passP m ts s k)) a w
theorem AtKfew {base : Env} {gl : List (Nat × Nat)} {w0 : From} {env : Env} {n : Nat} {names extra : List Nat} {vals ev : List SVal} {st : St} {a : Act} {w : World} (h : AtK base gl w0 env (fr n (names ++ extra) (vals ++ ev)) st a w) (hl : names.length = vals.length) :
    AtK base gl w0 env (fr n names vals) st a w := ⟨h.at'.few hl, h.more⟩
theorem round_call {n m : Nat} {ts : List (Bool × Nat)} {s : Mc} (hs : McOk n m ts s) (hm : m ≤ 1000) {most : Int} (hmost : most ≤ 1000000) :
    ∀ (env : Env) (w : World) (vs : List Value), GlOk cfgM.gl env → Rep env (mcS n m ts s) w → DenL env [.ptr 5 0, .int .i64 most] vs →
      Calls cfgM.P 21 ⟨vs⟩ w (Ends1 env (mcS n m ts s) w (.int .i64 (stopP m ts s most.toNat : Nat)) (mcS n m ts (endP m ts s most.toNat))) := by
  intro env w vs hg hr hdv
  have hb0 : env.length = 8 := hr.len
  refine AtK.begin (c := cfgM) Tryd.func21 b26_eq hg hr hdv fun a hA => ?_
  refine pieceNTK2 (c := cfgM) cfgM_ok 2 n26a (t26_pre (n := n) (m := m) (ts := ts) (s := s)) (by omega) (by simp) hA ?_
  refine all_ret fun env1 a1 w1 hA1 => ?_
  simp only [Ex.to, Exit.then]
  refine (show (restC 2 b26).wp Tryd.prog (Q26 env n m ts s most w) a1 w1 from wpS (by kernel_rfl) ?_)
  have hA2 := hA1.on fun h => h.gvals (v26 most ((0 : Nat) : Int)) rfl
  refine wpB 0 (by kernel_rfl) (wpL (by kernel_rfl) (Inv26 env n m ts s most w) (fun j => most.toNat - j.r) ⟨0, s⟩ ⟨⟨Nat.zero_le _, hs, by simp, by simp⟩, env1, hA2⟩ ?_)
  rintro ⟨r, s1⟩ a w' ⟨⟨hr', ok, e1, e2⟩, env3, hA⟩
  simp only at hr' ok e1 e2 hA ⊢
  have out : (most.toNat = r ∨ leftP s1.ds = 0) → ∀ {env' : Env} {a' : Act} {w'' : World}, AtK env [(0, 0)] ⟨w, inFoot env (mcS n m ts s)⟩ env' (fr 30 n26a (v26 most (r : Nat))) (mcS n m ts s1) a' w'' → end26.wp Tryd.prog (Q26 env n m ts s most w) a' w'' := by
    intro hc env' a' w'' h
    have hz : stopP m ts s1 (most.toNat - r) = 0 ∧ endP m ts s1 (most.toNat - r) = s1 := by
      rcases hc with hc | hc
      · rw [hc, Nat.sub_self]; exact ⟨rfl, rfl⟩
      · cases most.toNat - r with
        | zero => exact ⟨rfl, rfl⟩
        | succ f => simp [stopP, endP, hc]
    refine pieceTK2 (c := cfgM) cfgM_ok [4] (t26_end (n := n) (m := m) (ts := ts) (s := s1)) (by omega) (by simp) h ?_
    refine all_ret fun envZ aZ wZ h => ?_
    have h' : AtK env [(0, 0)] ⟨w, inFoot env (mcS n m ts s)⟩ envZ (fr 30 [4] [.int .i64 (stopP m ts s most.toNat : Nat)]) (mcS n m ts (endP m ts s most.toNat)) aZ wZ := by
      rw [e1, e2, hz.1, hz.2]; exact h
    exact h'.out (c := cfgM) (by kernel_rfl)
  refine (show lp26.wp Tryd.prog _ a w' from wpS (by kernel_rfl) ?_)
  refine pieceTK2 (c := cfgR n m ts s1) cfgR_ok n26a (t26_tm (n := n) (m := m) (ts := ts) (s := s1)) (by omega) (by simp) hA ?_
  refine all_brp (by simp only [decide_eq_true_eq]; exact Iff.rfl) (fun h1 => ?_) (fun h1 => all_ret fun _ _ _ h => by
    simp only [Ex.to, Exit.then, Exit.inBlock, if_true]
    exact out (by omega) h)
  refine all_eq ⟨rfl, ok.ld, hm⟩ ?_
  refine all_brp (by simp only [decide_eq_true_eq]; exact Iff.rfl) (fun h2 => all_ret fun env4 a4 w4 hA4 => ?_) (fun h2 => all_ret fun _ _ _ h => by
    simp only [Ex.to, Exit.then, Exit.inBlock, if_true]
    have := leftP_le s1.ds
    exact out (.inr (by omega)) h)
  refine (show (rgt lp26).wp Tryd.prog _ a4 w4 from wpB 1 (by kernel_rfl) ?_)
  refine (show bb26.wp Tryd.prog _ a4 w4 from wpS (by kernel_rfl) (wpS (by kernel_rfl) ?_))
  refine pieceTK2 (c := cfgM) cfgM_ok n26b (t26_r (n := n) (m := m) (ts := ts) (s := s1)) (by omega) (by simp) hA4 ?_
  refine all_ret fun env5 a5 w5 hA5 => ?_
  simp only [Ex.to, Exit.then]
  have hA6 := hA5.on fun h => h.gvals (v26k most (r : Nat) m ((0 : Nat) : Int)) rfl
  refine wpB 2 (by kernel_rfl) (wpL (by kernel_rfl) (Inv26k env n m ts s most w r s1) (fun k => m - k) 0 ⟨Nat.zero_le _, env5, hA6⟩ ?_)
  rintro k a6 w6 ⟨hk, env7, hA7⟩
  refine (show lp26k.wp Tryd.prog _ a6 w6 from ?_)
  refine pieceTK2 (c := cfgR n m ts (passP m ts s1 k)) cfgR_ok n26b (t26_in (n := n) (m := m) (ts := ts) (s := passP m ts s1 k)) (by omega) (by simp) hA7 ?_
  refine all_brp (by simp only [decide_eq_true_eq]; exact Iff.rfl) (fun h3 => ?_) (fun h3 => ?_)
  · refine all_eq ⟨rfl, ok_pass ok k⟩ ?_
    refine all_needq (by simp only [inR_i64]; exact Iff.rfl) (by omega) ?_
    refine all_ret fun env8 a8 w8 hA8 => ?_
    exact ⟨k + 1, ⟨by omega, env8, hA8⟩, by omega⟩
  · have hkm : k = m := by omega
    subst hkm
    refine all_ret fun env8 a8 w8 hA8 => ?_
    simp only [Ex.to, Exit.then, Exit.inBlock, if_true]
    have hA9 := AtKfew (names := n26a) (extra := [18, 19, 20]) (vals := v26 most (r : Nat)) (ev := [.sli 6 (.c 0) 1 (.v k) none, .int .i64 (k : Nat), .int .i64 (k : Nat)]) hA8 rfl
    refine (show inc26.wp Tryd.prog _ a8 w8 from ?_)
    refine pieceTK2 (c := cfgM) cfgM_ok n26a (t26_inc (n := n) (m := k) (ts := ts) (s := passP k ts s1 k)) (by omega) (by simp) hA9 ?_
    refine all_needq (by simp only [inR_i64]; exact Iff.rfl) (by omega) ?_
    refine all_ret fun env10 a10 w10 hA10 => ?_
    have hlt : r < most.toNat := by omega
    have hsub : most.toNat - r = (most.toNat - (r + 1)) + 1 := by omega
    have hne : ¬ leftP s1.ds = 0 := by omega
    refine ⟨⟨r + 1, passP k ts s1 k⟩, ⟨⟨by simp only; omega, ok_pass ok k, ?_, ?_⟩, env10, hA10⟩, by simp only; omega⟩
    · simp only; rw [e1, hsub, stopP, if_neg hne]; omega
    · simp only; rw [e2, hsub, endP, if_neg hne]
noncomputable def gRound (n m : Nat) (ts : List (Bool × Nat)) (s : Mc) (args : List SVal) (st : St) : T (SVal × St) := match args with
  | [.ptr 5 0, a] => match asI a with
    | some (.i64, most, _) => .eq (st = mcS n m ts s ∧ McOk n m ts s ∧ m ≤ 1000 ∧ most ≤ 1000000) (.ret (.int .i64 (stopP m ts s most.toNat : Nat), mcS n m ts (endP m ts s most.toNat)))
    | _ => .no 176
  | _ => .no 177
theorem gRound_ok {n m : Nat} {ts : List (Bool × Nat)} {s : Mc} (args : List SVal) (S : St) (v : SVal) (S' : St) (h : (gRound n m ts s args S).at (v, S')) : PreOk cfgM 8 21 args S v S' := by
  unfold gRound at h
  split at h
  · rename_i a
    split at h
    · rename_i most la h1
      obtain ⟨⟨rfl, hs, hm, hmost⟩, h⟩ := h
      simp only [T.at, Prod.mk.injEq] at h
      obtain ⟨rfl, rfl⟩ := h
      refine ⟨fun env w vs hg hr hd => ?_, rfl, rfl, mcS_ro, mcS_ren, by simp only [renL, asI_ren h1]; rfl⟩
      obtain ⟨u, us, rfl, h4, u2, us2, rfl, h5, rfl⟩ := hd
      exact round_call hs hm hmost env w _ hg hr ⟨_, _, rfl, h4, _, _, rfl, asI_int h1 h5, rfl⟩
    · exact h.elim
  · exact h.elim
/-- with rounds alone -/
noncomputable def cfgS (n m : Nat) (ts : List (Bool × Nat)) (s : Mc) : Cfg := { P := Tryd.prog, ex := exI, gl := [(0, 0)], sm := fun f => match f with | 21 => some (smPre 8 (gRound n m ts s)) | _ => none }
theorem cfgS_ok {n m : Nat} {ts : List (Bool × Nat)} {s : Mc} : SmOk (cfgS n m ts s) := by
  intro f g h
  simp only [cfgS] at h
  split at h
  · simp only [Option.some.injEq] at h; subst h
    exact smPre_ok (c := cfgM) (gl_lt (by omega)) gRound_ok
  · cases h
end Go.Proofs.YtlnigpeoffaemaaDoor

