/- StepsOnce: its walk, its law, its card. -/
import Derived.Test.YtlnigpeoffaemaaDoorSxC
import Derived.Test.YtlnigpeoffaemaaDoorRows
import Derived.Test.YtlnigpeoffaemaaDoorCards
import Derived.Test.YtlnigpeoffaemaaDoorTie
import Derived.ProofKit
import Derived.LaidMore
import Derived.OpenShut
import Derived.Stop.Joined
/- Layer 8: the configuration. -/
namespace Go.Proofs.YtlnigpeoffaemaaDoor
open Go Go.Proofs.YtlnigpeoffaemaaDoor.Sx
set_option linter.unusedVariables false
/-- the package's variable, as it was laid -/
def encLook : Enc Unit := encOf 2 (fun _ => [.lit .u32 4294967295, .lit .u32 0, .lit .u32 0]) () (fun _ => rfl) (by intro env env' x vs h; simpa [DenL, Den] using h)
abbrev lookB : Blk := .ro encLook [()]
abbrev exI : IntKind → Bool := fun k => match k with | .i64 => true | _ => false
noncomputable def cfgN : Cfg := { P := Tryd.prog, ex := exI, gl := [(0, 0)], sm := fun _ => none }
theorem cfgN_ok : SmOk cfgN := by intro f g h; cases h
/-- a new machine -/
noncomputable def smNew : List SVal → St → T (SVal × St) := smAny cfgN 100 11
theorem new_sel (fn : Func) (b : Code) (p : Code × Array Oper × Code) (h1 : Tryd.prog.funcs[11]? = some fn) (h2 : fn.body = some b) (h3 : partsAny b = some p) : Region.noSelect p.2.1 = true := by
  rw [Tryd.func11] at h1
  simp only [Option.some.injEq] at h1; subst h1
  have h4 : (Tryd.f11.body.bind partsAny).elim false (fun q => Region.noSelect q.2.1) = true := by kernel_rfl
  rw [h2] at h4
  simp only [Option.bind_some, h3] at h4
  exact h4
noncomputable def cfg0 : Cfg := { P := Tryd.prog, ex := exI, gl := [(0, 0)], sm := fun f => match f with | 11 => some smNew | _ => none }
theorem cfg0_ok : SmOk cfg0 := by
  intro f g h
  simp only [cfg0] at h
  split at h
  · simp only [Option.some.injEq] at h; subst h
    exact smAny_ok cfgN_ok (by kernel_rfl) new_sel
  · cases h
end Go.Proofs.YtlnigpeoffaemaaDoor

/- Layer 8: awake. -/
namespace Go.Proofs.YtlnigpeoffaemaaDoor
open Go Go.Proofs.YtlnigpeoffaemaaDoor.Sx
set_option linter.unusedVariables false
def nA0 : List SVal := [SVal.ptr (2 : Nat) (0 : Nat), SVal.sli (7 : Nat) (NN.c (0 : Nat)) (1 : Nat) (NN.c (2 : Nat)) (some (NN.c (2 : Nat)))]
def nS0 : St := [Blk.ro encLook [PUnit.unit], Blk.own [Seg.c (SVal.lit IntKind.u32 (0 : Int))] (45 : Nat), Blk.own [Seg.c (SVal.sli (1 : Nat) (NN.c (0 : Nat)) (1 : Nat) (NN.c (1 : Nat)) (some (NN.c (1 : Nat)))), Seg.c (SVal.lit IntKind.i64 (0 : Int))] (67 : Nat), Blk.own [Seg.c (SVal.lit IntKind.u32 (0 : Int))] (45 : Nat), Blk.own [Seg.c (SVal.sli (3 : Nat) (NN.c (0 : Nat)) (1 : Nat) (NN.c (1 : Nat)) (some (NN.c (1 : Nat)))), Seg.c (SVal.lit IntKind.i64 (0 : Int))] (67 : Nat), Blk.own [Seg.c (SVal.lit IntKind.i64 (0 : Int)), Seg.c (SVal.lit IntKind.i64 (1 : Int)), Seg.c (SVal.bl false), Seg.c (SVal.lit IntKind.u32 (0 : Int)), Seg.c (SVal.fn (Fn.func (27 : Nat)) [] [])] (78 : Nat), Blk.own [Seg.c (SVal.lit IntKind.i64 (0 : Int)), Seg.c (SVal.lit IntKind.i64 (1 : Int)), Seg.c (SVal.bl false), Seg.c (SVal.lit IntKind.u32 (0 : Int)), Seg.c (SVal.fn (Fn.func (27 : Nat)) [] [])] (78 : Nat), Blk.own [Seg.c (SVal.ifc (74 : Nat) (SVal.ptr (5 : Nat) (0 : Nat))), Seg.c (SVal.ifc (74 : Nat) (SVal.ptr (6 : Nat) (0 : Nat)))] (44 : Nat)]
def nA1 : List SVal := [SVal.ptr (4 : Nat) (0 : Nat), SVal.sli (14 : Nat) (NN.c (0 : Nat)) (1 : Nat) (NN.c (2 : Nat)) (some (NN.c (2 : Nat)))]
def nS1 : St := [Blk.ro encLook [PUnit.unit], Blk.own [Seg.c (SVal.lit IntKind.u32 (0 : Int))] (45 : Nat), Blk.own [Seg.c (SVal.sli (1 : Nat) (NN.c (0 : Nat)) (1 : Nat) (NN.c (1 : Nat)) (some (NN.c (1 : Nat)))), Seg.c (SVal.lit IntKind.i64 (0 : Int))] (67 : Nat), Blk.own [Seg.c (SVal.lit IntKind.u32 (0 : Int))] (45 : Nat), Blk.own [Seg.c (SVal.sli (3 : Nat) (NN.c (0 : Nat)) (1 : Nat) (NN.c (1 : Nat)) (some (NN.c (1 : Nat)))), Seg.c (SVal.lit IntKind.i64 (0 : Int))] (67 : Nat), Blk.own [Seg.c (SVal.lit IntKind.i64 (0 : Int)), Seg.c (SVal.lit IntKind.i64 (1 : Int)), Seg.c (SVal.bl false), Seg.c (SVal.lit IntKind.u32 (0 : Int)), Seg.c (SVal.fn (Fn.func (27 : Nat)) [] [])] (78 : Nat), Blk.own [Seg.c (SVal.lit IntKind.i64 (0 : Int)), Seg.c (SVal.lit IntKind.i64 (1 : Int)), Seg.c (SVal.bl false), Seg.c (SVal.lit IntKind.u32 (0 : Int)), Seg.c (SVal.fn (Fn.func (27 : Nat)) [] [])] (78 : Nat), Blk.own [Seg.c (SVal.ifc (74 : Nat) (SVal.ptr (5 : Nat) (0 : Nat))), Seg.c (SVal.ifc (74 : Nat) (SVal.ptr (6 : Nat) (0 : Nat)))] (44 : Nat), Blk.gone, Blk.vec (encRow (0 : Nat)) [[SVal.ifc (74 : Nat) (SVal.ptr (5 : Nat) (0 : Nat))], [SVal.ifc (74 : Nat) (SVal.ptr (6 : Nat) (0 : Nat))]] (44 : Nat), Blk.own [Seg.c (SVal.bl false), Seg.c (SVal.bl false)] (4 : Nat), Blk.own [Seg.c (SVal.ptr (2 : Nat) (0 : Nat)), Seg.c (SVal.sli (9 : Nat) (NN.c (0 : Nat)) (1 : Nat) (NN.c (2 : Nat)) none), Seg.c (SVal.sli (10 : Nat) (NN.c (0 : Nat)) (1 : Nat) (NN.c (2 : Nat)) (some (NN.c (2 : Nat))))] (70 : Nat), Blk.own [Seg.c (SVal.lit IntKind.i64 (0 : Int)), Seg.c (SVal.lit IntKind.i64 (1 : Int)), Seg.c (SVal.bl false), Seg.c (SVal.lit IntKind.u32 (0 : Int)), Seg.c (SVal.fn (Fn.func (30 : Nat)) [] [])] (78 : Nat), Blk.own [Seg.c (SVal.lit IntKind.i64 (0 : Int)), Seg.c (SVal.lit IntKind.i64 (1 : Int)), Seg.c (SVal.bl false), Seg.c (SVal.lit IntKind.u32 (0 : Int)), Seg.c (SVal.fn (Fn.func (30 : Nat)) [] [])] (78 : Nat), Blk.own [Seg.c (SVal.ifc (74 : Nat) (SVal.ptr (12 : Nat) (0 : Nat))), Seg.c (SVal.ifc (74 : Nat) (SVal.ptr (13 : Nat) (0 : Nat)))] (44 : Nat)]
abbrev nE0 : T SVal := T.need true (T.ret ((List.take (1 : Nat) ([[SVal.ifc (74 : Nat) (SVal.ptr (5 : Nat) (0 : Nat))], [SVal.ifc (74 : Nat) (SVal.ptr (6 : Nat) (0 : Nat))]].getD (0 : Nat) []) ++ List.replicate (0 : Nat) SVal.bad).getD (0 : Nat) SVal.bad))
abbrev nE1 : T SVal := T.need true (T.ret ((List.take (1 : Nat) ([[SVal.ifc (74 : Nat) (SVal.ptr (5 : Nat) (0 : Nat))], [SVal.ifc (74 : Nat) (SVal.ptr (6 : Nat) (0 : Nat))]].getD (1 : Nat) []) ++ List.replicate (0 : Nat) SVal.bad).getD (0 : Nat) SVal.bad))
abbrev nE2 : T SVal := T.ret (SVal.fn (Fn.func (27 : Nat)) [] [])
abbrev nE3 : T SVal := T.need true (T.ret ((List.take (1 : Nat) ([[SVal.ifc (74 : Nat) (SVal.ptr (12 : Nat) (0 : Nat))], [SVal.ifc (74 : Nat) (SVal.ptr (13 : Nat) (0 : Nat))]].getD (0 : Nat) []) ++ List.replicate (0 : Nat) SVal.bad).getD (0 : Nat) SVal.bad))
abbrev nE4 : T SVal := T.need true (T.ret ((List.take (1 : Nat) ([[SVal.ifc (74 : Nat) (SVal.ptr (12 : Nat) (0 : Nat))], [SVal.ifc (74 : Nat) (SVal.ptr (13 : Nat) (0 : Nat))]].getD (1 : Nat) []) ++ List.replicate (0 : Nat) SVal.bad).getD (0 : Nat) SVal.bad))
abbrev nE5 : T SVal := T.ret (SVal.fn (Fn.func (30 : Nat)) [] [])
set_option maxRecDepth 100000 in
theorem awake_val : (callF cfg0 100 10 [] [lookB]).valE = some (anyP cfgN 100 11 nA0 nS0 ∧ anyP cfgN 100 11 nA1 nS1 ∧ nE0 = nE0 ∧ nE1 = nE1 ∧ nE2 = nE2 ∧ nE0 = nE0 ∧ nE2 = nE2 ∧ nE1 = nE1 ∧ nE3 = nE3 ∧ nE4 = nE4 ∧ nE5 = nE5 ∧ nE3 = nE3 ∧ nE5 = nE5 ∧ nE4 = nE4 ∧ nE4 = nE4 ∧ nE5 = nE5 ∧ nE4 = nE4 ∧ True, .bl true) := by kernel_rfl
end Go.Proofs.YtlnigpeoffaemaaDoor

namespace Go.Proofs.YtlnigpeoffaemaaDoor
open Go Go.Proofs.YtlnigpeoffaemaaDoor.Sx
set_option linter.unusedVariables false
set_option maxRecDepth 100000 in
theorem new0 : anyP cfgN 100 11 nA0 nS0 := by
  have h1 : (anyTP cfgN 100 11 nA0 nS0).asks = some True := by kernel_rfl
  exact anyP_closed h1 trivial (by kernel_rfl)
set_option maxRecDepth 100000 in
theorem new1 : anyP cfgN 100 11 nA1 nS1 := by
  have h1 : (anyTP cfgN 100 11 nA1 nS1).asks = some True := by kernel_rfl
  exact anyP_closed h1 trivial (by kernel_rfl)
end Go.Proofs.YtlnigpeoffaemaaDoor

/- StepsOnce: the pieces of code and the states. -/
namespace Go.Proofs.YtlnigpeoffaemaaDoor
open Go Go.Proofs.YtlnigpeoffaemaaDoor.Sx
set_option linter.unusedVariables false
noncomputable def cfg : Cfg := { P := Tryd.prog, ex := exI, gl := [(0, 0)], sm := fun f => match f with | 10 => some (smClosed [0] [lookB] (.bl true)) | 11 => some smNew | _ => none }
theorem cfg_ok : SmOk cfg := by
  intro f g h
  simp only [cfg] at h
  split at h
  · simp only [Option.some.injEq] at h; subst h
    exact smClosedE_ok cfg0_ok awake_val ⟨new0, new1, rfl, rfl, rfl, rfl, rfl, rfl, rfl, rfl, rfl, rfl, rfl, rfl, rfl, rfl, rfl, trivial⟩ (by kernel_rfl) rfl rfl (by intro b hb e; rw [List.mem_singleton.1 hb]; rfl)
  · simp only [Option.some.injEq] at h; subst h
    exact smAny_ok cfgN_ok (by kernel_rfl) new_sel
  · cases h
noncomputable def b3 : Code := Tryd.f3.body.getD .skip
noncomputable def reg3 : Code := lft (lft (restC 5 b3))
noncomputable def blk3 : Code := rgt (lft (restC 5 b3))
noncomputable def round3 : Code := lft (lft blk3)
noncomputable def regm3 : Code := lft (lft (restC 9 b3))
noncomputable def blkm3 : Code := rgt (lft (restC 9 b3))
noncomputable def roundm3 : Code := lft (lft blkm3)
noncomputable def end3 : Code := rgt (restC 9 b3)
noncomputable def tm3 : Code := lft roundm3
noncomputable def im3 : Code := lft (lft (rgt roundm3))
noncomputable def pa3 : Code := lft im3
noncomputable def rest3 : Code := rgt im3
noncomputable def inc3 : Code := rgt (rgt roundm3)
/-- a byte -/
structure U8 where
  v : Int
  h : 0 ≤ v ∧ v ≤ 255
def encU8 : Enc U8 := encOf 0 (fun x => [.int .u8 x.v]) ⟨0, by omega⟩ (fun _ => rfl) (by intro env env' x vs h; simpa [DenL, Den] using h)
/-- what came in -/
structure In3 where
  last : List U8
  cap : Nat
  picks : List Int
  cap' : Nat
/-- a task that counts -/
structure Lone where
  n : Int
  last : Int
def encLone : Enc Lone where
  tag := .other
  shut := true
  shutOk := by intro _ env env' x vs h; simpa [DenL, Den] using h
  sz := 2
  enc x := [.int .i64 x.n, .int .i64 x.last]
  dec l := match l with
    | [a, b] => match (encInt .i64).dec [a], (encInt .i64).dec [b] with
      | some n, some m => some ⟨n, m⟩
      | _, _ => none
    | _ => none
  dflt := ⟨0, 0⟩
  pos := by omega
  len _ := rfl
  ok := by
    intro env l x vs h hd
    split at h
    · rename_i a b
      split at h
      · rename_i n m h1 h2
        simp only [Option.some.injEq] at h; subst h
        obtain ⟨u, us, rfl, h3, w, ws, rfl, h4, rfl⟩ := hd
        have k1 := (encInt .i64).ok env [a] n [u] h1 ⟨u, [], rfl, h3, rfl⟩
        have k2 := (encInt .i64).ok env [b] m [w] h2 ⟨w, [], rfl, h4, rfl⟩
        obtain ⟨u', us', e1, k3, rfl⟩ := k1
        obtain ⟨w', ws', e2, k4, rfl⟩ := k2
        simp only [List.cons.injEq, and_true] at e1 e2
        subst e1 e2
        exact ⟨u, [w], rfl, k3, w, [], rfl, k4, rfl⟩
      · cases h
    · cases h
/-- a task, by its place -/
def encT (id : Nat) : Enc Nat where
  tag := .other
  shut := false
  shutOk := by simp
  sz := 1
  enc x := [.ifc 33 (.pti id 0 x 2 0)]
  dec l := match l with
    | [.ifc t (.pti i o x s j)] => if t = 33 ∧ i = id ∧ o = 0 ∧ s = 2 ∧ j = 0 then some x else none
    | _ => none
  dflt := 0
  top := some (id + 1)
  topOk := by
    intro k hk m hm x
    simp only [Option.some.injEq] at hk; subst hk
    simp [renL, ren, idx_pref hm (Nat.lt_succ_self id)]
  pos := by omega
  len _ := rfl
  ok := by
    intro env l x vs h hd
    split at h
    · split at h
      · rename_i t i o y s j hc
        obtain ⟨rfl, rfl, rfl, rfl, rfl⟩ := hc
        simp only [Option.some.injEq] at h; subst h
        exact hd
      · cases h
    · cases h
abbrev lastV (p : In3) (i : Nat) : SVal := .sli i (.c 0) 1 (.v p.last.length) (some (.v p.cap))
abbrev picksV (p : In3) (i : Nat) : SVal := .sli i (.c 0) 1 (.v p.picks.length) (some (.v p.cap'))
abbrev s3a (p : In3) : St := [lookB, .ro encU8 p.last, .ro (encInt .i64) p.picks]
abbrev n3a : List Nat := [0, 1, 4, 5, 7, 8]
abbrev n3b : List Nat := [0, 1, 4, 5, 7, 8, 9]
abbrev n3c : List Nat := [0, 1, 4, 5, 7, 10, 11]
abbrev n3d : List Nat := [0, 1, 4, 5, 7, 10, 11, 12]
abbrev n3e : List Nat := [0, 1, 4, 5, 7, 10, 11, 12, 13]
abbrev memB : Blk := .own [.c (.sli 4 (.c 0) 1 (.c 1) (some (.c 1))), .c (.lit .i64 0)] 67
abbrev wrdB : Blk := .own [.c (.lit .u32 0)] 45
/-- in the first loop -/
abbrev s3b (p : In3) (xs : List Lone) (ts : List Nat) : St := s3a p ++ [memB, wrdB, .own [.a encLone 8 xs] 31, .vec (encT 5) ts 44]
abbrev v3b (p : In3) (ts : List Nat) (i : Int) : List SVal := [lastV p 1, picksV p 2, .bl false, .ptr 3 0, .ptr 5 0, .sli 6 (.c 0) 1 (.v ts.length) none, .int .i64 i]
abbrev machB (t d n m : Nat) (k : SVal) : Blk := .own [.c (.ptr 3 0), .c (.sli t (.c 0) 1 (.v n) none), .c k] 70
/-- in the second loop -/
abbrev s3d (p : In3) (n : Nat) (xs : List Lone) (ts : List Nat) (bs : List Bool) (ak : List Int) : St := s3a p ++ [memB, wrdB, .own [.a encLone 8 xs] 31, .own [.c (.ptr 3 0), .c (.sli 7 (.c 0) 1 (.v n) none), .c (.sli 8 (.c 0) 1 (.v n) (some (.v n)))] 70, .vec (encT 5) ts 44, .own [.a encBool n bs] 4, .own [.a (encInt .i64) 8 ak] 36]
abbrev v3c (p : In3) : List SVal := [lastV p 1, picksV p 2, .bl false, .ptr 3 0, .ptr 5 0, .ptr 6 0, .ptr 9 0]
abbrev v3d (p : In3) (i : Int) : List SVal := v3c p ++ [.int .i64 i]
abbrev v3e (p : In3) (i k : Int) : List SVal := v3c p ++ [.int .i64 i, .int .i64 k]
end Go.Proofs.YtlnigpeoffaemaaDoor

namespace Go.Proofs.YtlnigpeoffaemaaDoor
open Go Go.Proofs.YtlnigpeoffaemaaDoor.Sx
set_option linter.unusedVariables false
set_option maxRecDepth 100000 in
theorem t3_pre {p : In3} : (execN cfg 100 5 b3 ([lastV p 1, picksV p 2] ++ List.replicate 130 .bad) (s3a p)).bind (canon [(0,0)] 132 n3a) =
 

 (.eq (some [Blk.ro encLook [PUnit.unit]] = some [Blk.ro encLook [PUnit.unit]])

 (.br (decide ((8 : Int) < (↑p.1.length : Int)))

 (.eq (some [Blk.ro encLook [PUnit.unit]] = some [Blk.ro encLook [PUnit.unit]])

 (.ret (.ret, [.sli 1 (.c 0) 1 (.v p.1.length) (some (.v p.2)), .sli 2 (.c 0) 1 (.v p.3.length) (some (.v p.4)), .bl true, .ptr 3 0, .bad, .bad], [.ro encLook [PUnit.unit], .ro encU8 p.1, .ro (encInt IntKind.i64) p.3, .own [.c (.sli 4 (.c 0) 1 (.c 1) (some (.c 1))), .c (.lit .i64 (0 : Int))] 67, .own [.c (.lit .u32 (0 : Int))] 45])))

 (.ret (.normal, [.sli 1 (.c 0) 1 (.v p.1.length) (some (.v p.2)), .sli 2 (.c 0) 1 (.v p.3.length) (some (.v p.4)), .bl false, .ptr 3 0, .ptr 5 0, .sli 6 (.c 0) 1 (.c 0) (some (.c 0))], [.ro encLook [PUnit.unit], .ro encU8 p.1, .ro (encInt IntKind.i64) p.3, .own [.c (.sli 4 (.c 0) 1 (.c 1) (some (.c 1))), .c (.lit .i64 (0 : Int))] 67, .own [.c (.lit .u32 (0 : Int))] 45, .own [.c (.lit .i64 (0 : Int)), .c (.lit .i64 (0 : Int)), .c (.lit .i64 (0 : Int)), .c (.lit .i64 (0 : Int)), .c (.lit .i64 (0 : Int)), .c (.lit .i64 (0 : Int)), .c (.lit .i64 (0 : Int)), .c (.lit .i64 (0 : Int)), .c (.lit .i64 (0 : Int)), .c (.lit .i64 (0 : Int)), .c (.lit .i64 (0 : Int)), .c (.lit .i64 (0 : Int)), .c (.lit .i64 (0 : Int)), .c (.lit .i64 (0 : Int)), .c (.lit .i64 (0 : Int)), .c (.lit .i64 (0 : Int))] 31, .own [] 44])))) := by kernel_rfl
set_option maxRecDepth 100000 in
theorem t3_reg {p : In3} {xs : List Lone} : (exec cfg 100 reg3 (fr 132 n3a [lastV p 1, picksV p 2, .bl false, .ptr 3 0, .ptr 5 0, .sli 7 (.c 0) 1 (.v ([] : List Nat).length) none]) (s3a p ++ [memB, wrdB, .own [.a encLone 8 xs] 31, .gone, .vec (encT 5) [] 44])).bind (canon [(0,0)] 132 n3b) =
 

 (.ret (.normal, [.sli 1 (.c 0) 1 (.v p.1.length) (some (.v p.2)), .sli 2 (.c 0) 1 (.v p.3.length) (some (.v p.4)), .bl false, .ptr 3 0, .ptr 5 0, .sli 6 (.c 0) 1 (.v 0) none, .lit .i64 (0 : Int)], [.ro encLook [PUnit.unit], .ro encU8 p.1, .ro (encInt IntKind.i64) p.3, .own [.c (.sli 4 (.c 0) 1 (.c 1) (some (.c 1))), .c (.lit .i64 (0 : Int))] 67, .own [.c (.lit .u32 (0 : Int))] 45, .own [.a encLone 8 xs] 31, .vec (encT 5) [] 44])) := by kernel_rfl
set_option maxRecDepth 100000 in
theorem t3_round {p : In3} {xs : List Lone} {ts : List Nat} {i : Nat} : (exec cfg 100 round3 (fr 132 n3b (v3b p ts (i : Nat))) (s3b p xs ts)).bind (canon [(0,0)] 132 n3b) =
 

 (.br (decide ((↑i : Int) < (↑p.1.length : Int)))

 (.need (decide ((0 : Int) ≤ (↑i : Int)) && decide ((↑i : Int).toNat < p.1.length))

 (.need (decide ((↑i : Int).toNat < p.1.length))

 (.need (inR .i64 (p.1.getD (↑i : Int).toNat encU8.dflt).1)

 (.need (true)

 (.need (inR .i64 ((1 : Int) + (p.1.getD (↑i : Int).toNat encU8.dflt).1.tmod (9 : Int)))

 (.need (decide ((0 : Int) ≤ (↑i : Int)) && decide ((↑i : Int).toNat < 8))

 (.need (decide ((↑i : Int).toNat < 8))

 (.need (decide ((0 : Int) ≤ (↑i : Int)) && decide ((↑i : Int).toNat < 8))

 (.need (true)

 (.need (decide (ts.length = ts.length))

 (.need (roomy (ts.length + 1) 16)

 (.need (inR .i64 ((↑i : Int) + (1 : Int)))

 (.ret (.normal, [.sli 1 (.c 0) 1 (.v p.1.length) (some (.v p.2)), .sli 2 (.c 0) 1 (.v p.3.length) (some (.v p.4)), .bl false, .ptr 3 0, .ptr 5 0, .sli 6 (.c 0) 1 (.v (ts.length + 1)) none, .int .i64 ((↑i : Int) + (1 : Int))], [.ro encLook [PUnit.unit], .ro encU8 p.1, .ro (encInt IntKind.i64) p.3, .own [.c (.sli 4 (.c 0) 1 (.c 1) (some (.c 1))), .c (.lit .i64 (0 : Int))] 67, .own [.c (.lit .u32 (0 : Int))] 45, .own [.a encLone 8 (xs.set (↑i : Int).toNat { n := (xs.getD (↑i : Int).toNat encLone.dflt).1, last := (1 : Int) + (p.1.getD (↑i : Int).toNat encU8.dflt).1.tmod (9 : Int) })] 31, .vec (encT 5) (ts ++ [(↑i : Int).toNat]) 44]))))))))))))))

 (.ret (.exit 0, [.sli 1 (.c 0) 1 (.v p.1.length) (some (.v p.2)), .sli 2 (.c 0) 1 (.v p.3.length) (some (.v p.4)), .bl false, .ptr 3 0, .ptr 5 0, .sli 6 (.c 0) 1 (.v ts.length) none, .int .i64 (↑i : Int)], [.ro encLook [PUnit.unit], .ro encU8 p.1, .ro (encInt IntKind.i64) p.3, .own [.c (.sli 4 (.c 0) 1 (.c 1) (some (.c 1))), .c (.lit .i64 (0 : Int))] 67, .own [.c (.lit .u32 (0 : Int))] 45, .own [.a encLone 8 xs] 31, .vec (encT 5) ts 44]))) := by kernel_rfl
end Go.Proofs.YtlnigpeoffaemaaDoor

namespace Go.Proofs.YtlnigpeoffaemaaDoor
open Go Go.Proofs.YtlnigpeoffaemaaDoor.Sx
set_option linter.unusedVariables false
set_option maxRecDepth 100000 in
theorem t3_new {p : In3} {xs : List Lone} {ts : List Nat} {i : Nat} : (execN cfg 100 3 (restC 6 b3) (fr 132 n3b (v3b p ts (i : Nat))) (s3b p xs ts)).bind (canon [(0,0)] 132 n3c) =
 

 (.eq (anyP cfgN 100 11 [.ptr 3 0, .sli 6 (.c 0) 1 (.v ts.length) none] [.ro encLook [PUnit.unit], .ro encU8 p.1, .ro (encInt IntKind.i64) p.3, .own [.c (.sli 4 (.c 0) 1 (.c 1) (some (.c 1))), .c (.lit .i64 (0 : Int))] 67, .own [.c (.lit .u32 (0 : Int))] 45, .own [.a encLone 8 xs] 31, .vec (encT 5) ts 44])

 (.need (decide (0 + ts.length ≤ ts.length))

 (.need (decide (0 + ts.length ≤ ts.length))

 (.need (roomy (List.take ts.length (List.drop 0 ts)).length 16)

 (.need (decide ((0 : Int) ≤ (↑ts.length : Int)))

 (.need (decide ((↑ts.length : Int) * (1 : Int) ≤ (140737488355328 : Int)))

 (.need (decide ((↑ts.length : Int) ≤ (4611686018427387904 : Int)))

 (.ret (.normal, [.sli 1 (.c 0) 1 (.v p.1.length) (some (.v p.2)), .sli 2 (.c 0) 1 (.v p.3.length) (some (.v p.4)), .bl false, .ptr 3 0, .ptr 5 0, .ptr 6 0, .ptr 9 0], [.ro encLook [PUnit.unit], .ro encU8 p.1, .ro (encInt IntKind.i64) p.3, .own [.c (.sli 4 (.c 0) 1 (.c 1) (some (.c 1))), .c (.lit .i64 (0 : Int))] 67, .own [.c (.lit .u32 (0 : Int))] 45, .own [.a encLone 8 xs] 31, .own [.c (.ptr 3 0), .c (.sli 7 (.c 0) 1 (.v (List.take ts.length (List.drop 0 ts)).length) none), .c (.sli 8 (.c 0) 1 (.v (↑ts.length : Int).toNat) (some (.v (↑ts.length : Int).toNat)))] 70, .vec (encT 5) (List.take ts.length (List.drop 0 ts)) 44, .own [.a encBool (↑ts.length : Int).toNat (List.replicate (↑ts.length : Int).toNat false)] 4, .own [.c (.lit .i64 (0 : Int)), .c (.lit .i64 (0 : Int)), .c (.lit .i64 (0 : Int)), .c (.lit .i64 (0 : Int)), .c (.lit .i64 (0 : Int)), .c (.lit .i64 (0 : Int)), .c (.lit .i64 (0 : Int)), .c (.lit .i64 (0 : Int))] 36]))))))))) := by kernel_rfl
end Go.Proofs.YtlnigpeoffaemaaDoor

namespace Go.Proofs.YtlnigpeoffaemaaDoor
open Go Go.Proofs.YtlnigpeoffaemaaDoor.Sx
set_option linter.unusedVariables false
set_option maxRecDepth 100000 in
theorem t3_regm {p : In3} {n : Nat} {xs : List Lone} {ts : List Nat} {bs : List Bool} {ak : List Int} : (exec cfg 100 regm3 (fr 132 n3c (v3c p)) (s3d p n xs ts bs ak)).bind (canon [(0,0)] 132 n3d) =
 

 (.ret (.normal, [.sli 1 (.c 0) 1 (.v p.1.length) (some (.v p.2)), .sli 2 (.c 0) 1 (.v p.3.length) (some (.v p.4)), .bl false, .ptr 3 0, .ptr 5 0, .ptr 6 0, .ptr 9 0, .lit .i64 (0 : Int)], [.ro encLook [PUnit.unit], .ro encU8 p.1, .ro (encInt IntKind.i64) p.3, .own [.c (.sli 4 (.c 0) 1 (.c 1) (some (.c 1))), .c (.lit .i64 (0 : Int))] 67, .own [.c (.lit .u32 (0 : Int))] 45, .own [.a encLone 8 xs] 31, .own [.c (.ptr 3 0), .c (.sli 7 (.c 0) 1 (.v n) none), .c (.sli 8 (.c 0) 1 (.v n) (some (.v n)))] 70, .vec (encT 5) ts 44, .own [.a encBool n bs] 4, .own [.a (encInt IntKind.i64) 8 ak] 36])) := by kernel_rfl
set_option maxRecDepth 100000 in
theorem t3_end {p : In3} {n : Nat} {xs : List Lone} {ts : List Nat} {bs : List Bool} {ak : List Int} {i : Nat} : (exec cfg 100 end3 (fr 132 n3d (v3d p (i : Nat))) (s3d p n xs ts bs ak)).bind (canon [(0,0)] 132 [4]) =
 

 (.ret (.ret, [.bl true], [.ro encLook [PUnit.unit]])) := by kernel_rfl
set_option maxRecDepth 100000 in
theorem t3_tm {p : In3} {n : Nat} {xs : List Lone} {ts : List Nat} {bs : List Bool} {ak : List Int} {i : Nat} : (exec cfg 100 tm3 (fr 132 n3d (v3d p (i : Nat))) (s3d p n xs ts bs ak)).bind (canon [(0,0)] 132 n3d) =
 

 (.br (decide ((↑i : Int) < (↑p.3.length : Int)))

 (.br (decide ((↑i : Int) < (100 : Int)))

 (.ret (.normal, [.sli 1 (.c 0) 1 (.v p.1.length) (some (.v p.2)), .sli 2 (.c 0) 1 (.v p.3.length) (some (.v p.4)), .bl false, .ptr 3 0, .ptr 5 0, .ptr 6 0, .ptr 9 0, .int .i64 (↑i : Int)], [.ro encLook [PUnit.unit], .ro encU8 p.1, .ro (encInt IntKind.i64) p.3, .own [.c (.sli 4 (.c 0) 1 (.c 1) (some (.c 1))), .c (.lit .i64 (0 : Int))] 67, .own [.c (.lit .u32 (0 : Int))] 45, .own [.a encLone 8 xs] 31, .own [.c (.ptr 3 0), .c (.sli 7 (.c 0) 1 (.v n) none), .c (.sli 8 (.c 0) 1 (.v n) (some (.v n)))] 70, .vec (encT 5) ts 44, .own [.a encBool n bs] 4, .own [.a (encInt IntKind.i64) 8 ak] 36]))

 (.ret (.exit 2, [.sli 1 (.c 0) 1 (.v p.1.length) (some (.v p.2)), .sli 2 (.c 0) 1 (.v p.3.length) (some (.v p.4)), .bl false, .ptr 3 0, .ptr 5 0, .ptr 6 0, .ptr 9 0, .int .i64 (↑i : Int)], [.ro encLook [PUnit.unit], .ro encU8 p.1, .ro (encInt IntKind.i64) p.3, .own [.c (.sli 4 (.c 0) 1 (.c 1) (some (.c 1))), .c (.lit .i64 (0 : Int))] 67, .own [.c (.lit .u32 (0 : Int))] 45, .own [.a encLone 8 xs] 31, .own [.c (.ptr 3 0), .c (.sli 7 (.c 0) 1 (.v n) none), .c (.sli 8 (.c 0) 1 (.v n) (some (.v n)))] 70, .vec (encT 5) ts 44, .own [.a encBool n bs] 4, .own [.a (encInt IntKind.i64) 8 ak] 36])))

 (.ret (.exit 2, [.sli 1 (.c 0) 1 (.v p.1.length) (some (.v p.2)), .sli 2 (.c 0) 1 (.v p.3.length) (some (.v p.4)), .bl false, .ptr 3 0, .ptr 5 0, .ptr 6 0, .ptr 9 0, .int .i64 (↑i : Int)], [.ro encLook [PUnit.unit], .ro encU8 p.1, .ro (encInt IntKind.i64) p.3, .own [.c (.sli 4 (.c 0) 1 (.c 1) (some (.c 1))), .c (.lit .i64 (0 : Int))] 67, .own [.c (.lit .u32 (0 : Int))] 45, .own [.a encLone 8 xs] 31, .own [.c (.ptr 3 0), .c (.sli 7 (.c 0) 1 (.v n) none), .c (.sli 8 (.c 0) 1 (.v n) (some (.v n)))] 70, .vec (encT 5) ts 44, .own [.a encBool n bs] 4, .own [.a (encInt IntKind.i64) 8 ak] 36]))) := by kernel_rfl
set_option maxRecDepth 100000 in
theorem t3_pa {p : In3} {n : Nat} {xs : List Lone} {ts : List Nat} {bs : List Bool} {ak : List Int} {i : Nat} : (exec cfg 100 pa3 (fr 132 n3d (v3d p (i : Nat))) (s3d p n xs ts bs ak)).bind (canon [(0,0)] 132 n3e) =
 

 (.need (decide ((0 : Int) ≤ (↑i : Int)) && decide ((↑i : Int).toNat < p.3.length))

 (.need (decide ((↑i : Int).toNat < p.3.length))

 (.ret (.normal, [.sli 1 (.c 0) 1 (.v p.1.length) (some (.v p.2)), .sli 2 (.c 0) 1 (.v p.3.length) (some (.v p.4)), .bl false, .ptr 3 0, .ptr 5 0, .ptr 6 0, .ptr 9 0, .int .i64 (↑i : Int), .int .i64 (p.3.getD (↑i : Int).toNat (0 : Int))], [.ro encLook [PUnit.unit], .ro encU8 p.1, .ro (encInt IntKind.i64) p.3, .own [.c (.sli 4 (.c 0) 1 (.c 1) (some (.c 1))), .c (.lit .i64 (0 : Int))] 67, .own [.c (.lit .u32 (0 : Int))] 45, .own [.a encLone 8 xs] 31, .own [.c (.ptr 3 0), .c (.sli 7 (.c 0) 1 (.v n) none), .c (.sli 8 (.c 0) 1 (.v n) (some (.v n)))] 70, .vec (encT 5) ts 44, .own [.a encBool n bs] 4, .own [.a (encInt IntKind.i64) 8 ak] 36])))) := by kernel_rfl
set_option maxRecDepth 100000 in
theorem t3_inc {p : In3} {n : Nat} {xs : List Lone} {ts : List Nat} {bs : List Bool} {ak : List Int} {i : Nat} : (exec cfg 100 inc3 (fr 132 n3d (v3d p (i : Nat))) (s3d p n xs ts bs ak)).bind (canon [(0,0)] 132 n3d) =
 

 (.need (inR .i64 ((↑i : Int) + (1 : Int)))

 (.ret (.normal, [.sli 1 (.c 0) 1 (.v p.1.length) (some (.v p.2)), .sli 2 (.c 0) 1 (.v p.3.length) (some (.v p.4)), .bl false, .ptr 3 0, .ptr 5 0, .ptr 6 0, .ptr 9 0, .int .i64 ((↑i : Int) + (1 : Int))], [.ro encLook [PUnit.unit], .ro encU8 p.1, .ro (encInt IntKind.i64) p.3, .own [.c (.sli 4 (.c 0) 1 (.c 1) (some (.c 1))), .c (.lit .i64 (0 : Int))] 67, .own [.c (.lit .u32 (0 : Int))] 45, .own [.a encLone 8 xs] 31, .own [.c (.ptr 3 0), .c (.sli 7 (.c 0) 1 (.v n) none), .c (.sli 8 (.c 0) 1 (.v n) (some (.v n)))] 70, .vec (encT 5) ts 44, .own [.a encBool n bs] 4, .own [.a (encInt IntKind.i64) 8 ak] 36]))) := by kernel_rfl
end Go.Proofs.YtlnigpeoffaemaaDoor

namespace Go.Proofs.YtlnigpeoffaemaaDoor
open Go Go.Proofs.YtlnigpeoffaemaaDoor.Sx
set_option linter.unusedVariables false
set_option maxRecDepth 100000 in
theorem t3_rest {p : In3} {n : Nat} {xs : List Lone} {ts : List Nat} {bs : List Bool} {ak : List Int} {i : Nat} {k : Int} : (exec cfg 100 rest3 (fr 132 n3e (v3e p (i : Nat) k)) (s3d p n xs ts bs ak)).bind (canon [(0,0)] 132 n3d) =
 

 (.br (decide (k < (0 : Int)))

 (.br (decide (k < (0 : Int)))

 (.ret (.exit 3, [.sli 1 (.c 0) 1 (.v p.1.length) (some (.v p.2)), .sli 2 (.c 0) 1 (.v p.3.length) (some (.v p.4)), .bl false, .ptr 3 0, .ptr 5 0, .ptr 6 0, .ptr 9 0, .int .i64 (↑i : Int)], [.ro encLook [PUnit.unit], .ro encU8 p.1, .ro (encInt IntKind.i64) p.3, .own [.c (.sli 4 (.c 0) 1 (.c 1) (some (.c 1))), .c (.lit .i64 (0 : Int))] 67, .own [.c (.lit .u32 (0 : Int))] 45, .own [.a encLone 8 xs] 31, .own [.c (.ptr 3 0), .c (.sli 7 (.c 0) 1 (.v n) none), .c (.sli 8 (.c 0) 1 (.v n) (some (.v n)))] 70, .vec (encT 5) ts 44, .own [.a encBool n bs] 4, .own [.a (encInt IntKind.i64) 8 ak] 36]))

 (.br (decide ((↑p.1.length : Int) ≤ k))

 (.ret (.exit 3, [.sli 1 (.c 0) 1 (.v p.1.length) (some (.v p.2)), .sli 2 (.c 0) 1 (.v p.3.length) (some (.v p.4)), .bl false, .ptr 3 0, .ptr 5 0, .ptr 6 0, .ptr 9 0, .int .i64 (↑i : Int)], [.ro encLook [PUnit.unit], .ro encU8 p.1, .ro (encInt IntKind.i64) p.3, .own [.c (.sli 4 (.c 0) 1 (.c 1) (some (.c 1))), .c (.lit .i64 (0 : Int))] 67, .own [.c (.lit .u32 (0 : Int))] 45, .own [.a encLone 8 xs] 31, .own [.c (.ptr 3 0), .c (.sli 7 (.c 0) 1 (.v n) none), .c (.sli 8 (.c 0) 1 (.v n) (some (.v n)))] 70, .vec (encT 5) ts 44, .own [.a encBool n bs] 4, .own [.a (encInt IntKind.i64) 8 ak] 36]))

 (.need (decide ((0 : Int) ≤ k) && decide (k.toNat < 8))

 (.need (decide (k.toNat < 8))

 (.need (decide ((0 : Int) ≤ k) && decide (k.toNat < 8))

 (.need (decide (k.toNat < 8))

 (.br (decide (ak.getD k.toNat (0 : Int) < (xs.getD k.toNat encLone.dflt).2))

 (.need (decide ((0 : Int) ≤ k) && decide (k.toNat < 8))

 (.need (decide (k.toNat < 8))

 (.need (inR .i64 (ak.getD k.toNat (0 : Int) + (1 : Int)))

 (.need (decide ((0 : Int) ≤ k) && decide (k.toNat < 8))

 (.need (decide (k.toNat < 8))

 (.ret (.ret, [.sli 1 (.c 0) 1 (.v p.1.length) (some (.v p.2)), .sli 2 (.c 0) 1 (.v p.3.length) (some (.v p.4)), .bl false, .ptr 3 0, .ptr 5 0, .ptr 6 0, .ptr 9 0, .int .i64 (↑i : Int)], [.ro encLook [PUnit.unit], .ro encU8 p.1, .ro (encInt IntKind.i64) p.3, .own [.c (.sli 4 (.c 0) 1 (.c 1) (some (.c 1))), .c (.lit .i64 (0 : Int))] 67, .own [.c (.lit .u32 (0 : Int))] 45, .own [.a encLone 8 xs] 31, .own [.c (.ptr 3 0), .c (.sli 7 (.c 0) 1 (.v n) none), .c (.sli 8 (.c 0) 1 (.v n) (some (.v n)))] 70, .vec (encT 5) ts 44, .own [.a encBool n bs] 4, .own [.a (encInt IntKind.i64) 8 (ak.set k.toNat (ak.getD k.toNat (0 : Int) + (1 : Int)))] 36])))))))

 (.ret (.ret, [.sli 1 (.c 0) 1 (.v p.1.length) (some (.v p.2)), .sli 2 (.c 0) 1 (.v p.3.length) (some (.v p.4)), .bl false, .ptr 3 0, .ptr 5 0, .ptr 6 0, .ptr 9 0, .int .i64 (↑i : Int)], [.ro encLook [PUnit.unit], .ro encU8 p.1, .ro (encInt IntKind.i64) p.3, .own [.c (.sli 4 (.c 0) 1 (.c 1) (some (.c 1))), .c (.lit .i64 (0 : Int))] 67, .own [.c (.lit .u32 (0 : Int))] 45, .own [.a encLone 8 xs] 31, .own [.c (.ptr 3 0), .c (.sli 7 (.c 0) 1 (.v n) none), .c (.sli 8 (.c 0) 1 (.v n) (some (.v n)))] 70, .vec (encT 5) ts 44, .own [.a encBool n bs] 4, .own [.a (encInt IntKind.i64) 8 ak] 36])))))))))

 (.br (decide ((↑n : Int) ≤ k))

 (.br (decide (k < (0 : Int)))

 (.ret (.exit 3, [.sli 1 (.c 0) 1 (.v p.1.length) (some (.v p.2)), .sli 2 (.c 0) 1 (.v p.3.length) (some (.v p.4)), .bl false, .ptr 3 0, .ptr 5 0, .ptr 6 0, .ptr 9 0, .int .i64 (↑i : Int)], [.ro encLook [PUnit.unit], .ro encU8 p.1, .ro (encInt IntKind.i64) p.3, .own [.c (.sli 4 (.c 0) 1 (.c 1) (some (.c 1))), .c (.lit .i64 (0 : Int))] 67, .own [.c (.lit .u32 (0 : Int))] 45, .own [.a encLone 8 xs] 31, .own [.c (.ptr 3 0), .c (.sli 7 (.c 0) 1 (.v n) none), .c (.sli 8 (.c 0) 1 (.v n) (some (.v n)))] 70, .vec (encT 5) ts 44, .own [.a encBool n bs] 4, .own [.a (encInt IntKind.i64) 8 ak] 36]))

 (.br (decide ((↑p.1.length : Int) ≤ k))

 (.ret (.exit 3, [.sli 1 (.c 0) 1 (.v p.1.length) (some (.v p.2)), .sli 2 (.c 0) 1 (.v p.3.length) (some (.v p.4)), .bl false, .ptr 3 0, .ptr 5 0, .ptr 6 0, .ptr 9 0, .int .i64 (↑i : Int)], [.ro encLook [PUnit.unit], .ro encU8 p.1, .ro (encInt IntKind.i64) p.3, .own [.c (.sli 4 (.c 0) 1 (.c 1) (some (.c 1))), .c (.lit .i64 (0 : Int))] 67, .own [.c (.lit .u32 (0 : Int))] 45, .own [.a encLone 8 xs] 31, .own [.c (.ptr 3 0), .c (.sli 7 (.c 0) 1 (.v n) none), .c (.sli 8 (.c 0) 1 (.v n) (some (.v n)))] 70, .vec (encT 5) ts 44, .own [.a encBool n bs] 4, .own [.a (encInt IntKind.i64) 8 ak] 36]))

 (.need (decide ((0 : Int) ≤ k) && decide (k.toNat < 8))

 (.need (decide (k.toNat < 8))

 (.need (decide ((0 : Int) ≤ k) && decide (k.toNat < 8))

 (.need (decide (k.toNat < 8))

 (.br (decide (ak.getD k.toNat (0 : Int) < (xs.getD k.toNat encLone.dflt).2))

 (.need (decide ((0 : Int) ≤ k) && decide (k.toNat < 8))

 (.need (decide (k.toNat < 8))

 (.need (inR .i64 (ak.getD k.toNat (0 : Int) + (1 : Int)))

 (.need (decide ((0 : Int) ≤ k) && decide (k.toNat < 8))

 (.need (decide (k.toNat < 8))

 (.ret (.ret, [.sli 1 (.c 0) 1 (.v p.1.length) (some (.v p.2)), .sli 2 (.c 0) 1 (.v p.3.length) (some (.v p.4)), .bl false, .ptr 3 0, .ptr 5 0, .ptr 6 0, .ptr 9 0, .int .i64 (↑i : Int)], [.ro encLook [PUnit.unit], .ro encU8 p.1, .ro (encInt IntKind.i64) p.3, .own [.c (.sli 4 (.c 0) 1 (.c 1) (some (.c 1))), .c (.lit .i64 (0 : Int))] 67, .own [.c (.lit .u32 (0 : Int))] 45, .own [.a encLone 8 xs] 31, .own [.c (.ptr 3 0), .c (.sli 7 (.c 0) 1 (.v n) none), .c (.sli 8 (.c 0) 1 (.v n) (some (.v n)))] 70, .vec (encT 5) ts 44, .own [.a encBool n bs] 4, .own [.a (encInt IntKind.i64) 8 (ak.set k.toNat (ak.getD k.toNat (0 : Int) + (1 : Int)))] 36])))))))

 (.ret (.ret, [.sli 1 (.c 0) 1 (.v p.1.length) (some (.v p.2)), .sli 2 (.c 0) 1 (.v p.3.length) (some (.v p.4)), .bl false, .ptr 3 0, .ptr 5 0, .ptr 6 0, .ptr 9 0, .int .i64 (↑i : Int)], [.ro encLook [PUnit.unit], .ro encU8 p.1, .ro (encInt IntKind.i64) p.3, .own [.c (.sli 4 (.c 0) 1 (.c 1) (some (.c 1))), .c (.lit .i64 (0 : Int))] 67, .own [.c (.lit .u32 (0 : Int))] 45, .own [.a encLone 8 xs] 31, .own [.c (.ptr 3 0), .c (.sli 7 (.c 0) 1 (.v n) none), .c (.sli 8 (.c 0) 1 (.v n) (some (.v n)))] 70, .vec (encT 5) ts 44, .own [.a encBool n bs] 4, .own [.a (encInt IntKind.i64) 8 ak] 36])))))))))

 (.need (decide ((0 : Int) ≤ k) && decide (k.toNat < n))

 (.need (decide (k.toNat < n))

 (.br (bs.getD k.toNat false)

 (.br (decide (k < (0 : Int)))

 (.ret (.ret, [.sli 1 (.c 0) 1 (.v p.1.length) (some (.v p.2)), .sli 2 (.c 0) 1 (.v p.3.length) (some (.v p.4)), .bl false, .ptr 3 0, .ptr 5 0, .ptr 6 0, .ptr 9 0, .int .i64 (↑i : Int)], [.ro encLook [PUnit.unit], .ro encU8 p.1, .ro (encInt IntKind.i64) p.3, .own [.c (.sli 4 (.c 0) 1 (.c 1) (some (.c 1))), .c (.lit .i64 (0 : Int))] 67, .own [.c (.lit .u32 (0 : Int))] 45, .own [.a encLone 8 xs] 31, .own [.c (.ptr 3 0), .c (.sli 7 (.c 0) 1 (.v n) none), .c (.sli 8 (.c 0) 1 (.v n) (some (.v n)))] 70, .vec (encT 5) ts 44, .own [.a encBool n bs] 4, .own [.a (encInt IntKind.i64) 8 ak] 36]))

 (.br (decide ((↑p.1.length : Int) ≤ k))

 (.ret (.ret, [.sli 1 (.c 0) 1 (.v p.1.length) (some (.v p.2)), .sli 2 (.c 0) 1 (.v p.3.length) (some (.v p.4)), .bl false, .ptr 3 0, .ptr 5 0, .ptr 6 0, .ptr 9 0, .int .i64 (↑i : Int)], [.ro encLook [PUnit.unit], .ro encU8 p.1, .ro (encInt IntKind.i64) p.3, .own [.c (.sli 4 (.c 0) 1 (.c 1) (some (.c 1))), .c (.lit .i64 (0 : Int))] 67, .own [.c (.lit .u32 (0 : Int))] 45, .own [.a encLone 8 xs] 31, .own [.c (.ptr 3 0), .c (.sli 7 (.c 0) 1 (.v n) none), .c (.sli 8 (.c 0) 1 (.v n) (some (.v n)))] 70, .vec (encT 5) ts 44, .own [.a encBool n bs] 4, .own [.a (encInt IntKind.i64) 8 ak] 36]))

 (.need (decide ((0 : Int) ≤ k) && decide (k.toNat < 8))

 (.need (decide (k.toNat < 8))

 (.need (decide ((0 : Int) ≤ k) && decide (k.toNat < 8))

 (.need (decide (k.toNat < 8))

 (.br (decide (ak.getD k.toNat (0 : Int) < (xs.getD k.toNat encLone.dflt).2))

 (.need (decide ((0 : Int) ≤ k) && decide (k.toNat < 8))

 (.need (decide (k.toNat < 8))

 (.need (inR .i64 (ak.getD k.toNat (0 : Int) + (1 : Int)))

 (.need (decide ((0 : Int) ≤ k) && decide (k.toNat < 8))

 (.need (decide (k.toNat < 8))

 (.ret (.ret, [.sli 1 (.c 0) 1 (.v p.1.length) (some (.v p.2)), .sli 2 (.c 0) 1 (.v p.3.length) (some (.v p.4)), .bl false, .ptr 3 0, .ptr 5 0, .ptr 6 0, .ptr 9 0, .int .i64 (↑i : Int)], [.ro encLook [PUnit.unit], .ro encU8 p.1, .ro (encInt IntKind.i64) p.3, .own [.c (.sli 4 (.c 0) 1 (.c 1) (some (.c 1))), .c (.lit .i64 (0 : Int))] 67, .own [.c (.lit .u32 (0 : Int))] 45, .own [.a encLone 8 xs] 31, .own [.c (.ptr 3 0), .c (.sli 7 (.c 0) 1 (.v n) none), .c (.sli 8 (.c 0) 1 (.v n) (some (.v n)))] 70, .vec (encT 5) ts 44, .own [.a encBool n bs] 4, .own [.a (encInt IntKind.i64) 8 (ak.set k.toNat (ak.getD k.toNat (0 : Int) + (1 : Int)))] 36])))))))

 (.need (decide ((0 : Int) ≤ k) && decide (k.toNat < 8))

 (.need (decide (k.toNat < 8))

 (.need (decide ((0 : Int) ≤ k) && decide (k.toNat < 8))

 (.need (decide (k.toNat < 8))

 (.br ((xs.getD k.toNat encLone.dflt).1 != ak.getD k.toNat (0 : Int))
 (.eq (T.need (decide (k.toNat < (8 : Nat))) (T.ret ([SVal.int IntKind.i64 (xs.getD k.toNat encLone.dflt).1, SVal.int IntKind.i64 (xs.getD k.toNat encLone.dflt).2].getD (0 : Nat) SVal.bad)) = T.need (decide (k.toNat < (8 : Nat))) (T.ret ([SVal.int IntKind.i64 (xs.getD k.toNat encLone.dflt).1, SVal.int IntKind.i64 (xs.getD k.toNat encLone.dflt).2].getD (0 : Nat) SVal.bad)))
 (.eq (T.need (decide (k.toNat < (8 : Nat))) (T.ret ([SVal.int IntKind.i64 (ak.getD k.toNat (0 : Int))].getD (0 : Nat) SVal.bad)) = T.need (decide (k.toNat < (8 : Nat))) (T.ret ([SVal.int IntKind.i64 (ak.getD k.toNat (0 : Int))].getD (0 : Nat) SVal.bad)))

 (.ret (.ret, [.sli 1 (.c 0) 1 (.v p.1.length) (some (.v p.2)), .sli 2 (.c 0) 1 (.v p.3.length) (some (.v p.4)), .bl false, .ptr 3 0, .ptr 5 0, .ptr 6 0, .ptr 9 0, .int .i64 (↑i : Int)], [.ro encLook [PUnit.unit], .ro encU8 p.1, .ro (encInt IntKind.i64) p.3, .own [.c (.sli 4 (.c 0) 1 (.c 1) (some (.c 1))), .c (.lit .i64 (0 : Int))] 67, .own [.c (.lit .u32 (0 : Int))] 45, .own [.a encLone 8 xs] 31, .own [.c (.ptr 3 0), .c (.sli 7 (.c 0) 1 (.v n) none), .c (.sli 8 (.c 0) 1 (.v n) (some (.v n)))] 70, .vec (encT 5) ts 44, .own [.a encBool n bs] 4, .own [.a (encInt IntKind.i64) 8 ak] 36]))))

 (.br (decide ((0 : Int) ≤ k))

 (.br (decide (k < (↑n : Int)))

 (.need (decide ((0 : Int) ≤ k) && decide (k.toNat < n))

 (.need (decide (k.toNat < n))

 (.need (decide ((0 : Int) ≤ k) && decide (k.toNat < 8))

 (.need (decide (k.toNat < 8))

 (.need (decide ((0 : Int) ≤ k) && decide (k.toNat < 8))

 (.need (decide (k.toNat < 8))
 (.eq (T.need (decide (k.toNat < (8 : Nat))) (T.ret ([SVal.int IntKind.i64 (xs.getD k.toNat encLone.dflt).1, SVal.int IntKind.i64 (xs.getD k.toNat encLone.dflt).2].getD (0 : Nat) SVal.bad)) = T.need (decide (k.toNat < (8 : Nat))) (T.ret ([SVal.int IntKind.i64 (xs.getD k.toNat encLone.dflt).1, SVal.int IntKind.i64 (xs.getD k.toNat encLone.dflt).2].getD (0 : Nat) SVal.bad)))
 (.eq (T.need (decide (k.toNat < (8 : Nat))) (T.ret ([SVal.int IntKind.i64 (ak.getD k.toNat (0 : Int))].getD (0 : Nat) SVal.bad)) = T.need (decide (k.toNat < (8 : Nat))) (T.ret ([SVal.int IntKind.i64 (ak.getD k.toNat (0 : Int))].getD (0 : Nat) SVal.bad)))
 (.eq (T.need (decide (k.toNat < (8 : Nat))) (T.ret ([SVal.int IntKind.i64 (ak.getD k.toNat (0 : Int))].getD (0 : Nat) SVal.bad)) = T.need (decide (k.toNat < (8 : Nat))) (T.ret ([SVal.int IntKind.i64 (ak.getD k.toNat (0 : Int))].getD (0 : Nat) SVal.bad)))
 (.eq (T.need (decide (k.toNat < (8 : Nat))) (T.ret ([SVal.int IntKind.i64 (ak.getD k.toNat (0 : Int))].getD (0 : Nat) SVal.bad)) = T.need (decide (k.toNat < (8 : Nat))) (T.ret ([SVal.int IntKind.i64 (ak.getD k.toNat (0 : Int))].getD (0 : Nat) SVal.bad)))
 (.eq (T.need (decide (k.toNat < (8 : Nat))) (T.ret ([SVal.int IntKind.i64 (xs.getD k.toNat encLone.dflt).1, SVal.int IntKind.i64 (xs.getD k.toNat encLone.dflt).2].getD (1 : Nat) SVal.bad)) = T.need (decide (k.toNat < (8 : Nat))) (T.ret ([SVal.int IntKind.i64 (xs.getD k.toNat encLone.dflt).1, SVal.int IntKind.i64 (xs.getD k.toNat encLone.dflt).2].getD (1 : Nat) SVal.bad)))
 (.eq (T.need (decide (k.toNat < (8 : Nat))) (T.ret ([SVal.int IntKind.i64 (xs.getD k.toNat encLone.dflt).1, SVal.int IntKind.i64 (xs.getD k.toNat encLone.dflt).2].getD (1 : Nat) SVal.bad)) = T.need (decide (k.toNat < (8 : Nat))) (T.ret ([SVal.int IntKind.i64 (xs.getD k.toNat encLone.dflt).1, SVal.int IntKind.i64 (xs.getD k.toNat encLone.dflt).2].getD (1 : Nat) SVal.bad)))

 (.br (!bs.getD k.toNat false == (ak.getD k.toNat (0 : Int) == (xs.getD k.toNat encLone.dflt).2))

 (.ret (.ret, [.sli 1 (.c 0) 1 (.v p.1.length) (some (.v p.2)), .sli 2 (.c 0) 1 (.v p.3.length) (some (.v p.4)), .bl false, .ptr 3 0, .ptr 5 0, .ptr 6 0, .ptr 9 0, .int .i64 (↑i : Int)], [.ro encLook [PUnit.unit], .ro encU8 p.1, .ro (encInt IntKind.i64) p.3, .own [.c (.sli 4 (.c 0) 1 (.c 1) (some (.c 1))), .c (.lit .i64 (0 : Int))] 67, .own [.c (.lit .u32 (0 : Int))] 45, .own [.a encLone 8 xs] 31, .own [.c (.ptr 3 0), .c (.sli 7 (.c 0) 1 (.v n) none), .c (.sli 8 (.c 0) 1 (.v n) (some (.v n)))] 70, .vec (encT 5) ts 44, .own [.a encBool n bs] 4, .own [.a (encInt IntKind.i64) 8 ak] 36]))

 (.ret (.normal, [.sli 1 (.c 0) 1 (.v p.1.length) (some (.v p.2)), .sli 2 (.c 0) 1 (.v p.3.length) (some (.v p.4)), .bl false, .ptr 3 0, .ptr 5 0, .ptr 6 0, .ptr 9 0, .int .i64 (↑i : Int)], [.ro encLook [PUnit.unit], .ro encU8 p.1, .ro (encInt IntKind.i64) p.3, .own [.c (.sli 4 (.c 0) 1 (.c 1) (some (.c 1))), .c (.lit .i64 (0 : Int))] 67, .own [.c (.lit .u32 (0 : Int))] 45, .own [.a encLone 8 xs] 31, .own [.c (.ptr 3 0), .c (.sli 7 (.c 0) 1 (.v n) none), .c (.sli 8 (.c 0) 1 (.v n) (some (.v n)))] 70, .vec (encT 5) ts 44, .own [.a encBool n bs] 4, .own [.a (encInt IntKind.i64) 8 ak] 36])))))))))))))))

 (.need (decide ((0 : Int) ≤ k) && decide (k.toNat < 8))

 (.need (decide (k.toNat < 8))

 (.need (decide ((0 : Int) ≤ k) && decide (k.toNat < 8))

 (.need (decide (k.toNat < 8))
 (.eq (T.need (decide (k.toNat < (8 : Nat))) (T.ret ([SVal.int IntKind.i64 (xs.getD k.toNat encLone.dflt).1, SVal.int IntKind.i64 (xs.getD k.toNat encLone.dflt).2].getD (0 : Nat) SVal.bad)) = T.need (decide (k.toNat < (8 : Nat))) (T.ret ([SVal.int IntKind.i64 (xs.getD k.toNat encLone.dflt).1, SVal.int IntKind.i64 (xs.getD k.toNat encLone.dflt).2].getD (0 : Nat) SVal.bad)))
 (.eq (T.need (decide (k.toNat < (8 : Nat))) (T.ret ([SVal.int IntKind.i64 (ak.getD k.toNat (0 : Int))].getD (0 : Nat) SVal.bad)) = T.need (decide (k.toNat < (8 : Nat))) (T.ret ([SVal.int IntKind.i64 (ak.getD k.toNat (0 : Int))].getD (0 : Nat) SVal.bad)))
 (.eq (T.need (decide (k.toNat < (8 : Nat))) (T.ret ([SVal.int IntKind.i64 (ak.getD k.toNat (0 : Int))].getD (0 : Nat) SVal.bad)) = T.need (decide (k.toNat < (8 : Nat))) (T.ret ([SVal.int IntKind.i64 (ak.getD k.toNat (0 : Int))].getD (0 : Nat) SVal.bad)))
 (.eq (T.need (decide (k.toNat < (8 : Nat))) (T.ret ([SVal.int IntKind.i64 (ak.getD k.toNat (0 : Int))].getD (0 : Nat) SVal.bad)) = T.need (decide (k.toNat < (8 : Nat))) (T.ret ([SVal.int IntKind.i64 (ak.getD k.toNat (0 : Int))].getD (0 : Nat) SVal.bad)))
 (.eq (T.need (decide (k.toNat < (8 : Nat))) (T.ret ([SVal.int IntKind.i64 (xs.getD k.toNat encLone.dflt).1, SVal.int IntKind.i64 (xs.getD k.toNat encLone.dflt).2].getD (1 : Nat) SVal.bad)) = T.need (decide (k.toNat < (8 : Nat))) (T.ret ([SVal.int IntKind.i64 (xs.getD k.toNat encLone.dflt).1, SVal.int IntKind.i64 (xs.getD k.toNat encLone.dflt).2].getD (1 : Nat) SVal.bad)))
 (.eq (T.need (decide (k.toNat < (8 : Nat))) (T.ret ([SVal.int IntKind.i64 (xs.getD k.toNat encLone.dflt).1, SVal.int IntKind.i64 (xs.getD k.toNat encLone.dflt).2].getD (1 : Nat) SVal.bad)) = T.need (decide (k.toNat < (8 : Nat))) (T.ret ([SVal.int IntKind.i64 (xs.getD k.toNat encLone.dflt).1, SVal.int IntKind.i64 (xs.getD k.toNat encLone.dflt).2].getD (1 : Nat) SVal.bad)))

 (.br (!false == (ak.getD k.toNat (0 : Int) == (xs.getD k.toNat encLone.dflt).2))

 (.ret (.ret, [.sli 1 (.c 0) 1 (.v p.1.length) (some (.v p.2)), .sli 2 (.c 0) 1 (.v p.3.length) (some (.v p.4)), .bl false, .ptr 3 0, .ptr 5 0, .ptr 6 0, .ptr 9 0, .int .i64 (↑i : Int)], [.ro encLook [PUnit.unit], .ro encU8 p.1, .ro (encInt IntKind.i64) p.3, .own [.c (.sli 4 (.c 0) 1 (.c 1) (some (.c 1))), .c (.lit .i64 (0 : Int))] 67, .own [.c (.lit .u32 (0 : Int))] 45, .own [.a encLone 8 xs] 31, .own [.c (.ptr 3 0), .c (.sli 7 (.c 0) 1 (.v n) none), .c (.sli 8 (.c 0) 1 (.v n) (some (.v n)))] 70, .vec (encT 5) ts 44, .own [.a encBool n bs] 4, .own [.a (encInt IntKind.i64) 8 ak] 36]))

 (.ret (.normal, [.sli 1 (.c 0) 1 (.v p.1.length) (some (.v p.2)), .sli 2 (.c 0) 1 (.v p.3.length) (some (.v p.4)), .bl false, .ptr 3 0, .ptr 5 0, .ptr 6 0, .ptr 9 0, .int .i64 (↑i : Int)], [.ro encLook [PUnit.unit], .ro encU8 p.1, .ro (encInt IntKind.i64) p.3, .own [.c (.sli 4 (.c 0) 1 (.c 1) (some (.c 1))), .c (.lit .i64 (0 : Int))] 67, .own [.c (.lit .u32 (0 : Int))] 45, .own [.a encLone 8 xs] 31, .own [.c (.ptr 3 0), .c (.sli 7 (.c 0) 1 (.v n) none), .c (.sli 8 (.c 0) 1 (.v n) (some (.v n)))] 70, .vec (encT 5) ts 44, .own [.a encBool n bs] 4, .own [.a (encInt IntKind.i64) 8 ak] 36]))))))))))))))

 (.need (decide ((0 : Int) ≤ k) && decide (k.toNat < 8))

 (.need (decide (k.toNat < 8))

 (.need (decide ((0 : Int) ≤ k) && decide (k.toNat < 8))

 (.need (decide (k.toNat < 8))
 (.eq (T.need (decide (k.toNat < (8 : Nat))) (T.ret ([SVal.int IntKind.i64 (xs.getD k.toNat encLone.dflt).1, SVal.int IntKind.i64 (xs.getD k.toNat encLone.dflt).2].getD (0 : Nat) SVal.bad)) = T.need (decide (k.toNat < (8 : Nat))) (T.ret ([SVal.int IntKind.i64 (xs.getD k.toNat encLone.dflt).1, SVal.int IntKind.i64 (xs.getD k.toNat encLone.dflt).2].getD (0 : Nat) SVal.bad)))
 (.eq (T.need (decide (k.toNat < (8 : Nat))) (T.ret ([SVal.int IntKind.i64 (ak.getD k.toNat (0 : Int))].getD (0 : Nat) SVal.bad)) = T.need (decide (k.toNat < (8 : Nat))) (T.ret ([SVal.int IntKind.i64 (ak.getD k.toNat (0 : Int))].getD (0 : Nat) SVal.bad)))
 (.eq (T.need (decide (k.toNat < (8 : Nat))) (T.ret ([SVal.int IntKind.i64 (ak.getD k.toNat (0 : Int))].getD (0 : Nat) SVal.bad)) = T.need (decide (k.toNat < (8 : Nat))) (T.ret ([SVal.int IntKind.i64 (ak.getD k.toNat (0 : Int))].getD (0 : Nat) SVal.bad)))
 (.eq (T.need (decide (k.toNat < (8 : Nat))) (T.ret ([SVal.int IntKind.i64 (ak.getD k.toNat (0 : Int))].getD (0 : Nat) SVal.bad)) = T.need (decide (k.toNat < (8 : Nat))) (T.ret ([SVal.int IntKind.i64 (ak.getD k.toNat (0 : Int))].getD (0 : Nat) SVal.bad)))
 (.eq (T.need (decide (k.toNat < (8 : Nat))) (T.ret ([SVal.int IntKind.i64 (xs.getD k.toNat encLone.dflt).1, SVal.int IntKind.i64 (xs.getD k.toNat encLone.dflt).2].getD (1 : Nat) SVal.bad)) = T.need (decide (k.toNat < (8 : Nat))) (T.ret ([SVal.int IntKind.i64 (xs.getD k.toNat encLone.dflt).1, SVal.int IntKind.i64 (xs.getD k.toNat encLone.dflt).2].getD (1 : Nat) SVal.bad)))
 (.eq (T.need (decide (k.toNat < (8 : Nat))) (T.ret ([SVal.int IntKind.i64 (xs.getD k.toNat encLone.dflt).1, SVal.int IntKind.i64 (xs.getD k.toNat encLone.dflt).2].getD (1 : Nat) SVal.bad)) = T.need (decide (k.toNat < (8 : Nat))) (T.ret ([SVal.int IntKind.i64 (xs.getD k.toNat encLone.dflt).1, SVal.int IntKind.i64 (xs.getD k.toNat encLone.dflt).2].getD (1 : Nat) SVal.bad)))

 (.br (!false == (ak.getD k.toNat (0 : Int) == (xs.getD k.toNat encLone.dflt).2))

 (.ret (.ret, [.sli 1 (.c 0) 1 (.v p.1.length) (some (.v p.2)), .sli 2 (.c 0) 1 (.v p.3.length) (some (.v p.4)), .bl false, .ptr 3 0, .ptr 5 0, .ptr 6 0, .ptr 9 0, .int .i64 (↑i : Int)], [.ro encLook [PUnit.unit], .ro encU8 p.1, .ro (encInt IntKind.i64) p.3, .own [.c (.sli 4 (.c 0) 1 (.c 1) (some (.c 1))), .c (.lit .i64 (0 : Int))] 67, .own [.c (.lit .u32 (0 : Int))] 45, .own [.a encLone 8 xs] 31, .own [.c (.ptr 3 0), .c (.sli 7 (.c 0) 1 (.v n) none), .c (.sli 8 (.c 0) 1 (.v n) (some (.v n)))] 70, .vec (encT 5) ts 44, .own [.a encBool n bs] 4, .own [.a (encInt IntKind.i64) 8 ak] 36]))

 (.ret (.normal, [.sli 1 (.c 0) 1 (.v p.1.length) (some (.v p.2)), .sli 2 (.c 0) 1 (.v p.3.length) (some (.v p.4)), .bl false, .ptr 3 0, .ptr 5 0, .ptr 6 0, .ptr 9 0, .int .i64 (↑i : Int)], [.ro encLook [PUnit.unit], .ro encU8 p.1, .ro (encInt IntKind.i64) p.3, .own [.c (.sli 4 (.c 0) 1 (.c 1) (some (.c 1))), .c (.lit .i64 (0 : Int))] 67, .own [.c (.lit .u32 (0 : Int))] 45, .own [.a encLone 8 xs] 31, .own [.c (.ptr 3 0), .c (.sli 7 (.c 0) 1 (.v n) none), .c (.sli 8 (.c 0) 1 (.v n) (some (.v n)))] 70, .vec (encT 5) ts 44, .own [.a encBool n bs] 4, .own [.a (encInt IntKind.i64) 8 ak] 36]))))))))))))))))))))))))))

 (.need (decide ((0 : Int) ≤ k) && decide (k.toNat < n))

 (.need (decide (k.toNat < ts.length))

 (.need (decide (ts.getD k.toNat 0 < 8))

 (.need (inR .i64 ((xs.getD (ts.getD k.toNat 0) encLone.dflt).1 + (1 : Int)))

 (.need (decide (ts.getD k.toNat 0 < 8))

 (.need (decide (ts.getD k.toNat 0 < 8))

 (.need (decide (ts.getD k.toNat 0 < 8))

 (.need (decide ((0 : Int) ≤ k) && decide (k.toNat < n))

 (.need (decide (k.toNat < n))
 (.eq (T.ret (SVal.sli (8 : Nat) (NN.c (0 : Nat)) (1 : Nat) (NN.v n) (some (NN.v n))) = T.ret (SVal.sli (8 : Nat) (NN.c (0 : Nat)) (1 : Nat) (NN.v n) (some (NN.v n))))
 (.eq (T.ret (SVal.sli (8 : Nat) (NN.c (0 : Nat)) (1 : Nat) (NN.v n) (some (NN.v n))) = T.ret (SVal.sli (8 : Nat) (NN.c (0 : Nat)) (1 : Nat) (NN.v n) (some (NN.v n))))
 (.eq (T.ret (SVal.sli (7 : Nat) (NN.c (0 : Nat)) (1 : Nat) (NN.v n) none) = T.ret (SVal.sli (7 : Nat) (NN.c (0 : Nat)) (1 : Nat) (NN.v n) none))
 (.eq (T.need (decide (k.toNat < ts.length)) (T.ret ([SVal.ifc (33 : Nat) (SVal.pti (5 : Nat) (0 : Nat) (ts.getD k.toNat (0 : Nat)) (2 : Nat) (0 : Nat))].getD (0 : Nat) SVal.bad)) = T.need (decide (k.toNat < ts.length)) (T.ret ([SVal.ifc (33 : Nat) (SVal.pti (5 : Nat) (0 : Nat) (ts.getD k.toNat (0 : Nat)) (2 : Nat) (0 : Nat))].getD (0 : Nat) SVal.bad)))

 (.br (decide (k < (0 : Int)))

 (.ret (.ret, [.sli 1 (.c 0) 1 (.v p.1.length) (some (.v p.2)), .sli 2 (.c 0) 1 (.v p.3.length) (some (.v p.4)), .bl false, .ptr 3 0, .ptr 5 0, .ptr 6 0, .ptr 9 0, .int .i64 (↑i : Int)], [.ro encLook [PUnit.unit], .ro encU8 p.1, .ro (encInt IntKind.i64) p.3, .own [.c (.sli 4 (.c 0) 1 (.c 1) (some (.c 1))), .c (.lit .i64 (0 : Int))] 67, .own [.c (.lit .u32 (0 : Int))] 45, .own [.a encLone 8 (xs.set (ts.getD k.toNat 0) { n := (xs.getD (ts.getD k.toNat 0) encLone.dflt).1 + (1 : Int), last := (xs.getD (ts.getD k.toNat 0) encLone.dflt).2 })] 31, .own [.c (.ptr 3 0), .c (.sli 7 (.c 0) 1 (.v n) none), .c (.sli 8 (.c 0) 1 (.v n) (some (.v n)))] 70, .vec (encT 5) ts 44, .own [.a encBool n (bs.set k.toNat (((xs.set (ts.getD k.toNat 0) { n := (xs.getD (ts.getD k.toNat 0) encLone.dflt).1 + (1 : Int), last := (xs.getD (ts.getD k.toNat 0) encLone.dflt).2 }).getD (ts.getD k.toNat 0) encLone.dflt).1 == ((xs.set (ts.getD k.toNat 0) { n := (xs.getD (ts.getD k.toNat 0) encLone.dflt).1 + (1 : Int), last := (xs.getD (ts.getD k.toNat 0) encLone.dflt).2 }).getD (ts.getD k.toNat 0) encLone.dflt).2))] 4, .own [.a (encInt IntKind.i64) 8 ak] 36]))

 (.br (decide ((↑p.1.length : Int) ≤ k))

 (.ret (.ret, [.sli 1 (.c 0) 1 (.v p.1.length) (some (.v p.2)), .sli 2 (.c 0) 1 (.v p.3.length) (some (.v p.4)), .bl false, .ptr 3 0, .ptr 5 0, .ptr 6 0, .ptr 9 0, .int .i64 (↑i : Int)], [.ro encLook [PUnit.unit], .ro encU8 p.1, .ro (encInt IntKind.i64) p.3, .own [.c (.sli 4 (.c 0) 1 (.c 1) (some (.c 1))), .c (.lit .i64 (0 : Int))] 67, .own [.c (.lit .u32 (0 : Int))] 45, .own [.a encLone 8 (xs.set (ts.getD k.toNat 0) { n := (xs.getD (ts.getD k.toNat 0) encLone.dflt).1 + (1 : Int), last := (xs.getD (ts.getD k.toNat 0) encLone.dflt).2 })] 31, .own [.c (.ptr 3 0), .c (.sli 7 (.c 0) 1 (.v n) none), .c (.sli 8 (.c 0) 1 (.v n) (some (.v n)))] 70, .vec (encT 5) ts 44, .own [.a encBool n (bs.set k.toNat (((xs.set (ts.getD k.toNat 0) { n := (xs.getD (ts.getD k.toNat 0) encLone.dflt).1 + (1 : Int), last := (xs.getD (ts.getD k.toNat 0) encLone.dflt).2 }).getD (ts.getD k.toNat 0) encLone.dflt).1 == ((xs.set (ts.getD k.toNat 0) { n := (xs.getD (ts.getD k.toNat 0) encLone.dflt).1 + (1 : Int), last := (xs.getD (ts.getD k.toNat 0) encLone.dflt).2 }).getD (ts.getD k.toNat 0) encLone.dflt).2))] 4, .own [.a (encInt IntKind.i64) 8 ak] 36]))

 (.need (decide ((0 : Int) ≤ k) && decide (k.toNat < 8))

 (.need (decide (k.toNat < 8))

 (.need (decide ((0 : Int) ≤ k) && decide (k.toNat < 8))

 (.need (decide (k.toNat < 8))

 (.br (decide (ak.getD k.toNat (0 : Int) < ((xs.set (ts.getD k.toNat 0) { n := (xs.getD (ts.getD k.toNat 0) encLone.dflt).1 + (1 : Int), last := (xs.getD (ts.getD k.toNat 0) encLone.dflt).2 }).getD k.toNat encLone.dflt).2))

 (.need (decide ((0 : Int) ≤ k) && decide (k.toNat < 8))

 (.need (decide (k.toNat < 8))

 (.need (inR .i64 (ak.getD k.toNat (0 : Int) + (1 : Int)))

 (.need (decide ((0 : Int) ≤ k) && decide (k.toNat < 8))

 (.need (decide (k.toNat < 8))

 (.need (decide ((0 : Int) ≤ k) && decide (k.toNat < 8))

 (.need (decide (k.toNat < 8))

 (.need (decide ((0 : Int) ≤ k) && decide (k.toNat < 8))

 (.need (decide (k.toNat < 8))

 (.br (((xs.set (ts.getD k.toNat 0) { n := (xs.getD (ts.getD k.toNat 0) encLone.dflt).1 + (1 : Int), last := (xs.getD (ts.getD k.toNat 0) encLone.dflt).2 }).getD k.toNat encLone.dflt).1 != (ak.set k.toNat (ak.getD k.toNat (0 : Int) + (1 : Int))).getD k.toNat (0 : Int))
 (.eq (T.need (decide (k.toNat < (8 : Nat))) (T.ret ([SVal.int IntKind.i64 ((xs.set (ts.getD k.toNat (0 : Nat)) { n := (xs.getD (ts.getD k.toNat (0 : Nat)) encLone.dflt).1 + (1 : Int), last := (xs.getD (ts.getD k.toNat (0 : Nat)) encLone.dflt).2 }).getD k.toNat encLone.dflt).1, SVal.int IntKind.i64 ((xs.set (ts.getD k.toNat (0 : Nat)) { n := (xs.getD (ts.getD k.toNat (0 : Nat)) encLone.dflt).1 + (1 : Int), last := (xs.getD (ts.getD k.toNat (0 : Nat)) encLone.dflt).2 }).getD k.toNat encLone.dflt).2].getD (0 : Nat) SVal.bad)) = T.need (decide (k.toNat < (8 : Nat))) (T.ret ([SVal.int IntKind.i64 ((xs.set (ts.getD k.toNat (0 : Nat)) { n := (xs.getD (ts.getD k.toNat (0 : Nat)) encLone.dflt).1 + (1 : Int), last := (xs.getD (ts.getD k.toNat (0 : Nat)) encLone.dflt).2 }).getD k.toNat encLone.dflt).1, SVal.int IntKind.i64 ((xs.set (ts.getD k.toNat (0 : Nat)) { n := (xs.getD (ts.getD k.toNat (0 : Nat)) encLone.dflt).1 + (1 : Int), last := (xs.getD (ts.getD k.toNat (0 : Nat)) encLone.dflt).2 }).getD k.toNat encLone.dflt).2].getD (0 : Nat) SVal.bad)))
 (.eq (T.need (decide (k.toNat < (8 : Nat))) (T.ret ([SVal.int IntKind.i64 ((ak.set k.toNat (ak.getD k.toNat (0 : Int) + (1 : Int))).getD k.toNat (0 : Int))].getD (0 : Nat) SVal.bad)) = T.need (decide (k.toNat < (8 : Nat))) (T.ret ([SVal.int IntKind.i64 ((ak.set k.toNat (ak.getD k.toNat (0 : Int) + (1 : Int))).getD k.toNat (0 : Int))].getD (0 : Nat) SVal.bad)))

 (.ret (.ret, [.sli 1 (.c 0) 1 (.v p.1.length) (some (.v p.2)), .sli 2 (.c 0) 1 (.v p.3.length) (some (.v p.4)), .bl false, .ptr 3 0, .ptr 5 0, .ptr 6 0, .ptr 9 0, .int .i64 (↑i : Int)], [.ro encLook [PUnit.unit], .ro encU8 p.1, .ro (encInt IntKind.i64) p.3, .own [.c (.sli 4 (.c 0) 1 (.c 1) (some (.c 1))), .c (.lit .i64 (0 : Int))] 67, .own [.c (.lit .u32 (0 : Int))] 45, .own [.a encLone 8 (xs.set (ts.getD k.toNat 0) { n := (xs.getD (ts.getD k.toNat 0) encLone.dflt).1 + (1 : Int), last := (xs.getD (ts.getD k.toNat 0) encLone.dflt).2 })] 31, .own [.c (.ptr 3 0), .c (.sli 7 (.c 0) 1 (.v n) none), .c (.sli 8 (.c 0) 1 (.v n) (some (.v n)))] 70, .vec (encT 5) ts 44, .own [.a encBool n (bs.set k.toNat (((xs.set (ts.getD k.toNat 0) { n := (xs.getD (ts.getD k.toNat 0) encLone.dflt).1 + (1 : Int), last := (xs.getD (ts.getD k.toNat 0) encLone.dflt).2 }).getD (ts.getD k.toNat 0) encLone.dflt).1 == ((xs.set (ts.getD k.toNat 0) { n := (xs.getD (ts.getD k.toNat 0) encLone.dflt).1 + (1 : Int), last := (xs.getD (ts.getD k.toNat 0) encLone.dflt).2 }).getD (ts.getD k.toNat 0) encLone.dflt).2))] 4, .own [.a (encInt IntKind.i64) 8 (ak.set k.toNat (ak.getD k.toNat (0 : Int) + (1 : Int)))] 36]))))

 (.br (decide ((0 : Int) ≤ k))

 (.br (decide (k < (↑n : Int)))

 (.need (decide ((0 : Int) ≤ k) && decide (k.toNat < n))

 (.need (decide (k.toNat < n))

 (.need (decide ((0 : Int) ≤ k) && decide (k.toNat < 8))

 (.need (decide (k.toNat < 8))

 (.need (decide ((0 : Int) ≤ k) && decide (k.toNat < 8))

 (.need (decide (k.toNat < 8))
 (.eq (T.need (decide (k.toNat < (8 : Nat))) (T.ret ([SVal.int IntKind.i64 ((xs.set (ts.getD k.toNat (0 : Nat)) { n := (xs.getD (ts.getD k.toNat (0 : Nat)) encLone.dflt).1 + (1 : Int), last := (xs.getD (ts.getD k.toNat (0 : Nat)) encLone.dflt).2 }).getD k.toNat encLone.dflt).1, SVal.int IntKind.i64 ((xs.set (ts.getD k.toNat (0 : Nat)) { n := (xs.getD (ts.getD k.toNat (0 : Nat)) encLone.dflt).1 + (1 : Int), last := (xs.getD (ts.getD k.toNat (0 : Nat)) encLone.dflt).2 }).getD k.toNat encLone.dflt).2].getD (0 : Nat) SVal.bad)) = T.need (decide (k.toNat < (8 : Nat))) (T.ret ([SVal.int IntKind.i64 ((xs.set (ts.getD k.toNat (0 : Nat)) { n := (xs.getD (ts.getD k.toNat (0 : Nat)) encLone.dflt).1 + (1 : Int), last := (xs.getD (ts.getD k.toNat (0 : Nat)) encLone.dflt).2 }).getD k.toNat encLone.dflt).1, SVal.int IntKind.i64 ((xs.set (ts.getD k.toNat (0 : Nat)) { n := (xs.getD (ts.getD k.toNat (0 : Nat)) encLone.dflt).1 + (1 : Int), last := (xs.getD (ts.getD k.toNat (0 : Nat)) encLone.dflt).2 }).getD k.toNat encLone.dflt).2].getD (0 : Nat) SVal.bad)))
 (.eq (T.need (decide (k.toNat < (8 : Nat))) (T.ret ([SVal.int IntKind.i64 ((ak.set k.toNat (ak.getD k.toNat (0 : Int) + (1 : Int))).getD k.toNat (0 : Int))].getD (0 : Nat) SVal.bad)) = T.need (decide (k.toNat < (8 : Nat))) (T.ret ([SVal.int IntKind.i64 ((ak.set k.toNat (ak.getD k.toNat (0 : Int) + (1 : Int))).getD k.toNat (0 : Int))].getD (0 : Nat) SVal.bad)))
 (.eq (T.need (decide (k.toNat < (8 : Nat))) (T.ret ([SVal.int IntKind.i64 ((ak.set k.toNat (ak.getD k.toNat (0 : Int) + (1 : Int))).getD k.toNat (0 : Int))].getD (0 : Nat) SVal.bad)) = T.need (decide (k.toNat < (8 : Nat))) (T.ret ([SVal.int IntKind.i64 ((ak.set k.toNat (ak.getD k.toNat (0 : Int) + (1 : Int))).getD k.toNat (0 : Int))].getD (0 : Nat) SVal.bad)))
 (.eq (T.need (decide (k.toNat < (8 : Nat))) (T.ret ([SVal.int IntKind.i64 ((ak.set k.toNat (ak.getD k.toNat (0 : Int) + (1 : Int))).getD k.toNat (0 : Int))].getD (0 : Nat) SVal.bad)) = T.need (decide (k.toNat < (8 : Nat))) (T.ret ([SVal.int IntKind.i64 ((ak.set k.toNat (ak.getD k.toNat (0 : Int) + (1 : Int))).getD k.toNat (0 : Int))].getD (0 : Nat) SVal.bad)))
 (.eq (T.need (decide (k.toNat < (8 : Nat))) (T.ret ([SVal.int IntKind.i64 ((xs.set (ts.getD k.toNat (0 : Nat)) { n := (xs.getD (ts.getD k.toNat (0 : Nat)) encLone.dflt).1 + (1 : Int), last := (xs.getD (ts.getD k.toNat (0 : Nat)) encLone.dflt).2 }).getD k.toNat encLone.dflt).1, SVal.int IntKind.i64 ((xs.set (ts.getD k.toNat (0 : Nat)) { n := (xs.getD (ts.getD k.toNat (0 : Nat)) encLone.dflt).1 + (1 : Int), last := (xs.getD (ts.getD k.toNat (0 : Nat)) encLone.dflt).2 }).getD k.toNat encLone.dflt).2].getD (1 : Nat) SVal.bad)) = T.need (decide (k.toNat < (8 : Nat))) (T.ret ([SVal.int IntKind.i64 ((xs.set (ts.getD k.toNat (0 : Nat)) { n := (xs.getD (ts.getD k.toNat (0 : Nat)) encLone.dflt).1 + (1 : Int), last := (xs.getD (ts.getD k.toNat (0 : Nat)) encLone.dflt).2 }).getD k.toNat encLone.dflt).1, SVal.int IntKind.i64 ((xs.set (ts.getD k.toNat (0 : Nat)) { n := (xs.getD (ts.getD k.toNat (0 : Nat)) encLone.dflt).1 + (1 : Int), last := (xs.getD (ts.getD k.toNat (0 : Nat)) encLone.dflt).2 }).getD k.toNat encLone.dflt).2].getD (1 : Nat) SVal.bad)))
 (.eq (T.need (decide (k.toNat < (8 : Nat))) (T.ret ([SVal.int IntKind.i64 ((xs.set (ts.getD k.toNat (0 : Nat)) { n := (xs.getD (ts.getD k.toNat (0 : Nat)) encLone.dflt).1 + (1 : Int), last := (xs.getD (ts.getD k.toNat (0 : Nat)) encLone.dflt).2 }).getD k.toNat encLone.dflt).1, SVal.int IntKind.i64 ((xs.set (ts.getD k.toNat (0 : Nat)) { n := (xs.getD (ts.getD k.toNat (0 : Nat)) encLone.dflt).1 + (1 : Int), last := (xs.getD (ts.getD k.toNat (0 : Nat)) encLone.dflt).2 }).getD k.toNat encLone.dflt).2].getD (1 : Nat) SVal.bad)) = T.need (decide (k.toNat < (8 : Nat))) (T.ret ([SVal.int IntKind.i64 ((xs.set (ts.getD k.toNat (0 : Nat)) { n := (xs.getD (ts.getD k.toNat (0 : Nat)) encLone.dflt).1 + (1 : Int), last := (xs.getD (ts.getD k.toNat (0 : Nat)) encLone.dflt).2 }).getD k.toNat encLone.dflt).1, SVal.int IntKind.i64 ((xs.set (ts.getD k.toNat (0 : Nat)) { n := (xs.getD (ts.getD k.toNat (0 : Nat)) encLone.dflt).1 + (1 : Int), last := (xs.getD (ts.getD k.toNat (0 : Nat)) encLone.dflt).2 }).getD k.toNat encLone.dflt).2].getD (1 : Nat) SVal.bad)))

 (.br (!(bs.set k.toNat (((xs.set (ts.getD k.toNat 0) { n := (xs.getD (ts.getD k.toNat 0) encLone.dflt).1 + (1 : Int), last := (xs.getD (ts.getD k.toNat 0) encLone.dflt).2 }).getD (ts.getD k.toNat 0) encLone.dflt).1 == ((xs.set (ts.getD k.toNat 0) { n := (xs.getD (ts.getD k.toNat 0) encLone.dflt).1 + (1 : Int), last := (xs.getD (ts.getD k.toNat 0) encLone.dflt).2 }).getD (ts.getD k.toNat 0) encLone.dflt).2)).getD k.toNat false == ((ak.set k.toNat (ak.getD k.toNat (0 : Int) + (1 : Int))).getD k.toNat (0 : Int) == ((xs.set (ts.getD k.toNat 0) { n := (xs.getD (ts.getD k.toNat 0) encLone.dflt).1 + (1 : Int), last := (xs.getD (ts.getD k.toNat 0) encLone.dflt).2 }).getD k.toNat encLone.dflt).2))

 (.ret (.ret, [.sli 1 (.c 0) 1 (.v p.1.length) (some (.v p.2)), .sli 2 (.c 0) 1 (.v p.3.length) (some (.v p.4)), .bl false, .ptr 3 0, .ptr 5 0, .ptr 6 0, .ptr 9 0, .int .i64 (↑i : Int)], [.ro encLook [PUnit.unit], .ro encU8 p.1, .ro (encInt IntKind.i64) p.3, .own [.c (.sli 4 (.c 0) 1 (.c 1) (some (.c 1))), .c (.lit .i64 (0 : Int))] 67, .own [.c (.lit .u32 (0 : Int))] 45, .own [.a encLone 8 (xs.set (ts.getD k.toNat 0) { n := (xs.getD (ts.getD k.toNat 0) encLone.dflt).1 + (1 : Int), last := (xs.getD (ts.getD k.toNat 0) encLone.dflt).2 })] 31, .own [.c (.ptr 3 0), .c (.sli 7 (.c 0) 1 (.v n) none), .c (.sli 8 (.c 0) 1 (.v n) (some (.v n)))] 70, .vec (encT 5) ts 44, .own [.a encBool n (bs.set k.toNat (((xs.set (ts.getD k.toNat 0) { n := (xs.getD (ts.getD k.toNat 0) encLone.dflt).1 + (1 : Int), last := (xs.getD (ts.getD k.toNat 0) encLone.dflt).2 }).getD (ts.getD k.toNat 0) encLone.dflt).1 == ((xs.set (ts.getD k.toNat 0) { n := (xs.getD (ts.getD k.toNat 0) encLone.dflt).1 + (1 : Int), last := (xs.getD (ts.getD k.toNat 0) encLone.dflt).2 }).getD (ts.getD k.toNat 0) encLone.dflt).2))] 4, .own [.a (encInt IntKind.i64) 8 (ak.set k.toNat (ak.getD k.toNat (0 : Int) + (1 : Int)))] 36]))

 (.ret (.normal, [.sli 1 (.c 0) 1 (.v p.1.length) (some (.v p.2)), .sli 2 (.c 0) 1 (.v p.3.length) (some (.v p.4)), .bl false, .ptr 3 0, .ptr 5 0, .ptr 6 0, .ptr 9 0, .int .i64 (↑i : Int)], [.ro encLook [PUnit.unit], .ro encU8 p.1, .ro (encInt IntKind.i64) p.3, .own [.c (.sli 4 (.c 0) 1 (.c 1) (some (.c 1))), .c (.lit .i64 (0 : Int))] 67, .own [.c (.lit .u32 (0 : Int))] 45, .own [.a encLone 8 (xs.set (ts.getD k.toNat 0) { n := (xs.getD (ts.getD k.toNat 0) encLone.dflt).1 + (1 : Int), last := (xs.getD (ts.getD k.toNat 0) encLone.dflt).2 })] 31, .own [.c (.ptr 3 0), .c (.sli 7 (.c 0) 1 (.v n) none), .c (.sli 8 (.c 0) 1 (.v n) (some (.v n)))] 70, .vec (encT 5) ts 44, .own [.a encBool n (bs.set k.toNat (((xs.set (ts.getD k.toNat 0) { n := (xs.getD (ts.getD k.toNat 0) encLone.dflt).1 + (1 : Int), last := (xs.getD (ts.getD k.toNat 0) encLone.dflt).2 }).getD (ts.getD k.toNat 0) encLone.dflt).1 == ((xs.set (ts.getD k.toNat 0) { n := (xs.getD (ts.getD k.toNat 0) encLone.dflt).1 + (1 : Int), last := (xs.getD (ts.getD k.toNat 0) encLone.dflt).2 }).getD (ts.getD k.toNat 0) encLone.dflt).2))] 4, .own [.a (encInt IntKind.i64) 8 (ak.set k.toNat (ak.getD k.toNat (0 : Int) + (1 : Int)))] 36])))))))))))))))

 (.need (decide ((0 : Int) ≤ k) && decide (k.toNat < 8))

 (.need (decide (k.toNat < 8))

 (.need (decide ((0 : Int) ≤ k) && decide (k.toNat < 8))

 (.need (decide (k.toNat < 8))
 (.eq (T.need (decide (k.toNat < (8 : Nat))) (T.ret ([SVal.int IntKind.i64 ((xs.set (ts.getD k.toNat (0 : Nat)) { n := (xs.getD (ts.getD k.toNat (0 : Nat)) encLone.dflt).1 + (1 : Int), last := (xs.getD (ts.getD k.toNat (0 : Nat)) encLone.dflt).2 }).getD k.toNat encLone.dflt).1, SVal.int IntKind.i64 ((xs.set (ts.getD k.toNat (0 : Nat)) { n := (xs.getD (ts.getD k.toNat (0 : Nat)) encLone.dflt).1 + (1 : Int), last := (xs.getD (ts.getD k.toNat (0 : Nat)) encLone.dflt).2 }).getD k.toNat encLone.dflt).2].getD (0 : Nat) SVal.bad)) = T.need (decide (k.toNat < (8 : Nat))) (T.ret ([SVal.int IntKind.i64 ((xs.set (ts.getD k.toNat (0 : Nat)) { n := (xs.getD (ts.getD k.toNat (0 : Nat)) encLone.dflt).1 + (1 : Int), last := (xs.getD (ts.getD k.toNat (0 : Nat)) encLone.dflt).2 }).getD k.toNat encLone.dflt).1, SVal.int IntKind.i64 ((xs.set (ts.getD k.toNat (0 : Nat)) { n := (xs.getD (ts.getD k.toNat (0 : Nat)) encLone.dflt).1 + (1 : Int), last := (xs.getD (ts.getD k.toNat (0 : Nat)) encLone.dflt).2 }).getD k.toNat encLone.dflt).2].getD (0 : Nat) SVal.bad)))
 (.eq (T.need (decide (k.toNat < (8 : Nat))) (T.ret ([SVal.int IntKind.i64 ((ak.set k.toNat (ak.getD k.toNat (0 : Int) + (1 : Int))).getD k.toNat (0 : Int))].getD (0 : Nat) SVal.bad)) = T.need (decide (k.toNat < (8 : Nat))) (T.ret ([SVal.int IntKind.i64 ((ak.set k.toNat (ak.getD k.toNat (0 : Int) + (1 : Int))).getD k.toNat (0 : Int))].getD (0 : Nat) SVal.bad)))
 (.eq (T.need (decide (k.toNat < (8 : Nat))) (T.ret ([SVal.int IntKind.i64 ((ak.set k.toNat (ak.getD k.toNat (0 : Int) + (1 : Int))).getD k.toNat (0 : Int))].getD (0 : Nat) SVal.bad)) = T.need (decide (k.toNat < (8 : Nat))) (T.ret ([SVal.int IntKind.i64 ((ak.set k.toNat (ak.getD k.toNat (0 : Int) + (1 : Int))).getD k.toNat (0 : Int))].getD (0 : Nat) SVal.bad)))
 (.eq (T.need (decide (k.toNat < (8 : Nat))) (T.ret ([SVal.int IntKind.i64 ((ak.set k.toNat (ak.getD k.toNat (0 : Int) + (1 : Int))).getD k.toNat (0 : Int))].getD (0 : Nat) SVal.bad)) = T.need (decide (k.toNat < (8 : Nat))) (T.ret ([SVal.int IntKind.i64 ((ak.set k.toNat (ak.getD k.toNat (0 : Int) + (1 : Int))).getD k.toNat (0 : Int))].getD (0 : Nat) SVal.bad)))
 (.eq (T.need (decide (k.toNat < (8 : Nat))) (T.ret ([SVal.int IntKind.i64 ((xs.set (ts.getD k.toNat (0 : Nat)) { n := (xs.getD (ts.getD k.toNat (0 : Nat)) encLone.dflt).1 + (1 : Int), last := (xs.getD (ts.getD k.toNat (0 : Nat)) encLone.dflt).2 }).getD k.toNat encLone.dflt).1, SVal.int IntKind.i64 ((xs.set (ts.getD k.toNat (0 : Nat)) { n := (xs.getD (ts.getD k.toNat (0 : Nat)) encLone.dflt).1 + (1 : Int), last := (xs.getD (ts.getD k.toNat (0 : Nat)) encLone.dflt).2 }).getD k.toNat encLone.dflt).2].getD (1 : Nat) SVal.bad)) = T.need (decide (k.toNat < (8 : Nat))) (T.ret ([SVal.int IntKind.i64 ((xs.set (ts.getD k.toNat (0 : Nat)) { n := (xs.getD (ts.getD k.toNat (0 : Nat)) encLone.dflt).1 + (1 : Int), last := (xs.getD (ts.getD k.toNat (0 : Nat)) encLone.dflt).2 }).getD k.toNat encLone.dflt).1, SVal.int IntKind.i64 ((xs.set (ts.getD k.toNat (0 : Nat)) { n := (xs.getD (ts.getD k.toNat (0 : Nat)) encLone.dflt).1 + (1 : Int), last := (xs.getD (ts.getD k.toNat (0 : Nat)) encLone.dflt).2 }).getD k.toNat encLone.dflt).2].getD (1 : Nat) SVal.bad)))
 (.eq (T.need (decide (k.toNat < (8 : Nat))) (T.ret ([SVal.int IntKind.i64 ((xs.set (ts.getD k.toNat (0 : Nat)) { n := (xs.getD (ts.getD k.toNat (0 : Nat)) encLone.dflt).1 + (1 : Int), last := (xs.getD (ts.getD k.toNat (0 : Nat)) encLone.dflt).2 }).getD k.toNat encLone.dflt).1, SVal.int IntKind.i64 ((xs.set (ts.getD k.toNat (0 : Nat)) { n := (xs.getD (ts.getD k.toNat (0 : Nat)) encLone.dflt).1 + (1 : Int), last := (xs.getD (ts.getD k.toNat (0 : Nat)) encLone.dflt).2 }).getD k.toNat encLone.dflt).2].getD (1 : Nat) SVal.bad)) = T.need (decide (k.toNat < (8 : Nat))) (T.ret ([SVal.int IntKind.i64 ((xs.set (ts.getD k.toNat (0 : Nat)) { n := (xs.getD (ts.getD k.toNat (0 : Nat)) encLone.dflt).1 + (1 : Int), last := (xs.getD (ts.getD k.toNat (0 : Nat)) encLone.dflt).2 }).getD k.toNat encLone.dflt).1, SVal.int IntKind.i64 ((xs.set (ts.getD k.toNat (0 : Nat)) { n := (xs.getD (ts.getD k.toNat (0 : Nat)) encLone.dflt).1 + (1 : Int), last := (xs.getD (ts.getD k.toNat (0 : Nat)) encLone.dflt).2 }).getD k.toNat encLone.dflt).2].getD (1 : Nat) SVal.bad)))

 (.br (!false == ((ak.set k.toNat (ak.getD k.toNat (0 : Int) + (1 : Int))).getD k.toNat (0 : Int) == ((xs.set (ts.getD k.toNat 0) { n := (xs.getD (ts.getD k.toNat 0) encLone.dflt).1 + (1 : Int), last := (xs.getD (ts.getD k.toNat 0) encLone.dflt).2 }).getD k.toNat encLone.dflt).2))

 (.ret (.ret, [.sli 1 (.c 0) 1 (.v p.1.length) (some (.v p.2)), .sli 2 (.c 0) 1 (.v p.3.length) (some (.v p.4)), .bl false, .ptr 3 0, .ptr 5 0, .ptr 6 0, .ptr 9 0, .int .i64 (↑i : Int)], [.ro encLook [PUnit.unit], .ro encU8 p.1, .ro (encInt IntKind.i64) p.3, .own [.c (.sli 4 (.c 0) 1 (.c 1) (some (.c 1))), .c (.lit .i64 (0 : Int))] 67, .own [.c (.lit .u32 (0 : Int))] 45, .own [.a encLone 8 (xs.set (ts.getD k.toNat 0) { n := (xs.getD (ts.getD k.toNat 0) encLone.dflt).1 + (1 : Int), last := (xs.getD (ts.getD k.toNat 0) encLone.dflt).2 })] 31, .own [.c (.ptr 3 0), .c (.sli 7 (.c 0) 1 (.v n) none), .c (.sli 8 (.c 0) 1 (.v n) (some (.v n)))] 70, .vec (encT 5) ts 44, .own [.a encBool n (bs.set k.toNat (((xs.set (ts.getD k.toNat 0) { n := (xs.getD (ts.getD k.toNat 0) encLone.dflt).1 + (1 : Int), last := (xs.getD (ts.getD k.toNat 0) encLone.dflt).2 }).getD (ts.getD k.toNat 0) encLone.dflt).1 == ((xs.set (ts.getD k.toNat 0) { n := (xs.getD (ts.getD k.toNat 0) encLone.dflt).1 + (1 : Int), last := (xs.getD (ts.getD k.toNat 0) encLone.dflt).2 }).getD (ts.getD k.toNat 0) encLone.dflt).2))] 4, .own [.a (encInt IntKind.i64) 8 (ak.set k.toNat (ak.getD k.toNat (0 : Int) + (1 : Int)))] 36]))

 (.ret (.normal, [.sli 1 (.c 0) 1 (.v p.1.length) (some (.v p.2)), .sli 2 (.c 0) 1 (.v p.3.length) (some (.v p.4)), .bl false, .ptr 3 0, .ptr 5 0, .ptr 6 0, .ptr 9 0, .int .i64 (↑i : Int)], [.ro encLook [PUnit.unit], .ro encU8 p.1, .ro (encInt IntKind.i64) p.3, .own [.c (.sli 4 (.c 0) 1 (.c 1) (some (.c 1))), .c (.lit .i64 (0 : Int))] 67, .own [.c (.lit .u32 (0 : Int))] 45, .own [.a encLone 8 (xs.set (ts.getD k.toNat 0) { n := (xs.getD (ts.getD k.toNat 0) encLone.dflt).1 + (1 : Int), last := (xs.getD (ts.getD k.toNat 0) encLone.dflt).2 })] 31, .own [.c (.ptr 3 0), .c (.sli 7 (.c 0) 1 (.v n) none), .c (.sli 8 (.c 0) 1 (.v n) (some (.v n)))] 70, .vec (encT 5) ts 44, .own [.a encBool n (bs.set k.toNat (((xs.set (ts.getD k.toNat 0) { n := (xs.getD (ts.getD k.toNat 0) encLone.dflt).1 + (1 : Int), last := (xs.getD (ts.getD k.toNat 0) encLone.dflt).2 }).getD (ts.getD k.toNat 0) encLone.dflt).1 == ((xs.set (ts.getD k.toNat 0) { n := (xs.getD (ts.getD k.toNat 0) encLone.dflt).1 + (1 : Int), last := (xs.getD (ts.getD k.toNat 0) encLone.dflt).2 }).getD (ts.getD k.toNat 0) encLone.dflt).2))] 4, .own [.a (encInt IntKind.i64) 8 (ak.set k.toNat (ak.getD k.toNat (0 : Int) + (1 : Int)))] 36]))))))))))))))

 (.need (decide ((0 : Int) ≤ k) && decide (k.toNat < 8))

 (.need (decide (k.toNat < 8))

 (.need (decide ((0 : Int) ≤ k) && decide (k.toNat < 8))

 (.need (decide (k.toNat < 8))
 (.eq (T.need (decide (k.toNat < (8 : Nat))) (T.ret ([SVal.int IntKind.i64 ((xs.set (ts.getD k.toNat (0 : Nat)) { n := (xs.getD (ts.getD k.toNat (0 : Nat)) encLone.dflt).1 + (1 : Int), last := (xs.getD (ts.getD k.toNat (0 : Nat)) encLone.dflt).2 }).getD k.toNat encLone.dflt).1, SVal.int IntKind.i64 ((xs.set (ts.getD k.toNat (0 : Nat)) { n := (xs.getD (ts.getD k.toNat (0 : Nat)) encLone.dflt).1 + (1 : Int), last := (xs.getD (ts.getD k.toNat (0 : Nat)) encLone.dflt).2 }).getD k.toNat encLone.dflt).2].getD (0 : Nat) SVal.bad)) = T.need (decide (k.toNat < (8 : Nat))) (T.ret ([SVal.int IntKind.i64 ((xs.set (ts.getD k.toNat (0 : Nat)) { n := (xs.getD (ts.getD k.toNat (0 : Nat)) encLone.dflt).1 + (1 : Int), last := (xs.getD (ts.getD k.toNat (0 : Nat)) encLone.dflt).2 }).getD k.toNat encLone.dflt).1, SVal.int IntKind.i64 ((xs.set (ts.getD k.toNat (0 : Nat)) { n := (xs.getD (ts.getD k.toNat (0 : Nat)) encLone.dflt).1 + (1 : Int), last := (xs.getD (ts.getD k.toNat (0 : Nat)) encLone.dflt).2 }).getD k.toNat encLone.dflt).2].getD (0 : Nat) SVal.bad)))
 (.eq (T.need (decide (k.toNat < (8 : Nat))) (T.ret ([SVal.int IntKind.i64 ((ak.set k.toNat (ak.getD k.toNat (0 : Int) + (1 : Int))).getD k.toNat (0 : Int))].getD (0 : Nat) SVal.bad)) = T.need (decide (k.toNat < (8 : Nat))) (T.ret ([SVal.int IntKind.i64 ((ak.set k.toNat (ak.getD k.toNat (0 : Int) + (1 : Int))).getD k.toNat (0 : Int))].getD (0 : Nat) SVal.bad)))
 (.eq (T.need (decide (k.toNat < (8 : Nat))) (T.ret ([SVal.int IntKind.i64 ((ak.set k.toNat (ak.getD k.toNat (0 : Int) + (1 : Int))).getD k.toNat (0 : Int))].getD (0 : Nat) SVal.bad)) = T.need (decide (k.toNat < (8 : Nat))) (T.ret ([SVal.int IntKind.i64 ((ak.set k.toNat (ak.getD k.toNat (0 : Int) + (1 : Int))).getD k.toNat (0 : Int))].getD (0 : Nat) SVal.bad)))
 (.eq (T.need (decide (k.toNat < (8 : Nat))) (T.ret ([SVal.int IntKind.i64 ((ak.set k.toNat (ak.getD k.toNat (0 : Int) + (1 : Int))).getD k.toNat (0 : Int))].getD (0 : Nat) SVal.bad)) = T.need (decide (k.toNat < (8 : Nat))) (T.ret ([SVal.int IntKind.i64 ((ak.set k.toNat (ak.getD k.toNat (0 : Int) + (1 : Int))).getD k.toNat (0 : Int))].getD (0 : Nat) SVal.bad)))
 (.eq (T.need (decide (k.toNat < (8 : Nat))) (T.ret ([SVal.int IntKind.i64 ((xs.set (ts.getD k.toNat (0 : Nat)) { n := (xs.getD (ts.getD k.toNat (0 : Nat)) encLone.dflt).1 + (1 : Int), last := (xs.getD (ts.getD k.toNat (0 : Nat)) encLone.dflt).2 }).getD k.toNat encLone.dflt).1, SVal.int IntKind.i64 ((xs.set (ts.getD k.toNat (0 : Nat)) { n := (xs.getD (ts.getD k.toNat (0 : Nat)) encLone.dflt).1 + (1 : Int), last := (xs.getD (ts.getD k.toNat (0 : Nat)) encLone.dflt).2 }).getD k.toNat encLone.dflt).2].getD (1 : Nat) SVal.bad)) = T.need (decide (k.toNat < (8 : Nat))) (T.ret ([SVal.int IntKind.i64 ((xs.set (ts.getD k.toNat (0 : Nat)) { n := (xs.getD (ts.getD k.toNat (0 : Nat)) encLone.dflt).1 + (1 : Int), last := (xs.getD (ts.getD k.toNat (0 : Nat)) encLone.dflt).2 }).getD k.toNat encLone.dflt).1, SVal.int IntKind.i64 ((xs.set (ts.getD k.toNat (0 : Nat)) { n := (xs.getD (ts.getD k.toNat (0 : Nat)) encLone.dflt).1 + (1 : Int), last := (xs.getD (ts.getD k.toNat (0 : Nat)) encLone.dflt).2 }).getD k.toNat encLone.dflt).2].getD (1 : Nat) SVal.bad)))
 (.eq (T.need (decide (k.toNat < (8 : Nat))) (T.ret ([SVal.int IntKind.i64 ((xs.set (ts.getD k.toNat (0 : Nat)) { n := (xs.getD (ts.getD k.toNat (0 : Nat)) encLone.dflt).1 + (1 : Int), last := (xs.getD (ts.getD k.toNat (0 : Nat)) encLone.dflt).2 }).getD k.toNat encLone.dflt).1, SVal.int IntKind.i64 ((xs.set (ts.getD k.toNat (0 : Nat)) { n := (xs.getD (ts.getD k.toNat (0 : Nat)) encLone.dflt).1 + (1 : Int), last := (xs.getD (ts.getD k.toNat (0 : Nat)) encLone.dflt).2 }).getD k.toNat encLone.dflt).2].getD (1 : Nat) SVal.bad)) = T.need (decide (k.toNat < (8 : Nat))) (T.ret ([SVal.int IntKind.i64 ((xs.set (ts.getD k.toNat (0 : Nat)) { n := (xs.getD (ts.getD k.toNat (0 : Nat)) encLone.dflt).1 + (1 : Int), last := (xs.getD (ts.getD k.toNat (0 : Nat)) encLone.dflt).2 }).getD k.toNat encLone.dflt).1, SVal.int IntKind.i64 ((xs.set (ts.getD k.toNat (0 : Nat)) { n := (xs.getD (ts.getD k.toNat (0 : Nat)) encLone.dflt).1 + (1 : Int), last := (xs.getD (ts.getD k.toNat (0 : Nat)) encLone.dflt).2 }).getD k.toNat encLone.dflt).2].getD (1 : Nat) SVal.bad)))

 (.br (!false == ((ak.set k.toNat (ak.getD k.toNat (0 : Int) + (1 : Int))).getD k.toNat (0 : Int) == ((xs.set (ts.getD k.toNat 0) { n := (xs.getD (ts.getD k.toNat 0) encLone.dflt).1 + (1 : Int), last := (xs.getD (ts.getD k.toNat 0) encLone.dflt).2 }).getD k.toNat encLone.dflt).2))

 (.ret (.ret, [.sli 1 (.c 0) 1 (.v p.1.length) (some (.v p.2)), .sli 2 (.c 0) 1 (.v p.3.length) (some (.v p.4)), .bl false, .ptr 3 0, .ptr 5 0, .ptr 6 0, .ptr 9 0, .int .i64 (↑i : Int)], [.ro encLook [PUnit.unit], .ro encU8 p.1, .ro (encInt IntKind.i64) p.3, .own [.c (.sli 4 (.c 0) 1 (.c 1) (some (.c 1))), .c (.lit .i64 (0 : Int))] 67, .own [.c (.lit .u32 (0 : Int))] 45, .own [.a encLone 8 (xs.set (ts.getD k.toNat 0) { n := (xs.getD (ts.getD k.toNat 0) encLone.dflt).1 + (1 : Int), last := (xs.getD (ts.getD k.toNat 0) encLone.dflt).2 })] 31, .own [.c (.ptr 3 0), .c (.sli 7 (.c 0) 1 (.v n) none), .c (.sli 8 (.c 0) 1 (.v n) (some (.v n)))] 70, .vec (encT 5) ts 44, .own [.a encBool n (bs.set k.toNat (((xs.set (ts.getD k.toNat 0) { n := (xs.getD (ts.getD k.toNat 0) encLone.dflt).1 + (1 : Int), last := (xs.getD (ts.getD k.toNat 0) encLone.dflt).2 }).getD (ts.getD k.toNat 0) encLone.dflt).1 == ((xs.set (ts.getD k.toNat 0) { n := (xs.getD (ts.getD k.toNat 0) encLone.dflt).1 + (1 : Int), last := (xs.getD (ts.getD k.toNat 0) encLone.dflt).2 }).getD (ts.getD k.toNat 0) encLone.dflt).2))] 4, .own [.a (encInt IntKind.i64) 8 (ak.set k.toNat (ak.getD k.toNat (0 : Int) + (1 : Int)))] 36]))

 (.ret (.normal, [.sli 1 (.c 0) 1 (.v p.1.length) (some (.v p.2)), .sli 2 (.c 0) 1 (.v p.3.length) (some (.v p.4)), .bl false, .ptr 3 0, .ptr 5 0, .ptr 6 0, .ptr 9 0, .int .i64 (↑i : Int)], [.ro encLook [PUnit.unit], .ro encU8 p.1, .ro (encInt IntKind.i64) p.3, .own [.c (.sli 4 (.c 0) 1 (.c 1) (some (.c 1))), .c (.lit .i64 (0 : Int))] 67, .own [.c (.lit .u32 (0 : Int))] 45, .own [.a encLone 8 (xs.set (ts.getD k.toNat 0) { n := (xs.getD (ts.getD k.toNat 0) encLone.dflt).1 + (1 : Int), last := (xs.getD (ts.getD k.toNat 0) encLone.dflt).2 })] 31, .own [.c (.ptr 3 0), .c (.sli 7 (.c 0) 1 (.v n) none), .c (.sli 8 (.c 0) 1 (.v n) (some (.v n)))] 70, .vec (encT 5) ts 44, .own [.a encBool n (bs.set k.toNat (((xs.set (ts.getD k.toNat 0) { n := (xs.getD (ts.getD k.toNat 0) encLone.dflt).1 + (1 : Int), last := (xs.getD (ts.getD k.toNat 0) encLone.dflt).2 }).getD (ts.getD k.toNat 0) encLone.dflt).1 == ((xs.set (ts.getD k.toNat 0) { n := (xs.getD (ts.getD k.toNat 0) encLone.dflt).1 + (1 : Int), last := (xs.getD (ts.getD k.toNat 0) encLone.dflt).2 }).getD (ts.getD k.toNat 0) encLone.dflt).2))] 4, .own [.a (encInt IntKind.i64) 8 (ak.set k.toNat (ak.getD k.toNat (0 : Int) + (1 : Int)))] 36]))))))))))))))))))))))))

 (.ret (.ret, [.sli 1 (.c 0) 1 (.v p.1.length) (some (.v p.2)), .sli 2 (.c 0) 1 (.v p.3.length) (some (.v p.4)), .bl false, .ptr 3 0, .ptr 5 0, .ptr 6 0, .ptr 9 0, .int .i64 (↑i : Int)], [.ro encLook [PUnit.unit], .ro encU8 p.1, .ro (encInt IntKind.i64) p.3, .own [.c (.sli 4 (.c 0) 1 (.c 1) (some (.c 1))), .c (.lit .i64 (0 : Int))] 67, .own [.c (.lit .u32 (0 : Int))] 45, .own [.a encLone 8 (xs.set (ts.getD k.toNat 0) { n := (xs.getD (ts.getD k.toNat 0) encLone.dflt).1 + (1 : Int), last := (xs.getD (ts.getD k.toNat 0) encLone.dflt).2 })] 31, .own [.c (.ptr 3 0), .c (.sli 7 (.c 0) 1 (.v n) none), .c (.sli 8 (.c 0) 1 (.v n) (some (.v n)))] 70, .vec (encT 5) ts 44, .own [.a encBool n (bs.set k.toNat (((xs.set (ts.getD k.toNat 0) { n := (xs.getD (ts.getD k.toNat 0) encLone.dflt).1 + (1 : Int), last := (xs.getD (ts.getD k.toNat 0) encLone.dflt).2 }).getD (ts.getD k.toNat 0) encLone.dflt).1 == ((xs.set (ts.getD k.toNat 0) { n := (xs.getD (ts.getD k.toNat 0) encLone.dflt).1 + (1 : Int), last := (xs.getD (ts.getD k.toNat 0) encLone.dflt).2 }).getD (ts.getD k.toNat 0) encLone.dflt).2))] 4, .own [.a (encInt IntKind.i64) 8 ak] 36]))))))))))))))))))))))))))) := by kernel_rfl
end Go.Proofs.YtlnigpeoffaemaaDoor

/- StepsOnce: the second loop. -/
namespace Go.Proofs.YtlnigpeoffaemaaDoor
open Go Go.Proofs.YtlnigpeoffaemaaDoor.Sx
set_option linter.unusedVariables false
structure Good (n : Nat) (xs : List Lone) (bs : List Bool) (ak : List Int) : Prop where
  lx : xs.length = 8
  lb : bs.length = n
  la : ak.length = 8
  h : ∀ j, j < n → 1 ≤ (xs.getD j encLone.dflt).2 ∧ (xs.getD j encLone.dflt).2 ≤ 9 ∧ 0 ≤ ak.getD j 0 ∧ ak.getD j 0 ≤ (xs.getD j encLone.dflt).2 ∧ (xs.getD j encLone.dflt).1 = ak.getD j 0 ∧ bs.getD j false = (ak.getD j 0 == (xs.getD j encLone.dflt).2)
theorem getD_set_self {α : Type} {l : List α} {i : Nat} (h : i < l.length) (v d : α) : (l.set i v).getD i d = v := by simp [List.getD_eq_getElem?_getD, h]
theorem getD_set_ne {α : Type} {l : List α} {i j : Nat} (h : i ≠ j) (v d : α) : (l.set i v).getD j d = l.getD j d := by simp [List.getD_eq_getElem?_getD, List.getElem?_set, h]
theorem Good.step {n : Nat} {xs : List Lone} {bs : List Bool} {ak : List Int} (g : Good n xs bs ak) (hn : n ≤ 8) {k : Nat} (hk : k < n) (hl : ak.getD k 0 < (xs.getD k encLone.dflt).2) :
    Good n (xs.set k ⟨ak.getD k 0 + 1, (xs.getD k encLone.dflt).2⟩) (bs.set k (ak.getD k 0 + 1 == (xs.getD k encLone.dflt).2)) (ak.set k (ak.getD k 0 + 1)) := by
  refine ⟨by simp [g.lx], by simp [g.lb], by simp [g.la], fun j hj => ?_⟩
  have hx : k < xs.length := by rw [g.lx]; omega
  have hb : k < bs.length := by rw [g.lb]; omega
  have ha : k < ak.length := by rw [g.la]; omega
  rcases Nat.lt_trichotomy k j with h | h | h
  · rw [getD_set_ne (by omega), getD_set_ne (by omega), getD_set_ne (by omega)]; exact g.h j hj
  · subst h
    rw [getD_set_self hx, getD_set_self hb, getD_set_self ha]
    obtain ⟨h1, h2, h3, h4, h5, h6⟩ := g.h k hk
    refine ⟨h1, h2, ?_, ?_, rfl, rfl⟩
    · omega
    · show ak.getD k 0 + 1 ≤ (xs.getD k encLone.dflt).2; omega
  · rw [getD_set_ne (by omega), getD_set_ne (by omega), getD_set_ne (by omega)]; exact g.h j hj
abbrev Q3 (w0 : From) : Exit → Act → World → Prop := bodyPost Tryd.prog Tryd.f3 (Said w0)
structure Ix3 where
  xs : List Lone
  bs : List Bool
  ak : List Int
  i : Nat
def Inv3 (w0 : From) (p : In3) (j : Ix3) (a : Act) (w : World) : Prop :=
  j.i ≤ 100 ∧ Good p.last.length j.xs j.bs j.ak ∧ ∃ env, At [(0, 0)] w0 env (fr 132 n3d (v3d p (j.i : Nat))) (s3d p p.last.length j.xs (List.range p.last.length) j.bs j.ak) a w
abbrev R3 (w0 : From) (p : In3) (i : Nat) : Exit → Act → World → Prop :=
  Exit.then (fun a' w' => ∃ k, Inv3 w0 p k a' w' ∧ 100 - k.i < 100 - i) (Exit.inBlock 2 (Exit.then (end3.wp Tryd.prog (Q3 w0)) (Q3 w0)))
abbrev K3 (w0 : From) (p : In3) (i : Nat) : Exit → Act → World → Prop :=
  Exit.inBlock 3 (Exit.then (inc3.wp Tryd.prog (R3 w0 p i)) (R3 w0 p i))
theorem end3_ok {w0 : From} {p : In3} {n i : Nat} {xs : List Lone} {ts : List Nat} {bs : List Bool} {ak : List Int} {env : Env} {a : Act} {w : World} (h : At [(0, 0)] w0 env (fr 132 n3d (v3d p (i : Nat))) (s3d p n xs ts bs ak) a w) : end3.wp Tryd.prog (Q3 w0) a w :=
  pieceT (c := cfg) cfg_ok [4] t3_end h (all_ret fun env' a' w' hA' => hA'.said (by kernel_rfl))
theorem inc3_ok {w0 : From} {p : In3} {i : Nat} (hi : i < 100) {xs : List Lone} {bs : List Bool} {ak : List Int} (g : Good p.last.length xs bs ak) {env : Env} {a : Act} {w : World}
    (hA : At [(0, 0)] w0 env (fr 132 n3d (v3d p (i : Nat))) (s3d p p.last.length xs (List.range p.last.length) bs ak) a w) : inc3.wp Tryd.prog (R3 w0 p i) a w := by
  refine pieceT (c := cfg) cfg_ok n3d t3_inc hA ?_
  refine all_needp (by simp only [inR_i64]; exact Iff.rfl) (by omega) fun _ => all_ret fun env' a' w' hA' => ?_
  exact ⟨⟨xs, bs, ak, i + 1⟩, ⟨by simp only; omega, g, env', hA'⟩, by simp only; omega⟩
theorem all_needq {α : Type 1} {Q : α → Prop} {b : Bool} {p : Prop} {t : T α} (h : (b = true) ↔ p) (hp : p) (ht : All Q t) : All Q (.need b t) := all_needp h hp fun _ => ht
set_option maxHeartbeats 8000000 in
theorem rest_out {w0 : From} {p : In3} (hn : p.last.length ≤ 8) {i : Nat} (hi : i < 100) {k : Int} (hk : k < 0 ∨ p.last.length ≤ k) {xs : List Lone} {bs : List Bool} {ak : List Int} (g : Good p.last.length xs bs ak) {env : Env} {a : Act} {w : World}
    (hA : At [(0, 0)] w0 env (fr 132 n3e (v3e p (i : Nat) k)) (s3d p p.last.length xs (List.range p.last.length) bs ak) a w) : rest3.wp Tryd.prog (K3 w0 p i) a w := by
  refine pieceT (c := cfg) cfg_ok n3d t3_rest hA ?_
  refine all_brp (by simp only [decide_eq_true_eq]; exact Iff.rfl) (fun h1 => ?_) (fun h1 => ?_)
  · refine all_brp (by simp only [decide_eq_true_eq]; exact Iff.rfl) (fun _ => ?_) (fun _ => ?_)
    · exact all_ret fun _ _ _ h => inc3_ok hi g h
    · exfalso; omega
  · refine all_brp (by simp only [decide_eq_true_eq]; exact Iff.rfl) (fun h2 => ?_) (fun h2 => ?_)
    · refine all_brp (by simp only [decide_eq_true_eq]; exact Iff.rfl) (fun h2 => ?_) (fun h2 => ?_)
      · exfalso; omega
      · refine all_brp (by simp only [decide_eq_true_eq]; exact Iff.rfl) (fun h2 => ?_) (fun h2 => ?_)
        · exact all_ret fun _ _ _ h => inc3_ok hi g h
        · exfalso; omega
    · exfalso; omega
set_option maxHeartbeats 8000000 in
theorem rest_in {w0 : From} {p : In3} (hn : p.last.length ≤ 8) {i : Nat} (hi : i < 100) {k : Int} (hk : 0 ≤ k) (hk' : k < p.last.length) {xs : List Lone} {bs : List Bool} {ak : List Int} (g : Good p.last.length xs bs ak) {env : Env} {a : Act} {w : World}
    (hA : At [(0, 0)] w0 env (fr 132 n3e (v3e p (i : Nat) k)) (s3d p p.last.length xs (List.range p.last.length) bs ak) a w) : rest3.wp Tryd.prog (K3 w0 p i) a w := by
  have hkn : k.toNat < p.last.length := by omega
  have hts : (List.range p.last.length).getD k.toNat 0 = k.toNat := by simp [List.getD_eq_getElem?_getD, hkn]
  have hsx := getD_set_self (l := xs) (i := k.toNat) (by rw [g.lx]; omega)
  have hsb := getD_set_self (l := bs) (i := k.toNat) (by rw [g.lb]; omega)
  have hsa := getD_set_self (l := ak) (i := k.toNat) (by rw [g.la]; omega)
  obtain ⟨f1, f2, f3, f4, f5, f6⟩ := g.h _ hkn
  refine pieceT (c := cfg) cfg_ok n3d t3_rest hA ?_
  repeat' (first
    | (refine all_brp (by simp only [hts, hsx, hsb, hsa, f5, f6, decide_eq_true_eq, decide_eq_false_iff_not, Bool.not_eq_true', beq_iff_eq, bne_iff_ne, Bool.not_beq_self, beq_self_eq_true, Bool.true_eq_false, bne_self_eq_false, Bool.false_eq_true, ne_eq, not_true_eq_false]; exact Iff.rfl) (fun _ => ?_) (fun _ => ?_) <;> try first | (exfalso; assumption) | (exfalso; omega))
    | refine all_needq (by simp only [hts, hsx, hsb, hsa, f5, f6, decide_eq_true_eq, Bool.and_eq_true, inR_i64, List.length_range]; exact Iff.rfl) (by omega) ?_
    | refine all_eq rfl ?_
    | refine all_ret (fun _ _ _ hA' => ?_))
  · exact inc3_ok hi g hA'
  · simp only [hts, hsx, hsb, hsa, f5, f6] at hA'
    exact inc3_ok hi (g.step hn hkn (by omega)) hA'
end Go.Proofs.YtlnigpeoffaemaaDoor

/- StepsOnce: its call. -/
namespace Go.Proofs.YtlnigpeoffaemaaDoor
open Go Go.Proofs.YtlnigpeoffaemaaDoor.Sx
set_option linter.unusedVariables false
theorem round_ok {w0 : From} {p : In3} (hn : p.last.length ≤ 8) {i : Nat} (hi : i ≤ 100) {xs : List Lone} {bs : List Bool} {ak : List Int} (g : Good p.last.length xs bs ak) {env : Env} {a : Act} {w : World}
    (hA : At [(0, 0)] w0 env (fr 132 n3d (v3d p (i : Nat))) (s3d p p.last.length xs (List.range p.last.length) bs ak) a w) : roundm3.wp Tryd.prog (R3 w0 p i) a w := by
  have out : ∀ {env' : Env} {a' : Act} {w' : World}, At [(0, 0)] w0 env' (fr 132 n3d (v3d p (i : Nat))) (s3d p p.last.length xs (List.range p.last.length) bs ak) a' w' → R3 w0 p i (.exit 2) a' w' := by
    intro env' a' w' h
    simp only [R3, Exit.then, Exit.inBlock, if_true]
    exact end3_ok h
  refine wpS (by kernel_rfl) ?_
  refine pieceT (c := cfg) cfg_ok n3d t3_tm hA ?_
  refine all_brp (by simp only [decide_eq_true_eq]; exact Iff.rfl) (fun h1 => ?_) (fun h1 => all_ret fun _ _ _ h => out h)
  refine all_brp (by simp only [decide_eq_true_eq]; exact Iff.rfl) (fun h2 => all_ret fun env1 a1 w1 hA1 => ?_) (fun h1 => all_ret fun _ _ _ h => out h)
  refine (show (rgt roundm3).wp Tryd.prog (R3 w0 p i) a1 w1 from wpS (by kernel_rfl) (wpB 3 (by kernel_rfl) ?_))
  refine (show im3.wp Tryd.prog (K3 w0 p i) a1 w1 from wpS (by kernel_rfl) ?_)
  refine pieceT (c := cfg) cfg_ok n3e t3_pa hA1 ?_
  generalize p.picks.getD (i : Int).toNat 0 = k
  refine all_needq (by simp only [decide_eq_true_eq, Bool.and_eq_true]; exact Iff.rfl) (by omega) ?_
  refine all_needq (by simp only [decide_eq_true_eq, Bool.and_eq_true]; exact Iff.rfl) (by omega) ?_
  refine all_ret fun env2 a2 w2 hA2 => ?_
  refine (show rest3.wp Tryd.prog (K3 w0 p i) a2 w2 from ?_)
  by_cases hk : 0 ≤ k ∧ k < p.last.length
  · exact rest_in hn (by omega) hk.1 hk.2 g hA2
  · exact rest_out hn (by omega) (by omega) g hA2
theorem getD_replicate {α : Type} {n j : Nat} {v : α} : (List.replicate n v).getD j v = v := by
  simp only [List.getD_eq_getElem?_getD, List.getElem?_replicate]
  split <;> rfl
theorem good_start {n : Nat} (hn : n ≤ 8) {xs : List Lone} (hx : xs.length = 8) (h : ∀ j, j < n → (xs.getD j encLone.dflt).1 = 0 ∧ 1 ≤ (xs.getD j encLone.dflt).2 ∧ (xs.getD j encLone.dflt).2 ≤ 9) :
    Good n xs (List.replicate n false) (List.replicate 8 0) := by
  refine ⟨hx, by simp, by simp, fun j hj => ?_⟩
  obtain ⟨h1, h2, h3⟩ := h j hj
  have e1 : (List.replicate 8 (0 : Int)).getD j 0 = 0 := getD_replicate
  have e2 : (List.replicate n false).getD j false = false := getD_replicate
  rw [e1, e2]
  refine ⟨h2, h3, by omega, by omega, h1, ?_⟩
  have : (0 : Int) ≠ (xs.getD j encLone.dflt).2 := by omega
  exact (beq_eq_false_iff_ne.2 this).symm
set_option maxRecDepth 100000 in
theorem new_s (p : In3) (xs : List Lone) (ts : List Nat) (hn : ts.length ≤ 8) : anyP cfgN 100 11 [.ptr 3 0, .sli 6 (.c 0) 1 (.v ts.length) none] (s3b p xs ts) := by
  let A : List Bool := [decide (0 + ts.length ≤ ts.length), decide (0 + ts.length ≤ ts.length), roomy (List.take ts.length (List.drop 0 ts)).length 16]
  let M : List Bool := [decide (0 ≤ (ts.length : Int)), decide ((ts.length : Int) * 1 ≤ 140737488355328), decide ((ts.length : Int) ≤ 4611686018427387904)]
  have h0 : (anyTP cfgN 100 11 [.ptr 3 0, .sli 6 (.c 0) 1 (.v ts.length) none] (s3b p xs ts)).lineB = some (A ++ M ++ A ++ M ++ A ++ M ++ M ++ A ++ A ++ M ++ M ++ A ++ M ++ A) := by kernel_rfl
  have h1 : (anyTP cfgN 100 11 [.ptr 3 0, .sli 6 (.c 0) 1 (.v ts.length) none] (s3b p xs ts)).lineP = some True := by kernel_rfl
  have hA : ∀ b ∈ A, b = true := by
    intro b hb
    simp only [A, List.mem_cons, List.not_mem_nil, or_false] at hb
    rcases hb with rfl | rfl | rfl
    · simp
    · simp
    · rw [roomy_iff]; simp; omega
  have hM : ∀ b ∈ M, b = true := by
    intro b hb
    simp only [M, List.mem_cons, List.not_mem_nil, or_false] at hb
    rcases hb with rfl | rfl | rfl <;> simp <;> omega
  refine anyP_line h0 h1 (fun b hb => ?_) trivial (by kernel_rfl)
  simp only [List.mem_append] at hb
  rcases hb with ((((((((((((hb | hb) | hb) | hb) | hb) | hb) | hb) | hb) | hb) | hb) | hb) | hb) | hb) | hb <;> first | exact hA b hb | exact hM b hb
def Inv2 (w0 : From) (p : In3) (j : List Lone × Nat) (a : Act) (w : World) : Prop :=
  j.2 ≤ p.last.length ∧ j.1.length = 8 ∧ (∀ k, k < 8 → (j.1.getD k encLone.dflt).1 = 0) ∧ (∀ k, k < j.2 → 1 ≤ (j.1.getD k encLone.dflt).2 ∧ (j.1.getD k encLone.dflt).2 ≤ 9) ∧
  ∃ env, At [(0, 0)] w0 env (fr 132 n3b (v3b p (List.range j.2) (j.2 : Nat))) (s3b p j.1 (List.range j.2)) a w
theorem rest9 : restC 3 (restC 6 b3) = restC 9 b3 := by kernel_rfl
theorem rest6 : rgt (restC 5 b3) = restC 6 b3 := by kernel_rfl
theorem zeros {env : Env} {m : Nat} {k : IntKind} : ∀ {l : List SVal} {cs : List Value}, DenL env (List.replicate m (.lit k 0)) cs → DenL env (List.replicate m (.int k 0)) cs := by
  intro l cs h
  induction m generalizing cs with
  | zero => exact h
  | succ m ih =>
    simp only [List.replicate_succ, DenL] at h ⊢
    obtain ⟨u, us, rfl, h1, h2⟩ := h
    exact ⟨u, us, rfl, by simpa [Den] using h1, ih h2⟩
set_option maxRecDepth 10000 in
theorem cont6 {w0 : From} {p : In3} (hn : p.last.length ≤ 8) {xs : List Lone} (hx : xs.length = 8) (h : ∀ k, k < p.last.length → (xs.getD k encLone.dflt).1 = 0 ∧ 1 ≤ (xs.getD k encLone.dflt).2 ∧ (xs.getD k encLone.dflt).2 ≤ 9) {i : Nat} {env : Env} {a : Act} {w : World}
    (hA : At [(0, 0)] w0 env (fr 132 n3b (v3b p (List.range p.last.length) (i : Nat))) (s3b p xs (List.range p.last.length)) a w) : (restC 6 b3).wp Tryd.prog (Q3 w0) a w := by
  refine pieceNT (c := cfg) cfg_ok 3 n3c t3_new hA ?_
  refine all_eq (new_s p xs _ (by simpa using hn)) ?_
  have hl : (List.range p.last.length).length = p.last.length := by simp
  have ht : List.take p.last.length (List.range p.last.length) = List.range p.last.length := List.take_of_length_le (by simp)
  simp only [List.drop_zero, hl, ht, Int.toNat_natCast]
  repeat' (first
    | refine all_needq (by simp only [decide_eq_true_eq, roomy_iff, List.length_range]; exact Iff.rfl) (by omega) ?_
    | refine all_ret (fun _ _ _ hA' => ?_))
  rename_i env1 a1 w1
  simp only [Ex.to, Exit.then]
  rw [rest9]
  have hA1 := hA'.segs 9 (l' := [.a (encInt .i64) 8 (List.replicate 8 0)]) rfl (by intro s hs; rw [List.mem_singleton.1 hs]; rfl) (fun cs h => by simpa [segCells, Seg.cells, encInt, DenL, Den, List.replicate_succ] using h)
  refine wpS (by kernel_rfl) (wpS (by kernel_rfl) ?_)
  refine pieceT (c := cfg) cfg_ok n3d t3_regm hA1 (all_ret fun env2 a2 w2 hA2 => ?_)
  have hA3 := hA2.vals (v3d p (0 : Nat)) ⟨fun _ h => h, fun _ h => h, fun _ h => h, fun _ h => h, fun _ h => h, fun _ h => h, fun _ h => h, fun _ h => by simpa [Den] using h, trivial⟩
  refine wpB 2 (by kernel_rfl) (wpL (by kernel_rfl) (Inv3 w0 p) (fun j => 100 - j.i) ⟨xs, List.replicate p.last.length false, List.replicate 8 0, 0⟩ ⟨by simp, good_start hn hx h, env2, hA3⟩ ?_)
  rintro ⟨xs, bs, ak, i⟩ a w ⟨h1, g, env, hA⟩
  exact round_ok hn h1 g hA
end Go.Proofs.YtlnigpeoffaemaaDoor

/- StepsOnce: the first loop and the call. -/
namespace Go.Proofs.YtlnigpeoffaemaaDoor
open Go Go.Proofs.YtlnigpeoffaemaaDoor.Sx
set_option linter.unusedVariables false
abbrev R2 (w0 : From) (p : In3) (i : Nat) : Exit → Act → World → Prop :=
  Exit.then (fun a' w' => ∃ k, Inv2 w0 p k a' w' ∧ p.last.length - k.2 < p.last.length - i) (Exit.inBlock 0 (Exit.then ((restC 6 b3).wp Tryd.prog (Q3 w0)) (Q3 w0)))
theorem tmod9 {x : Int} (h : 0 ≤ x) : x.tmod 9 = x % 9 := Int.tmod_eq_emod_of_nonneg h
set_option maxHeartbeats 2000000 in
theorem round2_ok {w0 : From} {p : In3} (hn : p.last.length ≤ 8) {xs : List Lone} {i : Nat} (hi : i ≤ p.last.length) (hx : xs.length = 8) (h0 : ∀ k, k < 8 → (xs.getD k encLone.dflt).1 = 0) (h1 : ∀ k, k < i → 1 ≤ (xs.getD k encLone.dflt).2 ∧ (xs.getD k encLone.dflt).2 ≤ 9) {env : Env} {a : Act} {w : World}
    (hA : At [(0, 0)] w0 env (fr 132 n3b (v3b p (List.range i) (i : Nat))) (s3b p xs (List.range i)) a w) : round3.wp Tryd.prog (R2 w0 p i) a w := by
  refine pieceT (c := cfg) cfg_ok n3b t3_round hA ?_
  have hu := (p.last.getD (i : Int).toNat encU8.dflt).2
  generalize p.last.getD (i : Int).toNat encU8.dflt = u at *
  have hm := tmod9 hu.1
  repeat' (first
    | (refine all_brp (by simp only [decide_eq_true_eq]; exact Iff.rfl) (fun _ => ?_) (fun _ => ?_) <;> try (exfalso; omega))
    | refine all_needq (by simp only [decide_eq_true_eq, Bool.and_eq_true, inR_i64, roomy_iff, List.length_range]; exact Iff.rfl) (by first | omega | trivial) ?_
    | refine all_need rfl (fun _ => ?_)
    | refine all_ret (fun _ _ _ hA' => ?_))
  · have e : List.range (i + 1) = List.range i ++ [i] := List.range_succ
    have hl : (List.range (i + 1)).length = (List.range i).length + 1 := by simp
    rename_i env1 a1 w1
    refine ⟨(xs.set i ⟨(xs.getD i encLone.dflt).1, 1 + u.1.tmod 9⟩, i + 1), ⟨by simp only; omega, by simp [hx], fun k hk => ?_, fun k hk => ?_, env1, ?_⟩, by simp only; omega⟩
    · simp only
      by_cases hki : i = k
      · subst hki
        rw [getD_set_self (by omega)]
        exact h0 i (by omega)
      · rw [getD_set_ne hki]; exact h0 k hk
    · simp only at hk ⊢
      by_cases hki : i = k
      · subst hki
        rw [getD_set_self (by omega)]
        show 1 ≤ 1 + u.1.tmod 9 ∧ 1 + u.1.tmod 9 ≤ 9
        omega
      · rw [getD_set_ne hki]; exact h1 k (by omega)
    · simp only
      rw [v3b, hl, s3b, e]
      exact hA'
  · have hin : i = p.last.length := by omega
    subst hin
    refine (show R2 w0 p _ (.exit 0) _ _ from ?_)
    simp only [R2, Exit.then, Exit.inBlock, if_true]
    exact cont6 hn hx (fun k hk => ⟨h0 k (by omega), h1 k hk⟩) hA'
theorem b3_eq : Tryd.f3.body = some b3 := by kernel_rfl
theorem rest5 : restC 5 b3 = restC 5 b3 := rfl
theorem stepsOnce_call {p : In3} {e0 e1 e2 : Slot} (he : e0.blk = 0 ∧ e0.off = 0) {w : World} {v v' : Value} (hr : Rep [e0, e1, e2] (s3a p) w) (hv : Den [e0, e1, e2] (lastV p 1) v) (hv' : Den [e0, e1, e2] (picksV p 2) v') :
    Calls Tryd.prog 3 ⟨[v, v']⟩ w (Said ⟨w, fun _ => False⟩) := by
  refine call_begin (c := cfg) Tryd.func3 b3_eq (args := [lastV p 1, picksV p 2]) (by
    intro q hq
    rw [List.mem_singleton.1 hq]
    exact ⟨e0, rfl, he⟩) hr ⟨_, _, rfl, hv, _, _, rfl, hv', rfl⟩ (F := fun _ => False) ?_ ?_
  · rintro x ⟨id, e, b, he, hb, hx⟩
    match id with
    | 0 => simp at hb; subst hb; cases hx
    | 1 => simp at hb; subst hb; cases hx
    | 2 => simp at hb; subst hb; cases hx
    | n + 3 => simp at hb
  intro a hA
  refine pieceNT (c := cfg) cfg_ok 5 n3a t3_pre hA ?_
  refine all_eq rfl ?_
  refine all_brp (by simp only [decide_eq_true_eq]; exact Iff.rfl) (fun _ => all_eq rfl (all_ret fun _ _ _ h => h.said (by kernel_rfl))) (fun hn => all_ret fun env1 a1 w1 hA1 => ?_)
  have hn : p.last.length ≤ 8 := by omega
  simp only [Ex.to, Exit.then]
  have hA2 := hA1.segs 5 (l' := [.a encLone 8 (List.replicate 8 ⟨0, 0⟩)]) rfl (by intro s hs; rw [List.mem_singleton.1 hs]; rfl) (fun cs h => by simpa [segCells, Seg.cells, encLone, DenL, Den, List.replicate_succ] using h)
  obtain ⟨env2, hA3⟩ := hA2.void 6 (encT 5) rfl
  refine wpS (by kernel_rfl) (wpS (by kernel_rfl) ?_)
  rw [rest6]
  refine pieceT (c := cfg) cfg_ok n3b (t3_reg (p := p) (xs := List.replicate 8 ⟨0, 0⟩)) hA3 ?_
  refine all_ret fun env3 a3 w3 hA4 => ?_
  have hA5 := hA4.vals (v3b p (List.range 0) (0 : Nat)) ⟨fun _ h => h, fun _ h => h, fun _ h => h, fun _ h => h, fun _ h => h, fun _ h => h, fun _ h => by simpa [Den] using h, trivial⟩
  simp only [Ex.to, Exit.then]
  refine wpB 0 (by kernel_rfl) (wpL (by kernel_rfl) (Inv2 ⟨w, fun _ => False⟩ p) (fun j => p.last.length - j.2) (List.replicate 8 ⟨0, 0⟩, 0) ⟨by simp, by simp, fun k hk => by rw [show encLone.dflt = (⟨0, 0⟩ : Lone) from rfl, getD_replicate], fun k hk => by simp at hk, env3, hA5⟩ ?_)
  rintro ⟨xs, i⟩ a w ⟨h1, h2, h3, h4, env, hA⟩
  exact round2_ok hn h1 h2 h3 h4 hA
end Go.Proofs.YtlnigpeoffaemaaDoor

/- Layer 8: the package's variable, and how a card is closed. -/
namespace Go.Proofs.YtlnigpeoffaemaaDoor
open Go Go.Proofs.YtlnigpeoffaemaaDoor.Sx Go.ChangeShapes Go.WideShapes Go.ChangeAt Go.RowKit
set_option linter.unusedVariables false
abbrev laid1 : List (String × DataW Unit) := [("purlin/mem.look", Rows.laid_purlin_mem_look)]
theorem Tryd.own : ownKnob Tryd.prog.godebug = none := by kernel_rfl
theorem Tryd.laidOut : laidOutB Tryd.prog = true := by kernel_rfl
theorem gLook : Tryd.prog.globalNamed "purlin/mem.look" = some 0 := by kernel_rfl
theorem tLook : (Tryd.prog.globals[0]?).map (·.type) = some 81 := by kernel_rfl
/-- the door's own heap meets the condition -/
theorem door_met (os : Os) (args : Array Value) : laidMetH Tryd.prog laid1 ((World.doorLaid Tryd.prog 400 os).forCall (fun _ _ => 0) ⟨#[], args, []⟩).memory :=
  laidMetH_of_parts3 (fuel := 8) (laidMet_of_run' 8 (by kernel_rfl) (by kernel_rfl)) (by kernel_rfl) (by kernel_rfl)
set_option maxRecDepth 100000 in
/-- what the condition gives -/
theorem of_laid {W : World} (h : laidMetH Tryd.prog laid1 W) : ∃ e : Slot, (e.blk = 0 ∧ e.off = 0) ∧ Rep [e] [lookB] W := by
  rw [MakeChecks.laidMetH_plain _ _ _ (by kernel_rfl)] at h
  obtain ⟨ps, ⟨g0, t0, cs0, f0, p0, q0, hg0, ht0, hv0, hd0, _, _⟩, _, _⟩ := h
  obtain rfl := Option.some.inj (gLook.symm.trans hg0)
  obtain rfl := Option.some.inj (tLook.symm.trans ht0)
  obtain ⟨xs, m, _, hx, hlen, hxl, hf⟩ := DataW.trod_struct Tryd.underlying81 hd0
  have hC : Tryd.prog.cellsOf 81 = 3 := by kernel_rfl
  have k45 : Tryd.prog.cellsOf 45 = 1 := by kernel_rfl
  rw [hC] at hlen
  obtain ⟨l⟩ := cs0
  simp only at hlen hf
  match l, hlen with
  | [c0, c1, c2], _ =>
    match xs, hxl, hx with
    | [y0, y1, y2], _, hx =>
      have f0 : DataW.trod _ Tryd.prog W 0 _ false m 45 (([c0, c1, c2].drop 0).take (Tryd.prog.cellsOf 45)) = some y0 := hf 0 _ rfl
      have f1 : DataW.trod _ Tryd.prog W 0 _ false m 45 (([c0, c1, c2].drop 1).take (Tryd.prog.cellsOf 45)) = some y1 := hf 1 _ rfl
      have f2 : DataW.trod _ Tryd.prog W 0 _ false m 45 (([c0, c1, c2].drop 2).take (Tryd.prog.cellsOf 45)) = some y2 := hf 2 _ rfl
      rw [k45] at f0 f1 f2
      obtain ⟨a0, h0, e0, _⟩ := DataW.trod_int Tryd.underlying45 f0
      obtain ⟨a1, h1, e1, _⟩ := DataW.trod_int Tryd.underlying45 f1
      obtain ⟨a2, h2, e2, _⟩ := DataW.trod_int Tryd.underlying45 f2
      simp at h0 h1 h2
      subst h0 h1 h2 e0 e1 e2
      simp [Rows.laid_purlin_mem_look] at hx
      obtain ⟨⟨rfl, rfl, rfl⟩, _⟩ := hx
      have hc := fun i => World.var?_cell hg0 hv0 i
      have hsz : 0 < W.heap.size := by
        have := hc 0
        simp only [World.cell?] at this
        rcases Nat.eq_zero_or_pos W.heap.size with h | h
        · rw [Array.getElem?_eq_none (by omega)] at this; simp at this
        · exact h
      refine ⟨⟨0, 0, 0⟩, ⟨rfl, rfl⟩, rfl, ?_, ?_, ?_⟩
      · intro id sl b he hb
        match id with
        | 0 =>
          simp only [List.getElem?_cons_zero, Option.some.injEq] at he hb
          subst he hb
          refine ⟨[.int .u32 4294967295, .int .u32 0, .int .u32 0], by simp [encLook, encOf, DenL, Den], fun i hi => ?_⟩
          have := hc i
          simpa using this
        | n + 1 => simp at he
      · intro i j e f b c hij he hf' hb' hc' x hx''
        match i, j with
        | 0, 0 => exact (hij rfl).elim
        | i + 1, _ => simp at he
        | 0, j + 1 => simp at hf'
      · intro id sl b he hb x hx
        match id with
        | 0 =>
          simp only [List.getElem?_cons_zero, Option.some.injEq] at he hb
          subst he hb
          simp [Blk.supp] at hx
          omega
        | n + 1 => simp at he
end Go.Proofs.YtlnigpeoffaemaaDoor

/- StepsOnce: its row and its card. -/
namespace Go.Proofs.YtlnigpeoffaemaaDoor
open Go Go.Proofs.YtlnigpeoffaemaaDoor.Sx Go.ChangeShapes Go.WideShapes Go.ChangeAt Go.RowKit
set_option linter.unusedVariables false
theorem wf_u8 {n : Int} (h : (Lit.int .u8 n).wf = true) : 0 ≤ n ∧ n ≤ 255 := by simp [Lit.wf, IntKind.min, IntKind.max, IntKind.signed, IntKind.bits] at h; omega
theorem open_u8 {H : Type} {enc : TypeId × Value → H} {w : World} {base : Nat} {spare : Nat → Bool} {held : Bool} (n : Nat) (cs : List Value) (y : DataW H × List MemPlace) (h : DataW.trod enc Tryd.prog w base spare held n 5 cs = some y) :
    ∃ x : U8, DenL [] (encU8.enc x) cs := by
  cases n with
  | zero => simp [DataW.trod] at h
  | succ n =>
    obtain ⟨a, h0, _, hw⟩ := DataW.trod_int Tryd.underlying5 h
    subst h0
    exact ⟨⟨a, wf_u8 hw⟩, by simp [encU8, encOf, DenL, Den]⟩
theorem open_i64 {H : Type} {enc : TypeId × Value → H} {w : World} {base : Nat} {spare : Nat → Bool} {held : Bool} (n : Nat) (cs : List Value) (y : DataW H × List MemPlace) (h : DataW.trod enc Tryd.prog w base spare held n 3 cs = some y) :
    ∃ x : Int, DenL [] ((encInt .i64).enc x) cs := by
  cases n with
  | zero => simp [DataW.trod] at h
  | succ n =>
    obtain ⟨a, h0, _, hw⟩ := DataW.trod_int Tryd.underlying3 h
    subst h0
    exact ⟨a, by simp [encInt, DenL, Den]⟩
set_option maxRecDepth 100000 in
theorem stepsOnce_lifted (os : Os) (started : os.Started) (H : Type) (enc : TypeId × Value → H) :
    ReturnsInHanded {} Tryd.checked os 3 .any (fun w args => (Rows.stepsOnceSpec.pre enc Tryd.prog Tryd.f3 [] false w args ∧ laidMetH Tryd.prog laid1 w) ∧ sizedMet enc Tryd.prog Tryd.f3 (OpenSpec.ofChange Rows.stepsOnceSpec) false w args)
      (Rows.stepsOnceSpec.post enc Tryd.prog Tryd.f3 false true false false) := by
  refine returnsInHanded_of_change_and (C := Tryd.checked) (X := fun w _ => laidMetH Tryd.prog laid1 w) (fun _ _ _ hh h => h.of_heap hh) Tryd.own started (by kernel_rfl) Tryd.func3
    (ChangeSpec.witness_shaped (enc := enc) (C := Tryd.checked) (os := os) (X := fun w _ => laidMetH Tryd.prog laid1 w) false (World.doorLaid Tryd.prog 400 os) #[.slice none 0 0, .slice none 0 0] 8 rfl (World.shaped_of_RefB (by kernel_rfl) (by kernel_rfl)) (by kernel_rfl) (by kernel_rfl) (by kernel_rfl) (door_met os _)) ?_
  intro W base args ds gs before hval0 hW _ _ hL _
  have hval : ∀ (j : Nat) t v, Tryd.f3.params[j]? = some t → args[j]? = some v → Value.okWide Tryd.prog W .any base t v := hval0
  have hW' := hW
  obtain ⟨p, q, hA0, hV, rfl, hfz, hnd⟩ := hW
  have hA : DataW.TrodAll enc Tryd.prog W 0 (fun _ => true) true Tryd.f3.params.toList args.toList ds p := hA0
  rw [Tryd.params3] at hA hval
  obtain ⟨v0, v1, d0, d1, p0, p1, rfl, rfl, rfl, h0, h1⟩ := trodAll_two hA
  obtain ⟨rfl, rfl⟩ := trodVars_none hV
  clear hA0 hval0
  have hlt0 : ∀ x ∈ p0, x.block < W.heap.size := fun x hx => by simpa using hW'.lt x (by simp [hx])
  have hlt1 : ∀ x ∈ p1, x.block < W.heap.size := fun x hx => by simpa using hW'.lt x (by simp [hx])
  obtain ⟨e0, he, hr0⟩ := of_laid hL
  have fin : ∀ e W', Said ⟨W, fun _ => False⟩ e W' → ∃ v, e = .returned v ∧ Rows.stepsOnceSpec.post enc Tryd.prog Tryd.f3 false true false false W #[v0, v1] v W' := by
    rintro e W' ⟨rfl, hsz, hk, hc⟩
    have hk' : ∀ x, x < W.heap.size → W'.heap[x]? = W.heap[x]? := fun x hx => hk x hx (fun h => h)
    refine ⟨_, rfl, _, _, _, [], _, [], hW', ⟨[], [], shut_bool Tryd.underlying4 true, rfl, rfl⟩, trodAll_mk2 (trod_same Tryd.laidOut (by kernel_rfl) (of_decide_eq_true (by kernel_rfl)) h0 hk' hlt0) (trod_same Tryd.laidOut (by kernel_rfl) (of_decide_eq_true (by kernel_rfl)) h1 hk' hlt1), rfl, keptBut_of _ hc hk', fun h => by cases h⟩
  obtain ⟨xs, cap, e1, hr1, hd1⟩ := open_sli encU8 Tryd.underlying22 (by kernel_rfl) open_u8 rfl (hval 0 22 v0 rfl rfl) h0
  obtain ⟨ys, cap', e2, hr2, hd2⟩ := open_sli (encInt .i64) Tryd.underlying23 (by kernel_rfl) open_i64 rfl (hval 1 23 v1 rfl rfl) h1
  obtain ⟨hr3, hn3⟩ := ro_add hr0 (by intro b hb e; rw [List.mem_singleton.1 hb]; rfl) rfl hr1
  obtain ⟨hr, _⟩ := ro_add hr3 hn3 rfl hr2
  have hv : Den ([e0, e1] ++ [e2]) (lastV ⟨xs, cap, ys, cap'⟩ 1) v0 := den_wide (den_add (env := [e0]) (n := 1) hd1 rfl)
  have hv' : Den ([e0, e1] ++ [e2]) (picksV ⟨xs, cap, ys, cap'⟩ 2) v1 := den_add (env := [e0, e1]) (n := 2) hd2 rfl
  exact (stepsOnce_call (p := ⟨xs, cap, ys, cap'⟩) he hr hv hv').mono fun e W' h => fin e W' h
theorem stepsOnce_row : Rows.StepsOnceSaid :=
  OpenClaim.holds_of_wide 3 Tryd.f3 rfl rfl rfl rfl rfl rfl rfl ⟨rfl, rfl, rfl, rfl, rfl⟩ rfl rfl rfl rfl rfl (by kernel_rfl) Tryd.func3 (by kernel_rfl)
    (of_decide_eq_true (by kernel_rfl)) (by unfold Func.isWrapper; first | (rw [if_pos (by decide +kernel)]; kernel_rfl) | (rw [if_neg (by decide +kernel)]; exact ⟨rfl, rfl⟩))
    (fun os started H enc _ => stepsOnce_lifted os started H enc)
theorem stepsOnce_holds : Rows.StepsOnceCardSaid :=
  Claim7.holds_tied_plain_at .later [] [.data] true _ _ stepsOnce_row (fun _ h => by cases h) (by kernel_rfl) (fun _ h => by cases h) stepsOnce_row_tie rfl ⟨rfl, rfl⟩ (by kernel_rfl) rfl
    (fun f fn hf hfn => by
      obtain rfl : f = 3 := Option.some.inj ((show Tryd.prog.funcNamed "purlin/purlinlaw08.StepsOnce" = some 3 by kernel_rfl).symm.trans hf) |>.symm
      obtain rfl : fn = Tryd.f3 := (Option.some.inj (Tryd.func3.symm.trans hfn)).symm
      exact ⟨by kernel_rfl, fun j t ht => by
        rw [Tryd.params3] at ht
        have hm : t ∈ [22, 23] := by simpa using Array.mem_of_getElem? ht
        have hall : ([22, 23].all fun u => !Tryd.prog.wantsStandIn u) = true := by kernel_rfl
        exact (show Tryd.prog.wantsStandIn t = false by simpa using List.all_eq_true.1 hall t hm)⟩)
    (by kernel_rfl)
end Go.Proofs.YtlnigpeoffaemaaDoor

