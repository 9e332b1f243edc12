/- SeqlockTries: a further try has a step of the writer between. -/
import Derived.Test.YtmknmbacecjfmaaDoorSqa
/- SeqlockWhole: pieces and states. -/
namespace Go.Proofs.YtmknmbacecjfmaaDoor
open Go Go.Proofs.YtmknmbacecjfmaaDoor.Sx
set_option linter.unusedVariables false
structure InW where
  first : Int
  xss : List (List Int)
  cp : Nat
  acts : List Int
  ca : Nat
abbrev acV (q : InW) (i : Nat) : SVal := .sli i (.c 0) 1 (.v q.acts.length) (some (.v q.ca))
abbrev s0W (q : InW) (hs : List (Nat × Nat)) : St := inS q.xss hs ++ [.ro (encInt .u8) q.acts]
abbrev argW (q : InW) : List SVal := [.int .u32 q.first, vsV q.xss q.cp, acV q 3]
noncomputable def b3 : Code := Tryd.f3.body.getD .skip
noncomputable def c3 : Code := restC 9 b3
noncomputable def reg3 : Code := lft (lft c3)
noncomputable def blk3 : Code := rgt (lft c3)
noncomputable def round3 : Code := lft (lft blk3)
noncomputable def tm3 : Code := lft round3
noncomputable def bb3 : Code := lft (lft (rgt round3))
noncomputable def inc3 : Code := rgt (rgt round3)
noncomputable def end3 : Code := rgt c3
/-- the loop over versions, and over words -/
noncomputable def d3 : Code := restC 9 bb3
noncomputable def dreg3 : Code := lft (lft d3)
noncomputable def dblk3 : Code := rgt (lft d3)
noncomputable def dround3 : Code := lft (lft dblk3)
noncomputable def dtm3 : Code := lft dround3
noncomputable def dbb3 : Code := lft (lft (rgt dround3))
noncomputable def dinc3 : Code := rgt (rgt dround3)
noncomputable def dend3 : Code := rgt d3
noncomputable def e3 : Code := restC 1 dbb3
noncomputable def ereg3 : Code := lft (lft e3)
noncomputable def eblk3 : Code := rgt (lft e3)
noncomputable def eround3 : Code := lft (lft eblk3)
noncomputable def etm3 : Code := lft eround3
noncomputable def ebb3 : Code := lft (lft (rgt eround3))
noncomputable def einc3 : Code := rgt (rgt eround3)
noncomputable def eend3 : Code := rgt e3
abbrev nA : List Nat := [0, 1, 2, 7, 8]
abbrev vA (q : InW) : List SVal := [.int .u32 q.first, vsV q.xss q.cp, acV q 3, .ptr 5 0, .lit .i64 0]
abbrev nB : List Nat := [0, 1, 2, 7, 8, 9, 10]
abbrev nC : List Nat := [0, 1, 2, 7, 9]
abbrev vC (q : InW) : List SVal := [.int .u32 q.first, vsV q.xss q.cp, acV q 3, .ptr 5 0, .ptr 8 0]
abbrev nD : List Nat := [1, 2, 7, 9, 11, 12]
abbrev vD (q : InW) (n : Nat) : List SVal := [vsV q.xss q.cp, acV q 3, .ptr 5 0, .ptr 8 0, .int .i64 (n : Nat), .ptr 9 0]
abbrev nW : List Nat := [1, 2, 7, 9, 11, 12, 14, 15]
abbrev vW (q : InW) (n : Nat) (bf : Int) (gp : Bool) : List SVal := vD q n ++ [.int .i64 bf, .sb gp]
abbrev nWi : List Nat := [1, 2, 7, 9, 11, 12, 14, 15, 16]
abbrev vWi (q : InW) (n : Nat) (bf : Int) (gp : Bool) (i : Nat) : List SVal := vW q n bf gp ++ [.int .i64 (i : Nat)]
abbrev nWt : List Nat := [1, 2, 7, 9, 11, 12, 14, 15, 16, 17]
abbrev vWt (q : InW) (n : Nat) (bf : Int) (gp : Bool) (i : Nat) (t : Int) : List SVal := vWi q n bf gp i ++ [.int .i64 t]
abbrev nWl : List Nat := [1, 2, 7, 9, 11, 12, 14, 15, 16, 18, 20]
abbrev nWk : List Nat := [1, 2, 7, 9, 11, 12, 14, 15, 16, 18, 20, 21]
abbrev nWm : List Nat := [1, 2, 7, 9, 11, 12, 14, 15, 16, 18, 20, 21, 22]
abbrev nWj : List Nat := [1, 2, 7, 9, 11, 12, 14, 15, 16, 18, 20, 21, 22, 23]
abbrev slV (n : Nat) : SVal := .sli 10 (.c 0) 1 (.v n) (some (.v n))
abbrev vWl (q : InW) (n : Nat) (bf : Int) (gp : Bool) (i : Nat) (hit : Bool) : List SVal := vWi q n bf gp i ++ [slV n, .sb hit]
abbrev vWk (q : InW) (n : Nat) (bf : Int) (gp : Bool) (i : Nat) (hit : Bool) (k : Int) : List SVal := vWl q n bf gp i hit ++ [.int .i64 k]
abbrev vWm (q : InW) (n : Nat) (bf : Int) (gp : Bool) (i : Nat) (hit : Bool) (k : Int) (m : Bool) : List SVal := vWk q n bf gp i hit k ++ [.sb m]
abbrev vWj (q : InW) (n : Nat) (bf : Int) (gp : Bool) (i : Nat) (hit : Bool) (k : Int) (m : Bool) (j : Nat) : List SVal := vWm q n bf gp i hit k m ++ [.int .i64 (j : Nat)]
abbrev sWq (q : InW) (hs gs : List (Nat × Nat)) (l : List Int) (c : Int) (x : Wr) (y : Rd) : St := sMR 60 q.acts q.xss hs gs l c x y
/-- with what a reader gave -/
abbrev sWg (q : InW) (hs gs : List (Nat × Nat)) (l : List Int) (c : Int) (x : Wr) (y : Rd) (B : List Int) : St := sWq q hs gs l c x y ++ [.own [.a (encInt .u32) 32 B] 71]
/-- a writer is made -/
noncomputable def cfgNw (k : Nat) (ac : List Int) (a : SVal) (xss : List (List Int)) (hs : List (Nat × Nat)) (cp : Nat) (l : List Int) (c : Int) (P : Prop) (v : SVal) (S' : St) : Cfg := { P := Tryd.prog, ex := exI, gl := [(0, 0)], sm := fun f => match f with
  | 9 => some (smEq [a, vsV xss cp] (sI k ac xss hs l c) P v S')
  | _ => none }
/-- awake, and few -/
noncomputable def cfgFw (S : St) (xss : List (List Int)) (cp : Nat) (P : Prop) (b : Bool) : Cfg := { P := Tryd.prog, ex := exI, gl := [(0, 0)], sm := fun f => match f with
  | 10 => some (smClosed [0] [lookB] (.bl true))
  | 11 => some (smEq [vsV xss cp] S P (.sb b) S)
  | _ => none }
/-- steps, what they come to named -/
noncomputable def cfgSt (q : InW) (hs gs : List (Nat × Nat)) (l : List Int) (c : Int) (x : Wr) (y : Rd) (l1 : List Int) (c1 : Int) (x1 : Wr) (b1 : Bool) (c2 : Int) (y2 : Rd) (b2 : Bool) (P1 P2 : Prop) : Cfg := { P := Tryd.prog, ex := exI, gl := [(0, 0)], sm := fun f => match f with
  | 14 => some (smEq [.ptr 8 0, .ptr 5 0] (sWq q hs gs l c x y) P1 (.sb b1) (sWq q hs gs l1 c1 x1 y))
  | 16 => some (smEq [.ptr 9 0, .ptr 5 0] (sWq q hs gs l c x y) P2 (.sb b2) (sWq q hs gs l c2 x y2))
  | _ => none }
end Go.Proofs.YtmknmbacecjfmaaDoor

namespace Go.Proofs.YtmknmbacecjfmaaDoor
open Go Go.Proofs.YtmknmbacecjfmaaDoor.Sx
set_option linter.unusedVariables false
set_option maxRecDepth 100000 in
theorem p_a {q : InW} {hs : List (Nat × Nat)} : (execN cfgM 100 2 b3 (argW q ++ List.replicate 169 .bad) (s0W q hs)).bind (canonK 4 [(0,0)] 172 nA) =
 

 (.ret (.normal, [.int .u32 q.1, .sli 1 (.c 0) 1 (.v q.2.length) (some (.v q.3)), .sli 3 (.c 0) 1 (.v q.4.length) (some (.v q.5)), .ptr 4 0, .lit .i64 (0 : Int)], [.ro encLook [PUnit.unit], .ro (encHd 2) hs, Blk.rows false IntKind.u32 q.2, .ro (encInt IntKind.u8) q.4, .own [.c (.sli 5 (.c 0) 1 (.c 60) (some (.c 60))), .c (.lit .i64 (0 : Int))] 68, .own [.c (.lit .u32 (0 : Int)), .c (.lit .u32 (0 : Int)), .c (.lit .u32 (0 : Int)), .c (.lit .u32 (0 : Int)), .c (.lit .u32 (0 : Int)), .c (.lit .u32 (0 : Int)), .c (.lit .u32 (0 : Int)), .c (.lit .u32 (0 : Int)), .c (.lit .u32 (0 : Int)), .c (.lit .u32 (0 : Int)), .c (.lit .u32 (0 : Int)), .c (.lit .u32 (0 : Int)), .c (.lit .u32 (0 : Int)), .c (.lit .u32 (0 : Int)), .c (.lit .u32 (0 : Int)), .c (.lit .u32 (0 : Int)), .c (.lit .u32 (0 : Int)), .c (.lit .u32 (0 : Int)), .c (.lit .u32 (0 : Int)), .c (.lit .u32 (0 : Int)), .c (.lit .u32 (0 : Int)), .c (.lit .u32 (0 : Int)), .c (.lit .u32 (0 : Int)), .c (.lit .u32 (0 : Int)), .c (.lit .u32 (0 : Int)), .c (.lit .u32 (0 : Int)), .c (.lit .u32 (0 : Int)), .c (.lit .u32 (0 : Int)), .c (.lit .u32 (0 : Int)), .c (.lit .u32 (0 : Int)), .c (.lit .u32 (0 : Int)), .c (.lit .u32 (0 : Int)), .c (.lit .u32 (0 : Int)), .c (.lit .u32 (0 : Int)), .c (.lit .u32 (0 : Int)), .c (.lit .u32 (0 : Int)), .c (.lit .u32 (0 : Int)), .c (.lit .u32 (0 : Int)), .c (.lit .u32 (0 : Int)), .c (.lit .u32 (0 : Int)), .c (.lit .u32 (0 : Int)), .c (.lit .u32 (0 : Int)), .c (.lit .u32 (0 : Int)), .c (.lit .u32 (0 : Int)), .c (.lit .u32 (0 : Int)), .c (.lit .u32 (0 : Int)), .c (.lit .u32 (0 : Int)), .c (.lit .u32 (0 : Int)), .c (.lit .u32 (0 : Int)), .c (.lit .u32 (0 : Int)), .c (.lit .u32 (0 : Int)), .c (.lit .u32 (0 : Int)), .c (.lit .u32 (0 : Int)), .c (.lit .u32 (0 : Int)), .c (.lit .u32 (0 : Int)), .c (.lit .u32 (0 : Int)), .c (.lit .u32 (0 : Int)), .c (.lit .u32 (0 : Int)), .c (.lit .u32 (0 : Int)), .c (.lit .u32 (0 : Int))] 22])) := by kernel_rfl
set_option maxRecDepth 100000 in
theorem p_b {q : InW} {hs gs : List (Nat × Nat)} {l : List Int} {c : Int} {P : Prop} {a : Int} : (execN (cfgNw 60 q.acts (.lit .i64 0) q.xss hs q.cp l c P (.tup [.ptr 8 0, .lit .i64 0]) (sM 60 q.acts q.xss hs gs l c (wr0 a))) 100 1 (restC 2 b3) (fr 172 nA (vA q)) (sI 60 q.acts q.xss hs l c)).bind (canonK 9 [(0,0)] 172 nB) =
 

 (.eq ([SVal.lit .i64 (0 : Int), .sli 1 (.c 0) 1 (.v q.2.length) (some (.v q.3))] = [SVal.lit .i64 (0 : Int), .sli 1 (.c 0) 1 (.v q.2.length) (some (.v q.3))] ∧ [Blk.ro encLook [PUnit.unit], .ro (encHd 2) hs, Blk.rows false IntKind.u32 q.2, .ro (encInt IntKind.u8) q.4, .own [.a (encInt IntKind.u32) 60 l] 22, .own [.c (.sli 4 (.c 0) 1 (.v 60) (some (.v 60))), .c (.int .i64 c)] 68] = [Blk.ro encLook [PUnit.unit], .ro (encHd 2) hs, Blk.rows false IntKind.u32 q.2, .ro (encInt IntKind.u8) q.4, .own [.a (encInt IntKind.u32) 60 l] 22, .own [.c (.sli 4 (.c 0) 1 (.v 60) (some (.v 60))), .c (.int .i64 c)] 68] ∧ P)

 (.ret (.normal, [.int .u32 q.1, .sli 1 (.c 0) 1 (.v q.2.length) (some (.v q.3)), .sli 3 (.c 0) 1 (.v q.4.length) (some (.v q.5)), .ptr 5 0, .lit .i64 (0 : Int), .ptr 8 0, .lit .i64 (0 : Int)], [.ro encLook [PUnit.unit], .ro (encHd 2) hs, Blk.rows false IntKind.u32 q.2, .ro (encInt IntKind.u8) q.4, .own [.a (encInt IntKind.u32) 60 l] 22, .own [.c (.sli 4 (.c 0) 1 (.v 60) (some (.v 60))), .c (.int .i64 c)] 68, Blk.rows true IntKind.u32 q.2, .vec (encHd 6) gs 34, .own [.c (.int .i64 a), .c (.int .i64 (0 : Int)), .c (.int .i64 (0 : Int)), .c (.sli 7 (.c 0) 1 (.v gs.length) none), .c (.int .i64 (0 : Int))] 70]))) := by kernel_rfl
set_option maxRecDepth 100000 in
theorem p_bn {q : InW} {hs : List (Nat × Nat)} {l : List Int} {c : Int} {P : Prop} : (execN (cfgNw 60 q.acts (.lit .i64 0) q.xss hs q.cp l c P (.tup [.pnil, .lit .i64 100]) (sI 60 q.acts q.xss hs l c)) 100 1 (restC 2 b3) (fr 172 nA (vA q)) (sI 60 q.acts q.xss hs l c)).bind (canonK 6 [(0,0)] 172 nB) =
 

 (.eq ([SVal.lit .i64 (0 : Int), .sli 1 (.c 0) 1 (.v q.2.length) (some (.v q.3))] = [SVal.lit .i64 (0 : Int), .sli 1 (.c 0) 1 (.v q.2.length) (some (.v q.3))] ∧ [Blk.ro encLook [PUnit.unit], .ro (encHd 2) hs, Blk.rows false IntKind.u32 q.2, .ro (encInt IntKind.u8) q.4, .own [.a (encInt IntKind.u32) 60 l] 22, .own [.c (.sli 4 (.c 0) 1 (.v 60) (some (.v 60))), .c (.int .i64 c)] 68] = [Blk.ro encLook [PUnit.unit], .ro (encHd 2) hs, Blk.rows false IntKind.u32 q.2, .ro (encInt IntKind.u8) q.4, .own [.a (encInt IntKind.u32) 60 l] 22, .own [.c (.sli 4 (.c 0) 1 (.v 60) (some (.v 60))), .c (.int .i64 c)] 68] ∧ P)

 (.ret (.normal, [.int .u32 q.1, .sli 1 (.c 0) 1 (.v q.2.length) (some (.v q.3)), .sli 3 (.c 0) 1 (.v q.4.length) (some (.v q.5)), .ptr 5 0, .lit .i64 (0 : Int), .pnil, .lit .i64 (100 : Int)], [.ro encLook [PUnit.unit], .ro (encHd 2) hs, Blk.rows false IntKind.u32 q.2, .ro (encInt IntKind.u8) q.4, .own [.a (encInt IntKind.u32) 60 l] 22, .own [.c (.sli 4 (.c 0) 1 (.v 60) (some (.v 60))), .c (.int .i64 c)] 68]))) := by kernel_rfl
set_option maxRecDepth 100000 in
theorem p_c {q : InW} {hs gs : List (Nat × Nat)} {l : List Int} {c : Int} {x : Wr} {P : Prop} {b : Bool} : (execN (cfgFw (sM 60 q.acts q.xss hs gs l c x) q.xss q.cp P b) 100 1 (restC 3 b3) (fr 172 nB (vA q ++ [.ptr 8 0, .lit .i64 0])) (sM 60 q.acts q.xss hs gs l c x)).bind (canonK 9 [(0,0)] 172 (6 :: nC)) =
 

 (.eq (some [Blk.ro encLook [PUnit.unit]] = some [Blk.ro encLook [PUnit.unit]])

 (.eq ([SVal.sli 1 (.c 0) 1 (.v q.2.length) (some (.v q.3))] = [SVal.sli 1 (.c 0) 1 (.v q.2.length) (some (.v q.3))] ∧ [Blk.ro encLook [PUnit.unit], .ro (encHd 2) hs, Blk.rows false IntKind.u32 q.2, .ro (encInt IntKind.u8) q.4, .own [.a (encInt IntKind.u32) 60 l] 22, .own [.c (.sli 4 (.c 0) 1 (.v 60) (some (.v 60))), .c (.int .i64 c)] 68, Blk.rows true IntKind.u32 q.2, .vec (encHd 6) gs 34, .own [.c (.int .i64 x.1), .c (.int .i64 x.2), .c (.int .i64 x.3), .c (.sli 7 (.c 0) 1 (.v gs.length) none), .c (.int .i64 x.4)] 70] = [Blk.ro encLook [PUnit.unit], .ro (encHd 2) hs, Blk.rows false IntKind.u32 q.2, .ro (encInt IntKind.u8) q.4, .own [.a (encInt IntKind.u32) 60 l] 22, .own [.c (.sli 4 (.c 0) 1 (.v 60) (some (.v 60))), .c (.int .i64 c)] 68, Blk.rows true IntKind.u32 q.2, .vec (encHd 6) gs 34, .own [.c (.int .i64 x.1), .c (.int .i64 x.2), .c (.int .i64 x.3), .c (.sli 7 (.c 0) 1 (.v gs.length) none), .c (.int .i64 x.4)] 70] ∧ P)

 (.br (!b)

 (.eq (some [Blk.ro encLook [PUnit.unit]] = some [Blk.ro encLook [PUnit.unit]])

 (.ret (.ret, [.bl true, .int .u32 q.1, .sli 1 (.c 0) 1 (.v q.2.length) (some (.v q.3)), .sli 3 (.c 0) 1 (.v q.4.length) (some (.v q.5)), .ptr 5 0, .ptr 8 0], [.ro encLook [PUnit.unit], .ro (encHd 2) hs, Blk.rows false IntKind.u32 q.2, .ro (encInt IntKind.u8) q.4, .own [.a (encInt IntKind.u32) 60 l] 22, .own [.c (.sli 4 (.c 0) 1 (.v 60) (some (.v 60))), .c (.int .i64 c)] 68, Blk.rows true IntKind.u32 q.2, .vec (encHd 6) gs 34, .own [.c (.int .i64 x.1), .c (.int .i64 x.2), .c (.int .i64 x.3), .c (.sli 7 (.c 0) 1 (.v gs.length) none), .c (.int .i64 x.4)] 70])))

 (.br ((↑q.2.length : Int) == (0 : Int))

 (.eq (some [Blk.ro encLook [PUnit.unit]] = some [Blk.ro encLook [PUnit.unit]])

 (.ret (.ret, [.bl true, .int .u32 q.1, .sli 1 (.c 0) 1 (.v q.2.length) (some (.v q.3)), .sli 3 (.c 0) 1 (.v q.4.length) (some (.v q.5)), .ptr 5 0, .ptr 8 0], [.ro encLook [PUnit.unit], .ro (encHd 2) hs, Blk.rows false IntKind.u32 q.2, .ro (encInt IntKind.u8) q.4, .own [.a (encInt IntKind.u32) 60 l] 22, .own [.c (.sli 4 (.c 0) 1 (.v 60) (some (.v 60))), .c (.int .i64 c)] 68, Blk.rows true IntKind.u32 q.2, .vec (encHd 6) gs 34, .own [.c (.int .i64 x.1), .c (.int .i64 x.2), .c (.int .i64 x.3), .c (.sli 7 (.c 0) 1 (.v gs.length) none), .c (.int .i64 x.4)] 70])))

 (.ret (.normal, [.bad, .int .u32 q.1, .sli 1 (.c 0) 1 (.v q.2.length) (some (.v q.3)), .sli 3 (.c 0) 1 (.v q.4.length) (some (.v q.5)), .ptr 5 0, .ptr 8 0], [.ro encLook [PUnit.unit], .ro (encHd 2) hs, Blk.rows false IntKind.u32 q.2, .ro (encInt IntKind.u8) q.4, .own [.a (encInt IntKind.u32) 60 l] 22, .own [.c (.sli 4 (.c 0) 1 (.v 60) (some (.v 60))), .c (.int .i64 c)] 68, Blk.rows true IntKind.u32 q.2, .vec (encHd 6) gs 34, .own [.c (.int .i64 x.1), .c (.int .i64 x.2), .c (.int .i64 x.3), .c (.sli 7 (.c 0) 1 (.v gs.length) none), .c (.int .i64 x.4)] 70])))))) := by kernel_rfl
set_option maxRecDepth 100000 in
theorem p_cn {q : InW} {hs : List (Nat × Nat)} {l : List Int} {c : Int} {P : Prop} {b : Bool} : (execN (cfgFw (sI 60 q.acts q.xss hs l c) q.xss q.cp P b) 100 1 (restC 3 b3) (fr 172 nB (vA q ++ [.pnil, .lit .i64 100])) (sI 60 q.acts q.xss hs l c)).bind (canonK 6 [(0,0)] 172 [6]) =
 

 (.eq (some [Blk.ro encLook [PUnit.unit]] = some [Blk.ro encLook [PUnit.unit]])

 (.eq ([SVal.sli 1 (.c 0) 1 (.v q.2.length) (some (.v q.3))] = [SVal.sli 1 (.c 0) 1 (.v q.2.length) (some (.v q.3))] ∧ [Blk.ro encLook [PUnit.unit], .ro (encHd 2) hs, Blk.rows false IntKind.u32 q.2, .ro (encInt IntKind.u8) q.4, .own [.a (encInt IntKind.u32) 60 l] 22, .own [.c (.sli 4 (.c 0) 1 (.v 60) (some (.v 60))), .c (.int .i64 c)] 68] = [Blk.ro encLook [PUnit.unit], .ro (encHd 2) hs, Blk.rows false IntKind.u32 q.2, .ro (encInt IntKind.u8) q.4, .own [.a (encInt IntKind.u32) 60 l] 22, .own [.c (.sli 4 (.c 0) 1 (.v 60) (some (.v 60))), .c (.int .i64 c)] 68] ∧ P)

 (.br (!b)

 (.eq (some [Blk.ro encLook [PUnit.unit]] = some [Blk.ro encLook [PUnit.unit]])

 (.ret (.ret, [.bl true], [.ro encLook [PUnit.unit], .ro (encHd 2) hs, Blk.rows false IntKind.u32 q.2, .ro (encInt IntKind.u8) q.4, .own [.a (encInt IntKind.u32) 60 l] 22, .own [.c (.sli 4 (.c 0) 1 (.v 60) (some (.v 60))), .c (.int .i64 c)] 68])))

 (.eq (some [Blk.ro encLook [PUnit.unit]] = some [Blk.ro encLook [PUnit.unit]])

 (.ret (.ret, [.bl true], [.ro encLook [PUnit.unit], .ro (encHd 2) hs, Blk.rows false IntKind.u32 q.2, .ro (encInt IntKind.u8) q.4, .own [.a (encInt IntKind.u32) 60 l] 22, .own [.c (.sli 4 (.c 0) 1 (.v 60) (some (.v 60))), .c (.int .i64 c)] 68])))))) := by kernel_rfl
set_option maxRecDepth 100000 in
theorem p_d {q : InW} {hs gs : List (Nat × Nat)} {l : List Int} {c : Int} {x : Wr} : (execN cfgM 100 3 (restC 4 b3) (fr 172 nC (vC q)) (sM 60 q.acts q.xss hs gs l c x)).bind (canonK 9 [(0,0)] 172 nD) =
 

 (.need (decide (0 < q.2.length))

 (.need (decide (0 < hs.length))

 (.br (decide ((1 : Int) ≤ (↑(hs.getD 0 (0, 0)).snd : Int)))

 (.br (!decide ((↑(hs.getD 0 (0, 0)).snd : Int) ≤ (32 : Int)))

 (.ret (.ret, [.sli 1 (.c 0) 1 (.v q.2.length) (some (.v q.3)), .sli 3 (.c 0) 1 (.v q.4.length) (some (.v q.5)), .ptr 5 0, .ptr 8 0, .int .i64 (↑(hs.getD 0 (0, 0)).snd : Int), .pnil], [.ro encLook [PUnit.unit], .ro (encHd 2) hs, Blk.rows false IntKind.u32 q.2, .ro (encInt IntKind.u8) q.4, .own [.a (encInt IntKind.u32) 60 l] 22, .own [.c (.sli 4 (.c 0) 1 (.v 60) (some (.v 60))), .c (.int .i64 c)] 68, Blk.rows true IntKind.u32 q.2, .vec (encHd 6) gs 34, .own [.c (.int .i64 x.1), .c (.int .i64 x.2), .c (.int .i64 x.3), .c (.sli 7 (.c 0) 1 (.v gs.length) none), .c (.int .i64 x.4)] 70]))

 (.br (false)

 (.ret (.ret, [.sli 1 (.c 0) 1 (.v q.2.length) (some (.v q.3)), .sli 3 (.c 0) 1 (.v q.4.length) (some (.v q.5)), .ptr 5 0, .ptr 8 0, .int .i64 (↑(hs.getD 0 (0, 0)).snd : Int), .ptr 9 0], [.ro encLook [PUnit.unit], .ro (encHd 2) hs, Blk.rows false IntKind.u32 q.2, .ro (encInt IntKind.u8) q.4, .own [.a (encInt IntKind.u32) 60 l] 22, .own [.c (.sli 4 (.c 0) 1 (.v 60) (some (.v 60))), .c (.int .i64 c)] 68, Blk.rows true IntKind.u32 q.2, .vec (encHd 6) gs 34, .own [.c (.int .i64 x.1), .c (.int .i64 x.2), .c (.int .i64 x.3), .c (.sli 7 (.c 0) 1 (.v gs.length) none), .c (.int .i64 x.4)] 70, .own [.c (.lit .i64 (0 : Int)), .c (.int .i64 (↑(hs.getD 0 (0, 0)).snd : Int)), .c (.lit .i64 (0 : Int)), .c (.lit .i64 (0 : Int)), .c (.lit .u32 (0 : Int)), .c (.lit .u32 (0 : Int)), .c (.lit .u32 (0 : Int)), .c (.lit .u32 (0 : Int)), .c (.lit .u32 (0 : Int)), .c (.lit .u32 (0 : Int)), .c (.lit .u32 (0 : Int)), .c (.lit .u32 (0 : Int)), .c (.lit .u32 (0 : Int)), .c (.lit .u32 (0 : Int)), .c (.lit .u32 (0 : Int)), .c (.lit .u32 (0 : Int)), .c (.lit .u32 (0 : Int)), .c (.lit .u32 (0 : Int)), .c (.lit .u32 (0 : Int)), .c (.lit .u32 (0 : Int)), .c (.lit .u32 (0 : Int)), .c (.lit .u32 (0 : Int)), .c (.lit .u32 (0 : Int)), .c (.lit .u32 (0 : Int)), .c (.lit .u32 (0 : Int)), .c (.lit .u32 (0 : Int)), .c (.lit .u32 (0 : Int)), .c (.lit .u32 (0 : Int)), .c (.lit .u32 (0 : Int)), .c (.lit .u32 (0 : Int)), .c (.lit .u32 (0 : Int)), .c (.lit .u32 (0 : Int)), .c (.lit .u32 (0 : Int)), .c (.lit .u32 (0 : Int)), .c (.lit .u32 (0 : Int)), .c (.lit .u32 (0 : Int)), .c (.lit .u32 (0 : Int)), .c (.bl false), .c (.lit .i64 (0 : Int))] 73]))

 (.need (inR .i64 (c + (1 : Int)))

 (.need (true)

 (.need (true)

 (.need (true)

 (.need (true)

 (.need (true)
 (.eq (T.ret (SVal.sli (4 : Nat) (NN.c (0 : Nat)) (1 : Nat) (NN.v (60 : Nat)) (some (NN.v (60 : Nat)))) = T.ret (SVal.sli (4 : Nat) (NN.c (0 : Nat)) (1 : Nat) (NN.v (60 : Nat)) (some (NN.v (60 : Nat)))))
 (.eq (T.ret (SVal.int IntKind.u32 (bitop BinOp.andNot IntKind.u32 q.1 (1 : Int))) = T.ret (SVal.int IntKind.u32 (bitop BinOp.andNot IntKind.u32 q.1 (1 : Int))))

 (.need (true)

 (.need (true)
 (.eq (T.ret (SVal.sli (4 : Nat) (NN.c (0 : Nat)) (1 : Nat) (NN.v (60 : Nat)) (some (NN.v (60 : Nat)))) = T.ret (SVal.sli (4 : Nat) (NN.c (0 : Nat)) (1 : Nat) (NN.v (60 : Nat)) (some (NN.v (60 : Nat)))))
 (.eq (T.ret ([SVal.int IntKind.u32 ((l.set (0 : Nat) (bitop BinOp.or IntKind.u32 (bitop BinOp.and IntKind.u32 (l.getD (0 : Nat) (0 : Int)) (0 : Int)) (bitop BinOp.andNot IntKind.u32 q.1 (1 : Int)))).getD (0 : Nat) (0 : Int))].getD (0 : Nat) SVal.bad) = T.ret ([SVal.int IntKind.u32 ((l.set (0 : Nat) (bitop BinOp.or IntKind.u32 (bitop BinOp.and IntKind.u32 (l.getD (0 : Nat) (0 : Int)) (0 : Int)) (bitop BinOp.andNot IntKind.u32 q.1 (1 : Int)))).getD (0 : Nat) (0 : Int))].getD (0 : Nat) SVal.bad))

 (.ret (.normal, [.sli 1 (.c 0) 1 (.v q.2.length) (some (.v q.3)), .sli 3 (.c 0) 1 (.v q.4.length) (some (.v q.5)), .ptr 5 0, .ptr 8 0, .int .i64 (↑(hs.getD 0 (0, 0)).snd : Int), .ptr 9 0], [.ro encLook [PUnit.unit], .ro (encHd 2) hs, Blk.rows false IntKind.u32 q.2, .ro (encInt IntKind.u8) q.4, .own [.a (encInt IntKind.u32) 60 ((l.set 0 (bitop BinOp.or IntKind.u32 (bitop BinOp.and IntKind.u32 (l.getD 0 (0 : Int)) (0 : Int)) (bitop BinOp.andNot IntKind.u32 q.1 (1 : Int)))).set 0 (IntKind.u32.wrap ((l.set 0 (bitop BinOp.or IntKind.u32 (bitop BinOp.and IntKind.u32 (l.getD 0 (0 : Int)) (0 : Int)) (bitop BinOp.andNot IntKind.u32 q.1 (1 : Int)))).getD 0 (0 : Int) + (0 : Int))))] 22, .own [.c (.sli 4 (.c 0) 1 (.v 60) (some (.v 60))), .c (.int .i64 (c + (1 : Int)))] 68, Blk.rows true IntKind.u32 q.2, .vec (encHd 6) gs 34, .own [.c (.int .i64 x.1), .c (.int .i64 x.2), .c (.int .i64 x.3), .c (.sli 7 (.c 0) 1 (.v gs.length) none), .c (.int .i64 x.4)] 70, .own [.c (.lit .i64 (0 : Int)), .c (.int .i64 (↑(hs.getD 0 (0, 0)).snd : Int)), .c (.lit .i64 (0 : Int)), .c (.lit .i64 (0 : Int)), .c (.lit .u32 (0 : Int)), .c (.lit .u32 (0 : Int)), .c (.lit .u32 (0 : Int)), .c (.lit .u32 (0 : Int)), .c (.lit .u32 (0 : Int)), .c (.lit .u32 (0 : Int)), .c (.lit .u32 (0 : Int)), .c (.lit .u32 (0 : Int)), .c (.lit .u32 (0 : Int)), .c (.lit .u32 (0 : Int)), .c (.lit .u32 (0 : Int)), .c (.lit .u32 (0 : Int)), .c (.lit .u32 (0 : Int)), .c (.lit .u32 (0 : Int)), .c (.lit .u32 (0 : Int)), .c (.lit .u32 (0 : Int)), .c (.lit .u32 (0 : Int)), .c (.lit .u32 (0 : Int)), .c (.lit .u32 (0 : Int)), .c (.lit .u32 (0 : Int)), .c (.lit .u32 (0 : Int)), .c (.lit .u32 (0 : Int)), .c (.lit .u32 (0 : Int)), .c (.lit .u32 (0 : Int)), .c (.lit .u32 (0 : Int)), .c (.lit .u32 (0 : Int)), .c (.lit .u32 (0 : Int)), .c (.lit .u32 (0 : Int)), .c (.lit .u32 (0 : Int)), .c (.lit .u32 (0 : Int)), .c (.lit .u32 (0 : Int)), .c (.lit .u32 (0 : Int)), .c (.lit .u32 (0 : Int)), .c (.bl false), .c (.lit .i64 (0 : Int))] 73]))))))))))))))))

 (.ret (.ret, [.sli 1 (.c 0) 1 (.v q.2.length) (some (.v q.3)), .sli 3 (.c 0) 1 (.v q.4.length) (some (.v q.5)), .ptr 5 0, .ptr 8 0, .int .i64 (↑(hs.getD 0 (0, 0)).snd : Int), .pnil], [.ro encLook [PUnit.unit], .ro (encHd 2) hs, Blk.rows false IntKind.u32 q.2, .ro (encInt IntKind.u8) q.4, .own [.a (encInt IntKind.u32) 60 l] 22, .own [.c (.sli 4 (.c 0) 1 (.v 60) (some (.v 60))), .c (.int .i64 c)] 68, Blk.rows true IntKind.u32 q.2, .vec (encHd 6) gs 34, .own [.c (.int .i64 x.1), .c (.int .i64 x.2), .c (.int .i64 x.3), .c (.sli 7 (.c 0) 1 (.v gs.length) none), .c (.int .i64 x.4)] 70]))))) := by kernel_rfl
set_option maxRecDepth 100000 in
theorem p_e {q : InW} {hs gs : List (Nat × Nat)} {l : List Int} {c : Int} {x : Wr} {y : Rd} {n : Nat} : (execN cfgM 100 2 (restC 7 b3) (fr 172 nD (vD q n)) (sWq q hs gs l c x y)).bind (canonK 10 [(0,0)] 172 nW) =
 

 (.ret (.normal, [.sli 1 (.c 0) 1 (.v q.2.length) (some (.v q.3)), .sli 3 (.c 0) 1 (.v q.4.length) (some (.v q.5)), .ptr 5 0, .ptr 8 0, .int .i64 (↑n : Int), .ptr 9 0, .lit .i64 (0 : Int), .bl false], [.ro encLook [PUnit.unit], .ro (encHd 2) hs, Blk.rows false IntKind.u32 q.2, .ro (encInt IntKind.u8) q.4, .own [.a (encInt IntKind.u32) 60 l] 22, .own [.c (.sli 4 (.c 0) 1 (.v 60) (some (.v 60))), .c (.int .i64 c)] 68, Blk.rows true IntKind.u32 q.2, .vec (encHd 6) gs 34, .own [.c (.int .i64 x.1), .c (.int .i64 x.2), .c (.int .i64 x.3), .c (.sli 7 (.c 0) 1 (.v gs.length) none), .c (.int .i64 x.4)] 70, .own [.c (.int .i64 y.1), .c (.int .i64 y.2), .c (.int .i64 y.3), .c (.int .i64 y.4), .c (.int .u32 y.5), .a (encInt IntKind.u32) 32 y.6, .c (.sb y.7), .c (.int .i64 y.8)] 73])) := by kernel_rfl
set_option maxRecDepth 100000 in
theorem p_reg {q : InW} {hs gs : List (Nat × Nat)} {l : List Int} {c : Int} {x : Wr} {y : Rd} {n : Nat} {bf : Int} {gp : Bool} : (exec cfgM 100 reg3 (fr 172 nW (vW q n bf gp)) (sWq q hs gs l c x y)).bind (canonK 10 [(0,0)] 172 nWi) =
 

 (.ret (.normal, [.sli 1 (.c 0) 1 (.v q.2.length) (some (.v q.3)), .sli 3 (.c 0) 1 (.v q.4.length) (some (.v q.5)), .ptr 5 0, .ptr 8 0, .int .i64 (↑n : Int), .ptr 9 0, .int .i64 bf, .sb gp, .lit .i64 (0 : Int)], [.ro encLook [PUnit.unit], .ro (encHd 2) hs, Blk.rows false IntKind.u32 q.2, .ro (encInt IntKind.u8) q.4, .own [.a (encInt IntKind.u32) 60 l] 22, .own [.c (.sli 4 (.c 0) 1 (.v 60) (some (.v 60))), .c (.int .i64 c)] 68, Blk.rows true IntKind.u32 q.2, .vec (encHd 6) gs 34, .own [.c (.int .i64 x.1), .c (.int .i64 x.2), .c (.int .i64 x.3), .c (.sli 7 (.c 0) 1 (.v gs.length) none), .c (.int .i64 x.4)] 70, .own [.c (.int .i64 y.1), .c (.int .i64 y.2), .c (.int .i64 y.3), .c (.int .i64 y.4), .c (.int .u32 y.5), .a (encInt IntKind.u32) 32 y.6, .c (.sb y.7), .c (.int .i64 y.8)] 73])) := by kernel_rfl
set_option maxRecDepth 100000 in
theorem p_tm {q : InW} {hs gs : List (Nat × Nat)} {l : List Int} {c : Int} {x : Wr} {y : Rd} {n i : Nat} {bf : Int} {gp : Bool} : (exec cfgM 100 tm3 (fr 172 nWi (vWi q n bf gp i)) (sWq q hs gs l c x y)).bind (canonK 10 [(0,0)] 172 nWi) =
 

 (.br (decide ((↑i : Int) < (↑q.4.length : Int)))

 (.br (decide ((↑i : Int) < (300 : Int)))

 (.ret (.normal, [.sli 1 (.c 0) 1 (.v q.2.length) (some (.v q.3)), .sli 3 (.c 0) 1 (.v q.4.length) (some (.v q.5)), .ptr 5 0, .ptr 8 0, .int .i64 (↑n : Int), .ptr 9 0, .int .i64 bf, .sb gp, .int .i64 (↑i : Int)], [.ro encLook [PUnit.unit], .ro (encHd 2) hs, Blk.rows false IntKind.u32 q.2, .ro (encInt IntKind.u8) q.4, .own [.a (encInt IntKind.u32) 60 l] 22, .own [.c (.sli 4 (.c 0) 1 (.v 60) (some (.v 60))), .c (.int .i64 c)] 68, Blk.rows true IntKind.u32 q.2, .vec (encHd 6) gs 34, .own [.c (.int .i64 x.1), .c (.int .i64 x.2), .c (.int .i64 x.3), .c (.sli 7 (.c 0) 1 (.v gs.length) none), .c (.int .i64 x.4)] 70, .own [.c (.int .i64 y.1), .c (.int .i64 y.2), .c (.int .i64 y.3), .c (.int .i64 y.4), .c (.int .u32 y.5), .a (encInt IntKind.u32) 32 y.6, .c (.sb y.7), .c (.int .i64 y.8)] 73]))

 (.ret (.exit 0, [.sli 1 (.c 0) 1 (.v q.2.length) (some (.v q.3)), .sli 3 (.c 0) 1 (.v q.4.length) (some (.v q.5)), .ptr 5 0, .ptr 8 0, .int .i64 (↑n : Int), .ptr 9 0, .int .i64 bf, .sb gp, .int .i64 (↑i : Int)], [.ro encLook [PUnit.unit], .ro (encHd 2) hs, Blk.rows false IntKind.u32 q.2, .ro (encInt IntKind.u8) q.4, .own [.a (encInt IntKind.u32) 60 l] 22, .own [.c (.sli 4 (.c 0) 1 (.v 60) (some (.v 60))), .c (.int .i64 c)] 68, Blk.rows true IntKind.u32 q.2, .vec (encHd 6) gs 34, .own [.c (.int .i64 x.1), .c (.int .i64 x.2), .c (.int .i64 x.3), .c (.sli 7 (.c 0) 1 (.v gs.length) none), .c (.int .i64 x.4)] 70, .own [.c (.int .i64 y.1), .c (.int .i64 y.2), .c (.int .i64 y.3), .c (.int .i64 y.4), .c (.int .u32 y.5), .a (encInt IntKind.u32) 32 y.6, .c (.sb y.7), .c (.int .i64 y.8)] 73])))

 (.ret (.exit 0, [.sli 1 (.c 0) 1 (.v q.2.length) (some (.v q.3)), .sli 3 (.c 0) 1 (.v q.4.length) (some (.v q.5)), .ptr 5 0, .ptr 8 0, .int .i64 (↑n : Int), .ptr 9 0, .int .i64 bf, .sb gp, .int .i64 (↑i : Int)], [.ro encLook [PUnit.unit], .ro (encHd 2) hs, Blk.rows false IntKind.u32 q.2, .ro (encInt IntKind.u8) q.4, .own [.a (encInt IntKind.u32) 60 l] 22, .own [.c (.sli 4 (.c 0) 1 (.v 60) (some (.v 60))), .c (.int .i64 c)] 68, Blk.rows true IntKind.u32 q.2, .vec (encHd 6) gs 34, .own [.c (.int .i64 x.1), .c (.int .i64 x.2), .c (.int .i64 x.3), .c (.sli 7 (.c 0) 1 (.v gs.length) none), .c (.int .i64 x.4)] 70, .own [.c (.int .i64 y.1), .c (.int .i64 y.2), .c (.int .i64 y.3), .c (.int .i64 y.4), .c (.int .u32 y.5), .a (encInt IntKind.u32) 32 y.6, .c (.sb y.7), .c (.int .i64 y.8)] 73]))) := by kernel_rfl
set_option maxRecDepth 100000 in
theorem p_inc {q : InW} {hs gs : List (Nat × Nat)} {l : List Int} {c : Int} {x : Wr} {y : Rd} {n i : Nat} {bf : Int} {gp : Bool} : (exec cfgM 100 inc3 (fr 172 nWi (vWi q n bf gp i)) (sWq q hs gs l c x y)).bind (canonK 10 [(0,0)] 172 nWi) =
 

 (.need (inR .i64 ((↑i : Int) + (1 : Int)))

 (.ret (.normal, [.sli 1 (.c 0) 1 (.v q.2.length) (some (.v q.3)), .sli 3 (.c 0) 1 (.v q.4.length) (some (.v q.5)), .ptr 5 0, .ptr 8 0, .int .i64 (↑n : Int), .ptr 9 0, .int .i64 bf, .sb gp, .int .i64 ((↑i : Int) + (1 : Int))], [.ro encLook [PUnit.unit], .ro (encHd 2) hs, Blk.rows false IntKind.u32 q.2, .ro (encInt IntKind.u8) q.4, .own [.a (encInt IntKind.u32) 60 l] 22, .own [.c (.sli 4 (.c 0) 1 (.v 60) (some (.v 60))), .c (.int .i64 c)] 68, Blk.rows true IntKind.u32 q.2, .vec (encHd 6) gs 34, .own [.c (.int .i64 x.1), .c (.int .i64 x.2), .c (.int .i64 x.3), .c (.sli 7 (.c 0) 1 (.v gs.length) none), .c (.int .i64 x.4)] 70, .own [.c (.int .i64 y.1), .c (.int .i64 y.2), .c (.int .i64 y.3), .c (.int .i64 y.4), .c (.int .u32 y.5), .a (encInt IntKind.u32) 32 y.6, .c (.sb y.7), .c (.int .i64 y.8)] 73]))) := by kernel_rfl
set_option maxRecDepth 100000 in
theorem p_end {q : InW} {hs gs : List (Nat × Nat)} {l : List Int} {c : Int} {x : Wr} {y : Rd} {n i : Nat} {bf : Int} {gp : Bool} : (exec cfgM 100 end3 (fr 172 nWi (vWi q n bf gp i)) (sWq q hs gs l c x y)).bind (canonK 10 [(0,0)] 172 [6]) =
 

 (.ret (.ret, [.bl true], [.ro encLook [PUnit.unit], .ro (encHd 2) hs, Blk.rows false IntKind.u32 q.2, .ro (encInt IntKind.u8) q.4, .own [.a (encInt IntKind.u32) 60 l] 22, .own [.c (.sli 4 (.c 0) 1 (.v 60) (some (.v 60))), .c (.int .i64 c)] 68, Blk.rows true IntKind.u32 q.2, .vec (encHd 6) gs 34, .own [.c (.int .i64 x.1), .c (.int .i64 x.2), .c (.int .i64 x.3), .c (.sli 7 (.c 0) 1 (.v gs.length) none), .c (.int .i64 x.4)] 70, .own [.c (.int .i64 y.1), .c (.int .i64 y.2), .c (.int .i64 y.3), .c (.int .i64 y.4), .c (.int .u32 y.5), .a (encInt IntKind.u32) 32 y.6, .c (.sb y.7), .c (.int .i64 y.8)] 73])) := by kernel_rfl
set_option maxRecDepth 100000 in
theorem q_a {q : InW} {hs gs : List (Nat × Nat)} {l : List Int} {c : Int} {x : Wr} {y : Rd} {l1 : List Int} {c1 : Int} {x1 : Wr} {b1 : Bool} {c2 : Int} {y2 : Rd} {b2 : Bool} {P1 P2 : Prop} {n i : Nat} {bf : Int} {gp : Bool} : (execN (cfgSt q hs gs l c x y l1 c1 x1 b1 c2 y2 b2 P1 P2) 100 1 bb3 (fr 172 nWi (vWi q n bf gp i)) (sWq q hs gs l c x y)).bind (canonK 10 [(0,0)] 172 nWi) =
 

 (.need (decide ((0 : Int) ≤ (↑i : Int)) && decide ((↑i : Int).toNat < q.4.length))

 (.need (decide ((↑i : Int).toNat < q.4.length))

 (.br (bitop BinOp.and IntKind.u8 (q.4.getD (↑i : Int).toNat (0 : Int)) (1 : Int) == (0 : Int))

 (.eq ([SVal.ptr 8 0, .ptr 5 0] = [SVal.ptr 8 0, .ptr 5 0] ∧ [Blk.ro encLook [PUnit.unit], .ro (encHd 2) hs, Blk.rows false IntKind.u32 q.2, .ro (encInt IntKind.u8) q.4, .own [.a (encInt IntKind.u32) 60 l] 22, .own [.c (.sli 4 (.c 0) 1 (.v 60) (some (.v 60))), .c (.int .i64 c)] 68, Blk.rows true IntKind.u32 q.2, .vec (encHd 6) gs 34, .own [.c (.int .i64 x.1), .c (.int .i64 x.2), .c (.int .i64 x.3), .c (.sli 7 (.c 0) 1 (.v gs.length) none), .c (.int .i64 x.4)] 70, .own [.c (.int .i64 y.1), .c (.int .i64 y.2), .c (.int .i64 y.3), .c (.int .i64 y.4), .c (.int .u32 y.5), .a (encInt IntKind.u32) 32 y.6, .c (.sb y.7), .c (.int .i64 y.8)] 73] = [Blk.ro encLook [PUnit.unit], .ro (encHd 2) hs, Blk.rows false IntKind.u32 q.2, .ro (encInt IntKind.u8) q.4, .own [.a (encInt IntKind.u32) 60 l] 22, .own [.c (.sli 4 (.c 0) 1 (.v 60) (some (.v 60))), .c (.int .i64 c)] 68, Blk.rows true IntKind.u32 q.2, .vec (encHd 6) gs 34, .own [.c (.int .i64 x.1), .c (.int .i64 x.2), .c (.int .i64 x.3), .c (.sli 7 (.c 0) 1 (.v gs.length) none), .c (.int .i64 x.4)] 70, .own [.c (.int .i64 y.1), .c (.int .i64 y.2), .c (.int .i64 y.3), .c (.int .i64 y.4), .c (.int .u32 y.5), .a (encInt IntKind.u32) 32 y.6, .c (.sb y.7), .c (.int .i64 y.8)] 73] ∧ P1)

 (.ret (.exit 1, [.sli 1 (.c 0) 1 (.v q.2.length) (some (.v q.3)), .sli 3 (.c 0) 1 (.v q.4.length) (some (.v q.5)), .ptr 5 0, .ptr 8 0, .int .i64 (↑n : Int), .ptr 9 0, .int .i64 bf, .sb gp, .int .i64 (↑i : Int)], [.ro encLook [PUnit.unit], .ro (encHd 2) hs, Blk.rows false IntKind.u32 q.2, .ro (encInt IntKind.u8) q.4, .own [.a (encInt IntKind.u32) 60 l1] 22, .own [.c (.sli 4 (.c 0) 1 (.v 60) (some (.v 60))), .c (.int .i64 c1)] 68, Blk.rows true IntKind.u32 q.2, .vec (encHd 6) gs 34, .own [.c (.int .i64 x1.1), .c (.int .i64 x1.2), .c (.int .i64 x1.3), .c (.sli 7 (.c 0) 1 (.v gs.length) none), .c (.int .i64 x1.4)] 70, .own [.c (.int .i64 y.1), .c (.int .i64 y.2), .c (.int .i64 y.3), .c (.int .i64 y.4), .c (.int .u32 y.5), .a (encInt IntKind.u32) 32 y.6, .c (.sb y.7), .c (.int .i64 y.8)] 73])))

 (.ret (.normal, [.sli 1 (.c 0) 1 (.v q.2.length) (some (.v q.3)), .sli 3 (.c 0) 1 (.v q.4.length) (some (.v q.5)), .ptr 5 0, .ptr 8 0, .int .i64 (↑n : Int), .ptr 9 0, .int .i64 bf, .sb gp, .int .i64 (↑i : Int)], [.ro encLook [PUnit.unit], .ro (encHd 2) hs, Blk.rows false IntKind.u32 q.2, .ro (encInt IntKind.u8) q.4, .own [.a (encInt IntKind.u32) 60 l] 22, .own [.c (.sli 4 (.c 0) 1 (.v 60) (some (.v 60))), .c (.int .i64 c)] 68, Blk.rows true IntKind.u32 q.2, .vec (encHd 6) gs 34, .own [.c (.int .i64 x.1), .c (.int .i64 x.2), .c (.int .i64 x.3), .c (.sli 7 (.c 0) 1 (.v gs.length) none), .c (.int .i64 x.4)] 70, .own [.c (.int .i64 y.1), .c (.int .i64 y.2), .c (.int .i64 y.3), .c (.int .i64 y.4), .c (.int .u32 y.5), .a (encInt IntKind.u32) 32 y.6, .c (.sb y.7), .c (.int .i64 y.8)] 73]))))) := by kernel_rfl
set_option maxRecDepth 100000 in
theorem q_b {q : InW} {hs gs : List (Nat × Nat)} {l : List Int} {c : Int} {x : Wr} {y : Rd} {n i : Nat} {bf : Int} {gp : Bool} : (execN cfgM 100 2 (restC 1 bb3) (fr 172 nWi (vWi q n bf gp i)) (sWq q hs gs l c x y)).bind (canonK 9 [(0,0)] 172 nWt) =
 

 (.br (gp)

 (.br (decide ((1 : Int) ≤ (↑n : Int)))

 (.br (!decide ((↑n : Int) ≤ (32 : Int)))

 (.ret (.ret, [.sli 1 (.c 0) 1 (.v q.2.length) (some (.v q.3)), .sli 3 (.c 0) 1 (.v q.4.length) (some (.v q.5)), .ptr 5 0, .ptr 8 0, .int .i64 (↑n : Int), .pnil, .int .i64 bf, .sb gp, .int .i64 (↑i : Int), .int .i64 y.8], [.ro encLook [PUnit.unit], .ro (encHd 2) hs, Blk.rows false IntKind.u32 q.2, .ro (encInt IntKind.u8) q.4, .own [.a (encInt IntKind.u32) 60 l] 22, .own [.c (.sli 4 (.c 0) 1 (.v 60) (some (.v 60))), .c (.int .i64 c)] 68, Blk.rows true IntKind.u32 q.2, .vec (encHd 6) gs 34, .own [.c (.int .i64 x.1), .c (.int .i64 x.2), .c (.int .i64 x.3), .c (.sli 7 (.c 0) 1 (.v gs.length) none), .c (.int .i64 x.4)] 70]))

 (.ret (.normal, [.sli 1 (.c 0) 1 (.v q.2.length) (some (.v q.3)), .sli 3 (.c 0) 1 (.v q.4.length) (some (.v q.5)), .ptr 5 0, .ptr 8 0, .int .i64 (↑n : Int), .ptr 9 0, .int .i64 bf, .sb gp, .int .i64 (↑i : Int), .lit .i64 (0 : Int)], [.ro encLook [PUnit.unit], .ro (encHd 2) hs, Blk.rows false IntKind.u32 q.2, .ro (encInt IntKind.u8) q.4, .own [.a (encInt IntKind.u32) 60 l] 22, .own [.c (.sli 4 (.c 0) 1 (.v 60) (some (.v 60))), .c (.int .i64 c)] 68, Blk.rows true IntKind.u32 q.2, .vec (encHd 6) gs 34, .own [.c (.int .i64 x.1), .c (.int .i64 x.2), .c (.int .i64 x.3), .c (.sli 7 (.c 0) 1 (.v gs.length) none), .c (.int .i64 x.4)] 70, .own [.c (.lit .i64 (0 : Int)), .c (.int .i64 (↑n : Int)), .c (.lit .i64 (0 : Int)), .c (.lit .i64 (0 : Int)), .c (.lit .u32 (0 : Int)), .c (.lit .u32 (0 : Int)), .c (.lit .u32 (0 : Int)), .c (.lit .u32 (0 : Int)), .c (.lit .u32 (0 : Int)), .c (.lit .u32 (0 : Int)), .c (.lit .u32 (0 : Int)), .c (.lit .u32 (0 : Int)), .c (.lit .u32 (0 : Int)), .c (.lit .u32 (0 : Int)), .c (.lit .u32 (0 : Int)), .c (.lit .u32 (0 : Int)), .c (.lit .u32 (0 : Int)), .c (.lit .u32 (0 : Int)), .c (.lit .u32 (0 : Int)), .c (.lit .u32 (0 : Int)), .c (.lit .u32 (0 : Int)), .c (.lit .u32 (0 : Int)), .c (.lit .u32 (0 : Int)), .c (.lit .u32 (0 : Int)), .c (.lit .u32 (0 : Int)), .c (.lit .u32 (0 : Int)), .c (.lit .u32 (0 : Int)), .c (.lit .u32 (0 : Int)), .c (.lit .u32 (0 : Int)), .c (.lit .u32 (0 : Int)), .c (.lit .u32 (0 : Int)), .c (.lit .u32 (0 : Int)), .c (.lit .u32 (0 : Int)), .c (.lit .u32 (0 : Int)), .c (.lit .u32 (0 : Int)), .c (.lit .u32 (0 : Int)), .c (.lit .u32 (0 : Int)), .c (.bl false), .c (.lit .i64 (0 : Int))] 73])))

 (.ret (.ret, [.sli 1 (.c 0) 1 (.v q.2.length) (some (.v q.3)), .sli 3 (.c 0) 1 (.v q.4.length) (some (.v q.5)), .ptr 5 0, .ptr 8 0, .int .i64 (↑n : Int), .pnil, .int .i64 bf, .sb gp, .int .i64 (↑i : Int), .int .i64 y.8], [.ro encLook [PUnit.unit], .ro (encHd 2) hs, Blk.rows false IntKind.u32 q.2, .ro (encInt IntKind.u8) q.4, .own [.a (encInt IntKind.u32) 60 l] 22, .own [.c (.sli 4 (.c 0) 1 (.v 60) (some (.v 60))), .c (.int .i64 c)] 68, Blk.rows true IntKind.u32 q.2, .vec (encHd 6) gs 34, .own [.c (.int .i64 x.1), .c (.int .i64 x.2), .c (.int .i64 x.3), .c (.sli 7 (.c 0) 1 (.v gs.length) none), .c (.int .i64 x.4)] 70])))

 (.ret (.normal, [.sli 1 (.c 0) 1 (.v q.2.length) (some (.v q.3)), .sli 3 (.c 0) 1 (.v q.4.length) (some (.v q.5)), .ptr 5 0, .ptr 8 0, .int .i64 (↑n : Int), .ptr 9 0, .int .i64 bf, .sb gp, .int .i64 (↑i : Int), .int .i64 y.8], [.ro encLook [PUnit.unit], .ro (encHd 2) hs, Blk.rows false IntKind.u32 q.2, .ro (encInt IntKind.u8) q.4, .own [.a (encInt IntKind.u32) 60 l] 22, .own [.c (.sli 4 (.c 0) 1 (.v 60) (some (.v 60))), .c (.int .i64 c)] 68, Blk.rows true IntKind.u32 q.2, .vec (encHd 6) gs 34, .own [.c (.int .i64 x.1), .c (.int .i64 x.2), .c (.int .i64 x.3), .c (.sli 7 (.c 0) 1 (.v gs.length) none), .c (.int .i64 x.4)] 70, .own [.c (.int .i64 y.1), .c (.int .i64 y.2), .c (.int .i64 y.3), .c (.int .i64 y.4), .c (.int .u32 y.5), .a (encInt IntKind.u32) 32 y.6, .c (.sb y.7), .c (.int .i64 y.8)] 73]))) := by kernel_rfl
set_option maxRecDepth 100000 in
theorem q_c {q : InW} {hs gs : List (Nat × Nat)} {l : List Int} {c : Int} {x : Wr} {y : Rd} {l1 : List Int} {c1 : Int} {x1 : Wr} {b1 : Bool} {c2 : Int} {y2 : Rd} {b2 : Bool} {P1 P2 : Prop} {n i : Nat} {bf t : Int} {gp : Bool} : (execN (cfgSt q hs gs l c x y l1 c1 x1 b1 c2 y2 b2 P1 P2) 100 1 (restC 3 bb3) (fr 172 nWt (vWt q n bf gp i t)) (sWq q hs gs l c x y)).bind (canonK 10 [(0,0)] 172 nWt) =
 

 (.eq ([SVal.ptr 9 0, .ptr 5 0] = [SVal.ptr 9 0, .ptr 5 0] ∧ [Blk.ro encLook [PUnit.unit], .ro (encHd 2) hs, Blk.rows false IntKind.u32 q.2, .ro (encInt IntKind.u8) q.4, .own [.a (encInt IntKind.u32) 60 l] 22, .own [.c (.sli 4 (.c 0) 1 (.v 60) (some (.v 60))), .c (.int .i64 c)] 68, Blk.rows true IntKind.u32 q.2, .vec (encHd 6) gs 34, .own [.c (.int .i64 x.1), .c (.int .i64 x.2), .c (.int .i64 x.3), .c (.sli 7 (.c 0) 1 (.v gs.length) none), .c (.int .i64 x.4)] 70, .own [.c (.int .i64 y.1), .c (.int .i64 y.2), .c (.int .i64 y.3), .c (.int .i64 y.4), .c (.int .u32 y.5), .a (encInt IntKind.u32) 32 y.6, .c (.sb y.7), .c (.int .i64 y.8)] 73] = [Blk.ro encLook [PUnit.unit], .ro (encHd 2) hs, Blk.rows false IntKind.u32 q.2, .ro (encInt IntKind.u8) q.4, .own [.a (encInt IntKind.u32) 60 l] 22, .own [.c (.sli 4 (.c 0) 1 (.v 60) (some (.v 60))), .c (.int .i64 c)] 68, Blk.rows true IntKind.u32 q.2, .vec (encHd 6) gs 34, .own [.c (.int .i64 x.1), .c (.int .i64 x.2), .c (.int .i64 x.3), .c (.sli 7 (.c 0) 1 (.v gs.length) none), .c (.int .i64 x.4)] 70, .own [.c (.int .i64 y.1), .c (.int .i64 y.2), .c (.int .i64 y.3), .c (.int .i64 y.4), .c (.int .u32 y.5), .a (encInt IntKind.u32) 32 y.6, .c (.sb y.7), .c (.int .i64 y.8)] 73] ∧ P2)

 (.ret (.normal, [.sli 1 (.c 0) 1 (.v q.2.length) (some (.v q.3)), .sli 3 (.c 0) 1 (.v q.4.length) (some (.v q.5)), .ptr 5 0, .ptr 8 0, .int .i64 (↑n : Int), .ptr 9 0, .int .i64 bf, .sb b2, .int .i64 (↑i : Int), .int .i64 t], [.ro encLook [PUnit.unit], .ro (encHd 2) hs, Blk.rows false IntKind.u32 q.2, .ro (encInt IntKind.u8) q.4, .own [.a (encInt IntKind.u32) 60 l] 22, .own [.c (.sli 4 (.c 0) 1 (.v 60) (some (.v 60))), .c (.int .i64 c2)] 68, Blk.rows true IntKind.u32 q.2, .vec (encHd 6) gs 34, .own [.c (.int .i64 x.1), .c (.int .i64 x.2), .c (.int .i64 x.3), .c (.sli 7 (.c 0) 1 (.v gs.length) none), .c (.int .i64 x.4)] 70, .own [.c (.int .i64 y2.1), .c (.int .i64 y2.2), .c (.int .i64 y2.3), .c (.int .i64 y2.4), .c (.int .u32 y2.5), .a (encInt IntKind.u32) 32 y2.6, .c (.sb y2.7), .c (.int .i64 y2.8)] 73]))) := by kernel_rfl
set_option maxRecDepth 100000 in
theorem q_d {q : InW} {hs gs : List (Nat × Nat)} {l : List Int} {c : Int} {x : Wr} {y : Rd} {n i : Nat} {bf t : Int} : (execN cfgM 100 5 (restC 4 bb3) (fr 172 nWt (vWt q n bf y.got i t)) (sWq q hs gs l c x y)).bind (canonK 10 [(0,0)] 172 nWl) =
 

 (.br (decide (t < y.8))

 (.br (!y.7)

 (.br (!false == y.7)

 (.ret (.ret, [.sli 1 (.c 0) 1 (.v q.2.length) (some (.v q.3)), .sli 3 (.c 0) 1 (.v q.4.length) (some (.v q.5)), .ptr 5 0, .ptr 8 0, .int .i64 (↑n : Int), .ptr 9 0, .int .i64 x.4, .sb y.7, .int .i64 (↑i : Int), .snil, .bad], [.ro encLook [PUnit.unit], .ro (encHd 2) hs, Blk.rows false IntKind.u32 q.2, .ro (encInt IntKind.u8) q.4, .own [.a (encInt IntKind.u32) 60 l] 22, .own [.c (.sli 4 (.c 0) 1 (.v 60) (some (.v 60))), .c (.int .i64 c)] 68, Blk.rows true IntKind.u32 q.2, .vec (encHd 6) gs 34, .own [.c (.int .i64 x.1), .c (.int .i64 x.2), .c (.int .i64 x.3), .c (.sli 7 (.c 0) 1 (.v gs.length) none), .c (.int .i64 x.4)] 70, .own [.c (.int .i64 y.1), .c (.int .i64 y.2), .c (.int .i64 y.3), .c (.int .i64 y.4), .c (.int .u32 y.5), .a (encInt IntKind.u32) 32 y.6, .c (.sb y.7), .c (.int .i64 y.8)] 73]))

 (.ret (.exit 1, [.sli 1 (.c 0) 1 (.v q.2.length) (some (.v q.3)), .sli 3 (.c 0) 1 (.v q.4.length) (some (.v q.5)), .ptr 5 0, .ptr 8 0, .int .i64 (↑n : Int), .ptr 9 0, .int .i64 x.4, .sb y.7, .int .i64 (↑i : Int), .snil, .bad], [.ro encLook [PUnit.unit], .ro (encHd 2) hs, Blk.rows false IntKind.u32 q.2, .ro (encInt IntKind.u8) q.4, .own [.a (encInt IntKind.u32) 60 l] 22, .own [.c (.sli 4 (.c 0) 1 (.v 60) (some (.v 60))), .c (.int .i64 c)] 68, Blk.rows true IntKind.u32 q.2, .vec (encHd 6) gs 34, .own [.c (.int .i64 x.1), .c (.int .i64 x.2), .c (.int .i64 x.3), .c (.sli 7 (.c 0) 1 (.v gs.length) none), .c (.int .i64 x.4)] 70, .own [.c (.int .i64 y.1), .c (.int .i64 y.2), .c (.int .i64 y.3), .c (.int .i64 y.4), .c (.int .u32 y.5), .a (encInt IntKind.u32) 32 y.6, .c (.sb y.7), .c (.int .i64 y.8)] 73])))

 (.need (decide ((0 : Int) ≤ y.2) && decide (y.2.toNat ≤ 32))

 (.need (decide ((0 : Int) ≤ y.2) && decide (y.2.toNat ≤ y.2.toNat))

 (.need (decide (0 ≤ y.2.toNat))

 (.br (!true == y.7)

 (.ret (.ret, [.sli 1 (.c 0) 1 (.v q.2.length) (some (.v q.3)), .sli 3 (.c 0) 1 (.v q.4.length) (some (.v q.5)), .ptr 5 0, .ptr 8 0, .int .i64 (↑n : Int), .ptr 9 0, .int .i64 x.4, .sb y.7, .int .i64 (↑i : Int), .sli 10 (.c 0) 1 (.v y.2.toNat) (some (.v y.2.toNat)), .bad], [.ro encLook [PUnit.unit], .ro (encHd 2) hs, Blk.rows false IntKind.u32 q.2, .ro (encInt IntKind.u8) q.4, .own [.a (encInt IntKind.u32) 60 l] 22, .own [.c (.sli 4 (.c 0) 1 (.v 60) (some (.v 60))), .c (.int .i64 c)] 68, Blk.rows true IntKind.u32 q.2, .vec (encHd 6) gs 34, .own [.c (.int .i64 x.1), .c (.int .i64 x.2), .c (.int .i64 x.3), .c (.sli 7 (.c 0) 1 (.v gs.length) none), .c (.int .i64 x.4)] 70, .own [.c (.int .i64 y.1), .c (.int .i64 y.2), .c (.int .i64 y.3), .c (.int .i64 y.4), .c (.int .u32 y.5), .a (encInt IntKind.u32) 32 y.6, .c (.sb y.7), .c (.int .i64 y.8)] 73, .own [.c (.int .u32 (y.6.getD 0 (0 : Int))), .c (.int .u32 (y.6.getD 1 (0 : Int))), .c (.int .u32 (y.6.getD 2 (0 : Int))), .c (.int .u32 (y.6.getD 3 (0 : Int))), .c (.int .u32 (y.6.getD 4 (0 : Int))), .c (.int .u32 (y.6.getD 5 (0 : Int))), .c (.int .u32 (y.6.getD 6 (0 : Int))), .c (.int .u32 (y.6.getD 7 (0 : Int))), .c (.int .u32 (y.6.getD 8 (0 : Int))), .c (.int .u32 (y.6.getD 9 (0 : Int))), .c (.int .u32 (y.6.getD 10 (0 : Int))), .c (.int .u32 (y.6.getD 11 (0 : Int))), .c (.int .u32 (y.6.getD 12 (0 : Int))), .c (.int .u32 (y.6.getD 13 (0 : Int))), .c (.int .u32 (y.6.getD 14 (0 : Int))), .c (.int .u32 (y.6.getD 15 (0 : Int))), .c (.int .u32 (y.6.getD 16 (0 : Int))), .c (.int .u32 (y.6.getD 17 (0 : Int))), .c (.int .u32 (y.6.getD 18 (0 : Int))), .c (.int .u32 (y.6.getD 19 (0 : Int))), .c (.int .u32 (y.6.getD 20 (0 : Int))), .c (.int .u32 (y.6.getD 21 (0 : Int))), .c (.int .u32 (y.6.getD 22 (0 : Int))), .c (.int .u32 (y.6.getD 23 (0 : Int))), .c (.int .u32 (y.6.getD 24 (0 : Int))), .c (.int .u32 (y.6.getD 25 (0 : Int))), .c (.int .u32 (y.6.getD 26 (0 : Int))), .c (.int .u32 (y.6.getD 27 (0 : Int))), .c (.int .u32 (y.6.getD 28 (0 : Int))), .c (.int .u32 (y.6.getD 29 (0 : Int))), .c (.int .u32 (y.6.getD 30 (0 : Int))), .c (.int .u32 (y.6.getD 31 (0 : Int)))] 71]))

 (.ret (.normal, [.sli 1 (.c 0) 1 (.v q.2.length) (some (.v q.3)), .sli 3 (.c 0) 1 (.v q.4.length) (some (.v q.5)), .ptr 5 0, .ptr 8 0, .int .i64 (↑n : Int), .ptr 9 0, .int .i64 x.4, .sb y.7, .int .i64 (↑i : Int), .sli 10 (.c 0) 1 (.v y.2.toNat) (some (.v y.2.toNat)), .bl false], [.ro encLook [PUnit.unit], .ro (encHd 2) hs, Blk.rows false IntKind.u32 q.2, .ro (encInt IntKind.u8) q.4, .own [.a (encInt IntKind.u32) 60 l] 22, .own [.c (.sli 4 (.c 0) 1 (.v 60) (some (.v 60))), .c (.int .i64 c)] 68, Blk.rows true IntKind.u32 q.2, .vec (encHd 6) gs 34, .own [.c (.int .i64 x.1), .c (.int .i64 x.2), .c (.int .i64 x.3), .c (.sli 7 (.c 0) 1 (.v gs.length) none), .c (.int .i64 x.4)] 70, .own [.c (.int .i64 y.1), .c (.int .i64 y.2), .c (.int .i64 y.3), .c (.int .i64 y.4), .c (.int .u32 y.5), .a (encInt IntKind.u32) 32 y.6, .c (.sb y.7), .c (.int .i64 y.8)] 73, .own [.c (.int .u32 (y.6.getD 0 (0 : Int))), .c (.int .u32 (y.6.getD 1 (0 : Int))), .c (.int .u32 (y.6.getD 2 (0 : Int))), .c (.int .u32 (y.6.getD 3 (0 : Int))), .c (.int .u32 (y.6.getD 4 (0 : Int))), .c (.int .u32 (y.6.getD 5 (0 : Int))), .c (.int .u32 (y.6.getD 6 (0 : Int))), .c (.int .u32 (y.6.getD 7 (0 : Int))), .c (.int .u32 (y.6.getD 8 (0 : Int))), .c (.int .u32 (y.6.getD 9 (0 : Int))), .c (.int .u32 (y.6.getD 10 (0 : Int))), .c (.int .u32 (y.6.getD 11 (0 : Int))), .c (.int .u32 (y.6.getD 12 (0 : Int))), .c (.int .u32 (y.6.getD 13 (0 : Int))), .c (.int .u32 (y.6.getD 14 (0 : Int))), .c (.int .u32 (y.6.getD 15 (0 : Int))), .c (.int .u32 (y.6.getD 16 (0 : Int))), .c (.int .u32 (y.6.getD 17 (0 : Int))), .c (.int .u32 (y.6.getD 18 (0 : Int))), .c (.int .u32 (y.6.getD 19 (0 : Int))), .c (.int .u32 (y.6.getD 20 (0 : Int))), .c (.int .u32 (y.6.getD 21 (0 : Int))), .c (.int .u32 (y.6.getD 22 (0 : Int))), .c (.int .u32 (y.6.getD 23 (0 : Int))), .c (.int .u32 (y.6.getD 24 (0 : Int))), .c (.int .u32 (y.6.getD 25 (0 : Int))), .c (.int .u32 (y.6.getD 26 (0 : Int))), .c (.int .u32 (y.6.getD 27 (0 : Int))), .c (.int .u32 (y.6.getD 28 (0 : Int))), .c (.int .u32 (y.6.getD 29 (0 : Int))), .c (.int .u32 (y.6.getD 30 (0 : Int))), .c (.int .u32 (y.6.getD 31 (0 : Int)))] 71])))))))

 (.br (!y.7)

 (.br (!false == y.7)

 (.ret (.ret, [.sli 1 (.c 0) 1 (.v q.2.length) (some (.v q.3)), .sli 3 (.c 0) 1 (.v q.4.length) (some (.v q.5)), .ptr 5 0, .ptr 8 0, .int .i64 (↑n : Int), .ptr 9 0, .int .i64 bf, .sb y.7, .int .i64 (↑i : Int), .snil, .bad], [.ro encLook [PUnit.unit], .ro (encHd 2) hs, Blk.rows false IntKind.u32 q.2, .ro (encInt IntKind.u8) q.4, .own [.a (encInt IntKind.u32) 60 l] 22, .own [.c (.sli 4 (.c 0) 1 (.v 60) (some (.v 60))), .c (.int .i64 c)] 68, Blk.rows true IntKind.u32 q.2, .vec (encHd 6) gs 34, .own [.c (.int .i64 x.1), .c (.int .i64 x.2), .c (.int .i64 x.3), .c (.sli 7 (.c 0) 1 (.v gs.length) none), .c (.int .i64 x.4)] 70, .own [.c (.int .i64 y.1), .c (.int .i64 y.2), .c (.int .i64 y.3), .c (.int .i64 y.4), .c (.int .u32 y.5), .a (encInt IntKind.u32) 32 y.6, .c (.sb y.7), .c (.int .i64 y.8)] 73]))

 (.ret (.exit 1, [.sli 1 (.c 0) 1 (.v q.2.length) (some (.v q.3)), .sli 3 (.c 0) 1 (.v q.4.length) (some (.v q.5)), .ptr 5 0, .ptr 8 0, .int .i64 (↑n : Int), .ptr 9 0, .int .i64 bf, .sb y.7, .int .i64 (↑i : Int), .snil, .bad], [.ro encLook [PUnit.unit], .ro (encHd 2) hs, Blk.rows false IntKind.u32 q.2, .ro (encInt IntKind.u8) q.4, .own [.a (encInt IntKind.u32) 60 l] 22, .own [.c (.sli 4 (.c 0) 1 (.v 60) (some (.v 60))), .c (.int .i64 c)] 68, Blk.rows true IntKind.u32 q.2, .vec (encHd 6) gs 34, .own [.c (.int .i64 x.1), .c (.int .i64 x.2), .c (.int .i64 x.3), .c (.sli 7 (.c 0) 1 (.v gs.length) none), .c (.int .i64 x.4)] 70, .own [.c (.int .i64 y.1), .c (.int .i64 y.2), .c (.int .i64 y.3), .c (.int .i64 y.4), .c (.int .u32 y.5), .a (encInt IntKind.u32) 32 y.6, .c (.sb y.7), .c (.int .i64 y.8)] 73])))

 (.need (decide ((0 : Int) ≤ y.2) && decide (y.2.toNat ≤ 32))

 (.need (decide ((0 : Int) ≤ y.2) && decide (y.2.toNat ≤ y.2.toNat))

 (.need (decide (0 ≤ y.2.toNat))

 (.br (!true == y.7)

 (.ret (.ret, [.sli 1 (.c 0) 1 (.v q.2.length) (some (.v q.3)), .sli 3 (.c 0) 1 (.v q.4.length) (some (.v q.5)), .ptr 5 0, .ptr 8 0, .int .i64 (↑n : Int), .ptr 9 0, .int .i64 bf, .sb y.7, .int .i64 (↑i : Int), .sli 10 (.c 0) 1 (.v y.2.toNat) (some (.v y.2.toNat)), .bad], [.ro encLook [PUnit.unit], .ro (encHd 2) hs, Blk.rows false IntKind.u32 q.2, .ro (encInt IntKind.u8) q.4, .own [.a (encInt IntKind.u32) 60 l] 22, .own [.c (.sli 4 (.c 0) 1 (.v 60) (some (.v 60))), .c (.int .i64 c)] 68, Blk.rows true IntKind.u32 q.2, .vec (encHd 6) gs 34, .own [.c (.int .i64 x.1), .c (.int .i64 x.2), .c (.int .i64 x.3), .c (.sli 7 (.c 0) 1 (.v gs.length) none), .c (.int .i64 x.4)] 70, .own [.c (.int .i64 y.1), .c (.int .i64 y.2), .c (.int .i64 y.3), .c (.int .i64 y.4), .c (.int .u32 y.5), .a (encInt IntKind.u32) 32 y.6, .c (.sb y.7), .c (.int .i64 y.8)] 73, .own [.c (.int .u32 (y.6.getD 0 (0 : Int))), .c (.int .u32 (y.6.getD 1 (0 : Int))), .c (.int .u32 (y.6.getD 2 (0 : Int))), .c (.int .u32 (y.6.getD 3 (0 : Int))), .c (.int .u32 (y.6.getD 4 (0 : Int))), .c (.int .u32 (y.6.getD 5 (0 : Int))), .c (.int .u32 (y.6.getD 6 (0 : Int))), .c (.int .u32 (y.6.getD 7 (0 : Int))), .c (.int .u32 (y.6.getD 8 (0 : Int))), .c (.int .u32 (y.6.getD 9 (0 : Int))), .c (.int .u32 (y.6.getD 10 (0 : Int))), .c (.int .u32 (y.6.getD 11 (0 : Int))), .c (.int .u32 (y.6.getD 12 (0 : Int))), .c (.int .u32 (y.6.getD 13 (0 : Int))), .c (.int .u32 (y.6.getD 14 (0 : Int))), .c (.int .u32 (y.6.getD 15 (0 : Int))), .c (.int .u32 (y.6.getD 16 (0 : Int))), .c (.int .u32 (y.6.getD 17 (0 : Int))), .c (.int .u32 (y.6.getD 18 (0 : Int))), .c (.int .u32 (y.6.getD 19 (0 : Int))), .c (.int .u32 (y.6.getD 20 (0 : Int))), .c (.int .u32 (y.6.getD 21 (0 : Int))), .c (.int .u32 (y.6.getD 22 (0 : Int))), .c (.int .u32 (y.6.getD 23 (0 : Int))), .c (.int .u32 (y.6.getD 24 (0 : Int))), .c (.int .u32 (y.6.getD 25 (0 : Int))), .c (.int .u32 (y.6.getD 26 (0 : Int))), .c (.int .u32 (y.6.getD 27 (0 : Int))), .c (.int .u32 (y.6.getD 28 (0 : Int))), .c (.int .u32 (y.6.getD 29 (0 : Int))), .c (.int .u32 (y.6.getD 30 (0 : Int))), .c (.int .u32 (y.6.getD 31 (0 : Int)))] 71]))

 (.ret (.normal, [.sli 1 (.c 0) 1 (.v q.2.length) (some (.v q.3)), .sli 3 (.c 0) 1 (.v q.4.length) (some (.v q.5)), .ptr 5 0, .ptr 8 0, .int .i64 (↑n : Int), .ptr 9 0, .int .i64 bf, .sb y.7, .int .i64 (↑i : Int), .sli 10 (.c 0) 1 (.v y.2.toNat) (some (.v y.2.toNat)), .bl false], [.ro encLook [PUnit.unit], .ro (encHd 2) hs, Blk.rows false IntKind.u32 q.2, .ro (encInt IntKind.u8) q.4, .own [.a (encInt IntKind.u32) 60 l] 22, .own [.c (.sli 4 (.c 0) 1 (.v 60) (some (.v 60))), .c (.int .i64 c)] 68, Blk.rows true IntKind.u32 q.2, .vec (encHd 6) gs 34, .own [.c (.int .i64 x.1), .c (.int .i64 x.2), .c (.int .i64 x.3), .c (.sli 7 (.c 0) 1 (.v gs.length) none), .c (.int .i64 x.4)] 70, .own [.c (.int .i64 y.1), .c (.int .i64 y.2), .c (.int .i64 y.3), .c (.int .i64 y.4), .c (.int .u32 y.5), .a (encInt IntKind.u32) 32 y.6, .c (.sb y.7), .c (.int .i64 y.8)] 73, .own [.c (.int .u32 (y.6.getD 0 (0 : Int))), .c (.int .u32 (y.6.getD 1 (0 : Int))), .c (.int .u32 (y.6.getD 2 (0 : Int))), .c (.int .u32 (y.6.getD 3 (0 : Int))), .c (.int .u32 (y.6.getD 4 (0 : Int))), .c (.int .u32 (y.6.getD 5 (0 : Int))), .c (.int .u32 (y.6.getD 6 (0 : Int))), .c (.int .u32 (y.6.getD 7 (0 : Int))), .c (.int .u32 (y.6.getD 8 (0 : Int))), .c (.int .u32 (y.6.getD 9 (0 : Int))), .c (.int .u32 (y.6.getD 10 (0 : Int))), .c (.int .u32 (y.6.getD 11 (0 : Int))), .c (.int .u32 (y.6.getD 12 (0 : Int))), .c (.int .u32 (y.6.getD 13 (0 : Int))), .c (.int .u32 (y.6.getD 14 (0 : Int))), .c (.int .u32 (y.6.getD 15 (0 : Int))), .c (.int .u32 (y.6.getD 16 (0 : Int))), .c (.int .u32 (y.6.getD 17 (0 : Int))), .c (.int .u32 (y.6.getD 18 (0 : Int))), .c (.int .u32 (y.6.getD 19 (0 : Int))), .c (.int .u32 (y.6.getD 20 (0 : Int))), .c (.int .u32 (y.6.getD 21 (0 : Int))), .c (.int .u32 (y.6.getD 22 (0 : Int))), .c (.int .u32 (y.6.getD 23 (0 : Int))), .c (.int .u32 (y.6.getD 24 (0 : Int))), .c (.int .u32 (y.6.getD 25 (0 : Int))), .c (.int .u32 (y.6.getD 26 (0 : Int))), .c (.int .u32 (y.6.getD 27 (0 : Int))), .c (.int .u32 (y.6.getD 28 (0 : Int))), .c (.int .u32 (y.6.getD 29 (0 : Int))), .c (.int .u32 (y.6.getD 30 (0 : Int))), .c (.int .u32 (y.6.getD 31 (0 : Int)))] 71])))))))) := by kernel_rfl
end Go.Proofs.YtmknmbacecjfmaaDoor

namespace Go.Proofs.YtmknmbacecjfmaaDoor
open Go Go.Proofs.YtmknmbacecjfmaaDoor.Sx
set_option linter.unusedVariables false
set_option maxRecDepth 100000 in
theorem r_reg {q : InW} {hs gs : List (Nat × Nat)} {l B : List Int} {c : Int} {x : Wr} {y : Rd} {n i : Nat} {bf : Int} {gp hit : Bool} : (exec cfgM 100 dreg3 (fr 172 nWl (vWl q n bf gp i hit)) (sWg q hs gs l c x y B)).bind (canonK 11 [(0,0)] 172 nWk) =
 

 (.ret (.normal, [.sli 1 (.c 0) 1 (.v q.2.length) (some (.v q.3)), .sli 3 (.c 0) 1 (.v q.4.length) (some (.v q.5)), .ptr 5 0, .ptr 8 0, .int .i64 (↑n : Int), .ptr 9 0, .int .i64 bf, .sb gp, .int .i64 (↑i : Int), .sli 10 (.c 0) 1 (.v n) (some (.v n)), .sb hit, .int .i64 bf], [.ro encLook [PUnit.unit], .ro (encHd 2) hs, Blk.rows false IntKind.u32 q.2, .ro (encInt IntKind.u8) q.4, .own [.a (encInt IntKind.u32) 60 l] 22, .own [.c (.sli 4 (.c 0) 1 (.v 60) (some (.v 60))), .c (.int .i64 c)] 68, Blk.rows true IntKind.u32 q.2, .vec (encHd 6) gs 34, .own [.c (.int .i64 x.1), .c (.int .i64 x.2), .c (.int .i64 x.3), .c (.sli 7 (.c 0) 1 (.v gs.length) none), .c (.int .i64 x.4)] 70, .own [.c (.int .i64 y.1), .c (.int .i64 y.2), .c (.int .i64 y.3), .c (.int .i64 y.4), .c (.int .u32 y.5), .a (encInt IntKind.u32) 32 y.6, .c (.sb y.7), .c (.int .i64 y.8)] 73, .own [.a (encInt IntKind.u32) 32 B] 71])) := by kernel_rfl
set_option maxRecDepth 100000 in
theorem r_tm {q : InW} {hs gs : List (Nat × Nat)} {l B : List Int} {c : Int} {x : Wr} {y : Rd} {n i : Nat} {bf k : Int} {gp hit : Bool} : (exec cfgM 100 dtm3 (fr 172 nWk (vWk q n bf gp i hit k)) (sWg q hs gs l c x y B)).bind (canonK 11 [(0,0)] 172 nWk) =
 

 (.br (decide (k ≤ x.4))

 (.br ((↑n : Int) == (↑n : Int))

 (.ret (.normal, [.sli 1 (.c 0) 1 (.v q.2.length) (some (.v q.3)), .sli 3 (.c 0) 1 (.v q.4.length) (some (.v q.5)), .ptr 5 0, .ptr 8 0, .int .i64 (↑n : Int), .ptr 9 0, .int .i64 bf, .sb gp, .int .i64 (↑i : Int), .sli 10 (.c 0) 1 (.v n) (some (.v n)), .sb hit, .int .i64 k], [.ro encLook [PUnit.unit], .ro (encHd 2) hs, Blk.rows false IntKind.u32 q.2, .ro (encInt IntKind.u8) q.4, .own [.a (encInt IntKind.u32) 60 l] 22, .own [.c (.sli 4 (.c 0) 1 (.v 60) (some (.v 60))), .c (.int .i64 c)] 68, Blk.rows true IntKind.u32 q.2, .vec (encHd 6) gs 34, .own [.c (.int .i64 x.1), .c (.int .i64 x.2), .c (.int .i64 x.3), .c (.sli 7 (.c 0) 1 (.v gs.length) none), .c (.int .i64 x.4)] 70, .own [.c (.int .i64 y.1), .c (.int .i64 y.2), .c (.int .i64 y.3), .c (.int .i64 y.4), .c (.int .u32 y.5), .a (encInt IntKind.u32) 32 y.6, .c (.sb y.7), .c (.int .i64 y.8)] 73, .own [.a (encInt IntKind.u32) 32 B] 71]))

 (.ret (.exit 2, [.sli 1 (.c 0) 1 (.v q.2.length) (some (.v q.3)), .sli 3 (.c 0) 1 (.v q.4.length) (some (.v q.5)), .ptr 5 0, .ptr 8 0, .int .i64 (↑n : Int), .ptr 9 0, .int .i64 bf, .sb gp, .int .i64 (↑i : Int), .sli 10 (.c 0) 1 (.v n) (some (.v n)), .sb hit, .int .i64 k], [.ro encLook [PUnit.unit], .ro (encHd 2) hs, Blk.rows false IntKind.u32 q.2, .ro (encInt IntKind.u8) q.4, .own [.a (encInt IntKind.u32) 60 l] 22, .own [.c (.sli 4 (.c 0) 1 (.v 60) (some (.v 60))), .c (.int .i64 c)] 68, Blk.rows true IntKind.u32 q.2, .vec (encHd 6) gs 34, .own [.c (.int .i64 x.1), .c (.int .i64 x.2), .c (.int .i64 x.3), .c (.sli 7 (.c 0) 1 (.v gs.length) none), .c (.int .i64 x.4)] 70, .own [.c (.int .i64 y.1), .c (.int .i64 y.2), .c (.int .i64 y.3), .c (.int .i64 y.4), .c (.int .u32 y.5), .a (encInt IntKind.u32) 32 y.6, .c (.sb y.7), .c (.int .i64 y.8)] 73, .own [.a (encInt IntKind.u32) 32 B] 71])))

 (.ret (.exit 2, [.sli 1 (.c 0) 1 (.v q.2.length) (some (.v q.3)), .sli 3 (.c 0) 1 (.v q.4.length) (some (.v q.5)), .ptr 5 0, .ptr 8 0, .int .i64 (↑n : Int), .ptr 9 0, .int .i64 bf, .sb gp, .int .i64 (↑i : Int), .sli 10 (.c 0) 1 (.v n) (some (.v n)), .sb hit, .int .i64 k], [.ro encLook [PUnit.unit], .ro (encHd 2) hs, Blk.rows false IntKind.u32 q.2, .ro (encInt IntKind.u8) q.4, .own [.a (encInt IntKind.u32) 60 l] 22, .own [.c (.sli 4 (.c 0) 1 (.v 60) (some (.v 60))), .c (.int .i64 c)] 68, Blk.rows true IntKind.u32 q.2, .vec (encHd 6) gs 34, .own [.c (.int .i64 x.1), .c (.int .i64 x.2), .c (.int .i64 x.3), .c (.sli 7 (.c 0) 1 (.v gs.length) none), .c (.int .i64 x.4)] 70, .own [.c (.int .i64 y.1), .c (.int .i64 y.2), .c (.int .i64 y.3), .c (.int .i64 y.4), .c (.int .u32 y.5), .a (encInt IntKind.u32) 32 y.6, .c (.sb y.7), .c (.int .i64 y.8)] 73, .own [.a (encInt IntKind.u32) 32 B] 71]))) := by kernel_rfl
set_option maxRecDepth 100000 in
theorem r_m {q : InW} {hs gs : List (Nat × Nat)} {l B : List Int} {c : Int} {x : Wr} {y : Rd} {n i : Nat} {bf k : Int} {gp hit : Bool} : (execN cfgM 100 1 dbb3 (fr 172 nWk (vWk q n bf gp i hit k)) (sWg q hs gs l c x y B)).bind (canonK 11 [(0,0)] 172 nWm) =
 

 (.ret (.normal, [.sli 1 (.c 0) 1 (.v q.2.length) (some (.v q.3)), .sli 3 (.c 0) 1 (.v q.4.length) (some (.v q.5)), .ptr 5 0, .ptr 8 0, .int .i64 (↑n : Int), .ptr 9 0, .int .i64 bf, .sb gp, .int .i64 (↑i : Int), .sli 10 (.c 0) 1 (.v n) (some (.v n)), .sb hit, .int .i64 k, .bl true], [.ro encLook [PUnit.unit], .ro (encHd 2) hs, Blk.rows false IntKind.u32 q.2, .ro (encInt IntKind.u8) q.4, .own [.a (encInt IntKind.u32) 60 l] 22, .own [.c (.sli 4 (.c 0) 1 (.v 60) (some (.v 60))), .c (.int .i64 c)] 68, Blk.rows true IntKind.u32 q.2, .vec (encHd 6) gs 34, .own [.c (.int .i64 x.1), .c (.int .i64 x.2), .c (.int .i64 x.3), .c (.sli 7 (.c 0) 1 (.v gs.length) none), .c (.int .i64 x.4)] 70, .own [.c (.int .i64 y.1), .c (.int .i64 y.2), .c (.int .i64 y.3), .c (.int .i64 y.4), .c (.int .u32 y.5), .a (encInt IntKind.u32) 32 y.6, .c (.sb y.7), .c (.int .i64 y.8)] 73, .own [.a (encInt IntKind.u32) 32 B] 71])) := by kernel_rfl
set_option maxRecDepth 100000 in
theorem r_inc {q : InW} {hs gs : List (Nat × Nat)} {l B : List Int} {c : Int} {x : Wr} {y : Rd} {n i : Nat} {bf k : Int} {gp hit : Bool} : (exec cfgM 100 dinc3 (fr 172 nWk (vWk q n bf gp i hit k)) (sWg q hs gs l c x y B)).bind (canonK 11 [(0,0)] 172 nWk) =
 

 (.need (inR .i64 (k + (1 : Int)))

 (.ret (.normal, [.sli 1 (.c 0) 1 (.v q.2.length) (some (.v q.3)), .sli 3 (.c 0) 1 (.v q.4.length) (some (.v q.5)), .ptr 5 0, .ptr 8 0, .int .i64 (↑n : Int), .ptr 9 0, .int .i64 bf, .sb gp, .int .i64 (↑i : Int), .sli 10 (.c 0) 1 (.v n) (some (.v n)), .sb hit, .int .i64 (k + (1 : Int))], [.ro encLook [PUnit.unit], .ro (encHd 2) hs, Blk.rows false IntKind.u32 q.2, .ro (encInt IntKind.u8) q.4, .own [.a (encInt IntKind.u32) 60 l] 22, .own [.c (.sli 4 (.c 0) 1 (.v 60) (some (.v 60))), .c (.int .i64 c)] 68, Blk.rows true IntKind.u32 q.2, .vec (encHd 6) gs 34, .own [.c (.int .i64 x.1), .c (.int .i64 x.2), .c (.int .i64 x.3), .c (.sli 7 (.c 0) 1 (.v gs.length) none), .c (.int .i64 x.4)] 70, .own [.c (.int .i64 y.1), .c (.int .i64 y.2), .c (.int .i64 y.3), .c (.int .i64 y.4), .c (.int .u32 y.5), .a (encInt IntKind.u32) 32 y.6, .c (.sb y.7), .c (.int .i64 y.8)] 73, .own [.a (encInt IntKind.u32) 32 B] 71]))) := by kernel_rfl
set_option maxRecDepth 100000 in
theorem r_end {q : InW} {hs gs : List (Nat × Nat)} {l B : List Int} {c : Int} {x : Wr} {y : Rd} {n i : Nat} {bf k : Int} {gp hit : Bool} : (exec cfgM 100 dend3 (fr 172 nWk (vWk q n bf gp i hit k)) (sWg q hs gs l c x y B)).bind (canonK 10 [(0,0)] 172 nWi) =
 

 (.br (!hit)

 (.ret (.ret, [.sli 1 (.c 0) 1 (.v q.2.length) (some (.v q.3)), .sli 3 (.c 0) 1 (.v q.4.length) (some (.v q.5)), .ptr 5 0, .ptr 8 0, .int .i64 (↑n : Int), .ptr 9 0, .int .i64 bf, .sb gp, .int .i64 (↑i : Int)], [.ro encLook [PUnit.unit], .ro (encHd 2) hs, Blk.rows false IntKind.u32 q.2, .ro (encInt IntKind.u8) q.4, .own [.a (encInt IntKind.u32) 60 l] 22, .own [.c (.sli 4 (.c 0) 1 (.v 60) (some (.v 60))), .c (.int .i64 c)] 68, Blk.rows true IntKind.u32 q.2, .vec (encHd 6) gs 34, .own [.c (.int .i64 x.1), .c (.int .i64 x.2), .c (.int .i64 x.3), .c (.sli 7 (.c 0) 1 (.v gs.length) none), .c (.int .i64 x.4)] 70, .own [.c (.int .i64 y.1), .c (.int .i64 y.2), .c (.int .i64 y.3), .c (.int .i64 y.4), .c (.int .u32 y.5), .a (encInt IntKind.u32) 32 y.6, .c (.sb y.7), .c (.int .i64 y.8)] 73]))

 (.ret (.normal, [.sli 1 (.c 0) 1 (.v q.2.length) (some (.v q.3)), .sli 3 (.c 0) 1 (.v q.4.length) (some (.v q.5)), .ptr 5 0, .ptr 8 0, .int .i64 (↑n : Int), .ptr 9 0, .int .i64 bf, .sb gp, .int .i64 (↑i : Int)], [.ro encLook [PUnit.unit], .ro (encHd 2) hs, Blk.rows false IntKind.u32 q.2, .ro (encInt IntKind.u8) q.4, .own [.a (encInt IntKind.u32) 60 l] 22, .own [.c (.sli 4 (.c 0) 1 (.v 60) (some (.v 60))), .c (.int .i64 c)] 68, Blk.rows true IntKind.u32 q.2, .vec (encHd 6) gs 34, .own [.c (.int .i64 x.1), .c (.int .i64 x.2), .c (.int .i64 x.3), .c (.sli 7 (.c 0) 1 (.v gs.length) none), .c (.int .i64 x.4)] 70, .own [.c (.int .i64 y.1), .c (.int .i64 y.2), .c (.int .i64 y.3), .c (.int .i64 y.4), .c (.int .u32 y.5), .a (encInt IntKind.u32) 32 y.6, .c (.sb y.7), .c (.int .i64 y.8)] 73]))) := by kernel_rfl
set_option maxRecDepth 100000 in
theorem e_reg {q : InW} {hs gs : List (Nat × Nat)} {l B : List Int} {c : Int} {x : Wr} {y : Rd} {n i : Nat} {bf k : Int} {gp hit m : Bool} : (exec cfgM 100 ereg3 (fr 172 nWm (vWm q n bf gp i hit k m)) (sWg q hs gs l c x y B)).bind (canonK 11 [(0,0)] 172 nWj) =
 

 (.ret (.normal, [.sli 1 (.c 0) 1 (.v q.2.length) (some (.v q.3)), .sli 3 (.c 0) 1 (.v q.4.length) (some (.v q.5)), .ptr 5 0, .ptr 8 0, .int .i64 (↑n : Int), .ptr 9 0, .int .i64 bf, .sb gp, .int .i64 (↑i : Int), .sli 10 (.c 0) 1 (.v n) (some (.v n)), .sb hit, .int .i64 k, .sb m, .lit .i64 (0 : Int)], [.ro encLook [PUnit.unit], .ro (encHd 2) hs, Blk.rows false IntKind.u32 q.2, .ro (encInt IntKind.u8) q.4, .own [.a (encInt IntKind.u32) 60 l] 22, .own [.c (.sli 4 (.c 0) 1 (.v 60) (some (.v 60))), .c (.int .i64 c)] 68, Blk.rows true IntKind.u32 q.2, .vec (encHd 6) gs 34, .own [.c (.int .i64 x.1), .c (.int .i64 x.2), .c (.int .i64 x.3), .c (.sli 7 (.c 0) 1 (.v gs.length) none), .c (.int .i64 x.4)] 70, .own [.c (.int .i64 y.1), .c (.int .i64 y.2), .c (.int .i64 y.3), .c (.int .i64 y.4), .c (.int .u32 y.5), .a (encInt IntKind.u32) 32 y.6, .c (.sb y.7), .c (.int .i64 y.8)] 73, .own [.a (encInt IntKind.u32) 32 B] 71])) := by kernel_rfl
set_option maxRecDepth 100000 in
theorem e_tm {q : InW} {hs gs : List (Nat × Nat)} {l B : List Int} {c : Int} {x : Wr} {y : Rd} {n i j : Nat} {bf k : Int} {gp hit m : Bool} : (exec cfgM 100 etm3 (fr 172 nWj (vWj q n bf gp i hit k m j)) (sWg q hs gs l c x y B)).bind (canonK 11 [(0,0)] 172 nWj) =
 

 (.br (decide ((↑j : Int) < (↑n : Int)))

 (.ret (.normal, [.sli 1 (.c 0) 1 (.v q.2.length) (some (.v q.3)), .sli 3 (.c 0) 1 (.v q.4.length) (some (.v q.5)), .ptr 5 0, .ptr 8 0, .int .i64 (↑n : Int), .ptr 9 0, .int .i64 bf, .sb gp, .int .i64 (↑i : Int), .sli 10 (.c 0) 1 (.v n) (some (.v n)), .sb hit, .int .i64 k, .sb m, .int .i64 (↑j : Int)], [.ro encLook [PUnit.unit], .ro (encHd 2) hs, Blk.rows false IntKind.u32 q.2, .ro (encInt IntKind.u8) q.4, .own [.a (encInt IntKind.u32) 60 l] 22, .own [.c (.sli 4 (.c 0) 1 (.v 60) (some (.v 60))), .c (.int .i64 c)] 68, Blk.rows true IntKind.u32 q.2, .vec (encHd 6) gs 34, .own [.c (.int .i64 x.1), .c (.int .i64 x.2), .c (.int .i64 x.3), .c (.sli 7 (.c 0) 1 (.v gs.length) none), .c (.int .i64 x.4)] 70, .own [.c (.int .i64 y.1), .c (.int .i64 y.2), .c (.int .i64 y.3), .c (.int .i64 y.4), .c (.int .u32 y.5), .a (encInt IntKind.u32) 32 y.6, .c (.sb y.7), .c (.int .i64 y.8)] 73, .own [.a (encInt IntKind.u32) 32 B] 71]))

 (.ret (.exit 4, [.sli 1 (.c 0) 1 (.v q.2.length) (some (.v q.3)), .sli 3 (.c 0) 1 (.v q.4.length) (some (.v q.5)), .ptr 5 0, .ptr 8 0, .int .i64 (↑n : Int), .ptr 9 0, .int .i64 bf, .sb gp, .int .i64 (↑i : Int), .sli 10 (.c 0) 1 (.v n) (some (.v n)), .sb hit, .int .i64 k, .sb m, .int .i64 (↑j : Int)], [.ro encLook [PUnit.unit], .ro (encHd 2) hs, Blk.rows false IntKind.u32 q.2, .ro (encInt IntKind.u8) q.4, .own [.a (encInt IntKind.u32) 60 l] 22, .own [.c (.sli 4 (.c 0) 1 (.v 60) (some (.v 60))), .c (.int .i64 c)] 68, Blk.rows true IntKind.u32 q.2, .vec (encHd 6) gs 34, .own [.c (.int .i64 x.1), .c (.int .i64 x.2), .c (.int .i64 x.3), .c (.sli 7 (.c 0) 1 (.v gs.length) none), .c (.int .i64 x.4)] 70, .own [.c (.int .i64 y.1), .c (.int .i64 y.2), .c (.int .i64 y.3), .c (.int .i64 y.4), .c (.int .u32 y.5), .a (encInt IntKind.u32) 32 y.6, .c (.sb y.7), .c (.int .i64 y.8)] 73, .own [.a (encInt IntKind.u32) 32 B] 71]))) := by kernel_rfl
set_option maxRecDepth 100000 in
theorem e_bb {q : InW} {hs gs : List (Nat × Nat)} {l B : List Int} {c : Int} {x : Wr} {y : Rd} {n i j : Nat} {bf k : Int} {gp hit m : Bool} : (exec cfgM 100 ebb3 (fr 172 nWj (vWj q n bf gp i hit k m j)) (sWg q hs gs l c x y B)).bind (canonK 11 [(0,0)] 172 nWj) =
 

 (.br (m)

 (.need (decide ((0 : Int) ≤ (↑j : Int)) && decide ((↑j : Int).toNat < n))

 (.need (decide ((↑j : Int).toNat < 32))

 (.br (k == (0 : Int))
 (.eq (T.need (decide ((↑j : Int).toNat < (32 : Nat))) (T.ret ([SVal.int IntKind.u32 (B.getD (↑j : Int).toNat (0 : Int))].getD (0 : Nat) SVal.bad)) = T.need (decide ((↑j : Int).toNat < (32 : Nat))) (T.ret ([SVal.int IntKind.u32 (B.getD (↑j : Int).toNat (0 : Int))].getD (0 : Nat) SVal.bad)))
 (.eq (T.need (decide ((↑j : Int).toNat < (32 : Nat))) (T.ret ([SVal.int IntKind.u32 (B.getD (↑j : Int).toNat (0 : Int))].getD (0 : Nat) SVal.bad)) = T.need (decide ((↑j : Int).toNat < (32 : Nat))) (T.ret ([SVal.int IntKind.u32 (B.getD (↑j : Int).toNat (0 : Int))].getD (0 : Nat) SVal.bad)))

 (.ret (.normal, [.sli 1 (.c 0) 1 (.v q.2.length) (some (.v q.3)), .sli 3 (.c 0) 1 (.v q.4.length) (some (.v q.5)), .ptr 5 0, .ptr 8 0, .int .i64 (↑n : Int), .ptr 9 0, .int .i64 bf, .sb gp, .int .i64 (↑i : Int), .sli 10 (.c 0) 1 (.v n) (some (.v n)), .sb hit, .int .i64 k, .sb (B.getD (↑j : Int).toNat (0 : Int) == (0 : Int)), .int .i64 (↑j : Int)], [.ro encLook [PUnit.unit], .ro (encHd 2) hs, Blk.rows false IntKind.u32 q.2, .ro (encInt IntKind.u8) q.4, .own [.a (encInt IntKind.u32) 60 l] 22, .own [.c (.sli 4 (.c 0) 1 (.v 60) (some (.v 60))), .c (.int .i64 c)] 68, Blk.rows true IntKind.u32 q.2, .vec (encHd 6) gs 34, .own [.c (.int .i64 x.1), .c (.int .i64 x.2), .c (.int .i64 x.3), .c (.sli 7 (.c 0) 1 (.v gs.length) none), .c (.int .i64 x.4)] 70, .own [.c (.int .i64 y.1), .c (.int .i64 y.2), .c (.int .i64 y.3), .c (.int .i64 y.4), .c (.int .u32 y.5), .a (encInt IntKind.u32) 32 y.6, .c (.sb y.7), .c (.int .i64 y.8)] 73, .own [.a (encInt IntKind.u32) 32 B] 71]))))

 (.need (inR .i64 (k - (1 : Int)))

 (.need (decide ((0 : Int) ≤ k - (1 : Int)) && decide ((k - (1 : Int)).toNat < q.2.length))

 (.need (decide ((k - (1 : Int)).toNat < hs.length))

 (.need (decide ((0 : Int) ≤ (↑j : Int)) && decide ((↑j : Int).toNat < (hs.getD (k - (1 : Int)).toNat (0, 0)).snd))

 (.need (decide ((hs.getD (k - (1 : Int)).toNat (0, 0)).fst < q.2.length) && decide ((↑j : Int).toNat < (q.2.getD (hs.getD (k - (1 : Int)).toNat (0, 0)).fst []).length))
 (.eq (T.need (decide ((↑j : Int).toNat < (32 : Nat))) (T.ret ([SVal.int IntKind.u32 (B.getD (↑j : Int).toNat (0 : Int))].getD (0 : Nat) SVal.bad)) = T.need (decide ((↑j : Int).toNat < (32 : Nat))) (T.ret ([SVal.int IntKind.u32 (B.getD (↑j : Int).toNat (0 : Int))].getD (0 : Nat) SVal.bad)))
 (.eq (T.need (decide ((↑j : Int).toNat < (32 : Nat))) (T.ret ([SVal.int IntKind.u32 (B.getD (↑j : Int).toNat (0 : Int))].getD (0 : Nat) SVal.bad)) = T.need (decide ((↑j : Int).toNat < (32 : Nat))) (T.ret ([SVal.int IntKind.u32 (B.getD (↑j : Int).toNat (0 : Int))].getD (0 : Nat) SVal.bad)))

 (.ret (.normal, [.sli 1 (.c 0) 1 (.v q.2.length) (some (.v q.3)), .sli 3 (.c 0) 1 (.v q.4.length) (some (.v q.5)), .ptr 5 0, .ptr 8 0, .int .i64 (↑n : Int), .ptr 9 0, .int .i64 bf, .sb gp, .int .i64 (↑i : Int), .sli 10 (.c 0) 1 (.v n) (some (.v n)), .sb hit, .int .i64 k, .sb (B.getD (↑j : Int).toNat (0 : Int) == (q.2.getD (hs.getD (k - (1 : Int)).toNat (0, 0)).fst []).getD (↑j : Int).toNat (0 : Int)), .int .i64 (↑j : Int)], [.ro encLook [PUnit.unit], .ro (encHd 2) hs, Blk.rows false IntKind.u32 q.2, .ro (encInt IntKind.u8) q.4, .own [.a (encInt IntKind.u32) 60 l] 22, .own [.c (.sli 4 (.c 0) 1 (.v 60) (some (.v 60))), .c (.int .i64 c)] 68, Blk.rows true IntKind.u32 q.2, .vec (encHd 6) gs 34, .own [.c (.int .i64 x.1), .c (.int .i64 x.2), .c (.int .i64 x.3), .c (.sli 7 (.c 0) 1 (.v gs.length) none), .c (.int .i64 x.4)] 70, .own [.c (.int .i64 y.1), .c (.int .i64 y.2), .c (.int .i64 y.3), .c (.int .i64 y.4), .c (.int .u32 y.5), .a (encInt IntKind.u32) 32 y.6, .c (.sb y.7), .c (.int .i64 y.8)] 73, .own [.a (encInt IntKind.u32) 32 B] 71]))))))))))))

 (.ret (.normal, [.sli 1 (.c 0) 1 (.v q.2.length) (some (.v q.3)), .sli 3 (.c 0) 1 (.v q.4.length) (some (.v q.5)), .ptr 5 0, .ptr 8 0, .int .i64 (↑n : Int), .ptr 9 0, .int .i64 bf, .sb gp, .int .i64 (↑i : Int), .sli 10 (.c 0) 1 (.v n) (some (.v n)), .sb hit, .int .i64 k, .bl false, .int .i64 (↑j : Int)], [.ro encLook [PUnit.unit], .ro (encHd 2) hs, Blk.rows false IntKind.u32 q.2, .ro (encInt IntKind.u8) q.4, .own [.a (encInt IntKind.u32) 60 l] 22, .own [.c (.sli 4 (.c 0) 1 (.v 60) (some (.v 60))), .c (.int .i64 c)] 68, Blk.rows true IntKind.u32 q.2, .vec (encHd 6) gs 34, .own [.c (.int .i64 x.1), .c (.int .i64 x.2), .c (.int .i64 x.3), .c (.sli 7 (.c 0) 1 (.v gs.length) none), .c (.int .i64 x.4)] 70, .own [.c (.int .i64 y.1), .c (.int .i64 y.2), .c (.int .i64 y.3), .c (.int .i64 y.4), .c (.int .u32 y.5), .a (encInt IntKind.u32) 32 y.6, .c (.sb y.7), .c (.int .i64 y.8)] 73, .own [.a (encInt IntKind.u32) 32 B] 71]))) := by kernel_rfl
set_option maxRecDepth 100000 in
theorem e_inc {q : InW} {hs gs : List (Nat × Nat)} {l B : List Int} {c : Int} {x : Wr} {y : Rd} {n i j : Nat} {bf k : Int} {gp hit m : Bool} : (exec cfgM 100 einc3 (fr 172 nWj (vWj q n bf gp i hit k m j)) (sWg q hs gs l c x y B)).bind (canonK 11 [(0,0)] 172 nWj) =
 

 (.need (inR .i64 ((↑j : Int) + (1 : Int)))

 (.ret (.normal, [.sli 1 (.c 0) 1 (.v q.2.length) (some (.v q.3)), .sli 3 (.c 0) 1 (.v q.4.length) (some (.v q.5)), .ptr 5 0, .ptr 8 0, .int .i64 (↑n : Int), .ptr 9 0, .int .i64 bf, .sb gp, .int .i64 (↑i : Int), .sli 10 (.c 0) 1 (.v n) (some (.v n)), .sb hit, .int .i64 k, .sb m, .int .i64 ((↑j : Int) + (1 : Int))], [.ro encLook [PUnit.unit], .ro (encHd 2) hs, Blk.rows false IntKind.u32 q.2, .ro (encInt IntKind.u8) q.4, .own [.a (encInt IntKind.u32) 60 l] 22, .own [.c (.sli 4 (.c 0) 1 (.v 60) (some (.v 60))), .c (.int .i64 c)] 68, Blk.rows true IntKind.u32 q.2, .vec (encHd 6) gs 34, .own [.c (.int .i64 x.1), .c (.int .i64 x.2), .c (.int .i64 x.3), .c (.sli 7 (.c 0) 1 (.v gs.length) none), .c (.int .i64 x.4)] 70, .own [.c (.int .i64 y.1), .c (.int .i64 y.2), .c (.int .i64 y.3), .c (.int .i64 y.4), .c (.int .u32 y.5), .a (encInt IntKind.u32) 32 y.6, .c (.sb y.7), .c (.int .i64 y.8)] 73, .own [.a (encInt IntKind.u32) 32 B] 71]))) := by kernel_rfl
set_option maxRecDepth 100000 in
theorem e_end {q : InW} {hs gs : List (Nat × Nat)} {l B : List Int} {c : Int} {x : Wr} {y : Rd} {n i j : Nat} {bf k : Int} {gp hit m : Bool} : (exec cfgM 100 eend3 (fr 172 nWj (vWj q n bf gp i hit k m j)) (sWg q hs gs l c x y B)).bind (canonK 11 [(0,0)] 172 nWk) =
 

 (.br (hit)

 (.ret (.normal, [.sli 1 (.c 0) 1 (.v q.2.length) (some (.v q.3)), .sli 3 (.c 0) 1 (.v q.4.length) (some (.v q.5)), .ptr 5 0, .ptr 8 0, .int .i64 (↑n : Int), .ptr 9 0, .int .i64 bf, .sb gp, .int .i64 (↑i : Int), .sli 10 (.c 0) 1 (.v n) (some (.v n)), .bl true, .int .i64 k], [.ro encLook [PUnit.unit], .ro (encHd 2) hs, Blk.rows false IntKind.u32 q.2, .ro (encInt IntKind.u8) q.4, .own [.a (encInt IntKind.u32) 60 l] 22, .own [.c (.sli 4 (.c 0) 1 (.v 60) (some (.v 60))), .c (.int .i64 c)] 68, Blk.rows true IntKind.u32 q.2, .vec (encHd 6) gs 34, .own [.c (.int .i64 x.1), .c (.int .i64 x.2), .c (.int .i64 x.3), .c (.sli 7 (.c 0) 1 (.v gs.length) none), .c (.int .i64 x.4)] 70, .own [.c (.int .i64 y.1), .c (.int .i64 y.2), .c (.int .i64 y.3), .c (.int .i64 y.4), .c (.int .u32 y.5), .a (encInt IntKind.u32) 32 y.6, .c (.sb y.7), .c (.int .i64 y.8)] 73, .own [.a (encInt IntKind.u32) 32 B] 71]))

 (.ret (.normal, [.sli 1 (.c 0) 1 (.v q.2.length) (some (.v q.3)), .sli 3 (.c 0) 1 (.v q.4.length) (some (.v q.5)), .ptr 5 0, .ptr 8 0, .int .i64 (↑n : Int), .ptr 9 0, .int .i64 bf, .sb gp, .int .i64 (↑i : Int), .sli 10 (.c 0) 1 (.v n) (some (.v n)), .sb m, .int .i64 k], [.ro encLook [PUnit.unit], .ro (encHd 2) hs, Blk.rows false IntKind.u32 q.2, .ro (encInt IntKind.u8) q.4, .own [.a (encInt IntKind.u32) 60 l] 22, .own [.c (.sli 4 (.c 0) 1 (.v 60) (some (.v 60))), .c (.int .i64 c)] 68, Blk.rows true IntKind.u32 q.2, .vec (encHd 6) gs 34, .own [.c (.int .i64 x.1), .c (.int .i64 x.2), .c (.int .i64 x.3), .c (.sli 7 (.c 0) 1 (.v gs.length) none), .c (.int .i64 x.4)] 70, .own [.c (.int .i64 y.1), .c (.int .i64 y.2), .c (.int .i64 y.3), .c (.int .i64 y.4), .c (.int .u32 y.5), .a (encInt IntKind.u32) 32 y.6, .c (.sb y.7), .c (.int .i64 y.8)] 73, .own [.a (encInt IntKind.u32) 32 B] 71]))) := by kernel_rfl
end Go.Proofs.YtmknmbacecjfmaaDoor

/- SeqlockWhole: its rounds. -/
namespace Go.Proofs.YtmknmbacecjfmaaDoor
open Go Go.Proofs.YtmknmbacecjfmaaDoor.Sx
set_option linter.unusedVariables false
theorem cfgSt_ok {q : InW} {l : List Int} {c : Int} {x : Wr} {y : Rd} {b2 : Bool} (hb : b2 = (rNext 60 y l c).b) : SmOk (cfgSt q (hdL q.xss) (hdL q.xss) l c x y (wNext 60 q.xss x l c).l (wNext 60 q.xss x l c).c (wNext 60 q.xss x l c).x (wNext 60 q.xss x l c).b (rNext 60 y l c).c (rNext 60 y l c).y b2 (WOk 60 q.xss l c x) (ROk 60 l c y)) := by
  subst hb
  intro F G h
  simp only [cfgSt] at h
  split at h
  · simp only [Option.some.injEq] at h; subst h
    exact smEq_ok (c := cfgSt q (hdL q.xss) (hdL q.xss) l c x y (wNext 60 q.xss x l c).l (wNext 60 q.xss x l c).c (wNext 60 q.xss x l c).x (wNext 60 q.xss x l c).b (rNext 60 y l c).c (rNext 60 y l c).y (rNext 60 y l c).b (WOk 60 q.xss l c x) (ROk 60 l c y)) fun h env w vs hg hr hd => w_rest [rdrB y] h env w vs hg hr hd
  · simp only [Option.some.injEq] at h; subst h
    exact smEq_ok (c := cfgSt q (hdL q.xss) (hdL q.xss) l c x y (wNext 60 q.xss x l c).l (wNext 60 q.xss x l c).c (wNext 60 q.xss x l c).x (wNext 60 q.xss x l c).b (rNext 60 y l c).c (rNext 60 y l c).y (rNext 60 y l c).b (WOk 60 q.xss l c x) (ROk 60 l c y)) fun h env w vs hg hr hd => r_step h env w vs hg hr hd
  · cases h
structure LW (q : InW) (n : Nat) (e0 : Int) (i : Nat) (l : List Int) (c : Int) (x : Wr) (y : Rd) (bf : Int) : Prop where
  vs : Vs q.xss n e0
  wi : WI 0 q.xss n e0 l c x
  rk : ROk 60 l c y
  ri : RI 0 q.xss n e0 bf x y
  cc : 0 ≤ c ∧ c ≤ 1 + (i : Int)
  tt : 0 ≤ y.tries ∧ y.tries ≤ (i : Int)
abbrev Q3 (w0 : From) : Exit → Act → World → Prop := bodyPost Tryd.prog Tryd.f3 (Said w0)
abbrev sWs (q : InW) (l : List Int) (c : Int) (x : Wr) (y : Rd) : St := sWq q (hdL q.xss) (hdL q.xss) l c x y
abbrev sWb (q : InW) (l : List Int) (c : Int) (x : Wr) (y : Rd) (B : List Int) : St := sWg q (hdL q.xss) (hdL q.xss) l c x y B
def InvW (w0 : From) (q : InW) (n : Nat) (e0 : Int) (i : Nat) (a : Act) (W : World) : Prop :=
  i ≤ 300 ∧ ∃ l c x y bf, LW q n e0 i l c x y bf ∧ ∃ env, At [(0, 0)] w0 env (fr 172 nWi (vWi q n bf y.got i)) (sWs q l c x y) a W
abbrev RW (w0 : From) (q : InW) (n : Nat) (e0 : Int) (i : Nat) : Exit → Act → World → Prop :=
  Exit.then (fun a' w' => ∃ k, InvW w0 q n e0 k a' w' ∧ 300 - k < 300 - i) (Exit.inBlock 0 (Exit.then (end3.wp Tryd.prog (Q3 w0)) (Q3 w0)))
abbrev BW (w0 : From) (q : InW) (n : Nat) (e0 : Int) (i : Nat) : Exit → Act → World → Prop :=
  Exit.inBlock 1 (Exit.then (inc3.wp Tryd.prog (RW w0 q n e0 i)) (RW w0 q n e0 i))
theorem nextW {w0 : From} {q : InW} {n : Nat} {e0 : Int} {i : Nat} (hi : i < 300) {l : List Int} {c : Int} {x : Wr} {y : Rd} {bf : Int} (h : LW q n e0 (i + 1) l c x y bf) {env : Env} {a : Act} {W : World} (hA : At [(0, 0)] w0 env (fr 172 nWi (vWi q n bf y.got i)) (sWs q l c x y) a W) :
    inc3.wp Tryd.prog (RW w0 q n e0 i) a W := by
  refine pieceT0 (c := cfgM) cfgM_ok nWi p_inc hA ?_
  refine all_needp (by simp only [inR_i64]; exact Iff.rfl) (by omega) fun _ => all_ret fun env4 a4 w4 hA4 => ?_
  exact ⟨i + 1, ⟨by omega, l, c, x, y, bf, h, env4, hA4⟩, by omega⟩
theorem bw_exit {w0 : From} {q : InW} {n : Nat} {e0 : Int} {i : Nat} {a : Act} {W : World} (h : inc3.wp Tryd.prog (RW w0 q n e0 i) a W) : BW w0 q n e0 i (.exit 1) a W := by
  simp only [BW, Exit.then, Exit.inBlock, if_true]; exact h
theorem bw_norm {w0 : From} {q : InW} {n : Nat} {e0 : Int} {i : Nat} {a : Act} {W : World} (h : inc3.wp Tryd.prog (RW w0 q n e0 i) a W) : BW w0 q n e0 i .normal a W := by
  simp only [BW, Exit.then, Exit.inBlock]; exact h
/-- what a reader gave is the version at which it began -/
structure Hit (q : InW) (n : Nat) (e0 : Int) (i : Nat) (l : List Int) (c : Int) (x : Wr) (y : Rd) (bf : Int) : Prop where
  lw : LW q n e0 (i + 1) l c x y bf
  b : 0 ≤ bf ∧ bf ≤ x.ver
  eq : ∀ j : Nat, j < n → y.buf.getD j 0 = verW q.xss bf.toNat j
def InvE (w0 : From) (q : InW) (n : Nat) (i : Nat) (l : List Int) (c : Int) (x : Wr) (y : Rd) (bf : Int) (hit : Bool) (k : Int) (j : Nat) (a : Act) (W : World) : Prop :=
  j ≤ n ∧ ∃ m : Bool, (k = bf → m = true) ∧ ∃ env, At [(0, 0)] w0 env (fr 172 nWj (vWj q n bf y.got i hit k m j)) (sWb q l c x y y.buf) a W
def InvD (w0 : From) (q : InW) (n : Nat) (i : Nat) (l : List Int) (c : Int) (x : Wr) (y : Rd) (bf : Int) (m : Nat) (a : Act) (W : World) : Prop :=
  bf + (m : Int) ≤ x.ver + 1 ∧ ∃ hit : Bool, (0 < m → hit = true) ∧ ∃ env, At [(0, 0)] w0 env (fr 172 nWk (vWk q n bf y.got i hit (bf + (m : Int)))) (sWb q l c x y y.buf) a W
abbrev RD (w0 : From) (q : InW) (n : Nat) (e0 : Int) (i : Nat) (l : List Int) (c : Int) (x : Wr) (y : Rd) (bf : Int) (m : Nat) : Exit → Act → World → Prop :=
  Exit.then (fun a' w' => ∃ k, InvD w0 q n i l c x y bf k a' w' ∧ (x.ver + 1 - bf).toNat - k < (x.ver + 1 - bf).toNat - m) (Exit.inBlock 2 (Exit.then (dend3.wp Tryd.prog (BW w0 q n e0 i)) (BW w0 q n e0 i)))
abbrev BD (w0 : From) (q : InW) (n : Nat) (e0 : Int) (i : Nat) (l : List Int) (c : Int) (x : Wr) (y : Rd) (bf : Int) (m : Nat) : Exit → Act → World → Prop :=
  Exit.inBlock 3 (Exit.then (dinc3.wp Tryd.prog (RD w0 q n e0 i l c x y bf m)) (RD w0 q n e0 i l c x y bf m))
set_option maxHeartbeats 4000000 in
theorem eround_ok {w0 : From} {q : InW} {n : Nat} {e0 : Int} {i : Nat} (hi : i < 300) {l : List Int} {c : Int} {x : Wr} {y : Rd} {bf : Int} (h : Hit q n e0 i l c x y bf) {m0 : Nat} (hm0 : bf + (m0 : Int) ≤ x.ver) {hit : Bool} (hh0 : 0 < m0 → hit = true) {j : Nat} {a : Act} {W : World} (hI : InvE w0 q n i l c x y bf hit (bf + (m0 : Int)) j a W) :
    eround3.wp Tryd.prog (Exit.then (fun a' w' => ∃ k, InvE w0 q n i l c x y bf hit (bf + (m0 : Int)) k a' w' ∧ n - k < n - j) (Exit.inBlock 4 (Exit.then (eend3.wp Tryd.prog (BD w0 q n e0 i l c x y bf m0)) (BD w0 q n e0 i l c x y bf m0)))) a W := by
  obtain ⟨hj, m, hm, env, hA⟩ := hI
  have hvs := h.lw.vs
  have hn := hvs.n
  have hlen := hvs.len
  have hb := h.b
  have hver := h.lw.wi.ok.v
  have hhl := hdL_len q.xss
  refine wpS (by kernel_rfl) ?_
  refine pieceT0 (c := cfgM) cfgM_ok nWj e_tm hA ?_
  refine all_brp (by simp only [decide_eq_true_eq]; exact Iff.rfl) (fun h1 => all_ret fun env1 a1 w1 hA1 => ?_) (fun h1 => all_ret fun env1 a1 w1 hA1 => ?_)
  · simp only [Ex.to, Exit.then]
    refine (show (rgt eround3).wp _ _ _ _ from wpS (by kernel_rfl) (wpB 5 (by kernel_rfl) ?_))
    refine (show ebb3.wp _ _ _ _ from ?_)
    have ht := @e_bb q (hdL q.xss) (hdL q.xss) l y.buf c x y n i j bf (bf + (m0 : Int)) y.got hit m
    have hkl : (bf + (m0 : Int) - 1).toNat < q.xss.length := by omega
    have hget := hdL_get hkl
    rw [Int.toNat_natCast, hget] at ht
    have hrow := hvs.row _ hkl
    have fin : ∀ {m' : Bool} {env : Env} {a : Act} {W : World}, (bf + (m0 : Int) = bf → m' = true) → At [(0, 0)] w0 env (fr 172 nWj (vWj q n bf y.got i hit (bf + (m0 : Int)) m' j)) (sWb q l c x y y.buf) a W →
        Exit.inBlock 5 (Exit.then (einc3.wp Tryd.prog (Exit.then (fun a' w' => ∃ k, InvE w0 q n i l c x y bf hit (bf + (m0 : Int)) k a' w' ∧ n - k < n - j) (Exit.inBlock 4 (Exit.then (eend3.wp Tryd.prog (BD w0 q n e0 i l c x y bf m0)) (BD w0 q n e0 i l c x y bf m0))))) (Exit.then (fun a' w' => ∃ k, InvE w0 q n i l c x y bf hit (bf + (m0 : Int)) k a' w' ∧ n - k < n - j) (Exit.inBlock 4 (Exit.then (eend3.wp Tryd.prog (BD w0 q n e0 i l c x y bf m0)) (BD w0 q n e0 i l c x y bf m0))))) .normal a W := by
      intro m' env a W hm' hA
      simp only [Exit.inBlock, Exit.then]
      refine pieceT0 (c := cfgM) cfgM_ok nWj e_inc hA ?_
      refine all_needp (by simp only [inR_i64]; exact Iff.rfl) (by omega) fun _ => all_ret fun env4 a4 w4 hA4 => ?_
      exact ⟨j + 1, ⟨by omega, m', hm', env4, hA4⟩, by omega⟩
    refine pieceT0 (c := cfgM) cfgM_ok nWj ht hA1 ?_
    refine all_br (fun hmt => ?_) (fun hmf => all_ret fun env2 a2 w2 hA2 => ?_)
    · refine all_needq (by simp only [decide_eq_true_eq, Bool.and_eq_true]; exact Iff.rfl) (by omega) ?_
      refine all_needq (by simp only [decide_eq_true_eq]; exact Iff.rfl) (by omega) ?_
      refine all_brp (by exact beq_iff_eq) (fun h2 => ?_) (fun h2 => ?_)
      · refine all_eq rfl (all_eq rfl (all_ret fun env2 a2 w2 hA2 => ?_))
        refine fin (fun hk => ?_) hA2
        rw [beq_iff_eq, h.eq j (by omega), show bf.toNat = 0 by omega]
        rfl
      · refine all_needq (by simp only [inR_i64]; exact Iff.rfl) (by omega) ?_
        refine all_needq (by simp only [decide_eq_true_eq, Bool.and_eq_true]; exact Iff.rfl) (by omega) ?_
        refine all_needq (by simp only [decide_eq_true_eq]; exact Iff.rfl) (by omega) ?_
        refine all_needq (by simp only [decide_eq_true_eq, Bool.and_eq_true]; exact Iff.rfl) (by omega) ?_
        refine all_needq (by simp only [decide_eq_true_eq, Bool.and_eq_true]; exact Iff.rfl) (by omega) ?_
        refine all_eq rfl (all_eq rfl (all_ret fun env2 a2 w2 hA2 => ?_))
        refine fin (fun hk => ?_) hA2
        rw [beq_iff_eq, h.eq j (by omega)]
        have e1 : bf.toNat = (bf + (m0 : Int) - 1).toNat + 1 := by omega
        rw [e1]; rfl
    · have hA3 := hA2.gvals (vWj q n bf y.got i hit (bf + (m0 : Int)) false j) rfl
      exact fin (fun hk => by rw [hm hk] at hmf; cases hmf) hA3
  · simp only [Ex.to, Exit.then, Exit.inBlock, if_true]
    have fin : ∀ {hit' : Bool} {env : Env} {a : Act} {W : World}, (0 < m0 + 1 → hit' = true) → At [(0, 0)] w0 env (fr 172 nWk (vWk q n bf y.got i hit' (bf + (m0 : Int)))) (sWb q l c x y y.buf) a W → BD w0 q n e0 i l c x y bf m0 .normal a W := by
      intro hit' env a W hh hA
      simp only [BD, Exit.inBlock, Exit.then]
      refine pieceT0 (c := cfgM) cfgM_ok nWk r_inc hA ?_
      refine all_needp (by simp only [inR_i64]; exact Iff.rfl) (by omega) fun _ => all_ret fun env4 a4 w4 hA4 => ?_
      refine ⟨m0 + 1, ⟨by omega, hit', hh, env4, ?_⟩, by omega⟩
      rw [show bf + ((m0 + 1 : Nat) : Int) = bf + (m0 : Int) + 1 by omega]
      exact hA4
    refine pieceT0 (c := cfgM) cfgM_ok nWk e_end hA1 ?_
    refine all_br (fun hht => all_ret fun env2 a2 w2 hA2 => ?_) (fun hhf => all_ret fun env2 a2 w2 hA2 => ?_)
    · have hA3 := hA2.gvals (vWk q n bf y.got i true (bf + (m0 : Int))) rfl
      exact fin (fun _ => rfl) hA3
    · have hz : m0 = 0 := by
        rcases Nat.eq_zero_or_pos m0 with h | h
        · exact h
        · rw [hh0 h] at hhf; cases hhf
      exact fin (fun _ => hm (by omega)) hA2
set_option maxHeartbeats 4000000 in
theorem dround_ok {w0 : From} {q : InW} {n : Nat} {e0 : Int} {i : Nat} (hi : i < 300) {l : List Int} {c : Int} {x : Wr} {y : Rd} {bf : Int} (h : Hit q n e0 i l c x y bf) {m0 : Nat} {a : Act} {W : World} (hI : InvD w0 q n i l c x y bf m0 a W) :
    dround3.wp Tryd.prog (RD w0 q n e0 i l c x y bf m0) a W := by
  obtain ⟨hm0, hit, hh0, env, hA⟩ := hI
  have hb := h.b
  refine wpS (by kernel_rfl) ?_
  refine pieceT0 (c := cfgM) cfgM_ok nWk r_tm hA ?_
  have out : 0 < m0 → ∀ {env : Env} {a : Act} {W : World}, At [(0, 0)] w0 env (fr 172 nWk (vWk q n bf y.got i hit (bf + (m0 : Int)))) (sWb q l c x y y.buf) a W → RD w0 q n e0 i l c x y bf m0 (.exit 2) a W := by
    intro hpos env a W hA
    simp only [RD, Exit.then, Exit.inBlock, if_true]
    refine pieceT0 (c := cfgM) cfgM_ok nWi r_end hA ?_
    have hht := hh0 hpos
    subst hht
    refine all_br (fun hh => by cases hh) (fun _ => all_ret fun env2 a2 w2 hA2 => ?_)
    exact bw_norm (nextW hi h.lw hA2)
  refine all_brp (by simp only [decide_eq_true_eq]; exact Iff.rfl) (fun h1 => ?_) (fun h1 => all_ret fun env1 a1 w1 hA1 => ?_)
  · refine all_brt (p := True) (by simp) trivial ?_
    refine all_ret fun env1 a1 w1 hA1 => ?_
    simp only [Ex.to, Exit.then]
    refine (show (rgt dround3).wp _ _ _ _ from wpS (by kernel_rfl) (wpB 3 (by kernel_rfl) ?_))
    refine (show dbb3.wp Tryd.prog (BD w0 q n e0 i l c x y bf m0) a1 w1 from ?_)
    refine pieceNT0 (c := cfgM) cfgM_ok 1 nWm r_m hA1 (all_ret fun env2 a2 w2 hA2 => ?_)
    simp only [Ex.to, Exit.then]
    have hA3 := hA2.gvals (vWm q n bf y.got i hit (bf + (m0 : Int)) true) rfl
    refine (show e3.wp Tryd.prog (BD w0 q n e0 i l c x y bf m0) a2 w2 from wpS (by kernel_rfl) (wpS (by kernel_rfl) ?_))
    refine (show ereg3.wp _ _ _ _ from ?_)
    refine pieceT0 (c := cfgM) cfgM_ok nWj e_reg hA3 (all_ret fun env4 a4 w4 hA4 => ?_)
    simp only [Ex.to, Exit.then]
    have hA5 := hA4.gvals (vWj q n bf y.got i hit (bf + (m0 : Int)) true 0) rfl
    refine (show eblk3.wp _ _ _ _ from wpB 4 (by kernel_rfl) (wpL (by kernel_rfl) (InvE w0 q n i l c x y bf hit (bf + (m0 : Int))) (fun j => n - j) 0 ⟨Nat.zero_le _, true, fun _ => rfl, env4, hA5⟩ ?_))
    intro j a w hj
    exact eround_ok hi h h1 hh0 hj
  · exact out (by omega) hA1
/-- the buffer of a reader, written out -/
abbrev l32 (l : List Int) : List Int := [l.getD 0 0, l.getD 1 0, l.getD 2 0, l.getD 3 0, l.getD 4 0, l.getD 5 0, l.getD 6 0, l.getD 7 0, l.getD 8 0, l.getD 9 0, l.getD 10 0, l.getD 11 0, l.getD 12 0, l.getD 13 0, l.getD 14 0, l.getD 15 0, l.getD 16 0, l.getD 17 0, l.getD 18 0, l.getD 19 0, l.getD 20 0, l.getD 21 0, l.getD 22 0, l.getD 23 0, l.getD 24 0, l.getD 25 0, l.getD 26 0, l.getD 27 0, l.getD 28 0, l.getD 29 0, l.getD 30 0, l.getD 31 0]
theorem l32_eq {l : List Int} (h : l.length = 32) : l32 l = l := by
  refine List.ext_getElem (by rw [h]; rfl) fun i h1 h2 => ?_
  have hi : i < 32 := by omega
  have e : ∀ k, l.getD k 0 = (l32 l).getD k 0 ∨ 32 ≤ k := by
    intro k
    match k with
    | 0 | 1 | 2 | 3 | 4 | 5 | 6 | 7 | 8 | 9 | 10 | 11 | 12 | 13 | 14 | 15 | 16 | 17 | 18 | 19 | 20 | 21 | 22 | 23 | 24 | 25 | 26 | 27 | 28 | 29 | 30 | 31 => exact .inl rfl
    | k + 32 => exact .inr (by omega)
  rcases e i with e | e
  · rw [List.getD_eq_getElem?_getD, List.getD_eq_getElem?_getD, List.getElem?_eq_getElem h1, List.getElem?_eq_getElem h2] at e
    simpa using e.symm
  · omega
set_option maxHeartbeats 4000000 in
/-- a reader's act -/
theorem rd_ok3 {w0 : From} {q : InW} {n : Nat} {e0 : Int} {i : Nat} (hi : i < 300) {l : List Int} {c : Int} {x : Wr} {y : Rd} {bf : Int} (h : LW q n e0 i l c x y bf) (hg : y.got = false) {gp : Bool} {env : Env} {a : Act} {W : World} (hA : At [(0, 0)] w0 env (fr 172 nWt (vWt q n bf gp i y.tries)) (sWs q l c x y) a W) :
    (restC 3 bb3).wp Tryd.prog (BW w0 q n e0 i) a W := by
  have hd := r_done h.vs (Nat.zero_le _) h.wi h.rk h.ri hg
  have hcc := h.cc
  have htt := h.tt
  refine pieceNT0 (c := cfgSt q (hdL q.xss) (hdL q.xss) l c x y (wNext 60 q.xss x l c).l (wNext 60 q.xss x l c).c (wNext 60 q.xss x l c).x (wNext 60 q.xss x l c).b (rNext 60 y l c).c (rNext 60 y l c).y (rNext 60 y l c).y.got (WOk 60 q.xss l c x) (ROk 60 l c y)) (cfgSt_ok hd.b.symm) 1 nWt q_c hA ?_
  refine all_eq ⟨rfl, rfl, h.rk⟩ (all_ret fun env1 a1 w1 hA1 => ?_)
  simp only [Ex.to, Exit.then]
  have hk2 := rNext_ok h.rk (by rw [hd.cc]; omega) (by have := hd.t; omega)
  obtain ⟨u1, u2, u3, u4, u5⟩ := hd
  generalize (rNext 60 y l c).y = y2 at *
  generalize (rNext 60 y l c).c = c2 at *
  have main : ∀ {bf' : Int}, bf' = (if y.tries < y2.tries then x.ver else bf) → (LW q n e0 (i + 1) l c2 x y2 bf' ∧ (y2.got = true → Hit q n e0 i l c2 x y2 bf')) := by
    intro bf' hb
    subst hb
    have hwi : WI 0 q.xss n e0 l c2 x := by
      obtain ⟨⟨g1, g2, g3, g4, g5, g6, g7, g8, g9, g10⟩, g11, g12, g13, g14⟩ := h.wi
      exact ⟨⟨g1, g2, g3, g4, by omega, g6, g7, g8, g9, g10⟩, g11, g12, g13, g14⟩
    have hlw : LW q n e0 (i + 1) l c2 x y2 (if y.tries < y2.tries then x.ver else bf) := ⟨h.vs, hwi, hk2, u4, by omega, by omega⟩
    exact ⟨hlw, fun hgt => ⟨hlw, (u5 hgt).1, (u5 hgt).2⟩⟩
  refine (show (restC 4 bb3).wp Tryd.prog (BW w0 q n e0 i) a1 w1 from ?_)
  have fin0 : ∀ {bf' : Int} {s1 s2 : SVal}, LW q n e0 (i + 1) l c2 x y2 bf' → ∀ {env : Env} {a : Act} {W : World}, At [(0, 0)] w0 env (fr 172 nWl (vWi q n bf' y2.got i ++ [s1, s2])) (sWs q l c2 x y2) a W → BW w0 q n e0 i (.exit 1) a W := by
    intro bf' s1 s2 hl env a W hA
    exact bw_exit (nextW hi hl (At.few (names := nWi) (extra := [18, 20]) (vals := vWi q n bf' y2.got i) (ev := [s1, s2]) hA rfl))
  have fin1 : ∀ {bf' : Int}, Hit q n e0 i l c2 x y2 bf' → ∀ {env : Env} {a : Act} {W : World}, At [(0, 0)] w0 env (fr 172 nWl (vWi q n bf' y2.got i ++ [.sli 10 (.c 0) 1 (.v y2.n.toNat) (some (.v y2.n.toNat)), .bl false])) (sWs q l c2 x y2 ++ [.own ((l32 y2.buf).map fun v => .c (.int .u32 v)) 71]) a W → (restC 9 bb3).wp Tryd.prog (BW w0 q n e0 i) a W := by
    intro bf' hh env a W hA
    have hyn := hh.lw.ri.yn
    have e1 : y2.n.toNat = n := by omega
    rw [e1] at hA
    have hA1 := hA.segs 10 (l' := [.a (encInt .u32) 32 (l32 y2.buf)]) rfl (by intro s hs; rw [List.mem_singleton.1 hs]; rfl) (fun cs h => denL_gen2 (by kernel_rfl) h)
    have hA2 : At [(0, 0)] w0 env (fr 172 nWl (vWl q n bf' y2.got i false)) (sWb q l c2 x y2 (l32 y2.buf)) a W := hA1.gvals (vWl q n bf' y2.got i false) rfl
    rw [l32_eq hk2.bl] at hA2
    refine (show d3.wp Tryd.prog (BW w0 q n e0 i) a W from wpS (by kernel_rfl) (wpS (by kernel_rfl) ?_))
    refine (show dreg3.wp _ _ _ _ from ?_)
    refine pieceT0 (c := cfgM) cfgM_ok nWk r_reg hA2 (all_ret fun env4 a4 w4 hA4 => ?_)
    simp only [Ex.to, Exit.then]
    have hA5 : At [(0, 0)] w0 env4 (fr 172 nWk (vWk q n bf' y2.got i false (bf' + ((0 : Nat) : Int)))) (sWb q l c2 x y2 y2.buf) a4 w4 := by
      rw [show bf' + ((0 : Nat) : Int) = bf' by omega]; exact hA4
    refine (show dblk3.wp _ _ _ _ from wpB 2 (by kernel_rfl) (wpL (by kernel_rfl) (InvD w0 q n i l c2 x y2 bf') (fun m => (x.ver + 1 - bf').toNat - m) 0 ⟨by have := hh.b; omega, false, fun h => absurd h (Nat.lt_irrefl 0), env4, hA5⟩ ?_))
    intro m a w hm
    exact dround_ok hi hh hm
  refine pieceNT0 (c := cfgM) cfgM_ok 5 nWl q_d hA1 ?_
  have hyn2 := hk2.n
  refine all_brp (by simp only [decide_eq_true_eq]; exact Iff.rfl) (fun ht => ?_) (fun ht => ?_)
  · obtain ⟨hl, hh⟩ := main (bf' := x.ver) (by rw [if_pos ht])
    refine all_br (fun hn => ?_) (fun hn => ?_)
    · have hgf : y2.got = false := by simpa using hn
      refine all_br (fun hx => by exfalso; have hx : (!(false == y2.got)) = true := hx; rw [hgf] at hx; cases hx) (fun _ => all_ret fun env2 a2 w2 hA2 => ?_)
      exact fin0 hl hA2
    · have hgt : y2.got = true := by simpa using hn
      refine all_needq (by simp only [decide_eq_true_eq, Bool.and_eq_true]; exact Iff.rfl) (by omega) ?_
      refine all_needq (by simp only [decide_eq_true_eq, Bool.and_eq_true]; exact Iff.rfl) (by omega) ?_
      refine all_need (decide_eq_true (Nat.zero_le _)) fun _ => ?_
      refine all_br (fun hx => by exfalso; have hx : (!(true == y2.got)) = true := hx; rw [hgt] at hx; cases hx) (fun _ => all_ret fun env2 a2 w2 hA2 => ?_)
      simp only [Ex.to, Exit.then]
      exact fin1 (hh hgt) hA2
  · obtain ⟨hl, hh⟩ := main (bf' := bf) (by rw [if_neg ht])
    refine all_br (fun hn => ?_) (fun hn => ?_)
    · have hgf : y2.got = false := by simpa using hn
      refine all_br (fun hx => by exfalso; have hx : (!(false == y2.got)) = true := hx; rw [hgf] at hx; cases hx) (fun _ => all_ret fun env2 a2 w2 hA2 => ?_)
      exact fin0 hl hA2
    · have hgt : y2.got = true := by simpa using hn
      refine all_needq (by simp only [decide_eq_true_eq, Bool.and_eq_true]; exact Iff.rfl) (by omega) ?_
      refine all_needq (by simp only [decide_eq_true_eq, Bool.and_eq_true]; exact Iff.rfl) (by omega) ?_
      refine all_need (decide_eq_true (Nat.zero_le _)) fun _ => ?_
      refine all_br (fun hx => by exfalso; have hx : (!(true == y2.got)) = true := hx; rw [hgt] at hx; cases hx) (fun _ => all_ret fun env2 a2 w2 hA2 => ?_)
      simp only [Ex.to, Exit.then]
      exact fin1 (hh hgt) hA2
end Go.Proofs.YtmknmbacecjfmaaDoor

/- SeqlockWhole: its call. -/
namespace Go.Proofs.YtmknmbacecjfmaaDoor
open Go Go.Proofs.YtmknmbacecjfmaaDoor.Sx
set_option linter.unusedVariables false
abbrev z32 : List Int := List.replicate 32 0
abbrev rd0 (a : Int) (n : Nat) : Rd := ⟨a, n, 0, 0, 0, z32, false, 0⟩
abbrev rdC (a : SVal) (n : SVal) : List SVal := [a, n, .lit .i64 0, .lit .i64 0, .lit .u32 0] ++ List.replicate 32 (.lit .u32 0) ++ [.bl false, .lit .i64 0]
theorem rd0_ok {n : Nat} {l : List Int} {c a : Int} (hn : 1 ≤ n ∧ n ≤ 32) (ha : 0 ≤ a ∧ a ≤ 20) (hl : l.length = 60) (hc : 0 ≤ c ∧ c ≤ 1000000) : ROk 60 l c (rd0 a n) :=
  ⟨⟨by omega, hl⟩, hc, by simp only; omega, by simp only; omega, by simp only; omega, fun h => by simp only at h; omega, by simp, by simp only; omega⟩
set_option maxRecDepth 100000 in
set_option maxHeartbeats 4000000 in
theorem round3_ok {w0 : From} {q : InW} {n : Nat} {e0 : Int} {i : Nat} {a : Act} {W : World} (hI : InvW w0 q n e0 i a W) : round3.wp Tryd.prog (RW w0 q n e0 i) a W := by
  obtain ⟨hi, l, c, x, y, bf, h, env, hA⟩ := hI
  have hn := h.vs.n
  have hcc := h.cc
  have htt := h.tt
  refine wpS (by kernel_rfl) ?_
  refine pieceT0 (c := cfgM) cfgM_ok nWi p_tm hA ?_
  have out : ∀ {env : Env} {a : Act} {W : World}, At [(0, 0)] w0 env (fr 172 nWi (vWi q n bf y.got i)) (sWs q l c x y) a W → RW w0 q n e0 i (.exit 0) a W := by
    intro env a W hA
    simp only [RW, Exit.then, Exit.inBlock, if_true]
    refine pieceT0 (c := cfgM) cfgM_ok [6] p_end hA ?_
    exact all_ret fun _ _ _ h => h.said (by kernel_rfl)
  refine all_brp (by simp only [decide_eq_true_eq]; exact Iff.rfl) (fun h1 => ?_) (fun h1 => all_ret fun _ _ _ h => out h)
  refine all_brp (by simp only [decide_eq_true_eq]; exact Iff.rfl) (fun h2 => all_ret fun env1 a1 w1 hA1 => ?_) (fun h2 => all_ret fun _ _ _ h => out h)
  simp only [Ex.to, Exit.then]
  refine (show (rgt round3).wp _ _ _ _ from wpS (by kernel_rfl) (wpB 1 (by kernel_rfl) ?_))
  refine (show bb3.wp Tryd.prog (BW w0 q n e0 i) a1 w1 from ?_)
  refine pieceNT0 (c := cfgSt q (hdL q.xss) (hdL q.xss) l c x y (wNext 60 q.xss x l c).l (wNext 60 q.xss x l c).c (wNext 60 q.xss x l c).x (wNext 60 q.xss x l c).b (rNext 60 y l c).c (rNext 60 y l c).y (rNext 60 y l c).b (WOk 60 q.xss l c x) (ROk 60 l c y)) (cfgSt_ok rfl) 1 nWi q_a hA1 ?_
  simp only [Int.toNat_natCast]
  refine all_needq (by simp only [decide_eq_true_eq, Bool.and_eq_true]; exact Iff.rfl) (by omega) ?_
  refine all_needq (by simp only [decide_eq_true_eq]; exact Iff.rfl) (by omega) ?_
  refine all_br (fun _ => ?_) (fun _ => all_ret fun env2 a2 w2 hA2 => ?_)
  · refine all_eq ⟨by first | exact True.intro | rfl, by first | exact True.intro | rfl, h.wi.ok⟩ (all_ret fun env2 a2 w2 hA2 => ?_)
    obtain ⟨g1, g2, g3, g4⟩ := wNext_ver h.wi (Nat.zero_le _)
    have hwi := wi_step h.vs (Nat.zero_le _) h.wi (by omega)
    have hri := ri_w h.wi (Nat.zero_le _) h.ri
    have hrk := h.rk
    obtain ⟨k1, k2, k3, k4, k5, k6, k7, k8⟩ := hrk
    have hlw : LW q n e0 (i + 1) (wNext 60 q.xss x l c).l (wNext 60 q.xss x l c).c (wNext 60 q.xss x l c).x y bf := ⟨h.vs, hwi, ⟨hwi.ok.kl, by omega, k3, k4, k5, k6, k7, k8⟩, hri, by omega, by omega⟩
    exact bw_exit (nextW (by omega) hlw hA2)
  · simp only [Ex.to, Exit.then]
    refine (show (restC 1 bb3).wp Tryd.prog (BW w0 q n e0 i) a2 w2 from ?_)
    refine pieceNT0 (c := cfgM) cfgM_ok 2 nWt q_b hA2 ?_
    refine all_br (fun hg => ?_) (fun hg => all_ret fun env3 a3 w3 hA3 => ?_)
    · refine all_brt (by simp only [decide_eq_true_eq]; exact Iff.rfl) (by omega) ?_
      refine all_brf (p := ¬ (n : Int) ≤ 32) (by simp) (by omega) ?_
      refine all_ret fun env3 a3 w3 hA3 => ?_
      simp only [Ex.to, Exit.then]
      have hA4 := hA3.segs 9 (l' := [.c (.lit .i64 0), .c (.int .i64 (n : Int)), .c (.lit .i64 0), .c (.lit .i64 0), .c (.lit .u32 0), .a (encInt .u32) 32 z32, .c (.bl false), .c (.lit .i64 0)]) rfl (by
        intro s hs
        simp only [List.mem_cons, List.not_mem_nil, or_false] at hs
        rcases hs with rfl | rfl | rfl | rfl | rfl | rfl | rfl | rfl
        all_goals first | trivial | exact List.length_replicate) (fun cs h => denL_gen2 (by kernel_rfl) h)
      have hA5 := (hA4.gvals (vWt q n bf y.got i 0) rfl).gen (st' := sWs q l c x (rd0 0 n)) rfl
      have hlw : LW q n e0 i l c x (rd0 0 n) bf := ⟨h.vs, h.wi, rd0_ok hn (by omega) h.wi.ok.kl.2 (by omega), ⟨rfl, rfl, fun h => absurd rfl h⟩, h.cc, by simp only; omega⟩
      exact rd_ok3 (by omega) hlw rfl hA5
    · simp only [Ex.to, Exit.then]
      exact rd_ok3 (by omega) h hg hA3
theorem b3_eq : Tryd.f3.body = some b3 := by kernel_rfl
theorem aw_sm {c : Cfg} (hP : c.P = Tryd.prog) (hg : c.gl = [(0, 0)]) : ∀ (args : List SVal) (st : St) (s : SVal) (st' : St) (env : Env) (w : World) (vs : List Value), (smClosed [0] [lookB] (.bl true) args st).at (s, st') → GlOk c.gl env → Rep env st w → DenL env args vs → Calls c.P 10 ⟨vs⟩ w fun e w' => ∃ env' v, e = .returned v ∧ Ext env st w env' st' w' ∧ Rep env' st' w' ∧ Den env' s v := by
  rw [hP, hg]
  exact smClosedE_ok cfg0_ok awake_val ⟨rfl, rfl, trivial⟩ (by kernel_rfl) rfl rfl (by intro b hb e; rw [List.mem_singleton.1 hb]; rfl)
theorem cfgFw_ok {S rest : St} {xss : List (List Int)} {cp : Nat} (hS : S = inS xss (hdL xss) ++ rest) : SmOk (cfgFw S xss cp True (fewB xss)) := by
  intro F G h
  simp only [cfgFw] at h
  split at h
  · simp only [Option.some.injEq] at h; subst h
    exact aw_sm rfl rfl
  · simp only [Option.some.injEq] at h; subst h
    refine smEq_ok (c := cfgFw S xss cp True (fewB xss)) fun _ env w vs hg hr hd => ?_
    subst hS
    exact few_rest rest env w vs hg hr hd
  · cases h
theorem cfgNw_ok {k : Nat} {ac : List Int} {a : Int} {xss : List (List Int)} {cp : Nat} {l : List Int} {c : Int} {P : Prop} {v : SVal} {S' : St} (hP : P → ∀ (env : Env) (w : World) (vs : List Value), GlOk cfgM.gl env → Rep env (sI k ac xss (hdL xss) l c) w → DenL env [.int .i64 a, vsV xss cp] vs → Calls cfgM.P 9 ⟨vs⟩ w (Ends1 env (sI k ac xss (hdL xss) l c) w v S')) : SmOk (cfgNw k ac (.lit .i64 a) xss (hdL xss) cp l c P v S') := by
  intro F G h
  simp only [cfgNw] at h
  split at h
  · simp only [Option.some.injEq] at h; subst h
    refine smEq_ok (c := cfgNw k ac (.lit .i64 a) xss (hdL xss) cp l c P v S') fun hp env w vs hg hr hd => hP hp env w vs hg hr ?_
    exact denL_gen2 rfl hd
  · cases h
theorem andNot_even (x : Int) : bitop .andNot .u32 x 1 % 2 = 0 ∧ 0 ≤ bitop .andNot .u32 x 1 ∧ bitop .andNot .u32 x 1 < 4294967296 := by
  have h1 : (2 ^ IntKind.u32.bits - 1 - low .u32 1) = 4294967294 := by decide
  have h2 : (low .u32 x &&& 4294967294) % 2 = 0 := by
    rw [Nat.mod_two_eq_zero_iff_testBit_zero, Nat.testBit_and]
    simp
  simp only [bitop, h1, w32_mod]
  generalize low .u32 x &&& 4294967294 = m at *
  omega
theorem noFootW {e0 e1 e2 e3 : Slot} {q : InW} (x : Nat) (h : inFoot [e0, e1, e2, e3] (s0W q (hdL q.xss)) x) : False := by
  obtain ⟨i, e, b, _, h2, h3⟩ := h
  match i with
  | 0 => simp at h2; subst h2; simp [Blk.foot] at h3
  | 1 => simp at h2; subst h2; simp [Blk.foot] at h3
  | 2 => simp at h2; subst h2; simp [Blk.foot] at h3
  | 3 => simp at h2; subst h2; simp [Blk.foot] at h3
  | n + 4 => simp at h2
abbrev z60 : List Int := List.replicate 60 0
set_option maxRecDepth 100000 in
set_option maxHeartbeats 8000000 in
theorem whole_call {q : InW} (hsz : q.xss.length * 24 ≤ 140737488355328) (hus : ∀ i, U32s (q.xss.getD i [])) {e0 e1 e2 e3 : Slot} (he : e0.blk = 0 ∧ e0.off = 0) {w : World} {v0 v1 v2 : Value} (hr : Rep [e0, e1, e2, e3] (s0W q (hdL q.xss)) w) (h0 : Den [e0, e1, e2, e3] (.int .u32 q.first) v0) (h1 : Den [e0, e1, e2, e3] (vsV q.xss q.cp) v1) (h2 : Den [e0, e1, e2, e3] (acV q 3) v2) :
    Calls Tryd.prog 3 ⟨[v0, v1, v2]⟩ w (Said ⟨w, fun _ => False⟩) := by
  refine call_begin (c := cfgM) Tryd.func3 b3_eq (args := argW q) (by
    intro p hp
    rw [List.mem_singleton.1 hp]
    exact ⟨e0, rfl, he⟩) hr ⟨_, _, rfl, h0, _, _, rfl, h1, _, _, rfl, h2, rfl⟩ (F := fun _ => False) (fun x h => noFootW x h) ?_
  intro a hA
  have hhl := hdL_len q.xss
  refine pieceNT0 (c := cfgM) cfgM_ok 2 nA (p_a (hs := hdL q.xss)) hA (all_ret fun env1 a1 w1 hA1 => ?_)
  simp only [Ex.to, Exit.then]
  have hA2 := hA1.segs 5 (l' := [.a (encInt .u32) 60 z60]) rfl (by intro s hs; rw [List.mem_singleton.1 hs]; exact List.length_replicate) (fun cs h => denL_gen2 (by kernel_rfl) h)
  have hA3 := hA2.perm [0, 1, 2, 3, 5, 4] (by kernel_rfl) (by kernel_rfl) (st' := inS q.xss (hdL q.xss) ++ [.ro (encInt .u8) q.acts, .own [.a (encInt .u32) 60 z60] 22, .own [.c (.sli 4 (.c 0) 1 (.c 60) (some (.c 60))), .c (.lit .i64 0)] 68]) (vals' := vA q) (by kernel_rfl) (by kernel_rfl)
  have hA4 : At [(0, 0)] ⟨w, fun _ => False⟩ _ (fr 172 nA (vA q)) (sI 60 q.acts q.xss (hdL q.xss) z60 0) a1 w1 := hA3.gen rfl
  refine (show (restC 2 b3).wp Tryd.prog (Q3 ⟨w, fun _ => False⟩) a1 w1 from ?_)
  by_cases hok : okV q.xss
  · refine pieceNT0 (c := cfgNw 60 q.acts (.lit .i64 0) q.xss (hdL q.xss) q.cp z60 0 True (.tup [.ptr 8 0, .lit .i64 0]) (sM 60 q.acts q.xss (hdL q.xss) (hdL q.xss) z60 0 (wr0 0))) (cfgNw_ok fun _ env w vs hg hr hd => newL_ok hsz hok env w vs hg hr hd) 1 nB (p_b (a := 0)) hA4 ?_
    refine all_eq ⟨rfl, rfl, trivial⟩ (all_ret fun env5 a5 w5 hA5 => ?_)
    simp only [Ex.to, Exit.then]
    refine (show (restC 3 b3).wp Tryd.prog (Q3 ⟨w, fun _ => False⟩) a5 w5 from ?_)
    refine pieceNT0 (c := cfgFw (sM 60 q.acts q.xss (hdL q.xss) (hdL q.xss) z60 0 (wr0 0)) q.xss q.cp True (fewB q.xss)) (cfgFw_ok (rest := [.ro (encInt .u8) q.acts] ++ memS 60 z60 0 ++ wrS 6 (wr0 0) q.xss (hdL q.xss)) rfl) 1 (6 :: nC) p_c hA5 ?_
    refine all_eq rfl (all_eq ⟨rfl, rfl, trivial⟩ ?_)
    have sayT : ∀ {env : Env} {a : Act} {W : World} {vs : List SVal} {S : St}, At [(0, 0)] ⟨w, fun _ => False⟩ env (fr 172 ([6] ++ nC) ([.bl true] ++ vs)) S a W → Q3 ⟨w, fun _ => False⟩ .ret a W := by
      intro env a W vs S hA
      have hA1 : At [(0, 0)] ⟨w, fun _ => False⟩ env (fr 172 [6] [.bl true]) S a W := At.few (names := [6]) (extra := nC) (vals := [.bl true]) (ev := vs) hA rfl
      exact At.said (c := cfgM) hA1 (by kernel_rfl)
    refine all_brp (p := ¬ fewV q.xss) (by rw [← fewB_iff]; simp) (fun hn => all_eq rfl (all_ret fun env6 a6 w6 hA6 => sayT hA6)) (fun hf => ?_)
    have hf : fewV q.xss := Classical.not_not.1 hf
    refine all_brp (by exact beq_iff_eq) (fun hn => all_eq rfl (all_ret fun env6 a6 w6 hA6 => sayT hA6)) (fun hne => all_ret fun env6 a6 w6 hA6 => ?_)
    simp only [Ex.to, Exit.then]
    have hA7 : At [(0, 0)] ⟨w, fun _ => False⟩ env6 (fr 172 nC (vC q)) (sM 60 q.acts q.xss (hdL q.xss) (hdL q.xss) z60 0 (wr0 0)) a6 w6 := hA6.drop1 rfl
    have hlen : 1 ≤ q.xss.length := by omega
    have hlen2 := hf.1
    have hget := hdL_get (xss := q.xss) (i := 0) (by omega)
    have hn0 := (hok 0 (by omega)).1
    have hrow : ∀ i, i < q.xss.length → (q.xss.getD i []).length = (q.xss.getD 0 []).length := fun i hi => (hok i hi).2
    have ht := @p_d q (hdL q.xss) (hdL q.xss) z60 0 (wr0 0)
    rw [hget] at ht
    generalize hN : (q.xss.getD 0 []).length = n at *
    refine (show (restC 4 b3).wp Tryd.prog (Q3 ⟨w, fun _ => False⟩) a6 w6 from ?_)
    refine pieceNT0 (c := cfgM) cfgM_ok 3 nD ht hA7 ?_
    obtain ⟨ev1, ev2, ev3⟩ := andNot_even q.first
    have eW : (z60.set 0 (bitop BinOp.or IntKind.u32 (bitop BinOp.and IntKind.u32 (z60.getD 0 (0 : Int)) (0 : Int)) (bitop BinOp.andNot IntKind.u32 q.first (1 : Int)))).set 0 (IntKind.u32.wrap ((z60.set 0 (bitop BinOp.or IntKind.u32 (bitop BinOp.and IntKind.u32 (z60.getD 0 (0 : Int)) (0 : Int)) (bitop BinOp.andNot IntKind.u32 q.first (1 : Int)))).getD 0 (0 : Int) + (0 : Int))) = z60.set 0 (bitop BinOp.andNot IntKind.u32 q.first 1) := by
      rw [Sx.getD_set_self (by simp), List.set_set, raw_set, Int.emod_eq_of_lt ev2 ev3]
    rw [eW]
    generalize bitop BinOp.andNot IntKind.u32 q.first 1 = E at *
    refine all_needq (by simp only [decide_eq_true_eq]; exact Iff.rfl) (by omega) ?_
    refine all_needq (by simp only [decide_eq_true_eq]; exact Iff.rfl) (by omega) ?_
    refine all_brt (by simp only [decide_eq_true_eq]; exact Iff.rfl) (by omega) ?_
    refine all_brf (p := ¬ (n : Int) ≤ 32) (by simp) (by omega) ?_
    refine all_br (fun hh => by cases hh) (fun _ => ?_)
    refine all_needq (by simp only [inR_i64]; exact Iff.rfl) (by omega) ?_
    repeat' (first
      | refine all_need rfl (fun _ => ?_)
      | refine all_eq trivial ?_
      | refine all_eq rfl ?_)
    refine all_ret fun env8 a8 w8 hA8 => ?_
    simp only [Ex.to, Exit.then]
    have hA9 := hA8.segs 9 (l' := [.c (.lit .i64 0), .c (.int .i64 (n : Int)), .c (.lit .i64 0), .c (.lit .i64 0), .c (.lit .u32 0), .a (encInt .u32) 32 z32, .c (.bl false), .c (.lit .i64 0)]) rfl (by
      intro s hs
      simp only [List.mem_cons, List.not_mem_nil, or_false] at hs
      rcases hs with rfl | rfl | rfl | rfl | rfl | rfl | rfl | rfl
      all_goals first | trivial | exact List.length_replicate) (fun cs h => denL_gen2 (by kernel_rfl) h)
    have hA10 : At [(0, 0)] ⟨w, fun _ => False⟩ env8 (fr 172 nD (vD q n)) (sWs q (z60.set 0 E) 1 (wr0 0) (rd0 0 n)) a8 w8 := hA9.gen rfl
    refine (show (restC 7 b3).wp Tryd.prog (Q3 ⟨w, fun _ => False⟩) a8 w8 from ?_)
    refine pieceNT0 (c := cfgM) cfgM_ok 2 nW p_e hA10 (all_ret fun env11 a11 w11 hA11 => ?_)
    simp only [Ex.to, Exit.then]
    have hA12 := hA11.gvals (vW q n 0 false) rfl
    refine (show c3.wp Tryd.prog (Q3 ⟨w, fun _ => False⟩) a11 w11 from wpS (by kernel_rfl) (wpS (by kernel_rfl) ?_))
    refine (show reg3.wp _ _ _ _ from ?_)
    refine pieceT0 (c := cfgM) cfgM_ok nWi p_reg hA12 (all_ret fun env13 a13 w13 hA13 => ?_)
    simp only [Ex.to, Exit.then]
    have hA14 := hA13.gvals (vWi q n 0 false 0) rfl
    have hvs : Vs q.xss n E := ⟨⟨hlen, hlen2⟩, hrow, by omega, ev1⟩
    have hz : ∀ j : Nat, (z60.set 0 E).getD (0 + 1 + j) 0 = 0 := by
      intro j
      rw [Sx.getD_set_ne (by omega), List.getD_eq_getElem?_getD, List.getElem?_replicate]
      split <;> rfl
    have hwi : WI 0 q.xss n E (z60.set 0 E) 1 (wr0 0) := ⟨⟨⟨by omega, by simp⟩, hok, hus, by omega, by omega, by simp only; omega, by simp only; omega, by simp only; omega, fun h => by simp only at h; omega, fun h => by simp only at h; omega⟩, rfl, by
      rw [Sx.getD_set_self (by simp)]
      simp only [if_true]
      omega, fun _ j _ => by rw [hz j]; rfl, fun h => absurd rfl h⟩
    have hlw : LW q n E 0 (z60.set 0 E) 1 (wr0 0) (rd0 0 n) 0 := ⟨hvs, hwi, rd0_ok (by omega) (by omega) (by simp) (by omega), ⟨rfl, rfl, fun h => absurd rfl h⟩, by omega, by simp only; omega⟩
    refine (show blk3.wp _ _ _ _ from wpB 0 (by kernel_rfl) (wpL (by kernel_rfl) (InvW ⟨w, fun _ => False⟩ q n E) (fun i => 300 - i) 0 ⟨Nat.zero_le _, _, _, _, _, _, hlw, env13, hA14⟩ ?_))
    intro i a w h
    exact round3_ok h
  · refine pieceNT0 (c := cfgNw 60 q.acts (.lit .i64 0) q.xss (hdL q.xss) q.cp z60 0 True (.tup [.pnil, .lit .i64 100]) (sI 60 q.acts q.xss (hdL q.xss) z60 0)) (cfgNw_ok fun _ env w vs hg hr hd => newL_no hsz hok env w vs hg hr hd) 1 nB p_bn hA4 ?_
    refine all_eq ⟨rfl, rfl, trivial⟩ (all_ret fun env5 a5 w5 hA5 => ?_)
    simp only [Ex.to, Exit.then]
    refine (show (restC 3 b3).wp Tryd.prog (Q3 ⟨w, fun _ => False⟩) a5 w5 from ?_)
    refine pieceNT0 (c := cfgFw (sI 60 q.acts q.xss (hdL q.xss) z60 0) q.xss q.cp True (fewB q.xss)) (cfgFw_ok (rest := [.ro (encInt .u8) q.acts] ++ memS 60 z60 0) rfl) 1 [6] p_cn hA5 ?_
    repeat' (first
      | refine all_eq ⟨rfl, rfl, trivial⟩ ?_
      | refine all_eq rfl ?_
      | refine all_br (fun _ => ?_) (fun _ => ?_)
      | exact all_ret fun _ _ _ h => h.said (by kernel_rfl))
end Go.Proofs.YtmknmbacecjfmaaDoor

/- SeqlockTries: pieces and states. -/
namespace Go.Proofs.YtmknmbacecjfmaaDoor
open Go Go.Proofs.YtmknmbacecjfmaaDoor.Sx
set_option linter.unusedVariables false
noncomputable def b6 : Code := Tryd.f6.body.getD .skip
noncomputable def c6 : Code := restC 7 b6
noncomputable def reg6 : Code := lft (lft c6)
noncomputable def blk6 : Code := rgt (lft c6)
noncomputable def round6 : Code := lft (lft blk6)
noncomputable def tm6 : Code := lft round6
noncomputable def bb6 : Code := lft (lft (rgt round6))
noncomputable def inc6 : Code := rgt (rgt round6)
noncomputable def end6 : Code := rgt c6
abbrev mA : List Nat := [0, 1, 2, 7, 8]
abbrev mB : List Nat := [0, 1, 2, 7, 8, 9, 10]
abbrev mC : List Nat := [0, 1, 2, 7, 9]
abbrev mD : List Nat := [1, 2, 7, 9, 11]
abbrev uD (q : InW) : List SVal := [vsV q.xss q.cp, acV q 3, .ptr 5 0, .ptr 8 0, .ptr 9 0]
abbrev mW : List Nat := [1, 2, 7, 9, 11, 13, 14]
abbrev uW (q : InW) (d t : Int) : List SVal := uD q ++ [.int .i64 d, .int .i64 t]
abbrev mWi : List Nat := [1, 2, 7, 9, 11, 13, 14, 15]
abbrev uWi (q : InW) (d t : Int) (i : Nat) : List SVal := uW q d t ++ [.int .i64 (i : Nat)]
abbrev mWb : List Nat := [1, 2, 7, 9, 11, 13, 14, 15, 16]
abbrev uWb (q : InW) (d t : Int) (i : Nat) (b : Bool) : List SVal := uWi q d t i ++ [.sb b]
end Go.Proofs.YtmknmbacecjfmaaDoor

namespace Go.Proofs.YtmknmbacecjfmaaDoor
open Go Go.Proofs.YtmknmbacecjfmaaDoor.Sx
set_option linter.unusedVariables false
set_option maxRecDepth 100000 in
theorem t_a {q : InW} {hs : List (Nat × Nat)} : (execN cfgM 100 2 b6 (argW q ++ List.replicate 134 .bad) (s0W q hs)).bind (canonK 4 [(0,0)] 137 mA) =
 

 (.ret (.normal, [.int .u32 q.1, .sli 1 (.c 0) 1 (.v q.2.length) (some (.v q.3)), .sli 3 (.c 0) 1 (.v q.4.length) (some (.v q.5)), .ptr 4 0, .lit .i64 (0 : Int)], [.ro encLook [PUnit.unit], .ro (encHd 2) hs, Blk.rows false IntKind.u32 q.2, .ro (encInt IntKind.u8) q.4, .own [.c (.sli 5 (.c 0) 1 (.c 60) (some (.c 60))), .c (.lit .i64 (0 : Int))] 68, .own [.c (.lit .u32 (0 : Int)), .c (.lit .u32 (0 : Int)), .c (.lit .u32 (0 : Int)), .c (.lit .u32 (0 : Int)), .c (.lit .u32 (0 : Int)), .c (.lit .u32 (0 : Int)), .c (.lit .u32 (0 : Int)), .c (.lit .u32 (0 : Int)), .c (.lit .u32 (0 : Int)), .c (.lit .u32 (0 : Int)), .c (.lit .u32 (0 : Int)), .c (.lit .u32 (0 : Int)), .c (.lit .u32 (0 : Int)), .c (.lit .u32 (0 : Int)), .c (.lit .u32 (0 : Int)), .c (.lit .u32 (0 : Int)), .c (.lit .u32 (0 : Int)), .c (.lit .u32 (0 : Int)), .c (.lit .u32 (0 : Int)), .c (.lit .u32 (0 : Int)), .c (.lit .u32 (0 : Int)), .c (.lit .u32 (0 : Int)), .c (.lit .u32 (0 : Int)), .c (.lit .u32 (0 : Int)), .c (.lit .u32 (0 : Int)), .c (.lit .u32 (0 : Int)), .c (.lit .u32 (0 : Int)), .c (.lit .u32 (0 : Int)), .c (.lit .u32 (0 : Int)), .c (.lit .u32 (0 : Int)), .c (.lit .u32 (0 : Int)), .c (.lit .u32 (0 : Int)), .c (.lit .u32 (0 : Int)), .c (.lit .u32 (0 : Int)), .c (.lit .u32 (0 : Int)), .c (.lit .u32 (0 : Int)), .c (.lit .u32 (0 : Int)), .c (.lit .u32 (0 : Int)), .c (.lit .u32 (0 : Int)), .c (.lit .u32 (0 : Int)), .c (.lit .u32 (0 : Int)), .c (.lit .u32 (0 : Int)), .c (.lit .u32 (0 : Int)), .c (.lit .u32 (0 : Int)), .c (.lit .u32 (0 : Int)), .c (.lit .u32 (0 : Int)), .c (.lit .u32 (0 : Int)), .c (.lit .u32 (0 : Int)), .c (.lit .u32 (0 : Int)), .c (.lit .u32 (0 : Int)), .c (.lit .u32 (0 : Int)), .c (.lit .u32 (0 : Int)), .c (.lit .u32 (0 : Int)), .c (.lit .u32 (0 : Int)), .c (.lit .u32 (0 : Int)), .c (.lit .u32 (0 : Int)), .c (.lit .u32 (0 : Int)), .c (.lit .u32 (0 : Int)), .c (.lit .u32 (0 : Int)), .c (.lit .u32 (0 : Int))] 22])) := by kernel_rfl
set_option maxRecDepth 100000 in
theorem t_b {q : InW} {hs gs : List (Nat × Nat)} {l : List Int} {c : Int} {P : Prop} {a : Int} : (execN (cfgNw 60 q.acts (.lit .i64 0) q.xss hs q.cp l c P (.tup [.ptr 8 0, .lit .i64 0]) (sM 60 q.acts q.xss hs gs l c (wr0 a))) 100 1 (restC 2 b6) (fr 137 mA (vA q)) (sI 60 q.acts q.xss hs l c)).bind (canonK 9 [(0,0)] 137 mB) =
 

 (.eq ([SVal.lit .i64 (0 : Int), .sli 1 (.c 0) 1 (.v q.2.length) (some (.v q.3))] = [SVal.lit .i64 (0 : Int), .sli 1 (.c 0) 1 (.v q.2.length) (some (.v q.3))] ∧ [Blk.ro encLook [PUnit.unit], .ro (encHd 2) hs, Blk.rows false IntKind.u32 q.2, .ro (encInt IntKind.u8) q.4, .own [.a (encInt IntKind.u32) 60 l] 22, .own [.c (.sli 4 (.c 0) 1 (.v 60) (some (.v 60))), .c (.int .i64 c)] 68] = [Blk.ro encLook [PUnit.unit], .ro (encHd 2) hs, Blk.rows false IntKind.u32 q.2, .ro (encInt IntKind.u8) q.4, .own [.a (encInt IntKind.u32) 60 l] 22, .own [.c (.sli 4 (.c 0) 1 (.v 60) (some (.v 60))), .c (.int .i64 c)] 68] ∧ P)

 (.ret (.normal, [.int .u32 q.1, .sli 1 (.c 0) 1 (.v q.2.length) (some (.v q.3)), .sli 3 (.c 0) 1 (.v q.4.length) (some (.v q.5)), .ptr 5 0, .lit .i64 (0 : Int), .ptr 8 0, .lit .i64 (0 : Int)], [.ro encLook [PUnit.unit], .ro (encHd 2) hs, Blk.rows false IntKind.u32 q.2, .ro (encInt IntKind.u8) q.4, .own [.a (encInt IntKind.u32) 60 l] 22, .own [.c (.sli 4 (.c 0) 1 (.v 60) (some (.v 60))), .c (.int .i64 c)] 68, Blk.rows true IntKind.u32 q.2, .vec (encHd 6) gs 34, .own [.c (.int .i64 a), .c (.int .i64 (0 : Int)), .c (.int .i64 (0 : Int)), .c (.sli 7 (.c 0) 1 (.v gs.length) none), .c (.int .i64 (0 : Int))] 70]))) := by kernel_rfl
set_option maxRecDepth 100000 in
theorem t_bn {q : InW} {hs : List (Nat × Nat)} {l : List Int} {c : Int} {P : Prop} : (execN (cfgNw 60 q.acts (.lit .i64 0) q.xss hs q.cp l c P (.tup [.pnil, .lit .i64 100]) (sI 60 q.acts q.xss hs l c)) 100 1 (restC 2 b6) (fr 137 mA (vA q)) (sI 60 q.acts q.xss hs l c)).bind (canonK 6 [(0,0)] 137 mB) =
 

 (.eq ([SVal.lit .i64 (0 : Int), .sli 1 (.c 0) 1 (.v q.2.length) (some (.v q.3))] = [SVal.lit .i64 (0 : Int), .sli 1 (.c 0) 1 (.v q.2.length) (some (.v q.3))] ∧ [Blk.ro encLook [PUnit.unit], .ro (encHd 2) hs, Blk.rows false IntKind.u32 q.2, .ro (encInt IntKind.u8) q.4, .own [.a (encInt IntKind.u32) 60 l] 22, .own [.c (.sli 4 (.c 0) 1 (.v 60) (some (.v 60))), .c (.int .i64 c)] 68] = [Blk.ro encLook [PUnit.unit], .ro (encHd 2) hs, Blk.rows false IntKind.u32 q.2, .ro (encInt IntKind.u8) q.4, .own [.a (encInt IntKind.u32) 60 l] 22, .own [.c (.sli 4 (.c 0) 1 (.v 60) (some (.v 60))), .c (.int .i64 c)] 68] ∧ P)

 (.ret (.normal, [.int .u32 q.1, .sli 1 (.c 0) 1 (.v q.2.length) (some (.v q.3)), .sli 3 (.c 0) 1 (.v q.4.length) (some (.v q.5)), .ptr 5 0, .lit .i64 (0 : Int), .pnil, .lit .i64 (100 : Int)], [.ro encLook [PUnit.unit], .ro (encHd 2) hs, Blk.rows false IntKind.u32 q.2, .ro (encInt IntKind.u8) q.4, .own [.a (encInt IntKind.u32) 60 l] 22, .own [.c (.sli 4 (.c 0) 1 (.v 60) (some (.v 60))), .c (.int .i64 c)] 68]))) := by kernel_rfl
set_option maxRecDepth 100000 in
theorem t_c {q : InW} {hs gs : List (Nat × Nat)} {l : List Int} {c : Int} {x : Wr} {P : Prop} {b : Bool} : (execN (cfgFw (sM 60 q.acts q.xss hs gs l c x) q.xss q.cp P b) 100 1 (restC 3 b6) (fr 137 mB (vA q ++ [.ptr 8 0, .lit .i64 0])) (sM 60 q.acts q.xss hs gs l c x)).bind (canonK 9 [(0,0)] 137 (6 :: mC)) =
 

 (.eq (some [Blk.ro encLook [PUnit.unit]] = some [Blk.ro encLook [PUnit.unit]])

 (.eq ([SVal.sli 1 (.c 0) 1 (.v q.2.length) (some (.v q.3))] = [SVal.sli 1 (.c 0) 1 (.v q.2.length) (some (.v q.3))] ∧ [Blk.ro encLook [PUnit.unit], .ro (encHd 2) hs, Blk.rows false IntKind.u32 q.2, .ro (encInt IntKind.u8) q.4, .own [.a (encInt IntKind.u32) 60 l] 22, .own [.c (.sli 4 (.c 0) 1 (.v 60) (some (.v 60))), .c (.int .i64 c)] 68, Blk.rows true IntKind.u32 q.2, .vec (encHd 6) gs 34, .own [.c (.int .i64 x.1), .c (.int .i64 x.2), .c (.int .i64 x.3), .c (.sli 7 (.c 0) 1 (.v gs.length) none), .c (.int .i64 x.4)] 70] = [Blk.ro encLook [PUnit.unit], .ro (encHd 2) hs, Blk.rows false IntKind.u32 q.2, .ro (encInt IntKind.u8) q.4, .own [.a (encInt IntKind.u32) 60 l] 22, .own [.c (.sli 4 (.c 0) 1 (.v 60) (some (.v 60))), .c (.int .i64 c)] 68, Blk.rows true IntKind.u32 q.2, .vec (encHd 6) gs 34, .own [.c (.int .i64 x.1), .c (.int .i64 x.2), .c (.int .i64 x.3), .c (.sli 7 (.c 0) 1 (.v gs.length) none), .c (.int .i64 x.4)] 70] ∧ P)

 (.br (!b)

 (.eq (some [Blk.ro encLook [PUnit.unit]] = some [Blk.ro encLook [PUnit.unit]])

 (.ret (.ret, [.bl true, .int .u32 q.1, .sli 1 (.c 0) 1 (.v q.2.length) (some (.v q.3)), .sli 3 (.c 0) 1 (.v q.4.length) (some (.v q.5)), .ptr 5 0, .ptr 8 0], [.ro encLook [PUnit.unit], .ro (encHd 2) hs, Blk.rows false IntKind.u32 q.2, .ro (encInt IntKind.u8) q.4, .own [.a (encInt IntKind.u32) 60 l] 22, .own [.c (.sli 4 (.c 0) 1 (.v 60) (some (.v 60))), .c (.int .i64 c)] 68, Blk.rows true IntKind.u32 q.2, .vec (encHd 6) gs 34, .own [.c (.int .i64 x.1), .c (.int .i64 x.2), .c (.int .i64 x.3), .c (.sli 7 (.c 0) 1 (.v gs.length) none), .c (.int .i64 x.4)] 70])))

 (.br ((↑q.2.length : Int) == (0 : Int))

 (.eq (some [Blk.ro encLook [PUnit.unit]] = some [Blk.ro encLook [PUnit.unit]])

 (.ret (.ret, [.bl true, .int .u32 q.1, .sli 1 (.c 0) 1 (.v q.2.length) (some (.v q.3)), .sli 3 (.c 0) 1 (.v q.4.length) (some (.v q.5)), .ptr 5 0, .ptr 8 0], [.ro encLook [PUnit.unit], .ro (encHd 2) hs, Blk.rows false IntKind.u32 q.2, .ro (encInt IntKind.u8) q.4, .own [.a (encInt IntKind.u32) 60 l] 22, .own [.c (.sli 4 (.c 0) 1 (.v 60) (some (.v 60))), .c (.int .i64 c)] 68, Blk.rows true IntKind.u32 q.2, .vec (encHd 6) gs 34, .own [.c (.int .i64 x.1), .c (.int .i64 x.2), .c (.int .i64 x.3), .c (.sli 7 (.c 0) 1 (.v gs.length) none), .c (.int .i64 x.4)] 70])))

 (.ret (.normal, [.bad, .int .u32 q.1, .sli 1 (.c 0) 1 (.v q.2.length) (some (.v q.3)), .sli 3 (.c 0) 1 (.v q.4.length) (some (.v q.5)), .ptr 5 0, .ptr 8 0], [.ro encLook [PUnit.unit], .ro (encHd 2) hs, Blk.rows false IntKind.u32 q.2, .ro (encInt IntKind.u8) q.4, .own [.a (encInt IntKind.u32) 60 l] 22, .own [.c (.sli 4 (.c 0) 1 (.v 60) (some (.v 60))), .c (.int .i64 c)] 68, Blk.rows true IntKind.u32 q.2, .vec (encHd 6) gs 34, .own [.c (.int .i64 x.1), .c (.int .i64 x.2), .c (.int .i64 x.3), .c (.sli 7 (.c 0) 1 (.v gs.length) none), .c (.int .i64 x.4)] 70])))))) := by kernel_rfl
set_option maxRecDepth 100000 in
theorem t_cn {q : InW} {hs : List (Nat × Nat)} {l : List Int} {c : Int} {P : Prop} {b : Bool} : (execN (cfgFw (sI 60 q.acts q.xss hs l c) q.xss q.cp P b) 100 1 (restC 3 b6) (fr 137 mB (vA q ++ [.pnil, .lit .i64 100])) (sI 60 q.acts q.xss hs l c)).bind (canonK 6 [(0,0)] 137 [6]) =
 

 (.eq (some [Blk.ro encLook [PUnit.unit]] = some [Blk.ro encLook [PUnit.unit]])

 (.eq ([SVal.sli 1 (.c 0) 1 (.v q.2.length) (some (.v q.3))] = [SVal.sli 1 (.c 0) 1 (.v q.2.length) (some (.v q.3))] ∧ [Blk.ro encLook [PUnit.unit], .ro (encHd 2) hs, Blk.rows false IntKind.u32 q.2, .ro (encInt IntKind.u8) q.4, .own [.a (encInt IntKind.u32) 60 l] 22, .own [.c (.sli 4 (.c 0) 1 (.v 60) (some (.v 60))), .c (.int .i64 c)] 68] = [Blk.ro encLook [PUnit.unit], .ro (encHd 2) hs, Blk.rows false IntKind.u32 q.2, .ro (encInt IntKind.u8) q.4, .own [.a (encInt IntKind.u32) 60 l] 22, .own [.c (.sli 4 (.c 0) 1 (.v 60) (some (.v 60))), .c (.int .i64 c)] 68] ∧ P)

 (.br (!b)

 (.eq (some [Blk.ro encLook [PUnit.unit]] = some [Blk.ro encLook [PUnit.unit]])

 (.ret (.ret, [.bl true], [.ro encLook [PUnit.unit], .ro (encHd 2) hs, Blk.rows false IntKind.u32 q.2, .ro (encInt IntKind.u8) q.4, .own [.a (encInt IntKind.u32) 60 l] 22, .own [.c (.sli 4 (.c 0) 1 (.v 60) (some (.v 60))), .c (.int .i64 c)] 68])))

 (.eq (some [Blk.ro encLook [PUnit.unit]] = some [Blk.ro encLook [PUnit.unit]])

 (.ret (.ret, [.bl true], [.ro encLook [PUnit.unit], .ro (encHd 2) hs, Blk.rows false IntKind.u32 q.2, .ro (encInt IntKind.u8) q.4, .own [.a (encInt IntKind.u32) 60 l] 22, .own [.c (.sli 4 (.c 0) 1 (.v 60) (some (.v 60))), .c (.int .i64 c)] 68])))))) := by kernel_rfl
set_option maxRecDepth 100000 in
theorem t_d {q : InW} {hs gs : List (Nat × Nat)} {l : List Int} {c : Int} {x : Wr} : (execN cfgM 100 2 (restC 4 b6) (fr 137 mC (vC q)) (sM 60 q.acts q.xss hs gs l c x)).bind (canonK 9 [(0,0)] 137 mD) =
 

 (.need (decide (0 < q.2.length))

 (.need (decide (0 < hs.length))

 (.br (decide ((1 : Int) ≤ (↑(hs.getD 0 (0, 0)).snd : Int)))

 (.br (!decide ((↑(hs.getD 0 (0, 0)).snd : Int) ≤ (32 : Int)))

 (.ret (.ret, [.sli 1 (.c 0) 1 (.v q.2.length) (some (.v q.3)), .sli 3 (.c 0) 1 (.v q.4.length) (some (.v q.5)), .ptr 5 0, .ptr 8 0, .pnil], [.ro encLook [PUnit.unit], .ro (encHd 2) hs, Blk.rows false IntKind.u32 q.2, .ro (encInt IntKind.u8) q.4, .own [.a (encInt IntKind.u32) 60 l] 22, .own [.c (.sli 4 (.c 0) 1 (.v 60) (some (.v 60))), .c (.int .i64 c)] 68, Blk.rows true IntKind.u32 q.2, .vec (encHd 6) gs 34, .own [.c (.int .i64 x.1), .c (.int .i64 x.2), .c (.int .i64 x.3), .c (.sli 7 (.c 0) 1 (.v gs.length) none), .c (.int .i64 x.4)] 70]))

 (.br (false)

 (.ret (.ret, [.sli 1 (.c 0) 1 (.v q.2.length) (some (.v q.3)), .sli 3 (.c 0) 1 (.v q.4.length) (some (.v q.5)), .ptr 5 0, .ptr 8 0, .ptr 9 0], [.ro encLook [PUnit.unit], .ro (encHd 2) hs, Blk.rows false IntKind.u32 q.2, .ro (encInt IntKind.u8) q.4, .own [.a (encInt IntKind.u32) 60 l] 22, .own [.c (.sli 4 (.c 0) 1 (.v 60) (some (.v 60))), .c (.int .i64 c)] 68, Blk.rows true IntKind.u32 q.2, .vec (encHd 6) gs 34, .own [.c (.int .i64 x.1), .c (.int .i64 x.2), .c (.int .i64 x.3), .c (.sli 7 (.c 0) 1 (.v gs.length) none), .c (.int .i64 x.4)] 70, .own [.c (.lit .i64 (0 : Int)), .c (.int .i64 (↑(hs.getD 0 (0, 0)).snd : Int)), .c (.lit .i64 (0 : Int)), .c (.lit .i64 (0 : Int)), .c (.lit .u32 (0 : Int)), .c (.lit .u32 (0 : Int)), .c (.lit .u32 (0 : Int)), .c (.lit .u32 (0 : Int)), .c (.lit .u32 (0 : Int)), .c (.lit .u32 (0 : Int)), .c (.lit .u32 (0 : Int)), .c (.lit .u32 (0 : Int)), .c (.lit .u32 (0 : Int)), .c (.lit .u32 (0 : Int)), .c (.lit .u32 (0 : Int)), .c (.lit .u32 (0 : Int)), .c (.lit .u32 (0 : Int)), .c (.lit .u32 (0 : Int)), .c (.lit .u32 (0 : Int)), .c (.lit .u32 (0 : Int)), .c (.lit .u32 (0 : Int)), .c (.lit .u32 (0 : Int)), .c (.lit .u32 (0 : Int)), .c (.lit .u32 (0 : Int)), .c (.lit .u32 (0 : Int)), .c (.lit .u32 (0 : Int)), .c (.lit .u32 (0 : Int)), .c (.lit .u32 (0 : Int)), .c (.lit .u32 (0 : Int)), .c (.lit .u32 (0 : Int)), .c (.lit .u32 (0 : Int)), .c (.lit .u32 (0 : Int)), .c (.lit .u32 (0 : Int)), .c (.lit .u32 (0 : Int)), .c (.lit .u32 (0 : Int)), .c (.lit .u32 (0 : Int)), .c (.lit .u32 (0 : Int)), .c (.bl false), .c (.lit .i64 (0 : Int))] 73]))

 (.need (inR .i64 (c + (1 : Int)))

 (.need (true)

 (.need (true)

 (.need (true)

 (.need (true)

 (.need (true)
 (.eq (T.ret (SVal.sli (4 : Nat) (NN.c (0 : Nat)) (1 : Nat) (NN.v (60 : Nat)) (some (NN.v (60 : Nat)))) = T.ret (SVal.sli (4 : Nat) (NN.c (0 : Nat)) (1 : Nat) (NN.v (60 : Nat)) (some (NN.v (60 : Nat)))))
 (.eq (T.ret (SVal.int IntKind.u32 (bitop BinOp.andNot IntKind.u32 q.1 (1 : Int))) = T.ret (SVal.int IntKind.u32 (bitop BinOp.andNot IntKind.u32 q.1 (1 : Int))))

 (.need (true)

 (.need (true)
 (.eq (T.ret (SVal.sli (4 : Nat) (NN.c (0 : Nat)) (1 : Nat) (NN.v (60 : Nat)) (some (NN.v (60 : Nat)))) = T.ret (SVal.sli (4 : Nat) (NN.c (0 : Nat)) (1 : Nat) (NN.v (60 : Nat)) (some (NN.v (60 : Nat)))))
 (.eq (T.ret ([SVal.int IntKind.u32 ((l.set (0 : Nat) (bitop BinOp.or IntKind.u32 (bitop BinOp.and IntKind.u32 (l.getD (0 : Nat) (0 : Int)) (0 : Int)) (bitop BinOp.andNot IntKind.u32 q.1 (1 : Int)))).getD (0 : Nat) (0 : Int))].getD (0 : Nat) SVal.bad) = T.ret ([SVal.int IntKind.u32 ((l.set (0 : Nat) (bitop BinOp.or IntKind.u32 (bitop BinOp.and IntKind.u32 (l.getD (0 : Nat) (0 : Int)) (0 : Int)) (bitop BinOp.andNot IntKind.u32 q.1 (1 : Int)))).getD (0 : Nat) (0 : Int))].getD (0 : Nat) SVal.bad))

 (.ret (.normal, [.sli 1 (.c 0) 1 (.v q.2.length) (some (.v q.3)), .sli 3 (.c 0) 1 (.v q.4.length) (some (.v q.5)), .ptr 5 0, .ptr 8 0, .ptr 9 0], [.ro encLook [PUnit.unit], .ro (encHd 2) hs, Blk.rows false IntKind.u32 q.2, .ro (encInt IntKind.u8) q.4, .own [.a (encInt IntKind.u32) 60 ((l.set 0 (bitop BinOp.or IntKind.u32 (bitop BinOp.and IntKind.u32 (l.getD 0 (0 : Int)) (0 : Int)) (bitop BinOp.andNot IntKind.u32 q.1 (1 : Int)))).set 0 (IntKind.u32.wrap ((l.set 0 (bitop BinOp.or IntKind.u32 (bitop BinOp.and IntKind.u32 (l.getD 0 (0 : Int)) (0 : Int)) (bitop BinOp.andNot IntKind.u32 q.1 (1 : Int)))).getD 0 (0 : Int) + (0 : Int))))] 22, .own [.c (.sli 4 (.c 0) 1 (.v 60) (some (.v 60))), .c (.int .i64 (c + (1 : Int)))] 68, Blk.rows true IntKind.u32 q.2, .vec (encHd 6) gs 34, .own [.c (.int .i64 x.1), .c (.int .i64 x.2), .c (.int .i64 x.3), .c (.sli 7 (.c 0) 1 (.v gs.length) none), .c (.int .i64 x.4)] 70, .own [.c (.lit .i64 (0 : Int)), .c (.int .i64 (↑(hs.getD 0 (0, 0)).snd : Int)), .c (.lit .i64 (0 : Int)), .c (.lit .i64 (0 : Int)), .c (.lit .u32 (0 : Int)), .c (.lit .u32 (0 : Int)), .c (.lit .u32 (0 : Int)), .c (.lit .u32 (0 : Int)), .c (.lit .u32 (0 : Int)), .c (.lit .u32 (0 : Int)), .c (.lit .u32 (0 : Int)), .c (.lit .u32 (0 : Int)), .c (.lit .u32 (0 : Int)), .c (.lit .u32 (0 : Int)), .c (.lit .u32 (0 : Int)), .c (.lit .u32 (0 : Int)), .c (.lit .u32 (0 : Int)), .c (.lit .u32 (0 : Int)), .c (.lit .u32 (0 : Int)), .c (.lit .u32 (0 : Int)), .c (.lit .u32 (0 : Int)), .c (.lit .u32 (0 : Int)), .c (.lit .u32 (0 : Int)), .c (.lit .u32 (0 : Int)), .c (.lit .u32 (0 : Int)), .c (.lit .u32 (0 : Int)), .c (.lit .u32 (0 : Int)), .c (.lit .u32 (0 : Int)), .c (.lit .u32 (0 : Int)), .c (.lit .u32 (0 : Int)), .c (.lit .u32 (0 : Int)), .c (.lit .u32 (0 : Int)), .c (.lit .u32 (0 : Int)), .c (.lit .u32 (0 : Int)), .c (.lit .u32 (0 : Int)), .c (.lit .u32 (0 : Int)), .c (.lit .u32 (0 : Int)), .c (.bl false), .c (.lit .i64 (0 : Int))] 73]))))))))))))))))

 (.ret (.ret, [.sli 1 (.c 0) 1 (.v q.2.length) (some (.v q.3)), .sli 3 (.c 0) 1 (.v q.4.length) (some (.v q.5)), .ptr 5 0, .ptr 8 0, .pnil], [.ro encLook [PUnit.unit], .ro (encHd 2) hs, Blk.rows false IntKind.u32 q.2, .ro (encInt IntKind.u8) q.4, .own [.a (encInt IntKind.u32) 60 l] 22, .own [.c (.sli 4 (.c 0) 1 (.v 60) (some (.v 60))), .c (.int .i64 c)] 68, Blk.rows true IntKind.u32 q.2, .vec (encHd 6) gs 34, .own [.c (.int .i64 x.1), .c (.int .i64 x.2), .c (.int .i64 x.3), .c (.sli 7 (.c 0) 1 (.v gs.length) none), .c (.int .i64 x.4)] 70]))))) := by kernel_rfl
set_option maxRecDepth 100000 in
theorem t_e {q : InW} {hs gs : List (Nat × Nat)} {l : List Int} {c : Int} {x : Wr} {y : Rd} : (execN cfgM 100 1 (restC 6 b6) (fr 137 mD (uD q)) (sWq q hs gs l c x y)).bind (canonK 10 [(0,0)] 137 mW) =
 

 (.ret (.normal, [.sli 1 (.c 0) 1 (.v q.2.length) (some (.v q.3)), .sli 3 (.c 0) 1 (.v q.4.length) (some (.v q.5)), .ptr 5 0, .ptr 8 0, .ptr 9 0, .lit .i64 (0 : Int), .lit .i64 (0 : Int)], [.ro encLook [PUnit.unit], .ro (encHd 2) hs, Blk.rows false IntKind.u32 q.2, .ro (encInt IntKind.u8) q.4, .own [.a (encInt IntKind.u32) 60 l] 22, .own [.c (.sli 4 (.c 0) 1 (.v 60) (some (.v 60))), .c (.int .i64 c)] 68, Blk.rows true IntKind.u32 q.2, .vec (encHd 6) gs 34, .own [.c (.int .i64 x.1), .c (.int .i64 x.2), .c (.int .i64 x.3), .c (.sli 7 (.c 0) 1 (.v gs.length) none), .c (.int .i64 x.4)] 70, .own [.c (.int .i64 y.1), .c (.int .i64 y.2), .c (.int .i64 y.3), .c (.int .i64 y.4), .c (.int .u32 y.5), .a (encInt IntKind.u32) 32 y.6, .c (.sb y.7), .c (.int .i64 y.8)] 73])) := by kernel_rfl
set_option maxRecDepth 100000 in
theorem t_reg {q : InW} {hs gs : List (Nat × Nat)} {l : List Int} {c : Int} {x : Wr} {y : Rd} {d t : Int} : (exec cfgM 100 reg6 (fr 137 mW (uW q d t)) (sWq q hs gs l c x y)).bind (canonK 10 [(0,0)] 137 mWi) =
 

 (.ret (.normal, [.sli 1 (.c 0) 1 (.v q.2.length) (some (.v q.3)), .sli 3 (.c 0) 1 (.v q.4.length) (some (.v q.5)), .ptr 5 0, .ptr 8 0, .ptr 9 0, .int .i64 d, .int .i64 t, .lit .i64 (0 : Int)], [.ro encLook [PUnit.unit], .ro (encHd 2) hs, Blk.rows false IntKind.u32 q.2, .ro (encInt IntKind.u8) q.4, .own [.a (encInt IntKind.u32) 60 l] 22, .own [.c (.sli 4 (.c 0) 1 (.v 60) (some (.v 60))), .c (.int .i64 c)] 68, Blk.rows true IntKind.u32 q.2, .vec (encHd 6) gs 34, .own [.c (.int .i64 x.1), .c (.int .i64 x.2), .c (.int .i64 x.3), .c (.sli 7 (.c 0) 1 (.v gs.length) none), .c (.int .i64 x.4)] 70, .own [.c (.int .i64 y.1), .c (.int .i64 y.2), .c (.int .i64 y.3), .c (.int .i64 y.4), .c (.int .u32 y.5), .a (encInt IntKind.u32) 32 y.6, .c (.sb y.7), .c (.int .i64 y.8)] 73])) := by kernel_rfl
set_option maxRecDepth 100000 in
theorem t_tm {q : InW} {hs gs : List (Nat × Nat)} {l : List Int} {c : Int} {x : Wr} {y : Rd} {d t : Int} {i : Nat} : (exec cfgM 100 tm6 (fr 137 mWi (uWi q d t i)) (sWq q hs gs l c x y)).bind (canonK 10 [(0,0)] 137 mWi) =
 

 (.br (decide ((↑i : Int) < (↑q.4.length : Int)))

 (.br (decide ((↑i : Int) < (300 : Int)))

 (.ret (.normal, [.sli 1 (.c 0) 1 (.v q.2.length) (some (.v q.3)), .sli 3 (.c 0) 1 (.v q.4.length) (some (.v q.5)), .ptr 5 0, .ptr 8 0, .ptr 9 0, .int .i64 d, .int .i64 t, .int .i64 (↑i : Int)], [.ro encLook [PUnit.unit], .ro (encHd 2) hs, Blk.rows false IntKind.u32 q.2, .ro (encInt IntKind.u8) q.4, .own [.a (encInt IntKind.u32) 60 l] 22, .own [.c (.sli 4 (.c 0) 1 (.v 60) (some (.v 60))), .c (.int .i64 c)] 68, Blk.rows true IntKind.u32 q.2, .vec (encHd 6) gs 34, .own [.c (.int .i64 x.1), .c (.int .i64 x.2), .c (.int .i64 x.3), .c (.sli 7 (.c 0) 1 (.v gs.length) none), .c (.int .i64 x.4)] 70, .own [.c (.int .i64 y.1), .c (.int .i64 y.2), .c (.int .i64 y.3), .c (.int .i64 y.4), .c (.int .u32 y.5), .a (encInt IntKind.u32) 32 y.6, .c (.sb y.7), .c (.int .i64 y.8)] 73]))

 (.ret (.exit 0, [.sli 1 (.c 0) 1 (.v q.2.length) (some (.v q.3)), .sli 3 (.c 0) 1 (.v q.4.length) (some (.v q.5)), .ptr 5 0, .ptr 8 0, .ptr 9 0, .int .i64 d, .int .i64 t, .int .i64 (↑i : Int)], [.ro encLook [PUnit.unit], .ro (encHd 2) hs, Blk.rows false IntKind.u32 q.2, .ro (encInt IntKind.u8) q.4, .own [.a (encInt IntKind.u32) 60 l] 22, .own [.c (.sli 4 (.c 0) 1 (.v 60) (some (.v 60))), .c (.int .i64 c)] 68, Blk.rows true IntKind.u32 q.2, .vec (encHd 6) gs 34, .own [.c (.int .i64 x.1), .c (.int .i64 x.2), .c (.int .i64 x.3), .c (.sli 7 (.c 0) 1 (.v gs.length) none), .c (.int .i64 x.4)] 70, .own [.c (.int .i64 y.1), .c (.int .i64 y.2), .c (.int .i64 y.3), .c (.int .i64 y.4), .c (.int .u32 y.5), .a (encInt IntKind.u32) 32 y.6, .c (.sb y.7), .c (.int .i64 y.8)] 73])))

 (.ret (.exit 0, [.sli 1 (.c 0) 1 (.v q.2.length) (some (.v q.3)), .sli 3 (.c 0) 1 (.v q.4.length) (some (.v q.5)), .ptr 5 0, .ptr 8 0, .ptr 9 0, .int .i64 d, .int .i64 t, .int .i64 (↑i : Int)], [.ro encLook [PUnit.unit], .ro (encHd 2) hs, Blk.rows false IntKind.u32 q.2, .ro (encInt IntKind.u8) q.4, .own [.a (encInt IntKind.u32) 60 l] 22, .own [.c (.sli 4 (.c 0) 1 (.v 60) (some (.v 60))), .c (.int .i64 c)] 68, Blk.rows true IntKind.u32 q.2, .vec (encHd 6) gs 34, .own [.c (.int .i64 x.1), .c (.int .i64 x.2), .c (.int .i64 x.3), .c (.sli 7 (.c 0) 1 (.v gs.length) none), .c (.int .i64 x.4)] 70, .own [.c (.int .i64 y.1), .c (.int .i64 y.2), .c (.int .i64 y.3), .c (.int .i64 y.4), .c (.int .u32 y.5), .a (encInt IntKind.u32) 32 y.6, .c (.sb y.7), .c (.int .i64 y.8)] 73]))) := by kernel_rfl
set_option maxRecDepth 100000 in
theorem t_inc {q : InW} {hs gs : List (Nat × Nat)} {l : List Int} {c : Int} {x : Wr} {y : Rd} {d t : Int} {i : Nat} : (exec cfgM 100 inc6 (fr 137 mWi (uWi q d t i)) (sWq q hs gs l c x y)).bind (canonK 10 [(0,0)] 137 mWi) =
 

 (.need (inR .i64 ((↑i : Int) + (1 : Int)))

 (.ret (.normal, [.sli 1 (.c 0) 1 (.v q.2.length) (some (.v q.3)), .sli 3 (.c 0) 1 (.v q.4.length) (some (.v q.5)), .ptr 5 0, .ptr 8 0, .ptr 9 0, .int .i64 d, .int .i64 t, .int .i64 ((↑i : Int) + (1 : Int))], [.ro encLook [PUnit.unit], .ro (encHd 2) hs, Blk.rows false IntKind.u32 q.2, .ro (encInt IntKind.u8) q.4, .own [.a (encInt IntKind.u32) 60 l] 22, .own [.c (.sli 4 (.c 0) 1 (.v 60) (some (.v 60))), .c (.int .i64 c)] 68, Blk.rows true IntKind.u32 q.2, .vec (encHd 6) gs 34, .own [.c (.int .i64 x.1), .c (.int .i64 x.2), .c (.int .i64 x.3), .c (.sli 7 (.c 0) 1 (.v gs.length) none), .c (.int .i64 x.4)] 70, .own [.c (.int .i64 y.1), .c (.int .i64 y.2), .c (.int .i64 y.3), .c (.int .i64 y.4), .c (.int .u32 y.5), .a (encInt IntKind.u32) 32 y.6, .c (.sb y.7), .c (.int .i64 y.8)] 73]))) := by kernel_rfl
set_option maxRecDepth 100000 in
theorem t_end {q : InW} {hs gs : List (Nat × Nat)} {l : List Int} {c : Int} {x : Wr} {y : Rd} {d t : Int} {i : Nat} : (exec cfgM 100 end6 (fr 137 mWi (uWi q d t i)) (sWq q hs gs l c x y)).bind (canonK 10 [(0,0)] 137 [6]) =
 

 (.ret (.ret, [.bl true], [.ro encLook [PUnit.unit], .ro (encHd 2) hs, Blk.rows false IntKind.u32 q.2, .ro (encInt IntKind.u8) q.4, .own [.a (encInt IntKind.u32) 60 l] 22, .own [.c (.sli 4 (.c 0) 1 (.v 60) (some (.v 60))), .c (.int .i64 c)] 68, Blk.rows true IntKind.u32 q.2, .vec (encHd 6) gs 34, .own [.c (.int .i64 x.1), .c (.int .i64 x.2), .c (.int .i64 x.3), .c (.sli 7 (.c 0) 1 (.v gs.length) none), .c (.int .i64 x.4)] 70, .own [.c (.int .i64 y.1), .c (.int .i64 y.2), .c (.int .i64 y.3), .c (.int .i64 y.4), .c (.int .u32 y.5), .a (encInt IntKind.u32) 32 y.6, .c (.sb y.7), .c (.int .i64 y.8)] 73])) := by kernel_rfl
set_option maxRecDepth 100000 in
theorem u_a {q : InW} {hs gs : List (Nat × Nat)} {l : List Int} {c : Int} {x : Wr} {y : Rd} {l1 : List Int} {c1 : Int} {x1 : Wr} {b1 : Bool} {c2 : Int} {y2 : Rd} {b2 : Bool} {P1 P2 : Prop} {d t : Int} {i : Nat} : (execN (cfgSt q hs gs l c x y l1 c1 x1 b1 c2 y2 b2 P1 P2) 100 1 bb6 (fr 137 mWi (uWi q d t i)) (sWq q hs gs l c x y)).bind (canonK 10 [(0,0)] 137 mWi) =
 

 (.need (decide ((0 : Int) ≤ (↑i : Int)) && decide ((↑i : Int).toNat < q.4.length))

 (.need (decide ((↑i : Int).toNat < q.4.length))

 (.br (bitop BinOp.and IntKind.u8 (q.4.getD (↑i : Int).toNat (0 : Int)) (1 : Int) == (0 : Int))

 (.eq ([SVal.ptr 8 0, .ptr 5 0] = [SVal.ptr 8 0, .ptr 5 0] ∧ [Blk.ro encLook [PUnit.unit], .ro (encHd 2) hs, Blk.rows false IntKind.u32 q.2, .ro (encInt IntKind.u8) q.4, .own [.a (encInt IntKind.u32) 60 l] 22, .own [.c (.sli 4 (.c 0) 1 (.v 60) (some (.v 60))), .c (.int .i64 c)] 68, Blk.rows true IntKind.u32 q.2, .vec (encHd 6) gs 34, .own [.c (.int .i64 x.1), .c (.int .i64 x.2), .c (.int .i64 x.3), .c (.sli 7 (.c 0) 1 (.v gs.length) none), .c (.int .i64 x.4)] 70, .own [.c (.int .i64 y.1), .c (.int .i64 y.2), .c (.int .i64 y.3), .c (.int .i64 y.4), .c (.int .u32 y.5), .a (encInt IntKind.u32) 32 y.6, .c (.sb y.7), .c (.int .i64 y.8)] 73] = [Blk.ro encLook [PUnit.unit], .ro (encHd 2) hs, Blk.rows false IntKind.u32 q.2, .ro (encInt IntKind.u8) q.4, .own [.a (encInt IntKind.u32) 60 l] 22, .own [.c (.sli 4 (.c 0) 1 (.v 60) (some (.v 60))), .c (.int .i64 c)] 68, Blk.rows true IntKind.u32 q.2, .vec (encHd 6) gs 34, .own [.c (.int .i64 x.1), .c (.int .i64 x.2), .c (.int .i64 x.3), .c (.sli 7 (.c 0) 1 (.v gs.length) none), .c (.int .i64 x.4)] 70, .own [.c (.int .i64 y.1), .c (.int .i64 y.2), .c (.int .i64 y.3), .c (.int .i64 y.4), .c (.int .u32 y.5), .a (encInt IntKind.u32) 32 y.6, .c (.sb y.7), .c (.int .i64 y.8)] 73] ∧ P1)

 (.need (inR .i64 (d + (1 : Int)))

 (.ret (.exit 1, [.sli 1 (.c 0) 1 (.v q.2.length) (some (.v q.3)), .sli 3 (.c 0) 1 (.v q.4.length) (some (.v q.5)), .ptr 5 0, .ptr 8 0, .ptr 9 0, .int .i64 (d + (1 : Int)), .int .i64 t, .int .i64 (↑i : Int)], [.ro encLook [PUnit.unit], .ro (encHd 2) hs, Blk.rows false IntKind.u32 q.2, .ro (encInt IntKind.u8) q.4, .own [.a (encInt IntKind.u32) 60 l1] 22, .own [.c (.sli 4 (.c 0) 1 (.v 60) (some (.v 60))), .c (.int .i64 c1)] 68, Blk.rows true IntKind.u32 q.2, .vec (encHd 6) gs 34, .own [.c (.int .i64 x1.1), .c (.int .i64 x1.2), .c (.int .i64 x1.3), .c (.sli 7 (.c 0) 1 (.v gs.length) none), .c (.int .i64 x1.4)] 70, .own [.c (.int .i64 y.1), .c (.int .i64 y.2), .c (.int .i64 y.3), .c (.int .i64 y.4), .c (.int .u32 y.5), .a (encInt IntKind.u32) 32 y.6, .c (.sb y.7), .c (.int .i64 y.8)] 73]))))

 (.ret (.normal, [.sli 1 (.c 0) 1 (.v q.2.length) (some (.v q.3)), .sli 3 (.c 0) 1 (.v q.4.length) (some (.v q.5)), .ptr 5 0, .ptr 8 0, .ptr 9 0, .int .i64 d, .int .i64 t, .int .i64 (↑i : Int)], [.ro encLook [PUnit.unit], .ro (encHd 2) hs, Blk.rows false IntKind.u32 q.2, .ro (encInt IntKind.u8) q.4, .own [.a (encInt IntKind.u32) 60 l] 22, .own [.c (.sli 4 (.c 0) 1 (.v 60) (some (.v 60))), .c (.int .i64 c)] 68, Blk.rows true IntKind.u32 q.2, .vec (encHd 6) gs 34, .own [.c (.int .i64 x.1), .c (.int .i64 x.2), .c (.int .i64 x.3), .c (.sli 7 (.c 0) 1 (.v gs.length) none), .c (.int .i64 x.4)] 70, .own [.c (.int .i64 y.1), .c (.int .i64 y.2), .c (.int .i64 y.3), .c (.int .i64 y.4), .c (.int .u32 y.5), .a (encInt IntKind.u32) 32 y.6, .c (.sb y.7), .c (.int .i64 y.8)] 73]))))) := by kernel_rfl
set_option maxRecDepth 100000 in
theorem u_c {q : InW} {hs gs : List (Nat × Nat)} {l : List Int} {c : Int} {x : Wr} {y : Rd} {l1 : List Int} {c1 : Int} {x1 : Wr} {b1 : Bool} {c2 : Int} {y2 : Rd} {b2 : Bool} {P1 P2 : Prop} {d t : Int} {i : Nat} : (execN (cfgSt q hs gs l c x y l1 c1 x1 b1 c2 y2 b2 P1 P2) 100 1 (restC 1 bb6) (fr 137 mWi (uWi q d t i)) (sWq q hs gs l c x y)).bind (canonK 10 [(0,0)] 137 mWb) =
 

 (.eq ([SVal.ptr 9 0, .ptr 5 0] = [SVal.ptr 9 0, .ptr 5 0] ∧ [Blk.ro encLook [PUnit.unit], .ro (encHd 2) hs, Blk.rows false IntKind.u32 q.2, .ro (encInt IntKind.u8) q.4, .own [.a (encInt IntKind.u32) 60 l] 22, .own [.c (.sli 4 (.c 0) 1 (.v 60) (some (.v 60))), .c (.int .i64 c)] 68, Blk.rows true IntKind.u32 q.2, .vec (encHd 6) gs 34, .own [.c (.int .i64 x.1), .c (.int .i64 x.2), .c (.int .i64 x.3), .c (.sli 7 (.c 0) 1 (.v gs.length) none), .c (.int .i64 x.4)] 70, .own [.c (.int .i64 y.1), .c (.int .i64 y.2), .c (.int .i64 y.3), .c (.int .i64 y.4), .c (.int .u32 y.5), .a (encInt IntKind.u32) 32 y.6, .c (.sb y.7), .c (.int .i64 y.8)] 73] = [Blk.ro encLook [PUnit.unit], .ro (encHd 2) hs, Blk.rows false IntKind.u32 q.2, .ro (encInt IntKind.u8) q.4, .own [.a (encInt IntKind.u32) 60 l] 22, .own [.c (.sli 4 (.c 0) 1 (.v 60) (some (.v 60))), .c (.int .i64 c)] 68, Blk.rows true IntKind.u32 q.2, .vec (encHd 6) gs 34, .own [.c (.int .i64 x.1), .c (.int .i64 x.2), .c (.int .i64 x.3), .c (.sli 7 (.c 0) 1 (.v gs.length) none), .c (.int .i64 x.4)] 70, .own [.c (.int .i64 y.1), .c (.int .i64 y.2), .c (.int .i64 y.3), .c (.int .i64 y.4), .c (.int .u32 y.5), .a (encInt IntKind.u32) 32 y.6, .c (.sb y.7), .c (.int .i64 y.8)] 73] ∧ P2)

 (.ret (.normal, [.sli 1 (.c 0) 1 (.v q.2.length) (some (.v q.3)), .sli 3 (.c 0) 1 (.v q.4.length) (some (.v q.5)), .ptr 5 0, .ptr 8 0, .ptr 9 0, .int .i64 d, .int .i64 t, .int .i64 (↑i : Int), .sb b2], [.ro encLook [PUnit.unit], .ro (encHd 2) hs, Blk.rows false IntKind.u32 q.2, .ro (encInt IntKind.u8) q.4, .own [.a (encInt IntKind.u32) 60 l] 22, .own [.c (.sli 4 (.c 0) 1 (.v 60) (some (.v 60))), .c (.int .i64 c2)] 68, Blk.rows true IntKind.u32 q.2, .vec (encHd 6) gs 34, .own [.c (.int .i64 x.1), .c (.int .i64 x.2), .c (.int .i64 x.3), .c (.sli 7 (.c 0) 1 (.v gs.length) none), .c (.int .i64 x.4)] 70, .own [.c (.int .i64 y2.1), .c (.int .i64 y2.2), .c (.int .i64 y2.3), .c (.int .i64 y2.4), .c (.int .u32 y2.5), .a (encInt IntKind.u32) 32 y2.6, .c (.sb y2.7), .c (.int .i64 y2.8)] 73]))) := by kernel_rfl
set_option maxRecDepth 100000 in
theorem u_d {q : InW} {hs gs : List (Nat × Nat)} {l : List Int} {c : Int} {x : Wr} {y : Rd} {d t : Int} {i : Nat} : (exec cfgM 100 (restC 2 bb6) (fr 137 mWb (uWb q d t i y.got)) (sWq q hs gs l c x y)).bind (canonK 10 [(0,0)] 137 (6 :: mWi)) =
 

 (.br (decide (t < y.8))

 (.need (inR .i64 (t + (1 : Int)))

 (.br (y.8 != t + (1 : Int))

 (.ret (.ret, [.bl false, .sli 1 (.c 0) 1 (.v q.2.length) (some (.v q.3)), .sli 3 (.c 0) 1 (.v q.4.length) (some (.v q.5)), .ptr 5 0, .ptr 8 0, .ptr 9 0, .int .i64 d, .int .i64 t, .int .i64 (↑i : Int)], [.ro encLook [PUnit.unit], .ro (encHd 2) hs, Blk.rows false IntKind.u32 q.2, .ro (encInt IntKind.u8) q.4, .own [.a (encInt IntKind.u32) 60 l] 22, .own [.c (.sli 4 (.c 0) 1 (.v 60) (some (.v 60))), .c (.int .i64 c)] 68, Blk.rows true IntKind.u32 q.2, .vec (encHd 6) gs 34, .own [.c (.int .i64 x.1), .c (.int .i64 x.2), .c (.int .i64 x.3), .c (.sli 7 (.c 0) 1 (.v gs.length) none), .c (.int .i64 x.4)] 70, .own [.c (.int .i64 y.1), .c (.int .i64 y.2), .c (.int .i64 y.3), .c (.int .i64 y.4), .c (.int .u32 y.5), .a (encInt IntKind.u32) 32 y.6, .c (.sb y.7), .c (.int .i64 y.8)] 73]))

 (.br (decide ((0 : Int) < t))

 (.br (d == (0 : Int))

 (.ret (.ret, [.bl false, .sli 1 (.c 0) 1 (.v q.2.length) (some (.v q.3)), .sli 3 (.c 0) 1 (.v q.4.length) (some (.v q.5)), .ptr 5 0, .ptr 8 0, .ptr 9 0, .int .i64 d, .int .i64 t, .int .i64 (↑i : Int)], [.ro encLook [PUnit.unit], .ro (encHd 2) hs, Blk.rows false IntKind.u32 q.2, .ro (encInt IntKind.u8) q.4, .own [.a (encInt IntKind.u32) 60 l] 22, .own [.c (.sli 4 (.c 0) 1 (.v 60) (some (.v 60))), .c (.int .i64 c)] 68, Blk.rows true IntKind.u32 q.2, .vec (encHd 6) gs 34, .own [.c (.int .i64 x.1), .c (.int .i64 x.2), .c (.int .i64 x.3), .c (.sli 7 (.c 0) 1 (.v gs.length) none), .c (.int .i64 x.4)] 70, .own [.c (.int .i64 y.1), .c (.int .i64 y.2), .c (.int .i64 y.3), .c (.int .i64 y.4), .c (.int .u32 y.5), .a (encInt IntKind.u32) 32 y.6, .c (.sb y.7), .c (.int .i64 y.8)] 73]))

 (.br (!y.7)

 (.br (!false == y.7)

 (.ret (.ret, [.bl false, .sli 1 (.c 0) 1 (.v q.2.length) (some (.v q.3)), .sli 3 (.c 0) 1 (.v q.4.length) (some (.v q.5)), .ptr 5 0, .ptr 8 0, .ptr 9 0, .lit .i64 (0 : Int), .int .i64 y.8, .int .i64 (↑i : Int)], [.ro encLook [PUnit.unit], .ro (encHd 2) hs, Blk.rows false IntKind.u32 q.2, .ro (encInt IntKind.u8) q.4, .own [.a (encInt IntKind.u32) 60 l] 22, .own [.c (.sli 4 (.c 0) 1 (.v 60) (some (.v 60))), .c (.int .i64 c)] 68, Blk.rows true IntKind.u32 q.2, .vec (encHd 6) gs 34, .own [.c (.int .i64 x.1), .c (.int .i64 x.2), .c (.int .i64 x.3), .c (.sli 7 (.c 0) 1 (.v gs.length) none), .c (.int .i64 x.4)] 70, .own [.c (.int .i64 y.1), .c (.int .i64 y.2), .c (.int .i64 y.3), .c (.int .i64 y.4), .c (.int .u32 y.5), .a (encInt IntKind.u32) 32 y.6, .c (.sb y.7), .c (.int .i64 y.8)] 73]))

 (.br (y.7)

 (.br (y.8 == (0 : Int))

 (.ret (.ret, [.bl false, .sli 1 (.c 0) 1 (.v q.2.length) (some (.v q.3)), .sli 3 (.c 0) 1 (.v q.4.length) (some (.v q.5)), .ptr 5 0, .ptr 8 0, .ptr 9 0, .lit .i64 (0 : Int), .int .i64 y.8, .int .i64 (↑i : Int)], [.ro encLook [PUnit.unit], .ro (encHd 2) hs, Blk.rows false IntKind.u32 q.2, .ro (encInt IntKind.u8) q.4, .own [.a (encInt IntKind.u32) 60 l] 22, .own [.c (.sli 4 (.c 0) 1 (.v 60) (some (.v 60))), .c (.int .i64 c)] 68, Blk.rows true IntKind.u32 q.2, .vec (encHd 6) gs 34, .own [.c (.int .i64 x.1), .c (.int .i64 x.2), .c (.int .i64 x.3), .c (.sli 7 (.c 0) 1 (.v gs.length) none), .c (.int .i64 x.4)] 70, .own [.c (.int .i64 y.1), .c (.int .i64 y.2), .c (.int .i64 y.3), .c (.int .i64 y.4), .c (.int .u32 y.5), .a (encInt IntKind.u32) 32 y.6, .c (.sb y.7), .c (.int .i64 y.8)] 73]))

 (.br (y.7)

 (.ret (.ret, [.bl true, .sli 1 (.c 0) 1 (.v q.2.length) (some (.v q.3)), .sli 3 (.c 0) 1 (.v q.4.length) (some (.v q.5)), .ptr 5 0, .ptr 8 0, .ptr 9 0, .lit .i64 (0 : Int), .int .i64 y.8, .int .i64 (↑i : Int)], [.ro encLook [PUnit.unit], .ro (encHd 2) hs, Blk.rows false IntKind.u32 q.2, .ro (encInt IntKind.u8) q.4, .own [.a (encInt IntKind.u32) 60 l] 22, .own [.c (.sli 4 (.c 0) 1 (.v 60) (some (.v 60))), .c (.int .i64 c)] 68, Blk.rows true IntKind.u32 q.2, .vec (encHd 6) gs 34, .own [.c (.int .i64 x.1), .c (.int .i64 x.2), .c (.int .i64 x.3), .c (.sli 7 (.c 0) 1 (.v gs.length) none), .c (.int .i64 x.4)] 70, .own [.c (.int .i64 y.1), .c (.int .i64 y.2), .c (.int .i64 y.3), .c (.int .i64 y.4), .c (.int .u32 y.5), .a (encInt IntKind.u32) 32 y.6, .c (.sb y.7), .c (.int .i64 y.8)] 73]))

 (.ret (.normal, [.bad, .sli 1 (.c 0) 1 (.v q.2.length) (some (.v q.3)), .sli 3 (.c 0) 1 (.v q.4.length) (some (.v q.5)), .ptr 5 0, .ptr 8 0, .ptr 9 0, .lit .i64 (0 : Int), .int .i64 y.8, .int .i64 (↑i : Int)], [.ro encLook [PUnit.unit], .ro (encHd 2) hs, Blk.rows false IntKind.u32 q.2, .ro (encInt IntKind.u8) q.4, .own [.a (encInt IntKind.u32) 60 l] 22, .own [.c (.sli 4 (.c 0) 1 (.v 60) (some (.v 60))), .c (.int .i64 c)] 68, Blk.rows true IntKind.u32 q.2, .vec (encHd 6) gs 34, .own [.c (.int .i64 x.1), .c (.int .i64 x.2), .c (.int .i64 x.3), .c (.sli 7 (.c 0) 1 (.v gs.length) none), .c (.int .i64 x.4)] 70, .own [.c (.int .i64 y.1), .c (.int .i64 y.2), .c (.int .i64 y.3), .c (.int .i64 y.4), .c (.int .u32 y.5), .a (encInt IntKind.u32) 32 y.6, .c (.sb y.7), .c (.int .i64 y.8)] 73]))))

 (.br (y.7)

 (.ret (.ret, [.bl true, .sli 1 (.c 0) 1 (.v q.2.length) (some (.v q.3)), .sli 3 (.c 0) 1 (.v q.4.length) (some (.v q.5)), .ptr 5 0, .ptr 8 0, .ptr 9 0, .lit .i64 (0 : Int), .int .i64 y.8, .int .i64 (↑i : Int)], [.ro encLook [PUnit.unit], .ro (encHd 2) hs, Blk.rows false IntKind.u32 q.2, .ro (encInt IntKind.u8) q.4, .own [.a (encInt IntKind.u32) 60 l] 22, .own [.c (.sli 4 (.c 0) 1 (.v 60) (some (.v 60))), .c (.int .i64 c)] 68, Blk.rows true IntKind.u32 q.2, .vec (encHd 6) gs 34, .own [.c (.int .i64 x.1), .c (.int .i64 x.2), .c (.int .i64 x.3), .c (.sli 7 (.c 0) 1 (.v gs.length) none), .c (.int .i64 x.4)] 70, .own [.c (.int .i64 y.1), .c (.int .i64 y.2), .c (.int .i64 y.3), .c (.int .i64 y.4), .c (.int .u32 y.5), .a (encInt IntKind.u32) 32 y.6, .c (.sb y.7), .c (.int .i64 y.8)] 73]))

 (.ret (.normal, [.bad, .sli 1 (.c 0) 1 (.v q.2.length) (some (.v q.3)), .sli 3 (.c 0) 1 (.v q.4.length) (some (.v q.5)), .ptr 5 0, .ptr 8 0, .ptr 9 0, .lit .i64 (0 : Int), .int .i64 y.8, .int .i64 (↑i : Int)], [.ro encLook [PUnit.unit], .ro (encHd 2) hs, Blk.rows false IntKind.u32 q.2, .ro (encInt IntKind.u8) q.4, .own [.a (encInt IntKind.u32) 60 l] 22, .own [.c (.sli 4 (.c 0) 1 (.v 60) (some (.v 60))), .c (.int .i64 c)] 68, Blk.rows true IntKind.u32 q.2, .vec (encHd 6) gs 34, .own [.c (.int .i64 x.1), .c (.int .i64 x.2), .c (.int .i64 x.3), .c (.sli 7 (.c 0) 1 (.v gs.length) none), .c (.int .i64 x.4)] 70, .own [.c (.int .i64 y.1), .c (.int .i64 y.2), .c (.int .i64 y.3), .c (.int .i64 y.4), .c (.int .u32 y.5), .a (encInt IntKind.u32) 32 y.6, .c (.sb y.7), .c (.int .i64 y.8)] 73])))))

 (.need (decide ((0 : Int) ≤ y.2) && decide (y.2.toNat ≤ 32))

 (.need (decide ((0 : Int) ≤ y.2) && decide (y.2.toNat ≤ y.2.toNat))

 (.need (decide (0 ≤ y.2.toNat))

 (.br (!true == y.7)

 (.ret (.ret, [.bl false, .sli 1 (.c 0) 1 (.v q.2.length) (some (.v q.3)), .sli 3 (.c 0) 1 (.v q.4.length) (some (.v q.5)), .ptr 5 0, .ptr 8 0, .ptr 9 0, .lit .i64 (0 : Int), .int .i64 y.8, .int .i64 (↑i : Int)], [.ro encLook [PUnit.unit], .ro (encHd 2) hs, Blk.rows false IntKind.u32 q.2, .ro (encInt IntKind.u8) q.4, .own [.a (encInt IntKind.u32) 60 l] 22, .own [.c (.sli 4 (.c 0) 1 (.v 60) (some (.v 60))), .c (.int .i64 c)] 68, Blk.rows true IntKind.u32 q.2, .vec (encHd 6) gs 34, .own [.c (.int .i64 x.1), .c (.int .i64 x.2), .c (.int .i64 x.3), .c (.sli 7 (.c 0) 1 (.v gs.length) none), .c (.int .i64 x.4)] 70, .own [.c (.int .i64 y.1), .c (.int .i64 y.2), .c (.int .i64 y.3), .c (.int .i64 y.4), .c (.int .u32 y.5), .a (encInt IntKind.u32) 32 y.6, .c (.sb y.7), .c (.int .i64 y.8)] 73]))

 (.br (y.7)

 (.br (y.8 == (0 : Int))

 (.ret (.ret, [.bl false, .sli 1 (.c 0) 1 (.v q.2.length) (some (.v q.3)), .sli 3 (.c 0) 1 (.v q.4.length) (some (.v q.5)), .ptr 5 0, .ptr 8 0, .ptr 9 0, .lit .i64 (0 : Int), .int .i64 y.8, .int .i64 (↑i : Int)], [.ro encLook [PUnit.unit], .ro (encHd 2) hs, Blk.rows false IntKind.u32 q.2, .ro (encInt IntKind.u8) q.4, .own [.a (encInt IntKind.u32) 60 l] 22, .own [.c (.sli 4 (.c 0) 1 (.v 60) (some (.v 60))), .c (.int .i64 c)] 68, Blk.rows true IntKind.u32 q.2, .vec (encHd 6) gs 34, .own [.c (.int .i64 x.1), .c (.int .i64 x.2), .c (.int .i64 x.3), .c (.sli 7 (.c 0) 1 (.v gs.length) none), .c (.int .i64 x.4)] 70, .own [.c (.int .i64 y.1), .c (.int .i64 y.2), .c (.int .i64 y.3), .c (.int .i64 y.4), .c (.int .u32 y.5), .a (encInt IntKind.u32) 32 y.6, .c (.sb y.7), .c (.int .i64 y.8)] 73]))

 (.br (y.7)

 (.ret (.ret, [.bl true, .sli 1 (.c 0) 1 (.v q.2.length) (some (.v q.3)), .sli 3 (.c 0) 1 (.v q.4.length) (some (.v q.5)), .ptr 5 0, .ptr 8 0, .ptr 9 0, .lit .i64 (0 : Int), .int .i64 y.8, .int .i64 (↑i : Int)], [.ro encLook [PUnit.unit], .ro (encHd 2) hs, Blk.rows false IntKind.u32 q.2, .ro (encInt IntKind.u8) q.4, .own [.a (encInt IntKind.u32) 60 l] 22, .own [.c (.sli 4 (.c 0) 1 (.v 60) (some (.v 60))), .c (.int .i64 c)] 68, Blk.rows true IntKind.u32 q.2, .vec (encHd 6) gs 34, .own [.c (.int .i64 x.1), .c (.int .i64 x.2), .c (.int .i64 x.3), .c (.sli 7 (.c 0) 1 (.v gs.length) none), .c (.int .i64 x.4)] 70, .own [.c (.int .i64 y.1), .c (.int .i64 y.2), .c (.int .i64 y.3), .c (.int .i64 y.4), .c (.int .u32 y.5), .a (encInt IntKind.u32) 32 y.6, .c (.sb y.7), .c (.int .i64 y.8)] 73]))

 (.ret (.normal, [.bad, .sli 1 (.c 0) 1 (.v q.2.length) (some (.v q.3)), .sli 3 (.c 0) 1 (.v q.4.length) (some (.v q.5)), .ptr 5 0, .ptr 8 0, .ptr 9 0, .lit .i64 (0 : Int), .int .i64 y.8, .int .i64 (↑i : Int)], [.ro encLook [PUnit.unit], .ro (encHd 2) hs, Blk.rows false IntKind.u32 q.2, .ro (encInt IntKind.u8) q.4, .own [.a (encInt IntKind.u32) 60 l] 22, .own [.c (.sli 4 (.c 0) 1 (.v 60) (some (.v 60))), .c (.int .i64 c)] 68, Blk.rows true IntKind.u32 q.2, .vec (encHd 6) gs 34, .own [.c (.int .i64 x.1), .c (.int .i64 x.2), .c (.int .i64 x.3), .c (.sli 7 (.c 0) 1 (.v gs.length) none), .c (.int .i64 x.4)] 70, .own [.c (.int .i64 y.1), .c (.int .i64 y.2), .c (.int .i64 y.3), .c (.int .i64 y.4), .c (.int .u32 y.5), .a (encInt IntKind.u32) 32 y.6, .c (.sb y.7), .c (.int .i64 y.8)] 73]))))

 (.br (y.7)

 (.ret (.ret, [.bl true, .sli 1 (.c 0) 1 (.v q.2.length) (some (.v q.3)), .sli 3 (.c 0) 1 (.v q.4.length) (some (.v q.5)), .ptr 5 0, .ptr 8 0, .ptr 9 0, .lit .i64 (0 : Int), .int .i64 y.8, .int .i64 (↑i : Int)], [.ro encLook [PUnit.unit], .ro (encHd 2) hs, Blk.rows false IntKind.u32 q.2, .ro (encInt IntKind.u8) q.4, .own [.a (encInt IntKind.u32) 60 l] 22, .own [.c (.sli 4 (.c 0) 1 (.v 60) (some (.v 60))), .c (.int .i64 c)] 68, Blk.rows true IntKind.u32 q.2, .vec (encHd 6) gs 34, .own [.c (.int .i64 x.1), .c (.int .i64 x.2), .c (.int .i64 x.3), .c (.sli 7 (.c 0) 1 (.v gs.length) none), .c (.int .i64 x.4)] 70, .own [.c (.int .i64 y.1), .c (.int .i64 y.2), .c (.int .i64 y.3), .c (.int .i64 y.4), .c (.int .u32 y.5), .a (encInt IntKind.u32) 32 y.6, .c (.sb y.7), .c (.int .i64 y.8)] 73]))

 (.ret (.normal, [.bad, .sli 1 (.c 0) 1 (.v q.2.length) (some (.v q.3)), .sli 3 (.c 0) 1 (.v q.4.length) (some (.v q.5)), .ptr 5 0, .ptr 8 0, .ptr 9 0, .lit .i64 (0 : Int), .int .i64 y.8, .int .i64 (↑i : Int)], [.ro encLook [PUnit.unit], .ro (encHd 2) hs, Blk.rows false IntKind.u32 q.2, .ro (encInt IntKind.u8) q.4, .own [.a (encInt IntKind.u32) 60 l] 22, .own [.c (.sli 4 (.c 0) 1 (.v 60) (some (.v 60))), .c (.int .i64 c)] 68, Blk.rows true IntKind.u32 q.2, .vec (encHd 6) gs 34, .own [.c (.int .i64 x.1), .c (.int .i64 x.2), .c (.int .i64 x.3), .c (.sli 7 (.c 0) 1 (.v gs.length) none), .c (.int .i64 x.4)] 70, .own [.c (.int .i64 y.1), .c (.int .i64 y.2), .c (.int .i64 y.3), .c (.int .i64 y.4), .c (.int .u32 y.5), .a (encInt IntKind.u32) 32 y.6, .c (.sb y.7), .c (.int .i64 y.8)] 73]))))))))))

 (.br (!y.7)

 (.br (!false == y.7)

 (.ret (.ret, [.bl false, .sli 1 (.c 0) 1 (.v q.2.length) (some (.v q.3)), .sli 3 (.c 0) 1 (.v q.4.length) (some (.v q.5)), .ptr 5 0, .ptr 8 0, .ptr 9 0, .lit .i64 (0 : Int), .int .i64 y.8, .int .i64 (↑i : Int)], [.ro encLook [PUnit.unit], .ro (encHd 2) hs, Blk.rows false IntKind.u32 q.2, .ro (encInt IntKind.u8) q.4, .own [.a (encInt IntKind.u32) 60 l] 22, .own [.c (.sli 4 (.c 0) 1 (.v 60) (some (.v 60))), .c (.int .i64 c)] 68, Blk.rows true IntKind.u32 q.2, .vec (encHd 6) gs 34, .own [.c (.int .i64 x.1), .c (.int .i64 x.2), .c (.int .i64 x.3), .c (.sli 7 (.c 0) 1 (.v gs.length) none), .c (.int .i64 x.4)] 70, .own [.c (.int .i64 y.1), .c (.int .i64 y.2), .c (.int .i64 y.3), .c (.int .i64 y.4), .c (.int .u32 y.5), .a (encInt IntKind.u32) 32 y.6, .c (.sb y.7), .c (.int .i64 y.8)] 73]))

 (.br (y.7)

 (.br (y.8 == (0 : Int))

 (.ret (.ret, [.bl false, .sli 1 (.c 0) 1 (.v q.2.length) (some (.v q.3)), .sli 3 (.c 0) 1 (.v q.4.length) (some (.v q.5)), .ptr 5 0, .ptr 8 0, .ptr 9 0, .lit .i64 (0 : Int), .int .i64 y.8, .int .i64 (↑i : Int)], [.ro encLook [PUnit.unit], .ro (encHd 2) hs, Blk.rows false IntKind.u32 q.2, .ro (encInt IntKind.u8) q.4, .own [.a (encInt IntKind.u32) 60 l] 22, .own [.c (.sli 4 (.c 0) 1 (.v 60) (some (.v 60))), .c (.int .i64 c)] 68, Blk.rows true IntKind.u32 q.2, .vec (encHd 6) gs 34, .own [.c (.int .i64 x.1), .c (.int .i64 x.2), .c (.int .i64 x.3), .c (.sli 7 (.c 0) 1 (.v gs.length) none), .c (.int .i64 x.4)] 70, .own [.c (.int .i64 y.1), .c (.int .i64 y.2), .c (.int .i64 y.3), .c (.int .i64 y.4), .c (.int .u32 y.5), .a (encInt IntKind.u32) 32 y.6, .c (.sb y.7), .c (.int .i64 y.8)] 73]))

 (.br (y.7)

 (.ret (.ret, [.bl true, .sli 1 (.c 0) 1 (.v q.2.length) (some (.v q.3)), .sli 3 (.c 0) 1 (.v q.4.length) (some (.v q.5)), .ptr 5 0, .ptr 8 0, .ptr 9 0, .lit .i64 (0 : Int), .int .i64 y.8, .int .i64 (↑i : Int)], [.ro encLook [PUnit.unit], .ro (encHd 2) hs, Blk.rows false IntKind.u32 q.2, .ro (encInt IntKind.u8) q.4, .own [.a (encInt IntKind.u32) 60 l] 22, .own [.c (.sli 4 (.c 0) 1 (.v 60) (some (.v 60))), .c (.int .i64 c)] 68, Blk.rows true IntKind.u32 q.2, .vec (encHd 6) gs 34, .own [.c (.int .i64 x.1), .c (.int .i64 x.2), .c (.int .i64 x.3), .c (.sli 7 (.c 0) 1 (.v gs.length) none), .c (.int .i64 x.4)] 70, .own [.c (.int .i64 y.1), .c (.int .i64 y.2), .c (.int .i64 y.3), .c (.int .i64 y.4), .c (.int .u32 y.5), .a (encInt IntKind.u32) 32 y.6, .c (.sb y.7), .c (.int .i64 y.8)] 73]))

 (.ret (.normal, [.bad, .sli 1 (.c 0) 1 (.v q.2.length) (some (.v q.3)), .sli 3 (.c 0) 1 (.v q.4.length) (some (.v q.5)), .ptr 5 0, .ptr 8 0, .ptr 9 0, .lit .i64 (0 : Int), .int .i64 y.8, .int .i64 (↑i : Int)], [.ro encLook [PUnit.unit], .ro (encHd 2) hs, Blk.rows false IntKind.u32 q.2, .ro (encInt IntKind.u8) q.4, .own [.a (encInt IntKind.u32) 60 l] 22, .own [.c (.sli 4 (.c 0) 1 (.v 60) (some (.v 60))), .c (.int .i64 c)] 68, Blk.rows true IntKind.u32 q.2, .vec (encHd 6) gs 34, .own [.c (.int .i64 x.1), .c (.int .i64 x.2), .c (.int .i64 x.3), .c (.sli 7 (.c 0) 1 (.v gs.length) none), .c (.int .i64 x.4)] 70, .own [.c (.int .i64 y.1), .c (.int .i64 y.2), .c (.int .i64 y.3), .c (.int .i64 y.4), .c (.int .u32 y.5), .a (encInt IntKind.u32) 32 y.6, .c (.sb y.7), .c (.int .i64 y.8)] 73]))))

 (.br (y.7)

 (.ret (.ret, [.bl true, .sli 1 (.c 0) 1 (.v q.2.length) (some (.v q.3)), .sli 3 (.c 0) 1 (.v q.4.length) (some (.v q.5)), .ptr 5 0, .ptr 8 0, .ptr 9 0, .lit .i64 (0 : Int), .int .i64 y.8, .int .i64 (↑i : Int)], [.ro encLook [PUnit.unit], .ro (encHd 2) hs, Blk.rows false IntKind.u32 q.2, .ro (encInt IntKind.u8) q.4, .own [.a (encInt IntKind.u32) 60 l] 22, .own [.c (.sli 4 (.c 0) 1 (.v 60) (some (.v 60))), .c (.int .i64 c)] 68, Blk.rows true IntKind.u32 q.2, .vec (encHd 6) gs 34, .own [.c (.int .i64 x.1), .c (.int .i64 x.2), .c (.int .i64 x.3), .c (.sli 7 (.c 0) 1 (.v gs.length) none), .c (.int .i64 x.4)] 70, .own [.c (.int .i64 y.1), .c (.int .i64 y.2), .c (.int .i64 y.3), .c (.int .i64 y.4), .c (.int .u32 y.5), .a (encInt IntKind.u32) 32 y.6, .c (.sb y.7), .c (.int .i64 y.8)] 73]))

 (.ret (.normal, [.bad, .sli 1 (.c 0) 1 (.v q.2.length) (some (.v q.3)), .sli 3 (.c 0) 1 (.v q.4.length) (some (.v q.5)), .ptr 5 0, .ptr 8 0, .ptr 9 0, .lit .i64 (0 : Int), .int .i64 y.8, .int .i64 (↑i : Int)], [.ro encLook [PUnit.unit], .ro (encHd 2) hs, Blk.rows false IntKind.u32 q.2, .ro (encInt IntKind.u8) q.4, .own [.a (encInt IntKind.u32) 60 l] 22, .own [.c (.sli 4 (.c 0) 1 (.v 60) (some (.v 60))), .c (.int .i64 c)] 68, Blk.rows true IntKind.u32 q.2, .vec (encHd 6) gs 34, .own [.c (.int .i64 x.1), .c (.int .i64 x.2), .c (.int .i64 x.3), .c (.sli 7 (.c 0) 1 (.v gs.length) none), .c (.int .i64 x.4)] 70, .own [.c (.int .i64 y.1), .c (.int .i64 y.2), .c (.int .i64 y.3), .c (.int .i64 y.4), .c (.int .u32 y.5), .a (encInt IntKind.u32) 32 y.6, .c (.sb y.7), .c (.int .i64 y.8)] 73])))))

 (.need (decide ((0 : Int) ≤ y.2) && decide (y.2.toNat ≤ 32))

 (.need (decide ((0 : Int) ≤ y.2) && decide (y.2.toNat ≤ y.2.toNat))

 (.need (decide (0 ≤ y.2.toNat))

 (.br (!true == y.7)

 (.ret (.ret, [.bl false, .sli 1 (.c 0) 1 (.v q.2.length) (some (.v q.3)), .sli 3 (.c 0) 1 (.v q.4.length) (some (.v q.5)), .ptr 5 0, .ptr 8 0, .ptr 9 0, .lit .i64 (0 : Int), .int .i64 y.8, .int .i64 (↑i : Int)], [.ro encLook [PUnit.unit], .ro (encHd 2) hs, Blk.rows false IntKind.u32 q.2, .ro (encInt IntKind.u8) q.4, .own [.a (encInt IntKind.u32) 60 l] 22, .own [.c (.sli 4 (.c 0) 1 (.v 60) (some (.v 60))), .c (.int .i64 c)] 68, Blk.rows true IntKind.u32 q.2, .vec (encHd 6) gs 34, .own [.c (.int .i64 x.1), .c (.int .i64 x.2), .c (.int .i64 x.3), .c (.sli 7 (.c 0) 1 (.v gs.length) none), .c (.int .i64 x.4)] 70, .own [.c (.int .i64 y.1), .c (.int .i64 y.2), .c (.int .i64 y.3), .c (.int .i64 y.4), .c (.int .u32 y.5), .a (encInt IntKind.u32) 32 y.6, .c (.sb y.7), .c (.int .i64 y.8)] 73]))

 (.br (y.7)

 (.br (y.8 == (0 : Int))

 (.ret (.ret, [.bl false, .sli 1 (.c 0) 1 (.v q.2.length) (some (.v q.3)), .sli 3 (.c 0) 1 (.v q.4.length) (some (.v q.5)), .ptr 5 0, .ptr 8 0, .ptr 9 0, .lit .i64 (0 : Int), .int .i64 y.8, .int .i64 (↑i : Int)], [.ro encLook [PUnit.unit], .ro (encHd 2) hs, Blk.rows false IntKind.u32 q.2, .ro (encInt IntKind.u8) q.4, .own [.a (encInt IntKind.u32) 60 l] 22, .own [.c (.sli 4 (.c 0) 1 (.v 60) (some (.v 60))), .c (.int .i64 c)] 68, Blk.rows true IntKind.u32 q.2, .vec (encHd 6) gs 34, .own [.c (.int .i64 x.1), .c (.int .i64 x.2), .c (.int .i64 x.3), .c (.sli 7 (.c 0) 1 (.v gs.length) none), .c (.int .i64 x.4)] 70, .own [.c (.int .i64 y.1), .c (.int .i64 y.2), .c (.int .i64 y.3), .c (.int .i64 y.4), .c (.int .u32 y.5), .a (encInt IntKind.u32) 32 y.6, .c (.sb y.7), .c (.int .i64 y.8)] 73]))

 (.br (y.7)

 (.ret (.ret, [.bl true, .sli 1 (.c 0) 1 (.v q.2.length) (some (.v q.3)), .sli 3 (.c 0) 1 (.v q.4.length) (some (.v q.5)), .ptr 5 0, .ptr 8 0, .ptr 9 0, .lit .i64 (0 : Int), .int .i64 y.8, .int .i64 (↑i : Int)], [.ro encLook [PUnit.unit], .ro (encHd 2) hs, Blk.rows false IntKind.u32 q.2, .ro (encInt IntKind.u8) q.4, .own [.a (encInt IntKind.u32) 60 l] 22, .own [.c (.sli 4 (.c 0) 1 (.v 60) (some (.v 60))), .c (.int .i64 c)] 68, Blk.rows true IntKind.u32 q.2, .vec (encHd 6) gs 34, .own [.c (.int .i64 x.1), .c (.int .i64 x.2), .c (.int .i64 x.3), .c (.sli 7 (.c 0) 1 (.v gs.length) none), .c (.int .i64 x.4)] 70, .own [.c (.int .i64 y.1), .c (.int .i64 y.2), .c (.int .i64 y.3), .c (.int .i64 y.4), .c (.int .u32 y.5), .a (encInt IntKind.u32) 32 y.6, .c (.sb y.7), .c (.int .i64 y.8)] 73]))

 (.ret (.normal, [.bad, .sli 1 (.c 0) 1 (.v q.2.length) (some (.v q.3)), .sli 3 (.c 0) 1 (.v q.4.length) (some (.v q.5)), .ptr 5 0, .ptr 8 0, .ptr 9 0, .lit .i64 (0 : Int), .int .i64 y.8, .int .i64 (↑i : Int)], [.ro encLook [PUnit.unit], .ro (encHd 2) hs, Blk.rows false IntKind.u32 q.2, .ro (encInt IntKind.u8) q.4, .own [.a (encInt IntKind.u32) 60 l] 22, .own [.c (.sli 4 (.c 0) 1 (.v 60) (some (.v 60))), .c (.int .i64 c)] 68, Blk.rows true IntKind.u32 q.2, .vec (encHd 6) gs 34, .own [.c (.int .i64 x.1), .c (.int .i64 x.2), .c (.int .i64 x.3), .c (.sli 7 (.c 0) 1 (.v gs.length) none), .c (.int .i64 x.4)] 70, .own [.c (.int .i64 y.1), .c (.int .i64 y.2), .c (.int .i64 y.3), .c (.int .i64 y.4), .c (.int .u32 y.5), .a (encInt IntKind.u32) 32 y.6, .c (.sb y.7), .c (.int .i64 y.8)] 73]))))

 (.br (y.7)

 (.ret (.ret, [.bl true, .sli 1 (.c 0) 1 (.v q.2.length) (some (.v q.3)), .sli 3 (.c 0) 1 (.v q.4.length) (some (.v q.5)), .ptr 5 0, .ptr 8 0, .ptr 9 0, .lit .i64 (0 : Int), .int .i64 y.8, .int .i64 (↑i : Int)], [.ro encLook [PUnit.unit], .ro (encHd 2) hs, Blk.rows false IntKind.u32 q.2, .ro (encInt IntKind.u8) q.4, .own [.a (encInt IntKind.u32) 60 l] 22, .own [.c (.sli 4 (.c 0) 1 (.v 60) (some (.v 60))), .c (.int .i64 c)] 68, Blk.rows true IntKind.u32 q.2, .vec (encHd 6) gs 34, .own [.c (.int .i64 x.1), .c (.int .i64 x.2), .c (.int .i64 x.3), .c (.sli 7 (.c 0) 1 (.v gs.length) none), .c (.int .i64 x.4)] 70, .own [.c (.int .i64 y.1), .c (.int .i64 y.2), .c (.int .i64 y.3), .c (.int .i64 y.4), .c (.int .u32 y.5), .a (encInt IntKind.u32) 32 y.6, .c (.sb y.7), .c (.int .i64 y.8)] 73]))

 (.ret (.normal, [.bad, .sli 1 (.c 0) 1 (.v q.2.length) (some (.v q.3)), .sli 3 (.c 0) 1 (.v q.4.length) (some (.v q.5)), .ptr 5 0, .ptr 8 0, .ptr 9 0, .lit .i64 (0 : Int), .int .i64 y.8, .int .i64 (↑i : Int)], [.ro encLook [PUnit.unit], .ro (encHd 2) hs, Blk.rows false IntKind.u32 q.2, .ro (encInt IntKind.u8) q.4, .own [.a (encInt IntKind.u32) 60 l] 22, .own [.c (.sli 4 (.c 0) 1 (.v 60) (some (.v 60))), .c (.int .i64 c)] 68, Blk.rows true IntKind.u32 q.2, .vec (encHd 6) gs 34, .own [.c (.int .i64 x.1), .c (.int .i64 x.2), .c (.int .i64 x.3), .c (.sli 7 (.c 0) 1 (.v gs.length) none), .c (.int .i64 x.4)] 70, .own [.c (.int .i64 y.1), .c (.int .i64 y.2), .c (.int .i64 y.3), .c (.int .i64 y.4), .c (.int .u32 y.5), .a (encInt IntKind.u32) 32 y.6, .c (.sb y.7), .c (.int .i64 y.8)] 73]))))))))))))

 (.br (!y.7)

 (.br (!false == y.7)

 (.ret (.ret, [.bl false, .sli 1 (.c 0) 1 (.v q.2.length) (some (.v q.3)), .sli 3 (.c 0) 1 (.v q.4.length) (some (.v q.5)), .ptr 5 0, .ptr 8 0, .ptr 9 0, .int .i64 d, .int .i64 t, .int .i64 (↑i : Int)], [.ro encLook [PUnit.unit], .ro (encHd 2) hs, Blk.rows false IntKind.u32 q.2, .ro (encInt IntKind.u8) q.4, .own [.a (encInt IntKind.u32) 60 l] 22, .own [.c (.sli 4 (.c 0) 1 (.v 60) (some (.v 60))), .c (.int .i64 c)] 68, Blk.rows true IntKind.u32 q.2, .vec (encHd 6) gs 34, .own [.c (.int .i64 x.1), .c (.int .i64 x.2), .c (.int .i64 x.3), .c (.sli 7 (.c 0) 1 (.v gs.length) none), .c (.int .i64 x.4)] 70, .own [.c (.int .i64 y.1), .c (.int .i64 y.2), .c (.int .i64 y.3), .c (.int .i64 y.4), .c (.int .u32 y.5), .a (encInt IntKind.u32) 32 y.6, .c (.sb y.7), .c (.int .i64 y.8)] 73]))

 (.br (y.7)

 (.br (t == (0 : Int))

 (.ret (.ret, [.bl false, .sli 1 (.c 0) 1 (.v q.2.length) (some (.v q.3)), .sli 3 (.c 0) 1 (.v q.4.length) (some (.v q.5)), .ptr 5 0, .ptr 8 0, .ptr 9 0, .int .i64 d, .int .i64 t, .int .i64 (↑i : Int)], [.ro encLook [PUnit.unit], .ro (encHd 2) hs, Blk.rows false IntKind.u32 q.2, .ro (encInt IntKind.u8) q.4, .own [.a (encInt IntKind.u32) 60 l] 22, .own [.c (.sli 4 (.c 0) 1 (.v 60) (some (.v 60))), .c (.int .i64 c)] 68, Blk.rows true IntKind.u32 q.2, .vec (encHd 6) gs 34, .own [.c (.int .i64 x.1), .c (.int .i64 x.2), .c (.int .i64 x.3), .c (.sli 7 (.c 0) 1 (.v gs.length) none), .c (.int .i64 x.4)] 70, .own [.c (.int .i64 y.1), .c (.int .i64 y.2), .c (.int .i64 y.3), .c (.int .i64 y.4), .c (.int .u32 y.5), .a (encInt IntKind.u32) 32 y.6, .c (.sb y.7), .c (.int .i64 y.8)] 73]))

 (.br (y.7)

 (.ret (.ret, [.bl true, .sli 1 (.c 0) 1 (.v q.2.length) (some (.v q.3)), .sli 3 (.c 0) 1 (.v q.4.length) (some (.v q.5)), .ptr 5 0, .ptr 8 0, .ptr 9 0, .int .i64 d, .int .i64 t, .int .i64 (↑i : Int)], [.ro encLook [PUnit.unit], .ro (encHd 2) hs, Blk.rows false IntKind.u32 q.2, .ro (encInt IntKind.u8) q.4, .own [.a (encInt IntKind.u32) 60 l] 22, .own [.c (.sli 4 (.c 0) 1 (.v 60) (some (.v 60))), .c (.int .i64 c)] 68, Blk.rows true IntKind.u32 q.2, .vec (encHd 6) gs 34, .own [.c (.int .i64 x.1), .c (.int .i64 x.2), .c (.int .i64 x.3), .c (.sli 7 (.c 0) 1 (.v gs.length) none), .c (.int .i64 x.4)] 70, .own [.c (.int .i64 y.1), .c (.int .i64 y.2), .c (.int .i64 y.3), .c (.int .i64 y.4), .c (.int .u32 y.5), .a (encInt IntKind.u32) 32 y.6, .c (.sb y.7), .c (.int .i64 y.8)] 73]))

 (.ret (.normal, [.bad, .sli 1 (.c 0) 1 (.v q.2.length) (some (.v q.3)), .sli 3 (.c 0) 1 (.v q.4.length) (some (.v q.5)), .ptr 5 0, .ptr 8 0, .ptr 9 0, .int .i64 d, .int .i64 t, .int .i64 (↑i : Int)], [.ro encLook [PUnit.unit], .ro (encHd 2) hs, Blk.rows false IntKind.u32 q.2, .ro (encInt IntKind.u8) q.4, .own [.a (encInt IntKind.u32) 60 l] 22, .own [.c (.sli 4 (.c 0) 1 (.v 60) (some (.v 60))), .c (.int .i64 c)] 68, Blk.rows true IntKind.u32 q.2, .vec (encHd 6) gs 34, .own [.c (.int .i64 x.1), .c (.int .i64 x.2), .c (.int .i64 x.3), .c (.sli 7 (.c 0) 1 (.v gs.length) none), .c (.int .i64 x.4)] 70, .own [.c (.int .i64 y.1), .c (.int .i64 y.2), .c (.int .i64 y.3), .c (.int .i64 y.4), .c (.int .u32 y.5), .a (encInt IntKind.u32) 32 y.6, .c (.sb y.7), .c (.int .i64 y.8)] 73]))))

 (.br (y.7)

 (.ret (.ret, [.bl true, .sli 1 (.c 0) 1 (.v q.2.length) (some (.v q.3)), .sli 3 (.c 0) 1 (.v q.4.length) (some (.v q.5)), .ptr 5 0, .ptr 8 0, .ptr 9 0, .int .i64 d, .int .i64 t, .int .i64 (↑i : Int)], [.ro encLook [PUnit.unit], .ro (encHd 2) hs, Blk.rows false IntKind.u32 q.2, .ro (encInt IntKind.u8) q.4, .own [.a (encInt IntKind.u32) 60 l] 22, .own [.c (.sli 4 (.c 0) 1 (.v 60) (some (.v 60))), .c (.int .i64 c)] 68, Blk.rows true IntKind.u32 q.2, .vec (encHd 6) gs 34, .own [.c (.int .i64 x.1), .c (.int .i64 x.2), .c (.int .i64 x.3), .c (.sli 7 (.c 0) 1 (.v gs.length) none), .c (.int .i64 x.4)] 70, .own [.c (.int .i64 y.1), .c (.int .i64 y.2), .c (.int .i64 y.3), .c (.int .i64 y.4), .c (.int .u32 y.5), .a (encInt IntKind.u32) 32 y.6, .c (.sb y.7), .c (.int .i64 y.8)] 73]))

 (.ret (.normal, [.bad, .sli 1 (.c 0) 1 (.v q.2.length) (some (.v q.3)), .sli 3 (.c 0) 1 (.v q.4.length) (some (.v q.5)), .ptr 5 0, .ptr 8 0, .ptr 9 0, .int .i64 d, .int .i64 t, .int .i64 (↑i : Int)], [.ro encLook [PUnit.unit], .ro (encHd 2) hs, Blk.rows false IntKind.u32 q.2, .ro (encInt IntKind.u8) q.4, .own [.a (encInt IntKind.u32) 60 l] 22, .own [.c (.sli 4 (.c 0) 1 (.v 60) (some (.v 60))), .c (.int .i64 c)] 68, Blk.rows true IntKind.u32 q.2, .vec (encHd 6) gs 34, .own [.c (.int .i64 x.1), .c (.int .i64 x.2), .c (.int .i64 x.3), .c (.sli 7 (.c 0) 1 (.v gs.length) none), .c (.int .i64 x.4)] 70, .own [.c (.int .i64 y.1), .c (.int .i64 y.2), .c (.int .i64 y.3), .c (.int .i64 y.4), .c (.int .u32 y.5), .a (encInt IntKind.u32) 32 y.6, .c (.sb y.7), .c (.int .i64 y.8)] 73])))))

 (.need (decide ((0 : Int) ≤ y.2) && decide (y.2.toNat ≤ 32))

 (.need (decide ((0 : Int) ≤ y.2) && decide (y.2.toNat ≤ y.2.toNat))

 (.need (decide (0 ≤ y.2.toNat))

 (.br (!true == y.7)

 (.ret (.ret, [.bl false, .sli 1 (.c 0) 1 (.v q.2.length) (some (.v q.3)), .sli 3 (.c 0) 1 (.v q.4.length) (some (.v q.5)), .ptr 5 0, .ptr 8 0, .ptr 9 0, .int .i64 d, .int .i64 t, .int .i64 (↑i : Int)], [.ro encLook [PUnit.unit], .ro (encHd 2) hs, Blk.rows false IntKind.u32 q.2, .ro (encInt IntKind.u8) q.4, .own [.a (encInt IntKind.u32) 60 l] 22, .own [.c (.sli 4 (.c 0) 1 (.v 60) (some (.v 60))), .c (.int .i64 c)] 68, Blk.rows true IntKind.u32 q.2, .vec (encHd 6) gs 34, .own [.c (.int .i64 x.1), .c (.int .i64 x.2), .c (.int .i64 x.3), .c (.sli 7 (.c 0) 1 (.v gs.length) none), .c (.int .i64 x.4)] 70, .own [.c (.int .i64 y.1), .c (.int .i64 y.2), .c (.int .i64 y.3), .c (.int .i64 y.4), .c (.int .u32 y.5), .a (encInt IntKind.u32) 32 y.6, .c (.sb y.7), .c (.int .i64 y.8)] 73]))

 (.br (y.7)

 (.br (t == (0 : Int))

 (.ret (.ret, [.bl false, .sli 1 (.c 0) 1 (.v q.2.length) (some (.v q.3)), .sli 3 (.c 0) 1 (.v q.4.length) (some (.v q.5)), .ptr 5 0, .ptr 8 0, .ptr 9 0, .int .i64 d, .int .i64 t, .int .i64 (↑i : Int)], [.ro encLook [PUnit.unit], .ro (encHd 2) hs, Blk.rows false IntKind.u32 q.2, .ro (encInt IntKind.u8) q.4, .own [.a (encInt IntKind.u32) 60 l] 22, .own [.c (.sli 4 (.c 0) 1 (.v 60) (some (.v 60))), .c (.int .i64 c)] 68, Blk.rows true IntKind.u32 q.2, .vec (encHd 6) gs 34, .own [.c (.int .i64 x.1), .c (.int .i64 x.2), .c (.int .i64 x.3), .c (.sli 7 (.c 0) 1 (.v gs.length) none), .c (.int .i64 x.4)] 70, .own [.c (.int .i64 y.1), .c (.int .i64 y.2), .c (.int .i64 y.3), .c (.int .i64 y.4), .c (.int .u32 y.5), .a (encInt IntKind.u32) 32 y.6, .c (.sb y.7), .c (.int .i64 y.8)] 73]))

 (.br (y.7)

 (.ret (.ret, [.bl true, .sli 1 (.c 0) 1 (.v q.2.length) (some (.v q.3)), .sli 3 (.c 0) 1 (.v q.4.length) (some (.v q.5)), .ptr 5 0, .ptr 8 0, .ptr 9 0, .int .i64 d, .int .i64 t, .int .i64 (↑i : Int)], [.ro encLook [PUnit.unit], .ro (encHd 2) hs, Blk.rows false IntKind.u32 q.2, .ro (encInt IntKind.u8) q.4, .own [.a (encInt IntKind.u32) 60 l] 22, .own [.c (.sli 4 (.c 0) 1 (.v 60) (some (.v 60))), .c (.int .i64 c)] 68, Blk.rows true IntKind.u32 q.2, .vec (encHd 6) gs 34, .own [.c (.int .i64 x.1), .c (.int .i64 x.2), .c (.int .i64 x.3), .c (.sli 7 (.c 0) 1 (.v gs.length) none), .c (.int .i64 x.4)] 70, .own [.c (.int .i64 y.1), .c (.int .i64 y.2), .c (.int .i64 y.3), .c (.int .i64 y.4), .c (.int .u32 y.5), .a (encInt IntKind.u32) 32 y.6, .c (.sb y.7), .c (.int .i64 y.8)] 73]))

 (.ret (.normal, [.bad, .sli 1 (.c 0) 1 (.v q.2.length) (some (.v q.3)), .sli 3 (.c 0) 1 (.v q.4.length) (some (.v q.5)), .ptr 5 0, .ptr 8 0, .ptr 9 0, .int .i64 d, .int .i64 t, .int .i64 (↑i : Int)], [.ro encLook [PUnit.unit], .ro (encHd 2) hs, Blk.rows false IntKind.u32 q.2, .ro (encInt IntKind.u8) q.4, .own [.a (encInt IntKind.u32) 60 l] 22, .own [.c (.sli 4 (.c 0) 1 (.v 60) (some (.v 60))), .c (.int .i64 c)] 68, Blk.rows true IntKind.u32 q.2, .vec (encHd 6) gs 34, .own [.c (.int .i64 x.1), .c (.int .i64 x.2), .c (.int .i64 x.3), .c (.sli 7 (.c 0) 1 (.v gs.length) none), .c (.int .i64 x.4)] 70, .own [.c (.int .i64 y.1), .c (.int .i64 y.2), .c (.int .i64 y.3), .c (.int .i64 y.4), .c (.int .u32 y.5), .a (encInt IntKind.u32) 32 y.6, .c (.sb y.7), .c (.int .i64 y.8)] 73]))))

 (.br (y.7)

 (.ret (.ret, [.bl true, .sli 1 (.c 0) 1 (.v q.2.length) (some (.v q.3)), .sli 3 (.c 0) 1 (.v q.4.length) (some (.v q.5)), .ptr 5 0, .ptr 8 0, .ptr 9 0, .int .i64 d, .int .i64 t, .int .i64 (↑i : Int)], [.ro encLook [PUnit.unit], .ro (encHd 2) hs, Blk.rows false IntKind.u32 q.2, .ro (encInt IntKind.u8) q.4, .own [.a (encInt IntKind.u32) 60 l] 22, .own [.c (.sli 4 (.c 0) 1 (.v 60) (some (.v 60))), .c (.int .i64 c)] 68, Blk.rows true IntKind.u32 q.2, .vec (encHd 6) gs 34, .own [.c (.int .i64 x.1), .c (.int .i64 x.2), .c (.int .i64 x.3), .c (.sli 7 (.c 0) 1 (.v gs.length) none), .c (.int .i64 x.4)] 70, .own [.c (.int .i64 y.1), .c (.int .i64 y.2), .c (.int .i64 y.3), .c (.int .i64 y.4), .c (.int .u32 y.5), .a (encInt IntKind.u32) 32 y.6, .c (.sb y.7), .c (.int .i64 y.8)] 73]))

 (.ret (.normal, [.bad, .sli 1 (.c 0) 1 (.v q.2.length) (some (.v q.3)), .sli 3 (.c 0) 1 (.v q.4.length) (some (.v q.5)), .ptr 5 0, .ptr 8 0, .ptr 9 0, .int .i64 d, .int .i64 t, .int .i64 (↑i : Int)], [.ro encLook [PUnit.unit], .ro (encHd 2) hs, Blk.rows false IntKind.u32 q.2, .ro (encInt IntKind.u8) q.4, .own [.a (encInt IntKind.u32) 60 l] 22, .own [.c (.sli 4 (.c 0) 1 (.v 60) (some (.v 60))), .c (.int .i64 c)] 68, Blk.rows true IntKind.u32 q.2, .vec (encHd 6) gs 34, .own [.c (.int .i64 x.1), .c (.int .i64 x.2), .c (.int .i64 x.3), .c (.sli 7 (.c 0) 1 (.v gs.length) none), .c (.int .i64 x.4)] 70, .own [.c (.int .i64 y.1), .c (.int .i64 y.2), .c (.int .i64 y.3), .c (.int .i64 y.4), .c (.int .u32 y.5), .a (encInt IntKind.u32) 32 y.6, .c (.sb y.7), .c (.int .i64 y.8)] 73])))))))))) := by kernel_rfl
end Go.Proofs.YtmknmbacecjfmaaDoor

/- SeqlockTries: its call. -/
namespace Go.Proofs.YtmknmbacecjfmaaDoor
open Go Go.Proofs.YtmknmbacecjfmaaDoor.Sx
set_option linter.unusedVariables false
/-- a reader's tries, and a writer's steps since the last one began -/
structure TK (l : List Int) (y : Rd) (d : Int) : Prop where
  d0 : 0 ≤ d
  k1 : y.ph = 0 → 0 < y.tries → 0 < d
  k2 : ¬ y.ph = 0 → 0 < y.tries ∧ (d = 0 → l.getD 0 0 = y.sq)
structure TDone (l : List Int) (c : Int) (y : Rd) (d : Int) : Prop where
  up : y.tries < (rNext 60 y l c).y.tries → (rNext 60 y l c).y.tries = y.tries + 1 ∧ (0 < y.tries → 0 < d)
  k : (rNext 60 y l c).y.got = false → TK l (rNext 60 y l c).y (if y.tries < (rNext 60 y l c).y.tries then 0 else d)
  g : (rNext 60 y l c).y.got = true → 0 < (rNext 60 y l c).y.tries
theorem t_done {l : List Int} {c : Int} {y : Rd} {d : Int} (hk : ROk 60 l c y) (ha : y.at' = 0) (hg : y.got = false) (h : TK l y d) : TDone l c y d := by
  obtain ⟨at', yn, i, ph, sq, buf, got, tries⟩ := y
  have hp := hk.p
  have hi := hk.i
  have hn := hk.n
  have ht := hk.t
  obtain ⟨h0, h1, h2⟩ := h
  simp only at hp hi hn ht ha hg h1 h2
  subst ha hg
  by_cases e0 : ph = 0
  · have ea : 0 ≤ rAt ⟨0, yn, i, ph, sq, buf, false, tries⟩ ∧ rAt ⟨0, yn, i, ph, sq, buf, false, tries⟩ < ((60 : Nat) : Int) := by
      unfold rAt; rw [if_neg (by simp only; omega)]; simp only; omega
    by_cases e1 : (l.getD (0 : Int).toNat 0).tmod 2 = 0
    · have hR : rNext 60 ⟨0, yn, i, ph, sq, buf, false, tries⟩ l c = ⟨⟨0, yn, 0, 1, l.getD (0 : Int).toNat 0, buf, false, tries + 1⟩, c + 1, false⟩ := by
        unfold rNext
        rw [if_neg (by simp), if_pos ea]
        simp only [if_pos e0, if_pos e1]
      refine ⟨?_, ?_, ?_⟩ <;> rw [hR]
      · exact fun _ => ⟨rfl, fun h => h1 e0 h⟩
      · intro _
        simp only
        rw [if_pos (by omega)]
        exact ⟨Int.le_refl _, fun h => by simp only at h; omega, fun _ => ⟨by simp only; omega, fun _ => rfl⟩⟩
      · intro h; cases h
    · have hR : rNext 60 ⟨0, yn, i, ph, sq, buf, false, tries⟩ l c = ⟨⟨0, yn, i, ph, sq, buf, false, tries⟩, c + 1, false⟩ := by
        unfold rNext
        rw [if_neg (by simp), if_pos ea]
        simp only [if_pos e0, if_neg e1]
      refine ⟨?_, ?_, ?_⟩ <;> rw [hR]
      · intro h; simp only at h; omega
      · intro _
        simp only
        rw [if_neg (by omega)]
        exact ⟨h0, h1, h2⟩
      · intro h; cases h
  obtain ⟨k1, k2⟩ := h2 e0
  by_cases e1 : ph = 1
  · have hi := hi e1
    have ea : 0 ≤ rAt ⟨0, yn, i, ph, sq, buf, false, tries⟩ ∧ rAt ⟨0, yn, i, ph, sq, buf, false, tries⟩ < ((60 : Nat) : Int) := by
      unfold rAt; rw [if_pos (by exact e1)]; simp only; omega
    have hR : rNext 60 ⟨0, yn, i, ph, sq, buf, false, tries⟩ l c = ⟨⟨0, yn, i + 1, if i + 1 = yn then 2 else 1, sq, buf.set i.toNat (l.getD ((0 : Int) + (1 + i)).toNat 0), false, tries⟩, c + 1, false⟩ := by
      unfold rNext
      rw [if_neg (by simp), if_pos ea]
      simp only [if_neg e0, if_pos e1]
    refine ⟨?_, ?_, ?_⟩ <;> rw [hR]
    · intro h; simp only at h; omega
    · intro _
      simp only
      rw [if_neg (show ¬ tries < tries by omega)]
      refine ⟨h0, fun h => ?_, fun _ => ⟨k1, k2⟩⟩
      simp only at h
      split at h <;> omega
    · intro h; cases h
  · have ea : 0 ≤ rAt ⟨0, yn, i, ph, sq, buf, false, tries⟩ ∧ rAt ⟨0, yn, i, ph, sq, buf, false, tries⟩ < ((60 : Nat) : Int) := by
      unfold rAt; rw [if_neg (by exact e1)]; simp only; omega
    have hR : rNext 60 ⟨0, yn, i, ph, sq, buf, false, tries⟩ l c = ⟨⟨0, yn, i, 0, sq, buf, l.getD (0 : Int).toNat 0 == sq, tries⟩, c + 1, l.getD (0 : Int).toNat 0 == sq⟩ := by
      unfold rNext
      rw [if_neg (by simp), if_pos ea]
      simp only [if_neg e0, if_neg e1]
    refine ⟨?_, ?_, ?_⟩ <;> rw [hR]
    · intro h; simp only at h; omega
    · intro hgf
      simp only at hgf ⊢
      rw [if_neg (by omega)]
      refine ⟨h0, fun _ _ => ?_, fun h => absurd rfl h⟩
      by_cases hd : d = 0
      · have := k2 hd
        rw [beq_eq_false_iff_ne] at hgf
        exact absurd this hgf
      · omega
    · intro _; exact k1
theorem tk_w {l l' : List Int} {y : Rd} {d : Int} (h : TK l y d) : TK l' y (d + 1) :=
  ⟨by have := h.d0; omega, fun _ _ => by have := h.d0; omega, fun hp => ⟨(h.k2 hp).1, fun hd => by have := h.d0; omega⟩⟩
abbrev Q6 (w0 : From) : Exit → Act → World → Prop := bodyPost Tryd.prog Tryd.f6 (Said w0)
def InvT (w0 : From) (q : InW) (n : Nat) (e0 : Int) (i : Nat) (a : Act) (W : World) : Prop :=
  i ≤ 300 ∧ ∃ l c x y bf d, LW q n e0 i l c x y bf ∧ y.got = false ∧ TK l y d ∧ d ≤ (i : Int) ∧ ∃ env, At [(0, 0)] w0 env (fr 137 mWi (uWi q d y.tries i)) (sWs q l c x y) a W
abbrev RT (w0 : From) (q : InW) (n : Nat) (e0 : Int) (i : Nat) : Exit → Act → World → Prop :=
  Exit.then (fun a' w' => ∃ k, InvT w0 q n e0 k a' w' ∧ 300 - k < 300 - i) (Exit.inBlock 0 (Exit.then (end6.wp Tryd.prog (Q6 w0)) (Q6 w0)))
abbrev BT (w0 : From) (q : InW) (n : Nat) (e0 : Int) (i : Nat) : Exit → Act → World → Prop :=
  Exit.inBlock 1 (Exit.then (inc6.wp Tryd.prog (RT w0 q n e0 i)) (RT w0 q n e0 i))
theorem nextT {w0 : From} {q : InW} {n : Nat} {e0 : Int} {i : Nat} (hi : i < 300) {l : List Int} {c : Int} {x : Wr} {y : Rd} {bf d : Int} (h : LW q n e0 (i + 1) l c x y bf) (hg : y.got = false) (hk : TK l y d) (hd : d ≤ ((i + 1 : Nat) : Int)) {env : Env} {a : Act} {W : World} (hA : At [(0, 0)] w0 env (fr 137 mWi (uWi q d y.tries i)) (sWs q l c x y) a W) :
    inc6.wp Tryd.prog (RT w0 q n e0 i) a W := by
  refine pieceT0 (c := cfgM) cfgM_ok mWi t_inc hA ?_
  refine all_needp (by simp only [inR_i64]; exact Iff.rfl) (by omega) fun _ => all_ret fun env4 a4 w4 hA4 => ?_
  exact ⟨i + 1, ⟨by omega, l, c, x, y, bf, d, h, hg, hk, hd, env4, hA4⟩, by omega⟩
theorem bt_exit {w0 : From} {q : InW} {n : Nat} {e0 : Int} {i : Nat} {a : Act} {W : World} (h : inc6.wp Tryd.prog (RT w0 q n e0 i) a W) : BT w0 q n e0 i (.exit 1) a W := by
  simp only [BT, Exit.then, Exit.inBlock, if_true]; exact h
theorem bt_norm {w0 : From} {q : InW} {n : Nat} {e0 : Int} {i : Nat} {a : Act} {W : World} (h : inc6.wp Tryd.prog (RT w0 q n e0 i) a W) : BT w0 q n e0 i .normal a W := by
  simp only [BT, Exit.then, Exit.inBlock]; exact h
theorem bt_ret {w0 : From} {q : InW} {n : Nat} {e0 : Int} {i : Nat} {a : Act} {W : World} (h : Q6 w0 .ret a W) : BT w0 q n e0 i .ret a W := by
  simp only [BT, RT, Exit.then, Exit.inBlock]; exact h
theorem bne_nat {x y : Int} : (x != y) = true ↔ ¬ x = y := by rw [bne_iff_ne]
set_option maxRecDepth 100000 in
set_option maxHeartbeats 8000000 in
theorem round6_ok {w0 : From} {q : InW} {n : Nat} {e0 : Int} {i : Nat} {a : Act} {W : World} (hI : InvT w0 q n e0 i a W) : round6.wp Tryd.prog (RT w0 q n e0 i) a W := by
  obtain ⟨hi, l, c, x, y, bf, d, h, hg, hk, hd, env, hA⟩ := hI
  have hn := h.vs.n
  have hcc := h.cc
  have htt := h.tt
  have hd0 := hk.d0
  refine wpS (by kernel_rfl) ?_
  refine pieceT0 (c := cfgM) cfgM_ok mWi t_tm hA ?_
  have out : ∀ {env : Env} {a : Act} {W : World}, At [(0, 0)] w0 env (fr 137 mWi (uWi q d y.tries i)) (sWs q l c x y) a W → RT w0 q n e0 i (.exit 0) a W := by
    intro env a W hA
    simp only [RT, Exit.then, Exit.inBlock, if_true]
    refine pieceT0 (c := cfgM) cfgM_ok [6] t_end hA ?_
    exact all_ret fun _ _ _ h => h.said (by kernel_rfl)
  refine all_brp (by simp only [decide_eq_true_eq]; exact Iff.rfl) (fun h1 => ?_) (fun h1 => all_ret fun _ _ _ h => out h)
  refine all_brp (by simp only [decide_eq_true_eq]; exact Iff.rfl) (fun h2 => all_ret fun env1 a1 w1 hA1 => ?_) (fun h2 => all_ret fun _ _ _ h => out h)
  simp only [Ex.to, Exit.then]
  refine (show (rgt round6).wp _ _ _ _ from wpS (by kernel_rfl) (wpB 1 (by kernel_rfl) ?_))
  refine (show bb6.wp Tryd.prog (BT w0 q n e0 i) a1 w1 from ?_)
  refine pieceNT0 (c := cfgSt q (hdL q.xss) (hdL q.xss) l c x y (wNext 60 q.xss x l c).l (wNext 60 q.xss x l c).c (wNext 60 q.xss x l c).x (wNext 60 q.xss x l c).b (rNext 60 y l c).c (rNext 60 y l c).y (rNext 60 y l c).b (WOk 60 q.xss l c x) (ROk 60 l c y)) (cfgSt_ok rfl) 1 mWi u_a hA1 ?_
  simp only [Int.toNat_natCast]
  refine all_needq (by simp only [decide_eq_true_eq, Bool.and_eq_true]; exact Iff.rfl) (by omega) ?_
  refine all_needq (by simp only [decide_eq_true_eq]; exact Iff.rfl) (by omega) ?_
  refine all_br (fun _ => ?_) (fun _ => all_ret fun env2 a2 w2 hA2 => ?_)
  · refine all_eq ⟨by first | exact True.intro | rfl, by first | exact True.intro | rfl, h.wi.ok⟩ ?_
    refine all_needq (by simp only [inR_i64]; exact Iff.rfl) (by omega) ?_
    refine all_ret fun env2 a2 w2 hA2 => ?_
    obtain ⟨g1, g2, g3, g4⟩ := wNext_ver h.wi (Nat.zero_le _)
    have hwi := wi_step h.vs (Nat.zero_le _) h.wi (by omega)
    have hri := ri_w h.wi (Nat.zero_le _) h.ri
    have hrk := h.rk
    obtain ⟨k1, k2, k3, k4, k5, k6, k7, k8⟩ := hrk
    have hlw : LW q n e0 (i + 1) (wNext 60 q.xss x l c).l (wNext 60 q.xss x l c).c (wNext 60 q.xss x l c).x y bf := ⟨h.vs, hwi, ⟨hwi.ok.kl, by omega, k3, k4, k5, k6, k7, k8⟩, hri, by omega, by omega⟩
    exact bt_exit (nextT (by omega) hlw hg (tk_w hk) (by omega) hA2)
  simp only [Ex.to, Exit.then]
  have hdn := r_done h.vs (Nat.zero_le _) h.wi h.rk h.ri hg
  have htd := t_done h.rk (by have := h.ri.at'; omega) hg hk
  refine (show (restC 1 bb6).wp Tryd.prog (BT w0 q n e0 i) a2 w2 from ?_)
  refine pieceNT0 (c := cfgSt q (hdL q.xss) (hdL q.xss) l c x y (wNext 60 q.xss x l c).l (wNext 60 q.xss x l c).c (wNext 60 q.xss x l c).x (wNext 60 q.xss x l c).b (rNext 60 y l c).c (rNext 60 y l c).y (rNext 60 y l c).y.got (WOk 60 q.xss l c x) (ROk 60 l c y)) (cfgSt_ok hdn.b.symm) 1 mWb u_c hA2 ?_
  refine all_eq ⟨rfl, rfl, h.rk⟩ (all_ret fun env3 a3 w3 hA3 => ?_)
  simp only [Ex.to, Exit.then]
  have hk2 := rNext_ok h.rk (by rw [hdn.cc]; omega) (by have := hdn.t; omega)
  obtain ⟨u1, u2, u3, u4, u5⟩ := hdn
  obtain ⟨s1, s2, s3⟩ := htd
  generalize (rNext 60 y l c).y = y2 at *
  generalize (rNext 60 y l c).c = c2 at *
  have hwi : WI 0 q.xss n e0 l c2 x := by
    obtain ⟨⟨g1, g2, g3, g4, g5, g6, g7, g8, g9, g10⟩, g11, g12, g13, g14⟩ := h.wi
    exact ⟨⟨g1, g2, g3, g4, by omega, g6, g7, g8, g9, g10⟩, g11, g12, g13, g14⟩
  have hlw : LW q n e0 (i + 1) l c2 x y2 (if y.tries < y2.tries then x.ver else bf) := ⟨h.vs, hwi, hk2, u4, by omega, by omega⟩
  have sayT : ∀ {env : Env} {a : Act} {W : World} {vs : List SVal} {S : St}, At [(0, 0)] w0 env (fr 137 ([6] ++ mWi) ([.bl true] ++ vs)) S a W → BT w0 q n e0 i .ret a W := by
    intro env a W vs S hA
    have hA1 : At [(0, 0)] w0 env (fr 137 [6] [.bl true]) S a W := At.few (names := [6]) (extra := mWi) (vals := [.bl true]) (ev := vs) hA rfl
    exact bt_ret (At.said (c := cfgM) hA1 (by kernel_rfl))
  have fin : y2.got = false → ∀ {d' : Int}, d' = (if y.tries < y2.tries then 0 else d) → ∀ {env : Env} {a : Act} {W : World}, At [(0, 0)] w0 env (fr 137 (6 :: mWi) (.bad :: uWi q d' y2.tries i)) (sWs q l c2 x y2) a W → BT w0 q n e0 i .normal a W := by
    intro hgf d' hd' env a W hA
    subst hd'
    exact bt_norm (nextT (by omega) hlw hgf (s2 hgf) (by split <;> omega) (hA.drop1 rfl))
  refine (show (restC 2 bb6).wp Tryd.prog (BT w0 q n e0 i) a3 w3 from ?_)
  refine pieceT0 (c := cfgM) cfgM_ok (6 :: mWi) u_d hA3 ?_
  have hyn2 := hk2.n
  obtain ⟨b1, b2, b3, b4, b5, b6, got, b8⟩ := y2
  simp only at s1 s3 fin hyn2 u3
  refine all_brp (by simp only [decide_eq_true_eq]; exact Iff.rfl) (fun ht => ?_) (fun ht => ?_)
  · obtain ⟨v1, v2⟩ := s1 ht
    refine all_needq (by simp only [inR_i64]; exact Iff.rfl) (by omega) ?_
    refine all_brf bne_nat (fun h => h v1) ?_
    have go : ∀ {t : T (Ex × List SVal × St)} {R : Ex × List SVal × St → Prop}, All R t → (0 < y.tries → All R t) := fun h _ => h
    cases got with
    | false =>
      have hfin := @fin rfl 0 (by rw [if_pos ht])
      refine all_brp (by simp only [decide_eq_true_eq]; exact Iff.rfl) (fun hp => ?_) (fun hp => ?_)
      · refine all_brf (p := d = 0) beq_iff_eq (by have := v2 hp; omega) ?_
        refine all_br (fun _ => ?_) (fun hh => by cases hh)
        refine all_br (fun hh => by cases hh) (fun _ => ?_)
        refine all_br (fun hh => by cases hh) (fun _ => ?_)
        refine all_br (fun hh => by cases hh) (fun _ => ?_)
        exact all_ret fun env4 a4 w4 hA4 => hfin (At.gvals hA4 (.bad :: uWi q 0 b8 i) rfl)
      · refine all_br (fun _ => ?_) (fun hh => by cases hh)
        refine all_br (fun hh => by cases hh) (fun _ => ?_)
        refine all_br (fun hh => by cases hh) (fun _ => ?_)
        refine all_br (fun hh => by cases hh) (fun _ => ?_)
        exact all_ret fun env4 a4 w4 hA4 => hfin (At.gvals hA4 (.bad :: uWi q 0 b8 i) rfl)
    | true =>
      have hpos := s3 rfl
      refine all_brp (by simp only [decide_eq_true_eq]; exact Iff.rfl) (fun hp => ?_) (fun hp => ?_)
      · refine all_brf (p := d = 0) beq_iff_eq (by have := v2 hp; omega) ?_
        refine all_br (fun hh => by cases hh) (fun _ => ?_)
        refine all_needq (by simp only [decide_eq_true_eq, Bool.and_eq_true]; exact Iff.rfl) (by omega) ?_
        refine all_needq (by simp only [decide_eq_true_eq, Bool.and_eq_true]; exact Iff.rfl) (by omega) ?_
        refine all_need (decide_eq_true (Nat.zero_le _)) fun _ => ?_
        refine all_br (fun hh => by cases hh) (fun _ => ?_)
        refine all_br (fun _ => ?_) (fun hh => by cases hh)
        refine all_brf (p := b8 = 0) beq_iff_eq (by omega) ?_
        refine all_br (fun _ => ?_) (fun hh => by cases hh)
        exact all_ret fun env4 a4 w4 hA4 => sayT hA4
      · refine all_br (fun hh => by cases hh) (fun _ => ?_)
        refine all_needq (by simp only [decide_eq_true_eq, Bool.and_eq_true]; exact Iff.rfl) (by omega) ?_
        refine all_needq (by simp only [decide_eq_true_eq, Bool.and_eq_true]; exact Iff.rfl) (by omega) ?_
        refine all_need (decide_eq_true (Nat.zero_le _)) fun _ => ?_
        refine all_br (fun hh => by cases hh) (fun _ => ?_)
        refine all_br (fun _ => ?_) (fun hh => by cases hh)
        refine all_brf (p := b8 = 0) beq_iff_eq (by omega) ?_
        refine all_br (fun _ => ?_) (fun hh => by cases hh)
        exact all_ret fun env4 a4 w4 hA4 => sayT hA4
  · have ht2 : y.tries = b8 := by omega
    cases got with
    | false =>
      have hfin := @fin rfl d (by rw [if_neg ht])
      refine all_br (fun _ => ?_) (fun hh => by cases hh)
      refine all_br (fun hh => by cases hh) (fun _ => ?_)
      refine all_br (fun hh => by cases hh) (fun _ => ?_)
      refine all_br (fun hh => by cases hh) (fun _ => ?_)
      refine all_ret fun env4 a4 w4 hA4 => ?_
      rw [ht2] at hA4
      exact hfin hA4
    | true =>
      have hpos := s3 rfl
      refine all_br (fun hh => by cases hh) (fun _ => ?_)
      refine all_needq (by simp only [decide_eq_true_eq, Bool.and_eq_true]; exact Iff.rfl) (by omega) ?_
      refine all_needq (by simp only [decide_eq_true_eq, Bool.and_eq_true]; exact Iff.rfl) (by omega) ?_
      refine all_need (decide_eq_true (Nat.zero_le _)) fun _ => ?_
      refine all_br (fun hh => by cases hh) (fun _ => ?_)
      refine all_br (fun _ => ?_) (fun hh => by cases hh)
      refine all_brf (p := y.tries = 0) beq_iff_eq (by omega) ?_
      refine all_br (fun _ => ?_) (fun hh => by cases hh)
      exact all_ret fun env4 a4 w4 hA4 => sayT hA4
end Go.Proofs.YtmknmbacecjfmaaDoor

/- SeqlockTries: from its beginning. -/
namespace Go.Proofs.YtmknmbacecjfmaaDoor
open Go Go.Proofs.YtmknmbacecjfmaaDoor.Sx
set_option linter.unusedVariables false
theorem b6_eq : Tryd.f6.body = some b6 := by kernel_rfl
set_option maxRecDepth 100000 in
set_option maxHeartbeats 8000000 in
theorem tries_call {q : InW} (hsz : q.xss.length * 24 ≤ 140737488355328) (hus : ∀ i, U32s (q.xss.getD i [])) {e0 e1 e2 e3 : Slot} (he : e0.blk = 0 ∧ e0.off = 0) {w : World} {v0 v1 v2 : Value} (hr : Rep [e0, e1, e2, e3] (s0W q (hdL q.xss)) w) (h0 : Den [e0, e1, e2, e3] (.int .u32 q.first) v0) (h1 : Den [e0, e1, e2, e3] (vsV q.xss q.cp) v1) (h2 : Den [e0, e1, e2, e3] (acV q 3) v2) :
    Calls Tryd.prog 6 ⟨[v0, v1, v2]⟩ w (Said ⟨w, fun _ => False⟩) := by
  refine call_begin (c := cfgM) Tryd.func6 b6_eq (args := argW q) (by
    intro p hp
    rw [List.mem_singleton.1 hp]
    exact ⟨e0, rfl, he⟩) hr ⟨_, _, rfl, h0, _, _, rfl, h1, _, _, rfl, h2, rfl⟩ (F := fun _ => False) (fun x h => noFootW x h) ?_
  intro a hA
  have hhl := hdL_len q.xss
  refine pieceNT0 (c := cfgM) cfgM_ok 2 mA (t_a (hs := hdL q.xss)) hA (all_ret fun env1 a1 w1 hA1 => ?_)
  simp only [Ex.to, Exit.then]
  have hA2 := hA1.segs 5 (l' := [.a (encInt .u32) 60 z60]) rfl (by intro s hs; rw [List.mem_singleton.1 hs]; exact List.length_replicate) (fun cs h => denL_gen2 (by kernel_rfl) h)
  have hA3 := hA2.perm [0, 1, 2, 3, 5, 4] (by kernel_rfl) (by kernel_rfl) (st' := inS q.xss (hdL q.xss) ++ [.ro (encInt .u8) q.acts, .own [.a (encInt .u32) 60 z60] 22, .own [.c (.sli 4 (.c 0) 1 (.c 60) (some (.c 60))), .c (.lit .i64 0)] 68]) (vals' := vA q) (by kernel_rfl) (by kernel_rfl)
  have hA4 : At [(0, 0)] ⟨w, fun _ => False⟩ _ (fr 137 mA (vA q)) (sI 60 q.acts q.xss (hdL q.xss) z60 0) a1 w1 := hA3.gen rfl
  refine (show (restC 2 b6).wp Tryd.prog (Q6 ⟨w, fun _ => False⟩) a1 w1 from ?_)
  by_cases hok : okV q.xss
  · refine pieceNT0 (c := cfgNw 60 q.acts (.lit .i64 0) q.xss (hdL q.xss) q.cp z60 0 True (.tup [.ptr 8 0, .lit .i64 0]) (sM 60 q.acts q.xss (hdL q.xss) (hdL q.xss) z60 0 (wr0 0))) (cfgNw_ok fun _ env w vs hg hr hd => newL_ok hsz hok env w vs hg hr hd) 1 mB (t_b (a := 0)) hA4 ?_
    refine all_eq ⟨rfl, rfl, trivial⟩ (all_ret fun env5 a5 w5 hA5 => ?_)
    simp only [Ex.to, Exit.then]
    refine (show (restC 3 b6).wp Tryd.prog (Q6 ⟨w, fun _ => False⟩) a5 w5 from ?_)
    refine pieceNT0 (c := cfgFw (sM 60 q.acts q.xss (hdL q.xss) (hdL q.xss) z60 0 (wr0 0)) q.xss q.cp True (fewB q.xss)) (cfgFw_ok (rest := [.ro (encInt .u8) q.acts] ++ memS 60 z60 0 ++ wrS 6 (wr0 0) q.xss (hdL q.xss)) rfl) 1 (6 :: mC) t_c hA5 ?_
    refine all_eq rfl (all_eq ⟨rfl, rfl, trivial⟩ ?_)
    have sayT : ∀ {env : Env} {a : Act} {W : World} {vs : List SVal} {S : St}, At [(0, 0)] ⟨w, fun _ => False⟩ env (fr 137 ([6] ++ mC) ([.bl true] ++ vs)) S a W → Q6 ⟨w, fun _ => False⟩ .ret a W := by
      intro env a W vs S hA
      have hA1 : At [(0, 0)] ⟨w, fun _ => False⟩ env (fr 137 [6] [.bl true]) S a W := At.few (names := [6]) (extra := mC) (vals := [.bl true]) (ev := vs) hA rfl
      exact At.said (c := cfgM) hA1 (by kernel_rfl)
    refine all_brp (p := ¬ fewV q.xss) (by rw [← fewB_iff]; simp) (fun hn => all_eq rfl (all_ret fun env6 a6 w6 hA6 => sayT hA6)) (fun hf => ?_)
    have hf : fewV q.xss := Classical.not_not.1 hf
    refine all_brp (by exact beq_iff_eq) (fun hn => all_eq rfl (all_ret fun env6 a6 w6 hA6 => sayT hA6)) (fun hne => all_ret fun env6 a6 w6 hA6 => ?_)
    simp only [Ex.to, Exit.then]
    have hA7 : At [(0, 0)] ⟨w, fun _ => False⟩ env6 (fr 137 mC (vC q)) (sM 60 q.acts q.xss (hdL q.xss) (hdL q.xss) z60 0 (wr0 0)) a6 w6 := hA6.drop1 rfl
    have hlen : 1 ≤ q.xss.length := by omega
    have hlen2 := hf.1
    have hget := hdL_get (xss := q.xss) (i := 0) (by omega)
    have hn0 := (hok 0 (by omega)).1
    have hrow : ∀ i, i < q.xss.length → (q.xss.getD i []).length = (q.xss.getD 0 []).length := fun i hi => (hok i hi).2
    have ht := @t_d q (hdL q.xss) (hdL q.xss) z60 0 (wr0 0)
    rw [hget] at ht
    generalize hN : (q.xss.getD 0 []).length = n at *
    refine (show (restC 4 b6).wp Tryd.prog (Q6 ⟨w, fun _ => False⟩) a6 w6 from ?_)
    refine pieceNT0 (c := cfgM) cfgM_ok 2 mD ht hA7 ?_
    obtain ⟨ev1, ev2, ev3⟩ := andNot_even q.first
    have eW : (z60.set 0 (bitop BinOp.or IntKind.u32 (bitop BinOp.and IntKind.u32 (z60.getD 0 (0 : Int)) (0 : Int)) (bitop BinOp.andNot IntKind.u32 q.first (1 : Int)))).set 0 (IntKind.u32.wrap ((z60.set 0 (bitop BinOp.or IntKind.u32 (bitop BinOp.and IntKind.u32 (z60.getD 0 (0 : Int)) (0 : Int)) (bitop BinOp.andNot IntKind.u32 q.first (1 : Int)))).getD 0 (0 : Int) + (0 : Int))) = z60.set 0 (bitop BinOp.andNot IntKind.u32 q.first 1) := by
      rw [Sx.getD_set_self (by simp), List.set_set, raw_set, Int.emod_eq_of_lt ev2 ev3]
    rw [eW]
    generalize bitop BinOp.andNot IntKind.u32 q.first 1 = E at *
    refine all_needq (by simp only [decide_eq_true_eq]; exact Iff.rfl) (by omega) ?_
    refine all_needq (by simp only [decide_eq_true_eq]; exact Iff.rfl) (by omega) ?_
    refine all_brt (by simp only [decide_eq_true_eq]; exact Iff.rfl) (by omega) ?_
    refine all_brf (p := ¬ (n : Int) ≤ 32) (by simp) (by omega) ?_
    refine all_br (fun hh => by cases hh) (fun _ => ?_)
    refine all_needq (by simp only [inR_i64]; exact Iff.rfl) (by omega) ?_
    repeat' (first
      | refine all_need rfl (fun _ => ?_)
      | refine all_eq trivial ?_
      | refine all_eq rfl ?_)
    refine all_ret fun env8 a8 w8 hA8 => ?_
    simp only [Ex.to, Exit.then]
    have hA9 := hA8.segs 9 (l' := [.c (.lit .i64 0), .c (.int .i64 (n : Int)), .c (.lit .i64 0), .c (.lit .i64 0), .c (.lit .u32 0), .a (encInt .u32) 32 z32, .c (.bl false), .c (.lit .i64 0)]) rfl (by
      intro s hs
      simp only [List.mem_cons, List.not_mem_nil, or_false] at hs
      rcases hs with rfl | rfl | rfl | rfl | rfl | rfl | rfl | rfl
      all_goals first | trivial | exact List.length_replicate) (fun cs h => denL_gen2 (by kernel_rfl) h)
    have hA10 : At [(0, 0)] ⟨w, fun _ => False⟩ env8 (fr 137 mD (uD q)) (sWs q (z60.set 0 E) 1 (wr0 0) (rd0 0 n)) a8 w8 := hA9.gen rfl
    refine (show (restC 6 b6).wp Tryd.prog (Q6 ⟨w, fun _ => False⟩) a8 w8 from ?_)
    refine pieceNT0 (c := cfgM) cfgM_ok 1 mW t_e hA10 (all_ret fun env11 a11 w11 hA11 => ?_)
    simp only [Ex.to, Exit.then]
    have hA12 := hA11.gvals (uW q 0 0) rfl
    refine (show c6.wp Tryd.prog (Q6 ⟨w, fun _ => False⟩) a11 w11 from wpS (by kernel_rfl) (wpS (by kernel_rfl) ?_))
    refine (show reg6.wp _ _ _ _ from ?_)
    refine pieceT0 (c := cfgM) cfgM_ok mWi t_reg hA12 (all_ret fun env13 a13 w13 hA13 => ?_)
    simp only [Ex.to, Exit.then]
    have hA14 := hA13.gvals (uWi q 0 0 0) rfl
    have hvs : Vs q.xss n E := ⟨⟨hlen, hlen2⟩, hrow, by omega, ev1⟩
    have hz : ∀ j : Nat, (z60.set 0 E).getD (0 + 1 + j) 0 = 0 := by
      intro j
      rw [Sx.getD_set_ne (by omega), List.getD_eq_getElem?_getD, List.getElem?_replicate]
      split <;> rfl
    have hwi : WI 0 q.xss n E (z60.set 0 E) 1 (wr0 0) := ⟨⟨⟨by omega, by simp⟩, hok, hus, by omega, by omega, by simp only; omega, by simp only; omega, by simp only; omega, fun h => by simp only at h; omega, fun h => by simp only at h; omega⟩, rfl, by
      rw [Sx.getD_set_self (by simp)]
      simp only [if_true]
      omega, fun _ j _ => by rw [hz j]; rfl, fun h => absurd rfl h⟩
    have hlw : LW q n E 0 (z60.set 0 E) 1 (wr0 0) (rd0 0 n) 0 := ⟨hvs, hwi, rd0_ok (by omega) (by omega) (by simp) (by omega), ⟨rfl, rfl, fun h => absurd rfl h⟩, by omega, by simp only; omega⟩
    refine (show blk6.wp _ _ _ _ from wpB 0 (by kernel_rfl) (wpL (by kernel_rfl) (InvT ⟨w, fun _ => False⟩ q n E) (fun i => 300 - i) 0 ⟨Nat.zero_le _, _, _, _, _, _, 0, hlw, rfl, ⟨Int.le_refl _, fun _ h => absurd h (Int.lt_irrefl 0), fun h => absurd rfl h⟩, Int.le_refl _, env13, hA14⟩ ?_))
    intro i a w h
    exact round6_ok h
  · refine pieceNT0 (c := cfgNw 60 q.acts (.lit .i64 0) q.xss (hdL q.xss) q.cp z60 0 True (.tup [.pnil, .lit .i64 100]) (sI 60 q.acts q.xss (hdL q.xss) z60 0)) (cfgNw_ok fun _ env w vs hg hr hd => newL_no hsz hok env w vs hg hr hd) 1 mB t_bn hA4 ?_
    refine all_eq ⟨rfl, rfl, trivial⟩ (all_ret fun env5 a5 w5 hA5 => ?_)
    simp only [Ex.to, Exit.then]
    refine (show (restC 3 b6).wp Tryd.prog (Q6 ⟨w, fun _ => False⟩) a5 w5 from ?_)
    refine pieceNT0 (c := cfgFw (sI 60 q.acts q.xss (hdL q.xss) z60 0) q.xss q.cp True (fewB q.xss)) (cfgFw_ok (rest := [.ro (encInt .u8) q.acts] ++ memS 60 z60 0) rfl) 1 [6] t_cn hA5 ?_
    repeat' (first
      | refine all_eq ⟨rfl, rfl, trivial⟩ ?_
      | refine all_eq rfl ?_
      | refine all_br (fun _ => ?_) (fun _ => ?_)
      | exact all_ret fun _ _ _ h => h.said (by kernel_rfl))
end Go.Proofs.YtmknmbacecjfmaaDoor

/- SeqlockTries: its row and its card. -/
namespace Go.Proofs.YtmknmbacecjfmaaDoor
open Go Go.Proofs.YtmknmbacecjfmaaDoor.Sx Go.ChangeShapes Go.WideShapes Go.ChangeAt Go.RowKit
set_option linter.unusedVariables false
set_option maxRecDepth 100000 in
theorem seqlockTries_lifted (os : Os) (started : os.Started) (H : Type) (enc : TypeId × Value → H) :
    ReturnsInHanded {} Tryd.checked os 6 .any (fun w args => (Rows.seqlockTriesSpec.pre enc Tryd.prog Tryd.f6 [] false w args ∧ laidMetH Tryd.prog laid1 w) ∧ sizedMet enc Tryd.prog Tryd.f6 (OpenSpec.ofChange Rows.seqlockTriesSpec) false w args)
      (Rows.seqlockTriesSpec.post enc Tryd.prog Tryd.f6 false true false false) := by
  refine returnsInHanded_of_change_and (C := Tryd.checked) (X := fun w _ => laidMetH Tryd.prog laid1 w) (fun _ _ _ hh h => h.of_heap hh) Tryd.own started (by kernel_rfl) Tryd.func6
    (ChangeSpec.witness_shaped (enc := enc) (C := Tryd.checked) (os := os) (X := fun w _ => laidMetH Tryd.prog laid1 w) false (World.doorLaid Tryd.prog 400 os) #[.int .u32 0, .slice none 0 0, .slice none 0 0] 8 rfl (World.shaped_of_RefB (by kernel_rfl) (by kernel_rfl)) (by kernel_rfl) (by kernel_rfl) (by kernel_rfl) (door_met os _)) ?_
  intro W base args ds gs before hval0 hW _ hwt hL _
  have hval : ∀ (j : Nat) t v, Tryd.f6.params[j]? = some t → args[j]? = some v → Value.okWide Tryd.prog W .any base t v := hval0
  have hW' := hW
  obtain ⟨p, q, hA0, hV, rfl, hfz, hnd⟩ := hW
  have hA : DataW.TrodAll enc Tryd.prog W 0 (fun _ => true) true Tryd.f6.params.toList args.toList ds p := hA0
  rw [Tryd.params6] at hA hval
  obtain ⟨v0, v1, v2, d0, d1, d2, p0, p1, p2, rfl, rfl, rfl, h0, h1, h2⟩ := trodAll_three hA
  obtain ⟨rfl, rfl⟩ := trodVars_none hV
  obtain ⟨a, rfl, rfl, rfl, wa⟩ := open_int Tryd.underlying22 (hval 0 22 v0 rfl rfl) h0
  clear hA0 hval0
  have hlt1 : ∀ x ∈ p1, x.block < W.heap.size := fun x hx => by simpa using hW'.lt x (by simp [hx])
  have hlt2 : ∀ x ∈ p2, x.block < W.heap.size := fun x hx => by simpa using hW'.lt x (by simp [hx])
  obtain ⟨e0, he, hr0⟩ := of_laid hL
  have fin : ∀ e W', Said ⟨W, fun _ => False⟩ e W' → ∃ v, e = .returned v ∧ Rows.seqlockTriesSpec.post enc Tryd.prog Tryd.f6 false true false false W #[.int .u32 a, v1, v2] v W' := by
    rintro e W' ⟨rfl, hsz, hk, hc⟩
    have hk' : ∀ x, x < W.heap.size → W'.heap[x]? = W.heap[x]? := fun x hx => hk x hx (fun h => h)
    refine ⟨_, rfl, _, _, _, [], _, [], hW', ⟨[], [], shut_bool Tryd.underlying4 true, rfl, rfl⟩, trodAll_mk3 (shut_int Tryd.underlying22 wa) (trod_same Tryd.laidOut (by kernel_rfl) (of_decide_eq_true (by kernel_rfl)) h1 hk' hlt1) (trod_same Tryd.laidOut (by kernel_rfl) (of_decide_eq_true (by kernel_rfl)) h2 hk' hlt2), rfl, keptBut_of _ hc hk', fun h => by cases h⟩
  have hwt' : (DataW.weights Tryd.prog 23 d1 ++ DataW.weightsEach Tryd.prog ([24] ++ Rows.seqlockTriesSpec.plain.varTypes Tryd.prog) ([d2] ++ [])).all (· ≤ reachBytes) = true := by
    have h9 := hwt
    rw [Tryd.params6] at h9
    simp only [List.cons_append, List.nil_append, DataW.weightsEach, List.all_append, Bool.and_eq_true] at h9 ⊢
    exact h9.2
  obtain ⟨xss, cp, e1, e2, hsz, hus, hr1, hd1⟩ := open_vers (hval 1 23 v1 rfl rfl) h1 hwt' he hr0
  obtain ⟨ac, ca, e3, hr3, hd3⟩ := open_sli (encInt .u8) Tryd.underlying24 (by kernel_rfl) open_bytes rfl (hval 2 24 v2 rfl rfl) h2
  obtain ⟨hr, hn1⟩ := ro_add hr1 (by
    intro b hb e
    simp only [List.mem_cons, List.not_mem_nil, or_false] at hb
    rcases hb with rfl | rfl | rfl <;> rfl) rfl hr3
  have g1 : Den ([e0, e1, e2] ++ [e3]) (vsV xss cp) v1 := den_wide hd1
  have g2 : Den ([e0, e1, e2] ++ [e3]) (acV ⟨a, xss, cp, ac, ca⟩ 3) v2 := den_add (env := [e0, e1, e2]) (n := 3) hd3 rfl
  exact (tries_call (q := ⟨a, xss, cp, ac, ca⟩) hsz hus he hr rfl g1 g2).mono fun e W' h => fin e W' h
theorem seqlockTries_row : Rows.SeqlockTriesSaid :=
  OpenClaim.holds_of_wide 6 Tryd.f6 rfl rfl rfl rfl rfl rfl rfl ⟨rfl, rfl, rfl, rfl, rfl⟩ rfl rfl rfl rfl rfl (by kernel_rfl) Tryd.func6 (by kernel_rfl)
    (of_decide_eq_true (by kernel_rfl)) (by unfold Func.isWrapper; first | (rw [if_pos (by decide +kernel)]; kernel_rfl) | (rw [if_neg (by decide +kernel)]; exact ⟨rfl, rfl⟩))
    (fun os started H enc _ => seqlockTries_lifted os started H enc)
theorem seqlockTries_holds : Rows.SeqlockTriesCardSaid :=
  Claim7.holds_tied_plain_at .later [] [.data] true _ _ seqlockTries_row (fun _ h => by cases h) (by kernel_rfl) (fun _ h => by cases h) seqlockTries_row_tie rfl ⟨rfl, rfl⟩ (by kernel_rfl) rfl
    (fun f fn hf hfn => by
      obtain rfl : f = 6 := Option.some.inj ((show Tryd.prog.funcNamed "purlin/purlinlaw10.SeqlockTries" = some 6 by kernel_rfl).symm.trans hf) |>.symm
      obtain rfl : fn = Tryd.f6 := (Option.some.inj (Tryd.func6.symm.trans hfn)).symm
      exact ⟨by kernel_rfl, fun j t ht => by
        rw [Tryd.params6] at ht
        have hm : t ∈ [22, 23, 24] := by simpa using Array.mem_of_getElem? ht
        have hall : ([22, 23, 24].all fun u => !Tryd.prog.wantsStandIn u) = true := by kernel_rfl
        exact (show Tryd.prog.wantsStandIn t = false by simpa using List.all_eq_true.1 hall t hm)⟩)
    (by kernel_rfl)
end Go.Proofs.YtmknmbacecjfmaaDoor

