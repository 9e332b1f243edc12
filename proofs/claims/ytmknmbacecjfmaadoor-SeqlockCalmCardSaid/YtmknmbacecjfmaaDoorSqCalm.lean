/- SeqlockCalm: the calm play answers nothing but true -/
import Derived.Test.YtmknmbacecjfmaaDoorSqa
/- SeqlockWhole: pieces and states. -/
namespace Go.Proofs.YtmknmbacecjfmaaDoor
open Go Go.Proofs.YtmknmbacecjfmaaDoor.Sx
set_option linter.unusedVariables false
structure InW where
  first : Int
  xss : List (List Int)
  cp : Nat
  acts : List Int
  ca : Nat
abbrev acV (q : InW) (i : Nat) : SVal := .sli i (.c 0) 1 (.v q.acts.length) (some (.v q.ca))
abbrev s0W (q : InW) (hs : List (Nat × Nat)) : St := inS q.xss hs ++ [.ro (encInt .u8) q.acts]
abbrev argW (q : InW) : List SVal := [.int .u32 q.first, vsV q.xss q.cp, acV q 3]
noncomputable def b3 : Code := Tryd.f3.body.getD .skip
noncomputable def c3 : Code := restC 9 b3
noncomputable def reg3 : Code := lft (lft c3)
noncomputable def blk3 : Code := rgt (lft c3)
noncomputable def round3 : Code := lft (lft blk3)
noncomputable def tm3 : Code := lft round3
noncomputable def bb3 : Code := lft (lft (rgt round3))
noncomputable def inc3 : Code := rgt (rgt round3)
noncomputable def end3 : Code := rgt c3
/-- the loop over versions, and over words -/
noncomputable def d3 : Code := restC 9 bb3
noncomputable def dreg3 : Code := lft (lft d3)
noncomputable def dblk3 : Code := rgt (lft d3)
noncomputable def dround3 : Code := lft (lft dblk3)
noncomputable def dtm3 : Code := lft dround3
noncomputable def dbb3 : Code := lft (lft (rgt dround3))
noncomputable def dinc3 : Code := rgt (rgt dround3)
noncomputable def dend3 : Code := rgt d3
noncomputable def e3 : Code := restC 1 dbb3
noncomputable def ereg3 : Code := lft (lft e3)
noncomputable def eblk3 : Code := rgt (lft e3)
noncomputable def eround3 : Code := lft (lft eblk3)
noncomputable def etm3 : Code := lft eround3
noncomputable def ebb3 : Code := lft (lft (rgt eround3))
noncomputable def einc3 : Code := rgt (rgt eround3)
noncomputable def eend3 : Code := rgt e3
abbrev nA : List Nat := [0, 1, 2, 7, 8]
abbrev vA (q : InW) : List SVal := [.int .u32 q.first, vsV q.xss q.cp, acV q 3, .ptr 5 0, .lit .i64 0]
abbrev nB : List Nat := [0, 1, 2, 7, 8, 9, 10]
abbrev nC : List Nat := [0, 1, 2, 7, 9]
abbrev vC (q : InW) : List SVal := [.int .u32 q.first, vsV q.xss q.cp, acV q 3, .ptr 5 0, .ptr 8 0]
abbrev nD : List Nat := [1, 2, 7, 9, 11, 12]
abbrev vD (q : InW) (n : Nat) : List SVal := [vsV q.xss q.cp, acV q 3, .ptr 5 0, .ptr 8 0, .int .i64 (n : Nat), .ptr 9 0]
abbrev nW : List Nat := [1, 2, 7, 9, 11, 12, 14, 15]
abbrev vW (q : InW) (n : Nat) (bf : Int) (gp : Bool) : List SVal := vD q n ++ [.int .i64 bf, .sb gp]
abbrev nWi : List Nat := [1, 2, 7, 9, 11, 12, 14, 15, 16]
abbrev vWi (q : InW) (n : Nat) (bf : Int) (gp : Bool) (i : Nat) : List SVal := vW q n bf gp ++ [.int .i64 (i : Nat)]
abbrev nWt : List Nat := [1, 2, 7, 9, 11, 12, 14, 15, 16, 17]
abbrev vWt (q : InW) (n : Nat) (bf : Int) (gp : Bool) (i : Nat) (t : Int) : List SVal := vWi q n bf gp i ++ [.int .i64 t]
abbrev nWl : List Nat := [1, 2, 7, 9, 11, 12, 14, 15, 16, 18, 20]
abbrev nWk : List Nat := [1, 2, 7, 9, 11, 12, 14, 15, 16, 18, 20, 21]
abbrev nWm : List Nat := [1, 2, 7, 9, 11, 12, 14, 15, 16, 18, 20, 21, 22]
abbrev nWj : List Nat := [1, 2, 7, 9, 11, 12, 14, 15, 16, 18, 20, 21, 22, 23]
abbrev slV (n : Nat) : SVal := .sli 10 (.c 0) 1 (.v n) (some (.v n))
abbrev vWl (q : InW) (n : Nat) (bf : Int) (gp : Bool) (i : Nat) (hit : Bool) : List SVal := vWi q n bf gp i ++ [slV n, .sb hit]
abbrev vWk (q : InW) (n : Nat) (bf : Int) (gp : Bool) (i : Nat) (hit : Bool) (k : Int) : List SVal := vWl q n bf gp i hit ++ [.int .i64 k]
abbrev vWm (q : InW) (n : Nat) (bf : Int) (gp : Bool) (i : Nat) (hit : Bool) (k : Int) (m : Bool) : List SVal := vWk q n bf gp i hit k ++ [.sb m]
abbrev vWj (q : InW) (n : Nat) (bf : Int) (gp : Bool) (i : Nat) (hit : Bool) (k : Int) (m : Bool) (j : Nat) : List SVal := vWm q n bf gp i hit k m ++ [.int .i64 (j : Nat)]
abbrev sWq (q : InW) (hs gs : List (Nat × Nat)) (l : List Int) (c : Int) (x : Wr) (y : Rd) : St := sMR 60 q.acts q.xss hs gs l c x y
/-- with what a reader gave -/
abbrev sWg (q : InW) (hs gs : List (Nat × Nat)) (l : List Int) (c : Int) (x : Wr) (y : Rd) (B : List Int) : St := sWq q hs gs l c x y ++ [.own [.a (encInt .u32) 32 B] 71]
/-- a writer is made -/
noncomputable def cfgNw (k : Nat) (ac : List Int) (a : SVal) (xss : List (List Int)) (hs : List (Nat × Nat)) (cp : Nat) (l : List Int) (c : Int) (P : Prop) (v : SVal) (S' : St) : Cfg := { P := Tryd.prog, ex := exI, gl := [(0, 0)], sm := fun f => match f with
  | 9 => some (smEq [a, vsV xss cp] (sI k ac xss hs l c) P v S')
  | _ => none }
/-- awake, and few -/
noncomputable def cfgFw (S : St) (xss : List (List Int)) (cp : Nat) (P : Prop) (b : Bool) : Cfg := { P := Tryd.prog, ex := exI, gl := [(0, 0)], sm := fun f => match f with
  | 10 => some (smClosed [0] [lookB] (.bl true))
  | 11 => some (smEq [vsV xss cp] S P (.sb b) S)
  | _ => none }
/-- steps, what they come to named -/
noncomputable def cfgSt (q : InW) (hs gs : List (Nat × Nat)) (l : List Int) (c : Int) (x : Wr) (y : Rd) (l1 : List Int) (c1 : Int) (x1 : Wr) (b1 : Bool) (c2 : Int) (y2 : Rd) (b2 : Bool) (P1 P2 : Prop) : Cfg := { P := Tryd.prog, ex := exI, gl := [(0, 0)], sm := fun f => match f with
  | 14 => some (smEq [.ptr 8 0, .ptr 5 0] (sWq q hs gs l c x y) P1 (.sb b1) (sWq q hs gs l1 c1 x1 y))
  | 16 => some (smEq [.ptr 9 0, .ptr 5 0] (sWq q hs gs l c x y) P2 (.sb b2) (sWq q hs gs l c2 x y2))
  | _ => none }
end Go.Proofs.YtmknmbacecjfmaaDoor

namespace Go.Proofs.YtmknmbacecjfmaaDoor
open Go Go.Proofs.YtmknmbacecjfmaaDoor.Sx
set_option linter.unusedVariables false
set_option maxRecDepth 100000 in
theorem p_a {q : InW} {hs : List (Nat × Nat)} : (execN cfgM 100 2 b3 (argW q ++ List.replicate 169 .bad) (s0W q hs)).bind (canonK 4 [(0,0)] 172 nA) =
 

 (.ret (.normal, [.int .u32 q.1, .sli 1 (.c 0) 1 (.v q.2.length) (some (.v q.3)), .sli 3 (.c 0) 1 (.v q.4.length) (some (.v q.5)), .ptr 4 0, .lit .i64 (0 : Int)], [.ro encLook [PUnit.unit], .ro (encHd 2) hs, Blk.rows false IntKind.u32 q.2, .ro (encInt IntKind.u8) q.4, .own [.c (.sli 5 (.c 0) 1 (.c 60) (some (.c 60))), .c (.lit .i64 (0 : Int))] 68, .own [.c (.lit .u32 (0 : Int)), .c (.lit .u32 (0 : Int)), .c (.lit .u32 (0 : Int)), .c (.lit .u32 (0 : Int)), .c (.lit .u32 (0 : Int)), .c (.lit .u32 (0 : Int)), .c (.lit .u32 (0 : Int)), .c (.lit .u32 (0 : Int)), .c (.lit .u32 (0 : Int)), .c (.lit .u32 (0 : Int)), .c (.lit .u32 (0 : Int)), .c (.lit .u32 (0 : Int)), .c (.lit .u32 (0 : Int)), .c (.lit .u32 (0 : Int)), .c (.lit .u32 (0 : Int)), .c (.lit .u32 (0 : Int)), .c (.lit .u32 (0 : Int)), .c (.lit .u32 (0 : Int)), .c (.lit .u32 (0 : Int)), .c (.lit .u32 (0 : Int)), .c (.lit .u32 (0 : Int)), .c (.lit .u32 (0 : Int)), .c (.lit .u32 (0 : Int)), .c (.lit .u32 (0 : Int)), .c (.lit .u32 (0 : Int)), .c (.lit .u32 (0 : Int)), .c (.lit .u32 (0 : Int)), .c (.lit .u32 (0 : Int)), .c (.lit .u32 (0 : Int)), .c (.lit .u32 (0 : Int)), .c (.lit .u32 (0 : Int)), .c (.lit .u32 (0 : Int)), .c (.lit .u32 (0 : Int)), .c (.lit .u32 (0 : Int)), .c (.lit .u32 (0 : Int)), .c (.lit .u32 (0 : Int)), .c (.lit .u32 (0 : Int)), .c (.lit .u32 (0 : Int)), .c (.lit .u32 (0 : Int)), .c (.lit .u32 (0 : Int)), .c (.lit .u32 (0 : Int)), .c (.lit .u32 (0 : Int)), .c (.lit .u32 (0 : Int)), .c (.lit .u32 (0 : Int)), .c (.lit .u32 (0 : Int)), .c (.lit .u32 (0 : Int)), .c (.lit .u32 (0 : Int)), .c (.lit .u32 (0 : Int)), .c (.lit .u32 (0 : Int)), .c (.lit .u32 (0 : Int)), .c (.lit .u32 (0 : Int)), .c (.lit .u32 (0 : Int)), .c (.lit .u32 (0 : Int)), .c (.lit .u32 (0 : Int)), .c (.lit .u32 (0 : Int)), .c (.lit .u32 (0 : Int)), .c (.lit .u32 (0 : Int)), .c (.lit .u32 (0 : Int)), .c (.lit .u32 (0 : Int)), .c (.lit .u32 (0 : Int))] 22])) := by kernel_rfl
set_option maxRecDepth 100000 in
theorem p_b {q : InW} {hs gs : List (Nat × Nat)} {l : List Int} {c : Int} {P : Prop} {a : Int} : (execN (cfgNw 60 q.acts (.lit .i64 0) q.xss hs q.cp l c P (.tup [.ptr 8 0, .lit .i64 0]) (sM 60 q.acts q.xss hs gs l c (wr0 a))) 100 1 (restC 2 b3) (fr 172 nA (vA q)) (sI 60 q.acts q.xss hs l c)).bind (canonK 9 [(0,0)] 172 nB) =
 

 (.eq ([SVal.lit .i64 (0 : Int), .sli 1 (.c 0) 1 (.v q.2.length) (some (.v q.3))] = [SVal.lit .i64 (0 : Int), .sli 1 (.c 0) 1 (.v q.2.length) (some (.v q.3))] ∧ [Blk.ro encLook [PUnit.unit], .ro (encHd 2) hs, Blk.rows false IntKind.u32 q.2, .ro (encInt IntKind.u8) q.4, .own [.a (encInt IntKind.u32) 60 l] 22, .own [.c (.sli 4 (.c 0) 1 (.v 60) (some (.v 60))), .c (.int .i64 c)] 68] = [Blk.ro encLook [PUnit.unit], .ro (encHd 2) hs, Blk.rows false IntKind.u32 q.2, .ro (encInt IntKind.u8) q.4, .own [.a (encInt IntKind.u32) 60 l] 22, .own [.c (.sli 4 (.c 0) 1 (.v 60) (some (.v 60))), .c (.int .i64 c)] 68] ∧ P)

 (.ret (.normal, [.int .u32 q.1, .sli 1 (.c 0) 1 (.v q.2.length) (some (.v q.3)), .sli 3 (.c 0) 1 (.v q.4.length) (some (.v q.5)), .ptr 5 0, .lit .i64 (0 : Int), .ptr 8 0, .lit .i64 (0 : Int)], [.ro encLook [PUnit.unit], .ro (encHd 2) hs, Blk.rows false IntKind.u32 q.2, .ro (encInt IntKind.u8) q.4, .own [.a (encInt IntKind.u32) 60 l] 22, .own [.c (.sli 4 (.c 0) 1 (.v 60) (some (.v 60))), .c (.int .i64 c)] 68, Blk.rows true IntKind.u32 q.2, .vec (encHd 6) gs 34, .own [.c (.int .i64 a), .c (.int .i64 (0 : Int)), .c (.int .i64 (0 : Int)), .c (.sli 7 (.c 0) 1 (.v gs.length) none), .c (.int .i64 (0 : Int))] 70]))) := by kernel_rfl
set_option maxRecDepth 100000 in
theorem p_bn {q : InW} {hs : List (Nat × Nat)} {l : List Int} {c : Int} {P : Prop} : (execN (cfgNw 60 q.acts (.lit .i64 0) q.xss hs q.cp l c P (.tup [.pnil, .lit .i64 100]) (sI 60 q.acts q.xss hs l c)) 100 1 (restC 2 b3) (fr 172 nA (vA q)) (sI 60 q.acts q.xss hs l c)).bind (canonK 6 [(0,0)] 172 nB) =
 

 (.eq ([SVal.lit .i64 (0 : Int), .sli 1 (.c 0) 1 (.v q.2.length) (some (.v q.3))] = [SVal.lit .i64 (0 : Int), .sli 1 (.c 0) 1 (.v q.2.length) (some (.v q.3))] ∧ [Blk.ro encLook [PUnit.unit], .ro (encHd 2) hs, Blk.rows false IntKind.u32 q.2, .ro (encInt IntKind.u8) q.4, .own [.a (encInt IntKind.u32) 60 l] 22, .own [.c (.sli 4 (.c 0) 1 (.v 60) (some (.v 60))), .c (.int .i64 c)] 68] = [Blk.ro encLook [PUnit.unit], .ro (encHd 2) hs, Blk.rows false IntKind.u32 q.2, .ro (encInt IntKind.u8) q.4, .own [.a (encInt IntKind.u32) 60 l] 22, .own [.c (.sli 4 (.c 0) 1 (.v 60) (some (.v 60))), .c (.int .i64 c)] 68] ∧ P)

 (.ret (.normal, [.int .u32 q.1, .sli 1 (.c 0) 1 (.v q.2.length) (some (.v q.3)), .sli 3 (.c 0) 1 (.v q.4.length) (some (.v q.5)), .ptr 5 0, .lit .i64 (0 : Int), .pnil, .lit .i64 (100 : Int)], [.ro encLook [PUnit.unit], .ro (encHd 2) hs, Blk.rows false IntKind.u32 q.2, .ro (encInt IntKind.u8) q.4, .own [.a (encInt IntKind.u32) 60 l] 22, .own [.c (.sli 4 (.c 0) 1 (.v 60) (some (.v 60))), .c (.int .i64 c)] 68]))) := by kernel_rfl
set_option maxRecDepth 100000 in
theorem p_c {q : InW} {hs gs : List (Nat × Nat)} {l : List Int} {c : Int} {x : Wr} {P : Prop} {b : Bool} : (execN (cfgFw (sM 60 q.acts q.xss hs gs l c x) q.xss q.cp P b) 100 1 (restC 3 b3) (fr 172 nB (vA q ++ [.ptr 8 0, .lit .i64 0])) (sM 60 q.acts q.xss hs gs l c x)).bind (canonK 9 [(0,0)] 172 (6 :: nC)) =
 

 (.eq (some [Blk.ro encLook [PUnit.unit]] = some [Blk.ro encLook [PUnit.unit]])

 (.eq ([SVal.sli 1 (.c 0) 1 (.v q.2.length) (some (.v q.3))] = [SVal.sli 1 (.c 0) 1 (.v q.2.length) (some (.v q.3))] ∧ [Blk.ro encLook [PUnit.unit], .ro (encHd 2) hs, Blk.rows false IntKind.u32 q.2, .ro (encInt IntKind.u8) q.4, .own [.a (encInt IntKind.u32) 60 l] 22, .own [.c (.sli 4 (.c 0) 1 (.v 60) (some (.v 60))), .c (.int .i64 c)] 68, Blk.rows true IntKind.u32 q.2, .vec (encHd 6) gs 34, .own [.c (.int .i64 x.1), .c (.int .i64 x.2), .c (.int .i64 x.3), .c (.sli 7 (.c 0) 1 (.v gs.length) none), .c (.int .i64 x.4)] 70] = [Blk.ro encLook [PUnit.unit], .ro (encHd 2) hs, Blk.rows false IntKind.u32 q.2, .ro (encInt IntKind.u8) q.4, .own [.a (encInt IntKind.u32) 60 l] 22, .own [.c (.sli 4 (.c 0) 1 (.v 60) (some (.v 60))), .c (.int .i64 c)] 68, Blk.rows true IntKind.u32 q.2, .vec (encHd 6) gs 34, .own [.c (.int .i64 x.1), .c (.int .i64 x.2), .c (.int .i64 x.3), .c (.sli 7 (.c 0) 1 (.v gs.length) none), .c (.int .i64 x.4)] 70] ∧ P)

 (.br (!b)

 (.eq (some [Blk.ro encLook [PUnit.unit]] = some [Blk.ro encLook [PUnit.unit]])

 (.ret (.ret, [.bl true, .int .u32 q.1, .sli 1 (.c 0) 1 (.v q.2.length) (some (.v q.3)), .sli 3 (.c 0) 1 (.v q.4.length) (some (.v q.5)), .ptr 5 0, .ptr 8 0], [.ro encLook [PUnit.unit], .ro (encHd 2) hs, Blk.rows false IntKind.u32 q.2, .ro (encInt IntKind.u8) q.4, .own [.a (encInt IntKind.u32) 60 l] 22, .own [.c (.sli 4 (.c 0) 1 (.v 60) (some (.v 60))), .c (.int .i64 c)] 68, Blk.rows true IntKind.u32 q.2, .vec (encHd 6) gs 34, .own [.c (.int .i64 x.1), .c (.int .i64 x.2), .c (.int .i64 x.3), .c (.sli 7 (.c 0) 1 (.v gs.length) none), .c (.int .i64 x.4)] 70])))

 (.br ((↑q.2.length : Int) == (0 : Int))

 (.eq (some [Blk.ro encLook [PUnit.unit]] = some [Blk.ro encLook [PUnit.unit]])

 (.ret (.ret, [.bl true, .int .u32 q.1, .sli 1 (.c 0) 1 (.v q.2.length) (some (.v q.3)), .sli 3 (.c 0) 1 (.v q.4.length) (some (.v q.5)), .ptr 5 0, .ptr 8 0], [.ro encLook [PUnit.unit], .ro (encHd 2) hs, Blk.rows false IntKind.u32 q.2, .ro (encInt IntKind.u8) q.4, .own [.a (encInt IntKind.u32) 60 l] 22, .own [.c (.sli 4 (.c 0) 1 (.v 60) (some (.v 60))), .c (.int .i64 c)] 68, Blk.rows true IntKind.u32 q.2, .vec (encHd 6) gs 34, .own [.c (.int .i64 x.1), .c (.int .i64 x.2), .c (.int .i64 x.3), .c (.sli 7 (.c 0) 1 (.v gs.length) none), .c (.int .i64 x.4)] 70])))

 (.ret (.normal, [.bad, .int .u32 q.1, .sli 1 (.c 0) 1 (.v q.2.length) (some (.v q.3)), .sli 3 (.c 0) 1 (.v q.4.length) (some (.v q.5)), .ptr 5 0, .ptr 8 0], [.ro encLook [PUnit.unit], .ro (encHd 2) hs, Blk.rows false IntKind.u32 q.2, .ro (encInt IntKind.u8) q.4, .own [.a (encInt IntKind.u32) 60 l] 22, .own [.c (.sli 4 (.c 0) 1 (.v 60) (some (.v 60))), .c (.int .i64 c)] 68, Blk.rows true IntKind.u32 q.2, .vec (encHd 6) gs 34, .own [.c (.int .i64 x.1), .c (.int .i64 x.2), .c (.int .i64 x.3), .c (.sli 7 (.c 0) 1 (.v gs.length) none), .c (.int .i64 x.4)] 70])))))) := by kernel_rfl
set_option maxRecDepth 100000 in
theorem p_cn {q : InW} {hs : List (Nat × Nat)} {l : List Int} {c : Int} {P : Prop} {b : Bool} : (execN (cfgFw (sI 60 q.acts q.xss hs l c) q.xss q.cp P b) 100 1 (restC 3 b3) (fr 172 nB (vA q ++ [.pnil, .lit .i64 100])) (sI 60 q.acts q.xss hs l c)).bind (canonK 6 [(0,0)] 172 [6]) =
 

 (.eq (some [Blk.ro encLook [PUnit.unit]] = some [Blk.ro encLook [PUnit.unit]])

 (.eq ([SVal.sli 1 (.c 0) 1 (.v q.2.length) (some (.v q.3))] = [SVal.sli 1 (.c 0) 1 (.v q.2.length) (some (.v q.3))] ∧ [Blk.ro encLook [PUnit.unit], .ro (encHd 2) hs, Blk.rows false IntKind.u32 q.2, .ro (encInt IntKind.u8) q.4, .own [.a (encInt IntKind.u32) 60 l] 22, .own [.c (.sli 4 (.c 0) 1 (.v 60) (some (.v 60))), .c (.int .i64 c)] 68] = [Blk.ro encLook [PUnit.unit], .ro (encHd 2) hs, Blk.rows false IntKind.u32 q.2, .ro (encInt IntKind.u8) q.4, .own [.a (encInt IntKind.u32) 60 l] 22, .own [.c (.sli 4 (.c 0) 1 (.v 60) (some (.v 60))), .c (.int .i64 c)] 68] ∧ P)

 (.br (!b)

 (.eq (some [Blk.ro encLook [PUnit.unit]] = some [Blk.ro encLook [PUnit.unit]])

 (.ret (.ret, [.bl true], [.ro encLook [PUnit.unit], .ro (encHd 2) hs, Blk.rows false IntKind.u32 q.2, .ro (encInt IntKind.u8) q.4, .own [.a (encInt IntKind.u32) 60 l] 22, .own [.c (.sli 4 (.c 0) 1 (.v 60) (some (.v 60))), .c (.int .i64 c)] 68])))

 (.eq (some [Blk.ro encLook [PUnit.unit]] = some [Blk.ro encLook [PUnit.unit]])

 (.ret (.ret, [.bl true], [.ro encLook [PUnit.unit], .ro (encHd 2) hs, Blk.rows false IntKind.u32 q.2, .ro (encInt IntKind.u8) q.4, .own [.a (encInt IntKind.u32) 60 l] 22, .own [.c (.sli 4 (.c 0) 1 (.v 60) (some (.v 60))), .c (.int .i64 c)] 68])))))) := by kernel_rfl
set_option maxRecDepth 100000 in
theorem p_d {q : InW} {hs gs : List (Nat × Nat)} {l : List Int} {c : Int} {x : Wr} : (execN cfgM 100 3 (restC 4 b3) (fr 172 nC (vC q)) (sM 60 q.acts q.xss hs gs l c x)).bind (canonK 9 [(0,0)] 172 nD) =
 

 (.need (decide (0 < q.2.length))

 (.need (decide (0 < hs.length))

 (.br (decide ((1 : Int) ≤ (↑(hs.getD 0 (0, 0)).snd : Int)))

 (.br (!decide ((↑(hs.getD 0 (0, 0)).snd : Int) ≤ (32 : Int)))

 (.ret (.ret, [.sli 1 (.c 0) 1 (.v q.2.length) (some (.v q.3)), .sli 3 (.c 0) 1 (.v q.4.length) (some (.v q.5)), .ptr 5 0, .ptr 8 0, .int .i64 (↑(hs.getD 0 (0, 0)).snd : Int), .pnil], [.ro encLook [PUnit.unit], .ro (encHd 2) hs, Blk.rows false IntKind.u32 q.2, .ro (encInt IntKind.u8) q.4, .own [.a (encInt IntKind.u32) 60 l] 22, .own [.c (.sli 4 (.c 0) 1 (.v 60) (some (.v 60))), .c (.int .i64 c)] 68, Blk.rows true IntKind.u32 q.2, .vec (encHd 6) gs 34, .own [.c (.int .i64 x.1), .c (.int .i64 x.2), .c (.int .i64 x.3), .c (.sli 7 (.c 0) 1 (.v gs.length) none), .c (.int .i64 x.4)] 70]))

 (.br (false)

 (.ret (.ret, [.sli 1 (.c 0) 1 (.v q.2.length) (some (.v q.3)), .sli 3 (.c 0) 1 (.v q.4.length) (some (.v q.5)), .ptr 5 0, .ptr 8 0, .int .i64 (↑(hs.getD 0 (0, 0)).snd : Int), .ptr 9 0], [.ro encLook [PUnit.unit], .ro (encHd 2) hs, Blk.rows false IntKind.u32 q.2, .ro (encInt IntKind.u8) q.4, .own [.a (encInt IntKind.u32) 60 l] 22, .own [.c (.sli 4 (.c 0) 1 (.v 60) (some (.v 60))), .c (.int .i64 c)] 68, Blk.rows true IntKind.u32 q.2, .vec (encHd 6) gs 34, .own [.c (.int .i64 x.1), .c (.int .i64 x.2), .c (.int .i64 x.3), .c (.sli 7 (.c 0) 1 (.v gs.length) none), .c (.int .i64 x.4)] 70, .own [.c (.lit .i64 (0 : Int)), .c (.int .i64 (↑(hs.getD 0 (0, 0)).snd : Int)), .c (.lit .i64 (0 : Int)), .c (.lit .i64 (0 : Int)), .c (.lit .u32 (0 : Int)), .c (.lit .u32 (0 : Int)), .c (.lit .u32 (0 : Int)), .c (.lit .u32 (0 : Int)), .c (.lit .u32 (0 : Int)), .c (.lit .u32 (0 : Int)), .c (.lit .u32 (0 : Int)), .c (.lit .u32 (0 : Int)), .c (.lit .u32 (0 : Int)), .c (.lit .u32 (0 : Int)), .c (.lit .u32 (0 : Int)), .c (.lit .u32 (0 : Int)), .c (.lit .u32 (0 : Int)), .c (.lit .u32 (0 : Int)), .c (.lit .u32 (0 : Int)), .c (.lit .u32 (0 : Int)), .c (.lit .u32 (0 : Int)), .c (.lit .u32 (0 : Int)), .c (.lit .u32 (0 : Int)), .c (.lit .u32 (0 : Int)), .c (.lit .u32 (0 : Int)), .c (.lit .u32 (0 : Int)), .c (.lit .u32 (0 : Int)), .c (.lit .u32 (0 : Int)), .c (.lit .u32 (0 : Int)), .c (.lit .u32 (0 : Int)), .c (.lit .u32 (0 : Int)), .c (.lit .u32 (0 : Int)), .c (.lit .u32 (0 : Int)), .c (.lit .u32 (0 : Int)), .c (.lit .u32 (0 : Int)), .c (.lit .u32 (0 : Int)), .c (.lit .u32 (0 : Int)), .c (.bl false), .c (.lit .i64 (0 : Int))] 73]))

 (.need (inR .i64 (c + (1 : Int)))

 (.need (true)

 (.need (true)

 (.need (true)

 (.need (true)

 (.need (true)
 (.eq (T.ret (SVal.sli (4 : Nat) (NN.c (0 : Nat)) (1 : Nat) (NN.v (60 : Nat)) (some (NN.v (60 : Nat)))) = T.ret (SVal.sli (4 : Nat) (NN.c (0 : Nat)) (1 : Nat) (NN.v (60 : Nat)) (some (NN.v (60 : Nat)))))
 (.eq (T.ret (SVal.int IntKind.u32 (bitop BinOp.andNot IntKind.u32 q.1 (1 : Int))) = T.ret (SVal.int IntKind.u32 (bitop BinOp.andNot IntKind.u32 q.1 (1 : Int))))

 (.need (true)

 (.need (true)
 (.eq (T.ret (SVal.sli (4 : Nat) (NN.c (0 : Nat)) (1 : Nat) (NN.v (60 : Nat)) (some (NN.v (60 : Nat)))) = T.ret (SVal.sli (4 : Nat) (NN.c (0 : Nat)) (1 : Nat) (NN.v (60 : Nat)) (some (NN.v (60 : Nat)))))
 (.eq (T.ret ([SVal.int IntKind.u32 ((l.set (0 : Nat) (bitop BinOp.or IntKind.u32 (bitop BinOp.and IntKind.u32 (l.getD (0 : Nat) (0 : Int)) (0 : Int)) (bitop BinOp.andNot IntKind.u32 q.1 (1 : Int)))).getD (0 : Nat) (0 : Int))].getD (0 : Nat) SVal.bad) = T.ret ([SVal.int IntKind.u32 ((l.set (0 : Nat) (bitop BinOp.or IntKind.u32 (bitop BinOp.and IntKind.u32 (l.getD (0 : Nat) (0 : Int)) (0 : Int)) (bitop BinOp.andNot IntKind.u32 q.1 (1 : Int)))).getD (0 : Nat) (0 : Int))].getD (0 : Nat) SVal.bad))

 (.ret (.normal, [.sli 1 (.c 0) 1 (.v q.2.length) (some (.v q.3)), .sli 3 (.c 0) 1 (.v q.4.length) (some (.v q.5)), .ptr 5 0, .ptr 8 0, .int .i64 (↑(hs.getD 0 (0, 0)).snd : Int), .ptr 9 0], [.ro encLook [PUnit.unit], .ro (encHd 2) hs, Blk.rows false IntKind.u32 q.2, .ro (encInt IntKind.u8) q.4, .own [.a (encInt IntKind.u32) 60 ((l.set 0 (bitop BinOp.or IntKind.u32 (bitop BinOp.and IntKind.u32 (l.getD 0 (0 : Int)) (0 : Int)) (bitop BinOp.andNot IntKind.u32 q.1 (1 : Int)))).set 0 (IntKind.u32.wrap ((l.set 0 (bitop BinOp.or IntKind.u32 (bitop BinOp.and IntKind.u32 (l.getD 0 (0 : Int)) (0 : Int)) (bitop BinOp.andNot IntKind.u32 q.1 (1 : Int)))).getD 0 (0 : Int) + (0 : Int))))] 22, .own [.c (.sli 4 (.c 0) 1 (.v 60) (some (.v 60))), .c (.int .i64 (c + (1 : Int)))] 68, Blk.rows true IntKind.u32 q.2, .vec (encHd 6) gs 34, .own [.c (.int .i64 x.1), .c (.int .i64 x.2), .c (.int .i64 x.3), .c (.sli 7 (.c 0) 1 (.v gs.length) none), .c (.int .i64 x.4)] 70, .own [.c (.lit .i64 (0 : Int)), .c (.int .i64 (↑(hs.getD 0 (0, 0)).snd : Int)), .c (.lit .i64 (0 : Int)), .c (.lit .i64 (0 : Int)), .c (.lit .u32 (0 : Int)), .c (.lit .u32 (0 : Int)), .c (.lit .u32 (0 : Int)), .c (.lit .u32 (0 : Int)), .c (.lit .u32 (0 : Int)), .c (.lit .u32 (0 : Int)), .c (.lit .u32 (0 : Int)), .c (.lit .u32 (0 : Int)), .c (.lit .u32 (0 : Int)), .c (.lit .u32 (0 : Int)), .c (.lit .u32 (0 : Int)), .c (.lit .u32 (0 : Int)), .c (.lit .u32 (0 : Int)), .c (.lit .u32 (0 : Int)), .c (.lit .u32 (0 : Int)), .c (.lit .u32 (0 : Int)), .c (.lit .u32 (0 : Int)), .c (.lit .u32 (0 : Int)), .c (.lit .u32 (0 : Int)), .c (.lit .u32 (0 : Int)), .c (.lit .u32 (0 : Int)), .c (.lit .u32 (0 : Int)), .c (.lit .u32 (0 : Int)), .c (.lit .u32 (0 : Int)), .c (.lit .u32 (0 : Int)), .c (.lit .u32 (0 : Int)), .c (.lit .u32 (0 : Int)), .c (.lit .u32 (0 : Int)), .c (.lit .u32 (0 : Int)), .c (.lit .u32 (0 : Int)), .c (.lit .u32 (0 : Int)), .c (.lit .u32 (0 : Int)), .c (.lit .u32 (0 : Int)), .c (.bl false), .c (.lit .i64 (0 : Int))] 73]))))))))))))))))

 (.ret (.ret, [.sli 1 (.c 0) 1 (.v q.2.length) (some (.v q.3)), .sli 3 (.c 0) 1 (.v q.4.length) (some (.v q.5)), .ptr 5 0, .ptr 8 0, .int .i64 (↑(hs.getD 0 (0, 0)).snd : Int), .pnil], [.ro encLook [PUnit.unit], .ro (encHd 2) hs, Blk.rows false IntKind.u32 q.2, .ro (encInt IntKind.u8) q.4, .own [.a (encInt IntKind.u32) 60 l] 22, .own [.c (.sli 4 (.c 0) 1 (.v 60) (some (.v 60))), .c (.int .i64 c)] 68, Blk.rows true IntKind.u32 q.2, .vec (encHd 6) gs 34, .own [.c (.int .i64 x.1), .c (.int .i64 x.2), .c (.int .i64 x.3), .c (.sli 7 (.c 0) 1 (.v gs.length) none), .c (.int .i64 x.4)] 70]))))) := by kernel_rfl
set_option maxRecDepth 100000 in
theorem p_e {q : InW} {hs gs : List (Nat × Nat)} {l : List Int} {c : Int} {x : Wr} {y : Rd} {n : Nat} : (execN cfgM 100 2 (restC 7 b3) (fr 172 nD (vD q n)) (sWq q hs gs l c x y)).bind (canonK 10 [(0,0)] 172 nW) =
 

 (.ret (.normal, [.sli 1 (.c 0) 1 (.v q.2.length) (some (.v q.3)), .sli 3 (.c 0) 1 (.v q.4.length) (some (.v q.5)), .ptr 5 0, .ptr 8 0, .int .i64 (↑n : Int), .ptr 9 0, .lit .i64 (0 : Int), .bl false], [.ro encLook [PUnit.unit], .ro (encHd 2) hs, Blk.rows false IntKind.u32 q.2, .ro (encInt IntKind.u8) q.4, .own [.a (encInt IntKind.u32) 60 l] 22, .own [.c (.sli 4 (.c 0) 1 (.v 60) (some (.v 60))), .c (.int .i64 c)] 68, Blk.rows true IntKind.u32 q.2, .vec (encHd 6) gs 34, .own [.c (.int .i64 x.1), .c (.int .i64 x.2), .c (.int .i64 x.3), .c (.sli 7 (.c 0) 1 (.v gs.length) none), .c (.int .i64 x.4)] 70, .own [.c (.int .i64 y.1), .c (.int .i64 y.2), .c (.int .i64 y.3), .c (.int .i64 y.4), .c (.int .u32 y.5), .a (encInt IntKind.u32) 32 y.6, .c (.sb y.7), .c (.int .i64 y.8)] 73])) := by kernel_rfl
set_option maxRecDepth 100000 in
theorem p_reg {q : InW} {hs gs : List (Nat × Nat)} {l : List Int} {c : Int} {x : Wr} {y : Rd} {n : Nat} {bf : Int} {gp : Bool} : (exec cfgM 100 reg3 (fr 172 nW (vW q n bf gp)) (sWq q hs gs l c x y)).bind (canonK 10 [(0,0)] 172 nWi) =
 

 (.ret (.normal, [.sli 1 (.c 0) 1 (.v q.2.length) (some (.v q.3)), .sli 3 (.c 0) 1 (.v q.4.length) (some (.v q.5)), .ptr 5 0, .ptr 8 0, .int .i64 (↑n : Int), .ptr 9 0, .int .i64 bf, .sb gp, .lit .i64 (0 : Int)], [.ro encLook [PUnit.unit], .ro (encHd 2) hs, Blk.rows false IntKind.u32 q.2, .ro (encInt IntKind.u8) q.4, .own [.a (encInt IntKind.u32) 60 l] 22, .own [.c (.sli 4 (.c 0) 1 (.v 60) (some (.v 60))), .c (.int .i64 c)] 68, Blk.rows true IntKind.u32 q.2, .vec (encHd 6) gs 34, .own [.c (.int .i64 x.1), .c (.int .i64 x.2), .c (.int .i64 x.3), .c (.sli 7 (.c 0) 1 (.v gs.length) none), .c (.int .i64 x.4)] 70, .own [.c (.int .i64 y.1), .c (.int .i64 y.2), .c (.int .i64 y.3), .c (.int .i64 y.4), .c (.int .u32 y.5), .a (encInt IntKind.u32) 32 y.6, .c (.sb y.7), .c (.int .i64 y.8)] 73])) := by kernel_rfl
set_option maxRecDepth 100000 in
theorem p_tm {q : InW} {hs gs : List (Nat × Nat)} {l : List Int} {c : Int} {x : Wr} {y : Rd} {n i : Nat} {bf : Int} {gp : Bool} : (exec cfgM 100 tm3 (fr 172 nWi (vWi q n bf gp i)) (sWq q hs gs l c x y)).bind (canonK 10 [(0,0)] 172 nWi) =
 

 (.br (decide ((↑i : Int) < (↑q.4.length : Int)))

 (.br (decide ((↑i : Int) < (300 : Int)))

 (.ret (.normal, [.sli 1 (.c 0) 1 (.v q.2.length) (some (.v q.3)), .sli 3 (.c 0) 1 (.v q.4.length) (some (.v q.5)), .ptr 5 0, .ptr 8 0, .int .i64 (↑n : Int), .ptr 9 0, .int .i64 bf, .sb gp, .int .i64 (↑i : Int)], [.ro encLook [PUnit.unit], .ro (encHd 2) hs, Blk.rows false IntKind.u32 q.2, .ro (encInt IntKind.u8) q.4, .own [.a (encInt IntKind.u32) 60 l] 22, .own [.c (.sli 4 (.c 0) 1 (.v 60) (some (.v 60))), .c (.int .i64 c)] 68, Blk.rows true IntKind.u32 q.2, .vec (encHd 6) gs 34, .own [.c (.int .i64 x.1), .c (.int .i64 x.2), .c (.int .i64 x.3), .c (.sli 7 (.c 0) 1 (.v gs.length) none), .c (.int .i64 x.4)] 70, .own [.c (.int .i64 y.1), .c (.int .i64 y.2), .c (.int .i64 y.3), .c (.int .i64 y.4), .c (.int .u32 y.5), .a (encInt IntKind.u32) 32 y.6, .c (.sb y.7), .c (.int .i64 y.8)] 73]))

 (.ret (.exit 0, [.sli 1 (.c 0) 1 (.v q.2.length) (some (.v q.3)), .sli 3 (.c 0) 1 (.v q.4.length) (some (.v q.5)), .ptr 5 0, .ptr 8 0, .int .i64 (↑n : Int), .ptr 9 0, .int .i64 bf, .sb gp, .int .i64 (↑i : Int)], [.ro encLook [PUnit.unit], .ro (encHd 2) hs, Blk.rows false IntKind.u32 q.2, .ro (encInt IntKind.u8) q.4, .own [.a (encInt IntKind.u32) 60 l] 22, .own [.c (.sli 4 (.c 0) 1 (.v 60) (some (.v 60))), .c (.int .i64 c)] 68, Blk.rows true IntKind.u32 q.2, .vec (encHd 6) gs 34, .own [.c (.int .i64 x.1), .c (.int .i64 x.2), .c (.int .i64 x.3), .c (.sli 7 (.c 0) 1 (.v gs.length) none), .c (.int .i64 x.4)] 70, .own [.c (.int .i64 y.1), .c (.int .i64 y.2), .c (.int .i64 y.3), .c (.int .i64 y.4), .c (.int .u32 y.5), .a (encInt IntKind.u32) 32 y.6, .c (.sb y.7), .c (.int .i64 y.8)] 73])))

 (.ret (.exit 0, [.sli 1 (.c 0) 1 (.v q.2.length) (some (.v q.3)), .sli 3 (.c 0) 1 (.v q.4.length) (some (.v q.5)), .ptr 5 0, .ptr 8 0, .int .i64 (↑n : Int), .ptr 9 0, .int .i64 bf, .sb gp, .int .i64 (↑i : Int)], [.ro encLook [PUnit.unit], .ro (encHd 2) hs, Blk.rows false IntKind.u32 q.2, .ro (encInt IntKind.u8) q.4, .own [.a (encInt IntKind.u32) 60 l] 22, .own [.c (.sli 4 (.c 0) 1 (.v 60) (some (.v 60))), .c (.int .i64 c)] 68, Blk.rows true IntKind.u32 q.2, .vec (encHd 6) gs 34, .own [.c (.int .i64 x.1), .c (.int .i64 x.2), .c (.int .i64 x.3), .c (.sli 7 (.c 0) 1 (.v gs.length) none), .c (.int .i64 x.4)] 70, .own [.c (.int .i64 y.1), .c (.int .i64 y.2), .c (.int .i64 y.3), .c (.int .i64 y.4), .c (.int .u32 y.5), .a (encInt IntKind.u32) 32 y.6, .c (.sb y.7), .c (.int .i64 y.8)] 73]))) := by kernel_rfl
set_option maxRecDepth 100000 in
theorem p_inc {q : InW} {hs gs : List (Nat × Nat)} {l : List Int} {c : Int} {x : Wr} {y : Rd} {n i : Nat} {bf : Int} {gp : Bool} : (exec cfgM 100 inc3 (fr 172 nWi (vWi q n bf gp i)) (sWq q hs gs l c x y)).bind (canonK 10 [(0,0)] 172 nWi) =
 

 (.need (inR .i64 ((↑i : Int) + (1 : Int)))

 (.ret (.normal, [.sli 1 (.c 0) 1 (.v q.2.length) (some (.v q.3)), .sli 3 (.c 0) 1 (.v q.4.length) (some (.v q.5)), .ptr 5 0, .ptr 8 0, .int .i64 (↑n : Int), .ptr 9 0, .int .i64 bf, .sb gp, .int .i64 ((↑i : Int) + (1 : Int))], [.ro encLook [PUnit.unit], .ro (encHd 2) hs, Blk.rows false IntKind.u32 q.2, .ro (encInt IntKind.u8) q.4, .own [.a (encInt IntKind.u32) 60 l] 22, .own [.c (.sli 4 (.c 0) 1 (.v 60) (some (.v 60))), .c (.int .i64 c)] 68, Blk.rows true IntKind.u32 q.2, .vec (encHd 6) gs 34, .own [.c (.int .i64 x.1), .c (.int .i64 x.2), .c (.int .i64 x.3), .c (.sli 7 (.c 0) 1 (.v gs.length) none), .c (.int .i64 x.4)] 70, .own [.c (.int .i64 y.1), .c (.int .i64 y.2), .c (.int .i64 y.3), .c (.int .i64 y.4), .c (.int .u32 y.5), .a (encInt IntKind.u32) 32 y.6, .c (.sb y.7), .c (.int .i64 y.8)] 73]))) := by kernel_rfl
set_option maxRecDepth 100000 in
theorem p_end {q : InW} {hs gs : List (Nat × Nat)} {l : List Int} {c : Int} {x : Wr} {y : Rd} {n i : Nat} {bf : Int} {gp : Bool} : (exec cfgM 100 end3 (fr 172 nWi (vWi q n bf gp i)) (sWq q hs gs l c x y)).bind (canonK 10 [(0,0)] 172 [6]) =
 

 (.ret (.ret, [.bl true], [.ro encLook [PUnit.unit], .ro (encHd 2) hs, Blk.rows false IntKind.u32 q.2, .ro (encInt IntKind.u8) q.4, .own [.a (encInt IntKind.u32) 60 l] 22, .own [.c (.sli 4 (.c 0) 1 (.v 60) (some (.v 60))), .c (.int .i64 c)] 68, Blk.rows true IntKind.u32 q.2, .vec (encHd 6) gs 34, .own [.c (.int .i64 x.1), .c (.int .i64 x.2), .c (.int .i64 x.3), .c (.sli 7 (.c 0) 1 (.v gs.length) none), .c (.int .i64 x.4)] 70, .own [.c (.int .i64 y.1), .c (.int .i64 y.2), .c (.int .i64 y.3), .c (.int .i64 y.4), .c (.int .u32 y.5), .a (encInt IntKind.u32) 32 y.6, .c (.sb y.7), .c (.int .i64 y.8)] 73])) := by kernel_rfl
set_option maxRecDepth 100000 in
theorem q_a {q : InW} {hs gs : List (Nat × Nat)} {l : List Int} {c : Int} {x : Wr} {y : Rd} {l1 : List Int} {c1 : Int} {x1 : Wr} {b1 : Bool} {c2 : Int} {y2 : Rd} {b2 : Bool} {P1 P2 : Prop} {n i : Nat} {bf : Int} {gp : Bool} : (execN (cfgSt q hs gs l c x y l1 c1 x1 b1 c2 y2 b2 P1 P2) 100 1 bb3 (fr 172 nWi (vWi q n bf gp i)) (sWq q hs gs l c x y)).bind (canonK 10 [(0,0)] 172 nWi) =
 

 (.need (decide ((0 : Int) ≤ (↑i : Int)) && decide ((↑i : Int).toNat < q.4.length))

 (.need (decide ((↑i : Int).toNat < q.4.length))

 (.br (bitop BinOp.and IntKind.u8 (q.4.getD (↑i : Int).toNat (0 : Int)) (1 : Int) == (0 : Int))

 (.eq ([SVal.ptr 8 0, .ptr 5 0] = [SVal.ptr 8 0, .ptr 5 0] ∧ [Blk.ro encLook [PUnit.unit], .ro (encHd 2) hs, Blk.rows false IntKind.u32 q.2, .ro (encInt IntKind.u8) q.4, .own [.a (encInt IntKind.u32) 60 l] 22, .own [.c (.sli 4 (.c 0) 1 (.v 60) (some (.v 60))), .c (.int .i64 c)] 68, Blk.rows true IntKind.u32 q.2, .vec (encHd 6) gs 34, .own [.c (.int .i64 x.1), .c (.int .i64 x.2), .c (.int .i64 x.3), .c (.sli 7 (.c 0) 1 (.v gs.length) none), .c (.int .i64 x.4)] 70, .own [.c (.int .i64 y.1), .c (.int .i64 y.2), .c (.int .i64 y.3), .c (.int .i64 y.4), .c (.int .u32 y.5), .a (encInt IntKind.u32) 32 y.6, .c (.sb y.7), .c (.int .i64 y.8)] 73] = [Blk.ro encLook [PUnit.unit], .ro (encHd 2) hs, Blk.rows false IntKind.u32 q.2, .ro (encInt IntKind.u8) q.4, .own [.a (encInt IntKind.u32) 60 l] 22, .own [.c (.sli 4 (.c 0) 1 (.v 60) (some (.v 60))), .c (.int .i64 c)] 68, Blk.rows true IntKind.u32 q.2, .vec (encHd 6) gs 34, .own [.c (.int .i64 x.1), .c (.int .i64 x.2), .c (.int .i64 x.3), .c (.sli 7 (.c 0) 1 (.v gs.length) none), .c (.int .i64 x.4)] 70, .own [.c (.int .i64 y.1), .c (.int .i64 y.2), .c (.int .i64 y.3), .c (.int .i64 y.4), .c (.int .u32 y.5), .a (encInt IntKind.u32) 32 y.6, .c (.sb y.7), .c (.int .i64 y.8)] 73] ∧ P1)

 (.ret (.exit 1, [.sli 1 (.c 0) 1 (.v q.2.length) (some (.v q.3)), .sli 3 (.c 0) 1 (.v q.4.length) (some (.v q.5)), .ptr 5 0, .ptr 8 0, .int .i64 (↑n : Int), .ptr 9 0, .int .i64 bf, .sb gp, .int .i64 (↑i : Int)], [.ro encLook [PUnit.unit], .ro (encHd 2) hs, Blk.rows false IntKind.u32 q.2, .ro (encInt IntKind.u8) q.4, .own [.a (encInt IntKind.u32) 60 l1] 22, .own [.c (.sli 4 (.c 0) 1 (.v 60) (some (.v 60))), .c (.int .i64 c1)] 68, Blk.rows true IntKind.u32 q.2, .vec (encHd 6) gs 34, .own [.c (.int .i64 x1.1), .c (.int .i64 x1.2), .c (.int .i64 x1.3), .c (.sli 7 (.c 0) 1 (.v gs.length) none), .c (.int .i64 x1.4)] 70, .own [.c (.int .i64 y.1), .c (.int .i64 y.2), .c (.int .i64 y.3), .c (.int .i64 y.4), .c (.int .u32 y.5), .a (encInt IntKind.u32) 32 y.6, .c (.sb y.7), .c (.int .i64 y.8)] 73])))

 (.ret (.normal, [.sli 1 (.c 0) 1 (.v q.2.length) (some (.v q.3)), .sli 3 (.c 0) 1 (.v q.4.length) (some (.v q.5)), .ptr 5 0, .ptr 8 0, .int .i64 (↑n : Int), .ptr 9 0, .int .i64 bf, .sb gp, .int .i64 (↑i : Int)], [.ro encLook [PUnit.unit], .ro (encHd 2) hs, Blk.rows false IntKind.u32 q.2, .ro (encInt IntKind.u8) q.4, .own [.a (encInt IntKind.u32) 60 l] 22, .own [.c (.sli 4 (.c 0) 1 (.v 60) (some (.v 60))), .c (.int .i64 c)] 68, Blk.rows true IntKind.u32 q.2, .vec (encHd 6) gs 34, .own [.c (.int .i64 x.1), .c (.int .i64 x.2), .c (.int .i64 x.3), .c (.sli 7 (.c 0) 1 (.v gs.length) none), .c (.int .i64 x.4)] 70, .own [.c (.int .i64 y.1), .c (.int .i64 y.2), .c (.int .i64 y.3), .c (.int .i64 y.4), .c (.int .u32 y.5), .a (encInt IntKind.u32) 32 y.6, .c (.sb y.7), .c (.int .i64 y.8)] 73]))))) := by kernel_rfl
set_option maxRecDepth 100000 in
theorem q_b {q : InW} {hs gs : List (Nat × Nat)} {l : List Int} {c : Int} {x : Wr} {y : Rd} {n i : Nat} {bf : Int} {gp : Bool} : (execN cfgM 100 2 (restC 1 bb3) (fr 172 nWi (vWi q n bf gp i)) (sWq q hs gs l c x y)).bind (canonK 9 [(0,0)] 172 nWt) =
 

 (.br (gp)

 (.br (decide ((1 : Int) ≤ (↑n : Int)))

 (.br (!decide ((↑n : Int) ≤ (32 : Int)))

 (.ret (.ret, [.sli 1 (.c 0) 1 (.v q.2.length) (some (.v q.3)), .sli 3 (.c 0) 1 (.v q.4.length) (some (.v q.5)), .ptr 5 0, .ptr 8 0, .int .i64 (↑n : Int), .pnil, .int .i64 bf, .sb gp, .int .i64 (↑i : Int), .int .i64 y.8], [.ro encLook [PUnit.unit], .ro (encHd 2) hs, Blk.rows false IntKind.u32 q.2, .ro (encInt IntKind.u8) q.4, .own [.a (encInt IntKind.u32) 60 l] 22, .own [.c (.sli 4 (.c 0) 1 (.v 60) (some (.v 60))), .c (.int .i64 c)] 68, Blk.rows true IntKind.u32 q.2, .vec (encHd 6) gs 34, .own [.c (.int .i64 x.1), .c (.int .i64 x.2), .c (.int .i64 x.3), .c (.sli 7 (.c 0) 1 (.v gs.length) none), .c (.int .i64 x.4)] 70]))

 (.ret (.normal, [.sli 1 (.c 0) 1 (.v q.2.length) (some (.v q.3)), .sli 3 (.c 0) 1 (.v q.4.length) (some (.v q.5)), .ptr 5 0, .ptr 8 0, .int .i64 (↑n : Int), .ptr 9 0, .int .i64 bf, .sb gp, .int .i64 (↑i : Int), .lit .i64 (0 : Int)], [.ro encLook [PUnit.unit], .ro (encHd 2) hs, Blk.rows false IntKind.u32 q.2, .ro (encInt IntKind.u8) q.4, .own [.a (encInt IntKind.u32) 60 l] 22, .own [.c (.sli 4 (.c 0) 1 (.v 60) (some (.v 60))), .c (.int .i64 c)] 68, Blk.rows true IntKind.u32 q.2, .vec (encHd 6) gs 34, .own [.c (.int .i64 x.1), .c (.int .i64 x.2), .c (.int .i64 x.3), .c (.sli 7 (.c 0) 1 (.v gs.length) none), .c (.int .i64 x.4)] 70, .own [.c (.lit .i64 (0 : Int)), .c (.int .i64 (↑n : Int)), .c (.lit .i64 (0 : Int)), .c (.lit .i64 (0 : Int)), .c (.lit .u32 (0 : Int)), .c (.lit .u32 (0 : Int)), .c (.lit .u32 (0 : Int)), .c (.lit .u32 (0 : Int)), .c (.lit .u32 (0 : Int)), .c (.lit .u32 (0 : Int)), .c (.lit .u32 (0 : Int)), .c (.lit .u32 (0 : Int)), .c (.lit .u32 (0 : Int)), .c (.lit .u32 (0 : Int)), .c (.lit .u32 (0 : Int)), .c (.lit .u32 (0 : Int)), .c (.lit .u32 (0 : Int)), .c (.lit .u32 (0 : Int)), .c (.lit .u32 (0 : Int)), .c (.lit .u32 (0 : Int)), .c (.lit .u32 (0 : Int)), .c (.lit .u32 (0 : Int)), .c (.lit .u32 (0 : Int)), .c (.lit .u32 (0 : Int)), .c (.lit .u32 (0 : Int)), .c (.lit .u32 (0 : Int)), .c (.lit .u32 (0 : Int)), .c (.lit .u32 (0 : Int)), .c (.lit .u32 (0 : Int)), .c (.lit .u32 (0 : Int)), .c (.lit .u32 (0 : Int)), .c (.lit .u32 (0 : Int)), .c (.lit .u32 (0 : Int)), .c (.lit .u32 (0 : Int)), .c (.lit .u32 (0 : Int)), .c (.lit .u32 (0 : Int)), .c (.lit .u32 (0 : Int)), .c (.bl false), .c (.lit .i64 (0 : Int))] 73])))

 (.ret (.ret, [.sli 1 (.c 0) 1 (.v q.2.length) (some (.v q.3)), .sli 3 (.c 0) 1 (.v q.4.length) (some (.v q.5)), .ptr 5 0, .ptr 8 0, .int .i64 (↑n : Int), .pnil, .int .i64 bf, .sb gp, .int .i64 (↑i : Int), .int .i64 y.8], [.ro encLook [PUnit.unit], .ro (encHd 2) hs, Blk.rows false IntKind.u32 q.2, .ro (encInt IntKind.u8) q.4, .own [.a (encInt IntKind.u32) 60 l] 22, .own [.c (.sli 4 (.c 0) 1 (.v 60) (some (.v 60))), .c (.int .i64 c)] 68, Blk.rows true IntKind.u32 q.2, .vec (encHd 6) gs 34, .own [.c (.int .i64 x.1), .c (.int .i64 x.2), .c (.int .i64 x.3), .c (.sli 7 (.c 0) 1 (.v gs.length) none), .c (.int .i64 x.4)] 70])))

 (.ret (.normal, [.sli 1 (.c 0) 1 (.v q.2.length) (some (.v q.3)), .sli 3 (.c 0) 1 (.v q.4.length) (some (.v q.5)), .ptr 5 0, .ptr 8 0, .int .i64 (↑n : Int), .ptr 9 0, .int .i64 bf, .sb gp, .int .i64 (↑i : Int), .int .i64 y.8], [.ro encLook [PUnit.unit], .ro (encHd 2) hs, Blk.rows false IntKind.u32 q.2, .ro (encInt IntKind.u8) q.4, .own [.a (encInt IntKind.u32) 60 l] 22, .own [.c (.sli 4 (.c 0) 1 (.v 60) (some (.v 60))), .c (.int .i64 c)] 68, Blk.rows true IntKind.u32 q.2, .vec (encHd 6) gs 34, .own [.c (.int .i64 x.1), .c (.int .i64 x.2), .c (.int .i64 x.3), .c (.sli 7 (.c 0) 1 (.v gs.length) none), .c (.int .i64 x.4)] 70, .own [.c (.int .i64 y.1), .c (.int .i64 y.2), .c (.int .i64 y.3), .c (.int .i64 y.4), .c (.int .u32 y.5), .a (encInt IntKind.u32) 32 y.6, .c (.sb y.7), .c (.int .i64 y.8)] 73]))) := by kernel_rfl
set_option maxRecDepth 100000 in
theorem q_c {q : InW} {hs gs : List (Nat × Nat)} {l : List Int} {c : Int} {x : Wr} {y : Rd} {l1 : List Int} {c1 : Int} {x1 : Wr} {b1 : Bool} {c2 : Int} {y2 : Rd} {b2 : Bool} {P1 P2 : Prop} {n i : Nat} {bf t : Int} {gp : Bool} : (execN (cfgSt q hs gs l c x y l1 c1 x1 b1 c2 y2 b2 P1 P2) 100 1 (restC 3 bb3) (fr 172 nWt (vWt q n bf gp i t)) (sWq q hs gs l c x y)).bind (canonK 10 [(0,0)] 172 nWt) =
 

 (.eq ([SVal.ptr 9 0, .ptr 5 0] = [SVal.ptr 9 0, .ptr 5 0] ∧ [Blk.ro encLook [PUnit.unit], .ro (encHd 2) hs, Blk.rows false IntKind.u32 q.2, .ro (encInt IntKind.u8) q.4, .own [.a (encInt IntKind.u32) 60 l] 22, .own [.c (.sli 4 (.c 0) 1 (.v 60) (some (.v 60))), .c (.int .i64 c)] 68, Blk.rows true IntKind.u32 q.2, .vec (encHd 6) gs 34, .own [.c (.int .i64 x.1), .c (.int .i64 x.2), .c (.int .i64 x.3), .c (.sli 7 (.c 0) 1 (.v gs.length) none), .c (.int .i64 x.4)] 70, .own [.c (.int .i64 y.1), .c (.int .i64 y.2), .c (.int .i64 y.3), .c (.int .i64 y.4), .c (.int .u32 y.5), .a (encInt IntKind.u32) 32 y.6, .c (.sb y.7), .c (.int .i64 y.8)] 73] = [Blk.ro encLook [PUnit.unit], .ro (encHd 2) hs, Blk.rows false IntKind.u32 q.2, .ro (encInt IntKind.u8) q.4, .own [.a (encInt IntKind.u32) 60 l] 22, .own [.c (.sli 4 (.c 0) 1 (.v 60) (some (.v 60))), .c (.int .i64 c)] 68, Blk.rows true IntKind.u32 q.2, .vec (encHd 6) gs 34, .own [.c (.int .i64 x.1), .c (.int .i64 x.2), .c (.int .i64 x.3), .c (.sli 7 (.c 0) 1 (.v gs.length) none), .c (.int .i64 x.4)] 70, .own [.c (.int .i64 y.1), .c (.int .i64 y.2), .c (.int .i64 y.3), .c (.int .i64 y.4), .c (.int .u32 y.5), .a (encInt IntKind.u32) 32 y.6, .c (.sb y.7), .c (.int .i64 y.8)] 73] ∧ P2)

 (.ret (.normal, [.sli 1 (.c 0) 1 (.v q.2.length) (some (.v q.3)), .sli 3 (.c 0) 1 (.v q.4.length) (some (.v q.5)), .ptr 5 0, .ptr 8 0, .int .i64 (↑n : Int), .ptr 9 0, .int .i64 bf, .sb b2, .int .i64 (↑i : Int), .int .i64 t], [.ro encLook [PUnit.unit], .ro (encHd 2) hs, Blk.rows false IntKind.u32 q.2, .ro (encInt IntKind.u8) q.4, .own [.a (encInt IntKind.u32) 60 l] 22, .own [.c (.sli 4 (.c 0) 1 (.v 60) (some (.v 60))), .c (.int .i64 c2)] 68, Blk.rows true IntKind.u32 q.2, .vec (encHd 6) gs 34, .own [.c (.int .i64 x.1), .c (.int .i64 x.2), .c (.int .i64 x.3), .c (.sli 7 (.c 0) 1 (.v gs.length) none), .c (.int .i64 x.4)] 70, .own [.c (.int .i64 y2.1), .c (.int .i64 y2.2), .c (.int .i64 y2.3), .c (.int .i64 y2.4), .c (.int .u32 y2.5), .a (encInt IntKind.u32) 32 y2.6, .c (.sb y2.7), .c (.int .i64 y2.8)] 73]))) := by kernel_rfl
set_option maxRecDepth 100000 in
theorem q_d {q : InW} {hs gs : List (Nat × Nat)} {l : List Int} {c : Int} {x : Wr} {y : Rd} {n i : Nat} {bf t : Int} : (execN cfgM 100 5 (restC 4 bb3) (fr 172 nWt (vWt q n bf y.got i t)) (sWq q hs gs l c x y)).bind (canonK 10 [(0,0)] 172 nWl) =
 

 (.br (decide (t < y.8))

 (.br (!y.7)

 (.br (!false == y.7)

 (.ret (.ret, [.sli 1 (.c 0) 1 (.v q.2.length) (some (.v q.3)), .sli 3 (.c 0) 1 (.v q.4.length) (some (.v q.5)), .ptr 5 0, .ptr 8 0, .int .i64 (↑n : Int), .ptr 9 0, .int .i64 x.4, .sb y.7, .int .i64 (↑i : Int), .snil, .bad], [.ro encLook [PUnit.unit], .ro (encHd 2) hs, Blk.rows false IntKind.u32 q.2, .ro (encInt IntKind.u8) q.4, .own [.a (encInt IntKind.u32) 60 l] 22, .own [.c (.sli 4 (.c 0) 1 (.v 60) (some (.v 60))), .c (.int .i64 c)] 68, Blk.rows true IntKind.u32 q.2, .vec (encHd 6) gs 34, .own [.c (.int .i64 x.1), .c (.int .i64 x.2), .c (.int .i64 x.3), .c (.sli 7 (.c 0) 1 (.v gs.length) none), .c (.int .i64 x.4)] 70, .own [.c (.int .i64 y.1), .c (.int .i64 y.2), .c (.int .i64 y.3), .c (.int .i64 y.4), .c (.int .u32 y.5), .a (encInt IntKind.u32) 32 y.6, .c (.sb y.7), .c (.int .i64 y.8)] 73]))

 (.ret (.exit 1, [.sli 1 (.c 0) 1 (.v q.2.length) (some (.v q.3)), .sli 3 (.c 0) 1 (.v q.4.length) (some (.v q.5)), .ptr 5 0, .ptr 8 0, .int .i64 (↑n : Int), .ptr 9 0, .int .i64 x.4, .sb y.7, .int .i64 (↑i : Int), .snil, .bad], [.ro encLook [PUnit.unit], .ro (encHd 2) hs, Blk.rows false IntKind.u32 q.2, .ro (encInt IntKind.u8) q.4, .own [.a (encInt IntKind.u32) 60 l] 22, .own [.c (.sli 4 (.c 0) 1 (.v 60) (some (.v 60))), .c (.int .i64 c)] 68, Blk.rows true IntKind.u32 q.2, .vec (encHd 6) gs 34, .own [.c (.int .i64 x.1), .c (.int .i64 x.2), .c (.int .i64 x.3), .c (.sli 7 (.c 0) 1 (.v gs.length) none), .c (.int .i64 x.4)] 70, .own [.c (.int .i64 y.1), .c (.int .i64 y.2), .c (.int .i64 y.3), .c (.int .i64 y.4), .c (.int .u32 y.5), .a (encInt IntKind.u32) 32 y.6, .c (.sb y.7), .c (.int .i64 y.8)] 73])))

 (.need (decide ((0 : Int) ≤ y.2) && decide (y.2.toNat ≤ 32))

 (.need (decide ((0 : Int) ≤ y.2) && decide (y.2.toNat ≤ y.2.toNat))

 (.need (decide (0 ≤ y.2.toNat))

 (.br (!true == y.7)

 (.ret (.ret, [.sli 1 (.c 0) 1 (.v q.2.length) (some (.v q.3)), .sli 3 (.c 0) 1 (.v q.4.length) (some (.v q.5)), .ptr 5 0, .ptr 8 0, .int .i64 (↑n : Int), .ptr 9 0, .int .i64 x.4, .sb y.7, .int .i64 (↑i : Int), .sli 10 (.c 0) 1 (.v y.2.toNat) (some (.v y.2.toNat)), .bad], [.ro encLook [PUnit.unit], .ro (encHd 2) hs, Blk.rows false IntKind.u32 q.2, .ro (encInt IntKind.u8) q.4, .own [.a (encInt IntKind.u32) 60 l] 22, .own [.c (.sli 4 (.c 0) 1 (.v 60) (some (.v 60))), .c (.int .i64 c)] 68, Blk.rows true IntKind.u32 q.2, .vec (encHd 6) gs 34, .own [.c (.int .i64 x.1), .c (.int .i64 x.2), .c (.int .i64 x.3), .c (.sli 7 (.c 0) 1 (.v gs.length) none), .c (.int .i64 x.4)] 70, .own [.c (.int .i64 y.1), .c (.int .i64 y.2), .c (.int .i64 y.3), .c (.int .i64 y.4), .c (.int .u32 y.5), .a (encInt IntKind.u32) 32 y.6, .c (.sb y.7), .c (.int .i64 y.8)] 73, .own [.c (.int .u32 (y.6.getD 0 (0 : Int))), .c (.int .u32 (y.6.getD 1 (0 : Int))), .c (.int .u32 (y.6.getD 2 (0 : Int))), .c (.int .u32 (y.6.getD 3 (0 : Int))), .c (.int .u32 (y.6.getD 4 (0 : Int))), .c (.int .u32 (y.6.getD 5 (0 : Int))), .c (.int .u32 (y.6.getD 6 (0 : Int))), .c (.int .u32 (y.6.getD 7 (0 : Int))), .c (.int .u32 (y.6.getD 8 (0 : Int))), .c (.int .u32 (y.6.getD 9 (0 : Int))), .c (.int .u32 (y.6.getD 10 (0 : Int))), .c (.int .u32 (y.6.getD 11 (0 : Int))), .c (.int .u32 (y.6.getD 12 (0 : Int))), .c (.int .u32 (y.6.getD 13 (0 : Int))), .c (.int .u32 (y.6.getD 14 (0 : Int))), .c (.int .u32 (y.6.getD 15 (0 : Int))), .c (.int .u32 (y.6.getD 16 (0 : Int))), .c (.int .u32 (y.6.getD 17 (0 : Int))), .c (.int .u32 (y.6.getD 18 (0 : Int))), .c (.int .u32 (y.6.getD 19 (0 : Int))), .c (.int .u32 (y.6.getD 20 (0 : Int))), .c (.int .u32 (y.6.getD 21 (0 : Int))), .c (.int .u32 (y.6.getD 22 (0 : Int))), .c (.int .u32 (y.6.getD 23 (0 : Int))), .c (.int .u32 (y.6.getD 24 (0 : Int))), .c (.int .u32 (y.6.getD 25 (0 : Int))), .c (.int .u32 (y.6.getD 26 (0 : Int))), .c (.int .u32 (y.6.getD 27 (0 : Int))), .c (.int .u32 (y.6.getD 28 (0 : Int))), .c (.int .u32 (y.6.getD 29 (0 : Int))), .c (.int .u32 (y.6.getD 30 (0 : Int))), .c (.int .u32 (y.6.getD 31 (0 : Int)))] 71]))

 (.ret (.normal, [.sli 1 (.c 0) 1 (.v q.2.length) (some (.v q.3)), .sli 3 (.c 0) 1 (.v q.4.length) (some (.v q.5)), .ptr 5 0, .ptr 8 0, .int .i64 (↑n : Int), .ptr 9 0, .int .i64 x.4, .sb y.7, .int .i64 (↑i : Int), .sli 10 (.c 0) 1 (.v y.2.toNat) (some (.v y.2.toNat)), .bl false], [.ro encLook [PUnit.unit], .ro (encHd 2) hs, Blk.rows false IntKind.u32 q.2, .ro (encInt IntKind.u8) q.4, .own [.a (encInt IntKind.u32) 60 l] 22, .own [.c (.sli 4 (.c 0) 1 (.v 60) (some (.v 60))), .c (.int .i64 c)] 68, Blk.rows true IntKind.u32 q.2, .vec (encHd 6) gs 34, .own [.c (.int .i64 x.1), .c (.int .i64 x.2), .c (.int .i64 x.3), .c (.sli 7 (.c 0) 1 (.v gs.length) none), .c (.int .i64 x.4)] 70, .own [.c (.int .i64 y.1), .c (.int .i64 y.2), .c (.int .i64 y.3), .c (.int .i64 y.4), .c (.int .u32 y.5), .a (encInt IntKind.u32) 32 y.6, .c (.sb y.7), .c (.int .i64 y.8)] 73, .own [.c (.int .u32 (y.6.getD 0 (0 : Int))), .c (.int .u32 (y.6.getD 1 (0 : Int))), .c (.int .u32 (y.6.getD 2 (0 : Int))), .c (.int .u32 (y.6.getD 3 (0 : Int))), .c (.int .u32 (y.6.getD 4 (0 : Int))), .c (.int .u32 (y.6.getD 5 (0 : Int))), .c (.int .u32 (y.6.getD 6 (0 : Int))), .c (.int .u32 (y.6.getD 7 (0 : Int))), .c (.int .u32 (y.6.getD 8 (0 : Int))), .c (.int .u32 (y.6.getD 9 (0 : Int))), .c (.int .u32 (y.6.getD 10 (0 : Int))), .c (.int .u32 (y.6.getD 11 (0 : Int))), .c (.int .u32 (y.6.getD 12 (0 : Int))), .c (.int .u32 (y.6.getD 13 (0 : Int))), .c (.int .u32 (y.6.getD 14 (0 : Int))), .c (.int .u32 (y.6.getD 15 (0 : Int))), .c (.int .u32 (y.6.getD 16 (0 : Int))), .c (.int .u32 (y.6.getD 17 (0 : Int))), .c (.int .u32 (y.6.getD 18 (0 : Int))), .c (.int .u32 (y.6.getD 19 (0 : Int))), .c (.int .u32 (y.6.getD 20 (0 : Int))), .c (.int .u32 (y.6.getD 21 (0 : Int))), .c (.int .u32 (y.6.getD 22 (0 : Int))), .c (.int .u32 (y.6.getD 23 (0 : Int))), .c (.int .u32 (y.6.getD 24 (0 : Int))), .c (.int .u32 (y.6.getD 25 (0 : Int))), .c (.int .u32 (y.6.getD 26 (0 : Int))), .c (.int .u32 (y.6.getD 27 (0 : Int))), .c (.int .u32 (y.6.getD 28 (0 : Int))), .c (.int .u32 (y.6.getD 29 (0 : Int))), .c (.int .u32 (y.6.getD 30 (0 : Int))), .c (.int .u32 (y.6.getD 31 (0 : Int)))] 71])))))))

 (.br (!y.7)

 (.br (!false == y.7)

 (.ret (.ret, [.sli 1 (.c 0) 1 (.v q.2.length) (some (.v q.3)), .sli 3 (.c 0) 1 (.v q.4.length) (some (.v q.5)), .ptr 5 0, .ptr 8 0, .int .i64 (↑n : Int), .ptr 9 0, .int .i64 bf, .sb y.7, .int .i64 (↑i : Int), .snil, .bad], [.ro encLook [PUnit.unit], .ro (encHd 2) hs, Blk.rows false IntKind.u32 q.2, .ro (encInt IntKind.u8) q.4, .own [.a (encInt IntKind.u32) 60 l] 22, .own [.c (.sli 4 (.c 0) 1 (.v 60) (some (.v 60))), .c (.int .i64 c)] 68, Blk.rows true IntKind.u32 q.2, .vec (encHd 6) gs 34, .own [.c (.int .i64 x.1), .c (.int .i64 x.2), .c (.int .i64 x.3), .c (.sli 7 (.c 0) 1 (.v gs.length) none), .c (.int .i64 x.4)] 70, .own [.c (.int .i64 y.1), .c (.int .i64 y.2), .c (.int .i64 y.3), .c (.int .i64 y.4), .c (.int .u32 y.5), .a (encInt IntKind.u32) 32 y.6, .c (.sb y.7), .c (.int .i64 y.8)] 73]))

 (.ret (.exit 1, [.sli 1 (.c 0) 1 (.v q.2.length) (some (.v q.3)), .sli 3 (.c 0) 1 (.v q.4.length) (some (.v q.5)), .ptr 5 0, .ptr 8 0, .int .i64 (↑n : Int), .ptr 9 0, .int .i64 bf, .sb y.7, .int .i64 (↑i : Int), .snil, .bad], [.ro encLook [PUnit.unit], .ro (encHd 2) hs, Blk.rows false IntKind.u32 q.2, .ro (encInt IntKind.u8) q.4, .own [.a (encInt IntKind.u32) 60 l] 22, .own [.c (.sli 4 (.c 0) 1 (.v 60) (some (.v 60))), .c (.int .i64 c)] 68, Blk.rows true IntKind.u32 q.2, .vec (encHd 6) gs 34, .own [.c (.int .i64 x.1), .c (.int .i64 x.2), .c (.int .i64 x.3), .c (.sli 7 (.c 0) 1 (.v gs.length) none), .c (.int .i64 x.4)] 70, .own [.c (.int .i64 y.1), .c (.int .i64 y.2), .c (.int .i64 y.3), .c (.int .i64 y.4), .c (.int .u32 y.5), .a (encInt IntKind.u32) 32 y.6, .c (.sb y.7), .c (.int .i64 y.8)] 73])))

 (.need (decide ((0 : Int) ≤ y.2) && decide (y.2.toNat ≤ 32))

 (.need (decide ((0 : Int) ≤ y.2) && decide (y.2.toNat ≤ y.2.toNat))

 (.need (decide (0 ≤ y.2.toNat))

 (.br (!true == y.7)

 (.ret (.ret, [.sli 1 (.c 0) 1 (.v q.2.length) (some (.v q.3)), .sli 3 (.c 0) 1 (.v q.4.length) (some (.v q.5)), .ptr 5 0, .ptr 8 0, .int .i64 (↑n : Int), .ptr 9 0, .int .i64 bf, .sb y.7, .int .i64 (↑i : Int), .sli 10 (.c 0) 1 (.v y.2.toNat) (some (.v y.2.toNat)), .bad], [.ro encLook [PUnit.unit], .ro (encHd 2) hs, Blk.rows false IntKind.u32 q.2, .ro (encInt IntKind.u8) q.4, .own [.a (encInt IntKind.u32) 60 l] 22, .own [.c (.sli 4 (.c 0) 1 (.v 60) (some (.v 60))), .c (.int .i64 c)] 68, Blk.rows true IntKind.u32 q.2, .vec (encHd 6) gs 34, .own [.c (.int .i64 x.1), .c (.int .i64 x.2), .c (.int .i64 x.3), .c (.sli 7 (.c 0) 1 (.v gs.length) none), .c (.int .i64 x.4)] 70, .own [.c (.int .i64 y.1), .c (.int .i64 y.2), .c (.int .i64 y.3), .c (.int .i64 y.4), .c (.int .u32 y.5), .a (encInt IntKind.u32) 32 y.6, .c (.sb y.7), .c (.int .i64 y.8)] 73, .own [.c (.int .u32 (y.6.getD 0 (0 : Int))), .c (.int .u32 (y.6.getD 1 (0 : Int))), .c (.int .u32 (y.6.getD 2 (0 : Int))), .c (.int .u32 (y.6.getD 3 (0 : Int))), .c (.int .u32 (y.6.getD 4 (0 : Int))), .c (.int .u32 (y.6.getD 5 (0 : Int))), .c (.int .u32 (y.6.getD 6 (0 : Int))), .c (.int .u32 (y.6.getD 7 (0 : Int))), .c (.int .u32 (y.6.getD 8 (0 : Int))), .c (.int .u32 (y.6.getD 9 (0 : Int))), .c (.int .u32 (y.6.getD 10 (0 : Int))), .c (.int .u32 (y.6.getD 11 (0 : Int))), .c (.int .u32 (y.6.getD 12 (0 : Int))), .c (.int .u32 (y.6.getD 13 (0 : Int))), .c (.int .u32 (y.6.getD 14 (0 : Int))), .c (.int .u32 (y.6.getD 15 (0 : Int))), .c (.int .u32 (y.6.getD 16 (0 : Int))), .c (.int .u32 (y.6.getD 17 (0 : Int))), .c (.int .u32 (y.6.getD 18 (0 : Int))), .c (.int .u32 (y.6.getD 19 (0 : Int))), .c (.int .u32 (y.6.getD 20 (0 : Int))), .c (.int .u32 (y.6.getD 21 (0 : Int))), .c (.int .u32 (y.6.getD 22 (0 : Int))), .c (.int .u32 (y.6.getD 23 (0 : Int))), .c (.int .u32 (y.6.getD 24 (0 : Int))), .c (.int .u32 (y.6.getD 25 (0 : Int))), .c (.int .u32 (y.6.getD 26 (0 : Int))), .c (.int .u32 (y.6.getD 27 (0 : Int))), .c (.int .u32 (y.6.getD 28 (0 : Int))), .c (.int .u32 (y.6.getD 29 (0 : Int))), .c (.int .u32 (y.6.getD 30 (0 : Int))), .c (.int .u32 (y.6.getD 31 (0 : Int)))] 71]))

 (.ret (.normal, [.sli 1 (.c 0) 1 (.v q.2.length) (some (.v q.3)), .sli 3 (.c 0) 1 (.v q.4.length) (some (.v q.5)), .ptr 5 0, .ptr 8 0, .int .i64 (↑n : Int), .ptr 9 0, .int .i64 bf, .sb y.7, .int .i64 (↑i : Int), .sli 10 (.c 0) 1 (.v y.2.toNat) (some (.v y.2.toNat)), .bl false], [.ro encLook [PUnit.unit], .ro (encHd 2) hs, Blk.rows false IntKind.u32 q.2, .ro (encInt IntKind.u8) q.4, .own [.a (encInt IntKind.u32) 60 l] 22, .own [.c (.sli 4 (.c 0) 1 (.v 60) (some (.v 60))), .c (.int .i64 c)] 68, Blk.rows true IntKind.u32 q.2, .vec (encHd 6) gs 34, .own [.c (.int .i64 x.1), .c (.int .i64 x.2), .c (.int .i64 x.3), .c (.sli 7 (.c 0) 1 (.v gs.length) none), .c (.int .i64 x.4)] 70, .own [.c (.int .i64 y.1), .c (.int .i64 y.2), .c (.int .i64 y.3), .c (.int .i64 y.4), .c (.int .u32 y.5), .a (encInt IntKind.u32) 32 y.6, .c (.sb y.7), .c (.int .i64 y.8)] 73, .own [.c (.int .u32 (y.6.getD 0 (0 : Int))), .c (.int .u32 (y.6.getD 1 (0 : Int))), .c (.int .u32 (y.6.getD 2 (0 : Int))), .c (.int .u32 (y.6.getD 3 (0 : Int))), .c (.int .u32 (y.6.getD 4 (0 : Int))), .c (.int .u32 (y.6.getD 5 (0 : Int))), .c (.int .u32 (y.6.getD 6 (0 : Int))), .c (.int .u32 (y.6.getD 7 (0 : Int))), .c (.int .u32 (y.6.getD 8 (0 : Int))), .c (.int .u32 (y.6.getD 9 (0 : Int))), .c (.int .u32 (y.6.getD 10 (0 : Int))), .c (.int .u32 (y.6.getD 11 (0 : Int))), .c (.int .u32 (y.6.getD 12 (0 : Int))), .c (.int .u32 (y.6.getD 13 (0 : Int))), .c (.int .u32 (y.6.getD 14 (0 : Int))), .c (.int .u32 (y.6.getD 15 (0 : Int))), .c (.int .u32 (y.6.getD 16 (0 : Int))), .c (.int .u32 (y.6.getD 17 (0 : Int))), .c (.int .u32 (y.6.getD 18 (0 : Int))), .c (.int .u32 (y.6.getD 19 (0 : Int))), .c (.int .u32 (y.6.getD 20 (0 : Int))), .c (.int .u32 (y.6.getD 21 (0 : Int))), .c (.int .u32 (y.6.getD 22 (0 : Int))), .c (.int .u32 (y.6.getD 23 (0 : Int))), .c (.int .u32 (y.6.getD 24 (0 : Int))), .c (.int .u32 (y.6.getD 25 (0 : Int))), .c (.int .u32 (y.6.getD 26 (0 : Int))), .c (.int .u32 (y.6.getD 27 (0 : Int))), .c (.int .u32 (y.6.getD 28 (0 : Int))), .c (.int .u32 (y.6.getD 29 (0 : Int))), .c (.int .u32 (y.6.getD 30 (0 : Int))), .c (.int .u32 (y.6.getD 31 (0 : Int)))] 71])))))))) := by kernel_rfl
end Go.Proofs.YtmknmbacecjfmaaDoor

namespace Go.Proofs.YtmknmbacecjfmaaDoor
open Go Go.Proofs.YtmknmbacecjfmaaDoor.Sx
set_option linter.unusedVariables false
set_option maxRecDepth 100000 in
theorem r_reg {q : InW} {hs gs : List (Nat × Nat)} {l B : List Int} {c : Int} {x : Wr} {y : Rd} {n i : Nat} {bf : Int} {gp hit : Bool} : (exec cfgM 100 dreg3 (fr 172 nWl (vWl q n bf gp i hit)) (sWg q hs gs l c x y B)).bind (canonK 11 [(0,0)] 172 nWk) =
 

 (.ret (.normal, [.sli 1 (.c 0) 1 (.v q.2.length) (some (.v q.3)), .sli 3 (.c 0) 1 (.v q.4.length) (some (.v q.5)), .ptr 5 0, .ptr 8 0, .int .i64 (↑n : Int), .ptr 9 0, .int .i64 bf, .sb gp, .int .i64 (↑i : Int), .sli 10 (.c 0) 1 (.v n) (some (.v n)), .sb hit, .int .i64 bf], [.ro encLook [PUnit.unit], .ro (encHd 2) hs, Blk.rows false IntKind.u32 q.2, .ro (encInt IntKind.u8) q.4, .own [.a (encInt IntKind.u32) 60 l] 22, .own [.c (.sli 4 (.c 0) 1 (.v 60) (some (.v 60))), .c (.int .i64 c)] 68, Blk.rows true IntKind.u32 q.2, .vec (encHd 6) gs 34, .own [.c (.int .i64 x.1), .c (.int .i64 x.2), .c (.int .i64 x.3), .c (.sli 7 (.c 0) 1 (.v gs.length) none), .c (.int .i64 x.4)] 70, .own [.c (.int .i64 y.1), .c (.int .i64 y.2), .c (.int .i64 y.3), .c (.int .i64 y.4), .c (.int .u32 y.5), .a (encInt IntKind.u32) 32 y.6, .c (.sb y.7), .c (.int .i64 y.8)] 73, .own [.a (encInt IntKind.u32) 32 B] 71])) := by kernel_rfl
set_option maxRecDepth 100000 in
theorem r_tm {q : InW} {hs gs : List (Nat × Nat)} {l B : List Int} {c : Int} {x : Wr} {y : Rd} {n i : Nat} {bf k : Int} {gp hit : Bool} : (exec cfgM 100 dtm3 (fr 172 nWk (vWk q n bf gp i hit k)) (sWg q hs gs l c x y B)).bind (canonK 11 [(0,0)] 172 nWk) =
 

 (.br (decide (k ≤ x.4))

 (.br ((↑n : Int) == (↑n : Int))

 (.ret (.normal, [.sli 1 (.c 0) 1 (.v q.2.length) (some (.v q.3)), .sli 3 (.c 0) 1 (.v q.4.length) (some (.v q.5)), .ptr 5 0, .ptr 8 0, .int .i64 (↑n : Int), .ptr 9 0, .int .i64 bf, .sb gp, .int .i64 (↑i : Int), .sli 10 (.c 0) 1 (.v n) (some (.v n)), .sb hit, .int .i64 k], [.ro encLook [PUnit.unit], .ro (encHd 2) hs, Blk.rows false IntKind.u32 q.2, .ro (encInt IntKind.u8) q.4, .own [.a (encInt IntKind.u32) 60 l] 22, .own [.c (.sli 4 (.c 0) 1 (.v 60) (some (.v 60))), .c (.int .i64 c)] 68, Blk.rows true IntKind.u32 q.2, .vec (encHd 6) gs 34, .own [.c (.int .i64 x.1), .c (.int .i64 x.2), .c (.int .i64 x.3), .c (.sli 7 (.c 0) 1 (.v gs.length) none), .c (.int .i64 x.4)] 70, .own [.c (.int .i64 y.1), .c (.int .i64 y.2), .c (.int .i64 y.3), .c (.int .i64 y.4), .c (.int .u32 y.5), .a (encInt IntKind.u32) 32 y.6, .c (.sb y.7), .c (.int .i64 y.8)] 73, .own [.a (encInt IntKind.u32) 32 B] 71]))

 (.ret (.exit 2, [.sli 1 (.c 0) 1 (.v q.2.length) (some (.v q.3)), .sli 3 (.c 0) 1 (.v q.4.length) (some (.v q.5)), .ptr 5 0, .ptr 8 0, .int .i64 (↑n : Int), .ptr 9 0, .int .i64 bf, .sb gp, .int .i64 (↑i : Int), .sli 10 (.c 0) 1 (.v n) (some (.v n)), .sb hit, .int .i64 k], [.ro encLook [PUnit.unit], .ro (encHd 2) hs, Blk.rows false IntKind.u32 q.2, .ro (encInt IntKind.u8) q.4, .own [.a (encInt IntKind.u32) 60 l] 22, .own [.c (.sli 4 (.c 0) 1 (.v 60) (some (.v 60))), .c (.int .i64 c)] 68, Blk.rows true IntKind.u32 q.2, .vec (encHd 6) gs 34, .own [.c (.int .i64 x.1), .c (.int .i64 x.2), .c (.int .i64 x.3), .c (.sli 7 (.c 0) 1 (.v gs.length) none), .c (.int .i64 x.4)] 70, .own [.c (.int .i64 y.1), .c (.int .i64 y.2), .c (.int .i64 y.3), .c (.int .i64 y.4), .c (.int .u32 y.5), .a (encInt IntKind.u32) 32 y.6, .c (.sb y.7), .c (.int .i64 y.8)] 73, .own [.a (encInt IntKind.u32) 32 B] 71])))

 (.ret (.exit 2, [.sli 1 (.c 0) 1 (.v q.2.length) (some (.v q.3)), .sli 3 (.c 0) 1 (.v q.4.length) (some (.v q.5)), .ptr 5 0, .ptr 8 0, .int .i64 (↑n : Int), .ptr 9 0, .int .i64 bf, .sb gp, .int .i64 (↑i : Int), .sli 10 (.c 0) 1 (.v n) (some (.v n)), .sb hit, .int .i64 k], [.ro encLook [PUnit.unit], .ro (encHd 2) hs, Blk.rows false IntKind.u32 q.2, .ro (encInt IntKind.u8) q.4, .own [.a (encInt IntKind.u32) 60 l] 22, .own [.c (.sli 4 (.c 0) 1 (.v 60) (some (.v 60))), .c (.int .i64 c)] 68, Blk.rows true IntKind.u32 q.2, .vec (encHd 6) gs 34, .own [.c (.int .i64 x.1), .c (.int .i64 x.2), .c (.int .i64 x.3), .c (.sli 7 (.c 0) 1 (.v gs.length) none), .c (.int .i64 x.4)] 70, .own [.c (.int .i64 y.1), .c (.int .i64 y.2), .c (.int .i64 y.3), .c (.int .i64 y.4), .c (.int .u32 y.5), .a (encInt IntKind.u32) 32 y.6, .c (.sb y.7), .c (.int .i64 y.8)] 73, .own [.a (encInt IntKind.u32) 32 B] 71]))) := by kernel_rfl
set_option maxRecDepth 100000 in
theorem r_m {q : InW} {hs gs : List (Nat × Nat)} {l B : List Int} {c : Int} {x : Wr} {y : Rd} {n i : Nat} {bf k : Int} {gp hit : Bool} : (execN cfgM 100 1 dbb3 (fr 172 nWk (vWk q n bf gp i hit k)) (sWg q hs gs l c x y B)).bind (canonK 11 [(0,0)] 172 nWm) =
 

 (.ret (.normal, [.sli 1 (.c 0) 1 (.v q.2.length) (some (.v q.3)), .sli 3 (.c 0) 1 (.v q.4.length) (some (.v q.5)), .ptr 5 0, .ptr 8 0, .int .i64 (↑n : Int), .ptr 9 0, .int .i64 bf, .sb gp, .int .i64 (↑i : Int), .sli 10 (.c 0) 1 (.v n) (some (.v n)), .sb hit, .int .i64 k, .bl true], [.ro encLook [PUnit.unit], .ro (encHd 2) hs, Blk.rows false IntKind.u32 q.2, .ro (encInt IntKind.u8) q.4, .own [.a (encInt IntKind.u32) 60 l] 22, .own [.c (.sli 4 (.c 0) 1 (.v 60) (some (.v 60))), .c (.int .i64 c)] 68, Blk.rows true IntKind.u32 q.2, .vec (encHd 6) gs 34, .own [.c (.int .i64 x.1), .c (.int .i64 x.2), .c (.int .i64 x.3), .c (.sli 7 (.c 0) 1 (.v gs.length) none), .c (.int .i64 x.4)] 70, .own [.c (.int .i64 y.1), .c (.int .i64 y.2), .c (.int .i64 y.3), .c (.int .i64 y.4), .c (.int .u32 y.5), .a (encInt IntKind.u32) 32 y.6, .c (.sb y.7), .c (.int .i64 y.8)] 73, .own [.a (encInt IntKind.u32) 32 B] 71])) := by kernel_rfl
set_option maxRecDepth 100000 in
theorem r_inc {q : InW} {hs gs : List (Nat × Nat)} {l B : List Int} {c : Int} {x : Wr} {y : Rd} {n i : Nat} {bf k : Int} {gp hit : Bool} : (exec cfgM 100 dinc3 (fr 172 nWk (vWk q n bf gp i hit k)) (sWg q hs gs l c x y B)).bind (canonK 11 [(0,0)] 172 nWk) =
 

 (.need (inR .i64 (k + (1 : Int)))

 (.ret (.normal, [.sli 1 (.c 0) 1 (.v q.2.length) (some (.v q.3)), .sli 3 (.c 0) 1 (.v q.4.length) (some (.v q.5)), .ptr 5 0, .ptr 8 0, .int .i64 (↑n : Int), .ptr 9 0, .int .i64 bf, .sb gp, .int .i64 (↑i : Int), .sli 10 (.c 0) 1 (.v n) (some (.v n)), .sb hit, .int .i64 (k + (1 : Int))], [.ro encLook [PUnit.unit], .ro (encHd 2) hs, Blk.rows false IntKind.u32 q.2, .ro (encInt IntKind.u8) q.4, .own [.a (encInt IntKind.u32) 60 l] 22, .own [.c (.sli 4 (.c 0) 1 (.v 60) (some (.v 60))), .c (.int .i64 c)] 68, Blk.rows true IntKind.u32 q.2, .vec (encHd 6) gs 34, .own [.c (.int .i64 x.1), .c (.int .i64 x.2), .c (.int .i64 x.3), .c (.sli 7 (.c 0) 1 (.v gs.length) none), .c (.int .i64 x.4)] 70, .own [.c (.int .i64 y.1), .c (.int .i64 y.2), .c (.int .i64 y.3), .c (.int .i64 y.4), .c (.int .u32 y.5), .a (encInt IntKind.u32) 32 y.6, .c (.sb y.7), .c (.int .i64 y.8)] 73, .own [.a (encInt IntKind.u32) 32 B] 71]))) := by kernel_rfl
set_option maxRecDepth 100000 in
theorem r_end {q : InW} {hs gs : List (Nat × Nat)} {l B : List Int} {c : Int} {x : Wr} {y : Rd} {n i : Nat} {bf k : Int} {gp hit : Bool} : (exec cfgM 100 dend3 (fr 172 nWk (vWk q n bf gp i hit k)) (sWg q hs gs l c x y B)).bind (canonK 10 [(0,0)] 172 nWi) =
 

 (.br (!hit)

 (.ret (.ret, [.sli 1 (.c 0) 1 (.v q.2.length) (some (.v q.3)), .sli 3 (.c 0) 1 (.v q.4.length) (some (.v q.5)), .ptr 5 0, .ptr 8 0, .int .i64 (↑n : Int), .ptr 9 0, .int .i64 bf, .sb gp, .int .i64 (↑i : Int)], [.ro encLook [PUnit.unit], .ro (encHd 2) hs, Blk.rows false IntKind.u32 q.2, .ro (encInt IntKind.u8) q.4, .own [.a (encInt IntKind.u32) 60 l] 22, .own [.c (.sli 4 (.c 0) 1 (.v 60) (some (.v 60))), .c (.int .i64 c)] 68, Blk.rows true IntKind.u32 q.2, .vec (encHd 6) gs 34, .own [.c (.int .i64 x.1), .c (.int .i64 x.2), .c (.int .i64 x.3), .c (.sli 7 (.c 0) 1 (.v gs.length) none), .c (.int .i64 x.4)] 70, .own [.c (.int .i64 y.1), .c (.int .i64 y.2), .c (.int .i64 y.3), .c (.int .i64 y.4), .c (.int .u32 y.5), .a (encInt IntKind.u32) 32 y.6, .c (.sb y.7), .c (.int .i64 y.8)] 73]))

 (.ret (.normal, [.sli 1 (.c 0) 1 (.v q.2.length) (some (.v q.3)), .sli 3 (.c 0) 1 (.v q.4.length) (some (.v q.5)), .ptr 5 0, .ptr 8 0, .int .i64 (↑n : Int), .ptr 9 0, .int .i64 bf, .sb gp, .int .i64 (↑i : Int)], [.ro encLook [PUnit.unit], .ro (encHd 2) hs, Blk.rows false IntKind.u32 q.2, .ro (encInt IntKind.u8) q.4, .own [.a (encInt IntKind.u32) 60 l] 22, .own [.c (.sli 4 (.c 0) 1 (.v 60) (some (.v 60))), .c (.int .i64 c)] 68, Blk.rows true IntKind.u32 q.2, .vec (encHd 6) gs 34, .own [.c (.int .i64 x.1), .c (.int .i64 x.2), .c (.int .i64 x.3), .c (.sli 7 (.c 0) 1 (.v gs.length) none), .c (.int .i64 x.4)] 70, .own [.c (.int .i64 y.1), .c (.int .i64 y.2), .c (.int .i64 y.3), .c (.int .i64 y.4), .c (.int .u32 y.5), .a (encInt IntKind.u32) 32 y.6, .c (.sb y.7), .c (.int .i64 y.8)] 73]))) := by kernel_rfl
set_option maxRecDepth 100000 in
theorem e_reg {q : InW} {hs gs : List (Nat × Nat)} {l B : List Int} {c : Int} {x : Wr} {y : Rd} {n i : Nat} {bf k : Int} {gp hit m : Bool} : (exec cfgM 100 ereg3 (fr 172 nWm (vWm q n bf gp i hit k m)) (sWg q hs gs l c x y B)).bind (canonK 11 [(0,0)] 172 nWj) =
 

 (.ret (.normal, [.sli 1 (.c 0) 1 (.v q.2.length) (some (.v q.3)), .sli 3 (.c 0) 1 (.v q.4.length) (some (.v q.5)), .ptr 5 0, .ptr 8 0, .int .i64 (↑n : Int), .ptr 9 0, .int .i64 bf, .sb gp, .int .i64 (↑i : Int), .sli 10 (.c 0) 1 (.v n) (some (.v n)), .sb hit, .int .i64 k, .sb m, .lit .i64 (0 : Int)], [.ro encLook [PUnit.unit], .ro (encHd 2) hs, Blk.rows false IntKind.u32 q.2, .ro (encInt IntKind.u8) q.4, .own [.a (encInt IntKind.u32) 60 l] 22, .own [.c (.sli 4 (.c 0) 1 (.v 60) (some (.v 60))), .c (.int .i64 c)] 68, Blk.rows true IntKind.u32 q.2, .vec (encHd 6) gs 34, .own [.c (.int .i64 x.1), .c (.int .i64 x.2), .c (.int .i64 x.3), .c (.sli 7 (.c 0) 1 (.v gs.length) none), .c (.int .i64 x.4)] 70, .own [.c (.int .i64 y.1), .c (.int .i64 y.2), .c (.int .i64 y.3), .c (.int .i64 y.4), .c (.int .u32 y.5), .a (encInt IntKind.u32) 32 y.6, .c (.sb y.7), .c (.int .i64 y.8)] 73, .own [.a (encInt IntKind.u32) 32 B] 71])) := by kernel_rfl
set_option maxRecDepth 100000 in
theorem e_tm {q : InW} {hs gs : List (Nat × Nat)} {l B : List Int} {c : Int} {x : Wr} {y : Rd} {n i j : Nat} {bf k : Int} {gp hit m : Bool} : (exec cfgM 100 etm3 (fr 172 nWj (vWj q n bf gp i hit k m j)) (sWg q hs gs l c x y B)).bind (canonK 11 [(0,0)] 172 nWj) =
 

 (.br (decide ((↑j : Int) < (↑n : Int)))

 (.ret (.normal, [.sli 1 (.c 0) 1 (.v q.2.length) (some (.v q.3)), .sli 3 (.c 0) 1 (.v q.4.length) (some (.v q.5)), .ptr 5 0, .ptr 8 0, .int .i64 (↑n : Int), .ptr 9 0, .int .i64 bf, .sb gp, .int .i64 (↑i : Int), .sli 10 (.c 0) 1 (.v n) (some (.v n)), .sb hit, .int .i64 k, .sb m, .int .i64 (↑j : Int)], [.ro encLook [PUnit.unit], .ro (encHd 2) hs, Blk.rows false IntKind.u32 q.2, .ro (encInt IntKind.u8) q.4, .own [.a (encInt IntKind.u32) 60 l] 22, .own [.c (.sli 4 (.c 0) 1 (.v 60) (some (.v 60))), .c (.int .i64 c)] 68, Blk.rows true IntKind.u32 q.2, .vec (encHd 6) gs 34, .own [.c (.int .i64 x.1), .c (.int .i64 x.2), .c (.int .i64 x.3), .c (.sli 7 (.c 0) 1 (.v gs.length) none), .c (.int .i64 x.4)] 70, .own [.c (.int .i64 y.1), .c (.int .i64 y.2), .c (.int .i64 y.3), .c (.int .i64 y.4), .c (.int .u32 y.5), .a (encInt IntKind.u32) 32 y.6, .c (.sb y.7), .c (.int .i64 y.8)] 73, .own [.a (encInt IntKind.u32) 32 B] 71]))

 (.ret (.exit 4, [.sli 1 (.c 0) 1 (.v q.2.length) (some (.v q.3)), .sli 3 (.c 0) 1 (.v q.4.length) (some (.v q.5)), .ptr 5 0, .ptr 8 0, .int .i64 (↑n : Int), .ptr 9 0, .int .i64 bf, .sb gp, .int .i64 (↑i : Int), .sli 10 (.c 0) 1 (.v n) (some (.v n)), .sb hit, .int .i64 k, .sb m, .int .i64 (↑j : Int)], [.ro encLook [PUnit.unit], .ro (encHd 2) hs, Blk.rows false IntKind.u32 q.2, .ro (encInt IntKind.u8) q.4, .own [.a (encInt IntKind.u32) 60 l] 22, .own [.c (.sli 4 (.c 0) 1 (.v 60) (some (.v 60))), .c (.int .i64 c)] 68, Blk.rows true IntKind.u32 q.2, .vec (encHd 6) gs 34, .own [.c (.int .i64 x.1), .c (.int .i64 x.2), .c (.int .i64 x.3), .c (.sli 7 (.c 0) 1 (.v gs.length) none), .c (.int .i64 x.4)] 70, .own [.c (.int .i64 y.1), .c (.int .i64 y.2), .c (.int .i64 y.3), .c (.int .i64 y.4), .c (.int .u32 y.5), .a (encInt IntKind.u32) 32 y.6, .c (.sb y.7), .c (.int .i64 y.8)] 73, .own [.a (encInt IntKind.u32) 32 B] 71]))) := by kernel_rfl
set_option maxRecDepth 100000 in
theorem e_bb {q : InW} {hs gs : List (Nat × Nat)} {l B : List Int} {c : Int} {x : Wr} {y : Rd} {n i j : Nat} {bf k : Int} {gp hit m : Bool} : (exec cfgM 100 ebb3 (fr 172 nWj (vWj q n bf gp i hit k m j)) (sWg q hs gs l c x y B)).bind (canonK 11 [(0,0)] 172 nWj) =
 

 (.br (m)

 (.need (decide ((0 : Int) ≤ (↑j : Int)) && decide ((↑j : Int).toNat < n))

 (.need (decide ((↑j : Int).toNat < 32))

 (.br (k == (0 : Int))
 (.eq (T.need (decide ((↑j : Int).toNat < (32 : Nat))) (T.ret ([SVal.int IntKind.u32 (B.getD (↑j : Int).toNat (0 : Int))].getD (0 : Nat) SVal.bad)) = T.need (decide ((↑j : Int).toNat < (32 : Nat))) (T.ret ([SVal.int IntKind.u32 (B.getD (↑j : Int).toNat (0 : Int))].getD (0 : Nat) SVal.bad)))
 (.eq (T.need (decide ((↑j : Int).toNat < (32 : Nat))) (T.ret ([SVal.int IntKind.u32 (B.getD (↑j : Int).toNat (0 : Int))].getD (0 : Nat) SVal.bad)) = T.need (decide ((↑j : Int).toNat < (32 : Nat))) (T.ret ([SVal.int IntKind.u32 (B.getD (↑j : Int).toNat (0 : Int))].getD (0 : Nat) SVal.bad)))

 (.ret (.normal, [.sli 1 (.c 0) 1 (.v q.2.length) (some (.v q.3)), .sli 3 (.c 0) 1 (.v q.4.length) (some (.v q.5)), .ptr 5 0, .ptr 8 0, .int .i64 (↑n : Int), .ptr 9 0, .int .i64 bf, .sb gp, .int .i64 (↑i : Int), .sli 10 (.c 0) 1 (.v n) (some (.v n)), .sb hit, .int .i64 k, .sb (B.getD (↑j : Int).toNat (0 : Int) == (0 : Int)), .int .i64 (↑j : Int)], [.ro encLook [PUnit.unit], .ro (encHd 2) hs, Blk.rows false IntKind.u32 q.2, .ro (encInt IntKind.u8) q.4, .own [.a (encInt IntKind.u32) 60 l] 22, .own [.c (.sli 4 (.c 0) 1 (.v 60) (some (.v 60))), .c (.int .i64 c)] 68, Blk.rows true IntKind.u32 q.2, .vec (encHd 6) gs 34, .own [.c (.int .i64 x.1), .c (.int .i64 x.2), .c (.int .i64 x.3), .c (.sli 7 (.c 0) 1 (.v gs.length) none), .c (.int .i64 x.4)] 70, .own [.c (.int .i64 y.1), .c (.int .i64 y.2), .c (.int .i64 y.3), .c (.int .i64 y.4), .c (.int .u32 y.5), .a (encInt IntKind.u32) 32 y.6, .c (.sb y.7), .c (.int .i64 y.8)] 73, .own [.a (encInt IntKind.u32) 32 B] 71]))))

 (.need (inR .i64 (k - (1 : Int)))

 (.need (decide ((0 : Int) ≤ k - (1 : Int)) && decide ((k - (1 : Int)).toNat < q.2.length))

 (.need (decide ((k - (1 : Int)).toNat < hs.length))

 (.need (decide ((0 : Int) ≤ (↑j : Int)) && decide ((↑j : Int).toNat < (hs.getD (k - (1 : Int)).toNat (0, 0)).snd))

 (.need (decide ((hs.getD (k - (1 : Int)).toNat (0, 0)).fst < q.2.length) && decide ((↑j : Int).toNat < (q.2.getD (hs.getD (k - (1 : Int)).toNat (0, 0)).fst []).length))
 (.eq (T.need (decide ((↑j : Int).toNat < (32 : Nat))) (T.ret ([SVal.int IntKind.u32 (B.getD (↑j : Int).toNat (0 : Int))].getD (0 : Nat) SVal.bad)) = T.need (decide ((↑j : Int).toNat < (32 : Nat))) (T.ret ([SVal.int IntKind.u32 (B.getD (↑j : Int).toNat (0 : Int))].getD (0 : Nat) SVal.bad)))
 (.eq (T.need (decide ((↑j : Int).toNat < (32 : Nat))) (T.ret ([SVal.int IntKind.u32 (B.getD (↑j : Int).toNat (0 : Int))].getD (0 : Nat) SVal.bad)) = T.need (decide ((↑j : Int).toNat < (32 : Nat))) (T.ret ([SVal.int IntKind.u32 (B.getD (↑j : Int).toNat (0 : Int))].getD (0 : Nat) SVal.bad)))

 (.ret (.normal, [.sli 1 (.c 0) 1 (.v q.2.length) (some (.v q.3)), .sli 3 (.c 0) 1 (.v q.4.length) (some (.v q.5)), .ptr 5 0, .ptr 8 0, .int .i64 (↑n : Int), .ptr 9 0, .int .i64 bf, .sb gp, .int .i64 (↑i : Int), .sli 10 (.c 0) 1 (.v n) (some (.v n)), .sb hit, .int .i64 k, .sb (B.getD (↑j : Int).toNat (0 : Int) == (q.2.getD (hs.getD (k - (1 : Int)).toNat (0, 0)).fst []).getD (↑j : Int).toNat (0 : Int)), .int .i64 (↑j : Int)], [.ro encLook [PUnit.unit], .ro (encHd 2) hs, Blk.rows false IntKind.u32 q.2, .ro (encInt IntKind.u8) q.4, .own [.a (encInt IntKind.u32) 60 l] 22, .own [.c (.sli 4 (.c 0) 1 (.v 60) (some (.v 60))), .c (.int .i64 c)] 68, Blk.rows true IntKind.u32 q.2, .vec (encHd 6) gs 34, .own [.c (.int .i64 x.1), .c (.int .i64 x.2), .c (.int .i64 x.3), .c (.sli 7 (.c 0) 1 (.v gs.length) none), .c (.int .i64 x.4)] 70, .own [.c (.int .i64 y.1), .c (.int .i64 y.2), .c (.int .i64 y.3), .c (.int .i64 y.4), .c (.int .u32 y.5), .a (encInt IntKind.u32) 32 y.6, .c (.sb y.7), .c (.int .i64 y.8)] 73, .own [.a (encInt IntKind.u32) 32 B] 71]))))))))))))

 (.ret (.normal, [.sli 1 (.c 0) 1 (.v q.2.length) (some (.v q.3)), .sli 3 (.c 0) 1 (.v q.4.length) (some (.v q.5)), .ptr 5 0, .ptr 8 0, .int .i64 (↑n : Int), .ptr 9 0, .int .i64 bf, .sb gp, .int .i64 (↑i : Int), .sli 10 (.c 0) 1 (.v n) (some (.v n)), .sb hit, .int .i64 k, .bl false, .int .i64 (↑j : Int)], [.ro encLook [PUnit.unit], .ro (encHd 2) hs, Blk.rows false IntKind.u32 q.2, .ro (encInt IntKind.u8) q.4, .own [.a (encInt IntKind.u32) 60 l] 22, .own [.c (.sli 4 (.c 0) 1 (.v 60) (some (.v 60))), .c (.int .i64 c)] 68, Blk.rows true IntKind.u32 q.2, .vec (encHd 6) gs 34, .own [.c (.int .i64 x.1), .c (.int .i64 x.2), .c (.int .i64 x.3), .c (.sli 7 (.c 0) 1 (.v gs.length) none), .c (.int .i64 x.4)] 70, .own [.c (.int .i64 y.1), .c (.int .i64 y.2), .c (.int .i64 y.3), .c (.int .i64 y.4), .c (.int .u32 y.5), .a (encInt IntKind.u32) 32 y.6, .c (.sb y.7), .c (.int .i64 y.8)] 73, .own [.a (encInt IntKind.u32) 32 B] 71]))) := by kernel_rfl
set_option maxRecDepth 100000 in
theorem e_inc {q : InW} {hs gs : List (Nat × Nat)} {l B : List Int} {c : Int} {x : Wr} {y : Rd} {n i j : Nat} {bf k : Int} {gp hit m : Bool} : (exec cfgM 100 einc3 (fr 172 nWj (vWj q n bf gp i hit k m j)) (sWg q hs gs l c x y B)).bind (canonK 11 [(0,0)] 172 nWj) =
 

 (.need (inR .i64 ((↑j : Int) + (1 : Int)))

 (.ret (.normal, [.sli 1 (.c 0) 1 (.v q.2.length) (some (.v q.3)), .sli 3 (.c 0) 1 (.v q.4.length) (some (.v q.5)), .ptr 5 0, .ptr 8 0, .int .i64 (↑n : Int), .ptr 9 0, .int .i64 bf, .sb gp, .int .i64 (↑i : Int), .sli 10 (.c 0) 1 (.v n) (some (.v n)), .sb hit, .int .i64 k, .sb m, .int .i64 ((↑j : Int) + (1 : Int))], [.ro encLook [PUnit.unit], .ro (encHd 2) hs, Blk.rows false IntKind.u32 q.2, .ro (encInt IntKind.u8) q.4, .own [.a (encInt IntKind.u32) 60 l] 22, .own [.c (.sli 4 (.c 0) 1 (.v 60) (some (.v 60))), .c (.int .i64 c)] 68, Blk.rows true IntKind.u32 q.2, .vec (encHd 6) gs 34, .own [.c (.int .i64 x.1), .c (.int .i64 x.2), .c (.int .i64 x.3), .c (.sli 7 (.c 0) 1 (.v gs.length) none), .c (.int .i64 x.4)] 70, .own [.c (.int .i64 y.1), .c (.int .i64 y.2), .c (.int .i64 y.3), .c (.int .i64 y.4), .c (.int .u32 y.5), .a (encInt IntKind.u32) 32 y.6, .c (.sb y.7), .c (.int .i64 y.8)] 73, .own [.a (encInt IntKind.u32) 32 B] 71]))) := by kernel_rfl
set_option maxRecDepth 100000 in
theorem e_end {q : InW} {hs gs : List (Nat × Nat)} {l B : List Int} {c : Int} {x : Wr} {y : Rd} {n i j : Nat} {bf k : Int} {gp hit m : Bool} : (exec cfgM 100 eend3 (fr 172 nWj (vWj q n bf gp i hit k m j)) (sWg q hs gs l c x y B)).bind (canonK 11 [(0,0)] 172 nWk) =
 

 (.br (hit)

 (.ret (.normal, [.sli 1 (.c 0) 1 (.v q.2.length) (some (.v q.3)), .sli 3 (.c 0) 1 (.v q.4.length) (some (.v q.5)), .ptr 5 0, .ptr 8 0, .int .i64 (↑n : Int), .ptr 9 0, .int .i64 bf, .sb gp, .int .i64 (↑i : Int), .sli 10 (.c 0) 1 (.v n) (some (.v n)), .bl true, .int .i64 k], [.ro encLook [PUnit.unit], .ro (encHd 2) hs, Blk.rows false IntKind.u32 q.2, .ro (encInt IntKind.u8) q.4, .own [.a (encInt IntKind.u32) 60 l] 22, .own [.c (.sli 4 (.c 0) 1 (.v 60) (some (.v 60))), .c (.int .i64 c)] 68, Blk.rows true IntKind.u32 q.2, .vec (encHd 6) gs 34, .own [.c (.int .i64 x.1), .c (.int .i64 x.2), .c (.int .i64 x.3), .c (.sli 7 (.c 0) 1 (.v gs.length) none), .c (.int .i64 x.4)] 70, .own [.c (.int .i64 y.1), .c (.int .i64 y.2), .c (.int .i64 y.3), .c (.int .i64 y.4), .c (.int .u32 y.5), .a (encInt IntKind.u32) 32 y.6, .c (.sb y.7), .c (.int .i64 y.8)] 73, .own [.a (encInt IntKind.u32) 32 B] 71]))

 (.ret (.normal, [.sli 1 (.c 0) 1 (.v q.2.length) (some (.v q.3)), .sli 3 (.c 0) 1 (.v q.4.length) (some (.v q.5)), .ptr 5 0, .ptr 8 0, .int .i64 (↑n : Int), .ptr 9 0, .int .i64 bf, .sb gp, .int .i64 (↑i : Int), .sli 10 (.c 0) 1 (.v n) (some (.v n)), .sb m, .int .i64 k], [.ro encLook [PUnit.unit], .ro (encHd 2) hs, Blk.rows false IntKind.u32 q.2, .ro (encInt IntKind.u8) q.4, .own [.a (encInt IntKind.u32) 60 l] 22, .own [.c (.sli 4 (.c 0) 1 (.v 60) (some (.v 60))), .c (.int .i64 c)] 68, Blk.rows true IntKind.u32 q.2, .vec (encHd 6) gs 34, .own [.c (.int .i64 x.1), .c (.int .i64 x.2), .c (.int .i64 x.3), .c (.sli 7 (.c 0) 1 (.v gs.length) none), .c (.int .i64 x.4)] 70, .own [.c (.int .i64 y.1), .c (.int .i64 y.2), .c (.int .i64 y.3), .c (.int .i64 y.4), .c (.int .u32 y.5), .a (encInt IntKind.u32) 32 y.6, .c (.sb y.7), .c (.int .i64 y.8)] 73, .own [.a (encInt IntKind.u32) 32 B] 71]))) := by kernel_rfl
end Go.Proofs.YtmknmbacecjfmaaDoor

/- SeqlockWhole: its rounds. -/
namespace Go.Proofs.YtmknmbacecjfmaaDoor
open Go Go.Proofs.YtmknmbacecjfmaaDoor.Sx
set_option linter.unusedVariables false
theorem cfgSt_ok {q : InW} {l : List Int} {c : Int} {x : Wr} {y : Rd} {b2 : Bool} (hb : b2 = (rNext 60 y l c).b) : SmOk (cfgSt q (hdL q.xss) (hdL q.xss) l c x y (wNext 60 q.xss x l c).l (wNext 60 q.xss x l c).c (wNext 60 q.xss x l c).x (wNext 60 q.xss x l c).b (rNext 60 y l c).c (rNext 60 y l c).y b2 (WOk 60 q.xss l c x) (ROk 60 l c y)) := by
  subst hb
  intro F G h
  simp only [cfgSt] at h
  split at h
  · simp only [Option.some.injEq] at h; subst h
    exact smEq_ok (c := cfgSt q (hdL q.xss) (hdL q.xss) l c x y (wNext 60 q.xss x l c).l (wNext 60 q.xss x l c).c (wNext 60 q.xss x l c).x (wNext 60 q.xss x l c).b (rNext 60 y l c).c (rNext 60 y l c).y (rNext 60 y l c).b (WOk 60 q.xss l c x) (ROk 60 l c y)) fun h env w vs hg hr hd => w_rest [rdrB y] h env w vs hg hr hd
  · simp only [Option.some.injEq] at h; subst h
    exact smEq_ok (c := cfgSt q (hdL q.xss) (hdL q.xss) l c x y (wNext 60 q.xss x l c).l (wNext 60 q.xss x l c).c (wNext 60 q.xss x l c).x (wNext 60 q.xss x l c).b (rNext 60 y l c).c (rNext 60 y l c).y (rNext 60 y l c).b (WOk 60 q.xss l c x) (ROk 60 l c y)) fun h env w vs hg hr hd => r_step h env w vs hg hr hd
  · cases h
structure LW (q : InW) (n : Nat) (e0 : Int) (i : Nat) (l : List Int) (c : Int) (x : Wr) (y : Rd) (bf : Int) : Prop where
  vs : Vs q.xss n e0
  wi : WI 0 q.xss n e0 l c x
  rk : ROk 60 l c y
  ri : RI 0 q.xss n e0 bf x y
  cc : 0 ≤ c ∧ c ≤ 1 + (i : Int)
  tt : 0 ≤ y.tries ∧ y.tries ≤ (i : Int)
abbrev Q3 (w0 : From) : Exit → Act → World → Prop := bodyPost Tryd.prog Tryd.f3 (Said w0)
abbrev sWs (q : InW) (l : List Int) (c : Int) (x : Wr) (y : Rd) : St := sWq q (hdL q.xss) (hdL q.xss) l c x y
abbrev sWb (q : InW) (l : List Int) (c : Int) (x : Wr) (y : Rd) (B : List Int) : St := sWg q (hdL q.xss) (hdL q.xss) l c x y B
def InvW (w0 : From) (q : InW) (n : Nat) (e0 : Int) (i : Nat) (a : Act) (W : World) : Prop :=
  i ≤ 300 ∧ ∃ l c x y bf, LW q n e0 i l c x y bf ∧ ∃ env, At [(0, 0)] w0 env (fr 172 nWi (vWi q n bf y.got i)) (sWs q l c x y) a W
abbrev RW (w0 : From) (q : InW) (n : Nat) (e0 : Int) (i : Nat) : Exit → Act → World → Prop :=
  Exit.then (fun a' w' => ∃ k, InvW w0 q n e0 k a' w' ∧ 300 - k < 300 - i) (Exit.inBlock 0 (Exit.then (end3.wp Tryd.prog (Q3 w0)) (Q3 w0)))
abbrev BW (w0 : From) (q : InW) (n : Nat) (e0 : Int) (i : Nat) : Exit → Act → World → Prop :=
  Exit.inBlock 1 (Exit.then (inc3.wp Tryd.prog (RW w0 q n e0 i)) (RW w0 q n e0 i))
theorem nextW {w0 : From} {q : InW} {n : Nat} {e0 : Int} {i : Nat} (hi : i < 300) {l : List Int} {c : Int} {x : Wr} {y : Rd} {bf : Int} (h : LW q n e0 (i + 1) l c x y bf) {env : Env} {a : Act} {W : World} (hA : At [(0, 0)] w0 env (fr 172 nWi (vWi q n bf y.got i)) (sWs q l c x y) a W) :
    inc3.wp Tryd.prog (RW w0 q n e0 i) a W := by
  refine pieceT0 (c := cfgM) cfgM_ok nWi p_inc hA ?_
  refine all_needp (by simp only [inR_i64]; exact Iff.rfl) (by omega) fun _ => all_ret fun env4 a4 w4 hA4 => ?_
  exact ⟨i + 1, ⟨by omega, l, c, x, y, bf, h, env4, hA4⟩, by omega⟩
theorem bw_exit {w0 : From} {q : InW} {n : Nat} {e0 : Int} {i : Nat} {a : Act} {W : World} (h : inc3.wp Tryd.prog (RW w0 q n e0 i) a W) : BW w0 q n e0 i (.exit 1) a W := by
  simp only [BW, Exit.then, Exit.inBlock, if_true]; exact h
theorem bw_norm {w0 : From} {q : InW} {n : Nat} {e0 : Int} {i : Nat} {a : Act} {W : World} (h : inc3.wp Tryd.prog (RW w0 q n e0 i) a W) : BW w0 q n e0 i .normal a W := by
  simp only [BW, Exit.then, Exit.inBlock]; exact h
/-- what a reader gave is the version at which it began -/
structure Hit (q : InW) (n : Nat) (e0 : Int) (i : Nat) (l : List Int) (c : Int) (x : Wr) (y : Rd) (bf : Int) : Prop where
  lw : LW q n e0 (i + 1) l c x y bf
  b : 0 ≤ bf ∧ bf ≤ x.ver
  eq : ∀ j : Nat, j < n → y.buf.getD j 0 = verW q.xss bf.toNat j
def InvE (w0 : From) (q : InW) (n : Nat) (i : Nat) (l : List Int) (c : Int) (x : Wr) (y : Rd) (bf : Int) (hit : Bool) (k : Int) (j : Nat) (a : Act) (W : World) : Prop :=
  j ≤ n ∧ ∃ m : Bool, (k = bf → m = true) ∧ ∃ env, At [(0, 0)] w0 env (fr 172 nWj (vWj q n bf y.got i hit k m j)) (sWb q l c x y y.buf) a W
def InvD (w0 : From) (q : InW) (n : Nat) (i : Nat) (l : List Int) (c : Int) (x : Wr) (y : Rd) (bf : Int) (m : Nat) (a : Act) (W : World) : Prop :=
  bf + (m : Int) ≤ x.ver + 1 ∧ ∃ hit : Bool, (0 < m → hit = true) ∧ ∃ env, At [(0, 0)] w0 env (fr 172 nWk (vWk q n bf y.got i hit (bf + (m : Int)))) (sWb q l c x y y.buf) a W
abbrev RD (w0 : From) (q : InW) (n : Nat) (e0 : Int) (i : Nat) (l : List Int) (c : Int) (x : Wr) (y : Rd) (bf : Int) (m : Nat) : Exit → Act → World → Prop :=
  Exit.then (fun a' w' => ∃ k, InvD w0 q n i l c x y bf k a' w' ∧ (x.ver + 1 - bf).toNat - k < (x.ver + 1 - bf).toNat - m) (Exit.inBlock 2 (Exit.then (dend3.wp Tryd.prog (BW w0 q n e0 i)) (BW w0 q n e0 i)))
abbrev BD (w0 : From) (q : InW) (n : Nat) (e0 : Int) (i : Nat) (l : List Int) (c : Int) (x : Wr) (y : Rd) (bf : Int) (m : Nat) : Exit → Act → World → Prop :=
  Exit.inBlock 3 (Exit.then (dinc3.wp Tryd.prog (RD w0 q n e0 i l c x y bf m)) (RD w0 q n e0 i l c x y bf m))
set_option maxHeartbeats 4000000 in
theorem eround_ok {w0 : From} {q : InW} {n : Nat} {e0 : Int} {i : Nat} (hi : i < 300) {l : List Int} {c : Int} {x : Wr} {y : Rd} {bf : Int} (h : Hit q n e0 i l c x y bf) {m0 : Nat} (hm0 : bf + (m0 : Int) ≤ x.ver) {hit : Bool} (hh0 : 0 < m0 → hit = true) {j : Nat} {a : Act} {W : World} (hI : InvE w0 q n i l c x y bf hit (bf + (m0 : Int)) j a W) :
    eround3.wp Tryd.prog (Exit.then (fun a' w' => ∃ k, InvE w0 q n i l c x y bf hit (bf + (m0 : Int)) k a' w' ∧ n - k < n - j) (Exit.inBlock 4 (Exit.then (eend3.wp Tryd.prog (BD w0 q n e0 i l c x y bf m0)) (BD w0 q n e0 i l c x y bf m0)))) a W := by
  obtain ⟨hj, m, hm, env, hA⟩ := hI
  have hvs := h.lw.vs
  have hn := hvs.n
  have hlen := hvs.len
  have hb := h.b
  have hver := h.lw.wi.ok.v
  have hhl := hdL_len q.xss
  refine wpS (by kernel_rfl) ?_
  refine pieceT0 (c := cfgM) cfgM_ok nWj e_tm hA ?_
  refine all_brp (by simp only [decide_eq_true_eq]; exact Iff.rfl) (fun h1 => all_ret fun env1 a1 w1 hA1 => ?_) (fun h1 => all_ret fun env1 a1 w1 hA1 => ?_)
  · simp only [Ex.to, Exit.then]
    refine (show (rgt eround3).wp _ _ _ _ from wpS (by kernel_rfl) (wpB 5 (by kernel_rfl) ?_))
    refine (show ebb3.wp _ _ _ _ from ?_)
    have ht := @e_bb q (hdL q.xss) (hdL q.xss) l y.buf c x y n i j bf (bf + (m0 : Int)) y.got hit m
    have hkl : (bf + (m0 : Int) - 1).toNat < q.xss.length := by omega
    have hget := hdL_get hkl
    rw [Int.toNat_natCast, hget] at ht
    have hrow := hvs.row _ hkl
    have fin : ∀ {m' : Bool} {env : Env} {a : Act} {W : World}, (bf + (m0 : Int) = bf → m' = true) → At [(0, 0)] w0 env (fr 172 nWj (vWj q n bf y.got i hit (bf + (m0 : Int)) m' j)) (sWb q l c x y y.buf) a W →
        Exit.inBlock 5 (Exit.then (einc3.wp Tryd.prog (Exit.then (fun a' w' => ∃ k, InvE w0 q n i l c x y bf hit (bf + (m0 : Int)) k a' w' ∧ n - k < n - j) (Exit.inBlock 4 (Exit.then (eend3.wp Tryd.prog (BD w0 q n e0 i l c x y bf m0)) (BD w0 q n e0 i l c x y bf m0))))) (Exit.then (fun a' w' => ∃ k, InvE w0 q n i l c x y bf hit (bf + (m0 : Int)) k a' w' ∧ n - k < n - j) (Exit.inBlock 4 (Exit.then (eend3.wp Tryd.prog (BD w0 q n e0 i l c x y bf m0)) (BD w0 q n e0 i l c x y bf m0))))) .normal a W := by
      intro m' env a W hm' hA
      simp only [Exit.inBlock, Exit.then]
      refine pieceT0 (c := cfgM) cfgM_ok nWj e_inc hA ?_
      refine all_needp (by simp only [inR_i64]; exact Iff.rfl) (by omega) fun _ => all_ret fun env4 a4 w4 hA4 => ?_
      exact ⟨j + 1, ⟨by omega, m', hm', env4, hA4⟩, by omega⟩
    refine pieceT0 (c := cfgM) cfgM_ok nWj ht hA1 ?_
    refine all_br (fun hmt => ?_) (fun hmf => all_ret fun env2 a2 w2 hA2 => ?_)
    · refine all_needq (by simp only [decide_eq_true_eq, Bool.and_eq_true]; exact Iff.rfl) (by omega) ?_
      refine all_needq (by simp only [decide_eq_true_eq]; exact Iff.rfl) (by omega) ?_
      refine all_brp (by exact beq_iff_eq) (fun h2 => ?_) (fun h2 => ?_)
      · refine all_eq rfl (all_eq rfl (all_ret fun env2 a2 w2 hA2 => ?_))
        refine fin (fun hk => ?_) hA2
        rw [beq_iff_eq, h.eq j (by omega), show bf.toNat = 0 by omega]
        rfl
      · refine all_needq (by simp only [inR_i64]; exact Iff.rfl) (by omega) ?_
        refine all_needq (by simp only [decide_eq_true_eq, Bool.and_eq_true]; exact Iff.rfl) (by omega) ?_
        refine all_needq (by simp only [decide_eq_true_eq]; exact Iff.rfl) (by omega) ?_
        refine all_needq (by simp only [decide_eq_true_eq, Bool.and_eq_true]; exact Iff.rfl) (by omega) ?_
        refine all_needq (by simp only [decide_eq_true_eq, Bool.and_eq_true]; exact Iff.rfl) (by omega) ?_
        refine all_eq rfl (all_eq rfl (all_ret fun env2 a2 w2 hA2 => ?_))
        refine fin (fun hk => ?_) hA2
        rw [beq_iff_eq, h.eq j (by omega)]
        have e1 : bf.toNat = (bf + (m0 : Int) - 1).toNat + 1 := by omega
        rw [e1]; rfl
    · have hA3 := hA2.gvals (vWj q n bf y.got i hit (bf + (m0 : Int)) false j) rfl
      exact fin (fun hk => by rw [hm hk] at hmf; cases hmf) hA3
  · simp only [Ex.to, Exit.then, Exit.inBlock, if_true]
    have fin : ∀ {hit' : Bool} {env : Env} {a : Act} {W : World}, (0 < m0 + 1 → hit' = true) → At [(0, 0)] w0 env (fr 172 nWk (vWk q n bf y.got i hit' (bf + (m0 : Int)))) (sWb q l c x y y.buf) a W → BD w0 q n e0 i l c x y bf m0 .normal a W := by
      intro hit' env a W hh hA
      simp only [BD, Exit.inBlock, Exit.then]
      refine pieceT0 (c := cfgM) cfgM_ok nWk r_inc hA ?_
      refine all_needp (by simp only [inR_i64]; exact Iff.rfl) (by omega) fun _ => all_ret fun env4 a4 w4 hA4 => ?_
      refine ⟨m0 + 1, ⟨by omega, hit', hh, env4, ?_⟩, by omega⟩
      rw [show bf + ((m0 + 1 : Nat) : Int) = bf + (m0 : Int) + 1 by omega]
      exact hA4
    refine pieceT0 (c := cfgM) cfgM_ok nWk e_end hA1 ?_
    refine all_br (fun hht => all_ret fun env2 a2 w2 hA2 => ?_) (fun hhf => all_ret fun env2 a2 w2 hA2 => ?_)
    · have hA3 := hA2.gvals (vWk q n bf y.got i true (bf + (m0 : Int))) rfl
      exact fin (fun _ => rfl) hA3
    · have hz : m0 = 0 := by
        rcases Nat.eq_zero_or_pos m0 with h | h
        · exact h
        · rw [hh0 h] at hhf; cases hhf
      exact fin (fun _ => hm (by omega)) hA2
set_option maxHeartbeats 4000000 in
theorem dround_ok {w0 : From} {q : InW} {n : Nat} {e0 : Int} {i : Nat} (hi : i < 300) {l : List Int} {c : Int} {x : Wr} {y : Rd} {bf : Int} (h : Hit q n e0 i l c x y bf) {m0 : Nat} {a : Act} {W : World} (hI : InvD w0 q n i l c x y bf m0 a W) :
    dround3.wp Tryd.prog (RD w0 q n e0 i l c x y bf m0) a W := by
  obtain ⟨hm0, hit, hh0, env, hA⟩ := hI
  have hb := h.b
  refine wpS (by kernel_rfl) ?_
  refine pieceT0 (c := cfgM) cfgM_ok nWk r_tm hA ?_
  have out : 0 < m0 → ∀ {env : Env} {a : Act} {W : World}, At [(0, 0)] w0 env (fr 172 nWk (vWk q n bf y.got i hit (bf + (m0 : Int)))) (sWb q l c x y y.buf) a W → RD w0 q n e0 i l c x y bf m0 (.exit 2) a W := by
    intro hpos env a W hA
    simp only [RD, Exit.then, Exit.inBlock, if_true]
    refine pieceT0 (c := cfgM) cfgM_ok nWi r_end hA ?_
    have hht := hh0 hpos
    subst hht
    refine all_br (fun hh => by cases hh) (fun _ => all_ret fun env2 a2 w2 hA2 => ?_)
    exact bw_norm (nextW hi h.lw hA2)
  refine all_brp (by simp only [decide_eq_true_eq]; exact Iff.rfl) (fun h1 => ?_) (fun h1 => all_ret fun env1 a1 w1 hA1 => ?_)
  · refine all_brt (p := True) (by simp) trivial ?_
    refine all_ret fun env1 a1 w1 hA1 => ?_
    simp only [Ex.to, Exit.then]
    refine (show (rgt dround3).wp _ _ _ _ from wpS (by kernel_rfl) (wpB 3 (by kernel_rfl) ?_))
    refine (show dbb3.wp Tryd.prog (BD w0 q n e0 i l c x y bf m0) a1 w1 from ?_)
    refine pieceNT0 (c := cfgM) cfgM_ok 1 nWm r_m hA1 (all_ret fun env2 a2 w2 hA2 => ?_)
    simp only [Ex.to, Exit.then]
    have hA3 := hA2.gvals (vWm q n bf y.got i hit (bf + (m0 : Int)) true) rfl
    refine (show e3.wp Tryd.prog (BD w0 q n e0 i l c x y bf m0) a2 w2 from wpS (by kernel_rfl) (wpS (by kernel_rfl) ?_))
    refine (show ereg3.wp _ _ _ _ from ?_)
    refine pieceT0 (c := cfgM) cfgM_ok nWj e_reg hA3 (all_ret fun env4 a4 w4 hA4 => ?_)
    simp only [Ex.to, Exit.then]
    have hA5 := hA4.gvals (vWj q n bf y.got i hit (bf + (m0 : Int)) true 0) rfl
    refine (show eblk3.wp _ _ _ _ from wpB 4 (by kernel_rfl) (wpL (by kernel_rfl) (InvE w0 q n i l c x y bf hit (bf + (m0 : Int))) (fun j => n - j) 0 ⟨Nat.zero_le _, true, fun _ => rfl, env4, hA5⟩ ?_))
    intro j a w hj
    exact eround_ok hi h h1 hh0 hj
  · exact out (by omega) hA1
/-- the buffer of a reader, written out -/
abbrev l32 (l : List Int) : List Int := [l.getD 0 0, l.getD 1 0, l.getD 2 0, l.getD 3 0, l.getD 4 0, l.getD 5 0, l.getD 6 0, l.getD 7 0, l.getD 8 0, l.getD 9 0, l.getD 10 0, l.getD 11 0, l.getD 12 0, l.getD 13 0, l.getD 14 0, l.getD 15 0, l.getD 16 0, l.getD 17 0, l.getD 18 0, l.getD 19 0, l.getD 20 0, l.getD 21 0, l.getD 22 0, l.getD 23 0, l.getD 24 0, l.getD 25 0, l.getD 26 0, l.getD 27 0, l.getD 28 0, l.getD 29 0, l.getD 30 0, l.getD 31 0]
theorem l32_eq {l : List Int} (h : l.length = 32) : l32 l = l := by
  refine List.ext_getElem (by rw [h]; rfl) fun i h1 h2 => ?_
  have hi : i < 32 := by omega
  have e : ∀ k, l.getD k 0 = (l32 l).getD k 0 ∨ 32 ≤ k := by
    intro k
    match k with
    | 0 | 1 | 2 | 3 | 4 | 5 | 6 | 7 | 8 | 9 | 10 | 11 | 12 | 13 | 14 | 15 | 16 | 17 | 18 | 19 | 20 | 21 | 22 | 23 | 24 | 25 | 26 | 27 | 28 | 29 | 30 | 31 => exact .inl rfl
    | k + 32 => exact .inr (by omega)
  rcases e i with e | e
  · rw [List.getD_eq_getElem?_getD, List.getD_eq_getElem?_getD, List.getElem?_eq_getElem h1, List.getElem?_eq_getElem h2] at e
    simpa using e.symm
  · omega
set_option maxHeartbeats 4000000 in
/-- a reader's act -/
theorem rd_ok3 {w0 : From} {q : InW} {n : Nat} {e0 : Int} {i : Nat} (hi : i < 300) {l : List Int} {c : Int} {x : Wr} {y : Rd} {bf : Int} (h : LW q n e0 i l c x y bf) (hg : y.got = false) {gp : Bool} {env : Env} {a : Act} {W : World} (hA : At [(0, 0)] w0 env (fr 172 nWt (vWt q n bf gp i y.tries)) (sWs q l c x y) a W) :
    (restC 3 bb3).wp Tryd.prog (BW w0 q n e0 i) a W := by
  have hd := r_done h.vs (Nat.zero_le _) h.wi h.rk h.ri hg
  have hcc := h.cc
  have htt := h.tt
  refine pieceNT0 (c := cfgSt q (hdL q.xss) (hdL q.xss) l c x y (wNext 60 q.xss x l c).l (wNext 60 q.xss x l c).c (wNext 60 q.xss x l c).x (wNext 60 q.xss x l c).b (rNext 60 y l c).c (rNext 60 y l c).y (rNext 60 y l c).y.got (WOk 60 q.xss l c x) (ROk 60 l c y)) (cfgSt_ok hd.b.symm) 1 nWt q_c hA ?_
  refine all_eq ⟨rfl, rfl, h.rk⟩ (all_ret fun env1 a1 w1 hA1 => ?_)
  simp only [Ex.to, Exit.then]
  have hk2 := rNext_ok h.rk (by rw [hd.cc]; omega) (by have := hd.t; omega)
  obtain ⟨u1, u2, u3, u4, u5⟩ := hd
  generalize (rNext 60 y l c).y = y2 at *
  generalize (rNext 60 y l c).c = c2 at *
  have main : ∀ {bf' : Int}, bf' = (if y.tries < y2.tries then x.ver else bf) → (LW q n e0 (i + 1) l c2 x y2 bf' ∧ (y2.got = true → Hit q n e0 i l c2 x y2 bf')) := by
    intro bf' hb
    subst hb
    have hwi : WI 0 q.xss n e0 l c2 x := by
      obtain ⟨⟨g1, g2, g3, g4, g5, g6, g7, g8, g9, g10⟩, g11, g12, g13, g14⟩ := h.wi
      exact ⟨⟨g1, g2, g3, g4, by omega, g6, g7, g8, g9, g10⟩, g11, g12, g13, g14⟩
    have hlw : LW q n e0 (i + 1) l c2 x y2 (if y.tries < y2.tries then x.ver else bf) := ⟨h.vs, hwi, hk2, u4, by omega, by omega⟩
    exact ⟨hlw, fun hgt => ⟨hlw, (u5 hgt).1, (u5 hgt).2⟩⟩
  refine (show (restC 4 bb3).wp Tryd.prog (BW w0 q n e0 i) a1 w1 from ?_)
  have fin0 : ∀ {bf' : Int} {s1 s2 : SVal}, LW q n e0 (i + 1) l c2 x y2 bf' → ∀ {env : Env} {a : Act} {W : World}, At [(0, 0)] w0 env (fr 172 nWl (vWi q n bf' y2.got i ++ [s1, s2])) (sWs q l c2 x y2) a W → BW w0 q n e0 i (.exit 1) a W := by
    intro bf' s1 s2 hl env a W hA
    exact bw_exit (nextW hi hl (At.few (names := nWi) (extra := [18, 20]) (vals := vWi q n bf' y2.got i) (ev := [s1, s2]) hA rfl))
  have fin1 : ∀ {bf' : Int}, Hit q n e0 i l c2 x y2 bf' → ∀ {env : Env} {a : Act} {W : World}, At [(0, 0)] w0 env (fr 172 nWl (vWi q n bf' y2.got i ++ [.sli 10 (.c 0) 1 (.v y2.n.toNat) (some (.v y2.n.toNat)), .bl false])) (sWs q l c2 x y2 ++ [.own ((l32 y2.buf).map fun v => .c (.int .u32 v)) 71]) a W → (restC 9 bb3).wp Tryd.prog (BW w0 q n e0 i) a W := by
    intro bf' hh env a W hA
    have hyn := hh.lw.ri.yn
    have e1 : y2.n.toNat = n := by omega
    rw [e1] at hA
    have hA1 := hA.segs 10 (l' := [.a (encInt .u32) 32 (l32 y2.buf)]) rfl (by intro s hs; rw [List.mem_singleton.1 hs]; rfl) (fun cs h => denL_gen2 (by kernel_rfl) h)
    have hA2 : At [(0, 0)] w0 env (fr 172 nWl (vWl q n bf' y2.got i false)) (sWb q l c2 x y2 (l32 y2.buf)) a W := hA1.gvals (vWl q n bf' y2.got i false) rfl
    rw [l32_eq hk2.bl] at hA2
    refine (show d3.wp Tryd.prog (BW w0 q n e0 i) a W from wpS (by kernel_rfl) (wpS (by kernel_rfl) ?_))
    refine (show dreg3.wp _ _ _ _ from ?_)
    refine pieceT0 (c := cfgM) cfgM_ok nWk r_reg hA2 (all_ret fun env4 a4 w4 hA4 => ?_)
    simp only [Ex.to, Exit.then]
    have hA5 : At [(0, 0)] w0 env4 (fr 172 nWk (vWk q n bf' y2.got i false (bf' + ((0 : Nat) : Int)))) (sWb q l c2 x y2 y2.buf) a4 w4 := by
      rw [show bf' + ((0 : Nat) : Int) = bf' by omega]; exact hA4
    refine (show dblk3.wp _ _ _ _ from wpB 2 (by kernel_rfl) (wpL (by kernel_rfl) (InvD w0 q n i l c2 x y2 bf') (fun m => (x.ver + 1 - bf').toNat - m) 0 ⟨by have := hh.b; omega, false, fun h => absurd h (Nat.lt_irrefl 0), env4, hA5⟩ ?_))
    intro m a w hm
    exact dround_ok hi hh hm
  refine pieceNT0 (c := cfgM) cfgM_ok 5 nWl q_d hA1 ?_
  have hyn2 := hk2.n
  refine all_brp (by simp only [decide_eq_true_eq]; exact Iff.rfl) (fun ht => ?_) (fun ht => ?_)
  · obtain ⟨hl, hh⟩ := main (bf' := x.ver) (by rw [if_pos ht])
    refine all_br (fun hn => ?_) (fun hn => ?_)
    · have hgf : y2.got = false := by simpa using hn
      refine all_br (fun hx => by exfalso; have hx : (!(false == y2.got)) = true := hx; rw [hgf] at hx; cases hx) (fun _ => all_ret fun env2 a2 w2 hA2 => ?_)
      exact fin0 hl hA2
    · have hgt : y2.got = true := by simpa using hn
      refine all_needq (by simp only [decide_eq_true_eq, Bool.and_eq_true]; exact Iff.rfl) (by omega) ?_
      refine all_needq (by simp only [decide_eq_true_eq, Bool.and_eq_true]; exact Iff.rfl) (by omega) ?_
      refine all_need (decide_eq_true (Nat.zero_le _)) fun _ => ?_
      refine all_br (fun hx => by exfalso; have hx : (!(true == y2.got)) = true := hx; rw [hgt] at hx; cases hx) (fun _ => all_ret fun env2 a2 w2 hA2 => ?_)
      simp only [Ex.to, Exit.then]
      exact fin1 (hh hgt) hA2
  · obtain ⟨hl, hh⟩ := main (bf' := bf) (by rw [if_neg ht])
    refine all_br (fun hn => ?_) (fun hn => ?_)
    · have hgf : y2.got = false := by simpa using hn
      refine all_br (fun hx => by exfalso; have hx : (!(false == y2.got)) = true := hx; rw [hgf] at hx; cases hx) (fun _ => all_ret fun env2 a2 w2 hA2 => ?_)
      exact fin0 hl hA2
    · have hgt : y2.got = true := by simpa using hn
      refine all_needq (by simp only [decide_eq_true_eq, Bool.and_eq_true]; exact Iff.rfl) (by omega) ?_
      refine all_needq (by simp only [decide_eq_true_eq, Bool.and_eq_true]; exact Iff.rfl) (by omega) ?_
      refine all_need (decide_eq_true (Nat.zero_le _)) fun _ => ?_
      refine all_br (fun hx => by exfalso; have hx : (!(true == y2.got)) = true := hx; rw [hgt] at hx; cases hx) (fun _ => all_ret fun env2 a2 w2 hA2 => ?_)
      simp only [Ex.to, Exit.then]
      exact fin1 (hh hgt) hA2
end Go.Proofs.YtmknmbacecjfmaaDoor

/- SeqlockWhole: its call. -/
namespace Go.Proofs.YtmknmbacecjfmaaDoor
open Go Go.Proofs.YtmknmbacecjfmaaDoor.Sx
set_option linter.unusedVariables false
abbrev z32 : List Int := List.replicate 32 0
abbrev rd0 (a : Int) (n : Nat) : Rd := ⟨a, n, 0, 0, 0, z32, false, 0⟩
abbrev rdC (a : SVal) (n : SVal) : List SVal := [a, n, .lit .i64 0, .lit .i64 0, .lit .u32 0] ++ List.replicate 32 (.lit .u32 0) ++ [.bl false, .lit .i64 0]
theorem rd0_ok {n : Nat} {l : List Int} {c a : Int} (hn : 1 ≤ n ∧ n ≤ 32) (ha : 0 ≤ a ∧ a ≤ 20) (hl : l.length = 60) (hc : 0 ≤ c ∧ c ≤ 1000000) : ROk 60 l c (rd0 a n) :=
  ⟨⟨by omega, hl⟩, hc, by simp only; omega, by simp only; omega, by simp only; omega, fun h => by simp only at h; omega, by simp, by simp only; omega⟩
set_option maxRecDepth 100000 in
set_option maxHeartbeats 4000000 in
theorem round3_ok {w0 : From} {q : InW} {n : Nat} {e0 : Int} {i : Nat} {a : Act} {W : World} (hI : InvW w0 q n e0 i a W) : round3.wp Tryd.prog (RW w0 q n e0 i) a W := by
  obtain ⟨hi, l, c, x, y, bf, h, env, hA⟩ := hI
  have hn := h.vs.n
  have hcc := h.cc
  have htt := h.tt
  refine wpS (by kernel_rfl) ?_
  refine pieceT0 (c := cfgM) cfgM_ok nWi p_tm hA ?_
  have out : ∀ {env : Env} {a : Act} {W : World}, At [(0, 0)] w0 env (fr 172 nWi (vWi q n bf y.got i)) (sWs q l c x y) a W → RW w0 q n e0 i (.exit 0) a W := by
    intro env a W hA
    simp only [RW, Exit.then, Exit.inBlock, if_true]
    refine pieceT0 (c := cfgM) cfgM_ok [6] p_end hA ?_
    exact all_ret fun _ _ _ h => h.said (by kernel_rfl)
  refine all_brp (by simp only [decide_eq_true_eq]; exact Iff.rfl) (fun h1 => ?_) (fun h1 => all_ret fun _ _ _ h => out h)
  refine all_brp (by simp only [decide_eq_true_eq]; exact Iff.rfl) (fun h2 => all_ret fun env1 a1 w1 hA1 => ?_) (fun h2 => all_ret fun _ _ _ h => out h)
  simp only [Ex.to, Exit.then]
  refine (show (rgt round3).wp _ _ _ _ from wpS (by kernel_rfl) (wpB 1 (by kernel_rfl) ?_))
  refine (show bb3.wp Tryd.prog (BW w0 q n e0 i) a1 w1 from ?_)
  refine pieceNT0 (c := cfgSt q (hdL q.xss) (hdL q.xss) l c x y (wNext 60 q.xss x l c).l (wNext 60 q.xss x l c).c (wNext 60 q.xss x l c).x (wNext 60 q.xss x l c).b (rNext 60 y l c).c (rNext 60 y l c).y (rNext 60 y l c).b (WOk 60 q.xss l c x) (ROk 60 l c y)) (cfgSt_ok rfl) 1 nWi q_a hA1 ?_
  simp only [Int.toNat_natCast]
  refine all_needq (by simp only [decide_eq_true_eq, Bool.and_eq_true]; exact Iff.rfl) (by omega) ?_
  refine all_needq (by simp only [decide_eq_true_eq]; exact Iff.rfl) (by omega) ?_
  refine all_br (fun _ => ?_) (fun _ => all_ret fun env2 a2 w2 hA2 => ?_)
  · refine all_eq ⟨by first | exact True.intro | rfl, by first | exact True.intro | rfl, h.wi.ok⟩ (all_ret fun env2 a2 w2 hA2 => ?_)
    obtain ⟨g1, g2, g3, g4⟩ := wNext_ver h.wi (Nat.zero_le _)
    have hwi := wi_step h.vs (Nat.zero_le _) h.wi (by omega)
    have hri := ri_w h.wi (Nat.zero_le _) h.ri
    have hrk := h.rk
    obtain ⟨k1, k2, k3, k4, k5, k6, k7, k8⟩ := hrk
    have hlw : LW q n e0 (i + 1) (wNext 60 q.xss x l c).l (wNext 60 q.xss x l c).c (wNext 60 q.xss x l c).x y bf := ⟨h.vs, hwi, ⟨hwi.ok.kl, by omega, k3, k4, k5, k6, k7, k8⟩, hri, by omega, by omega⟩
    exact bw_exit (nextW (by omega) hlw hA2)
  · simp only [Ex.to, Exit.then]
    refine (show (restC 1 bb3).wp Tryd.prog (BW w0 q n e0 i) a2 w2 from ?_)
    refine pieceNT0 (c := cfgM) cfgM_ok 2 nWt q_b hA2 ?_
    refine all_br (fun hg => ?_) (fun hg => all_ret fun env3 a3 w3 hA3 => ?_)
    · refine all_brt (by simp only [decide_eq_true_eq]; exact Iff.rfl) (by omega) ?_
      refine all_brf (p := ¬ (n : Int) ≤ 32) (by simp) (by omega) ?_
      refine all_ret fun env3 a3 w3 hA3 => ?_
      simp only [Ex.to, Exit.then]
      have hA4 := hA3.segs 9 (l' := [.c (.lit .i64 0), .c (.int .i64 (n : Int)), .c (.lit .i64 0), .c (.lit .i64 0), .c (.lit .u32 0), .a (encInt .u32) 32 z32, .c (.bl false), .c (.lit .i64 0)]) rfl (by
        intro s hs
        simp only [List.mem_cons, List.not_mem_nil, or_false] at hs
        rcases hs with rfl | rfl | rfl | rfl | rfl | rfl | rfl | rfl
        all_goals first | trivial | exact List.length_replicate) (fun cs h => denL_gen2 (by kernel_rfl) h)
      have hA5 := (hA4.gvals (vWt q n bf y.got i 0) rfl).gen (st' := sWs q l c x (rd0 0 n)) rfl
      have hlw : LW q n e0 i l c x (rd0 0 n) bf := ⟨h.vs, h.wi, rd0_ok hn (by omega) h.wi.ok.kl.2 (by omega), ⟨rfl, rfl, fun h => absurd rfl h⟩, h.cc, by simp only; omega⟩
      exact rd_ok3 (by omega) hlw rfl hA5
    · simp only [Ex.to, Exit.then]
      exact rd_ok3 (by omega) h hg hA3
theorem b3_eq : Tryd.f3.body = some b3 := by kernel_rfl
theorem aw_sm {c : Cfg} (hP : c.P = Tryd.prog) (hg : c.gl = [(0, 0)]) : ∀ (args : List SVal) (st : St) (s : SVal) (st' : St) (env : Env) (w : World) (vs : List Value), (smClosed [0] [lookB] (.bl true) args st).at (s, st') → GlOk c.gl env → Rep env st w → DenL env args vs → Calls c.P 10 ⟨vs⟩ w fun e w' => ∃ env' v, e = .returned v ∧ Ext env st w env' st' w' ∧ Rep env' st' w' ∧ Den env' s v := by
  rw [hP, hg]
  exact smClosedE_ok cfg0_ok awake_val ⟨rfl, rfl, trivial⟩ (by kernel_rfl) rfl rfl (by intro b hb e; rw [List.mem_singleton.1 hb]; rfl)
theorem cfgFw_ok {S rest : St} {xss : List (List Int)} {cp : Nat} (hS : S = inS xss (hdL xss) ++ rest) : SmOk (cfgFw S xss cp True (fewB xss)) := by
  intro F G h
  simp only [cfgFw] at h
  split at h
  · simp only [Option.some.injEq] at h; subst h
    exact aw_sm rfl rfl
  · simp only [Option.some.injEq] at h; subst h
    refine smEq_ok (c := cfgFw S xss cp True (fewB xss)) fun _ env w vs hg hr hd => ?_
    subst hS
    exact few_rest rest env w vs hg hr hd
  · cases h
theorem cfgNw_ok {k : Nat} {ac : List Int} {a : Int} {xss : List (List Int)} {cp : Nat} {l : List Int} {c : Int} {P : Prop} {v : SVal} {S' : St} (hP : P → ∀ (env : Env) (w : World) (vs : List Value), GlOk cfgM.gl env → Rep env (sI k ac xss (hdL xss) l c) w → DenL env [.int .i64 a, vsV xss cp] vs → Calls cfgM.P 9 ⟨vs⟩ w (Ends1 env (sI k ac xss (hdL xss) l c) w v S')) : SmOk (cfgNw k ac (.lit .i64 a) xss (hdL xss) cp l c P v S') := by
  intro F G h
  simp only [cfgNw] at h
  split at h
  · simp only [Option.some.injEq] at h; subst h
    refine smEq_ok (c := cfgNw k ac (.lit .i64 a) xss (hdL xss) cp l c P v S') fun hp env w vs hg hr hd => hP hp env w vs hg hr ?_
    exact denL_gen2 rfl hd
  · cases h
theorem andNot_even (x : Int) : bitop .andNot .u32 x 1 % 2 = 0 ∧ 0 ≤ bitop .andNot .u32 x 1 ∧ bitop .andNot .u32 x 1 < 4294967296 := by
  have h1 : (2 ^ IntKind.u32.bits - 1 - low .u32 1) = 4294967294 := by decide
  have h2 : (low .u32 x &&& 4294967294) % 2 = 0 := by
    rw [Nat.mod_two_eq_zero_iff_testBit_zero, Nat.testBit_and]
    simp
  simp only [bitop, h1, w32_mod]
  generalize low .u32 x &&& 4294967294 = m at *
  omega
theorem noFootW {e0 e1 e2 e3 : Slot} {q : InW} (x : Nat) (h : inFoot [e0, e1, e2, e3] (s0W q (hdL q.xss)) x) : False := by
  obtain ⟨i, e, b, _, h2, h3⟩ := h
  match i with
  | 0 => simp at h2; subst h2; simp [Blk.foot] at h3
  | 1 => simp at h2; subst h2; simp [Blk.foot] at h3
  | 2 => simp at h2; subst h2; simp [Blk.foot] at h3
  | 3 => simp at h2; subst h2; simp [Blk.foot] at h3
  | n + 4 => simp at h2
abbrev z60 : List Int := List.replicate 60 0
set_option maxRecDepth 100000 in
set_option maxHeartbeats 8000000 in
theorem whole_call {q : InW} (hsz : q.xss.length * 24 ≤ 140737488355328) (hus : ∀ i, U32s (q.xss.getD i [])) {e0 e1 e2 e3 : Slot} (he : e0.blk = 0 ∧ e0.off = 0) {w : World} {v0 v1 v2 : Value} (hr : Rep [e0, e1, e2, e3] (s0W q (hdL q.xss)) w) (h0 : Den [e0, e1, e2, e3] (.int .u32 q.first) v0) (h1 : Den [e0, e1, e2, e3] (vsV q.xss q.cp) v1) (h2 : Den [e0, e1, e2, e3] (acV q 3) v2) :
    Calls Tryd.prog 3 ⟨[v0, v1, v2]⟩ w (Said ⟨w, fun _ => False⟩) := by
  refine call_begin (c := cfgM) Tryd.func3 b3_eq (args := argW q) (by
    intro p hp
    rw [List.mem_singleton.1 hp]
    exact ⟨e0, rfl, he⟩) hr ⟨_, _, rfl, h0, _, _, rfl, h1, _, _, rfl, h2, rfl⟩ (F := fun _ => False) (fun x h => noFootW x h) ?_
  intro a hA
  have hhl := hdL_len q.xss
  refine pieceNT0 (c := cfgM) cfgM_ok 2 nA (p_a (hs := hdL q.xss)) hA (all_ret fun env1 a1 w1 hA1 => ?_)
  simp only [Ex.to, Exit.then]
  have hA2 := hA1.segs 5 (l' := [.a (encInt .u32) 60 z60]) rfl (by intro s hs; rw [List.mem_singleton.1 hs]; exact List.length_replicate) (fun cs h => denL_gen2 (by kernel_rfl) h)
  have hA3 := hA2.perm [0, 1, 2, 3, 5, 4] (by kernel_rfl) (by kernel_rfl) (st' := inS q.xss (hdL q.xss) ++ [.ro (encInt .u8) q.acts, .own [.a (encInt .u32) 60 z60] 22, .own [.c (.sli 4 (.c 0) 1 (.c 60) (some (.c 60))), .c (.lit .i64 0)] 68]) (vals' := vA q) (by kernel_rfl) (by kernel_rfl)
  have hA4 : At [(0, 0)] ⟨w, fun _ => False⟩ _ (fr 172 nA (vA q)) (sI 60 q.acts q.xss (hdL q.xss) z60 0) a1 w1 := hA3.gen rfl
  refine (show (restC 2 b3).wp Tryd.prog (Q3 ⟨w, fun _ => False⟩) a1 w1 from ?_)
  by_cases hok : okV q.xss
  · refine pieceNT0 (c := cfgNw 60 q.acts (.lit .i64 0) q.xss (hdL q.xss) q.cp z60 0 True (.tup [.ptr 8 0, .lit .i64 0]) (sM 60 q.acts q.xss (hdL q.xss) (hdL q.xss) z60 0 (wr0 0))) (cfgNw_ok fun _ env w vs hg hr hd => newL_ok hsz hok env w vs hg hr hd) 1 nB (p_b (a := 0)) hA4 ?_
    refine all_eq ⟨rfl, rfl, trivial⟩ (all_ret fun env5 a5 w5 hA5 => ?_)
    simp only [Ex.to, Exit.then]
    refine (show (restC 3 b3).wp Tryd.prog (Q3 ⟨w, fun _ => False⟩) a5 w5 from ?_)
    refine pieceNT0 (c := cfgFw (sM 60 q.acts q.xss (hdL q.xss) (hdL q.xss) z60 0 (wr0 0)) q.xss q.cp True (fewB q.xss)) (cfgFw_ok (rest := [.ro (encInt .u8) q.acts] ++ memS 60 z60 0 ++ wrS 6 (wr0 0) q.xss (hdL q.xss)) rfl) 1 (6 :: nC) p_c hA5 ?_
    refine all_eq rfl (all_eq ⟨rfl, rfl, trivial⟩ ?_)
    have sayT : ∀ {env : Env} {a : Act} {W : World} {vs : List SVal} {S : St}, At [(0, 0)] ⟨w, fun _ => False⟩ env (fr 172 ([6] ++ nC) ([.bl true] ++ vs)) S a W → Q3 ⟨w, fun _ => False⟩ .ret a W := by
      intro env a W vs S hA
      have hA1 : At [(0, 0)] ⟨w, fun _ => False⟩ env (fr 172 [6] [.bl true]) S a W := At.few (names := [6]) (extra := nC) (vals := [.bl true]) (ev := vs) hA rfl
      exact At.said (c := cfgM) hA1 (by kernel_rfl)
    refine all_brp (p := ¬ fewV q.xss) (by rw [← fewB_iff]; simp) (fun hn => all_eq rfl (all_ret fun env6 a6 w6 hA6 => sayT hA6)) (fun hf => ?_)
    have hf : fewV q.xss := Classical.not_not.1 hf
    refine all_brp (by exact beq_iff_eq) (fun hn => all_eq rfl (all_ret fun env6 a6 w6 hA6 => sayT hA6)) (fun hne => all_ret fun env6 a6 w6 hA6 => ?_)
    simp only [Ex.to, Exit.then]
    have hA7 : At [(0, 0)] ⟨w, fun _ => False⟩ env6 (fr 172 nC (vC q)) (sM 60 q.acts q.xss (hdL q.xss) (hdL q.xss) z60 0 (wr0 0)) a6 w6 := hA6.drop1 rfl
    have hlen : 1 ≤ q.xss.length := by omega
    have hlen2 := hf.1
    have hget := hdL_get (xss := q.xss) (i := 0) (by omega)
    have hn0 := (hok 0 (by omega)).1
    have hrow : ∀ i, i < q.xss.length → (q.xss.getD i []).length = (q.xss.getD 0 []).length := fun i hi => (hok i hi).2
    have ht := @p_d q (hdL q.xss) (hdL q.xss) z60 0 (wr0 0)
    rw [hget] at ht
    generalize hN : (q.xss.getD 0 []).length = n at *
    refine (show (restC 4 b3).wp Tryd.prog (Q3 ⟨w, fun _ => False⟩) a6 w6 from ?_)
    refine pieceNT0 (c := cfgM) cfgM_ok 3 nD ht hA7 ?_
    obtain ⟨ev1, ev2, ev3⟩ := andNot_even q.first
    have eW : (z60.set 0 (bitop BinOp.or IntKind.u32 (bitop BinOp.and IntKind.u32 (z60.getD 0 (0 : Int)) (0 : Int)) (bitop BinOp.andNot IntKind.u32 q.first (1 : Int)))).set 0 (IntKind.u32.wrap ((z60.set 0 (bitop BinOp.or IntKind.u32 (bitop BinOp.and IntKind.u32 (z60.getD 0 (0 : Int)) (0 : Int)) (bitop BinOp.andNot IntKind.u32 q.first (1 : Int)))).getD 0 (0 : Int) + (0 : Int))) = z60.set 0 (bitop BinOp.andNot IntKind.u32 q.first 1) := by
      rw [Sx.getD_set_self (by simp), List.set_set, raw_set, Int.emod_eq_of_lt ev2 ev3]
    rw [eW]
    generalize bitop BinOp.andNot IntKind.u32 q.first 1 = E at *
    refine all_needq (by simp only [decide_eq_true_eq]; exact Iff.rfl) (by omega) ?_
    refine all_needq (by simp only [decide_eq_true_eq]; exact Iff.rfl) (by omega) ?_
    refine all_brt (by simp only [decide_eq_true_eq]; exact Iff.rfl) (by omega) ?_
    refine all_brf (p := ¬ (n : Int) ≤ 32) (by simp) (by omega) ?_
    refine all_br (fun hh => by cases hh) (fun _ => ?_)
    refine all_needq (by simp only [inR_i64]; exact Iff.rfl) (by omega) ?_
    repeat' (first
      | refine all_need rfl (fun _ => ?_)
      | refine all_eq trivial ?_
      | refine all_eq rfl ?_)
    refine all_ret fun env8 a8 w8 hA8 => ?_
    simp only [Ex.to, Exit.then]
    have hA9 := hA8.segs 9 (l' := [.c (.lit .i64 0), .c (.int .i64 (n : Int)), .c (.lit .i64 0), .c (.lit .i64 0), .c (.lit .u32 0), .a (encInt .u32) 32 z32, .c (.bl false), .c (.lit .i64 0)]) rfl (by
      intro s hs
      simp only [List.mem_cons, List.not_mem_nil, or_false] at hs
      rcases hs with rfl | rfl | rfl | rfl | rfl | rfl | rfl | rfl
      all_goals first | trivial | exact List.length_replicate) (fun cs h => denL_gen2 (by kernel_rfl) h)
    have hA10 : At [(0, 0)] ⟨w, fun _ => False⟩ env8 (fr 172 nD (vD q n)) (sWs q (z60.set 0 E) 1 (wr0 0) (rd0 0 n)) a8 w8 := hA9.gen rfl
    refine (show (restC 7 b3).wp Tryd.prog (Q3 ⟨w, fun _ => False⟩) a8 w8 from ?_)
    refine pieceNT0 (c := cfgM) cfgM_ok 2 nW p_e hA10 (all_ret fun env11 a11 w11 hA11 => ?_)
    simp only [Ex.to, Exit.then]
    have hA12 := hA11.gvals (vW q n 0 false) rfl
    refine (show c3.wp Tryd.prog (Q3 ⟨w, fun _ => False⟩) a11 w11 from wpS (by kernel_rfl) (wpS (by kernel_rfl) ?_))
    refine (show reg3.wp _ _ _ _ from ?_)
    refine pieceT0 (c := cfgM) cfgM_ok nWi p_reg hA12 (all_ret fun env13 a13 w13 hA13 => ?_)
    simp only [Ex.to, Exit.then]
    have hA14 := hA13.gvals (vWi q n 0 false 0) rfl
    have hvs : Vs q.xss n E := ⟨⟨hlen, hlen2⟩, hrow, by omega, ev1⟩
    have hz : ∀ j : Nat, (z60.set 0 E).getD (0 + 1 + j) 0 = 0 := by
      intro j
      rw [Sx.getD_set_ne (by omega), List.getD_eq_getElem?_getD, List.getElem?_replicate]
      split <;> rfl
    have hwi : WI 0 q.xss n E (z60.set 0 E) 1 (wr0 0) := ⟨⟨⟨by omega, by simp⟩, hok, hus, by omega, by omega, by simp only; omega, by simp only; omega, by simp only; omega, fun h => by simp only at h; omega, fun h => by simp only at h; omega⟩, rfl, by
      rw [Sx.getD_set_self (by simp)]
      simp only [if_true]
      omega, fun _ j _ => by rw [hz j]; rfl, fun h => absurd rfl h⟩
    have hlw : LW q n E 0 (z60.set 0 E) 1 (wr0 0) (rd0 0 n) 0 := ⟨hvs, hwi, rd0_ok (by omega) (by omega) (by simp) (by omega), ⟨rfl, rfl, fun h => absurd rfl h⟩, by omega, by simp only; omega⟩
    refine (show blk3.wp _ _ _ _ from wpB 0 (by kernel_rfl) (wpL (by kernel_rfl) (InvW ⟨w, fun _ => False⟩ q n E) (fun i => 300 - i) 0 ⟨Nat.zero_le _, _, _, _, _, _, hlw, env13, hA14⟩ ?_))
    intro i a w h
    exact round3_ok h
  · refine pieceNT0 (c := cfgNw 60 q.acts (.lit .i64 0) q.xss (hdL q.xss) q.cp z60 0 True (.tup [.pnil, .lit .i64 100]) (sI 60 q.acts q.xss (hdL q.xss) z60 0)) (cfgNw_ok fun _ env w vs hg hr hd => newL_no hsz hok env w vs hg hr hd) 1 nB p_bn hA4 ?_
    refine all_eq ⟨rfl, rfl, trivial⟩ (all_ret fun env5 a5 w5 hA5 => ?_)
    simp only [Ex.to, Exit.then]
    refine (show (restC 3 b3).wp Tryd.prog (Q3 ⟨w, fun _ => False⟩) a5 w5 from ?_)
    refine pieceNT0 (c := cfgFw (sI 60 q.acts q.xss (hdL q.xss) z60 0) q.xss q.cp True (fewB q.xss)) (cfgFw_ok (rest := [.ro (encInt .u8) q.acts] ++ memS 60 z60 0) rfl) 1 [6] p_cn hA5 ?_
    repeat' (first
      | refine all_eq ⟨rfl, rfl, trivial⟩ ?_
      | refine all_eq rfl ?_
      | refine all_br (fun _ => ?_) (fun _ => ?_)
      | exact all_ret fun _ _ _ h => h.said (by kernel_rfl))
end Go.Proofs.YtmknmbacecjfmaaDoor

/- Layer 10: rows that are the same: pieces. -/
namespace Go.Proofs.YtmknmbacecjfmaaDoor
open Go Go.Proofs.YtmknmbacecjfmaaDoor.Sx
set_option linter.unusedVariables false
noncomputable def b21 : Code := Tryd.f21.body.getD .skip
noncomputable def c21 : Code := restC 2 b21
noncomputable def reg21 : Code := lft (lft c21)
noncomputable def blk21 : Code := rgt (lft c21)
noncomputable def round21 : Code := lft (lft blk21)
noncomputable def tm21 : Code := lft round21
noncomputable def bb21 : Code := lft (lft (rgt round21))
noncomputable def inc21 : Code := rgt (rgt round21)
noncomputable def end21 : Code := rgt c21
/-- a law's end: what was read, a copy of it, what is read again -/
abbrev sF (q : InW) (hs gs : List (Nat × Nat)) (l : List Int) (c : Int) (x : Wr) (y : Rd) (B A B2 : List Int) : St := sWg q hs gs l c x y B ++ [.vec (encInt .u32) A 22, .own [.a (encInt .u32) 32 B2] 71]
abbrev aV (A : List Int) (i m : Nat) : List SVal := [.sli 11 (.c 0) 1 (.v A.length) none, .slr 2 i m]
abbrev aO (A : List Int) (n : Nat) : List SVal := [.sli 12 (.c 0) 1 (.v n) (some (.v n)), .sli 11 (.c 0) 1 (.v A.length) none]
end Go.Proofs.YtmknmbacecjfmaaDoor

/- SeqlockCalm: pieces and states. -/
namespace Go.Proofs.YtmknmbacecjfmaaDoor
open Go Go.Proofs.YtmknmbacecjfmaaDoor.Sx
set_option linter.unusedVariables false
noncomputable def b4 : Code := Tryd.f4.body.getD .skip
/-- all versions are written -/
noncomputable def w4 : Code := lft (restC 7 b4)
noncomputable def wround4 : Code := lft (lft w4)
noncomputable def wtm4 : Code := lft wround4
noncomputable def wbb4 : Code := lft (rgt wround4)
/-- a reader reads -/
noncomputable def r4 : Code := restC 10 b4
noncomputable def rreg4 : Code := lft (lft r4)
noncomputable def rblk4 : Code := rgt (lft r4)
noncomputable def rround4 : Code := lft (lft rblk4)
noncomputable def rtm4 : Code := lft rround4
noncomputable def rbb4 : Code := lft (lft (rgt rround4))
noncomputable def rinc4 : Code := rgt (rgt rround4)
/-- what was read is changed -/
noncomputable def o4 : Code := restC 14 b4
noncomputable def oreg4 : Code := lft (lft o4)
noncomputable def oblk4 : Code := rgt (lft o4)
noncomputable def oround4 : Code := lft (lft oblk4)
noncomputable def otm4 : Code := lft oround4
noncomputable def obb4 : Code := lft (lft (rgt oround4))
noncomputable def oinc4 : Code := rgt (rgt oround4)
abbrev jA : List Nat := [0, 1, 7, 8]
abbrev eA (q : InW) : List SVal := [.int .u32 q.first, vsV q.xss q.cp, .ptr 5 0, .lit .i64 0]
abbrev jB : List Nat := [0, 1, 7, 8, 9, 10]
abbrev jC : List Nat := [0, 1, 7, 9]
abbrev eC (q : InW) : List SVal := [.int .u32 q.first, vsV q.xss q.cp, .ptr 5 0, .ptr 8 0]
abbrev jE : List Nat := [0, 1, 7, 9, 11, 12]
abbrev eE (q : InW) (n : Nat) (s : Int) : List SVal := eC q ++ [.int .i64 (n : Nat), .int .i64 s]
abbrev jF : List Nat := [0, 1, 7, 11, 13]
abbrev eF (q : InW) (n : Nat) : List SVal := [.int .u32 q.first, vsV q.xss q.cp, .ptr 5 0, .int .i64 (n : Nat), .ptr 9 0]
abbrev jG : List Nat := [0, 1, 7, 11, 13, 15]
abbrev eG (q : InW) (n : Nat) (k : Int) : List SVal := eF q n ++ [.int .i64 k]
abbrev jH : List Nat := [0, 1, 13, 16, 17, 18, 19, 20]
abbrev jH0 : List Nat := [0, 1, 13, 16, 17, 18, 19]
abbrev eH (q : InW) (n : Nat) (wd : Int) : List SVal := [.int .u32 q.first, vsV q.xss q.cp, .ptr 9 0, slV n, .bl true, .int .u32 wd, .lit .i64 0]
abbrev eI (q : InW) (n : Nat) (wd : Int) (m : Nat) : List SVal := eH q n wd ++ [.sli 11 (.c 0) 1 (.v m) none]
abbrev jO : List Nat := [0, 1, 13, 16, 17, 18, 19, 20, 21]
abbrev eO (q : InW) (n : Nat) (wd : Int) (m j : Nat) : List SVal := eI q n wd m ++ [.int .i64 (j : Nat)]
abbrev jL : List Nat := [0, 1, 13, 17, 18, 19, 20, 22]
abbrev eL (q : InW) (n : Nat) (wd : Int) (m : Nat) : List SVal := [.int .u32 q.first, vsV q.xss q.cp, .ptr 9 0, .bl true, .int .u32 wd, .lit .i64 0, .sli 11 (.c 0) 1 (.v m) none, .sli 12 (.c 0) 1 (.v n) (some (.v n))]
/-- the two comparisons -/
noncomputable def cfgS4 (q : InW) (hs gs : List (Nat × Nat)) (l : List Int) (c : Int) (x : Wr) (y : Rd) (B A B2 : List Int) (i m n : Nat) (P1 P2 : Prop) : Cfg := { P := Tryd.prog, ex := exI, gl := [(0, 0)], sm := fun f => match f with
  | 21 => some (fun args st => match args with
    | [_, .slr _ _ _] => smEq (aV A i m) (sF q hs gs l c x y B A B2) P1 (.bl true) (sF q hs gs l c x y B A B2) args st
    | _ => smEq (aO A n) (sF q hs gs l c x y B A B2) P2 (.bl true) (sF q hs gs l c x y B A B2) args st)
  | _ => none }
noncomputable def cfgW4 (q : InW) (hs gs : List (Nat × Nat)) (l : List Int) (c : Int) (x : Wr) (l1 : List Int) (c1 : Int) (x1 : Wr) (b : Bool) (P : Prop) : Cfg := { P := Tryd.prog, ex := exI, gl := [(0, 0)], sm := fun f => match f with
  | 14 => some (smEq [.ptr 8 0, .ptr 5 0] (sM 60 q.acts q.xss hs gs l c x) P (.sb b) (sM 60 q.acts q.xss hs gs l1 c1 x1))
  | _ => none }
end Go.Proofs.YtmknmbacecjfmaaDoor

namespace Go.Proofs.YtmknmbacecjfmaaDoor
open Go Go.Proofs.YtmknmbacecjfmaaDoor.Sx
set_option linter.unusedVariables false
set_option maxRecDepth 100000 in
theorem j_a {q : InW} {hs : List (Nat × Nat)} {bb : Int} : (execN cfgM 100 2 b4 ([.int .u32 q.first, vsV q.xss q.cp, .int .u8 bb] ++ List.replicate 177 .bad) (s0W q hs)).bind (canonK 4 [(0,0)] 180 jA) =
 

 (.ret (.normal, [.int .u32 q.1, .sli 1 (.c 0) 1 (.v q.2.length) (some (.v q.3)), .ptr 4 0, .lit .i64 (0 : Int)], [.ro encLook [PUnit.unit], .ro (encHd 2) hs, Blk.rows false IntKind.u32 q.2, .ro (encInt IntKind.u8) q.4, .own [.c (.sli 5 (.c 0) 1 (.c 60) (some (.c 60))), .c (.lit .i64 (0 : Int))] 68, .own [.c (.lit .u32 (0 : Int)), .c (.lit .u32 (0 : Int)), .c (.lit .u32 (0 : Int)), .c (.lit .u32 (0 : Int)), .c (.lit .u32 (0 : Int)), .c (.lit .u32 (0 : Int)), .c (.lit .u32 (0 : Int)), .c (.lit .u32 (0 : Int)), .c (.lit .u32 (0 : Int)), .c (.lit .u32 (0 : Int)), .c (.lit .u32 (0 : Int)), .c (.lit .u32 (0 : Int)), .c (.lit .u32 (0 : Int)), .c (.lit .u32 (0 : Int)), .c (.lit .u32 (0 : Int)), .c (.lit .u32 (0 : Int)), .c (.lit .u32 (0 : Int)), .c (.lit .u32 (0 : Int)), .c (.lit .u32 (0 : Int)), .c (.lit .u32 (0 : Int)), .c (.lit .u32 (0 : Int)), .c (.lit .u32 (0 : Int)), .c (.lit .u32 (0 : Int)), .c (.lit .u32 (0 : Int)), .c (.lit .u32 (0 : Int)), .c (.lit .u32 (0 : Int)), .c (.lit .u32 (0 : Int)), .c (.lit .u32 (0 : Int)), .c (.lit .u32 (0 : Int)), .c (.lit .u32 (0 : Int)), .c (.lit .u32 (0 : Int)), .c (.lit .u32 (0 : Int)), .c (.lit .u32 (0 : Int)), .c (.lit .u32 (0 : Int)), .c (.lit .u32 (0 : Int)), .c (.lit .u32 (0 : Int)), .c (.lit .u32 (0 : Int)), .c (.lit .u32 (0 : Int)), .c (.lit .u32 (0 : Int)), .c (.lit .u32 (0 : Int)), .c (.lit .u32 (0 : Int)), .c (.lit .u32 (0 : Int)), .c (.lit .u32 (0 : Int)), .c (.lit .u32 (0 : Int)), .c (.lit .u32 (0 : Int)), .c (.lit .u32 (0 : Int)), .c (.lit .u32 (0 : Int)), .c (.lit .u32 (0 : Int)), .c (.lit .u32 (0 : Int)), .c (.lit .u32 (0 : Int)), .c (.lit .u32 (0 : Int)), .c (.lit .u32 (0 : Int)), .c (.lit .u32 (0 : Int)), .c (.lit .u32 (0 : Int)), .c (.lit .u32 (0 : Int)), .c (.lit .u32 (0 : Int)), .c (.lit .u32 (0 : Int)), .c (.lit .u32 (0 : Int)), .c (.lit .u32 (0 : Int)), .c (.lit .u32 (0 : Int))] 22])) := by kernel_rfl
set_option maxRecDepth 100000 in
theorem j_b {q : InW} {hs gs : List (Nat × Nat)} {l : List Int} {c : Int} {P : Prop} {a : Int} : (execN (cfgNw 60 q.acts (.lit .i64 3) q.xss hs q.cp l c P (.tup [.ptr 8 0, .lit .i64 0]) (sM 60 q.acts q.xss hs gs l c (wr0 a))) 100 1 (restC 2 b4) (fr 180 jA (eA q)) (sI 60 q.acts q.xss hs l c)).bind (canonK 9 [(0,0)] 180 jB) =
 

 (.eq ([SVal.lit .i64 (3 : Int), .sli 1 (.c 0) 1 (.v q.2.length) (some (.v q.3))] = [SVal.lit .i64 (3 : Int), .sli 1 (.c 0) 1 (.v q.2.length) (some (.v q.3))] ∧ [Blk.ro encLook [PUnit.unit], .ro (encHd 2) hs, Blk.rows false IntKind.u32 q.2, .ro (encInt IntKind.u8) q.4, .own [.a (encInt IntKind.u32) 60 l] 22, .own [.c (.sli 4 (.c 0) 1 (.v 60) (some (.v 60))), .c (.int .i64 c)] 68] = [Blk.ro encLook [PUnit.unit], .ro (encHd 2) hs, Blk.rows false IntKind.u32 q.2, .ro (encInt IntKind.u8) q.4, .own [.a (encInt IntKind.u32) 60 l] 22, .own [.c (.sli 4 (.c 0) 1 (.v 60) (some (.v 60))), .c (.int .i64 c)] 68] ∧ P)

 (.ret (.normal, [.int .u32 q.1, .sli 1 (.c 0) 1 (.v q.2.length) (some (.v q.3)), .ptr 5 0, .lit .i64 (0 : Int), .ptr 8 0, .lit .i64 (0 : Int)], [.ro encLook [PUnit.unit], .ro (encHd 2) hs, Blk.rows false IntKind.u32 q.2, .ro (encInt IntKind.u8) q.4, .own [.a (encInt IntKind.u32) 60 l] 22, .own [.c (.sli 4 (.c 0) 1 (.v 60) (some (.v 60))), .c (.int .i64 c)] 68, Blk.rows true IntKind.u32 q.2, .vec (encHd 6) gs 34, .own [.c (.int .i64 a), .c (.int .i64 (0 : Int)), .c (.int .i64 (0 : Int)), .c (.sli 7 (.c 0) 1 (.v gs.length) none), .c (.int .i64 (0 : Int))] 70]))) := by kernel_rfl
set_option maxRecDepth 100000 in
theorem j_bn {q : InW} {hs : List (Nat × Nat)} {l : List Int} {c : Int} {P : Prop} : (execN (cfgNw 60 q.acts (.lit .i64 3) q.xss hs q.cp l c P (.tup [.pnil, .lit .i64 100]) (sI 60 q.acts q.xss hs l c)) 100 1 (restC 2 b4) (fr 180 jA (eA q)) (sI 60 q.acts q.xss hs l c)).bind (canonK 6 [(0,0)] 180 jB) =
 

 (.eq ([SVal.lit .i64 (3 : Int), .sli 1 (.c 0) 1 (.v q.2.length) (some (.v q.3))] = [SVal.lit .i64 (3 : Int), .sli 1 (.c 0) 1 (.v q.2.length) (some (.v q.3))] ∧ [Blk.ro encLook [PUnit.unit], .ro (encHd 2) hs, Blk.rows false IntKind.u32 q.2, .ro (encInt IntKind.u8) q.4, .own [.a (encInt IntKind.u32) 60 l] 22, .own [.c (.sli 4 (.c 0) 1 (.v 60) (some (.v 60))), .c (.int .i64 c)] 68] = [Blk.ro encLook [PUnit.unit], .ro (encHd 2) hs, Blk.rows false IntKind.u32 q.2, .ro (encInt IntKind.u8) q.4, .own [.a (encInt IntKind.u32) 60 l] 22, .own [.c (.sli 4 (.c 0) 1 (.v 60) (some (.v 60))), .c (.int .i64 c)] 68] ∧ P)

 (.ret (.normal, [.int .u32 q.1, .sli 1 (.c 0) 1 (.v q.2.length) (some (.v q.3)), .ptr 5 0, .lit .i64 (0 : Int), .pnil, .lit .i64 (100 : Int)], [.ro encLook [PUnit.unit], .ro (encHd 2) hs, Blk.rows false IntKind.u32 q.2, .ro (encInt IntKind.u8) q.4, .own [.a (encInt IntKind.u32) 60 l] 22, .own [.c (.sli 4 (.c 0) 1 (.v 60) (some (.v 60))), .c (.int .i64 c)] 68]))) := by kernel_rfl
set_option maxRecDepth 100000 in
theorem j_c {q : InW} {hs gs : List (Nat × Nat)} {l : List Int} {c : Int} {x : Wr} {P : Prop} {b : Bool} : (execN (cfgFw (sM 60 q.acts q.xss hs gs l c x) q.xss q.cp P b) 100 1 (restC 3 b4) (fr 180 jB (eA q ++ [.ptr 8 0, .lit .i64 0])) (sM 60 q.acts q.xss hs gs l c x)).bind (canonK 9 [(0,0)] 180 (6 :: jC)) =
 

 (.eq (some [Blk.ro encLook [PUnit.unit]] = some [Blk.ro encLook [PUnit.unit]])

 (.eq ([SVal.sli 1 (.c 0) 1 (.v q.2.length) (some (.v q.3))] = [SVal.sli 1 (.c 0) 1 (.v q.2.length) (some (.v q.3))] ∧ [Blk.ro encLook [PUnit.unit], .ro (encHd 2) hs, Blk.rows false IntKind.u32 q.2, .ro (encInt IntKind.u8) q.4, .own [.a (encInt IntKind.u32) 60 l] 22, .own [.c (.sli 4 (.c 0) 1 (.v 60) (some (.v 60))), .c (.int .i64 c)] 68, Blk.rows true IntKind.u32 q.2, .vec (encHd 6) gs 34, .own [.c (.int .i64 x.1), .c (.int .i64 x.2), .c (.int .i64 x.3), .c (.sli 7 (.c 0) 1 (.v gs.length) none), .c (.int .i64 x.4)] 70] = [Blk.ro encLook [PUnit.unit], .ro (encHd 2) hs, Blk.rows false IntKind.u32 q.2, .ro (encInt IntKind.u8) q.4, .own [.a (encInt IntKind.u32) 60 l] 22, .own [.c (.sli 4 (.c 0) 1 (.v 60) (some (.v 60))), .c (.int .i64 c)] 68, Blk.rows true IntKind.u32 q.2, .vec (encHd 6) gs 34, .own [.c (.int .i64 x.1), .c (.int .i64 x.2), .c (.int .i64 x.3), .c (.sli 7 (.c 0) 1 (.v gs.length) none), .c (.int .i64 x.4)] 70] ∧ P)

 (.br (!b)

 (.eq (some [Blk.ro encLook [PUnit.unit]] = some [Blk.ro encLook [PUnit.unit]])

 (.ret (.ret, [.bl true, .int .u32 q.1, .sli 1 (.c 0) 1 (.v q.2.length) (some (.v q.3)), .ptr 5 0, .ptr 8 0], [.ro encLook [PUnit.unit], .ro (encHd 2) hs, Blk.rows false IntKind.u32 q.2, .ro (encInt IntKind.u8) q.4, .own [.a (encInt IntKind.u32) 60 l] 22, .own [.c (.sli 4 (.c 0) 1 (.v 60) (some (.v 60))), .c (.int .i64 c)] 68, Blk.rows true IntKind.u32 q.2, .vec (encHd 6) gs 34, .own [.c (.int .i64 x.1), .c (.int .i64 x.2), .c (.int .i64 x.3), .c (.sli 7 (.c 0) 1 (.v gs.length) none), .c (.int .i64 x.4)] 70])))

 (.br ((↑q.2.length : Int) == (0 : Int))

 (.eq (some [Blk.ro encLook [PUnit.unit]] = some [Blk.ro encLook [PUnit.unit]])

 (.ret (.ret, [.bl true, .int .u32 q.1, .sli 1 (.c 0) 1 (.v q.2.length) (some (.v q.3)), .ptr 5 0, .ptr 8 0], [.ro encLook [PUnit.unit], .ro (encHd 2) hs, Blk.rows false IntKind.u32 q.2, .ro (encInt IntKind.u8) q.4, .own [.a (encInt IntKind.u32) 60 l] 22, .own [.c (.sli 4 (.c 0) 1 (.v 60) (some (.v 60))), .c (.int .i64 c)] 68, Blk.rows true IntKind.u32 q.2, .vec (encHd 6) gs 34, .own [.c (.int .i64 x.1), .c (.int .i64 x.2), .c (.int .i64 x.3), .c (.sli 7 (.c 0) 1 (.v gs.length) none), .c (.int .i64 x.4)] 70])))

 (.ret (.normal, [.bad, .int .u32 q.1, .sli 1 (.c 0) 1 (.v q.2.length) (some (.v q.3)), .ptr 5 0, .ptr 8 0], [.ro encLook [PUnit.unit], .ro (encHd 2) hs, Blk.rows false IntKind.u32 q.2, .ro (encInt IntKind.u8) q.4, .own [.a (encInt IntKind.u32) 60 l] 22, .own [.c (.sli 4 (.c 0) 1 (.v 60) (some (.v 60))), .c (.int .i64 c)] 68, Blk.rows true IntKind.u32 q.2, .vec (encHd 6) gs 34, .own [.c (.int .i64 x.1), .c (.int .i64 x.2), .c (.int .i64 x.3), .c (.sli 7 (.c 0) 1 (.v gs.length) none), .c (.int .i64 x.4)] 70])))))) := by kernel_rfl
set_option maxRecDepth 100000 in
theorem j_cn {q : InW} {hs : List (Nat × Nat)} {l : List Int} {c : Int} {P : Prop} {b : Bool} : (execN (cfgFw (sI 60 q.acts q.xss hs l c) q.xss q.cp P b) 100 1 (restC 3 b4) (fr 180 jB (eA q ++ [.pnil, .lit .i64 100])) (sI 60 q.acts q.xss hs l c)).bind (canonK 6 [(0,0)] 180 [6]) =
 

 (.eq (some [Blk.ro encLook [PUnit.unit]] = some [Blk.ro encLook [PUnit.unit]])

 (.eq ([SVal.sli 1 (.c 0) 1 (.v q.2.length) (some (.v q.3))] = [SVal.sli 1 (.c 0) 1 (.v q.2.length) (some (.v q.3))] ∧ [Blk.ro encLook [PUnit.unit], .ro (encHd 2) hs, Blk.rows false IntKind.u32 q.2, .ro (encInt IntKind.u8) q.4, .own [.a (encInt IntKind.u32) 60 l] 22, .own [.c (.sli 4 (.c 0) 1 (.v 60) (some (.v 60))), .c (.int .i64 c)] 68] = [Blk.ro encLook [PUnit.unit], .ro (encHd 2) hs, Blk.rows false IntKind.u32 q.2, .ro (encInt IntKind.u8) q.4, .own [.a (encInt IntKind.u32) 60 l] 22, .own [.c (.sli 4 (.c 0) 1 (.v 60) (some (.v 60))), .c (.int .i64 c)] 68] ∧ P)

 (.br (!b)

 (.eq (some [Blk.ro encLook [PUnit.unit]] = some [Blk.ro encLook [PUnit.unit]])

 (.ret (.ret, [.bl true], [.ro encLook [PUnit.unit], .ro (encHd 2) hs, Blk.rows false IntKind.u32 q.2, .ro (encInt IntKind.u8) q.4, .own [.a (encInt IntKind.u32) 60 l] 22, .own [.c (.sli 4 (.c 0) 1 (.v 60) (some (.v 60))), .c (.int .i64 c)] 68])))

 (.eq (some [Blk.ro encLook [PUnit.unit]] = some [Blk.ro encLook [PUnit.unit]])

 (.ret (.ret, [.bl true], [.ro encLook [PUnit.unit], .ro (encHd 2) hs, Blk.rows false IntKind.u32 q.2, .ro (encInt IntKind.u8) q.4, .own [.a (encInt IntKind.u32) 60 l] 22, .own [.c (.sli 4 (.c 0) 1 (.v 60) (some (.v 60))), .c (.int .i64 c)] 68])))))) := by kernel_rfl
set_option maxRecDepth 100000 in
theorem j_d {q : InW} {hs gs : List (Nat × Nat)} {l : List Int} {c : Int} {x : Wr} : (execN cfgM 100 3 (restC 4 b4) (fr 180 jC (eC q)) (sM 60 q.acts q.xss hs gs l c x)).bind (canonK 9 [(0,0)] 180 jE) =
 

 (.need (decide (0 < q.2.length))

 (.need (decide (0 < hs.length))

 (.br (false)

 (.ret (.ret, [.int .u32 q.1, .sli 1 (.c 0) 1 (.v q.2.length) (some (.v q.3)), .ptr 5 0, .ptr 8 0, .int .i64 (↑(hs.getD 0 (0, 0)).snd : Int), .bad], [.ro encLook [PUnit.unit], .ro (encHd 2) hs, Blk.rows false IntKind.u32 q.2, .ro (encInt IntKind.u8) q.4, .own [.a (encInt IntKind.u32) 60 l] 22, .own [.c (.sli 4 (.c 0) 1 (.v 60) (some (.v 60))), .c (.int .i64 c)] 68, Blk.rows true IntKind.u32 q.2, .vec (encHd 6) gs 34, .own [.c (.int .i64 x.1), .c (.int .i64 x.2), .c (.int .i64 x.3), .c (.sli 7 (.c 0) 1 (.v gs.length) none), .c (.int .i64 x.4)] 70]))

 (.need (inR .i64 (c + (1 : Int)))

 (.need (true)

 (.need (true)

 (.need (true)

 (.need (true)

 (.need (true)
 (.eq (T.ret (SVal.sli (4 : Nat) (NN.c (0 : Nat)) (1 : Nat) (NN.v (60 : Nat)) (some (NN.v (60 : Nat)))) = T.ret (SVal.sli (4 : Nat) (NN.c (0 : Nat)) (1 : Nat) (NN.v (60 : Nat)) (some (NN.v (60 : Nat)))))
 (.eq (T.ret (SVal.int IntKind.u32 (bitop BinOp.andNot IntKind.u32 q.1 (1 : Int))) = T.ret (SVal.int IntKind.u32 (bitop BinOp.andNot IntKind.u32 q.1 (1 : Int))))

 (.need (true)

 (.need (true)
 (.eq (T.ret (SVal.sli (4 : Nat) (NN.c (0 : Nat)) (1 : Nat) (NN.v (60 : Nat)) (some (NN.v (60 : Nat)))) = T.ret (SVal.sli (4 : Nat) (NN.c (0 : Nat)) (1 : Nat) (NN.v (60 : Nat)) (some (NN.v (60 : Nat)))))
 (.eq (T.ret ([SVal.int IntKind.u32 ((l.set (3 : Nat) (bitop BinOp.or IntKind.u32 (bitop BinOp.and IntKind.u32 (l.getD (3 : Nat) (0 : Int)) (0 : Int)) (bitop BinOp.andNot IntKind.u32 q.1 (1 : Int)))).getD (3 : Nat) (0 : Int))].getD (0 : Nat) SVal.bad) = T.ret ([SVal.int IntKind.u32 ((l.set (3 : Nat) (bitop BinOp.or IntKind.u32 (bitop BinOp.and IntKind.u32 (l.getD (3 : Nat) (0 : Int)) (0 : Int)) (bitop BinOp.andNot IntKind.u32 q.1 (1 : Int)))).getD (3 : Nat) (0 : Int))].getD (0 : Nat) SVal.bad))

 (.ret (.normal, [.int .u32 q.1, .sli 1 (.c 0) 1 (.v q.2.length) (some (.v q.3)), .ptr 5 0, .ptr 8 0, .int .i64 (↑(hs.getD 0 (0, 0)).snd : Int), .lit .i64 (0 : Int)], [.ro encLook [PUnit.unit], .ro (encHd 2) hs, Blk.rows false IntKind.u32 q.2, .ro (encInt IntKind.u8) q.4, .own [.a (encInt IntKind.u32) 60 ((l.set 3 (bitop BinOp.or IntKind.u32 (bitop BinOp.and IntKind.u32 (l.getD 3 (0 : Int)) (0 : Int)) (bitop BinOp.andNot IntKind.u32 q.1 (1 : Int)))).set 3 (IntKind.u32.wrap ((l.set 3 (bitop BinOp.or IntKind.u32 (bitop BinOp.and IntKind.u32 (l.getD 3 (0 : Int)) (0 : Int)) (bitop BinOp.andNot IntKind.u32 q.1 (1 : Int)))).getD 3 (0 : Int) + (0 : Int))))] 22, .own [.c (.sli 4 (.c 0) 1 (.v 60) (some (.v 60))), .c (.int .i64 (c + (1 : Int)))] 68, Blk.rows true IntKind.u32 q.2, .vec (encHd 6) gs 34, .own [.c (.int .i64 x.1), .c (.int .i64 x.2), .c (.int .i64 x.3), .c (.sli 7 (.c 0) 1 (.v gs.length) none), .c (.int .i64 x.4)] 70]))))))))))))))))) := by kernel_rfl
set_option maxRecDepth 100000 in
theorem j_wt {q : InW} {hs gs : List (Nat × Nat)} {l : List Int} {c : Int} {x : Wr} {l1 : List Int} {c1 : Int} {x1 : Wr} {b : Bool} {P : Prop} {n : Nat} {s : Int} : (exec (cfgW4 q hs gs l c x l1 c1 x1 b P) 100 wtm4 (fr 180 jE (eE q n s)) (sM 60 q.acts q.xss hs gs l c x)).bind (canonK 9 [(0,0)] 180 jE) =
 

 (.eq ([SVal.ptr 8 0, .ptr 5 0] = [SVal.ptr 8 0, .ptr 5 0] ∧ [Blk.ro encLook [PUnit.unit], .ro (encHd 2) hs, Blk.rows false IntKind.u32 q.2, .ro (encInt IntKind.u8) q.4, .own [.a (encInt IntKind.u32) 60 l] 22, .own [.c (.sli 4 (.c 0) 1 (.v 60) (some (.v 60))), .c (.int .i64 c)] 68, Blk.rows true IntKind.u32 q.2, .vec (encHd 6) gs 34, .own [.c (.int .i64 x.1), .c (.int .i64 x.2), .c (.int .i64 x.3), .c (.sli 7 (.c 0) 1 (.v gs.length) none), .c (.int .i64 x.4)] 70] = [Blk.ro encLook [PUnit.unit], .ro (encHd 2) hs, Blk.rows false IntKind.u32 q.2, .ro (encInt IntKind.u8) q.4, .own [.a (encInt IntKind.u32) 60 l] 22, .own [.c (.sli 4 (.c 0) 1 (.v 60) (some (.v 60))), .c (.int .i64 c)] 68, Blk.rows true IntKind.u32 q.2, .vec (encHd 6) gs 34, .own [.c (.int .i64 x.1), .c (.int .i64 x.2), .c (.int .i64 x.3), .c (.sli 7 (.c 0) 1 (.v gs.length) none), .c (.int .i64 x.4)] 70] ∧ P)

 (.br (!b)

 (.ret (.normal, [.int .u32 q.1, .sli 1 (.c 0) 1 (.v q.2.length) (some (.v q.3)), .ptr 5 0, .ptr 8 0, .int .i64 (↑n : Int), .int .i64 s], [.ro encLook [PUnit.unit], .ro (encHd 2) hs, Blk.rows false IntKind.u32 q.2, .ro (encInt IntKind.u8) q.4, .own [.a (encInt IntKind.u32) 60 l1] 22, .own [.c (.sli 4 (.c 0) 1 (.v 60) (some (.v 60))), .c (.int .i64 c1)] 68, Blk.rows true IntKind.u32 q.2, .vec (encHd 6) gs 34, .own [.c (.int .i64 x1.1), .c (.int .i64 x1.2), .c (.int .i64 x1.3), .c (.sli 7 (.c 0) 1 (.v gs.length) none), .c (.int .i64 x1.4)] 70]))

 (.ret (.exit 0, [.int .u32 q.1, .sli 1 (.c 0) 1 (.v q.2.length) (some (.v q.3)), .ptr 5 0, .ptr 8 0, .int .i64 (↑n : Int), .int .i64 s], [.ro encLook [PUnit.unit], .ro (encHd 2) hs, Blk.rows false IntKind.u32 q.2, .ro (encInt IntKind.u8) q.4, .own [.a (encInt IntKind.u32) 60 l1] 22, .own [.c (.sli 4 (.c 0) 1 (.v 60) (some (.v 60))), .c (.int .i64 c1)] 68, Blk.rows true IntKind.u32 q.2, .vec (encHd 6) gs 34, .own [.c (.int .i64 x1.1), .c (.int .i64 x1.2), .c (.int .i64 x1.3), .c (.sli 7 (.c 0) 1 (.v gs.length) none), .c (.int .i64 x1.4)] 70])))) := by kernel_rfl
set_option maxRecDepth 100000 in
theorem j_wb {q : InW} {hs gs : List (Nat × Nat)} {l : List Int} {c : Int} {x : Wr} {n : Nat} {s : Int} : (exec cfgM 100 wbb4 (fr 180 jE (eE q n s)) (sM 60 q.acts q.xss hs gs l c x)).bind (canonK 9 [(0,0)] 180 jE) =
 

 (.need (inR .i64 (s + (1 : Int)))

 (.br (decide ((1000 : Int) < s + (1 : Int)))

 (.ret (.ret, [.int .u32 q.1, .sli 1 (.c 0) 1 (.v q.2.length) (some (.v q.3)), .ptr 5 0, .ptr 8 0, .int .i64 (↑n : Int), .int .i64 (s + (1 : Int))], [.ro encLook [PUnit.unit], .ro (encHd 2) hs, Blk.rows false IntKind.u32 q.2, .ro (encInt IntKind.u8) q.4, .own [.a (encInt IntKind.u32) 60 l] 22, .own [.c (.sli 4 (.c 0) 1 (.v 60) (some (.v 60))), .c (.int .i64 c)] 68, Blk.rows true IntKind.u32 q.2, .vec (encHd 6) gs 34, .own [.c (.int .i64 x.1), .c (.int .i64 x.2), .c (.int .i64 x.3), .c (.sli 7 (.c 0) 1 (.v gs.length) none), .c (.int .i64 x.4)] 70]))

 (.ret (.normal, [.int .u32 q.1, .sli 1 (.c 0) 1 (.v q.2.length) (some (.v q.3)), .ptr 5 0, .ptr 8 0, .int .i64 (↑n : Int), .int .i64 (s + (1 : Int))], [.ro encLook [PUnit.unit], .ro (encHd 2) hs, Blk.rows false IntKind.u32 q.2, .ro (encInt IntKind.u8) q.4, .own [.a (encInt IntKind.u32) 60 l] 22, .own [.c (.sli 4 (.c 0) 1 (.v 60) (some (.v 60))), .c (.int .i64 c)] 68, Blk.rows true IntKind.u32 q.2, .vec (encHd 6) gs 34, .own [.c (.int .i64 x.1), .c (.int .i64 x.2), .c (.int .i64 x.3), .c (.sli 7 (.c 0) 1 (.v gs.length) none), .c (.int .i64 x.4)] 70])))) := by kernel_rfl
set_option maxRecDepth 100000 in
theorem j_n {q : InW} {hs gs : List (Nat × Nat)} {l : List Int} {c : Int} {x : Wr} {n : Nat} {s : Int} : (execN cfgM 100 2 (restC 8 b4) (fr 180 jE (eE q n s)) (sM 60 q.acts q.xss hs gs l c x)).bind (canonK 9 [(0,0)] 180 jF) =
 

 (.br (decide ((1 : Int) ≤ (↑n : Int)))

 (.br (!decide ((↑n : Int) ≤ (32 : Int)))

 (.ret (.ret, [.int .u32 q.1, .sli 1 (.c 0) 1 (.v q.2.length) (some (.v q.3)), .ptr 5 0, .int .i64 (↑n : Int), .pnil], [.ro encLook [PUnit.unit], .ro (encHd 2) hs, Blk.rows false IntKind.u32 q.2, .ro (encInt IntKind.u8) q.4, .own [.a (encInt IntKind.u32) 60 l] 22, .own [.c (.sli 4 (.c 0) 1 (.v 60) (some (.v 60))), .c (.int .i64 c)] 68, Blk.rows true IntKind.u32 q.2, .vec (encHd 6) gs 34, .own [.c (.int .i64 x.1), .c (.int .i64 x.2), .c (.int .i64 x.3), .c (.sli 7 (.c 0) 1 (.v gs.length) none), .c (.int .i64 x.4)] 70]))

 (.need (inR .i64 (s + (1 : Int)))

 (.need (inR .i64 ((↑n : Int) + (2 : Int)))

 (.need (inR .i64 ((↑q.2.length : Int) * ((↑n : Int) + (2 : Int))))

 (.br (s + (1 : Int) != (↑q.2.length : Int) * ((↑n : Int) + (2 : Int)))

 (.ret (.ret, [.int .u32 q.1, .sli 1 (.c 0) 1 (.v q.2.length) (some (.v q.3)), .ptr 5 0, .int .i64 (↑n : Int), .ptr 9 0], [.ro encLook [PUnit.unit], .ro (encHd 2) hs, Blk.rows false IntKind.u32 q.2, .ro (encInt IntKind.u8) q.4, .own [.a (encInt IntKind.u32) 60 l] 22, .own [.c (.sli 4 (.c 0) 1 (.v 60) (some (.v 60))), .c (.int .i64 c)] 68, Blk.rows true IntKind.u32 q.2, .vec (encHd 6) gs 34, .own [.c (.int .i64 x.1), .c (.int .i64 x.2), .c (.int .i64 x.3), .c (.sli 7 (.c 0) 1 (.v gs.length) none), .c (.int .i64 x.4)] 70, .own [.c (.lit .i64 (3 : Int)), .c (.int .i64 (↑n : Int)), .c (.lit .i64 (0 : Int)), .c (.lit .i64 (0 : Int)), .c (.lit .u32 (0 : Int)), .c (.lit .u32 (0 : Int)), .c (.lit .u32 (0 : Int)), .c (.lit .u32 (0 : Int)), .c (.lit .u32 (0 : Int)), .c (.lit .u32 (0 : Int)), .c (.lit .u32 (0 : Int)), .c (.lit .u32 (0 : Int)), .c (.lit .u32 (0 : Int)), .c (.lit .u32 (0 : Int)), .c (.lit .u32 (0 : Int)), .c (.lit .u32 (0 : Int)), .c (.lit .u32 (0 : Int)), .c (.lit .u32 (0 : Int)), .c (.lit .u32 (0 : Int)), .c (.lit .u32 (0 : Int)), .c (.lit .u32 (0 : Int)), .c (.lit .u32 (0 : Int)), .c (.lit .u32 (0 : Int)), .c (.lit .u32 (0 : Int)), .c (.lit .u32 (0 : Int)), .c (.lit .u32 (0 : Int)), .c (.lit .u32 (0 : Int)), .c (.lit .u32 (0 : Int)), .c (.lit .u32 (0 : Int)), .c (.lit .u32 (0 : Int)), .c (.lit .u32 (0 : Int)), .c (.lit .u32 (0 : Int)), .c (.lit .u32 (0 : Int)), .c (.lit .u32 (0 : Int)), .c (.lit .u32 (0 : Int)), .c (.lit .u32 (0 : Int)), .c (.lit .u32 (0 : Int)), .c (.bl false), .c (.lit .i64 (0 : Int))] 73]))

 (.ret (.normal, [.int .u32 q.1, .sli 1 (.c 0) 1 (.v q.2.length) (some (.v q.3)), .ptr 5 0, .int .i64 (↑n : Int), .ptr 9 0], [.ro encLook [PUnit.unit], .ro (encHd 2) hs, Blk.rows false IntKind.u32 q.2, .ro (encInt IntKind.u8) q.4, .own [.a (encInt IntKind.u32) 60 l] 22, .own [.c (.sli 4 (.c 0) 1 (.v 60) (some (.v 60))), .c (.int .i64 c)] 68, Blk.rows true IntKind.u32 q.2, .vec (encHd 6) gs 34, .own [.c (.int .i64 x.1), .c (.int .i64 x.2), .c (.int .i64 x.3), .c (.sli 7 (.c 0) 1 (.v gs.length) none), .c (.int .i64 x.4)] 70, .own [.c (.lit .i64 (3 : Int)), .c (.int .i64 (↑n : Int)), .c (.lit .i64 (0 : Int)), .c (.lit .i64 (0 : Int)), .c (.lit .u32 (0 : Int)), .c (.lit .u32 (0 : Int)), .c (.lit .u32 (0 : Int)), .c (.lit .u32 (0 : Int)), .c (.lit .u32 (0 : Int)), .c (.lit .u32 (0 : Int)), .c (.lit .u32 (0 : Int)), .c (.lit .u32 (0 : Int)), .c (.lit .u32 (0 : Int)), .c (.lit .u32 (0 : Int)), .c (.lit .u32 (0 : Int)), .c (.lit .u32 (0 : Int)), .c (.lit .u32 (0 : Int)), .c (.lit .u32 (0 : Int)), .c (.lit .u32 (0 : Int)), .c (.lit .u32 (0 : Int)), .c (.lit .u32 (0 : Int)), .c (.lit .u32 (0 : Int)), .c (.lit .u32 (0 : Int)), .c (.lit .u32 (0 : Int)), .c (.lit .u32 (0 : Int)), .c (.lit .u32 (0 : Int)), .c (.lit .u32 (0 : Int)), .c (.lit .u32 (0 : Int)), .c (.lit .u32 (0 : Int)), .c (.lit .u32 (0 : Int)), .c (.lit .u32 (0 : Int)), .c (.lit .u32 (0 : Int)), .c (.lit .u32 (0 : Int)), .c (.lit .u32 (0 : Int)), .c (.lit .u32 (0 : Int)), .c (.lit .u32 (0 : Int)), .c (.lit .u32 (0 : Int)), .c (.bl false), .c (.lit .i64 (0 : Int))] 73])))))))

 (.ret (.ret, [.int .u32 q.1, .sli 1 (.c 0) 1 (.v q.2.length) (some (.v q.3)), .ptr 5 0, .int .i64 (↑n : Int), .pnil], [.ro encLook [PUnit.unit], .ro (encHd 2) hs, Blk.rows false IntKind.u32 q.2, .ro (encInt IntKind.u8) q.4, .own [.a (encInt IntKind.u32) 60 l] 22, .own [.c (.sli 4 (.c 0) 1 (.v 60) (some (.v 60))), .c (.int .i64 c)] 68, Blk.rows true IntKind.u32 q.2, .vec (encHd 6) gs 34, .own [.c (.int .i64 x.1), .c (.int .i64 x.2), .c (.int .i64 x.3), .c (.sli 7 (.c 0) 1 (.v gs.length) none), .c (.int .i64 x.4)] 70]))) := by kernel_rfl
set_option maxRecDepth 100000 in
theorem j_rg {q : InW} {hs gs : List (Nat × Nat)} {l : List Int} {c : Int} {x : Wr} {y : Rd} {n : Nat} : (exec cfgM 100 rreg4 (fr 180 jF (eF q n)) (sWq q hs gs l c x y)).bind (canonK 10 [(0,0)] 180 jG) =
 

 (.ret (.normal, [.int .u32 q.1, .sli 1 (.c 0) 1 (.v q.2.length) (some (.v q.3)), .ptr 5 0, .int .i64 (↑n : Int), .ptr 9 0, .lit .i64 (1 : Int)], [.ro encLook [PUnit.unit], .ro (encHd 2) hs, Blk.rows false IntKind.u32 q.2, .ro (encInt IntKind.u8) q.4, .own [.a (encInt IntKind.u32) 60 l] 22, .own [.c (.sli 4 (.c 0) 1 (.v 60) (some (.v 60))), .c (.int .i64 c)] 68, Blk.rows true IntKind.u32 q.2, .vec (encHd 6) gs 34, .own [.c (.int .i64 x.1), .c (.int .i64 x.2), .c (.int .i64 x.3), .c (.sli 7 (.c 0) 1 (.v gs.length) none), .c (.int .i64 x.4)] 70, .own [.c (.int .i64 y.1), .c (.int .i64 y.2), .c (.int .i64 y.3), .c (.int .i64 y.4), .c (.int .u32 y.5), .a (encInt IntKind.u32) 32 y.6, .c (.sb y.7), .c (.int .i64 y.8)] 73])) := by kernel_rfl
set_option maxRecDepth 100000 in
theorem j_rt {q : InW} {hs gs : List (Nat × Nat)} {l : List Int} {c : Int} {x : Wr} {y : Rd} {n : Nat} {k : Int} : (exec cfgM 100 rtm4 (fr 180 jG (eG q n k)) (sWq q hs gs l c x y)).bind (canonK 10 [(0,0)] 180 jG) =
 

 (.need (inR .i64 ((↑n : Int) + (2 : Int)))

 (.br (decide (k ≤ (↑n : Int) + (2 : Int)))

 (.ret (.normal, [.int .u32 q.1, .sli 1 (.c 0) 1 (.v q.2.length) (some (.v q.3)), .ptr 5 0, .int .i64 (↑n : Int), .ptr 9 0, .int .i64 k], [.ro encLook [PUnit.unit], .ro (encHd 2) hs, Blk.rows false IntKind.u32 q.2, .ro (encInt IntKind.u8) q.4, .own [.a (encInt IntKind.u32) 60 l] 22, .own [.c (.sli 4 (.c 0) 1 (.v 60) (some (.v 60))), .c (.int .i64 c)] 68, Blk.rows true IntKind.u32 q.2, .vec (encHd 6) gs 34, .own [.c (.int .i64 x.1), .c (.int .i64 x.2), .c (.int .i64 x.3), .c (.sli 7 (.c 0) 1 (.v gs.length) none), .c (.int .i64 x.4)] 70, .own [.c (.int .i64 y.1), .c (.int .i64 y.2), .c (.int .i64 y.3), .c (.int .i64 y.4), .c (.int .u32 y.5), .a (encInt IntKind.u32) 32 y.6, .c (.sb y.7), .c (.int .i64 y.8)] 73]))

 (.ret (.exit 2, [.int .u32 q.1, .sli 1 (.c 0) 1 (.v q.2.length) (some (.v q.3)), .ptr 5 0, .int .i64 (↑n : Int), .ptr 9 0, .int .i64 k], [.ro encLook [PUnit.unit], .ro (encHd 2) hs, Blk.rows false IntKind.u32 q.2, .ro (encInt IntKind.u8) q.4, .own [.a (encInt IntKind.u32) 60 l] 22, .own [.c (.sli 4 (.c 0) 1 (.v 60) (some (.v 60))), .c (.int .i64 c)] 68, Blk.rows true IntKind.u32 q.2, .vec (encHd 6) gs 34, .own [.c (.int .i64 x.1), .c (.int .i64 x.2), .c (.int .i64 x.3), .c (.sli 7 (.c 0) 1 (.v gs.length) none), .c (.int .i64 x.4)] 70, .own [.c (.int .i64 y.1), .c (.int .i64 y.2), .c (.int .i64 y.3), .c (.int .i64 y.4), .c (.int .u32 y.5), .a (encInt IntKind.u32) 32 y.6, .c (.sb y.7), .c (.int .i64 y.8)] 73])))) := by kernel_rfl
set_option maxRecDepth 100000 in
theorem j_rb {q : InW} {hs gs : List (Nat × Nat)} {l : List Int} {c : Int} {x : Wr} {y : Rd} {l1 : List Int} {c1 : Int} {x1 : Wr} {b1 : Bool} {c2 : Int} {y2 : Rd} {b2 : Bool} {P1 P2 : Prop} {n : Nat} {k : Int} : (exec (cfgSt q hs gs l c x y l1 c1 x1 b1 c2 y2 b2 P1 P2) 100 rbb4 (fr 180 jG (eG q n k)) (sWq q hs gs l c x y)).bind (canonK 10 [(0,0)] 180 jG) =
 

 (.eq ([SVal.ptr 9 0, .ptr 5 0] = [SVal.ptr 9 0, .ptr 5 0] ∧ [Blk.ro encLook [PUnit.unit], .ro (encHd 2) hs, Blk.rows false IntKind.u32 q.2, .ro (encInt IntKind.u8) q.4, .own [.a (encInt IntKind.u32) 60 l] 22, .own [.c (.sli 4 (.c 0) 1 (.v 60) (some (.v 60))), .c (.int .i64 c)] 68, Blk.rows true IntKind.u32 q.2, .vec (encHd 6) gs 34, .own [.c (.int .i64 x.1), .c (.int .i64 x.2), .c (.int .i64 x.3), .c (.sli 7 (.c 0) 1 (.v gs.length) none), .c (.int .i64 x.4)] 70, .own [.c (.int .i64 y.1), .c (.int .i64 y.2), .c (.int .i64 y.3), .c (.int .i64 y.4), .c (.int .u32 y.5), .a (encInt IntKind.u32) 32 y.6, .c (.sb y.7), .c (.int .i64 y.8)] 73] = [Blk.ro encLook [PUnit.unit], .ro (encHd 2) hs, Blk.rows false IntKind.u32 q.2, .ro (encInt IntKind.u8) q.4, .own [.a (encInt IntKind.u32) 60 l] 22, .own [.c (.sli 4 (.c 0) 1 (.v 60) (some (.v 60))), .c (.int .i64 c)] 68, Blk.rows true IntKind.u32 q.2, .vec (encHd 6) gs 34, .own [.c (.int .i64 x.1), .c (.int .i64 x.2), .c (.int .i64 x.3), .c (.sli 7 (.c 0) 1 (.v gs.length) none), .c (.int .i64 x.4)] 70, .own [.c (.int .i64 y.1), .c (.int .i64 y.2), .c (.int .i64 y.3), .c (.int .i64 y.4), .c (.int .u32 y.5), .a (encInt IntKind.u32) 32 y.6, .c (.sb y.7), .c (.int .i64 y.8)] 73] ∧ P2)

 (.need (inR .i64 ((↑n : Int) + (2 : Int)))

 (.br (!b2 == (k == (↑n : Int) + (2 : Int)))

 (.ret (.ret, [.int .u32 q.1, .sli 1 (.c 0) 1 (.v q.2.length) (some (.v q.3)), .ptr 5 0, .int .i64 (↑n : Int), .ptr 9 0, .int .i64 k], [.ro encLook [PUnit.unit], .ro (encHd 2) hs, Blk.rows false IntKind.u32 q.2, .ro (encInt IntKind.u8) q.4, .own [.a (encInt IntKind.u32) 60 l] 22, .own [.c (.sli 4 (.c 0) 1 (.v 60) (some (.v 60))), .c (.int .i64 c2)] 68, Blk.rows true IntKind.u32 q.2, .vec (encHd 6) gs 34, .own [.c (.int .i64 x.1), .c (.int .i64 x.2), .c (.int .i64 x.3), .c (.sli 7 (.c 0) 1 (.v gs.length) none), .c (.int .i64 x.4)] 70, .own [.c (.int .i64 y2.1), .c (.int .i64 y2.2), .c (.int .i64 y2.3), .c (.int .i64 y2.4), .c (.int .u32 y2.5), .a (encInt IntKind.u32) 32 y2.6, .c (.sb y2.7), .c (.int .i64 y2.8)] 73]))

 (.ret (.normal, [.int .u32 q.1, .sli 1 (.c 0) 1 (.v q.2.length) (some (.v q.3)), .ptr 5 0, .int .i64 (↑n : Int), .ptr 9 0, .int .i64 k], [.ro encLook [PUnit.unit], .ro (encHd 2) hs, Blk.rows false IntKind.u32 q.2, .ro (encInt IntKind.u8) q.4, .own [.a (encInt IntKind.u32) 60 l] 22, .own [.c (.sli 4 (.c 0) 1 (.v 60) (some (.v 60))), .c (.int .i64 c2)] 68, Blk.rows true IntKind.u32 q.2, .vec (encHd 6) gs 34, .own [.c (.int .i64 x.1), .c (.int .i64 x.2), .c (.int .i64 x.3), .c (.sli 7 (.c 0) 1 (.v gs.length) none), .c (.int .i64 x.4)] 70, .own [.c (.int .i64 y2.1), .c (.int .i64 y2.2), .c (.int .i64 y2.3), .c (.int .i64 y2.4), .c (.int .u32 y2.5), .a (encInt IntKind.u32) 32 y2.6, .c (.sb y2.7), .c (.int .i64 y2.8)] 73]))))) := by kernel_rfl
set_option maxRecDepth 100000 in
theorem j_ri {q : InW} {hs gs : List (Nat × Nat)} {l : List Int} {c : Int} {x : Wr} {y : Rd} {n : Nat} {k : Int} : (exec cfgM 100 rinc4 (fr 180 jG (eG q n k)) (sWq q hs gs l c x y)).bind (canonK 10 [(0,0)] 180 jG) =
 

 (.need (inR .i64 (k + (1 : Int)))

 (.ret (.normal, [.int .u32 q.1, .sli 1 (.c 0) 1 (.v q.2.length) (some (.v q.3)), .ptr 5 0, .int .i64 (↑n : Int), .ptr 9 0, .int .i64 (k + (1 : Int))], [.ro encLook [PUnit.unit], .ro (encHd 2) hs, Blk.rows false IntKind.u32 q.2, .ro (encInt IntKind.u8) q.4, .own [.a (encInt IntKind.u32) 60 l] 22, .own [.c (.sli 4 (.c 0) 1 (.v 60) (some (.v 60))), .c (.int .i64 c)] 68, Blk.rows true IntKind.u32 q.2, .vec (encHd 6) gs 34, .own [.c (.int .i64 x.1), .c (.int .i64 x.2), .c (.int .i64 x.3), .c (.sli 7 (.c 0) 1 (.v gs.length) none), .c (.int .i64 x.4)] 70, .own [.c (.int .i64 y.1), .c (.int .i64 y.2), .c (.int .i64 y.3), .c (.int .i64 y.4), .c (.int .u32 y.5), .a (encInt IntKind.u32) 32 y.6, .c (.sb y.7), .c (.int .i64 y.8)] 73]))) := by kernel_rfl
set_option maxRecDepth 100000 in
theorem j_h {q : InW} {hs gs : List (Nat × Nat)} {l : List Int} {c : Int} {x : Wr} {y : Rd} {n : Nat} : (execN cfgM 100 2 (restC 11 b4) (fr 180 jF (eF q n)) (sWq q hs gs l c x y)).bind (canonK 10 [(0,0)] 180 [0, 1, 13, 16, 17, 18, 19]) =
 

 (.br (!y.7)

 (.need (true)

 (.need (true)

 (.need (true)

 (.br (false)

 (.ret (.normal, [.int .u32 q.1, .sli 1 (.c 0) 1 (.v q.2.length) (some (.v q.3)), .ptr 9 0, .snil, .bl false, .lit .u32 (0 : Int), .lit .i64 (81 : Int)], [.ro encLook [PUnit.unit], .ro (encHd 2) hs, Blk.rows false IntKind.u32 q.2, .ro (encInt IntKind.u8) q.4, .own [.a (encInt IntKind.u32) 60 l] 22, .own [.c (.sli 4 (.c 0) 1 (.v 60) (some (.v 60))), .c (.int .i64 c)] 68, Blk.rows true IntKind.u32 q.2, .vec (encHd 6) gs 34, .own [.c (.int .i64 x.1), .c (.int .i64 x.2), .c (.int .i64 x.3), .c (.sli 7 (.c 0) 1 (.v gs.length) none), .c (.int .i64 x.4)] 70, .own [.c (.int .i64 y.1), .c (.int .i64 y.2), .c (.int .i64 y.3), .c (.int .i64 y.4), .c (.int .u32 y.5), .a (encInt IntKind.u32) 32 y.6, .c (.sb y.7), .c (.int .i64 y.8)] 73]))

 (.need (inR .i64 (c + (1 : Int)))

 (.need (true)

 (.need (true)

 (.need (true)

 (.need (true)

 (.ret (.normal, [.int .u32 q.1, .sli 1 (.c 0) 1 (.v q.2.length) (some (.v q.3)), .ptr 9 0, .snil, .bl false, .int .u32 (l.getD 3 (0 : Int)), .lit .i64 (0 : Int)], [.ro encLook [PUnit.unit], .ro (encHd 2) hs, Blk.rows false IntKind.u32 q.2, .ro (encInt IntKind.u8) q.4, .own [.a (encInt IntKind.u32) 60 l] 22, .own [.c (.sli 4 (.c 0) 1 (.v 60) (some (.v 60))), .c (.int .i64 (c + (1 : Int)))] 68, Blk.rows true IntKind.u32 q.2, .vec (encHd 6) gs 34, .own [.c (.int .i64 x.1), .c (.int .i64 x.2), .c (.int .i64 x.3), .c (.sli 7 (.c 0) 1 (.v gs.length) none), .c (.int .i64 x.4)] 70, .own [.c (.int .i64 y.1), .c (.int .i64 y.2), .c (.int .i64 y.3), .c (.int .i64 y.4), .c (.int .u32 y.5), .a (encInt IntKind.u32) 32 y.6, .c (.sb y.7), .c (.int .i64 y.8)] 73])))))))))))

 (.need (decide ((0 : Int) ≤ y.2) && decide (y.2.toNat ≤ 32))

 (.need (decide ((0 : Int) ≤ y.2) && decide (y.2.toNat ≤ y.2.toNat))

 (.need (decide (0 ≤ y.2.toNat))

 (.need (true)

 (.need (true)

 (.need (true)

 (.br (false)

 (.ret (.normal, [.int .u32 q.1, .sli 1 (.c 0) 1 (.v q.2.length) (some (.v q.3)), .ptr 9 0, .sli 10 (.c 0) 1 (.v y.2.toNat) (some (.v y.2.toNat)), .bl true, .lit .u32 (0 : Int), .lit .i64 (81 : Int)], [.ro encLook [PUnit.unit], .ro (encHd 2) hs, Blk.rows false IntKind.u32 q.2, .ro (encInt IntKind.u8) q.4, .own [.a (encInt IntKind.u32) 60 l] 22, .own [.c (.sli 4 (.c 0) 1 (.v 60) (some (.v 60))), .c (.int .i64 c)] 68, Blk.rows true IntKind.u32 q.2, .vec (encHd 6) gs 34, .own [.c (.int .i64 x.1), .c (.int .i64 x.2), .c (.int .i64 x.3), .c (.sli 7 (.c 0) 1 (.v gs.length) none), .c (.int .i64 x.4)] 70, .own [.c (.int .i64 y.1), .c (.int .i64 y.2), .c (.int .i64 y.3), .c (.int .i64 y.4), .c (.int .u32 y.5), .a (encInt IntKind.u32) 32 y.6, .c (.sb y.7), .c (.int .i64 y.8)] 73, .own [.c (.int .u32 (y.6.getD 0 (0 : Int))), .c (.int .u32 (y.6.getD 1 (0 : Int))), .c (.int .u32 (y.6.getD 2 (0 : Int))), .c (.int .u32 (y.6.getD 3 (0 : Int))), .c (.int .u32 (y.6.getD 4 (0 : Int))), .c (.int .u32 (y.6.getD 5 (0 : Int))), .c (.int .u32 (y.6.getD 6 (0 : Int))), .c (.int .u32 (y.6.getD 7 (0 : Int))), .c (.int .u32 (y.6.getD 8 (0 : Int))), .c (.int .u32 (y.6.getD 9 (0 : Int))), .c (.int .u32 (y.6.getD 10 (0 : Int))), .c (.int .u32 (y.6.getD 11 (0 : Int))), .c (.int .u32 (y.6.getD 12 (0 : Int))), .c (.int .u32 (y.6.getD 13 (0 : Int))), .c (.int .u32 (y.6.getD 14 (0 : Int))), .c (.int .u32 (y.6.getD 15 (0 : Int))), .c (.int .u32 (y.6.getD 16 (0 : Int))), .c (.int .u32 (y.6.getD 17 (0 : Int))), .c (.int .u32 (y.6.getD 18 (0 : Int))), .c (.int .u32 (y.6.getD 19 (0 : Int))), .c (.int .u32 (y.6.getD 20 (0 : Int))), .c (.int .u32 (y.6.getD 21 (0 : Int))), .c (.int .u32 (y.6.getD 22 (0 : Int))), .c (.int .u32 (y.6.getD 23 (0 : Int))), .c (.int .u32 (y.6.getD 24 (0 : Int))), .c (.int .u32 (y.6.getD 25 (0 : Int))), .c (.int .u32 (y.6.getD 26 (0 : Int))), .c (.int .u32 (y.6.getD 27 (0 : Int))), .c (.int .u32 (y.6.getD 28 (0 : Int))), .c (.int .u32 (y.6.getD 29 (0 : Int))), .c (.int .u32 (y.6.getD 30 (0 : Int))), .c (.int .u32 (y.6.getD 31 (0 : Int)))] 71]))

 (.need (inR .i64 (c + (1 : Int)))

 (.need (true)

 (.need (true)

 (.need (true)

 (.need (true)

 (.ret (.normal, [.int .u32 q.1, .sli 1 (.c 0) 1 (.v q.2.length) (some (.v q.3)), .ptr 9 0, .sli 10 (.c 0) 1 (.v y.2.toNat) (some (.v y.2.toNat)), .bl true, .int .u32 (l.getD 3 (0 : Int)), .lit .i64 (0 : Int)], [.ro encLook [PUnit.unit], .ro (encHd 2) hs, Blk.rows false IntKind.u32 q.2, .ro (encInt IntKind.u8) q.4, .own [.a (encInt IntKind.u32) 60 l] 22, .own [.c (.sli 4 (.c 0) 1 (.v 60) (some (.v 60))), .c (.int .i64 (c + (1 : Int)))] 68, Blk.rows true IntKind.u32 q.2, .vec (encHd 6) gs 34, .own [.c (.int .i64 x.1), .c (.int .i64 x.2), .c (.int .i64 x.3), .c (.sli 7 (.c 0) 1 (.v gs.length) none), .c (.int .i64 x.4)] 70, .own [.c (.int .i64 y.1), .c (.int .i64 y.2), .c (.int .i64 y.3), .c (.int .i64 y.4), .c (.int .u32 y.5), .a (encInt IntKind.u32) 32 y.6, .c (.sb y.7), .c (.int .i64 y.8)] 73, .own [.c (.int .u32 (y.6.getD 0 (0 : Int))), .c (.int .u32 (y.6.getD 1 (0 : Int))), .c (.int .u32 (y.6.getD 2 (0 : Int))), .c (.int .u32 (y.6.getD 3 (0 : Int))), .c (.int .u32 (y.6.getD 4 (0 : Int))), .c (.int .u32 (y.6.getD 5 (0 : Int))), .c (.int .u32 (y.6.getD 6 (0 : Int))), .c (.int .u32 (y.6.getD 7 (0 : Int))), .c (.int .u32 (y.6.getD 8 (0 : Int))), .c (.int .u32 (y.6.getD 9 (0 : Int))), .c (.int .u32 (y.6.getD 10 (0 : Int))), .c (.int .u32 (y.6.getD 11 (0 : Int))), .c (.int .u32 (y.6.getD 12 (0 : Int))), .c (.int .u32 (y.6.getD 13 (0 : Int))), .c (.int .u32 (y.6.getD 14 (0 : Int))), .c (.int .u32 (y.6.getD 15 (0 : Int))), .c (.int .u32 (y.6.getD 16 (0 : Int))), .c (.int .u32 (y.6.getD 17 (0 : Int))), .c (.int .u32 (y.6.getD 18 (0 : Int))), .c (.int .u32 (y.6.getD 19 (0 : Int))), .c (.int .u32 (y.6.getD 20 (0 : Int))), .c (.int .u32 (y.6.getD 21 (0 : Int))), .c (.int .u32 (y.6.getD 22 (0 : Int))), .c (.int .u32 (y.6.getD 23 (0 : Int))), .c (.int .u32 (y.6.getD 24 (0 : Int))), .c (.int .u32 (y.6.getD 25 (0 : Int))), .c (.int .u32 (y.6.getD 26 (0 : Int))), .c (.int .u32 (y.6.getD 27 (0 : Int))), .c (.int .u32 (y.6.getD 28 (0 : Int))), .c (.int .u32 (y.6.getD 29 (0 : Int))), .c (.int .u32 (y.6.getD 30 (0 : Int))), .c (.int .u32 (y.6.getD 31 (0 : Int)))] 71]))))))))))))))) := by kernel_rfl
set_option maxRecDepth 100000 in
theorem j_ap {q : InW} {hs gs : List (Nat × Nat)} {l B : List Int} {c : Int} {x : Wr} {y : Rd} {n : Nat} {wd : Int} : (execN cfgM 100 1 (restC 13 b4) (fr 180 jH0 (eH q n wd)) (sWg q hs gs l c x y B)).bind (canonK 11 [(0,0)] 180 jH) =
 

 (.need (decide (0 + n ≤ B.length))

 (.need (decide (0 + n ≤ B.length))

 (.need (roomy (List.take n (List.drop 0 B)).length 4)

 (.ret (.normal, [.int .u32 q.1, .sli 1 (.c 0) 1 (.v q.2.length) (some (.v q.3)), .ptr 9 0, .sli 10 (.c 0) 1 (.v n) (some (.v n)), .bl true, .int .u32 wd, .lit .i64 (0 : Int), .sli 11 (.c 0) 1 (.v (List.take n (List.drop 0 B)).length) none], [.ro encLook [PUnit.unit], .ro (encHd 2) hs, Blk.rows false IntKind.u32 q.2, .ro (encInt IntKind.u8) q.4, .own [.a (encInt IntKind.u32) 60 l] 22, .own [.c (.sli 4 (.c 0) 1 (.v 60) (some (.v 60))), .c (.int .i64 c)] 68, Blk.rows true IntKind.u32 q.2, .vec (encHd 6) gs 34, .own [.c (.int .i64 x.1), .c (.int .i64 x.2), .c (.int .i64 x.3), .c (.sli 7 (.c 0) 1 (.v gs.length) none), .c (.int .i64 x.4)] 70, .own [.c (.int .i64 y.1), .c (.int .i64 y.2), .c (.int .i64 y.3), .c (.int .i64 y.4), .c (.int .u32 y.5), .a (encInt IntKind.u32) 32 y.6, .c (.sb y.7), .c (.int .i64 y.8)] 73, .own [.a (encInt IntKind.u32) 32 B] 71, .vec (encInt IntKind.u32) (List.take n (List.drop 0 B)) 22]))))) := by kernel_rfl
set_option maxRecDepth 100000 in
theorem j_og {q : InW} {hs gs : List (Nat × Nat)} {l B A : List Int} {c : Int} {x : Wr} {y : Rd} {n : Nat} {wd : Int} : (exec cfgM 100 oreg4 (fr 180 jH (eI q n wd A.length)) (sWg q hs gs l c x y B ++ [.vec (encInt .u32) A 22])).bind (canonK 12 [(0,0)] 180 jO) =
 

 (.ret (.normal, [.int .u32 q.1, .sli 1 (.c 0) 1 (.v q.2.length) (some (.v q.3)), .ptr 9 0, .sli 10 (.c 0) 1 (.v n) (some (.v n)), .bl true, .int .u32 wd, .lit .i64 (0 : Int), .sli 11 (.c 0) 1 (.v A.length) none, .lit .i64 (0 : Int)], [.ro encLook [PUnit.unit], .ro (encHd 2) hs, Blk.rows false IntKind.u32 q.2, .ro (encInt IntKind.u8) q.4, .own [.a (encInt IntKind.u32) 60 l] 22, .own [.c (.sli 4 (.c 0) 1 (.v 60) (some (.v 60))), .c (.int .i64 c)] 68, Blk.rows true IntKind.u32 q.2, .vec (encHd 6) gs 34, .own [.c (.int .i64 x.1), .c (.int .i64 x.2), .c (.int .i64 x.3), .c (.sli 7 (.c 0) 1 (.v gs.length) none), .c (.int .i64 x.4)] 70, .own [.c (.int .i64 y.1), .c (.int .i64 y.2), .c (.int .i64 y.3), .c (.int .i64 y.4), .c (.int .u32 y.5), .a (encInt IntKind.u32) 32 y.6, .c (.sb y.7), .c (.int .i64 y.8)] 73, .own [.a (encInt IntKind.u32) 32 B] 71, .vec (encInt IntKind.u32) A 22])) := by kernel_rfl
set_option maxRecDepth 100000 in
theorem j_ot {q : InW} {hs gs : List (Nat × Nat)} {l B A : List Int} {c : Int} {x : Wr} {y : Rd} {n j : Nat} {wd : Int} : (exec cfgM 100 otm4 (fr 180 jO (eO q n wd A.length j)) (sWg q hs gs l c x y B ++ [.vec (encInt .u32) A 22])).bind (canonK 12 [(0,0)] 180 jO) =
 

 (.br (decide ((↑j : Int) < (↑n : Int)))

 (.ret (.normal, [.int .u32 q.1, .sli 1 (.c 0) 1 (.v q.2.length) (some (.v q.3)), .ptr 9 0, .sli 10 (.c 0) 1 (.v n) (some (.v n)), .bl true, .int .u32 wd, .lit .i64 (0 : Int), .sli 11 (.c 0) 1 (.v A.length) none, .int .i64 (↑j : Int)], [.ro encLook [PUnit.unit], .ro (encHd 2) hs, Blk.rows false IntKind.u32 q.2, .ro (encInt IntKind.u8) q.4, .own [.a (encInt IntKind.u32) 60 l] 22, .own [.c (.sli 4 (.c 0) 1 (.v 60) (some (.v 60))), .c (.int .i64 c)] 68, Blk.rows true IntKind.u32 q.2, .vec (encHd 6) gs 34, .own [.c (.int .i64 x.1), .c (.int .i64 x.2), .c (.int .i64 x.3), .c (.sli 7 (.c 0) 1 (.v gs.length) none), .c (.int .i64 x.4)] 70, .own [.c (.int .i64 y.1), .c (.int .i64 y.2), .c (.int .i64 y.3), .c (.int .i64 y.4), .c (.int .u32 y.5), .a (encInt IntKind.u32) 32 y.6, .c (.sb y.7), .c (.int .i64 y.8)] 73, .own [.a (encInt IntKind.u32) 32 B] 71, .vec (encInt IntKind.u32) A 22]))

 (.ret (.exit 4, [.int .u32 q.1, .sli 1 (.c 0) 1 (.v q.2.length) (some (.v q.3)), .ptr 9 0, .sli 10 (.c 0) 1 (.v n) (some (.v n)), .bl true, .int .u32 wd, .lit .i64 (0 : Int), .sli 11 (.c 0) 1 (.v A.length) none, .int .i64 (↑j : Int)], [.ro encLook [PUnit.unit], .ro (encHd 2) hs, Blk.rows false IntKind.u32 q.2, .ro (encInt IntKind.u8) q.4, .own [.a (encInt IntKind.u32) 60 l] 22, .own [.c (.sli 4 (.c 0) 1 (.v 60) (some (.v 60))), .c (.int .i64 c)] 68, Blk.rows true IntKind.u32 q.2, .vec (encHd 6) gs 34, .own [.c (.int .i64 x.1), .c (.int .i64 x.2), .c (.int .i64 x.3), .c (.sli 7 (.c 0) 1 (.v gs.length) none), .c (.int .i64 x.4)] 70, .own [.c (.int .i64 y.1), .c (.int .i64 y.2), .c (.int .i64 y.3), .c (.int .i64 y.4), .c (.int .u32 y.5), .a (encInt IntKind.u32) 32 y.6, .c (.sb y.7), .c (.int .i64 y.8)] 73, .own [.a (encInt IntKind.u32) 32 B] 71, .vec (encInt IntKind.u32) A 22]))) := by kernel_rfl
set_option maxRecDepth 100000 in
theorem j_ob {q : InW} {hs gs : List (Nat × Nat)} {l B A : List Int} {c : Int} {x : Wr} {y : Rd} {n j : Nat} {wd : Int} : (exec cfgM 100 obb4 (fr 180 jO (eO q n wd A.length j)) (sWg q hs gs l c x y B ++ [.vec (encInt .u32) A 22])).bind (canonK 12 [(0,0)] 180 jO) =
 

 (.need (decide ((0 : Int) ≤ (↑j : Int)) && decide ((↑j : Int).toNat < n))

 (.need (decide ((↑j : Int).toNat < 32))

 (.need (decide ((0 : Int) ≤ (↑j : Int)) && decide ((↑j : Int).toNat < n))

 (.need (decide ((↑j : Int).toNat < 32))

 (.ret (.normal, [.int .u32 q.1, .sli 1 (.c 0) 1 (.v q.2.length) (some (.v q.3)), .ptr 9 0, .sli 10 (.c 0) 1 (.v n) (some (.v n)), .bl true, .int .u32 wd, .lit .i64 (0 : Int), .sli 11 (.c 0) 1 (.v A.length) none, .int .i64 (↑j : Int)], [.ro encLook [PUnit.unit], .ro (encHd 2) hs, Blk.rows false IntKind.u32 q.2, .ro (encInt IntKind.u8) q.4, .own [.a (encInt IntKind.u32) 60 l] 22, .own [.c (.sli 4 (.c 0) 1 (.v 60) (some (.v 60))), .c (.int .i64 c)] 68, Blk.rows true IntKind.u32 q.2, .vec (encHd 6) gs 34, .own [.c (.int .i64 x.1), .c (.int .i64 x.2), .c (.int .i64 x.3), .c (.sli 7 (.c 0) 1 (.v gs.length) none), .c (.int .i64 x.4)] 70, .own [.c (.int .i64 y.1), .c (.int .i64 y.2), .c (.int .i64 y.3), .c (.int .i64 y.4), .c (.int .u32 y.5), .a (encInt IntKind.u32) 32 y.6, .c (.sb y.7), .c (.int .i64 y.8)] 73, .own [.a (encInt IntKind.u32) 32 (B.set (↑j : Int).toNat (IntKind.u32.wrap (B.getD (↑j : Int).toNat (0 : Int) + (1 : Int))))] 71, .vec (encInt IntKind.u32) A 22])))))) := by kernel_rfl
set_option maxRecDepth 100000 in
theorem j_oi {q : InW} {hs gs : List (Nat × Nat)} {l B A : List Int} {c : Int} {x : Wr} {y : Rd} {n j : Nat} {wd : Int} : (exec cfgM 100 oinc4 (fr 180 jO (eO q n wd A.length j)) (sWg q hs gs l c x y B ++ [.vec (encInt .u32) A 22])).bind (canonK 12 [(0,0)] 180 jO) =
 

 (.need (inR .i64 ((↑j : Int) + (1 : Int)))

 (.ret (.normal, [.int .u32 q.1, .sli 1 (.c 0) 1 (.v q.2.length) (some (.v q.3)), .ptr 9 0, .sli 10 (.c 0) 1 (.v n) (some (.v n)), .bl true, .int .u32 wd, .lit .i64 (0 : Int), .sli 11 (.c 0) 1 (.v A.length) none, .int .i64 ((↑j : Int) + (1 : Int))], [.ro encLook [PUnit.unit], .ro (encHd 2) hs, Blk.rows false IntKind.u32 q.2, .ro (encInt IntKind.u8) q.4, .own [.a (encInt IntKind.u32) 60 l] 22, .own [.c (.sli 4 (.c 0) 1 (.v 60) (some (.v 60))), .c (.int .i64 c)] 68, Blk.rows true IntKind.u32 q.2, .vec (encHd 6) gs 34, .own [.c (.int .i64 x.1), .c (.int .i64 x.2), .c (.int .i64 x.3), .c (.sli 7 (.c 0) 1 (.v gs.length) none), .c (.int .i64 x.4)] 70, .own [.c (.int .i64 y.1), .c (.int .i64 y.2), .c (.int .i64 y.3), .c (.int .i64 y.4), .c (.int .u32 y.5), .a (encInt IntKind.u32) 32 y.6, .c (.sb y.7), .c (.int .i64 y.8)] 73, .own [.a (encInt IntKind.u32) 32 B] 71, .vec (encInt IntKind.u32) A 22]))) := by kernel_rfl
set_option maxRecDepth 100000 in
theorem j_g2 {q : InW} {hs gs : List (Nat × Nat)} {l B A : List Int} {c : Int} {x : Wr} {y : Rd} {n : Nat} {wd : Int} : (execN cfgM 100 1 (restC 15 b4) (fr 180 jH (eI q n wd A.length)) (sWg q hs gs l c x y B ++ [.vec (encInt .u32) A 22])).bind (canonK 12 [(0,0)] 180 jL) =
 

 (.br (!y.7)

 (.ret (.normal, [.int .u32 q.1, .sli 1 (.c 0) 1 (.v q.2.length) (some (.v q.3)), .ptr 9 0, .bl true, .int .u32 wd, .lit .i64 (0 : Int), .sli 11 (.c 0) 1 (.v A.length) none, .snil], [.ro encLook [PUnit.unit], .ro (encHd 2) hs, Blk.rows false IntKind.u32 q.2, .ro (encInt IntKind.u8) q.4, .own [.a (encInt IntKind.u32) 60 l] 22, .own [.c (.sli 4 (.c 0) 1 (.v 60) (some (.v 60))), .c (.int .i64 c)] 68, Blk.rows true IntKind.u32 q.2, .vec (encHd 6) gs 34, .own [.c (.int .i64 x.1), .c (.int .i64 x.2), .c (.int .i64 x.3), .c (.sli 7 (.c 0) 1 (.v gs.length) none), .c (.int .i64 x.4)] 70, .own [.c (.int .i64 y.1), .c (.int .i64 y.2), .c (.int .i64 y.3), .c (.int .i64 y.4), .c (.int .u32 y.5), .a (encInt IntKind.u32) 32 y.6, .c (.sb y.7), .c (.int .i64 y.8)] 73, .own [.a (encInt IntKind.u32) 32 B] 71, .vec (encInt IntKind.u32) A 22]))

 (.need (decide ((0 : Int) ≤ y.2) && decide (y.2.toNat ≤ 32))

 (.need (decide ((0 : Int) ≤ y.2) && decide (y.2.toNat ≤ y.2.toNat))

 (.need (decide (0 ≤ y.2.toNat))

 (.ret (.normal, [.int .u32 q.1, .sli 1 (.c 0) 1 (.v q.2.length) (some (.v q.3)), .ptr 9 0, .bl true, .int .u32 wd, .lit .i64 (0 : Int), .sli 11 (.c 0) 1 (.v A.length) none, .sli 12 (.c 0) 1 (.v y.2.toNat) (some (.v y.2.toNat))], [.ro encLook [PUnit.unit], .ro (encHd 2) hs, Blk.rows false IntKind.u32 q.2, .ro (encInt IntKind.u8) q.4, .own [.a (encInt IntKind.u32) 60 l] 22, .own [.c (.sli 4 (.c 0) 1 (.v 60) (some (.v 60))), .c (.int .i64 c)] 68, Blk.rows true IntKind.u32 q.2, .vec (encHd 6) gs 34, .own [.c (.int .i64 x.1), .c (.int .i64 x.2), .c (.int .i64 x.3), .c (.sli 7 (.c 0) 1 (.v gs.length) none), .c (.int .i64 x.4)] 70, .own [.c (.int .i64 y.1), .c (.int .i64 y.2), .c (.int .i64 y.3), .c (.int .i64 y.4), .c (.int .u32 y.5), .a (encInt IntKind.u32) 32 y.6, .c (.sb y.7), .c (.int .i64 y.8)] 73, .own [.a (encInt IntKind.u32) 32 B] 71, .vec (encInt IntKind.u32) A 22, .own [.c (.int .u32 (y.6.getD 0 (0 : Int))), .c (.int .u32 (y.6.getD 1 (0 : Int))), .c (.int .u32 (y.6.getD 2 (0 : Int))), .c (.int .u32 (y.6.getD 3 (0 : Int))), .c (.int .u32 (y.6.getD 4 (0 : Int))), .c (.int .u32 (y.6.getD 5 (0 : Int))), .c (.int .u32 (y.6.getD 6 (0 : Int))), .c (.int .u32 (y.6.getD 7 (0 : Int))), .c (.int .u32 (y.6.getD 8 (0 : Int))), .c (.int .u32 (y.6.getD 9 (0 : Int))), .c (.int .u32 (y.6.getD 10 (0 : Int))), .c (.int .u32 (y.6.getD 11 (0 : Int))), .c (.int .u32 (y.6.getD 12 (0 : Int))), .c (.int .u32 (y.6.getD 13 (0 : Int))), .c (.int .u32 (y.6.getD 14 (0 : Int))), .c (.int .u32 (y.6.getD 15 (0 : Int))), .c (.int .u32 (y.6.getD 16 (0 : Int))), .c (.int .u32 (y.6.getD 17 (0 : Int))), .c (.int .u32 (y.6.getD 18 (0 : Int))), .c (.int .u32 (y.6.getD 19 (0 : Int))), .c (.int .u32 (y.6.getD 20 (0 : Int))), .c (.int .u32 (y.6.getD 21 (0 : Int))), .c (.int .u32 (y.6.getD 22 (0 : Int))), .c (.int .u32 (y.6.getD 23 (0 : Int))), .c (.int .u32 (y.6.getD 24 (0 : Int))), .c (.int .u32 (y.6.getD 25 (0 : Int))), .c (.int .u32 (y.6.getD 26 (0 : Int))), .c (.int .u32 (y.6.getD 27 (0 : Int))), .c (.int .u32 (y.6.getD 28 (0 : Int))), .c (.int .u32 (y.6.getD 29 (0 : Int))), .c (.int .u32 (y.6.getD 30 (0 : Int))), .c (.int .u32 (y.6.getD 31 (0 : Int)))] 71])))))) := by kernel_rfl
set_option maxRecDepth 100000 in
theorem j_e {q : InW} {hs gs : List (Nat × Nat)} {l : List Int} {c : Int} {x : Wr} {y : Rd} {B A B2 : List Int} {n i m : Nat} {wd : Int} {P1 P2 : Prop} : (exec (cfgS4 q hs gs l c x y B A B2 i m n P1 P2) 100 (restC 16 b4) (fr 180 jL (eL q n wd A.length)) (sF q hs gs l c x y B A B2)).bind (canonK 13 [(0,0)] 180 [6]) =
 

 (.need (inR .i64 ((↑q.2.length : Int) - (1 : Int)))

 (.need (decide ((0 : Int) ≤ (↑q.2.length : Int) - (1 : Int)) && decide (((↑q.2.length : Int) - (1 : Int)).toNat < q.2.length))

 (.need (decide (((↑q.2.length : Int) - (1 : Int)).toNat < hs.length))

 (.eq ([SVal.sli 11 (.c 0) 1 (.v A.length) none, SVal.slr 2 (hs.getD ((↑q.2.length : Int) - (1 : Int)).toNat (0, 0)).fst (hs.getD ((↑q.2.length : Int) - (1 : Int)).toNat (0, 0)).snd] = [SVal.sli 11 (.c 0) 1 (.v A.length) none, SVal.slr 2 i m] ∧ [Blk.ro encLook [PUnit.unit], .ro (encHd 2) hs, Blk.rows false IntKind.u32 q.2, .ro (encInt IntKind.u8) q.4, .own [.a (encInt IntKind.u32) 60 l] 22, .own [.c (.sli 4 (.c 0) 1 (.v 60) (some (.v 60))), .c (.int .i64 c)] 68, Blk.rows true IntKind.u32 q.2, .vec (encHd 6) gs 34, .own [.c (.int .i64 x.1), .c (.int .i64 x.2), .c (.int .i64 x.3), .c (.sli 7 (.c 0) 1 (.v gs.length) none), .c (.int .i64 x.4)] 70, .own [.c (.int .i64 y.1), .c (.int .i64 y.2), .c (.int .i64 y.3), .c (.int .i64 y.4), .c (.int .u32 y.5), .a (encInt IntKind.u32) 32 y.6, .c (.sb y.7), .c (.int .i64 y.8)] 73, .own [.a (encInt IntKind.u32) 32 B] 71, .vec (encInt IntKind.u32) A 22, .own [.a (encInt IntKind.u32) 32 B2] 71] = [Blk.ro encLook [PUnit.unit], .ro (encHd 2) hs, Blk.rows false IntKind.u32 q.2, .ro (encInt IntKind.u8) q.4, .own [.a (encInt IntKind.u32) 60 l] 22, .own [.c (.sli 4 (.c 0) 1 (.v 60) (some (.v 60))), .c (.int .i64 c)] 68, Blk.rows true IntKind.u32 q.2, .vec (encHd 6) gs 34, .own [.c (.int .i64 x.1), .c (.int .i64 x.2), .c (.int .i64 x.3), .c (.sli 7 (.c 0) 1 (.v gs.length) none), .c (.int .i64 x.4)] 70, .own [.c (.int .i64 y.1), .c (.int .i64 y.2), .c (.int .i64 y.3), .c (.int .i64 y.4), .c (.int .u32 y.5), .a (encInt IntKind.u32) 32 y.6, .c (.sb y.7), .c (.int .i64 y.8)] 73, .own [.a (encInt IntKind.u32) 32 B] 71, .vec (encInt IntKind.u32) A 22, .own [.a (encInt IntKind.u32) 32 B2] 71] ∧ P1)

 (.eq ([SVal.sli 12 (.c 0) 1 (.v n) (some (.v n)), .sli 11 (.c 0) 1 (.v A.length) none] = [SVal.sli 12 (.c 0) 1 (.v n) (some (.v n)), .sli 11 (.c 0) 1 (.v A.length) none] ∧ [Blk.ro encLook [PUnit.unit], .ro (encHd 2) hs, Blk.rows false IntKind.u32 q.2, .ro (encInt IntKind.u8) q.4, .own [.a (encInt IntKind.u32) 60 l] 22, .own [.c (.sli 4 (.c 0) 1 (.v 60) (some (.v 60))), .c (.int .i64 c)] 68, Blk.rows true IntKind.u32 q.2, .vec (encHd 6) gs 34, .own [.c (.int .i64 x.1), .c (.int .i64 x.2), .c (.int .i64 x.3), .c (.sli 7 (.c 0) 1 (.v gs.length) none), .c (.int .i64 x.4)] 70, .own [.c (.int .i64 y.1), .c (.int .i64 y.2), .c (.int .i64 y.3), .c (.int .i64 y.4), .c (.int .u32 y.5), .a (encInt IntKind.u32) 32 y.6, .c (.sb y.7), .c (.int .i64 y.8)] 73, .own [.a (encInt IntKind.u32) 32 B] 71, .vec (encInt IntKind.u32) A 22, .own [.a (encInt IntKind.u32) 32 B2] 71] = [Blk.ro encLook [PUnit.unit], .ro (encHd 2) hs, Blk.rows false IntKind.u32 q.2, .ro (encInt IntKind.u8) q.4, .own [.a (encInt IntKind.u32) 60 l] 22, .own [.c (.sli 4 (.c 0) 1 (.v 60) (some (.v 60))), .c (.int .i64 c)] 68, Blk.rows true IntKind.u32 q.2, .vec (encHd 6) gs 34, .own [.c (.int .i64 x.1), .c (.int .i64 x.2), .c (.int .i64 x.3), .c (.sli 7 (.c 0) 1 (.v gs.length) none), .c (.int .i64 x.4)] 70, .own [.c (.int .i64 y.1), .c (.int .i64 y.2), .c (.int .i64 y.3), .c (.int .i64 y.4), .c (.int .u32 y.5), .a (encInt IntKind.u32) 32 y.6, .c (.sb y.7), .c (.int .i64 y.8)] 73, .own [.a (encInt IntKind.u32) 32 B] 71, .vec (encInt IntKind.u32) A 22, .own [.a (encInt IntKind.u32) 32 B2] 71] ∧ P2)

 (.br (y.8 == (1 : Int))

 (.need (inR .i64 ((2 : Int) * (↑q.2.length : Int)))

 (.ret (.ret, [.sb (wd == IntKind.u32.wrap (bitop BinOp.andNot IntKind.u32 q.1 (1 : Int) + IntKind.u32.wrap ((2 : Int) * (↑q.2.length : Int))))], [.ro encLook [PUnit.unit], .ro (encHd 2) hs, Blk.rows false IntKind.u32 q.2, .ro (encInt IntKind.u8) q.4, .own [.a (encInt IntKind.u32) 60 l] 22, .own [.c (.sli 4 (.c 0) 1 (.v 60) (some (.v 60))), .c (.int .i64 c)] 68, Blk.rows true IntKind.u32 q.2, .vec (encHd 6) gs 34, .own [.c (.int .i64 x.1), .c (.int .i64 x.2), .c (.int .i64 x.3), .c (.sli 7 (.c 0) 1 (.v gs.length) none), .c (.int .i64 x.4)] 70, .own [.c (.int .i64 y.1), .c (.int .i64 y.2), .c (.int .i64 y.3), .c (.int .i64 y.4), .c (.int .u32 y.5), .a (encInt IntKind.u32) 32 y.6, .c (.sb y.7), .c (.int .i64 y.8)] 73, .own [.a (encInt IntKind.u32) 32 B] 71, .vec (encInt IntKind.u32) A 22, .own [.a (encInt IntKind.u32) 32 B2] 71])))

 (.ret (.ret, [.bl false], [.ro encLook [PUnit.unit], .ro (encHd 2) hs, Blk.rows false IntKind.u32 q.2, .ro (encInt IntKind.u8) q.4, .own [.a (encInt IntKind.u32) 60 l] 22, .own [.c (.sli 4 (.c 0) 1 (.v 60) (some (.v 60))), .c (.int .i64 c)] 68, Blk.rows true IntKind.u32 q.2, .vec (encHd 6) gs 34, .own [.c (.int .i64 x.1), .c (.int .i64 x.2), .c (.int .i64 x.3), .c (.sli 7 (.c 0) 1 (.v gs.length) none), .c (.int .i64 x.4)] 70, .own [.c (.int .i64 y.1), .c (.int .i64 y.2), .c (.int .i64 y.3), .c (.int .i64 y.4), .c (.int .u32 y.5), .a (encInt IntKind.u32) 32 y.6, .c (.sb y.7), .c (.int .i64 y.8)] 73, .own [.a (encInt IntKind.u32) 32 B] 71, .vec (encInt IntKind.u32) A 22, .own [.a (encInt IntKind.u32) 32 B2] 71])))))))) := by kernel_rfl
end Go.Proofs.YtmknmbacecjfmaaDoor

namespace Go.Proofs.YtmknmbacecjfmaaDoor
open Go Go.Proofs.YtmknmbacecjfmaaDoor.Sx
set_option linter.unusedVariables false
set_option maxRecDepth 100000 in
theorem sv_pre {q : InW} {hs gs : List (Nat × Nat)} {l : List Int} {c : Int} {x : Wr} {y : Rd} {B A B2 : List Int} {i m : Nat} : (execN cfgM 100 2 b21 (aV A i m ++ List.replicate 24 .bad) (sF q hs gs l c x y B A B2)).bind (canonK 13 [(0,0)] 26 [4, 0, 1]) =
 

 (.br ((↑A.length : Int) != (↑m : Int))

 (.ret (.ret, [.bl false, .sli 11 (.c 0) 1 (.v A.length) none, SVal.slr 2 i m], [.ro encLook [PUnit.unit], .ro (encHd 2) hs, Blk.rows false IntKind.u32 q.2, .ro (encInt IntKind.u8) q.4, .own [.a (encInt IntKind.u32) 60 l] 22, .own [.c (.sli 4 (.c 0) 1 (.v 60) (some (.v 60))), .c (.int .i64 c)] 68, Blk.rows true IntKind.u32 q.2, .vec (encHd 6) gs 34, .own [.c (.int .i64 x.1), .c (.int .i64 x.2), .c (.int .i64 x.3), .c (.sli 7 (.c 0) 1 (.v gs.length) none), .c (.int .i64 x.4)] 70, .own [.c (.int .i64 y.1), .c (.int .i64 y.2), .c (.int .i64 y.3), .c (.int .i64 y.4), .c (.int .u32 y.5), .a (encInt IntKind.u32) 32 y.6, .c (.sb y.7), .c (.int .i64 y.8)] 73, .own [.a (encInt IntKind.u32) 32 B] 71, .vec (encInt IntKind.u32) A 22, .own [.a (encInt IntKind.u32) 32 B2] 71]))

 (.ret (.normal, [.bl false, .sli 11 (.c 0) 1 (.v A.length) none, SVal.slr 2 i m], [.ro encLook [PUnit.unit], .ro (encHd 2) hs, Blk.rows false IntKind.u32 q.2, .ro (encInt IntKind.u8) q.4, .own [.a (encInt IntKind.u32) 60 l] 22, .own [.c (.sli 4 (.c 0) 1 (.v 60) (some (.v 60))), .c (.int .i64 c)] 68, Blk.rows true IntKind.u32 q.2, .vec (encHd 6) gs 34, .own [.c (.int .i64 x.1), .c (.int .i64 x.2), .c (.int .i64 x.3), .c (.sli 7 (.c 0) 1 (.v gs.length) none), .c (.int .i64 x.4)] 70, .own [.c (.int .i64 y.1), .c (.int .i64 y.2), .c (.int .i64 y.3), .c (.int .i64 y.4), .c (.int .u32 y.5), .a (encInt IntKind.u32) 32 y.6, .c (.sb y.7), .c (.int .i64 y.8)] 73, .own [.a (encInt IntKind.u32) 32 B] 71, .vec (encInt IntKind.u32) A 22, .own [.a (encInt IntKind.u32) 32 B2] 71]))) := by kernel_rfl
set_option maxRecDepth 100000 in
theorem sv_reg {q : InW} {hs gs : List (Nat × Nat)} {l : List Int} {c : Int} {x : Wr} {y : Rd} {B A B2 : List Int} {i m : Nat} : (exec cfgM 100 reg21 (fr 26 [0, 1] (aV A i m)) (sF q hs gs l c x y B A B2)).bind (canonK 13 [(0,0)] 26 [0, 1, 5]) =
 

 (.ret (.normal, [.sli 11 (.c 0) 1 (.v A.length) none, SVal.slr 2 i m, .lit .i64 (0 : Int)], [.ro encLook [PUnit.unit], .ro (encHd 2) hs, Blk.rows false IntKind.u32 q.2, .ro (encInt IntKind.u8) q.4, .own [.a (encInt IntKind.u32) 60 l] 22, .own [.c (.sli 4 (.c 0) 1 (.v 60) (some (.v 60))), .c (.int .i64 c)] 68, Blk.rows true IntKind.u32 q.2, .vec (encHd 6) gs 34, .own [.c (.int .i64 x.1), .c (.int .i64 x.2), .c (.int .i64 x.3), .c (.sli 7 (.c 0) 1 (.v gs.length) none), .c (.int .i64 x.4)] 70, .own [.c (.int .i64 y.1), .c (.int .i64 y.2), .c (.int .i64 y.3), .c (.int .i64 y.4), .c (.int .u32 y.5), .a (encInt IntKind.u32) 32 y.6, .c (.sb y.7), .c (.int .i64 y.8)] 73, .own [.a (encInt IntKind.u32) 32 B] 71, .vec (encInt IntKind.u32) A 22, .own [.a (encInt IntKind.u32) 32 B2] 71])) := by kernel_rfl
set_option maxRecDepth 100000 in
theorem sv_tm {q : InW} {hs gs : List (Nat × Nat)} {l : List Int} {c : Int} {x : Wr} {y : Rd} {B A B2 : List Int} {i m j : Nat} : (exec cfgM 100 tm21 (fr 26 [0, 1, 5] (aV A i m ++ [.int .i64 (j : Nat)])) (sF q hs gs l c x y B A B2)).bind (canonK 13 [(0,0)] 26 [0, 1, 5]) =
 

 (.br (decide ((↑j : Int) < (↑A.length : Int)))

 (.ret (.normal, [.sli 11 (.c 0) 1 (.v A.length) none, SVal.slr 2 i m, .int .i64 (↑j : Int)], [.ro encLook [PUnit.unit], .ro (encHd 2) hs, Blk.rows false IntKind.u32 q.2, .ro (encInt IntKind.u8) q.4, .own [.a (encInt IntKind.u32) 60 l] 22, .own [.c (.sli 4 (.c 0) 1 (.v 60) (some (.v 60))), .c (.int .i64 c)] 68, Blk.rows true IntKind.u32 q.2, .vec (encHd 6) gs 34, .own [.c (.int .i64 x.1), .c (.int .i64 x.2), .c (.int .i64 x.3), .c (.sli 7 (.c 0) 1 (.v gs.length) none), .c (.int .i64 x.4)] 70, .own [.c (.int .i64 y.1), .c (.int .i64 y.2), .c (.int .i64 y.3), .c (.int .i64 y.4), .c (.int .u32 y.5), .a (encInt IntKind.u32) 32 y.6, .c (.sb y.7), .c (.int .i64 y.8)] 73, .own [.a (encInt IntKind.u32) 32 B] 71, .vec (encInt IntKind.u32) A 22, .own [.a (encInt IntKind.u32) 32 B2] 71]))

 (.ret (.exit 0, [.sli 11 (.c 0) 1 (.v A.length) none, SVal.slr 2 i m, .int .i64 (↑j : Int)], [.ro encLook [PUnit.unit], .ro (encHd 2) hs, Blk.rows false IntKind.u32 q.2, .ro (encInt IntKind.u8) q.4, .own [.a (encInt IntKind.u32) 60 l] 22, .own [.c (.sli 4 (.c 0) 1 (.v 60) (some (.v 60))), .c (.int .i64 c)] 68, Blk.rows true IntKind.u32 q.2, .vec (encHd 6) gs 34, .own [.c (.int .i64 x.1), .c (.int .i64 x.2), .c (.int .i64 x.3), .c (.sli 7 (.c 0) 1 (.v gs.length) none), .c (.int .i64 x.4)] 70, .own [.c (.int .i64 y.1), .c (.int .i64 y.2), .c (.int .i64 y.3), .c (.int .i64 y.4), .c (.int .u32 y.5), .a (encInt IntKind.u32) 32 y.6, .c (.sb y.7), .c (.int .i64 y.8)] 73, .own [.a (encInt IntKind.u32) 32 B] 71, .vec (encInt IntKind.u32) A 22, .own [.a (encInt IntKind.u32) 32 B2] 71]))) := by kernel_rfl
set_option maxRecDepth 100000 in
theorem sv_bb {q : InW} {hs gs : List (Nat × Nat)} {l : List Int} {c : Int} {x : Wr} {y : Rd} {B A B2 : List Int} {i m j : Nat} : (exec cfgM 100 bb21 (fr 26 [0, 1, 5] (aV A i m ++ [.int .i64 (j : Nat)])) (sF q hs gs l c x y B A B2)).bind (canonK 13 [(0,0)] 26 [4, 0, 1, 5]) =
 

 (.need (decide ((0 : Int) ≤ (↑j : Int)) && decide ((↑j : Int).toNat < A.length))

 (.need (decide ((↑j : Int).toNat < A.length))

 (.need (decide ((0 : Int) ≤ (↑j : Int)) && decide ((↑j : Int).toNat < m))

 (.need (decide (i < q.2.length) && decide ((↑j : Int).toNat < (q.2.getD i []).length))

 (.br (A.getD (↑j : Int).toNat (0 : Int) != (q.2.getD i []).getD (↑j : Int).toNat (0 : Int))

 (.ret (.ret, [.bl false, .sli 11 (.c 0) 1 (.v A.length) none, SVal.slr 2 i m, .int .i64 (↑j : Int)], [.ro encLook [PUnit.unit], .ro (encHd 2) hs, Blk.rows false IntKind.u32 q.2, .ro (encInt IntKind.u8) q.4, .own [.a (encInt IntKind.u32) 60 l] 22, .own [.c (.sli 4 (.c 0) 1 (.v 60) (some (.v 60))), .c (.int .i64 c)] 68, Blk.rows true IntKind.u32 q.2, .vec (encHd 6) gs 34, .own [.c (.int .i64 x.1), .c (.int .i64 x.2), .c (.int .i64 x.3), .c (.sli 7 (.c 0) 1 (.v gs.length) none), .c (.int .i64 x.4)] 70, .own [.c (.int .i64 y.1), .c (.int .i64 y.2), .c (.int .i64 y.3), .c (.int .i64 y.4), .c (.int .u32 y.5), .a (encInt IntKind.u32) 32 y.6, .c (.sb y.7), .c (.int .i64 y.8)] 73, .own [.a (encInt IntKind.u32) 32 B] 71, .vec (encInt IntKind.u32) A 22, .own [.a (encInt IntKind.u32) 32 B2] 71]))

 (.ret (.normal, [.bad, .sli 11 (.c 0) 1 (.v A.length) none, SVal.slr 2 i m, .int .i64 (↑j : Int)], [.ro encLook [PUnit.unit], .ro (encHd 2) hs, Blk.rows false IntKind.u32 q.2, .ro (encInt IntKind.u8) q.4, .own [.a (encInt IntKind.u32) 60 l] 22, .own [.c (.sli 4 (.c 0) 1 (.v 60) (some (.v 60))), .c (.int .i64 c)] 68, Blk.rows true IntKind.u32 q.2, .vec (encHd 6) gs 34, .own [.c (.int .i64 x.1), .c (.int .i64 x.2), .c (.int .i64 x.3), .c (.sli 7 (.c 0) 1 (.v gs.length) none), .c (.int .i64 x.4)] 70, .own [.c (.int .i64 y.1), .c (.int .i64 y.2), .c (.int .i64 y.3), .c (.int .i64 y.4), .c (.int .u32 y.5), .a (encInt IntKind.u32) 32 y.6, .c (.sb y.7), .c (.int .i64 y.8)] 73, .own [.a (encInt IntKind.u32) 32 B] 71, .vec (encInt IntKind.u32) A 22, .own [.a (encInt IntKind.u32) 32 B2] 71]))))))) := by kernel_rfl
set_option maxRecDepth 100000 in
theorem sv_inc {q : InW} {hs gs : List (Nat × Nat)} {l : List Int} {c : Int} {x : Wr} {y : Rd} {B A B2 : List Int} {i m j : Nat} : (exec cfgM 100 inc21 (fr 26 [0, 1, 5] (aV A i m ++ [.int .i64 (j : Nat)])) (sF q hs gs l c x y B A B2)).bind (canonK 13 [(0,0)] 26 [0, 1, 5]) =
 

 (.need (inR .i64 ((↑j : Int) + (1 : Int)))

 (.ret (.normal, [.sli 11 (.c 0) 1 (.v A.length) none, SVal.slr 2 i m, .int .i64 ((↑j : Int) + (1 : Int))], [.ro encLook [PUnit.unit], .ro (encHd 2) hs, Blk.rows false IntKind.u32 q.2, .ro (encInt IntKind.u8) q.4, .own [.a (encInt IntKind.u32) 60 l] 22, .own [.c (.sli 4 (.c 0) 1 (.v 60) (some (.v 60))), .c (.int .i64 c)] 68, Blk.rows true IntKind.u32 q.2, .vec (encHd 6) gs 34, .own [.c (.int .i64 x.1), .c (.int .i64 x.2), .c (.int .i64 x.3), .c (.sli 7 (.c 0) 1 (.v gs.length) none), .c (.int .i64 x.4)] 70, .own [.c (.int .i64 y.1), .c (.int .i64 y.2), .c (.int .i64 y.3), .c (.int .i64 y.4), .c (.int .u32 y.5), .a (encInt IntKind.u32) 32 y.6, .c (.sb y.7), .c (.int .i64 y.8)] 73, .own [.a (encInt IntKind.u32) 32 B] 71, .vec (encInt IntKind.u32) A 22, .own [.a (encInt IntKind.u32) 32 B2] 71]))) := by kernel_rfl
set_option maxRecDepth 100000 in
theorem sv_end {q : InW} {hs gs : List (Nat × Nat)} {l : List Int} {c : Int} {x : Wr} {y : Rd} {B A B2 : List Int} {i m j : Nat} : (exec cfgM 100 end21 (fr 26 [0, 1, 5] (aV A i m ++ [.int .i64 (j : Nat)])) (sF q hs gs l c x y B A B2)).bind (canonK 13 [(0,0)] 26 [4]) =
 

 (.ret (.ret, [.bl true], [.ro encLook [PUnit.unit], .ro (encHd 2) hs, Blk.rows false IntKind.u32 q.2, .ro (encInt IntKind.u8) q.4, .own [.a (encInt IntKind.u32) 60 l] 22, .own [.c (.sli 4 (.c 0) 1 (.v 60) (some (.v 60))), .c (.int .i64 c)] 68, Blk.rows true IntKind.u32 q.2, .vec (encHd 6) gs 34, .own [.c (.int .i64 x.1), .c (.int .i64 x.2), .c (.int .i64 x.3), .c (.sli 7 (.c 0) 1 (.v gs.length) none), .c (.int .i64 x.4)] 70, .own [.c (.int .i64 y.1), .c (.int .i64 y.2), .c (.int .i64 y.3), .c (.int .i64 y.4), .c (.int .u32 y.5), .a (encInt IntKind.u32) 32 y.6, .c (.sb y.7), .c (.int .i64 y.8)] 73, .own [.a (encInt IntKind.u32) 32 B] 71, .vec (encInt IntKind.u32) A 22, .own [.a (encInt IntKind.u32) 32 B2] 71])) := by kernel_rfl
set_option maxRecDepth 100000 in
theorem so_pre {q : InW} {hs gs : List (Nat × Nat)} {l : List Int} {c : Int} {x : Wr} {y : Rd} {B A B2 : List Int} {n : Nat} : (execN cfgM 100 2 b21 (aO A n ++ List.replicate 24 .bad) (sF q hs gs l c x y B A B2)).bind (canonK 13 [(0,0)] 26 [4, 0, 1]) =
 

 (.br ((↑n : Int) != (↑A.length : Int))

 (.ret (.ret, [.bl false, .sli 12 (.c 0) 1 (.v n) (some (.v n)), .sli 11 (.c 0) 1 (.v A.length) none], [.ro encLook [PUnit.unit], .ro (encHd 2) hs, Blk.rows false IntKind.u32 q.2, .ro (encInt IntKind.u8) q.4, .own [.a (encInt IntKind.u32) 60 l] 22, .own [.c (.sli 4 (.c 0) 1 (.v 60) (some (.v 60))), .c (.int .i64 c)] 68, Blk.rows true IntKind.u32 q.2, .vec (encHd 6) gs 34, .own [.c (.int .i64 x.1), .c (.int .i64 x.2), .c (.int .i64 x.3), .c (.sli 7 (.c 0) 1 (.v gs.length) none), .c (.int .i64 x.4)] 70, .own [.c (.int .i64 y.1), .c (.int .i64 y.2), .c (.int .i64 y.3), .c (.int .i64 y.4), .c (.int .u32 y.5), .a (encInt IntKind.u32) 32 y.6, .c (.sb y.7), .c (.int .i64 y.8)] 73, .own [.a (encInt IntKind.u32) 32 B] 71, .vec (encInt IntKind.u32) A 22, .own [.a (encInt IntKind.u32) 32 B2] 71]))

 (.ret (.normal, [.bl false, .sli 12 (.c 0) 1 (.v n) (some (.v n)), .sli 11 (.c 0) 1 (.v A.length) none], [.ro encLook [PUnit.unit], .ro (encHd 2) hs, Blk.rows false IntKind.u32 q.2, .ro (encInt IntKind.u8) q.4, .own [.a (encInt IntKind.u32) 60 l] 22, .own [.c (.sli 4 (.c 0) 1 (.v 60) (some (.v 60))), .c (.int .i64 c)] 68, Blk.rows true IntKind.u32 q.2, .vec (encHd 6) gs 34, .own [.c (.int .i64 x.1), .c (.int .i64 x.2), .c (.int .i64 x.3), .c (.sli 7 (.c 0) 1 (.v gs.length) none), .c (.int .i64 x.4)] 70, .own [.c (.int .i64 y.1), .c (.int .i64 y.2), .c (.int .i64 y.3), .c (.int .i64 y.4), .c (.int .u32 y.5), .a (encInt IntKind.u32) 32 y.6, .c (.sb y.7), .c (.int .i64 y.8)] 73, .own [.a (encInt IntKind.u32) 32 B] 71, .vec (encInt IntKind.u32) A 22, .own [.a (encInt IntKind.u32) 32 B2] 71]))) := by kernel_rfl
set_option maxRecDepth 100000 in
theorem so_reg {q : InW} {hs gs : List (Nat × Nat)} {l : List Int} {c : Int} {x : Wr} {y : Rd} {B A B2 : List Int} {n : Nat} : (exec cfgM 100 reg21 (fr 26 [0, 1] (aO A n)) (sF q hs gs l c x y B A B2)).bind (canonK 13 [(0,0)] 26 [0, 1, 5]) =
 

 (.ret (.normal, [.sli 12 (.c 0) 1 (.v n) (some (.v n)), .sli 11 (.c 0) 1 (.v A.length) none, .lit .i64 (0 : Int)], [.ro encLook [PUnit.unit], .ro (encHd 2) hs, Blk.rows false IntKind.u32 q.2, .ro (encInt IntKind.u8) q.4, .own [.a (encInt IntKind.u32) 60 l] 22, .own [.c (.sli 4 (.c 0) 1 (.v 60) (some (.v 60))), .c (.int .i64 c)] 68, Blk.rows true IntKind.u32 q.2, .vec (encHd 6) gs 34, .own [.c (.int .i64 x.1), .c (.int .i64 x.2), .c (.int .i64 x.3), .c (.sli 7 (.c 0) 1 (.v gs.length) none), .c (.int .i64 x.4)] 70, .own [.c (.int .i64 y.1), .c (.int .i64 y.2), .c (.int .i64 y.3), .c (.int .i64 y.4), .c (.int .u32 y.5), .a (encInt IntKind.u32) 32 y.6, .c (.sb y.7), .c (.int .i64 y.8)] 73, .own [.a (encInt IntKind.u32) 32 B] 71, .vec (encInt IntKind.u32) A 22, .own [.a (encInt IntKind.u32) 32 B2] 71])) := by kernel_rfl
set_option maxRecDepth 100000 in
theorem so_tm {q : InW} {hs gs : List (Nat × Nat)} {l : List Int} {c : Int} {x : Wr} {y : Rd} {B A B2 : List Int} {n j : Nat} : (exec cfgM 100 tm21 (fr 26 [0, 1, 5] (aO A n ++ [.int .i64 (j : Nat)])) (sF q hs gs l c x y B A B2)).bind (canonK 13 [(0,0)] 26 [0, 1, 5]) =
 

 (.br (decide ((↑j : Int) < (↑n : Int)))

 (.ret (.normal, [.sli 12 (.c 0) 1 (.v n) (some (.v n)), .sli 11 (.c 0) 1 (.v A.length) none, .int .i64 (↑j : Int)], [.ro encLook [PUnit.unit], .ro (encHd 2) hs, Blk.rows false IntKind.u32 q.2, .ro (encInt IntKind.u8) q.4, .own [.a (encInt IntKind.u32) 60 l] 22, .own [.c (.sli 4 (.c 0) 1 (.v 60) (some (.v 60))), .c (.int .i64 c)] 68, Blk.rows true IntKind.u32 q.2, .vec (encHd 6) gs 34, .own [.c (.int .i64 x.1), .c (.int .i64 x.2), .c (.int .i64 x.3), .c (.sli 7 (.c 0) 1 (.v gs.length) none), .c (.int .i64 x.4)] 70, .own [.c (.int .i64 y.1), .c (.int .i64 y.2), .c (.int .i64 y.3), .c (.int .i64 y.4), .c (.int .u32 y.5), .a (encInt IntKind.u32) 32 y.6, .c (.sb y.7), .c (.int .i64 y.8)] 73, .own [.a (encInt IntKind.u32) 32 B] 71, .vec (encInt IntKind.u32) A 22, .own [.a (encInt IntKind.u32) 32 B2] 71]))

 (.ret (.exit 0, [.sli 12 (.c 0) 1 (.v n) (some (.v n)), .sli 11 (.c 0) 1 (.v A.length) none, .int .i64 (↑j : Int)], [.ro encLook [PUnit.unit], .ro (encHd 2) hs, Blk.rows false IntKind.u32 q.2, .ro (encInt IntKind.u8) q.4, .own [.a (encInt IntKind.u32) 60 l] 22, .own [.c (.sli 4 (.c 0) 1 (.v 60) (some (.v 60))), .c (.int .i64 c)] 68, Blk.rows true IntKind.u32 q.2, .vec (encHd 6) gs 34, .own [.c (.int .i64 x.1), .c (.int .i64 x.2), .c (.int .i64 x.3), .c (.sli 7 (.c 0) 1 (.v gs.length) none), .c (.int .i64 x.4)] 70, .own [.c (.int .i64 y.1), .c (.int .i64 y.2), .c (.int .i64 y.3), .c (.int .i64 y.4), .c (.int .u32 y.5), .a (encInt IntKind.u32) 32 y.6, .c (.sb y.7), .c (.int .i64 y.8)] 73, .own [.a (encInt IntKind.u32) 32 B] 71, .vec (encInt IntKind.u32) A 22, .own [.a (encInt IntKind.u32) 32 B2] 71]))) := by kernel_rfl
set_option maxRecDepth 100000 in
theorem so_bb {q : InW} {hs gs : List (Nat × Nat)} {l : List Int} {c : Int} {x : Wr} {y : Rd} {B A B2 : List Int} {n j : Nat} : (exec cfgM 100 bb21 (fr 26 [0, 1, 5] (aO A n ++ [.int .i64 (j : Nat)])) (sF q hs gs l c x y B A B2)).bind (canonK 13 [(0,0)] 26 [4, 0, 1, 5]) =
 

 (.need (decide ((0 : Int) ≤ (↑j : Int)) && decide ((↑j : Int).toNat < n))

 (.need (decide ((↑j : Int).toNat < 32))

 (.need (decide ((0 : Int) ≤ (↑j : Int)) && decide ((↑j : Int).toNat < A.length))

 (.need (decide ((↑j : Int).toNat < A.length))

 (.br (B2.getD (↑j : Int).toNat (0 : Int) != A.getD (↑j : Int).toNat (0 : Int))

 (.ret (.ret, [.bl false, .sli 12 (.c 0) 1 (.v n) (some (.v n)), .sli 11 (.c 0) 1 (.v A.length) none, .int .i64 (↑j : Int)], [.ro encLook [PUnit.unit], .ro (encHd 2) hs, Blk.rows false IntKind.u32 q.2, .ro (encInt IntKind.u8) q.4, .own [.a (encInt IntKind.u32) 60 l] 22, .own [.c (.sli 4 (.c 0) 1 (.v 60) (some (.v 60))), .c (.int .i64 c)] 68, Blk.rows true IntKind.u32 q.2, .vec (encHd 6) gs 34, .own [.c (.int .i64 x.1), .c (.int .i64 x.2), .c (.int .i64 x.3), .c (.sli 7 (.c 0) 1 (.v gs.length) none), .c (.int .i64 x.4)] 70, .own [.c (.int .i64 y.1), .c (.int .i64 y.2), .c (.int .i64 y.3), .c (.int .i64 y.4), .c (.int .u32 y.5), .a (encInt IntKind.u32) 32 y.6, .c (.sb y.7), .c (.int .i64 y.8)] 73, .own [.a (encInt IntKind.u32) 32 B] 71, .vec (encInt IntKind.u32) A 22, .own [.a (encInt IntKind.u32) 32 B2] 71]))

 (.ret (.normal, [.bad, .sli 12 (.c 0) 1 (.v n) (some (.v n)), .sli 11 (.c 0) 1 (.v A.length) none, .int .i64 (↑j : Int)], [.ro encLook [PUnit.unit], .ro (encHd 2) hs, Blk.rows false IntKind.u32 q.2, .ro (encInt IntKind.u8) q.4, .own [.a (encInt IntKind.u32) 60 l] 22, .own [.c (.sli 4 (.c 0) 1 (.v 60) (some (.v 60))), .c (.int .i64 c)] 68, Blk.rows true IntKind.u32 q.2, .vec (encHd 6) gs 34, .own [.c (.int .i64 x.1), .c (.int .i64 x.2), .c (.int .i64 x.3), .c (.sli 7 (.c 0) 1 (.v gs.length) none), .c (.int .i64 x.4)] 70, .own [.c (.int .i64 y.1), .c (.int .i64 y.2), .c (.int .i64 y.3), .c (.int .i64 y.4), .c (.int .u32 y.5), .a (encInt IntKind.u32) 32 y.6, .c (.sb y.7), .c (.int .i64 y.8)] 73, .own [.a (encInt IntKind.u32) 32 B] 71, .vec (encInt IntKind.u32) A 22, .own [.a (encInt IntKind.u32) 32 B2] 71]))))))) := by kernel_rfl
set_option maxRecDepth 100000 in
theorem so_inc {q : InW} {hs gs : List (Nat × Nat)} {l : List Int} {c : Int} {x : Wr} {y : Rd} {B A B2 : List Int} {n j : Nat} : (exec cfgM 100 inc21 (fr 26 [0, 1, 5] (aO A n ++ [.int .i64 (j : Nat)])) (sF q hs gs l c x y B A B2)).bind (canonK 13 [(0,0)] 26 [0, 1, 5]) =
 

 (.need (inR .i64 ((↑j : Int) + (1 : Int)))

 (.ret (.normal, [.sli 12 (.c 0) 1 (.v n) (some (.v n)), .sli 11 (.c 0) 1 (.v A.length) none, .int .i64 ((↑j : Int) + (1 : Int))], [.ro encLook [PUnit.unit], .ro (encHd 2) hs, Blk.rows false IntKind.u32 q.2, .ro (encInt IntKind.u8) q.4, .own [.a (encInt IntKind.u32) 60 l] 22, .own [.c (.sli 4 (.c 0) 1 (.v 60) (some (.v 60))), .c (.int .i64 c)] 68, Blk.rows true IntKind.u32 q.2, .vec (encHd 6) gs 34, .own [.c (.int .i64 x.1), .c (.int .i64 x.2), .c (.int .i64 x.3), .c (.sli 7 (.c 0) 1 (.v gs.length) none), .c (.int .i64 x.4)] 70, .own [.c (.int .i64 y.1), .c (.int .i64 y.2), .c (.int .i64 y.3), .c (.int .i64 y.4), .c (.int .u32 y.5), .a (encInt IntKind.u32) 32 y.6, .c (.sb y.7), .c (.int .i64 y.8)] 73, .own [.a (encInt IntKind.u32) 32 B] 71, .vec (encInt IntKind.u32) A 22, .own [.a (encInt IntKind.u32) 32 B2] 71]))) := by kernel_rfl
set_option maxRecDepth 100000 in
theorem so_end {q : InW} {hs gs : List (Nat × Nat)} {l : List Int} {c : Int} {x : Wr} {y : Rd} {B A B2 : List Int} {n j : Nat} : (exec cfgM 100 end21 (fr 26 [0, 1, 5] (aO A n ++ [.int .i64 (j : Nat)])) (sF q hs gs l c x y B A B2)).bind (canonK 13 [(0,0)] 26 [4]) =
 

 (.ret (.ret, [.bl true], [.ro encLook [PUnit.unit], .ro (encHd 2) hs, Blk.rows false IntKind.u32 q.2, .ro (encInt IntKind.u8) q.4, .own [.a (encInt IntKind.u32) 60 l] 22, .own [.c (.sli 4 (.c 0) 1 (.v 60) (some (.v 60))), .c (.int .i64 c)] 68, Blk.rows true IntKind.u32 q.2, .vec (encHd 6) gs 34, .own [.c (.int .i64 x.1), .c (.int .i64 x.2), .c (.int .i64 x.3), .c (.sli 7 (.c 0) 1 (.v gs.length) none), .c (.int .i64 x.4)] 70, .own [.c (.int .i64 y.1), .c (.int .i64 y.2), .c (.int .i64 y.3), .c (.int .i64 y.4), .c (.int .u32 y.5), .a (encInt IntKind.u32) 32 y.6, .c (.sb y.7), .c (.int .i64 y.8)] 73, .own [.a (encInt IntKind.u32) 32 B] 71, .vec (encInt IntKind.u32) A 22, .own [.a (encInt IntKind.u32) 32 B2] 71])) := by kernel_rfl
end Go.Proofs.YtmknmbacecjfmaaDoor

/- Layer 10: rows that are the same. -/
namespace Go.Proofs.YtmknmbacecjfmaaDoor
open Go Go.Proofs.YtmknmbacecjfmaaDoor.Sx
set_option linter.unusedVariables false
theorem b21_eq : Tryd.f21.body = some b21 := by kernel_rfl
set_option maxHeartbeats 4000000 in
theorem sv_call {q : InW} {hs gs : List (Nat × Nat)} {l : List Int} {c : Int} {x : Wr} {y : Rd} {B A B2 : List Int} {i m : Nat} (hi : i < q.xss.length) (hX : A = q.xss.getD i []) (hm : m = A.length) (hl : A.length ≤ 1000) :
    ∀ (env : Env) (w : World) (vs : List Value), GlOk cfgM.gl env → Rep env (sF q hs gs l c x y B A B2) w → DenL env (aV A i m) vs → Calls cfgM.P 21 ⟨vs⟩ w (Ends1 env (sF q hs gs l c x y B A B2) w (.bl true) (sF q hs gs l c x y B A B2)) := by
  intro env w vs hg hr hd
  have hb0 : env.length = 13 := hr.len
  have hrl : (q.xss.getD i []).length = A.length := by rw [hX]
  refine AtK.begin (c := cfgM) Tryd.func21 b21_eq hg hr hd fun a0 hA => ?_
  refine pieceNTK2 (c := cfgM) cfgM_ok 2 [4, 0, 1] sv_pre (by omega) (by simp) hA ?_
  refine all_brf (p := ¬ A.length = m) (by rw [bne_iff_ne]; omega) (by omega) ?_
  refine all_ret fun env1 a1 w1 hA1 => ?_
  simp only [Ex.to, Exit.then]
  have hA2 := hA1.on fun h => h.drop1 rfl
  refine (show c21.wp Tryd.prog _ a1 w1 from wpS (by kernel_rfl) (wpS (by kernel_rfl) ?_))
  refine pieceTK2 (c := cfgM) cfgM_ok [0, 1, 5] sv_reg (by omega) (by simp) hA2 ?_
  refine all_ret fun env3 a3 w3 hA3 => ?_
  simp only [Ex.to, Exit.then]
  have hA4 := hA3.on fun h => h.gvals (aV A i m ++ [.int .i64 ((0 : Nat) : Int)]) rfl
  refine wpB 0 (by kernel_rfl) (wpL (by kernel_rfl) (fun (j : Nat) a' w' => j ≤ A.length ∧ ∃ env', AtK env [(0, 0)] ⟨w, inFoot env (sF q hs gs l c x y B A B2)⟩ env' (fr 26 [0, 1, 5] (aV A i m ++ [SVal.int .i64 ((j : Nat) : Int)])) (sF q hs gs l c x y B A B2) a' w') (fun (j : Nat) => A.length - j) (0 : Nat) ⟨Nat.zero_le _, env3, hA4⟩ ?_)
  rintro j a' w' ⟨hj, env', hA⟩
  refine (show round21.wp _ _ _ _ from wpS (by kernel_rfl) ?_)
  refine pieceTK2 (c := cfgM) cfgM_ok [0, 1, 5] sv_tm (by omega) (by simp) hA ?_
  refine all_brp (by simp only [decide_eq_true_eq]; exact Iff.rfl) (fun h2 => all_ret fun env1 a1 w1 hA1 => ?_) (fun h2 => all_ret fun env1 a1 w1 hA1 => ?_)
  · simp only [Ex.to, Exit.then]
    have hj' : j < A.length := by omega
    refine (show (rgt round21).wp _ _ _ _ from wpS (by kernel_rfl) (wpB 1 (by kernel_rfl) ?_))
    refine (show bb21.wp _ _ _ _ from ?_)
    have ht := @sv_bb q hs gs l c x y B A B2 i m j
    rw [Int.toNat_natCast] at ht
    refine pieceTK2 (c := cfgM) cfgM_ok [4, 0, 1, 5] ht (by omega) (by simp) hA1 ?_
    repeat' (first
      | refine all_needq (by simp only [decide_eq_true_eq, Bool.and_eq_true]; exact Iff.rfl) (by omega) ?_
      | refine all_needq (by simp only [decide_eq_true_eq]; exact Iff.rfl) (by omega) ?_
      | refine all_eq trivial ?_
      | refine all_eq rfl ?_)
    refine all_brf (p := ¬ A.getD j 0 = (q.xss.getD i []).getD j 0) (by rw [bne_iff_ne]) (by rw [hX]; simp) ?_
    refine all_ret fun env2 a2 w2 hA2 => ?_
    simp only [Ex.to, Exit.inBlock, Exit.then]
    have hA3 := hA2.on fun h => h.drop1 rfl
    refine (show inc21.wp _ _ _ _ from ?_)
    refine pieceTK2 (c := cfgM) cfgM_ok [0, 1, 5] sv_inc (by omega) (by simp) hA3 ?_
    refine all_needp (by simp only [inR_i64]; exact Iff.rfl) (by omega) fun _ => all_ret fun env4 a4 w4 hA4 => ?_
    exact ⟨j + 1, ⟨by omega, env4, hA4⟩, by omega⟩
  · simp only [Ex.to, Exit.then, Exit.inBlock, if_true]
    refine (show end21.wp _ _ _ _ from ?_)
    refine pieceTK2 (c := cfgM) cfgM_ok [4] sv_end (by omega) (by simp) hA1 ?_
    exact all_ret fun env4 a4 w4 hA4 => hA4.out (c := cfgM) (by kernel_rfl)
set_option maxHeartbeats 4000000 in
theorem so_call {q : InW} {hs gs : List (Nat × Nat)} {l : List Int} {c : Int} {x : Wr} {y : Rd} {B A B2 : List Int} {n : Nat} (hn : n ≤ 32) (hB : B2.length = 32) (hA1 : A.length = n) (he : ∀ j, j < n → B2.getD j 0 = A.getD j 0) :
    ∀ (env : Env) (w : World) (vs : List Value), GlOk cfgM.gl env → Rep env (sF q hs gs l c x y B A B2) w → DenL env (aO A n) vs → Calls cfgM.P 21 ⟨vs⟩ w (Ends1 env (sF q hs gs l c x y B A B2) w (.bl true) (sF q hs gs l c x y B A B2)) := by
  intro env w vs hg hr hd
  have hb0 : env.length = 13 := hr.len
  refine AtK.begin (c := cfgM) Tryd.func21 b21_eq hg hr hd fun a0 hA => ?_
  refine pieceNTK2 (c := cfgM) cfgM_ok 2 [4, 0, 1] so_pre (by omega) (by simp) hA ?_
  refine all_brf (p := ¬ n = A.length) (by rw [bne_iff_ne]; omega) (by omega) ?_
  refine all_ret fun env1 a1 w1 hA1 => ?_
  simp only [Ex.to, Exit.then]
  have hA2 := hA1.on fun h => h.drop1 rfl
  refine (show c21.wp Tryd.prog _ a1 w1 from wpS (by kernel_rfl) (wpS (by kernel_rfl) ?_))
  refine pieceTK2 (c := cfgM) cfgM_ok [0, 1, 5] so_reg (by omega) (by simp) hA2 ?_
  refine all_ret fun env3 a3 w3 hA3 => ?_
  simp only [Ex.to, Exit.then]
  have hA4 := hA3.on fun h => h.gvals (aO A n ++ [.int .i64 ((0 : Nat) : Int)]) rfl
  refine wpB 0 (by kernel_rfl) (wpL (by kernel_rfl) (fun (j : Nat) a' w' => j ≤ n ∧ ∃ env', AtK env [(0, 0)] ⟨w, inFoot env (sF q hs gs l c x y B A B2)⟩ env' (fr 26 [0, 1, 5] (aO A n ++ [SVal.int .i64 ((j : Nat) : Int)])) (sF q hs gs l c x y B A B2) a' w') (fun (j : Nat) => n - j) (0 : Nat) ⟨Nat.zero_le _, env3, hA4⟩ ?_)
  rintro j a' w' ⟨hj, env', hA⟩
  refine (show round21.wp _ _ _ _ from wpS (by kernel_rfl) ?_)
  refine pieceTK2 (c := cfgM) cfgM_ok [0, 1, 5] so_tm (by omega) (by simp) hA ?_
  refine all_brp (by simp only [decide_eq_true_eq]; exact Iff.rfl) (fun h2 => all_ret fun env1 a1 w1 hA1 => ?_) (fun h2 => all_ret fun env1 a1 w1 hA1 => ?_)
  · simp only [Ex.to, Exit.then]
    have hj' : j < n := by omega
    refine (show (rgt round21).wp _ _ _ _ from wpS (by kernel_rfl) (wpB 1 (by kernel_rfl) ?_))
    refine (show bb21.wp _ _ _ _ from ?_)
    have ht := @so_bb q hs gs l c x y B A B2 n j
    rw [Int.toNat_natCast] at ht
    refine pieceTK2 (c := cfgM) cfgM_ok [4, 0, 1, 5] ht (by omega) (by simp) hA1 ?_
    repeat' (first
      | refine all_needq (by simp only [decide_eq_true_eq, Bool.and_eq_true]; exact Iff.rfl) (by omega) ?_
      | refine all_needq (by simp only [decide_eq_true_eq]; exact Iff.rfl) (by omega) ?_
      | refine all_eq trivial ?_
      | refine all_eq rfl ?_)
    refine all_brf (p := ¬ B2.getD j 0 = A.getD j 0) (by rw [bne_iff_ne]) (by rw [he j hj']; simp) ?_
    refine all_ret fun env2 a2 w2 hA2 => ?_
    simp only [Ex.to, Exit.inBlock, Exit.then]
    have hA3 := hA2.on fun h => h.drop1 rfl
    refine (show inc21.wp _ _ _ _ from ?_)
    refine pieceTK2 (c := cfgM) cfgM_ok [0, 1, 5] so_inc (by omega) (by simp) hA3 ?_
    refine all_needp (by simp only [inR_i64]; exact Iff.rfl) (by omega) fun _ => all_ret fun env4 a4 w4 hA4 => ?_
    exact ⟨j + 1, ⟨by omega, env4, hA4⟩, by omega⟩
  · simp only [Ex.to, Exit.then, Exit.inBlock, if_true]
    refine (show end21.wp _ _ _ _ from ?_)
    refine pieceTK2 (c := cfgM) cfgM_ok [4] so_end (by omega) (by simp) hA1 ?_
    exact all_ret fun env4 a4 w4 hA4 => hA4.out (c := cfgM) (by kernel_rfl)
end Go.Proofs.YtmknmbacecjfmaaDoor

/- SeqlockCalm, plain: how many steps a writer takes; a reader that nobody disturbs. -/
namespace Go.Proofs.YtmknmbacecjfmaaDoor
open Go Go.Proofs.YtmknmbacecjfmaaDoor.Sx
set_option linter.unusedVariables false
/-- how far a writer is -/
def pW (n : Nat) (x : Wr) : Int := x.ver * ((n : Int) + 2) + (if x.ph = 0 then 0 else if x.ph = 1 then 1 + x.i else 1 + n)
theorem pw_step {a : Nat} {xss : List (List Int)} {n : Nat} {e0 : Int} {l : List Int} {c : Int} {x : Wr} (hv : Vs xss n e0) (ha : a ≤ 20) (h : WI a xss n e0 l c x) (hlt : x.ver < (xss.length : Int)) :
    pW n (wNext 60 xss x l c).x = pW n x + 1 ∧ (wNext 60 xss x l c).c = c + 1 ∧
    (((wNext 60 xss x l c).b = false ∧ (wNext 60 xss x l c).x.ver < (xss.length : Int)) ∨ ((wNext 60 xss x l c).b = true ∧ (wNext 60 xss x l c).x.ver = (xss.length : Int) ∧ (wNext 60 xss x l c).x.ph = 0)) := by
  obtain ⟨at', i, ph, ver⟩ := x
  have h1 := h.at'
  have hp := h.ok.p
  have hi := h.ok.i
  have hn := hv.n
  have hr := hv.row ver.toNat (by have := h.ok.v; simp only at this hlt; omega)
  simp only at h1 hp hi hlt
  subst h1
  have e1 : ¬ ver = (xss.length : Int) := by omega
  by_cases e2 : ph = 1
  · obtain ⟨_, hi0, hi1⟩ := hi e2
    rw [hr] at hi1
    have e3 : 0 ≤ (a : Int) + 1 + i ∧ (a : Int) + 1 + i < ((60 : Nat) : Int) := by omega
    simp only [wNext, if_neg e1, if_pos e2, if_pos e3, pW]
    refine ⟨?_, trivial, .inl ⟨trivial, hlt⟩⟩
    rw [if_neg (show ¬ ph = 0 by omega), hr]
    by_cases hq : i + 1 = (n : Int)
    · simp only [if_pos hq]
      rw [if_neg (by omega), if_neg (by omega)]
      omega
    · simp only [if_neg hq]
      rw [if_neg (by omega)]
      simp only [if_true]
      omega
  · have e3 : 0 ≤ (a : Int) ∧ (a : Int) < ((60 : Nat) : Int) := by omega
    by_cases e4 : ph = 2
    · simp only [wNext, if_neg e1, if_neg e2, if_pos e3, if_pos e4, pW]
      refine ⟨?_, trivial, ?_⟩
      · simp only [if_true]
        rw [if_neg (show ¬ ph = 0 by omega), Int.add_mul]
        omega
      · by_cases hq : ver + 1 = (xss.length : Int)
        · exact .inr ⟨beq_iff_eq.2 hq, hq, trivial⟩
        · exact .inl ⟨beq_eq_false_iff_ne.2 hq, by omega⟩
    · simp only [wNext, if_neg e1, if_neg e2, if_pos e3, if_neg e4, pW]
      refine ⟨?_, trivial, .inl ⟨trivial, hlt⟩⟩
      rw [if_pos (show ph = 0 by omega), if_neg (by omega)]
      simp only [if_true]
      omega
/-- a reader ahead of its k-th step -/
structure RC (n : Nat) (l3 : Int) (k : Nat) (y : Rd) : Prop where
  got : y.got = false
  t : y.tries = if k = 1 then 0 else 1
  s : (k = 1 ∧ y.ph = 0) ∨ (2 ≤ k ∧ k ≤ n + 1 ∧ y.ph = 1 ∧ y.i = (k : Int) - 2 ∧ y.sq = l3) ∨ (k = n + 2 ∧ y.ph = 2 ∧ y.sq = l3)
theorem rc_step {a n k : Nat} {l : List Int} {c : Int} {y : Rd} (ha : a ≤ 20) (hn : 1 ≤ n ∧ n ≤ 32) (hk : 1 ≤ k ∧ k ≤ n + 2) (hat : y.at' = (a : Int)) (hyn : y.n = (n : Int)) (hev : (l.getD a 0).tmod 2 = 0) (h : RC n (l.getD a 0) k y) :
    (rNext 60 y l c).c = c + 1 ∧ ((k < n + 2 ∧ (rNext 60 y l c).y.got = false ∧ RC n (l.getD a 0) (k + 1) (rNext 60 y l c).y) ∨ (k = n + 2 ∧ (rNext 60 y l c).y.got = true ∧ (rNext 60 y l c).y.tries = 1)) := by
  obtain ⟨at', yn, i, ph, sq, buf, got, tries⟩ := y
  obtain ⟨h1, h2, h3⟩ := h
  simp only at h1 h2 h3 hat hyn
  subst h1 hat hyn
  rcases h3 with ⟨rfl, rfl⟩ | ⟨f1, f2, rfl, rfl, rfl⟩ | ⟨rfl, rfl, rfl⟩
  · have ea : 0 ≤ rAt ⟨(a : Int), n, i, 0, sq, buf, false, tries⟩ ∧ rAt ⟨(a : Int), n, i, 0, sq, buf, false, tries⟩ < ((60 : Nat) : Int) := by
      unfold rAt; rw [if_neg (by simp only; omega)]; simp only; omega
    have hR : rNext 60 ⟨(a : Int), n, i, 0, sq, buf, false, tries⟩ l c = ⟨⟨a, n, 0, 1, l.getD a 0, buf, false, tries + 1⟩, c + 1, false⟩ := by
      unfold rNext
      rw [if_neg (by simp), if_pos ea]
      simp only [if_true, Int.toNat_natCast, if_pos hev]
    rw [hR]
    refine ⟨rfl, .inl ⟨by omega, rfl, rfl, ?_, .inr (.inl ⟨by omega, by omega, rfl, by simp only; omega, rfl⟩)⟩⟩
    simp only
    rw [h2, if_pos rfl, if_neg (by omega)]; rfl
  · have ea : 0 ≤ rAt ⟨(a : Int), n, (k : Int) - 2, 1, l.getD a 0, buf, false, tries⟩ ∧ rAt ⟨(a : Int), n, (k : Int) - 2, 1, l.getD a 0, buf, false, tries⟩ < ((60 : Nat) : Int) := by
      unfold rAt; rw [if_pos rfl]; simp only; omega
    have hR : rNext 60 ⟨(a : Int), n, (k : Int) - 2, 1, l.getD a 0, buf, false, tries⟩ l c = ⟨⟨a, n, (k : Int) - 2 + 1, if (k : Int) - 2 + 1 = (n : Int) then 2 else 1, l.getD a 0, buf.set ((k : Int) - 2).toNat (l.getD ((a : Int) + (1 + ((k : Int) - 2))).toNat 0), false, tries⟩, c + 1, false⟩ := by
      unfold rNext
      rw [if_neg (by simp), if_pos ea]
      simp only [if_neg (show ¬ (1 : Int) = 0 by omega), if_true]
    rw [hR]
    refine ⟨rfl, .inl ⟨by omega, rfl, rfl, ?_, ?_⟩⟩
    · simp only
      rw [h2, if_neg (by omega), if_neg (by omega)]
    · by_cases hq : (k : Int) - 2 + 1 = (n : Int)
      · exact .inr (.inr ⟨by omega, by simp only [if_pos hq], rfl⟩)
      · exact .inr (.inl ⟨by omega, by omega, by simp only [if_neg hq], by simp only; omega, rfl⟩)
  · have ea : 0 ≤ rAt ⟨(a : Int), n, i, 2, l.getD a 0, buf, false, tries⟩ ∧ rAt ⟨(a : Int), n, i, 2, l.getD a 0, buf, false, tries⟩ < ((60 : Nat) : Int) := by
      unfold rAt; rw [if_neg (by simp only; omega)]; simp only; omega
    have hR : rNext 60 ⟨(a : Int), n, i, 2, l.getD a 0, buf, false, tries⟩ l c = ⟨⟨a, n, i, 0, l.getD a 0, buf, l.getD a 0 == l.getD a 0, tries⟩, c + 1, l.getD a 0 == l.getD a 0⟩ := by
      unfold rNext
      rw [if_neg (by simp), if_pos ea]
      simp only [if_neg (show ¬ (2 : Int) = 0 by omega), if_neg (show ¬ (2 : Int) = 1 by omega), Int.toNat_natCast]
    rw [hR]
    refine ⟨rfl, .inr ⟨rfl, by simp, ?_⟩⟩
    simp only
    rw [h2, if_neg (by omega)]
end Go.Proofs.YtmknmbacecjfmaaDoor

/- SeqlockCalm: its call, from behind. -/
namespace Go.Proofs.YtmknmbacecjfmaaDoor
open Go Go.Proofs.YtmknmbacecjfmaaDoor.Sx
set_option linter.unusedVariables false
abbrev Qc (w0 : From) : Exit → Act → World → Prop := bodyPost Tryd.prog Tryd.f4 (Said w0)
theorem cfgS4_ok {q : InW} {hs gs : List (Nat × Nat)} {l : List Int} {c : Int} {x : Wr} {y : Rd} {B A B2 : List Int} {i m n : Nat} (h1 : i < q.xss.length) (h2 : A = q.xss.getD i []) (h3 : m = A.length) (h4 : A.length ≤ 1000) (h5 : n ≤ 32) (h6 : B2.length = 32) (h7 : A.length = n) (h8 : ∀ j, j < n → B2.getD j 0 = A.getD j 0) : SmOk (cfgS4 q hs gs l c x y B A B2 i m n True True) := by
  intro F G h
  simp only [cfgS4] at h
  split at h
  · simp only [Option.some.injEq] at h; subst h
    intro args st s st' env w vs hat
    dsimp only at hat
    split at hat
    · exact smEq_ok (c := cfgS4 q hs gs l c x y B A B2 i m n True True) (fun _ env w vs hg hr hd => sv_call h1 h2 h3 h4 env w vs hg hr hd) _ st s st' env w vs hat
    · exact smEq_ok (c := cfgS4 q hs gs l c x y B A B2 i m n True True) (fun _ env w vs hg hr hd => so_call h5 h6 h7 h8 env w vs hg hr hd) _ st s st' env w vs hat
  · cases h
/-- what a calm reader gave is the last version -/
structure Fin (q : InW) (n : Nat) (E : Int) (l : List Int) (c : Int) (x : Wr) (y : Rd) : Prop where
  vs : Vs q.xss n E
  l3 : l.getD 3 0 = (E + 2 * (q.xss.length : Int)) % 4294967296
  cc : 0 ≤ c ∧ c ≤ 1000
  bl : y.buf.length = 32
  got : y.got = true
  t : y.tries = 1
  yn : y.n = (n : Int)
  eq : ∀ j : Nat, j < n → y.buf.getD j 0 = (q.xss.getD (q.xss.length - 1) []).getD j 0
theorem buf_eq {q : InW} {n : Nat} {E : Int} {l : List Int} {c : Int} {x : Wr} {y : Rd} (h : Fin q n E l c x y) : List.take n (List.drop 0 y.buf) = q.xss.getD (q.xss.length - 1) [] := by
  have hr := h.vs.row (q.xss.length - 1) (by have := h.vs.len; omega)
  have hn := h.vs.n
  have hb := h.bl
  refine List.ext_getElem (by rw [List.length_take, List.length_drop, hr]; omega) fun i h1 h2 => ?_
  have e := h.eq i (by omega)
  rw [List.getD_eq_getElem?_getD, List.getD_eq_getElem?_getD, List.getElem?_eq_getElem (by omega), List.getElem?_eq_getElem h2] at e
  simpa using e
set_option maxRecDepth 100000 in
set_option maxHeartbeats 8000000 in
theorem fin_ok {w0 : From} {q : InW} {n : Nat} {E : Int} (hE : bitop .andNot .u32 q.first 1 = E) (hE2 : 0 ≤ E ∧ E < 4294967296) {l : List Int} {c : Int} {x : Wr} {y : Rd} (h : Fin q n E l c x y) {env : Env} {a : Act} {W : World} (hA : At [(0, 0)] w0 env (fr 180 jF (eF q n)) (sWs q l c x y) a W) :
    (restC 11 b4).wp Tryd.prog (Qc w0) a W := by
  have hn := h.vs.n
  have hlen := h.vs.len
  have hcc := h.cc
  have hgt := h.got
  have hyn := h.yn
  have hhl := hdL_len q.xss
  have hbuf := buf_eq h
  have hrow := h.vs.row (q.xss.length - 1) (by omega)
  refine pieceNT0 (c := cfgM) cfgM_ok 2 jH0 j_h hA ?_
  refine all_brf (p := y.got = false) (by simp) (by rw [hgt]; simp) ?_
  refine all_needq (by simp only [decide_eq_true_eq, Bool.and_eq_true]; exact Iff.rfl) (by omega) ?_
  refine all_needq (by simp only [decide_eq_true_eq, Bool.and_eq_true]; exact Iff.rfl) (by omega) ?_
  refine all_need (decide_eq_true (Nat.zero_le _)) fun _ => ?_
  refine all_need rfl fun _ => all_need rfl fun _ => all_need rfl fun _ => ?_
  refine all_br (fun hh => by cases hh) (fun _ => ?_)
  refine all_needq (by simp only [inR_i64]; exact Iff.rfl) (by omega) ?_
  refine all_need rfl fun _ => all_need rfl fun _ => all_need rfl fun _ => all_need rfl fun _ => ?_
  refine all_ret fun env1 a1 w1 hA1 => ?_
  simp only [Ex.to, Exit.then]
  have e1 : y.n.toNat = n := by omega
  rw [e1] at hA1
  have hA2 := hA1.segs 10 (l' := [.a (encInt .u32) 32 (l32 y.buf)]) rfl (by intro s hs; rw [List.mem_singleton.1 hs]; rfl) (fun cs h => denL_gen2 (by kernel_rfl) h)
  have hA3 : At [(0, 0)] w0 env1 (fr 180 jH0 (eH q n (l.getD 3 0))) (sWb q l (c + 1) x y (l32 y.buf)) a1 w1 := hA2
  rw [l32_eq h.bl] at hA3
  refine (show (restC 13 b4).wp Tryd.prog (Qc w0) a1 w1 from ?_)
  refine pieceNT0 (c := cfgM) cfgM_ok 1 jH j_ap hA3 ?_
  have hbl := h.bl
  refine all_needq (by simp only [decide_eq_true_eq]; exact Iff.rfl) (by omega) ?_
  refine all_needq (by simp only [decide_eq_true_eq]; exact Iff.rfl) (by omega) ?_
  rw [hbuf]
  refine all_needq (by simp only [roomy_iff]; exact Iff.rfl) (by omega) ?_
  refine all_ret fun env4 a4 w4 hA4 => ?_
  simp only [Ex.to, Exit.then]
  generalize hAA : q.xss.getD (q.xss.length - 1) [] = A at *
  refine (show o4.wp Tryd.prog (Qc w0) a4 w4 from wpS (by kernel_rfl) (wpS (by kernel_rfl) ?_))
  refine (show oreg4.wp _ _ _ _ from ?_)
  refine pieceT0 (c := cfgM) cfgM_ok jO (j_og (A := A)) hA4 (all_ret fun env5 a5 w5 hA5 => ?_)
  simp only [Ex.to, Exit.then]
  have hA6 := hA5.gvals (eO q n (l.getD 3 0) A.length 0) rfl
  refine (show oblk4.wp _ _ _ _ from wpB 4 (by kernel_rfl) (wpL (by kernel_rfl) (fun (j : Nat) a' w' => j ≤ n ∧ ∃ B env', B.length = 32 ∧ At [(0, 0)] w0 env' (fr 180 jO (eO q n (l.getD 3 0) A.length j)) (sWb q l (c + 1) x y B ++ [Blk.vec (encInt .u32) A 22]) a' w') (fun j => n - j) 0 ⟨Nat.zero_le _, y.buf, env5, hbl, hA6⟩ ?_))
  rintro j a w ⟨hj, B, env, hB, hA⟩
  refine (show oround4.wp _ _ _ _ from wpS (by kernel_rfl) ?_)
  refine pieceT0 (c := cfgM) cfgM_ok jO (j_ot (A := A)) hA ?_
  refine all_brp (by simp only [decide_eq_true_eq]; exact Iff.rfl) (fun g1 => all_ret fun env7 a7 w7 hA7 => ?_) (fun g1 => all_ret fun env7 a7 w7 hA7 => ?_)
  · simp only [Ex.to, Exit.then]
    refine (show (rgt oround4).wp _ _ _ _ from wpS (by kernel_rfl) (wpB 5 (by kernel_rfl) ?_))
    refine (show obb4.wp _ _ _ _ from ?_)
    have ht := @j_ob q (hdL q.xss) (hdL q.xss) l B A (c + 1) x y n j (l.getD 3 0)
    rw [Int.toNat_natCast] at ht
    refine pieceT0 (c := cfgM) cfgM_ok jO ht hA7 ?_
    refine all_needq (by simp only [decide_eq_true_eq, Bool.and_eq_true]; exact Iff.rfl) (by omega) ?_
    refine all_needq (by simp only [decide_eq_true_eq]; exact Iff.rfl) (by omega) ?_
    refine all_needq (by simp only [decide_eq_true_eq, Bool.and_eq_true]; exact Iff.rfl) (by omega) ?_
    refine all_needq (by simp only [decide_eq_true_eq]; exact Iff.rfl) (by omega) ?_
    refine all_ret fun env8 a8 w8 hA8 => ?_
    simp only [Ex.to, Exit.inBlock, Exit.then]
    refine (show oinc4.wp _ _ _ _ from ?_)
    generalize hB2 : B.set j (IntKind.u32.wrap (B.getD j 0 + 1)) = B2 at *
    have hl2 : B2.length = 32 := by rw [← hB2, List.length_set]; exact hB
    refine pieceT0 (c := cfgM) cfgM_ok jO (j_oi (A := A) (B := B2)) hA8 ?_
    refine all_needp (by simp only [inR_i64]; exact Iff.rfl) (by omega) fun _ => all_ret fun env9 a9 w9 hA9 => ?_
    exact ⟨j + 1, ⟨by omega, B2, env9, hl2, hA9⟩, by omega⟩
  · simp only [Ex.to, Exit.then, Exit.inBlock, if_true]
    have hA8 : At [(0, 0)] w0 env7 (fr 180 jH (eI q n (l.getD 3 0) A.length)) (sWb q l (c + 1) x y B ++ [Blk.vec (encInt .u32) A 22]) a7 w7 := At.few (names := jH) (extra := [21]) (vals := eI q n (l.getD 3 0) A.length) (ev := [.int .i64 (j : Nat)]) hA7 rfl
    refine (show (restC 15 b4).wp Tryd.prog (Qc w0) a7 w7 from ?_)
    refine pieceNT0 (c := cfgM) cfgM_ok 1 jL (j_g2 (A := A)) hA8 ?_
    refine all_brf (p := y.got = false) (by simp) (by rw [hgt]; simp) ?_
    refine all_needq (by simp only [decide_eq_true_eq, Bool.and_eq_true]; exact Iff.rfl) (by omega) ?_
    refine all_needq (by simp only [decide_eq_true_eq, Bool.and_eq_true]; exact Iff.rfl) (by omega) ?_
    refine all_need (decide_eq_true (Nat.zero_le _)) fun _ => ?_
    refine all_ret fun env9 a9 w9 hA9 => ?_
    simp only [Ex.to, Exit.then]
    rw [e1] at hA9
    have hA10 := hA9.segs 12 (l' := [.a (encInt .u32) 32 (l32 y.buf)]) rfl (by intro s hs; rw [List.mem_singleton.1 hs]; rfl) (fun cs h => denL_gen2 (by kernel_rfl) h)
    have hA11 : At [(0, 0)] w0 env9 (fr 180 jL (eL q n (l.getD 3 0) A.length)) (sF q (hdL q.xss) (hdL q.xss) l (c + 1) x y B A (l32 y.buf)) a9 w9 := hA10
    rw [l32_eq h.bl] at hA11
    have hget := hdL_get (xss := q.xss) (i := q.xss.length - 1) (by omega)
    have ei : ((q.xss.length : Int) - 1).toNat = q.xss.length - 1 := by omega
    refine (show (restC 16 b4).wp Tryd.prog (Qc w0) a9 w9 from ?_)
    have ht := @j_e q (hdL q.xss) (hdL q.xss) l (c + 1) x y B A y.buf n (q.xss.length - 1) A.length (l.getD 3 0) True True
    rw [ei, hget, hAA] at ht
    refine pieceT0 (c := cfgS4 q (hdL q.xss) (hdL q.xss) l (c + 1) x y B A y.buf (q.xss.length - 1) A.length n True True) (cfgS4_ok (by omega) hAA.symm rfl (by omega) (by omega) h.bl (by omega) (fun j hj => by rw [← hAA]; exact h.eq j hj)) [6] ht hA11 ?_
    refine all_needq (by simp only [inR_i64]; exact Iff.rfl) (by omega) ?_
    refine all_needq (by simp only [decide_eq_true_eq, Bool.and_eq_true]; exact Iff.rfl) (by omega) ?_
    refine all_needq (by simp only [decide_eq_true_eq]; exact Iff.rfl) (by omega) ?_
    refine all_eq ⟨rfl, rfl, trivial⟩ (all_eq ⟨rfl, rfl, trivial⟩ ?_)
    refine all_brt (p := y.tries = 1) beq_iff_eq h.t ?_
    refine all_needq (by simp only [inR_i64]; exact Iff.rfl) (by omega) ?_
    refine all_ret fun env12 a12 w12 hA12 => ?_
    have ew : (l.getD 3 0 == IntKind.u32.wrap (bitop BinOp.andNot IntKind.u32 q.first (1 : Int) + IntKind.u32.wrap ((2 : Int) * (q.xss.length : Int)))) = true := by
      rw [beq_iff_eq, h.l3, hE, w32_mod, w32_mod]; omega
    have hA13 : At [(0, 0)] w0 env12 (fr 180 [6] [.bl true]) (sF q (hdL q.xss) (hdL q.xss) l (c + 1) x y B A y.buf) a12 w12 := by
      have h9 : At [(0, 0)] w0 env12 (fr 180 [6] [.sb (l.getD 3 0 == IntKind.u32.wrap (bitop BinOp.andNot IntKind.u32 q.first (1 : Int) + IntKind.u32.wrap ((2 : Int) * (q.xss.length : Int))))]) (sF q (hdL q.xss) (hdL q.xss) l (c + 1) x y B A y.buf) a12 w12 := hA12
      rw [ew] at h9
      exact h9.gvals [.bl true] rfl
    exact At.said (c := cfgM) hA13 (by kernel_rfl)
end Go.Proofs.YtmknmbacecjfmaaDoor

/- SeqlockCalm: its call. -/
namespace Go.Proofs.YtmknmbacecjfmaaDoor
open Go Go.Proofs.YtmknmbacecjfmaaDoor.Sx
set_option linter.unusedVariables false
/-- between a reader's steps -/
structure RB (q : InW) (n : Nat) (E : Int) (k : Nat) (l : List Int) (c : Int) (x : Wr) (y : Rd) : Prop where
  vs : Vs q.xss n E
  wi : WI 3 q.xss n E l c x
  ve : x.ver = (q.xss.length : Int) ∧ x.ph = 0
  rk : ROk 60 l c y
  ri : RI 3 q.xss n E (q.xss.length : Int) x y
  cc : 0 ≤ c ∧ c ≤ 400 + (k : Int)
  s : (1 ≤ k ∧ k ≤ n + 2 ∧ RC n (l.getD 3 0) k y) ∨ (k = n + 3 ∧ Fin q n E l c x y)
def InvB (w0 : From) (q : InW) (n : Nat) (E : Int) (k : Nat) (a : Act) (W : World) : Prop :=
  ∃ l c x y, RB q n E k l c x y ∧ ∃ env, At [(0, 0)] w0 env (fr 180 jG (eG q n (k : Nat))) (sWs q l c x y) a W
abbrev RBt (w0 : From) (q : InW) (n : Nat) (E : Int) (k : Nat) : Exit → Act → World → Prop :=
  Exit.then (fun a' w' => ∃ j, InvB w0 q n E j a' w' ∧ 100 - j < 100 - k) (Exit.inBlock 2 (Exit.then ((restC 11 b4).wp Tryd.prog (Qc w0)) (Qc w0)))
set_option maxHeartbeats 4000000 in
theorem rround4_ok {w0 : From} {q : InW} {n : Nat} {E : Int} (hE : bitop .andNot .u32 q.first 1 = E) (hE2 : 0 ≤ E ∧ E < 4294967296) {k : Nat} {a : Act} {W : World} (hI : InvB w0 q n E k a W) : rround4.wp Tryd.prog (RBt w0 q n E k) a W := by
  obtain ⟨l, c, x, y, h, env, hA⟩ := hI
  have hn := h.vs.n
  have hlen := h.vs.len
  have hcc := h.cc
  refine wpS (by kernel_rfl) ?_
  refine pieceT0 (c := cfgM) cfgM_ok jG j_rt hA ?_
  refine all_needq (by simp only [inR_i64]; exact Iff.rfl) (by omega) ?_
  rcases h.s with ⟨hk1, hk2, hrc⟩ | ⟨rfl, hfin⟩
  · refine all_brt (by simp only [decide_eq_true_eq]; exact Iff.rfl) (by omega) ?_
    refine all_ret fun env1 a1 w1 hA1 => ?_
    simp only [Ex.to, Exit.then]
    refine (show (rgt rround4).wp _ _ _ _ from wpS (by kernel_rfl) (wpB 3 (by kernel_rfl) ?_))
    have hseq := h.wi.seq
    rw [if_pos h.ve.2, h.ve.1] at hseq
    have hev : (l.getD 3 0).tmod 2 = 0 := by
      rw [hseq]
      have := h.vs.e
      rw [Int.tmod_eq_emod_of_nonneg (by omega)]
      omega
    have hd := r_done h.vs (by omega) h.wi h.rk h.ri hrc.got
    obtain ⟨g1, g2⟩ := rc_step (c := c) (a := 3) (by omega) hn ⟨hk1, hk2⟩ h.ri.at' h.ri.yn hev hrc
    have htl : y.tries ≤ 1 := by
      have := hrc.t
      split at this <;> omega
    refine (show rbb4.wp _ _ _ _ from ?_)
    refine pieceT0 (c := cfgSt q (hdL q.xss) (hdL q.xss) l c x y (wNext 60 q.xss x l c).l (wNext 60 q.xss x l c).c (wNext 60 q.xss x l c).x (wNext 60 q.xss x l c).b (rNext 60 y l c).c (rNext 60 y l c).y (rNext 60 y l c).y.got (WOk 60 q.xss l c x) (ROk 60 l c y)) (cfgSt_ok hd.b.symm) jG j_rb hA1 ?_
    refine all_eq ⟨rfl, rfl, h.rk⟩ ?_
    refine all_needq (by simp only [inR_i64]; exact Iff.rfl) (by omega) ?_
    have hk3 := rNext_ok h.rk (by rw [hd.cc]; omega) (by have := hd.t; omega)
    obtain ⟨u1, u2, u3, u4, u5⟩ := hd
    have hbf : (if y.tries < (rNext 60 y l c).y.tries then x.ver else (q.xss.length : Int)) = (q.xss.length : Int) := by
      split
      · exact h.ve.1
      · rfl
    rw [hbf] at u4 u5
    generalize (rNext 60 y l c).y = y2 at *
    generalize (rNext 60 y l c).c = c2 at *
    have hwi : WI 3 q.xss n E l c2 x := by
      obtain ⟨⟨g1, g2, g3, g4, g5, g6, g7, g8, g9, g10⟩, g11, g12, g13, g14⟩ := h.wi
      exact ⟨⟨g1, g2, g3, g4, by omega, g6, g7, g8, g9, g10⟩, g11, g12, g13, g14⟩
    have fin : RB q n E (k + 1) l c2 x y2 → ∀ {env : Env} {a : Act} {W : World}, At [(0, 0)] w0 env (fr 180 jG (eG q n (k : Nat))) (sWs q l c2 x y2) a W → Exit.inBlock 3 (Exit.then (rinc4.wp Tryd.prog (RBt w0 q n E k)) (RBt w0 q n E k)) .normal a W := by
      intro hrb env a W hA
      simp only [Exit.inBlock, Exit.then]
      refine pieceT0 (c := cfgM) cfgM_ok jG j_ri hA ?_
      refine all_needp (by simp only [inR_i64]; exact Iff.rfl) (by omega) fun _ => all_ret fun env4 a4 w4 hA4 => ?_
      exact ⟨k + 1, ⟨l, c2, x, y2, hrb, env4, hA4⟩, by omega⟩
    rcases g2 with ⟨f1, f2, f3⟩ | ⟨f1, f2, f3⟩
    · have e9 : (!(y2.got == ((k : Int) == (n : Int) + 2))) = false := by
        rw [f2, beq_eq_false_iff_ne.2 (show ¬ (k : Int) = (n : Int) + 2 by omega)]; rfl
      refine all_br (fun hh => by exfalso; have hh : (!(y2.got == ((k : Int) == (n : Int) + 2))) = true := hh; rw [e9] at hh; cases hh) (fun _ => all_ret fun env2 a2 w2 hA2 => ?_)
      exact fin ⟨h.vs, hwi, h.ve, hk3, u4, by omega, .inl ⟨by omega, by omega, f3⟩⟩ hA2
    · have e9 : (!(y2.got == ((k : Int) == (n : Int) + 2))) = false := by
        rw [f2, beq_iff_eq.2 (show (k : Int) = (n : Int) + 2 by omega)]; rfl
      refine all_br (fun hh => by exfalso; have hh : (!(y2.got == ((k : Int) == (n : Int) + 2))) = true := hh; rw [e9] at hh; cases hh) (fun _ => all_ret fun env2 a2 w2 hA2 => ?_)
      refine fin ⟨h.vs, hwi, h.ve, hk3, u4, by omega, .inr ⟨by omega, ⟨h.vs, hseq.trans (by congr 1; omega), by omega, hk3.bl, f2, f3, u4.yn, fun j hj => ?_⟩⟩⟩ hA2
      rw [(u5 f2).2 j hj]
      have e8 : ((q.xss.length : Int)).toNat = (q.xss.length - 1) + 1 := by omega
      rw [e8]; rfl
  · refine all_brf (by simp only [decide_eq_true_eq]; exact Iff.rfl) (by omega) ?_
    refine all_ret fun env1 a1 w1 hA1 => ?_
    simp only [Ex.to, Exit.then, Exit.inBlock, if_true]
    have hA2 : At [(0, 0)] w0 env1 (fr 180 jF (eF q n)) (sWs q l c x y) a1 w1 := At.few (names := jF) (extra := [15]) (vals := eF q n) (ev := [.int .i64 _]) hA1 rfl
    exact fin_ok hE hE2 hfin hA2
set_option maxRecDepth 100000 in
set_option maxHeartbeats 4000000 in
/-- a reader is made, and reads -/
theorem read_ok {w0 : From} {q : InW} {n : Nat} {E : Int} (hE : bitop .andNot .u32 q.first 1 = E) (hE2 : 0 ≤ E ∧ E < 4294967296) {l : List Int} {c : Int} {x : Wr} {s : Int} (hvs : Vs q.xss n E) (hwi : WI 3 q.xss n E l c x) (hve : x.ver = (q.xss.length : Int) ∧ x.ph = 0) (hc : 0 ≤ c ∧ c ≤ 400) (hs : 0 ≤ s ∧ s + 1 = (q.xss.length : Int) * ((n : Int) + 2)) {env : Env} {a : Act} {W : World} (hA : At [(0, 0)] w0 env (fr 180 jE (eE q n s)) (sM 60 q.acts q.xss (hdL q.xss) (hdL q.xss) l c x) a W) :
    (restC 8 b4).wp Tryd.prog (Qc w0) a W := by
  have hn := hvs.n
  have hlen := hvs.len
  have hmul : (q.xss.length : Int) * ((n : Int) + 2) ≤ 10 * 34 := Int.mul_le_mul (by omega) (by omega) (by omega) (by omega)
  refine pieceNT0 (c := cfgM) cfgM_ok 2 jF j_n hA ?_
  refine all_brt (by simp only [decide_eq_true_eq]; exact Iff.rfl) (by omega) ?_
  refine all_brf (p := ¬ (n : Int) ≤ 32) (by simp) (by omega) ?_
  refine all_needq (by simp only [inR_i64]; exact Iff.rfl) (by omega) ?_
  refine all_needq (by simp only [inR_i64]; exact Iff.rfl) (by omega) ?_
  refine all_needq (by simp only [inR_i64]; exact Iff.rfl) (by omega) ?_
  refine all_brf (p := ¬ s + 1 = (q.xss.length : Int) * ((n : Int) + 2)) (by rw [bne_iff_ne]) (by rw [hs.2]; simp) ?_
  refine all_ret fun env1 a1 w1 hA1 => ?_
  simp only [Ex.to, Exit.then]
  have hA9 := hA1.segs 9 (l' := [.c (.lit .i64 3), .c (.int .i64 (n : Int)), .c (.lit .i64 0), .c (.lit .i64 0), .c (.lit .u32 0), .a (encInt .u32) 32 z32, .c (.bl false), .c (.lit .i64 0)]) rfl (by
    intro s hs
    simp only [List.mem_cons, List.not_mem_nil, or_false] at hs
    rcases hs with rfl | rfl | rfl | rfl | rfl | rfl | rfl | rfl
    all_goals first | trivial | exact List.length_replicate) (fun cs h => denL_gen2 (by kernel_rfl) h)
  have hA10 : At [(0, 0)] w0 env1 (fr 180 jF (eF q n)) (sWs q l c x (rd0 3 n)) a1 w1 := hA9.gen rfl
  refine (show r4.wp Tryd.prog (Qc w0) a1 w1 from wpS (by kernel_rfl) (wpS (by kernel_rfl) ?_))
  refine (show rreg4.wp _ _ _ _ from ?_)
  refine pieceT0 (c := cfgM) cfgM_ok jG j_rg hA10 (all_ret fun env3 a3 w3 hA3 => ?_)
  simp only [Ex.to, Exit.then]
  have hA4 := hA3.gvals (eG q n ((1 : Nat) : Int)) rfl
  have hrb : RB q n E 1 l c x (rd0 3 n) := ⟨hvs, hwi, hve, rd0_ok hn (by omega) hwi.ok.kl.2 (by omega), ⟨rfl, rfl, fun h => absurd rfl h⟩, by omega, .inl ⟨by omega, by omega, ⟨rfl, rfl, .inl ⟨rfl, rfl⟩⟩⟩⟩
  refine (show rblk4.wp _ _ _ _ from wpB 2 (by kernel_rfl) (wpL (by kernel_rfl) (InvB w0 q n E) (fun k => 100 - k) 1 ⟨l, c, x, rd0 3 n, hrb, env3, hA4⟩ ?_))
  intro k a w hk
  exact rround4_ok hE hE2 hk
theorem cfgW4_ok {q : InW} {l : List Int} {c : Int} {x : Wr} : SmOk (cfgW4 q (hdL q.xss) (hdL q.xss) l c x (wNext 60 q.xss x l c).l (wNext 60 q.xss x l c).c (wNext 60 q.xss x l c).x (wNext 60 q.xss x l c).b (WOk 60 q.xss l c x)) := by
  intro F G h
  simp only [cfgW4] at h
  split at h
  · simp only [Option.some.injEq] at h; subst h
    exact smEq_ok (c := cfgW4 q (hdL q.xss) (hdL q.xss) l c x (wNext 60 q.xss x l c).l (wNext 60 q.xss x l c).c (wNext 60 q.xss x l c).x (wNext 60 q.xss x l c).b (WOk 60 q.xss l c x)) fun h env w vs hg hr hd => w_step h env w vs hg hr hd
  · cases h
def InvA (w0 : From) (q : InW) (n : Nat) (E : Int) (s : Nat) (a : Act) (W : World) : Prop :=
  ∃ l c x, WI 3 q.xss n E l c x ∧ x.ver < (q.xss.length : Int) ∧ pW n x = (s : Int) ∧ (0 ≤ c ∧ c ≤ 1 + (s : Int)) ∧ ∃ env, At [(0, 0)] w0 env (fr 180 jE (eE q n (s : Nat))) (sM 60 q.acts q.xss (hdL q.xss) (hdL q.xss) l c x) a W
abbrev RAt (w0 : From) (q : InW) (n : Nat) (E : Int) (s : Nat) : Exit → Act → World → Prop :=
  Exit.then (fun a' w' => ∃ j, InvA w0 q n E j a' w' ∧ 1000 - j < 1000 - s) (Exit.inBlock 0 (Exit.then ((restC 8 b4).wp Tryd.prog (Qc w0)) (Qc w0)))
theorem pw_lt {xss : List (List Int)} {n : Nat} {E : Int} {a : Nat} {l : List Int} {c : Int} {x : Wr} (hv : Vs xss n E) (h : WI a xss n E l c x) (hlt : x.ver < (xss.length : Int)) : 0 ≤ pW n x ∧ pW n x ≤ 340 := by
  have hn := hv.n
  have hlen := hv.len
  have hw := h.ok.v
  have hi := h.ok.i
  have hp := h.ok.p
  have hr := hv.row x.ver.toNat (by omega)
  rw [hr] at hi
  have h1 : x.ver * ((n : Int) + 2) ≤ 9 * 34 := Int.mul_le_mul (by omega) (by omega) (by omega) (by omega)
  have h2 : 0 ≤ x.ver * ((n : Int) + 2) := Int.mul_nonneg hw.1 (by omega)
  unfold pW
  split
  · omega
  · split
    · rename_i h3
      have := hi h3
      omega
    · omega
set_option maxHeartbeats 4000000 in
theorem wround4_ok {w0 : From} {q : InW} {n : Nat} {E : Int} (hE : bitop .andNot .u32 q.first 1 = E) (hE2 : 0 ≤ E ∧ E < 4294967296) (hvs : Vs q.xss n E) {s : Nat} {a : Act} {W : World} (hI : InvA w0 q n E s a W) : wround4.wp Tryd.prog (RAt w0 q n E s) a W := by
  obtain ⟨l, c, x, hwi, hlt, hp, hc, env, hA⟩ := hI
  have hpl := pw_lt hvs hwi hlt
  obtain ⟨g1, g2, g3⟩ := pw_step hvs (by omega) hwi hlt
  refine wpS (by kernel_rfl) ?_
  refine pieceT0 (c := cfgW4 q (hdL q.xss) (hdL q.xss) l c x (wNext 60 q.xss x l c).l (wNext 60 q.xss x l c).c (wNext 60 q.xss x l c).x (wNext 60 q.xss x l c).b (WOk 60 q.xss l c x)) cfgW4_ok jE j_wt hA ?_
  refine all_eq ⟨rfl, rfl, hwi.ok⟩ ?_
  have hwi2 := wi_step hvs (by omega) hwi (by omega)
  generalize (wNext 60 q.xss x l c).l = l1 at *
  generalize (wNext 60 q.xss x l c).c = c1 at *
  generalize (wNext 60 q.xss x l c).x = x1 at *
  generalize (wNext 60 q.xss x l c).b = b at *
  rcases g3 with ⟨rfl, h2⟩ | ⟨rfl, h2, h3⟩
  · refine all_br (fun _ => all_ret fun env1 a1 w1 hA1 => ?_) (fun hh => by cases hh)
    simp only [Ex.to, Exit.then]
    refine (show (rgt wround4).wp _ _ _ _ from wpB 1 (by kernel_rfl) ?_)
    refine (show wbb4.wp _ _ _ _ from ?_)
    refine pieceT0 (c := cfgM) cfgM_ok jE j_wb hA1 ?_
    refine all_needq (by simp only [inR_i64]; exact Iff.rfl) (by omega) ?_
    refine all_brf (by simp only [decide_eq_true_eq]; exact Iff.rfl) (by omega) ?_
    refine all_ret fun env2 a2 w2 hA2 => ?_
    simp only [Ex.to, Exit.inBlock, Exit.then]
    exact ⟨s + 1, ⟨l1, c1, x1, hwi2, h2, by omega, by omega, env2, hA2⟩, by omega⟩
  · refine all_br (fun hh => by cases hh) (fun _ => all_ret fun env1 a1 w1 hA1 => ?_)
    simp only [Ex.to, Exit.then, Exit.inBlock, if_true]
    have e1 : pW n x1 = (q.xss.length : Int) * ((n : Int) + 2) := by
      unfold pW; rw [if_pos h3, h2]; omega
    exact read_ok hE hE2 hvs hwi2 ⟨h2, h3⟩ (by omega) (by omega) hA1
end Go.Proofs.YtmknmbacecjfmaaDoor

/- SeqlockCalm: from its beginning. -/
namespace Go.Proofs.YtmknmbacecjfmaaDoor
open Go Go.Proofs.YtmknmbacecjfmaaDoor.Sx
set_option linter.unusedVariables false
theorem b4_eq : Tryd.f4.body = some b4 := by kernel_rfl
set_option maxRecDepth 100000 in
set_option maxHeartbeats 8000000 in
theorem calm_call {q : InW} {bb : Int} (hsz : q.xss.length * 24 ≤ 140737488355328) (hus : ∀ i, U32s (q.xss.getD i [])) {e0 e1 e2 e3 : Slot} (he : e0.blk = 0 ∧ e0.off = 0) {w : World} {v0 v1 v2 : Value} (hr : Rep [e0, e1, e2, e3] (s0W q (hdL q.xss)) w) (h0 : Den [e0, e1, e2, e3] (.int .u32 q.first) v0) (h1 : Den [e0, e1, e2, e3] (vsV q.xss q.cp) v1) (h2 : Den [e0, e1, e2, e3] (.int .u8 bb) v2) :
    Calls Tryd.prog 4 ⟨[v0, v1, v2]⟩ w (Said ⟨w, fun _ => False⟩) := by
  refine call_begin (c := cfgM) Tryd.func4 b4_eq (args := [.int .u32 q.first, vsV q.xss q.cp, .int .u8 bb]) (by
    intro p hp
    rw [List.mem_singleton.1 hp]
    exact ⟨e0, rfl, he⟩) hr ⟨_, _, rfl, h0, _, _, rfl, h1, _, _, rfl, h2, rfl⟩ (F := fun _ => False) (fun x h => noFootW x h) ?_
  intro a hA
  have hhl := hdL_len q.xss
  refine pieceNT0 (c := cfgM) cfgM_ok 2 jA (j_a (hs := hdL q.xss) (bb := bb)) hA (all_ret fun env1 a1 w1 hA1 => ?_)
  simp only [Ex.to, Exit.then]
  have hA2 := hA1.segs 5 (l' := [.a (encInt .u32) 60 z60]) rfl (by intro s hs; rw [List.mem_singleton.1 hs]; exact List.length_replicate) (fun cs h => denL_gen2 (by kernel_rfl) h)
  have hA3 := hA2.perm [0, 1, 2, 3, 5, 4] (by kernel_rfl) (by kernel_rfl) (st' := inS q.xss (hdL q.xss) ++ [.ro (encInt .u8) q.acts, .own [.a (encInt .u32) 60 z60] 22, .own [.c (.sli 4 (.c 0) 1 (.c 60) (some (.c 60))), .c (.lit .i64 0)] 68]) (vals' := eA q) (by kernel_rfl) (by kernel_rfl)
  have hA4 : At [(0, 0)] ⟨w, fun _ => False⟩ _ (fr 180 jA (eA q)) (sI 60 q.acts q.xss (hdL q.xss) z60 0) a1 w1 := hA3.gen rfl
  refine (show (restC 2 b4).wp Tryd.prog (Qc ⟨w, fun _ => False⟩) a1 w1 from ?_)
  by_cases hok : okV q.xss
  · refine pieceNT0 (c := cfgNw 60 q.acts (.lit .i64 3) q.xss (hdL q.xss) q.cp z60 0 True (.tup [.ptr 8 0, .lit .i64 0]) (sM 60 q.acts q.xss (hdL q.xss) (hdL q.xss) z60 0 (wr0 3))) (cfgNw_ok fun _ env w vs hg hr hd => newL_ok hsz hok env w vs hg hr hd) 1 jB (j_b (a := 3)) hA4 ?_
    refine all_eq ⟨rfl, rfl, trivial⟩ (all_ret fun env5 a5 w5 hA5 => ?_)
    simp only [Ex.to, Exit.then]
    refine (show (restC 3 b4).wp Tryd.prog (Qc ⟨w, fun _ => False⟩) a5 w5 from ?_)
    refine pieceNT0 (c := cfgFw (sM 60 q.acts q.xss (hdL q.xss) (hdL q.xss) z60 0 (wr0 3)) q.xss q.cp True (fewB q.xss)) (cfgFw_ok (rest := [.ro (encInt .u8) q.acts] ++ memS 60 z60 0 ++ wrS 6 (wr0 3) q.xss (hdL q.xss)) rfl) 1 (6 :: jC) j_c hA5 ?_
    refine all_eq rfl (all_eq ⟨rfl, rfl, trivial⟩ ?_)
    have sayT : ∀ {env : Env} {a : Act} {W : World} {vs : List SVal} {S : St}, At [(0, 0)] ⟨w, fun _ => False⟩ env (fr 180 ([6] ++ jC) ([.bl true] ++ vs)) S a W → Qc ⟨w, fun _ => False⟩ .ret a W := by
      intro env a W vs S hA
      have hA1 : At [(0, 0)] ⟨w, fun _ => False⟩ env (fr 180 [6] [.bl true]) S a W := At.few (names := [6]) (extra := jC) (vals := [.bl true]) (ev := vs) hA rfl
      exact At.said (c := cfgM) hA1 (by kernel_rfl)
    refine all_brp (p := ¬ fewV q.xss) (by rw [← fewB_iff]; simp) (fun hn => all_eq rfl (all_ret fun env6 a6 w6 hA6 => sayT hA6)) (fun hf => ?_)
    have hf : fewV q.xss := Classical.not_not.1 hf
    refine all_brp (by exact beq_iff_eq) (fun hn => all_eq rfl (all_ret fun env6 a6 w6 hA6 => sayT hA6)) (fun hne => all_ret fun env6 a6 w6 hA6 => ?_)
    simp only [Ex.to, Exit.then]
    have hA7 : At [(0, 0)] ⟨w, fun _ => False⟩ env6 (fr 180 jC (eC q)) (sM 60 q.acts q.xss (hdL q.xss) (hdL q.xss) z60 0 (wr0 3)) a6 w6 := hA6.drop1 rfl
    have hlen : 1 ≤ q.xss.length := by omega
    have hlen2 := hf.1
    have hget := hdL_get (xss := q.xss) (i := 0) (by omega)
    have hn0 := (hok 0 (by omega)).1
    have hrow : ∀ i, i < q.xss.length → (q.xss.getD i []).length = (q.xss.getD 0 []).length := fun i hi => (hok i hi).2
    have ht := @j_d q (hdL q.xss) (hdL q.xss) z60 0 (wr0 3)
    rw [hget] at ht
    generalize hN : (q.xss.getD 0 []).length = n at *
    refine (show (restC 4 b4).wp Tryd.prog (Qc ⟨w, fun _ => False⟩) a6 w6 from ?_)
    refine pieceNT0 (c := cfgM) cfgM_ok 3 jE ht hA7 ?_
    obtain ⟨ev1, ev2, ev3⟩ := andNot_even q.first
    have eW : (z60.set 3 (bitop BinOp.or IntKind.u32 (bitop BinOp.and IntKind.u32 (z60.getD 3 (0 : Int)) (0 : Int)) (bitop BinOp.andNot IntKind.u32 q.first (1 : Int)))).set 3 (IntKind.u32.wrap ((z60.set 3 (bitop BinOp.or IntKind.u32 (bitop BinOp.and IntKind.u32 (z60.getD 3 (0 : Int)) (0 : Int)) (bitop BinOp.andNot IntKind.u32 q.first (1 : Int)))).getD 3 (0 : Int) + (0 : Int))) = z60.set 3 (bitop BinOp.andNot IntKind.u32 q.first 1) := by
      rw [Sx.getD_set_self (by simp), List.set_set, raw_set, Int.emod_eq_of_lt ev2 ev3]
    rw [eW]
    generalize hEE : bitop BinOp.andNot IntKind.u32 q.first 1 = E at *
    refine all_needq (by simp only [decide_eq_true_eq]; exact Iff.rfl) (by omega) ?_
    refine all_needq (by simp only [decide_eq_true_eq]; exact Iff.rfl) (by omega) ?_
    refine all_br (fun hh => by cases hh) (fun _ => ?_)
    refine all_needq (by simp only [inR_i64]; exact Iff.rfl) (by omega) ?_
    repeat' (first
      | refine all_need rfl (fun _ => ?_)
      | refine all_eq trivial ?_
      | refine all_eq rfl ?_)
    refine all_ret fun env8 a8 w8 hA8 => ?_
    simp only [Ex.to, Exit.then]
    have hA9 := hA8.gvals (eE q n ((0 : Nat) : Int)) rfl
    have hA10 : At [(0, 0)] ⟨w, fun _ => False⟩ env8 (fr 180 jE (eE q n ((0 : Nat) : Int))) (sM 60 q.acts q.xss (hdL q.xss) (hdL q.xss) (z60.set 3 E) 1 (wr0 3)) a8 w8 := hA9.gen rfl
    have hvs : Vs q.xss n E := ⟨⟨hlen, hlen2⟩, hrow, by omega, ev1⟩
    have hz : ∀ j : Nat, (z60.set 3 E).getD (3 + 1 + j) 0 = 0 := by
      intro j
      rw [Sx.getD_set_ne (by omega), List.getD_eq_getElem?_getD, List.getElem?_replicate]
      split <;> rfl
    have hwi : WI 3 q.xss n E (z60.set 3 E) 1 (wr0 3) := ⟨⟨⟨by omega, by simp⟩, hok, hus, by omega, by omega, by simp only; omega, by simp only; omega, by simp only; omega, fun h => by simp only at h; omega, fun h => by simp only at h; omega⟩, rfl, by
      rw [Sx.getD_set_self (by simp)]
      simp only [if_true]
      omega, fun _ j _ => by rw [hz j]; rfl, fun h => absurd rfl h⟩
    refine (show (restC 7 b4).wp Tryd.prog (Qc ⟨w, fun _ => False⟩) a8 w8 from wpS (by kernel_rfl) ?_)
    refine (show w4.wp _ _ _ _ from wpB 0 (by kernel_rfl) (wpL (by kernel_rfl) (InvA ⟨w, fun _ => False⟩ q n E) (fun s => 1000 - s) 0 ⟨_, _, _, hwi, by simp only; omega, by unfold pW; simp, by omega, env8, hA10⟩ ?_))
    intro s a w h
    exact wround4_ok hEE ⟨ev2, ev3⟩ hvs h
  · refine pieceNT0 (c := cfgNw 60 q.acts (.lit .i64 3) q.xss (hdL q.xss) q.cp z60 0 True (.tup [.pnil, .lit .i64 100]) (sI 60 q.acts q.xss (hdL q.xss) z60 0)) (cfgNw_ok fun _ env w vs hg hr hd => newL_no hsz hok env w vs hg hr hd) 1 jB j_bn hA4 ?_
    refine all_eq ⟨rfl, rfl, trivial⟩ (all_ret fun env5 a5 w5 hA5 => ?_)
    simp only [Ex.to, Exit.then]
    refine (show (restC 3 b4).wp Tryd.prog (Qc ⟨w, fun _ => False⟩) a5 w5 from ?_)
    refine pieceNT0 (c := cfgFw (sI 60 q.acts q.xss (hdL q.xss) z60 0) q.xss q.cp True (fewB q.xss)) (cfgFw_ok (rest := [.ro (encInt .u8) q.acts] ++ memS 60 z60 0) rfl) 1 [6] j_cn hA5 ?_
    repeat' (first
      | refine all_eq ⟨rfl, rfl, trivial⟩ ?_
      | refine all_eq rfl ?_
      | refine all_br (fun _ => ?_) (fun _ => ?_)
      | exact all_ret fun _ _ _ h => h.said (by kernel_rfl))
end Go.Proofs.YtmknmbacecjfmaaDoor

/- SeqlockCalm: its row and its card. -/
namespace Go.Proofs.YtmknmbacecjfmaaDoor
open Go Go.Proofs.YtmknmbacecjfmaaDoor.Sx Go.ChangeShapes Go.WideShapes Go.ChangeAt Go.RowKit
set_option linter.unusedVariables false
set_option maxRecDepth 100000 in
theorem seqlockCalm_lifted (os : Os) (started : os.Started) (H : Type) (enc : TypeId × Value → H) :
    ReturnsInHanded {} Tryd.checked os 4 .any (fun w args => (Rows.seqlockCalmSpec.pre enc Tryd.prog Tryd.f4 [] false w args ∧ laidMetH Tryd.prog laid1 w) ∧ sizedMet enc Tryd.prog Tryd.f4 (OpenSpec.ofChange Rows.seqlockCalmSpec) false w args)
      (Rows.seqlockCalmSpec.post enc Tryd.prog Tryd.f4 false true false false) := by
  refine returnsInHanded_of_change_and (C := Tryd.checked) (X := fun w _ => laidMetH Tryd.prog laid1 w) (fun _ _ _ hh h => h.of_heap hh) Tryd.own started (by kernel_rfl) Tryd.func4
    (ChangeSpec.witness_shaped (enc := enc) (C := Tryd.checked) (os := os) (X := fun w _ => laidMetH Tryd.prog laid1 w) false (World.doorLaid Tryd.prog 400 os) #[.int .u32 0, .slice none 0 0, .int .u8 0] 8 rfl (World.shaped_of_RefB (by kernel_rfl) (by kernel_rfl)) (by kernel_rfl) (by kernel_rfl) (by kernel_rfl) (door_met os _)) ?_
  intro W base args ds gs before hval0 hW _ hwt hL _
  have hval : ∀ (j : Nat) t v, Tryd.f4.params[j]? = some t → args[j]? = some v → Value.okWide Tryd.prog W .any base t v := hval0
  have hW' := hW
  obtain ⟨p, q, hA0, hV, rfl, hfz, hnd⟩ := hW
  have hA : DataW.TrodAll enc Tryd.prog W 0 (fun _ => true) true Tryd.f4.params.toList args.toList ds p := hA0
  rw [Tryd.params4] at hA hval
  obtain ⟨v0, v1, v2, d0, d1, d2, p0, p1, p2, rfl, rfl, rfl, h0, h1, h2⟩ := trodAll_three hA
  obtain ⟨rfl, rfl⟩ := trodVars_none hV
  obtain ⟨a, rfl, rfl, rfl, wa⟩ := open_int Tryd.underlying22 (hval 0 22 v0 rfl rfl) h0
  obtain ⟨b, rfl, rfl, rfl, wb⟩ := open_int Tryd.underlying5 (hval 2 5 v2 rfl rfl) h2
  clear hA0 hval0
  have hlt1 : ∀ x ∈ p1, x.block < W.heap.size := fun x hx => by simpa using hW'.lt x (by simp [hx])
  obtain ⟨e0, he, hr0⟩ := of_laid hL
  have fin : ∀ e W', Said ⟨W, fun _ => False⟩ e W' → ∃ v, e = .returned v ∧ Rows.seqlockCalmSpec.post enc Tryd.prog Tryd.f4 false true false false W #[.int .u32 a, v1, .int .u8 b] v W' := by
    rintro e W' ⟨rfl, hsz, hk, hc⟩
    have hk' : ∀ x, x < W.heap.size → W'.heap[x]? = W.heap[x]? := fun x hx => hk x hx (fun h => h)
    refine ⟨_, rfl, _, _, _, [], _, [], hW', ⟨[], [], shut_bool Tryd.underlying4 true, rfl, rfl⟩, trodAll_mk3 (shut_int Tryd.underlying22 wa) (trod_same Tryd.laidOut (by kernel_rfl) (of_decide_eq_true (by kernel_rfl)) h1 hk' hlt1) (shut_int Tryd.underlying5 wb), rfl, keptBut_of _ hc hk', fun h => by cases h⟩
  have hwt' : (DataW.weights Tryd.prog 23 d1 ++ DataW.weightsEach Tryd.prog ([5] ++ Rows.seqlockCalmSpec.plain.varTypes Tryd.prog) ([(DataW.lit (.int .u8 b) : DataW H)] ++ [])).all (· ≤ reachBytes) = true := by
    have h9 := hwt
    rw [Tryd.params4] at h9
    simp only [List.cons_append, List.nil_append, DataW.weightsEach, List.all_append, Bool.and_eq_true] at h9 ⊢
    exact h9.2
  obtain ⟨xss, cp, e1, e2, hsz, hus, hr1, hd1⟩ := open_vers (hval 1 23 v1 rfl rfl) h1 hwt' he hr0
  have hr3 : Rep [⟨0, 0, 0, []⟩] [.ro (encInt .u8) ([] : List Int)] W := by
    refine ⟨rfl, ?_, ?_, ?_⟩
    · intro id sl b he hb
      match id with
      | 0 =>
        simp only [List.getElem?_cons_zero, Option.some.injEq] at he hb
        subst he hb
        exact ⟨[], by simp [DenL], by simp⟩
      | n + 1 => simp at he
    · intro i j e f b c hij he hf' hb' hc' x hx''
      match i, j with
      | 0, 0 => exact (hij rfl).elim
      | i + 1, _ => simp at he
      | 0, j + 1 => simp at hf'
    · intro id sl b he hb x hx
      match id with
      | 0 =>
        simp only [List.getElem?_cons_zero, Option.some.injEq] at he hb
        subst he hb
        simp [Blk.supp] at hx
      | n + 1 => simp at he
  obtain ⟨hr, hn1⟩ := ro_add hr1 (by
    intro b hb e
    simp only [List.mem_cons, List.not_mem_nil, or_false] at hb
    rcases hb with rfl | rfl | rfl <;> rfl) rfl hr3
  have g1 : Den ([e0, e1, e2] ++ [(⟨0, 0, 0, []⟩ : Slot)]) (vsV xss cp) v1 := den_wide hd1
  exact (calm_call (q := ⟨a, xss, cp, [], 0⟩) (bb := b) hsz hus he hr rfl g1 (by exact rfl)).mono fun e W' h => fin e W' h
theorem seqlockCalm_row : Rows.SeqlockCalmSaid :=
  OpenClaim.holds_of_wide 4 Tryd.f4 rfl rfl rfl rfl rfl rfl rfl ⟨rfl, rfl, rfl, rfl, rfl⟩ rfl rfl rfl rfl rfl (by kernel_rfl) Tryd.func4 (by kernel_rfl)
    (of_decide_eq_true (by kernel_rfl)) (by unfold Func.isWrapper; first | (rw [if_pos (by decide +kernel)]; kernel_rfl) | (rw [if_neg (by decide +kernel)]; exact ⟨rfl, rfl⟩))
    (fun os started H enc _ => seqlockCalm_lifted os started H enc)
theorem seqlockCalm_holds : Rows.SeqlockCalmCardSaid :=
  Claim7.holds_tied_plain_at .later [] [.data] true _ _ seqlockCalm_row (fun _ h => by cases h) (by kernel_rfl) (fun _ h => by cases h) seqlockCalm_row_tie rfl ⟨rfl, rfl⟩ (by kernel_rfl) rfl
    (fun f fn hf hfn => by
      obtain rfl : f = 4 := Option.some.inj ((show Tryd.prog.funcNamed "purlin/purlinlaw10.SeqlockCalm" = some 4 by kernel_rfl).symm.trans hf) |>.symm
      obtain rfl : fn = Tryd.f4 := (Option.some.inj (Tryd.func4.symm.trans hfn)).symm
      exact ⟨by kernel_rfl, fun j t ht => by
        rw [Tryd.params4] at ht
        have hm : t ∈ [22, 23, 5] := by simpa using Array.mem_of_getElem? ht
        have hall : ([22, 23, 5].all fun u => !Tryd.prog.wantsStandIn u) = true := by kernel_rfl
        exact (show Tryd.prog.wantsStandIn t = false by simpa using List.all_eq_true.1 hall t hm)⟩)
    (by kernel_rfl)
end Go.Proofs.YtmknmbacecjfmaaDoor

