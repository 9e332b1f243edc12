/- The objects of this layer: what they do, step by step. -/
import Derived.Test.YtmknmbacecjfmaaDoorSxC
import Derived.Test.YtmknmbacecjfmaaDoorRows
import Derived.Test.YtmknmbacecjfmaaDoorCards
import Derived.Test.YtmknmbacecjfmaaDoorTie
import Derived.ProofKit
import Derived.LaidMore
import Derived.OpenShut
import Derived.Stop.Joined
/- Layer 10: the configuration; versions as they come in. -/
namespace Go.Proofs.YtmknmbacecjfmaaDoor
open Go Go.Proofs.YtmknmbacecjfmaaDoor.Sx
set_option linter.unusedVariables false
/-- the package's variable, as it was laid -/
def encLook : Enc Unit := encOf 2 (fun _ => [.lit .u32 4294967295, .lit .u32 0, .lit .u32 0]) () (fun _ => rfl) (by intro env env' x vs h; simpa [DenL, Den] using h)
abbrev lookB : Blk := .ro encLook [()]
noncomputable def cfg0 : Cfg := { P := Tryd.prog, ex := fun k => match k with | .i64 => true | _ => false, gl := [(0, 0)], sm := fun _ => none }
theorem cfg0_ok : SmOk cfg0 := by intro f g h; cases h
abbrev awL (i : Nat) : T SVal := T.need true (T.ret ((List.take (1 : Nat) ([[SVal.lit IntKind.u32 (1 : Int)], [SVal.lit IntKind.u32 (2 : Int)]].getD i []) ++ List.replicate (0 : Nat) SVal.bad).getD (0 : Nat) SVal.bad))
set_option maxRecDepth 100000 in
theorem awake_val : (callF cfg0 100 10 [] [lookB]).valE = some (awL 0 = awL 0 ∧ awL 1 = awL 1 ∧ True, .bl true) := by kernel_rfl
noncomputable def exI : IntKind → Bool := fun k => match k with | .i64 => true | _ => false
noncomputable def cfg : Cfg := { P := Tryd.prog, ex := exI, gl := [(0, 0)], sm := fun f => match f with | 10 => some (smClosed [0] [lookB] (.bl true)) | _ => none }
theorem aw_ok : ∀ g, g = smClosed [0] [lookB] (.bl true) → SmOk { cfg0 with sm := fun f => match f with | 10 => some g | _ => none } := by
  intro g hg f g' h
  simp only at h
  split at h
  · simp only [Option.some.injEq] at h; subst h hg
    exact smClosedE_ok cfg0_ok awake_val ⟨rfl, rfl, trivial⟩ (by kernel_rfl) rfl rfl (by intro b hb e; rw [List.mem_singleton.1 hb]; rfl)
  · cases h
theorem cfg_ok : SmOk cfg := by
  intro f g h
  simp only [cfg] at h
  split at h
  · simp only [Option.some.injEq] at h; subst h
    exact smClosedE_ok cfg0_ok awake_val ⟨rfl, rfl, trivial⟩ (by kernel_rfl) rfl rfl (by intro b hb e; rw [List.mem_singleton.1 hb]; rfl)
  · cases h
noncomputable def cfgM : Cfg := { P := Tryd.prog, ex := exI, gl := [(0, 0)], sm := fun _ => none }
theorem cfgM_ok : SmOk cfgM := by intro f g h; cases h
/-- a row's header: which row of the family, and its length -/
def encHd (k : Nat) : Enc (Nat × Nat) where
  tag := .other
  shut := false
  shutOk := by simp
  sz := 1
  enc x := [.slr k x.1 x.2]
  dec l := match l with
    | [.slr i j n] => match Nat.decEq i k with
      | .isTrue _ => some (j, n)
      | _ => none
    | _ => none
  dflt := (0, 0)
  top := some (k + 1)
  topOk := by
    intro t ht m hm x
    simp only [Option.some.injEq] at ht; subst ht
    simp [renL, ren, idx_pref hm (Nat.lt_succ_self k)]
  pos := by omega
  len _ := rfl
  ok := by
    intro env l x vs h hd
    split at h
    · split at h
      · rename_i e _
        simp only [Option.some.injEq] at h; subst h; subst e; exact hd
      · cases h
    · cases h
/-- headers, of which the last may be a fresh row's: that one bears another name -/
def encHn (k o : Nat) : Enc (Bool × Nat × Nat) where
  tag := .other
  shut := false
  shutOk := by simp
  sz := 1
  enc x := match x with
    | (true, i, n) => [.slr k i n]
    | (false, i, n) => [.sli o (.c 0) 1 (.v n) none]
  dec l := match l with
    | [.slr i j n] => match Nat.decEq i k with
      | .isTrue _ => some (true, j, n)
      | _ => none
    | [.sli i (.c 0) s (.v n) none] => match Nat.decEq i o, Nat.decEq s 1 with
      | .isTrue _, .isTrue _ => some (false, 0, n)
      | _, _ => none
    | _ => none
  dflt := (true, 0, 0)
  pos := by omega
  len x := by
    obtain ⟨b, i, n⟩ := x
    cases b <;> rfl
  ok := by
    intro env l x vs h hd
    split at h
    · split at h
      · rename_i e _
        simp only [Option.some.injEq] at h; subst h; subst e; exact hd
      · cases h
    · split at h
      · rename_i e1 e2 _ _
        simp only [Option.some.injEq] at h; subst h; subst e1 e2; exact hd
      · cases h
    · cases h
def hdL (xss : List (List Int)) : List (Nat × Nat) := (List.range xss.length).map fun i => (i, (xss.getD i []).length)
theorem hdL_len (xss : List (List Int)) : (hdL xss).length = xss.length := by simp [hdL]
theorem hdL_get {xss : List (List Int)} {i : Nat} (h : i < xss.length) : (hdL xss).getD i (0, 0) = (i, (xss.getD i []).length) := by
  unfold hdL
  rw [List.getD_eq_getElem?_getD, List.getElem?_map, List.getElem?_range h]
  rfl
theorem hdL_app (xss : List (List Int)) (l : List Int) : hdL (xss ++ [l]) = hdL xss ++ [(xss.length, l.length)] := by
  unfold hdL
  rw [List.length_append, List.length_singleton, List.range_succ, List.map_append]
  congr 1
  · refine List.map_congr_left fun i hi => ?_
    rw [List.mem_range] at hi
    rw [Sx.getD_append_left hi]
  · simp [Sx.getD_append_len]
/-- versions as they come in, or as a writer keeps them -/
abbrev inS (xss : List (List Int)) (hs : List (Nat × Nat)) : St := [lookB, .ro (encHd 2) hs, .rows false .u32 xss]
abbrev vsV (xss : List (List Int)) (cp : Nat) : SVal := .sli 1 (.c 0) 1 (.v xss.length) (some (.v cp))
end Go.Proofs.YtmknmbacecjfmaaDoor

/- Layer 10: a writer is made: pieces. -/
namespace Go.Proofs.YtmknmbacecjfmaaDoor
open Go Go.Proofs.YtmknmbacecjfmaaDoor.Sx
set_option linter.unusedVariables false
noncomputable def b9 : Code := Tryd.f9.body.getD .skip
noncomputable def c9 : Code := restC 2 b9
noncomputable def reg9 : Code := lft (lft c9)
noncomputable def blk9 : Code := rgt (lft c9)
noncomputable def round9 : Code := lft (lft blk9)
noncomputable def bb9 : Code := lft (lft (restC 2 round9))
noncomputable def app9 : Code := restC 2 bb9
noncomputable def inc9 : Code := rgt (restC 2 round9)
noncomputable def end9 : Code := rgt c9
/-- a writer, but for its versions -/
structure Wr where
  at' : Int
  i : Int
  ph : Int
  ver : Int
abbrev wrB (k : Nat) (x : Wr) (n : Nat) : Blk := .own [.c (.int .i64 x.at'), .c (.int .i64 x.i), .c (.int .i64 x.ph), .c (.sli k (.c 0) 1 (.v n) none), .c (.int .i64 x.ver)] 70
/-- its rows, their headers, and the writer -/
abbrev wrS (k : Nat) (x : Wr) (yss : List (List Int)) (gs : List (Nat × Nat)) : St := [.rows true .u32 yss, .vec (encHd k) gs 34, wrB (k + 1) x gs.length]
abbrev wr0 (a : Int) : Wr := ⟨a, 0, 0, 0⟩
abbrev sNW (xss yss : List (List Int)) (hs gs : List (Nat × Nat)) (a : Int) : St := inS xss hs ++ wrS 3 (wr0 a) yss gs
/-- the same, where a fresh row is to come -/
abbrev sNWn (xss yss : List (List Int)) (hs : List (Nat × Nat)) (gs : List (Bool × Nat × Nat)) (a : Int) : St := inS xss hs ++ [.rows true .u32 yss, .vec (encHn 3 7) gs 34, wrB 4 (wr0 a) gs.length]
abbrev vNW (xss : List (List Int)) (cp : Nat) : List SVal := [vsV xss cp, .ptr 5 0]
abbrev vNWi (xss : List (List Int)) (cp i : Nat) : List SVal := [vsV xss cp, .ptr 5 0, vsV xss cp, .int .i64 (xss.length : Nat), .int .i64 (i : Nat)]
abbrev n9 : List Nat := [1, 6]
abbrev n9i : List Nat := [1, 6, 12, 13, 14]
abbrev n9v : List Nat := [1, 6, 12, 13, 14, 8]
abbrev n9b : List Nat := [4, 5, 1, 6, 12, 13, 14, 8]
end Go.Proofs.YtmknmbacecjfmaaDoor

namespace Go.Proofs.YtmknmbacecjfmaaDoor
open Go Go.Proofs.YtmknmbacecjfmaaDoor.Sx
set_option linter.unusedVariables false
set_option maxRecDepth 100000 in
theorem w_pre {xss : List (List Int)} {hs : List (Nat × Nat)} {cp : Nat} {a : Int} : (execN cfgM 100 2 b9 ([.int .i64 a, vsV xss cp] ++ List.replicate 43 .bad) (inS xss hs)).bind (canonK 3 [(0,0)] 45 n9) =
 

 (.ret (.normal, [.sli 1 (.c 0) 1 (.v xss.length) (some (.v cp)), .ptr 3 0], [.ro encLook [PUnit.unit], .ro (encHd 2) hs, Blk.rows false IntKind.u32 xss, .own [.c (.int .i64 a), .c (.lit .i64 (0 : Int)), .c (.lit .i64 (0 : Int)), .c .snil, .c (.lit .i64 (0 : Int))] 70])) := by kernel_rfl
set_option maxRecDepth 100000 in
theorem w_reg {xss yss : List (List Int)} {hs gs : List (Nat × Nat)} {cp : Nat} {a : Int} : (exec cfgM 100 reg9 (fr 45 n9 (vNW xss cp)) (sNW xss yss hs gs a)).bind (canonK 6 [(0,0)] 45 n9i) =
 

 (.ret (.normal, [.sli 1 (.c 0) 1 (.v xss.length) (some (.v cp)), .ptr 5 0, .sli 1 (.c 0) 1 (.v xss.length) (some (.v cp)), .int .i64 (↑xss.length : Int), .lit .i64 (0 : Int)], [.ro encLook [PUnit.unit], .ro (encHd 2) hs, Blk.rows false IntKind.u32 xss, Blk.rows true IntKind.u32 yss, .vec (encHd 3) gs 34, .own [.c (.int .i64 a), .c (.int .i64 (0 : Int)), .c (.int .i64 (0 : Int)), .c (.sli 4 (.c 0) 1 (.v gs.length) none), .c (.int .i64 (0 : Int))] 70])) := by kernel_rfl
set_option maxRecDepth 100000 in
theorem w_tm {xss yss : List (List Int)} {hs gs : List (Nat × Nat)} {cp i : Nat} {a : Int} : (execN cfgM 100 2 round9 (fr 45 n9i (vNWi xss cp i)) (sNW xss yss hs gs a)).bind (canonK 6 [(0,0)] 45 n9i) =
 

 (.br (decide ((↑i : Int) < (↑xss.length : Int)))

 (.ret (.normal, [.sli 1 (.c 0) 1 (.v xss.length) (some (.v cp)), .ptr 5 0, .sli 1 (.c 0) 1 (.v xss.length) (some (.v cp)), .int .i64 (↑xss.length : Int), .int .i64 (↑i : Int)], [.ro encLook [PUnit.unit], .ro (encHd 2) hs, Blk.rows false IntKind.u32 xss, Blk.rows true IntKind.u32 yss, .vec (encHd 3) gs 34, .own [.c (.int .i64 a), .c (.int .i64 (0 : Int)), .c (.int .i64 (0 : Int)), .c (.sli 4 (.c 0) 1 (.v gs.length) none), .c (.int .i64 (0 : Int))] 70]))

 (.ret (.exit 0, [.sli 1 (.c 0) 1 (.v xss.length) (some (.v cp)), .ptr 5 0, .sli 1 (.c 0) 1 (.v xss.length) (some (.v cp)), .int .i64 (↑xss.length : Int), .int .i64 (↑i : Int)], [.ro encLook [PUnit.unit], .ro (encHd 2) hs, Blk.rows false IntKind.u32 xss, Blk.rows true IntKind.u32 yss, .vec (encHd 3) gs 34, .own [.c (.int .i64 a), .c (.int .i64 (0 : Int)), .c (.int .i64 (0 : Int)), .c (.sli 4 (.c 0) 1 (.v gs.length) none), .c (.int .i64 (0 : Int))] 70]))) := by kernel_rfl
set_option maxRecDepth 100000 in
theorem w_bb {xss yss : List (List Int)} {hs gs : List (Nat × Nat)} {cp i : Nat} {a : Int} : (execN cfgM 100 2 bb9 (fr 45 n9i (vNWi xss cp i)) (sNW xss yss hs gs a)).bind (canonK 6 [(0,0)] 45 n9b) =
 

 (.need (decide ((0 : Int) ≤ (↑i : Int)) && decide ((↑i : Int).toNat < xss.length))

 (.need (decide ((↑i : Int).toNat < hs.length))

 (.br (decide ((1 : Int) ≤ (↑(hs.getD (↑i : Int).toNat (0, 0)).snd : Int)))

 (.br (!decide ((↑(hs.getD (↑i : Int).toNat (0, 0)).snd : Int) ≤ (32 : Int)))

 (.ret (.ret, [.pnil, .lit .i64 (100 : Int), .sli 1 (.c 0) 1 (.v xss.length) (some (.v cp)), .ptr 5 0, .sli 1 (.c 0) 1 (.v xss.length) (some (.v cp)), .int .i64 (↑xss.length : Int), .int .i64 (↑i : Int), SVal.slr 2 (hs.getD (↑i : Int).toNat (0, 0)).fst (hs.getD (↑i : Int).toNat (0, 0)).snd], [.ro encLook [PUnit.unit], .ro (encHd 2) hs, Blk.rows false IntKind.u32 xss, Blk.rows true IntKind.u32 yss, .vec (encHd 3) gs 34, .own [.c (.int .i64 a), .c (.int .i64 (0 : Int)), .c (.int .i64 (0 : Int)), .c (.sli 4 (.c 0) 1 (.v gs.length) none), .c (.int .i64 (0 : Int))] 70]))

 (.need (decide (0 < xss.length))

 (.need (decide (0 < hs.length))

 (.br ((↑(hs.getD (↑i : Int).toNat (0, 0)).snd : Int) != (↑(hs.getD 0 (0, 0)).snd : Int))

 (.ret (.ret, [.pnil, .lit .i64 (100 : Int), .sli 1 (.c 0) 1 (.v xss.length) (some (.v cp)), .ptr 5 0, .sli 1 (.c 0) 1 (.v xss.length) (some (.v cp)), .int .i64 (↑xss.length : Int), .int .i64 (↑i : Int), SVal.slr 2 (hs.getD (↑i : Int).toNat (0, 0)).fst (hs.getD (↑i : Int).toNat (0, 0)).snd], [.ro encLook [PUnit.unit], .ro (encHd 2) hs, Blk.rows false IntKind.u32 xss, Blk.rows true IntKind.u32 yss, .vec (encHd 3) gs 34, .own [.c (.int .i64 a), .c (.int .i64 (0 : Int)), .c (.int .i64 (0 : Int)), .c (.sli 4 (.c 0) 1 (.v gs.length) none), .c (.int .i64 (0 : Int))] 70]))

 (.ret (.normal, [.bad, .bad, .sli 1 (.c 0) 1 (.v xss.length) (some (.v cp)), .ptr 5 0, .sli 1 (.c 0) 1 (.v xss.length) (some (.v cp)), .int .i64 (↑xss.length : Int), .int .i64 (↑i : Int), SVal.slr 2 (hs.getD (↑i : Int).toNat (0, 0)).fst (hs.getD (↑i : Int).toNat (0, 0)).snd], [.ro encLook [PUnit.unit], .ro (encHd 2) hs, Blk.rows false IntKind.u32 xss, Blk.rows true IntKind.u32 yss, .vec (encHd 3) gs 34, .own [.c (.int .i64 a), .c (.int .i64 (0 : Int)), .c (.int .i64 (0 : Int)), .c (.sli 4 (.c 0) 1 (.v gs.length) none), .c (.int .i64 (0 : Int))] 70]))))))

 (.ret (.ret, [.pnil, .lit .i64 (100 : Int), .sli 1 (.c 0) 1 (.v xss.length) (some (.v cp)), .ptr 5 0, .sli 1 (.c 0) 1 (.v xss.length) (some (.v cp)), .int .i64 (↑xss.length : Int), .int .i64 (↑i : Int), SVal.slr 2 (hs.getD (↑i : Int).toNat (0, 0)).fst (hs.getD (↑i : Int).toNat (0, 0)).snd], [.ro encLook [PUnit.unit], .ro (encHd 2) hs, Blk.rows false IntKind.u32 xss, Blk.rows true IntKind.u32 yss, .vec (encHd 3) gs 34, .own [.c (.int .i64 a), .c (.int .i64 (0 : Int)), .c (.int .i64 (0 : Int)), .c (.sli 4 (.c 0) 1 (.v gs.length) none), .c (.int .i64 (0 : Int))] 70]))))) := by kernel_rfl
set_option maxRecDepth 100000 in
theorem w_inc {xss yss : List (List Int)} {hs gs : List (Nat × Nat)} {cp i : Nat} {a : Int} : (exec cfgM 100 inc9 (fr 45 n9i (vNWi xss cp i)) (sNW xss yss hs gs a)).bind (canonK 6 [(0,0)] 45 n9i) =
 

 (.need (inR .i64 ((↑i : Int) + (1 : Int)))

 (.ret (.normal, [.sli 1 (.c 0) 1 (.v xss.length) (some (.v cp)), .ptr 5 0, .sli 1 (.c 0) 1 (.v xss.length) (some (.v cp)), .int .i64 (↑xss.length : Int), .int .i64 ((↑i : Int) + (1 : Int))], [.ro encLook [PUnit.unit], .ro (encHd 2) hs, Blk.rows false IntKind.u32 xss, Blk.rows true IntKind.u32 yss, .vec (encHd 3) gs 34, .own [.c (.int .i64 a), .c (.int .i64 (0 : Int)), .c (.int .i64 (0 : Int)), .c (.sli 4 (.c 0) 1 (.v gs.length) none), .c (.int .i64 (0 : Int))] 70]))) := by kernel_rfl
set_option maxRecDepth 100000 in
theorem w_end {xss yss : List (List Int)} {hs gs : List (Nat × Nat)} {cp i : Nat} {a : Int} : (exec cfgM 100 end9 (fr 45 n9i (vNWi xss cp i)) (sNW xss yss hs gs a)).bind (canonK 6 [(0,0)] 45 [4, 5]) =
 

 (.ret (.ret, [.ptr 5 0, .lit .i64 (0 : Int)], [.ro encLook [PUnit.unit], .ro (encHd 2) hs, Blk.rows false IntKind.u32 xss, Blk.rows true IntKind.u32 yss, .vec (encHd 3) gs 34, .own [.c (.int .i64 a), .c (.int .i64 (0 : Int)), .c (.int .i64 (0 : Int)), .c (.sli 4 (.c 0) 1 (.v gs.length) none), .c (.int .i64 (0 : Int))] 70])) := by kernel_rfl
set_option maxRecDepth 100000 in
theorem w_app {xss yss : List (List Int)} {hs : List (Nat × Nat)} {gs : List (Bool × Nat × Nat)} {cp i j n : Nat} {a : Int} : (exec cfgM 100 app9 (fr 45 n9v (vNWi xss cp i ++ [.slr 2 j n])) (sNWn xss yss hs gs a)).bind (rawN 45 n9i) =
 

 (.need (decide (j < xss.length) && decide (n ≤ (xss.getD j []).length))

 (.need (decide (j < xss.length) && decide (n ≤ (xss.getD j []).length))

 (.need (roomy (List.take n (xss.getD j [])).length 4)

 (.need (true)

 (.need (decide (gs.length = gs.length))

 (.need (roomy (gs.length + 1) 24)
 (.eq (T.ret (SVal.sli (4 : Nat) (NN.c (0 : Nat)) (1 : Nat) (NN.v gs.length) none) = T.ret (SVal.sli (4 : Nat) (NN.c (0 : Nat)) (1 : Nat) (NN.v gs.length) none))
 (.eq (T.ret (SVal.sli (4 : Nat) (NN.c (0 : Nat)) (1 : Nat) (NN.v gs.length) none) = T.ret (SVal.sli (4 : Nat) (NN.c (0 : Nat)) (1 : Nat) (NN.v gs.length) none))
 (.eq (T.ret (SVal.sli (4 : Nat) (NN.c (0 : Nat)) (1 : Nat) (NN.v gs.length) none) = T.ret (SVal.sli (4 : Nat) (NN.c (0 : Nat)) (1 : Nat) (NN.v gs.length) none))
 (.eq (T.ret (SVal.sli (4 : Nat) (NN.c (0 : Nat)) (1 : Nat) (NN.v gs.length) none) = T.ret (SVal.sli (4 : Nat) (NN.c (0 : Nat)) (1 : Nat) (NN.v gs.length) none))

 (.ret (.normal, [.sli 1 (.c 0) 1 (.v xss.length) (some (.v cp)), .ptr 5 0, .sli 1 (.c 0) 1 (.v xss.length) (some (.v cp)), .int .i64 (↑xss.length : Int), .int .i64 (↑i : Int)], [.ro encLook [PUnit.unit], .ro (encHd 2) hs, Blk.rows false IntKind.u32 xss, Blk.rows true IntKind.u32 yss, .gone, .own [.c (.int .i64 a), .c (.int .i64 (0 : Int)), .c (.int .i64 (0 : Int)), .c (.sli 9 (.c 0) 1 (.v (gs.length + 1)) none), .c (.int .i64 (0 : Int))] 70, .gone, .vec (encInt IntKind.u32) (List.take n (xss.getD j [])) 22, .own [.c (.sli 7 (.c 0) 1 (.v (List.take n (xss.getD j [])).length) none)] 34, .vec (encHn 3 7) ((List.brecOn.go (motive := fun x => List (Bool × Nat × Nat) → List (Bool × Nat × Nat)) gs List.append._f).1 [(false, 0, (List.take n (xss.getD j [])).length)]) 34])))))))))))) := by kernel_rfl
end Go.Proofs.YtmknmbacecjfmaaDoor

/- Layer 10: a writer is made. -/
namespace Go.Proofs.YtmknmbacecjfmaaDoor
open Go Go.Proofs.YtmknmbacecjfmaaDoor.Sx
set_option linter.unusedVariables false
/-- versions that a writer takes -/
def okV (xss : List (List Int)) : Prop := ∀ i, i < xss.length → (1 ≤ (xss.getD i []).length ∧ (xss.getD i []).length ≤ 32) ∧ (xss.getD i []).length = (xss.getD 0 []).length
theorem take_succ {xss : List (List Int)} {i : Nat} (h : i < xss.length) : xss.take (i + 1) = xss.take i ++ [xss.getD i []] := by
  rw [List.take_add_one, List.getD_eq_getElem?_getD, List.getElem?_eq_getElem h]
  rfl
theorem flat_hd (k : Nat) : ∀ (gs : List (Nat × Nat)) (o : Nat), (gs.map fun x => (true, x)).flatMap (encHn k o).enc = gs.flatMap (encHd k).enc
  | [], o => rfl
  | x :: gs, o => by rw [List.map_cons, List.flatMap_cons, List.flatMap_cons, flat_hd k gs o]; rfl
theorem b9_eq : Tryd.f9.body = some b9 := by kernel_rfl
set_option maxHeartbeats 4000000 in
theorem newW_call {xss : List (List Int)} {a : Int} {cp : Nat} (hsz : xss.length * 24 ≤ 140737488355328) {s : SVal} {S' : St}
    (hR : (okV xss ∧ s = .tup [.ptr 5 0, .lit .i64 0] ∧ S' = sNW xss xss (hdL xss) (hdL xss) a) ∨ (¬ okV xss ∧ s = .tup [.pnil, .lit .i64 100] ∧ S' = inS xss (hdL xss))) :
    ∀ (env : Env) (w : World) (vs : List Value), GlOk cfgM.gl env → Rep env (inS xss (hdL xss)) w → DenL env [.int .i64 a, vsV xss cp] vs → Calls cfgM.P 9 ⟨vs⟩ w (Ends1 env (inS xss (hdL xss)) w s S') := by
  intro env w vs hg hr hd
  have hb0 : env.length = 3 := hr.len
  refine AtK.begin (c := cfgM) Tryd.func9 b9_eq hg hr hd fun a0 hA => ?_
  refine pieceNTK2 (c := cfgM) cfgM_ok 2 n9 (w_pre (hs := hdL xss)) (by omega) (by simp) hA ?_
  refine all_ret fun env1 a1 w1 hA1 => ?_
  simp only [Ex.to, Exit.then]
  obtain ⟨env2, hA2⟩ := hA1.nilv 3 3 1 (l := [.int .i64 a, .lit .i64 0, .lit .i64 0, .snil, .lit .i64 0]) (T0 := 70) rfl rfl (encInt .i64) 34
  have hA3 := hA2.rows0 .u32
  have hA4 := hA3.perm [0, 1, 2, 5, 4, 3] (by kernel_rfl) (by kernel_rfl) (st' := inS xss (hdL xss) ++ [.rows true .u32 [], .vec (encInt .i64) [] 34, .own [.c (.int .i64 a), .c (.lit .i64 0), .c (.lit .i64 0), .c (.sli 4 (.c 0) 1 (.v 0) none), .c (.lit .i64 0)] 70]) (vals' := vNW xss cp) (by kernel_rfl) (by kernel_rfl) (by rw [hb0]; rfl)
  have hA5 : AtK env [(0, 0)] ⟨w, inFoot env (inS xss (hdL xss))⟩ _ (fr 45 n9 (vNW xss cp)) (sNW xss [] (hdL xss) [] a) a1 w1 := (hA4.on fun h => h.typed 4 (E' := encHd 3) (ys := []) rfl rfl rfl rfl).on fun h => h.gen rfl
  refine (show c9.wp Tryd.prog _ a1 w1 from wpS (by kernel_rfl) (wpS (by kernel_rfl) ?_))
  refine pieceTK2 (c := cfgM) cfgM_ok n9i (w_reg (hs := hdL xss)) (by omega) (by simp) hA5 ?_
  refine all_ret fun env6 a6 w6 hA6 => ?_
  simp only [Ex.to, Exit.then]
  have hA7 : AtK env [(0, 0)] ⟨w, inFoot env (inS xss (hdL xss))⟩ env6 (fr 45 n9i (vNWi xss cp 0)) (sNW xss (xss.take 0) (hdL xss) (hdL (xss.take 0)) a) a6 w6 := hA6.on fun h => h.gvals (vNWi xss cp 0) rfl
  refine wpB 0 (by kernel_rfl) (wpL (by kernel_rfl) (fun (i : Nat) a' w' => (i ≤ xss.length ∧ ∀ j, j < i → (1 ≤ (xss.getD j []).length ∧ (xss.getD j []).length ≤ 32) ∧ (xss.getD j []).length = (xss.getD 0 []).length) ∧ ∃ env', AtK env [(0, 0)] ⟨w, inFoot env (inS xss (hdL xss))⟩ env' (fr 45 n9i (vNWi xss cp i)) (sNW xss (xss.take i) (hdL xss) (hdL (xss.take i)) a) a' w') (fun (i : Nat) => xss.length - i) (0 : Nat) ⟨⟨Nat.zero_le _, fun j hj => by omega⟩, env6, hA7⟩ ?_)
  rintro i a' w' ⟨⟨hi, hgood⟩, env', hA⟩
  have hgl : (hdL (xss.take i)).length = i := by rw [hdL_len, List.length_take]; omega
  have hhl := hdL_len xss
  refine pieceNTK2 (c := cfgM) cfgM_ok 2 n9i (w_tm (hs := hdL xss) (gs := hdL (xss.take i))) (by omega) (by simp) hA ?_
  refine all_brp (by simp only [decide_eq_true_eq]; exact Iff.rfl) (fun h1 => all_ret fun env1 a1 w1 hA1 => ?_) (fun h1 => all_ret fun env1 a1 w1 hA1 => ?_)
  · have hi' : i < xss.length := by omega
    have hget := hdL_get hi'
    have hget0 := hdL_get (xss := xss) (i := 0) (by omega)
    simp only [Ex.to, Exit.then]
    refine (show (restC 2 round9).wp Tryd.prog _ a1 w1 from wpS (by kernel_rfl) (wpB 1 (by kernel_rfl) ?_))
    refine (show bb9.wp Tryd.prog _ a1 w1 from ?_)
    have ht := @w_bb xss (xss.take i) (hdL xss) (hdL (xss.take i)) cp i a
    rw [Int.toNat_natCast, hget, hget0] at ht
    refine pieceNTK2 (c := cfgM) cfgM_ok 2 n9b ht (by omega) (by simp) hA1 ?_
    refine all_needq (by simp only [decide_eq_true_eq, Bool.and_eq_true]; exact Iff.rfl) (by omega) ?_
    refine all_needq (by simp only [decide_eq_true_eq]; exact Iff.rfl) (by omega) ?_
    have fail : ¬ ((1 ≤ (xss.getD i []).length ∧ (xss.getD i []).length ≤ 32) ∧ (xss.getD i []).length = (xss.getD 0 []).length) → ∀ {env' : Env} {a' : Act} {w' : World} {vs : List SVal}, AtK env [(0, 0)] ⟨w, inFoot env (inS xss (hdL xss))⟩ env' (fr 45 ([4, 5] ++ [1, 6, 12, 13, 14, 8]) ([.pnil, .lit .i64 100] ++ vs)) (sNW xss (xss.take i) (hdL xss) (hdL (xss.take i)) a) a' w' →
        bodyPost Tryd.prog Tryd.f9 (Ends1 env (inS xss (hdL xss)) w s S') .ret a' w' := by
      intro hn env' a' w' vs hA
      rcases hR with ⟨hok, _⟩ | ⟨_, rfl, rfl⟩
      · exact absurd (hok i hi') hn
      have hA1 : AtK env [(0, 0)] ⟨w, inFoot env (inS xss (hdL xss))⟩ env' (fr 45 [4, 5] [.pnil, .lit .i64 100]) (sNW xss (xss.take i) (hdL xss) (hdL (xss.take i)) a) a' w' := hA.on fun h => At.few (names := [4, 5]) (extra := [1, 6, 12, 13, 14, 8]) (vals := [.pnil, .lit .i64 100]) (ev := vs) h rfl
      have hA2 := hA1.perm [0, 1, 2] (by kernel_rfl) (by kernel_rfl) (st' := inS xss (hdL xss)) (vals' := [.pnil, .lit .i64 100]) (by kernel_rfl) (by kernel_rfl) (by rw [hb0]; rfl)
      exact hA2.out (c := cfgM) (by kernel_rfl)
    have e0 : ∀ {x y : Nat}, ((x : Int) != (y : Int)) = true ↔ ¬ x = y := by
      intro x y
      rw [bne_iff_ne]
      omega
    refine all_brp (by simp only [decide_eq_true_eq]; exact Iff.rfl) (fun h2 => ?_) (fun h2 => ?_)
    · refine all_brp (p := ¬ ((xss.getD i []).length : Int) ≤ 32) (by simp) (fun h3 => all_ret fun env1 a1 w1 hA1 => ?_) (fun h3 => ?_)
      · exact fail (by omega) hA1
      refine all_needq (by simp only [decide_eq_true_eq]; exact Iff.rfl) (by omega) ?_
      refine all_needq (by simp only [decide_eq_true_eq]; exact Iff.rfl) (by omega) ?_
      refine all_brp e0 (fun h4 => all_ret fun env1 a1 w1 hA1 => ?_) (fun h4 => all_ret fun env2 a2 w2 hA2 => ?_)
      · exact fail (by omega) hA1
      have hg2 : (1 ≤ (xss.getD i []).length ∧ (xss.getD i []).length ≤ 32) ∧ (xss.getD i []).length = (xss.getD 0 []).length := by omega
      simp only [Ex.to, Exit.then]
      have hA3 := (hA2.on fun h => h.drop1 rfl).on fun h => h.drop1 rfl
      have hA4 : AtK env [(0, 0)] ⟨w, inFoot env (inS xss (hdL xss))⟩ env2 (fr 45 n9v (vNWi xss cp i ++ [.slr 2 i (xss.getD i []).length])) (sNWn xss (xss.take i) (hdL xss) ((hdL (xss.take i)).map fun x => (true, x)) a) a2 w2 := by
        have := hA3.on fun h => h.typed 4 (E' := encHn 3 7) (ys := (hdL (xss.take i)).map fun x => (true, x)) rfl (by simp) rfl (flat_hd 3 _ 7).symm
        rw [show (hdL (xss.take i)).length = ((hdL (xss.take i)).map fun x => (true, x)).length by simp] at this
        exact this
      refine (show app9.wp Tryd.prog _ a2 w2 from ?_)
      refine pieceTRK (c := cfgM) cfgM_ok n9i (w_app (hs := hdL xss) (gs := (hdL (xss.take i)).map fun x => (true, x)) (j := i)) hA4 ?_
      have e1 : List.take (xss.getD i []).length (xss.getD i []) = xss.getD i [] := List.take_length
      rw [e1]
      refine all_needq (by simp only [decide_eq_true_eq, Bool.and_eq_true]; exact Iff.rfl) (by omega) ?_
      refine all_needq (by simp only [decide_eq_true_eq, Bool.and_eq_true]; exact Iff.rfl) (by omega) ?_
      refine all_needq (by simp only [roomy_iff]; exact Iff.rfl) (by omega) ?_
      refine all_need rfl fun _ => ?_
      refine all_need (decide_eq_true rfl) fun _ => ?_
      refine all_needq (by simp only [roomy_iff]; exact Iff.rfl) (by rw [List.length_map, hgl]; omega) ?_
      refine all_eq rfl (all_eq rfl (all_eq rfl (all_eq rfl ?_)))
      refine all_ret fun env5 a5 w5 hA5 => ?_
      obtain ⟨env6, hA6, hsl⟩ := hA5.joinR 3 7 (by omega) (by omega) rfl rfl (by omega)
      have hyl : (xss.take i).length = i := by rw [List.length_take]; omega
      have hA7 := hA6.on fun h => h.typede 9 (E := encHn 3 7) (E' := encHd 3) (xs := ((hdL (xss.take i)).map fun x => (true, x)) ++ [(false, 0, (xss.getD i []).length)]) (ys := hdL (xss.take i) ++ [(i, (xss.getD i []).length)]) (T := 34) (by kernel_rfl) (by simp) rfl (fun cs hcs => by
        rw [List.flatMap_append, flat_hd] at hcs
        rw [List.flatMap_append]
        obtain ⟨us, ws, rfl, k1, k2⟩ := denL_split hcs
        refine denL_append k1 ?_
        obtain ⟨u, us', rfl, k3, k4⟩ := k2
        refine ⟨u, us', rfl, ?_, k4⟩
        have := hsl u _ rfl k3
        rw [hyl] at this
        exact this)
      have eg : hdL (xss.take (i + 1)) = hdL (xss.take i) ++ [(i, (xss.getD i []).length)] := by
        rw [take_succ hi', hdL_app, hyl]
      have ey : xss.take i ++ [xss.getD i []] = xss.take (i + 1) := (take_succ hi').symm
      rw [← eg, ey] at hA7
      have el : ((hdL (xss.take i)).map fun x => (true, x)).length + 1 = (hdL (xss.take (i + 1))).length := by rw [eg]; simp
      rw [el] at hA7
      have hA8 := hA7.perm [0, 1, 2, 3, 9, 5] (by kernel_rfl) (by kernel_rfl) (st' := sNW xss (xss.take (i + 1)) (hdL xss) (hdL (xss.take (i + 1))) a) (vals' := vNWi xss cp i) (by kernel_rfl) (by kernel_rfl) (by rw [hb0]; rfl)
      simp only [Ex.to, Exit.inBlock, Exit.then]
      refine (show inc9.wp Tryd.prog _ a5 w5 from ?_)
      refine pieceTK2 (c := cfgM) cfgM_ok n9i (w_inc (hs := hdL xss) (gs := hdL (xss.take (i + 1)))) (by omega) (by simp) hA8 ?_
      refine all_needp (by simp only [inR_i64]; exact Iff.rfl) (by omega) fun _ => all_ret fun env4 a4 w4 hA4 => ?_
      refine ⟨i + 1, ⟨⟨by omega, fun j hj => ?_⟩, env4, hA4⟩, by omega⟩
      rcases Nat.lt_or_ge j i with h | h
      · exact hgood j h
      · obtain rfl : j = i := by omega
        exact hg2
    · refine all_ret fun env1 a1 w1 hA1 => ?_
      exact fail (by omega) hA1
  · have him : i = xss.length := by omega
    subst him
    rw [List.take_length] at hA1
    simp only [Ex.to, Exit.then, Exit.inBlock, if_true]
    refine (show end9.wp Tryd.prog _ a1 w1 from ?_)
    refine pieceTK2 (c := cfgM) cfgM_ok [4, 5] (w_end (hs := hdL xss) (gs := hdL xss)) (by omega) (by simp) hA1 ?_
    rcases hR with ⟨_, rfl, rfl⟩ | ⟨hn, _⟩
    · exact all_ret fun env4 a4 w4 hA4 => hA4.out (c := cfgM) (by kernel_rfl)
    · exact absurd (fun j hj => hgood j hj) hn
end Go.Proofs.YtmknmbacecjfmaaDoor

/- Layer 10: few versions: pieces. -/
namespace Go.Proofs.YtmknmbacecjfmaaDoor
open Go Go.Proofs.YtmknmbacecjfmaaDoor.Sx
set_option linter.unusedVariables false
noncomputable def b11 : Code := Tryd.f11.body.getD .skip
noncomputable def c11 : Code := restC 2 b11
noncomputable def reg11 : Code := lft (lft c11)
noncomputable def blk11 : Code := rgt (lft c11)
noncomputable def round11 : Code := lft (lft blk11)
noncomputable def tm11 : Code := lft round11
noncomputable def bb11 : Code := lft (lft (rgt round11))
noncomputable def inc11 : Code := rgt (rgt round11)
noncomputable def end11 : Code := rgt c11
abbrev v11 (xss : List (List Int)) (cp i : Nat) : List SVal := [vsV xss cp, .int .i64 (i : Nat)]
end Go.Proofs.YtmknmbacecjfmaaDoor

namespace Go.Proofs.YtmknmbacecjfmaaDoor
open Go Go.Proofs.YtmknmbacecjfmaaDoor.Sx
set_option linter.unusedVariables false
set_option maxRecDepth 100000 in
theorem fe_pre {xss : List (List Int)} {hs : List (Nat × Nat)} {cp : Nat} : (execN cfgM 100 2 b11 ([vsV xss cp] ++ List.replicate 18 .bad) (inS xss hs)).bind (canonK 3 [(0,0)] 19 [2, 0]) =
 

 (.br (decide ((10 : Int) < (↑xss.length : Int)))

 (.ret (.ret, [.bl false, .sli 1 (.c 0) 1 (.v xss.length) (some (.v cp))], [.ro encLook [PUnit.unit], .ro (encHd 2) hs, Blk.rows false IntKind.u32 xss]))

 (.ret (.normal, [.bl false, .sli 1 (.c 0) 1 (.v xss.length) (some (.v cp))], [.ro encLook [PUnit.unit], .ro (encHd 2) hs, Blk.rows false IntKind.u32 xss]))) := by kernel_rfl
set_option maxRecDepth 100000 in
theorem fe_reg {xss : List (List Int)} {hs : List (Nat × Nat)} {cp : Nat} : (exec cfgM 100 reg11 (fr 19 [0] [vsV xss cp]) (inS xss hs)).bind (canonK 3 [(0,0)] 19 [0, 3]) =
 

 (.ret (.normal, [.sli 1 (.c 0) 1 (.v xss.length) (some (.v cp)), .lit .i64 (0 : Int)], [.ro encLook [PUnit.unit], .ro (encHd 2) hs, Blk.rows false IntKind.u32 xss])) := by kernel_rfl
set_option maxRecDepth 100000 in
theorem fe_tm {xss : List (List Int)} {hs : List (Nat × Nat)} {cp i : Nat} : (exec cfgM 100 tm11 (fr 19 [0, 3] (v11 xss cp i)) (inS xss hs)).bind (canonK 3 [(0,0)] 19 [0, 3]) =
 

 (.br (decide ((↑i : Int) < (↑xss.length : Int)))

 (.ret (.normal, [.sli 1 (.c 0) 1 (.v xss.length) (some (.v cp)), .int .i64 (↑i : Int)], [.ro encLook [PUnit.unit], .ro (encHd 2) hs, Blk.rows false IntKind.u32 xss]))

 (.ret (.exit 0, [.sli 1 (.c 0) 1 (.v xss.length) (some (.v cp)), .int .i64 (↑i : Int)], [.ro encLook [PUnit.unit], .ro (encHd 2) hs, Blk.rows false IntKind.u32 xss]))) := by kernel_rfl
set_option maxRecDepth 100000 in
theorem fe_bb {xss : List (List Int)} {hs : List (Nat × Nat)} {cp i : Nat} : (exec cfgM 100 bb11 (fr 19 [0, 3] (v11 xss cp i)) (inS xss hs)).bind (canonK 3 [(0,0)] 19 [2, 0, 3]) =
 

 (.need (decide ((0 : Int) ≤ (↑i : Int)) && decide ((↑i : Int).toNat < xss.length))

 (.need (decide ((↑i : Int).toNat < hs.length))

 (.br (decide ((50 : Int) < (↑(hs.getD (↑i : Int).toNat (0, 0)).snd : Int)))

 (.ret (.ret, [.bl false, .sli 1 (.c 0) 1 (.v xss.length) (some (.v cp)), .int .i64 (↑i : Int)], [.ro encLook [PUnit.unit], .ro (encHd 2) hs, Blk.rows false IntKind.u32 xss]))

 (.ret (.normal, [.bad, .sli 1 (.c 0) 1 (.v xss.length) (some (.v cp)), .int .i64 (↑i : Int)], [.ro encLook [PUnit.unit], .ro (encHd 2) hs, Blk.rows false IntKind.u32 xss]))))) := by kernel_rfl
set_option maxRecDepth 100000 in
theorem fe_inc {xss : List (List Int)} {hs : List (Nat × Nat)} {cp i : Nat} : (exec cfgM 100 inc11 (fr 19 [0, 3] (v11 xss cp i)) (inS xss hs)).bind (canonK 3 [(0,0)] 19 [0, 3]) =
 

 (.need (inR .i64 ((↑i : Int) + (1 : Int)))

 (.ret (.normal, [.sli 1 (.c 0) 1 (.v xss.length) (some (.v cp)), .int .i64 ((↑i : Int) + (1 : Int))], [.ro encLook [PUnit.unit], .ro (encHd 2) hs, Blk.rows false IntKind.u32 xss]))) := by kernel_rfl
set_option maxRecDepth 100000 in
theorem fe_end {xss : List (List Int)} {hs : List (Nat × Nat)} {cp i : Nat} : (exec cfgM 100 end11 (fr 19 [0, 3] (v11 xss cp i)) (inS xss hs)).bind (canonK 3 [(0,0)] 19 [2]) =
 

 (.ret (.ret, [.bl true], [.ro encLook [PUnit.unit], .ro (encHd 2) hs, Blk.rows false IntKind.u32 xss])) := by kernel_rfl
end Go.Proofs.YtmknmbacecjfmaaDoor

/- Layer 10: few versions. -/
namespace Go.Proofs.YtmknmbacecjfmaaDoor
open Go Go.Proofs.YtmknmbacecjfmaaDoor.Sx
set_option linter.unusedVariables false
def fewV (xss : List (List Int)) : Prop := xss.length ≤ 10 ∧ ∀ i, i < xss.length → (xss.getD i []).length ≤ 50
theorem b11_eq : Tryd.f11.body = some b11 := by kernel_rfl
set_option maxHeartbeats 4000000 in
theorem few_call {xss : List (List Int)} {cp : Nat} {s : SVal} (hR : (fewV xss ∧ s = .bl true) ∨ (¬ fewV xss ∧ s = .bl false)) :
    ∀ (env : Env) (w : World) (vs : List Value), GlOk cfgM.gl env → Rep env (inS xss (hdL xss)) w → DenL env [vsV xss cp] vs → Calls cfgM.P 11 ⟨vs⟩ w (Ends1 env (inS xss (hdL xss)) w s (inS xss (hdL xss))) := by
  intro env w vs hg hr hd
  have hb0 : env.length = 3 := hr.len
  have hhl := hdL_len xss
  refine AtK.begin (c := cfgM) Tryd.func11 b11_eq hg hr hd fun a0 hA => ?_
  refine pieceNTK2 (c := cfgM) cfgM_ok 2 [2, 0] (fe_pre (hs := hdL xss)) (by omega) (by simp) hA ?_
  have fail : ¬ fewV xss → ∀ {env' : Env} {a' : Act} {w' : World} {ns : List Nat} {vs : List SVal}, AtK env [(0, 0)] ⟨w, inFoot env (inS xss (hdL xss))⟩ env' (fr 19 ([2] ++ ns) ([.bl false] ++ vs)) (inS xss (hdL xss)) a' w' →
      bodyPost Tryd.prog Tryd.f11 (Ends1 env (inS xss (hdL xss)) w s (inS xss (hdL xss))) .ret a' w' := by
    intro hn env' a' w' ns vs hA
    rcases hR with ⟨hok, _⟩ | ⟨_, rfl⟩
    · exact absurd hok hn
    have hA1 : AtK env [(0, 0)] ⟨w, inFoot env (inS xss (hdL xss))⟩ env' (fr 19 [2] [.bl false]) (inS xss (hdL xss)) a' w' := hA.on fun h => At.few (names := [2]) (extra := ns) (vals := [.bl false]) (ev := vs) h rfl
    exact hA1.out (c := cfgM) (by kernel_rfl)
  refine all_brp (by simp only [decide_eq_true_eq]; exact Iff.rfl) (fun h1 => all_ret fun env1 a1 w1 hA1 => ?_) (fun h1 => all_ret fun env1 a1 w1 hA1 => ?_)
  · exact fail (fun h => by have := h.1; omega) (ns := [0]) hA1
  simp only [Ex.to, Exit.then]
  have hA2 := hA1.on fun h => h.drop1 rfl
  refine (show c11.wp Tryd.prog _ a1 w1 from wpS (by kernel_rfl) (wpS (by kernel_rfl) ?_))
  refine pieceTK2 (c := cfgM) cfgM_ok [0, 3] (fe_reg (hs := hdL xss)) (by omega) (by simp) hA2 ?_
  refine all_ret fun env3 a3 w3 hA3 => ?_
  simp only [Ex.to, Exit.then]
  have hA4 := hA3.on fun h => h.gvals (v11 xss cp 0) rfl
  refine wpB 0 (by kernel_rfl) (wpL (by kernel_rfl) (fun (i : Nat) a' w' => (i ≤ xss.length ∧ ∀ j, j < i → (xss.getD j []).length ≤ 50) ∧ ∃ env', AtK env [(0, 0)] ⟨w, inFoot env (inS xss (hdL xss))⟩ env' (fr 19 [0, 3] (v11 xss cp i)) (inS xss (hdL xss)) a' w') (fun (i : Nat) => xss.length - i) (0 : Nat) ⟨⟨Nat.zero_le _, fun j hj => by omega⟩, env3, hA4⟩ ?_)
  rintro i a' w' ⟨⟨hi, hgood⟩, env', hA⟩
  refine (show round11.wp _ _ _ _ from wpS (by kernel_rfl) ?_)
  refine pieceTK2 (c := cfgM) cfgM_ok [0, 3] (fe_tm (hs := hdL xss)) (by omega) (by simp) hA ?_
  refine all_brp (by simp only [decide_eq_true_eq]; exact Iff.rfl) (fun h2 => all_ret fun env1 a1 w1 hA1 => ?_) (fun h2 => all_ret fun env1 a1 w1 hA1 => ?_)
  · simp only [Ex.to, Exit.then]
    have hi' : i < xss.length := by omega
    have hget := hdL_get hi'
    refine (show (rgt round11).wp _ _ _ _ from wpS (by kernel_rfl) (wpB 1 (by kernel_rfl) ?_))
    refine (show bb11.wp _ _ _ _ from ?_)
    have ht := @fe_bb xss (hdL xss) cp i
    rw [Int.toNat_natCast, hget] at ht
    refine pieceTK2 (c := cfgM) cfgM_ok [2, 0, 3] ht (by omega) (by simp) hA1 ?_
    refine all_needq (by simp only [decide_eq_true_eq, Bool.and_eq_true]; exact Iff.rfl) (by omega) ?_
    refine all_needq (by simp only [decide_eq_true_eq]; exact Iff.rfl) (by omega) ?_
    refine all_brp (by simp only [decide_eq_true_eq]; exact Iff.rfl) (fun h3 => all_ret fun env2 a2 w2 hA2 => ?_) (fun h3 => all_ret fun env2 a2 w2 hA2 => ?_)
    · exact fail (fun h => by have := h.2 i hi'; omega) (ns := [0, 3]) hA2
    simp only [Ex.to, Exit.inBlock, Exit.then]
    have hA3 := hA2.on fun h => h.drop1 rfl
    refine (show inc11.wp _ _ _ _ from ?_)
    refine pieceTK2 (c := cfgM) cfgM_ok [0, 3] (fe_inc (hs := hdL xss)) (by omega) (by simp) hA3 ?_
    refine all_needp (by simp only [inR_i64]; exact Iff.rfl) (by omega) fun _ => all_ret fun env4 a4 w4 hA4 => ?_
    refine ⟨i + 1, ⟨⟨by omega, fun j hj => ?_⟩, env4, hA4⟩, by omega⟩
    rcases Nat.lt_or_ge j i with h | h
    · exact hgood j h
    · obtain rfl : j = i := by omega
      omega
  · have him : i = xss.length := by omega
    subst him
    simp only [Ex.to, Exit.then, Exit.inBlock, if_true]
    refine (show end11.wp _ _ _ _ from ?_)
    refine pieceTK2 (c := cfgM) cfgM_ok [2] (fe_end (hs := hdL xss)) (by omega) (by simp) hA1 ?_
    rcases hR with ⟨_, rfl⟩ | ⟨hn, _⟩
    · exact all_ret fun env4 a4 w4 hA4 => hA4.out (c := cfgM) (by kernel_rfl)
    · exact absurd ⟨by omega, fun j hj => hgood j hj⟩ hn
end Go.Proofs.YtmknmbacecjfmaaDoor

/- Layer 10: a writer's and a reader's step: states. -/
namespace Go.Proofs.YtmknmbacecjfmaaDoor
open Go Go.Proofs.YtmknmbacecjfmaaDoor.Sx
set_option linter.unusedVariables false
/-- a reader -/
structure Rd where
  at' : Int
  n : Int
  i : Int
  ph : Int
  sq : Int
  buf : List Int
  got : Bool
  tries : Int
abbrev rdrB (y : Rd) : Blk := .own [.c (.int .i64 y.at'), .c (.int .i64 y.n), .c (.int .i64 y.i), .c (.int .i64 y.ph), .c (.int .u32 y.sq), .a (encInt .u32) 32 y.buf, .c (.sb y.got), .c (.int .i64 y.tries)] 73
abbrev memS (k : Nat) (l : List Int) (c : Int) : St := [.own [.a (encInt .u32) k l] 22, .own [.c (.sli 4 (.c 0) 1 (.v k) (some (.v k))), .c (.int .i64 c)] 68]
/-- versions, acts, a memory, a writer -/
abbrev sI (k : Nat) (ac : List Int) (xss : List (List Int)) (hs : List (Nat × Nat)) (l : List Int) (c : Int) : St := inS xss hs ++ [.ro (encInt .u8) ac] ++ memS k l c
abbrev sM (k : Nat) (ac : List Int) (xss : List (List Int)) (hs gs : List (Nat × Nat)) (l : List Int) (c : Int) (x : Wr) : St := sI k ac xss hs l c ++ wrS 6 x xss gs
abbrev sMR (k : Nat) (ac : List Int) (xss : List (List Int)) (hs gs : List (Nat × Nat)) (l : List Int) (c : Int) (x : Wr) (y : Rd) : St := sM k ac xss hs gs l c x ++ [rdrB y]
end Go.Proofs.YtmknmbacecjfmaaDoor

namespace Go.Proofs.YtmknmbacecjfmaaDoor
open Go Go.Proofs.YtmknmbacecjfmaaDoor.Sx
set_option linter.unusedVariables false
set_option maxRecDepth 100000 in
theorem k_w {k : Nat} {ac : List Int} {xss : List (List Int)} {hs gs : List (Nat × Nat)} {l : List Int} {c : Int} {x : Wr} : callF cfgM 100 14 [.ptr 8 0, .ptr 5 0] (sM k ac xss hs gs l c x) =
 

 (.br (x.4 == (↑gs.length : Int))

 (.ret (.bl true, [.ro encLook [PUnit.unit], .ro (encHd 2) hs, Blk.rows false IntKind.u32 xss, .ro (encInt IntKind.u8) ac, .own [.a (encInt IntKind.u32) k l] 22, .own [.c (.sli 4 (.c 0) 1 (.v k) (some (.v k))), .c (.int .i64 c)] 68, Blk.rows true IntKind.u32 xss, .vec (encHd 6) gs 34, .own [.c (.int .i64 x.1), .c (.int .i64 x.2), .c (.int .i64 x.3), .c (.sli 7 (.c 0) 1 (.v gs.length) none), .c (.int .i64 x.4)] 70]))

 (.need (decide ((0 : Int) ≤ x.4) && decide (x.4.toNat < gs.length))

 (.need (decide (x.4.toNat < gs.length))

 (.br (x.3 == (1 : Int))

 (.need (inR .i64 (x.1 + (1 : Int)))

 (.need (inR .i64 (x.1 + (1 : Int) + x.2))

 (.need (decide ((0 : Int) ≤ x.2) && decide (x.2.toNat < (gs.getD x.4.toNat (0, 0)).snd))

 (.need (decide ((gs.getD x.4.toNat (0, 0)).fst < xss.length) && decide (x.2.toNat < (xss.getD (gs.getD x.4.toNat (0, 0)).fst []).length))

 (.br (decide (x.1 + (1 : Int) + x.2 < (0 : Int)))
 (.eq (T.ret (SVal.int IntKind.i64 x.1) = T.ret (SVal.int IntKind.i64 x.1))
 (.eq (T.ret (SVal.int IntKind.i64 x.2) = T.ret (SVal.int IntKind.i64 x.2))
 (.eq (T.ret (SVal.int IntKind.i64 x.2) = T.ret (SVal.int IntKind.i64 x.2))
 (.eq (T.need (decide ((gs.getD x.4.toNat ((0 : Nat), (0 : Nat))).fst < xss.length) && decide (x.2.toNat < (xss.getD (gs.getD x.4.toNat ((0 : Nat), (0 : Nat))).fst []).length)) (T.ret (SVal.int IntKind.u32 ((xss.getD (gs.getD x.4.toNat ((0 : Nat), (0 : Nat))).fst []).getD x.2.toNat (0 : Int)))) = T.need (decide ((gs.getD x.4.toNat ((0 : Nat), (0 : Nat))).fst < xss.length) && decide (x.2.toNat < (xss.getD (gs.getD x.4.toNat ((0 : Nat), (0 : Nat))).fst []).length)) (T.ret (SVal.int IntKind.u32 ((xss.getD (gs.getD x.4.toNat ((0 : Nat), (0 : Nat))).fst []).getD x.2.toNat (0 : Int)))))

 (.need (inR .i64 (x.2 + (1 : Int)))

 (.br (x.2 + (1 : Int) == (↑(gs.getD x.4.toNat (0, 0)).snd : Int))

 (.ret (.bl true, [.ro encLook [PUnit.unit], .ro (encHd 2) hs, Blk.rows false IntKind.u32 xss, .ro (encInt IntKind.u8) ac, .own [.a (encInt IntKind.u32) k l] 22, .own [.c (.sli 4 (.c 0) 1 (.v k) (some (.v k))), .c (.int .i64 c)] 68, Blk.rows true IntKind.u32 xss, .vec (encHd 6) gs 34, .own [.c (.int .i64 x.1), .c (.int .i64 (x.2 + (1 : Int))), .c (.lit .i64 (2 : Int)), .c (.sli 7 (.c 0) 1 (.v gs.length) none), .c (.int .i64 x.4)] 70, .own [.c (.lit .u32 (0 : Int)), .c (.int .u32 ((xss.getD (gs.getD x.4.toNat (0, 0)).fst []).getD x.2.toNat (0 : Int))), .c (.lit .u32 (0 : Int))] 76]))

 (.ret (.bl true, [.ro encLook [PUnit.unit], .ro (encHd 2) hs, Blk.rows false IntKind.u32 xss, .ro (encInt IntKind.u8) ac, .own [.a (encInt IntKind.u32) k l] 22, .own [.c (.sli 4 (.c 0) 1 (.v k) (some (.v k))), .c (.int .i64 c)] 68, Blk.rows true IntKind.u32 xss, .vec (encHd 6) gs 34, .own [.c (.int .i64 x.1), .c (.int .i64 (x.2 + (1 : Int))), .c (.int .i64 x.3), .c (.sli 7 (.c 0) 1 (.v gs.length) none), .c (.int .i64 x.4)] 70, .own [.c (.lit .u32 (0 : Int)), .c (.int .u32 ((xss.getD (gs.getD x.4.toNat (0, 0)).fst []).getD x.2.toNat (0 : Int))), .c (.lit .u32 (0 : Int))] 76]))))))))

 (.br (decide ((↑k : Int) ≤ x.1 + (1 : Int) + x.2))
 (.eq (T.ret (SVal.int IntKind.i64 x.1) = T.ret (SVal.int IntKind.i64 x.1))
 (.eq (T.ret (SVal.int IntKind.i64 x.2) = T.ret (SVal.int IntKind.i64 x.2))
 (.eq (T.ret (SVal.int IntKind.i64 x.2) = T.ret (SVal.int IntKind.i64 x.2))
 (.eq (T.need (decide ((gs.getD x.4.toNat ((0 : Nat), (0 : Nat))).fst < xss.length) && decide (x.2.toNat < (xss.getD (gs.getD x.4.toNat ((0 : Nat), (0 : Nat))).fst []).length)) (T.ret (SVal.int IntKind.u32 ((xss.getD (gs.getD x.4.toNat ((0 : Nat), (0 : Nat))).fst []).getD x.2.toNat (0 : Int)))) = T.need (decide ((gs.getD x.4.toNat ((0 : Nat), (0 : Nat))).fst < xss.length) && decide (x.2.toNat < (xss.getD (gs.getD x.4.toNat ((0 : Nat), (0 : Nat))).fst []).length)) (T.ret (SVal.int IntKind.u32 ((xss.getD (gs.getD x.4.toNat ((0 : Nat), (0 : Nat))).fst []).getD x.2.toNat (0 : Int)))))

 (.need (inR .i64 (x.2 + (1 : Int)))

 (.br (x.2 + (1 : Int) == (↑(gs.getD x.4.toNat (0, 0)).snd : Int))

 (.ret (.bl true, [.ro encLook [PUnit.unit], .ro (encHd 2) hs, Blk.rows false IntKind.u32 xss, .ro (encInt IntKind.u8) ac, .own [.a (encInt IntKind.u32) k l] 22, .own [.c (.sli 4 (.c 0) 1 (.v k) (some (.v k))), .c (.int .i64 c)] 68, Blk.rows true IntKind.u32 xss, .vec (encHd 6) gs 34, .own [.c (.int .i64 x.1), .c (.int .i64 (x.2 + (1 : Int))), .c (.lit .i64 (2 : Int)), .c (.sli 7 (.c 0) 1 (.v gs.length) none), .c (.int .i64 x.4)] 70, .own [.c (.lit .u32 (0 : Int)), .c (.int .u32 ((xss.getD (gs.getD x.4.toNat (0, 0)).fst []).getD x.2.toNat (0 : Int))), .c (.lit .u32 (0 : Int))] 76]))

 (.ret (.bl true, [.ro encLook [PUnit.unit], .ro (encHd 2) hs, Blk.rows false IntKind.u32 xss, .ro (encInt IntKind.u8) ac, .own [.a (encInt IntKind.u32) k l] 22, .own [.c (.sli 4 (.c 0) 1 (.v k) (some (.v k))), .c (.int .i64 c)] 68, Blk.rows true IntKind.u32 xss, .vec (encHd 6) gs 34, .own [.c (.int .i64 x.1), .c (.int .i64 (x.2 + (1 : Int))), .c (.int .i64 x.3), .c (.sli 7 (.c 0) 1 (.v gs.length) none), .c (.int .i64 x.4)] 70, .own [.c (.lit .u32 (0 : Int)), .c (.int .u32 ((xss.getD (gs.getD x.4.toNat (0, 0)).fst []).getD x.2.toNat (0 : Int))), .c (.lit .u32 (0 : Int))] 76]))))))))

 (.need (inR .i64 (c + (1 : Int)))

 (.need (decide ((0 : Int) ≤ x.1 + (1 : Int) + x.2) && decide ((x.1 + (1 : Int) + x.2).toNat < k))

 (.need (decide ((x.1 + (1 : Int) + x.2).toNat < k))

 (.need (true)

 (.need (true)

 (.need (true)

 (.need (decide ((0 : Int) ≤ x.1 + (1 : Int) + x.2) && decide ((x.1 + (1 : Int) + x.2).toNat < k))

 (.need (decide ((x.1 + (1 : Int) + x.2).toNat < k))
 (.eq (T.ret (SVal.sli (4 : Nat) (NN.c (0 : Nat)) (1 : Nat) (NN.v k) (some (NN.v k))) = T.ret (SVal.sli (4 : Nat) (NN.c (0 : Nat)) (1 : Nat) (NN.v k) (some (NN.v k))))
 (.eq (T.ret (SVal.int IntKind.u32 ((xss.getD (gs.getD x.4.toNat ((0 : Nat), (0 : Nat))).fst []).getD x.2.toNat (0 : Int))) = T.ret (SVal.int IntKind.u32 ((xss.getD (gs.getD x.4.toNat ((0 : Nat), (0 : Nat))).fst []).getD x.2.toNat (0 : Int))))

 (.need (decide ((0 : Int) ≤ x.1 + (1 : Int) + x.2) && decide ((x.1 + (1 : Int) + x.2).toNat < k))

 (.need (decide ((x.1 + (1 : Int) + x.2).toNat < k))

 (.need (decide ((0 : Int) ≤ x.1 + (1 : Int) + x.2) && decide ((x.1 + (1 : Int) + x.2).toNat < k))

 (.need (decide ((x.1 + (1 : Int) + x.2).toNat < k))
 (.eq (T.ret (SVal.sli (4 : Nat) (NN.c (0 : Nat)) (1 : Nat) (NN.v k) (some (NN.v k))) = T.ret (SVal.sli (4 : Nat) (NN.c (0 : Nat)) (1 : Nat) (NN.v k) (some (NN.v k))))
 (.eq (T.need (decide ((x.1 + (1 : Int) + x.2).toNat < k)) (T.ret ([SVal.int IntKind.u32 ((l.set (x.1 + (1 : Int) + x.2).toNat (bitop BinOp.or IntKind.u32 (bitop BinOp.and IntKind.u32 (l.getD (x.1 + (1 : Int) + x.2).toNat (0 : Int)) (0 : Int)) ((xss.getD (gs.getD x.4.toNat ((0 : Nat), (0 : Nat))).fst []).getD x.2.toNat (0 : Int)))).getD (x.1 + (1 : Int) + x.2).toNat (0 : Int))].getD (0 : Nat) SVal.bad)) = T.need (decide ((x.1 + (1 : Int) + x.2).toNat < k)) (T.ret ([SVal.int IntKind.u32 ((l.set (x.1 + (1 : Int) + x.2).toNat (bitop BinOp.or IntKind.u32 (bitop BinOp.and IntKind.u32 (l.getD (x.1 + (1 : Int) + x.2).toNat (0 : Int)) (0 : Int)) ((xss.getD (gs.getD x.4.toNat ((0 : Nat), (0 : Nat))).fst []).getD x.2.toNat (0 : Int)))).getD (x.1 + (1 : Int) + x.2).toNat (0 : Int))].getD (0 : Nat) SVal.bad)))
 (.eq (T.ret (SVal.int IntKind.i64 x.1) = T.ret (SVal.int IntKind.i64 x.1))
 (.eq (T.ret (SVal.int IntKind.i64 x.2) = T.ret (SVal.int IntKind.i64 x.2))
 (.eq (T.ret (SVal.int IntKind.i64 x.2) = T.ret (SVal.int IntKind.i64 x.2))
 (.eq (T.need (decide ((gs.getD x.4.toNat ((0 : Nat), (0 : Nat))).fst < xss.length) && decide (x.2.toNat < (xss.getD (gs.getD x.4.toNat ((0 : Nat), (0 : Nat))).fst []).length)) (T.ret (SVal.int IntKind.u32 ((xss.getD (gs.getD x.4.toNat ((0 : Nat), (0 : Nat))).fst []).getD x.2.toNat (0 : Int)))) = T.need (decide ((gs.getD x.4.toNat ((0 : Nat), (0 : Nat))).fst < xss.length) && decide (x.2.toNat < (xss.getD (gs.getD x.4.toNat ((0 : Nat), (0 : Nat))).fst []).length)) (T.ret (SVal.int IntKind.u32 ((xss.getD (gs.getD x.4.toNat ((0 : Nat), (0 : Nat))).fst []).getD x.2.toNat (0 : Int)))))

 (.need (inR .i64 (x.2 + (1 : Int)))

 (.br (x.2 + (1 : Int) == (↑(gs.getD x.4.toNat (0, 0)).snd : Int))

 (.ret (.sb (x.4 == (↑gs.length : Int)), [.ro encLook [PUnit.unit], .ro (encHd 2) hs, Blk.rows false IntKind.u32 xss, .ro (encInt IntKind.u8) ac, .own [.a (encInt IntKind.u32) k ((l.set (x.1 + (1 : Int) + x.2).toNat (bitop BinOp.or IntKind.u32 (bitop BinOp.and IntKind.u32 (l.getD (x.1 + (1 : Int) + x.2).toNat (0 : Int)) (0 : Int)) ((xss.getD (gs.getD x.4.toNat (0, 0)).fst []).getD x.2.toNat (0 : Int)))).set (x.1 + (1 : Int) + x.2).toNat (IntKind.u32.wrap ((l.set (x.1 + (1 : Int) + x.2).toNat (bitop BinOp.or IntKind.u32 (bitop BinOp.and IntKind.u32 (l.getD (x.1 + (1 : Int) + x.2).toNat (0 : Int)) (0 : Int)) ((xss.getD (gs.getD x.4.toNat (0, 0)).fst []).getD x.2.toNat (0 : Int)))).getD (x.1 + (1 : Int) + x.2).toNat (0 : Int) + (0 : Int))))] 22, .own [.c (.sli 4 (.c 0) 1 (.v k) (some (.v k))), .c (.int .i64 (c + (1 : Int)))] 68, Blk.rows true IntKind.u32 xss, .vec (encHd 6) gs 34, .own [.c (.int .i64 x.1), .c (.int .i64 (x.2 + (1 : Int))), .c (.lit .i64 (2 : Int)), .c (.sli 7 (.c 0) 1 (.v gs.length) none), .c (.int .i64 x.4)] 70, .own [.c (.lit .u32 (0 : Int)), .c (.int .u32 ((xss.getD (gs.getD x.4.toNat (0, 0)).fst []).getD x.2.toNat (0 : Int))), .c (.lit .u32 (0 : Int))] 76]))

 (.ret (.sb (x.4 == (↑gs.length : Int)), [.ro encLook [PUnit.unit], .ro (encHd 2) hs, Blk.rows false IntKind.u32 xss, .ro (encInt IntKind.u8) ac, .own [.a (encInt IntKind.u32) k ((l.set (x.1 + (1 : Int) + x.2).toNat (bitop BinOp.or IntKind.u32 (bitop BinOp.and IntKind.u32 (l.getD (x.1 + (1 : Int) + x.2).toNat (0 : Int)) (0 : Int)) ((xss.getD (gs.getD x.4.toNat (0, 0)).fst []).getD x.2.toNat (0 : Int)))).set (x.1 + (1 : Int) + x.2).toNat (IntKind.u32.wrap ((l.set (x.1 + (1 : Int) + x.2).toNat (bitop BinOp.or IntKind.u32 (bitop BinOp.and IntKind.u32 (l.getD (x.1 + (1 : Int) + x.2).toNat (0 : Int)) (0 : Int)) ((xss.getD (gs.getD x.4.toNat (0, 0)).fst []).getD x.2.toNat (0 : Int)))).getD (x.1 + (1 : Int) + x.2).toNat (0 : Int) + (0 : Int))))] 22, .own [.c (.sli 4 (.c 0) 1 (.v k) (some (.v k))), .c (.int .i64 (c + (1 : Int)))] 68, Blk.rows true IntKind.u32 xss, .vec (encHd 6) gs 34, .own [.c (.int .i64 x.1), .c (.int .i64 (x.2 + (1 : Int))), .c (.int .i64 x.3), .c (.sli 7 (.c 0) 1 (.v gs.length) none), .c (.int .i64 x.4)] 70, .own [.c (.lit .u32 (0 : Int)), .c (.int .u32 ((xss.getD (gs.getD x.4.toNat (0, 0)).fst []).getD x.2.toNat (0 : Int))), .c (.lit .u32 (0 : Int))] 76]))))))))))))))))))))))))))))))

 (.need (true)

 (.br (decide (x.1 < (0 : Int)))

 (.need (true)

 (.need (inR .i64 ((1 : Int) - IntKind.i64.wrap (x.3.tdiv (2 : Int))))

 (.ret (.bl true, [.ro encLook [PUnit.unit], .ro (encHd 2) hs, Blk.rows false IntKind.u32 xss, .ro (encInt IntKind.u8) ac, .own [.a (encInt IntKind.u32) k l] 22, .own [.c (.sli 4 (.c 0) 1 (.v k) (some (.v k))), .c (.int .i64 c)] 68, Blk.rows true IntKind.u32 xss, .vec (encHd 6) gs 34, .own [.c (.int .i64 x.1), .c (.lit .i64 (0 : Int)), .c (.int .i64 ((1 : Int) - IntKind.i64.wrap (x.3.tdiv (2 : Int)))), .c (.sli 7 (.c 0) 1 (.v gs.length) none), .c (.int .i64 x.4)] 70, .own [.c (.lit .u32 (4294967295 : Int)), .c (.lit .u32 (0 : Int)), .c (.lit .u32 (1 : Int))] 76]))))

 (.br (decide ((↑k : Int) ≤ x.1))

 (.need (true)

 (.need (inR .i64 ((1 : Int) - IntKind.i64.wrap (x.3.tdiv (2 : Int))))

 (.ret (.bl true, [.ro encLook [PUnit.unit], .ro (encHd 2) hs, Blk.rows false IntKind.u32 xss, .ro (encInt IntKind.u8) ac, .own [.a (encInt IntKind.u32) k l] 22, .own [.c (.sli 4 (.c 0) 1 (.v k) (some (.v k))), .c (.int .i64 c)] 68, Blk.rows true IntKind.u32 xss, .vec (encHd 6) gs 34, .own [.c (.int .i64 x.1), .c (.lit .i64 (0 : Int)), .c (.int .i64 ((1 : Int) - IntKind.i64.wrap (x.3.tdiv (2 : Int)))), .c (.sli 7 (.c 0) 1 (.v gs.length) none), .c (.int .i64 x.4)] 70, .own [.c (.lit .u32 (4294967295 : Int)), .c (.lit .u32 (0 : Int)), .c (.lit .u32 (1 : Int))] 76]))))

 (.need (inR .i64 (c + (1 : Int)))

 (.need (decide ((0 : Int) ≤ x.1) && decide (x.1.toNat < k))

 (.need (decide (x.1.toNat < k))

 (.need (true)

 (.need (true)

 (.need (true)

 (.need (decide ((0 : Int) ≤ x.1) && decide (x.1.toNat < k))

 (.need (decide (x.1.toNat < k))
 (.eq (T.ret (SVal.sli (4 : Nat) (NN.c (0 : Nat)) (1 : Nat) (NN.v k) (some (NN.v k))) = T.ret (SVal.sli (4 : Nat) (NN.c (0 : Nat)) (1 : Nat) (NN.v k) (some (NN.v k))))

 (.need (decide ((0 : Int) ≤ x.1) && decide (x.1.toNat < k))

 (.need (decide (x.1.toNat < k))

 (.need (decide ((0 : Int) ≤ x.1) && decide (x.1.toNat < k))

 (.need (decide (x.1.toNat < k))
 (.eq (T.ret (SVal.sli (4 : Nat) (NN.c (0 : Nat)) (1 : Nat) (NN.v k) (some (NN.v k))) = T.ret (SVal.sli (4 : Nat) (NN.c (0 : Nat)) (1 : Nat) (NN.v k) (some (NN.v k))))
 (.eq (T.need (decide (x.1.toNat < k)) (T.ret ([SVal.int IntKind.u32 ((l.set x.1.toNat (bitop BinOp.or IntKind.u32 (bitop BinOp.and IntKind.u32 (l.getD x.1.toNat (0 : Int)) (4294967295 : Int)) (0 : Int))).getD x.1.toNat (0 : Int))].getD (0 : Nat) SVal.bad)) = T.need (decide (x.1.toNat < k)) (T.ret ([SVal.int IntKind.u32 ((l.set x.1.toNat (bitop BinOp.or IntKind.u32 (bitop BinOp.and IntKind.u32 (l.getD x.1.toNat (0 : Int)) (4294967295 : Int)) (0 : Int))).getD x.1.toNat (0 : Int))].getD (0 : Nat) SVal.bad)))

 (.br (x.3 == (2 : Int))

 (.need (inR .i64 (x.4 + (1 : Int)))

 (.need (true)

 (.need (inR .i64 ((1 : Int) - IntKind.i64.wrap (x.3.tdiv (2 : Int))))

 (.ret (.sb (x.4 + (1 : Int) == (↑gs.length : Int)), [.ro encLook [PUnit.unit], .ro (encHd 2) hs, Blk.rows false IntKind.u32 xss, .ro (encInt IntKind.u8) ac, .own [.a (encInt IntKind.u32) k ((l.set x.1.toNat (bitop BinOp.or IntKind.u32 (bitop BinOp.and IntKind.u32 (l.getD x.1.toNat (0 : Int)) (4294967295 : Int)) (0 : Int))).set x.1.toNat (IntKind.u32.wrap ((l.set x.1.toNat (bitop BinOp.or IntKind.u32 (bitop BinOp.and IntKind.u32 (l.getD x.1.toNat (0 : Int)) (4294967295 : Int)) (0 : Int))).getD x.1.toNat (0 : Int) + (1 : Int))))] 22, .own [.c (.sli 4 (.c 0) 1 (.v k) (some (.v k))), .c (.int .i64 (c + (1 : Int)))] 68, Blk.rows true IntKind.u32 xss, .vec (encHd 6) gs 34, .own [.c (.int .i64 x.1), .c (.lit .i64 (0 : Int)), .c (.int .i64 ((1 : Int) - IntKind.i64.wrap (x.3.tdiv (2 : Int)))), .c (.sli 7 (.c 0) 1 (.v gs.length) none), .c (.int .i64 (x.4 + (1 : Int)))] 70, .own [.c (.lit .u32 (4294967295 : Int)), .c (.lit .u32 (0 : Int)), .c (.lit .u32 (1 : Int))] 76])))))

 (.need (true)

 (.need (inR .i64 ((1 : Int) - IntKind.i64.wrap (x.3.tdiv (2 : Int))))

 (.ret (.sb (x.4 == (↑gs.length : Int)), [.ro encLook [PUnit.unit], .ro (encHd 2) hs, Blk.rows false IntKind.u32 xss, .ro (encInt IntKind.u8) ac, .own [.a (encInt IntKind.u32) k ((l.set x.1.toNat (bitop BinOp.or IntKind.u32 (bitop BinOp.and IntKind.u32 (l.getD x.1.toNat (0 : Int)) (4294967295 : Int)) (0 : Int))).set x.1.toNat (IntKind.u32.wrap ((l.set x.1.toNat (bitop BinOp.or IntKind.u32 (bitop BinOp.and IntKind.u32 (l.getD x.1.toNat (0 : Int)) (4294967295 : Int)) (0 : Int))).getD x.1.toNat (0 : Int) + (1 : Int))))] 22, .own [.c (.sli 4 (.c 0) 1 (.v k) (some (.v k))), .c (.int .i64 (c + (1 : Int)))] 68, Blk.rows true IntKind.u32 xss, .vec (encHd 6) gs 34, .own [.c (.int .i64 x.1), .c (.lit .i64 (0 : Int)), .c (.int .i64 ((1 : Int) - IntKind.i64.wrap (x.3.tdiv (2 : Int)))), .c (.sli 7 (.c 0) 1 (.v gs.length) none), .c (.int .i64 x.4)] 70, .own [.c (.lit .u32 (4294967295 : Int)), .c (.lit .u32 (0 : Int)), .c (.lit .u32 (1 : Int))] 76]))))))))))))))))))))))))))) := by kernel_rfl
set_option maxRecDepth 100000 in
theorem k_r {k : Nat} {ac : List Int} {xss : List (List Int)} {hs gs : List (Nat × Nat)} {l : List Int} {c : Int} {x : Wr} {y : Rd} : callF cfgM 100 16 [.ptr 9 0, .ptr 5 0] (sMR k ac xss hs gs l c x y) =
 

 (.br (y.7)

 (.ret (.bl true, [.ro encLook [PUnit.unit], .ro (encHd 2) hs, Blk.rows false IntKind.u32 xss, .ro (encInt IntKind.u8) ac, .own [.a (encInt IntKind.u32) k l] 22, .own [.c (.sli 4 (.c 0) 1 (.v k) (some (.v k))), .c (.int .i64 c)] 68, Blk.rows true IntKind.u32 xss, .vec (encHd 6) gs 34, .own [.c (.int .i64 x.1), .c (.int .i64 x.2), .c (.int .i64 x.3), .c (.sli 7 (.c 0) 1 (.v gs.length) none), .c (.int .i64 x.4)] 70, .own [.c (.int .i64 y.1), .c (.int .i64 y.2), .c (.int .i64 y.3), .c (.int .i64 y.4), .c (.int .u32 y.5), .a (encInt IntKind.u32) 32 y.6, .c (.sb y.7), .c (.int .i64 y.8)] 73]))

 (.br (y.4 == (1 : Int))

 (.need (inR .i64 ((1 : Int) + y.3))

 (.need (inR .i64 (y.1 + ((1 : Int) + y.3)))

 (.need (true)

 (.need (true)

 (.need (true)

 (.br (decide (y.1 + ((1 : Int) + y.3) < (0 : Int)))

 (.ret (.bl true, [.ro encLook [PUnit.unit], .ro (encHd 2) hs, Blk.rows false IntKind.u32 xss, .ro (encInt IntKind.u8) ac, .own [.a (encInt IntKind.u32) k l] 22, .own [.c (.sli 4 (.c 0) 1 (.v k) (some (.v k))), .c (.int .i64 c)] 68, Blk.rows true IntKind.u32 xss, .vec (encHd 6) gs 34, .own [.c (.int .i64 x.1), .c (.int .i64 x.2), .c (.int .i64 x.3), .c (.sli 7 (.c 0) 1 (.v gs.length) none), .c (.int .i64 x.4)] 70, .own [.c (.int .i64 y.1), .c (.int .i64 y.2), .c (.int .i64 y.3), .c (.int .i64 y.4), .c (.int .u32 y.5), .a (encInt IntKind.u32) 32 y.6, .c (.sb y.7), .c (.int .i64 y.8)] 73, .own [.c (.lit .u32 (4294967295 : Int)), .c (.lit .u32 (0 : Int)), .c (.lit .u32 (0 : Int))] 76]))

 (.br (decide ((↑k : Int) ≤ y.1 + ((1 : Int) + y.3)))

 (.ret (.bl true, [.ro encLook [PUnit.unit], .ro (encHd 2) hs, Blk.rows false IntKind.u32 xss, .ro (encInt IntKind.u8) ac, .own [.a (encInt IntKind.u32) k l] 22, .own [.c (.sli 4 (.c 0) 1 (.v k) (some (.v k))), .c (.int .i64 c)] 68, Blk.rows true IntKind.u32 xss, .vec (encHd 6) gs 34, .own [.c (.int .i64 x.1), .c (.int .i64 x.2), .c (.int .i64 x.3), .c (.sli 7 (.c 0) 1 (.v gs.length) none), .c (.int .i64 x.4)] 70, .own [.c (.int .i64 y.1), .c (.int .i64 y.2), .c (.int .i64 y.3), .c (.int .i64 y.4), .c (.int .u32 y.5), .a (encInt IntKind.u32) 32 y.6, .c (.sb y.7), .c (.int .i64 y.8)] 73, .own [.c (.lit .u32 (4294967295 : Int)), .c (.lit .u32 (0 : Int)), .c (.lit .u32 (0 : Int))] 76]))

 (.need (inR .i64 (c + (1 : Int)))

 (.need (decide ((0 : Int) ≤ y.1 + ((1 : Int) + y.3)) && decide ((y.1 + ((1 : Int) + y.3)).toNat < k))

 (.need (decide ((y.1 + ((1 : Int) + y.3)).toNat < k))

 (.need (true)

 (.need (true)

 (.need (true)

 (.br (y.4 == (0 : Int))

 (.need (true)

 (.br ((l.getD (y.1 + ((1 : Int) + y.3)).toNat (0 : Int)).tmod (2 : Int) == (0 : Int))

 (.need (inR .i64 (y.8 + (1 : Int)))

 (.ret (.sb y.7, [.ro encLook [PUnit.unit], .ro (encHd 2) hs, Blk.rows false IntKind.u32 xss, .ro (encInt IntKind.u8) ac, .own [.a (encInt IntKind.u32) k l] 22, .own [.c (.sli 4 (.c 0) 1 (.v k) (some (.v k))), .c (.int .i64 (c + (1 : Int)))] 68, Blk.rows true IntKind.u32 xss, .vec (encHd 6) gs 34, .own [.c (.int .i64 x.1), .c (.int .i64 x.2), .c (.int .i64 x.3), .c (.sli 7 (.c 0) 1 (.v gs.length) none), .c (.int .i64 x.4)] 70, .own [.c (.int .i64 y.1), .c (.int .i64 y.2), .c (.lit .i64 (0 : Int)), .c (.lit .i64 (1 : Int)), .c (.int .u32 (l.getD (y.1 + ((1 : Int) + y.3)).toNat (0 : Int))), .a (encInt IntKind.u32) 32 y.6, .c (.sb y.7), .c (.int .i64 (y.8 + (1 : Int)))] 73, .own [.c (.lit .u32 (4294967295 : Int)), .c (.lit .u32 (0 : Int)), .c (.lit .u32 (0 : Int))] 76])))

 (.ret (.sb y.7, [.ro encLook [PUnit.unit], .ro (encHd 2) hs, Blk.rows false IntKind.u32 xss, .ro (encInt IntKind.u8) ac, .own [.a (encInt IntKind.u32) k l] 22, .own [.c (.sli 4 (.c 0) 1 (.v k) (some (.v k))), .c (.int .i64 (c + (1 : Int)))] 68, Blk.rows true IntKind.u32 xss, .vec (encHd 6) gs 34, .own [.c (.int .i64 x.1), .c (.int .i64 x.2), .c (.int .i64 x.3), .c (.sli 7 (.c 0) 1 (.v gs.length) none), .c (.int .i64 x.4)] 70, .own [.c (.int .i64 y.1), .c (.int .i64 y.2), .c (.int .i64 y.3), .c (.int .i64 y.4), .c (.int .u32 y.5), .a (encInt IntKind.u32) 32 y.6, .c (.sb y.7), .c (.int .i64 y.8)] 73, .own [.c (.lit .u32 (4294967295 : Int)), .c (.lit .u32 (0 : Int)), .c (.lit .u32 (0 : Int))] 76]))))

 (.br (y.4 == (1 : Int))

 (.need (decide ((0 : Int) ≤ y.3) && decide (y.3.toNat < 32))

 (.need (decide (y.3.toNat < 32))
 (.eq (T.ret (SVal.int IntKind.i64 y.3) = T.ret (SVal.int IntKind.i64 y.3))

 (.need (inR .i64 (y.3 + (1 : Int)))

 (.br (y.3 + (1 : Int) == y.2)

 (.ret (.sb y.7, [.ro encLook [PUnit.unit], .ro (encHd 2) hs, Blk.rows false IntKind.u32 xss, .ro (encInt IntKind.u8) ac, .own [.a (encInt IntKind.u32) k l] 22, .own [.c (.sli 4 (.c 0) 1 (.v k) (some (.v k))), .c (.int .i64 (c + (1 : Int)))] 68, Blk.rows true IntKind.u32 xss, .vec (encHd 6) gs 34, .own [.c (.int .i64 x.1), .c (.int .i64 x.2), .c (.int .i64 x.3), .c (.sli 7 (.c 0) 1 (.v gs.length) none), .c (.int .i64 x.4)] 70, .own [.c (.int .i64 y.1), .c (.int .i64 y.2), .c (.int .i64 (y.3 + (1 : Int))), .c (.lit .i64 (2 : Int)), .c (.int .u32 y.5), .a (encInt IntKind.u32) 32 (y.6.set y.3.toNat (l.getD (y.1 + ((1 : Int) + y.3)).toNat (0 : Int))), .c (.sb y.7), .c (.int .i64 y.8)] 73, .own [.c (.lit .u32 (4294967295 : Int)), .c (.lit .u32 (0 : Int)), .c (.lit .u32 (0 : Int))] 76]))

 (.ret (.sb y.7, [.ro encLook [PUnit.unit], .ro (encHd 2) hs, Blk.rows false IntKind.u32 xss, .ro (encInt IntKind.u8) ac, .own [.a (encInt IntKind.u32) k l] 22, .own [.c (.sli 4 (.c 0) 1 (.v k) (some (.v k))), .c (.int .i64 (c + (1 : Int)))] 68, Blk.rows true IntKind.u32 xss, .vec (encHd 6) gs 34, .own [.c (.int .i64 x.1), .c (.int .i64 x.2), .c (.int .i64 x.3), .c (.sli 7 (.c 0) 1 (.v gs.length) none), .c (.int .i64 x.4)] 70, .own [.c (.int .i64 y.1), .c (.int .i64 y.2), .c (.int .i64 (y.3 + (1 : Int))), .c (.int .i64 y.4), .c (.int .u32 y.5), .a (encInt IntKind.u32) 32 (y.6.set y.3.toNat (l.getD (y.1 + ((1 : Int) + y.3)).toNat (0 : Int))), .c (.sb y.7), .c (.int .i64 y.8)] 73, .own [.c (.lit .u32 (4294967295 : Int)), .c (.lit .u32 (0 : Int)), .c (.lit .u32 (0 : Int))] 76])))))))

 (.br (y.4 == (2 : Int))

 (.ret (.sb (l.getD (y.1 + ((1 : Int) + y.3)).toNat (0 : Int) == y.5), [.ro encLook [PUnit.unit], .ro (encHd 2) hs, Blk.rows false IntKind.u32 xss, .ro (encInt IntKind.u8) ac, .own [.a (encInt IntKind.u32) k l] 22, .own [.c (.sli 4 (.c 0) 1 (.v k) (some (.v k))), .c (.int .i64 (c + (1 : Int)))] 68, Blk.rows true IntKind.u32 xss, .vec (encHd 6) gs 34, .own [.c (.int .i64 x.1), .c (.int .i64 x.2), .c (.int .i64 x.3), .c (.sli 7 (.c 0) 1 (.v gs.length) none), .c (.int .i64 x.4)] 70, .own [.c (.int .i64 y.1), .c (.int .i64 y.2), .c (.int .i64 y.3), .c (.lit .i64 (0 : Int)), .c (.int .u32 y.5), .a (encInt IntKind.u32) 32 y.6, .c (.sb (l.getD (y.1 + ((1 : Int) + y.3)).toNat (0 : Int) == y.5)), .c (.int .i64 y.8)] 73, .own [.c (.lit .u32 (4294967295 : Int)), .c (.lit .u32 (0 : Int)), .c (.lit .u32 (0 : Int))] 76]))

 (.ret (.sb y.7, [.ro encLook [PUnit.unit], .ro (encHd 2) hs, Blk.rows false IntKind.u32 xss, .ro (encInt IntKind.u8) ac, .own [.a (encInt IntKind.u32) k l] 22, .own [.c (.sli 4 (.c 0) 1 (.v k) (some (.v k))), .c (.int .i64 (c + (1 : Int)))] 68, Blk.rows true IntKind.u32 xss, .vec (encHd 6) gs 34, .own [.c (.int .i64 x.1), .c (.int .i64 x.2), .c (.int .i64 x.3), .c (.sli 7 (.c 0) 1 (.v gs.length) none), .c (.int .i64 x.4)] 70, .own [.c (.int .i64 y.1), .c (.int .i64 y.2), .c (.int .i64 y.3), .c (.int .i64 y.4), .c (.int .u32 y.5), .a (encInt IntKind.u32) 32 y.6, .c (.sb y.7), .c (.int .i64 y.8)] 73, .own [.c (.lit .u32 (4294967295 : Int)), .c (.lit .u32 (0 : Int)), .c (.lit .u32 (0 : Int))] 76]))))))))))))))))))

 (.need (true)

 (.need (true)

 (.need (true)

 (.br (decide (y.1 < (0 : Int)))

 (.ret (.bl true, [.ro encLook [PUnit.unit], .ro (encHd 2) hs, Blk.rows false IntKind.u32 xss, .ro (encInt IntKind.u8) ac, .own [.a (encInt IntKind.u32) k l] 22, .own [.c (.sli 4 (.c 0) 1 (.v k) (some (.v k))), .c (.int .i64 c)] 68, Blk.rows true IntKind.u32 xss, .vec (encHd 6) gs 34, .own [.c (.int .i64 x.1), .c (.int .i64 x.2), .c (.int .i64 x.3), .c (.sli 7 (.c 0) 1 (.v gs.length) none), .c (.int .i64 x.4)] 70, .own [.c (.int .i64 y.1), .c (.int .i64 y.2), .c (.int .i64 y.3), .c (.int .i64 y.4), .c (.int .u32 y.5), .a (encInt IntKind.u32) 32 y.6, .c (.sb y.7), .c (.int .i64 y.8)] 73, .own [.c (.lit .u32 (4294967295 : Int)), .c (.lit .u32 (0 : Int)), .c (.lit .u32 (0 : Int))] 76]))

 (.br (decide ((↑k : Int) ≤ y.1))

 (.ret (.bl true, [.ro encLook [PUnit.unit], .ro (encHd 2) hs, Blk.rows false IntKind.u32 xss, .ro (encInt IntKind.u8) ac, .own [.a (encInt IntKind.u32) k l] 22, .own [.c (.sli 4 (.c 0) 1 (.v k) (some (.v k))), .c (.int .i64 c)] 68, Blk.rows true IntKind.u32 xss, .vec (encHd 6) gs 34, .own [.c (.int .i64 x.1), .c (.int .i64 x.2), .c (.int .i64 x.3), .c (.sli 7 (.c 0) 1 (.v gs.length) none), .c (.int .i64 x.4)] 70, .own [.c (.int .i64 y.1), .c (.int .i64 y.2), .c (.int .i64 y.3), .c (.int .i64 y.4), .c (.int .u32 y.5), .a (encInt IntKind.u32) 32 y.6, .c (.sb y.7), .c (.int .i64 y.8)] 73, .own [.c (.lit .u32 (4294967295 : Int)), .c (.lit .u32 (0 : Int)), .c (.lit .u32 (0 : Int))] 76]))

 (.need (inR .i64 (c + (1 : Int)))

 (.need (decide ((0 : Int) ≤ y.1) && decide (y.1.toNat < k))

 (.need (decide (y.1.toNat < k))

 (.need (true)

 (.need (true)

 (.need (true)

 (.br (y.4 == (0 : Int))

 (.need (true)

 (.br ((l.getD y.1.toNat (0 : Int)).tmod (2 : Int) == (0 : Int))

 (.need (inR .i64 (y.8 + (1 : Int)))

 (.ret (.sb y.7, [.ro encLook [PUnit.unit], .ro (encHd 2) hs, Blk.rows false IntKind.u32 xss, .ro (encInt IntKind.u8) ac, .own [.a (encInt IntKind.u32) k l] 22, .own [.c (.sli 4 (.c 0) 1 (.v k) (some (.v k))), .c (.int .i64 (c + (1 : Int)))] 68, Blk.rows true IntKind.u32 xss, .vec (encHd 6) gs 34, .own [.c (.int .i64 x.1), .c (.int .i64 x.2), .c (.int .i64 x.3), .c (.sli 7 (.c 0) 1 (.v gs.length) none), .c (.int .i64 x.4)] 70, .own [.c (.int .i64 y.1), .c (.int .i64 y.2), .c (.lit .i64 (0 : Int)), .c (.lit .i64 (1 : Int)), .c (.int .u32 (l.getD y.1.toNat (0 : Int))), .a (encInt IntKind.u32) 32 y.6, .c (.sb y.7), .c (.int .i64 (y.8 + (1 : Int)))] 73, .own [.c (.lit .u32 (4294967295 : Int)), .c (.lit .u32 (0 : Int)), .c (.lit .u32 (0 : Int))] 76])))

 (.ret (.sb y.7, [.ro encLook [PUnit.unit], .ro (encHd 2) hs, Blk.rows false IntKind.u32 xss, .ro (encInt IntKind.u8) ac, .own [.a (encInt IntKind.u32) k l] 22, .own [.c (.sli 4 (.c 0) 1 (.v k) (some (.v k))), .c (.int .i64 (c + (1 : Int)))] 68, Blk.rows true IntKind.u32 xss, .vec (encHd 6) gs 34, .own [.c (.int .i64 x.1), .c (.int .i64 x.2), .c (.int .i64 x.3), .c (.sli 7 (.c 0) 1 (.v gs.length) none), .c (.int .i64 x.4)] 70, .own [.c (.int .i64 y.1), .c (.int .i64 y.2), .c (.int .i64 y.3), .c (.int .i64 y.4), .c (.int .u32 y.5), .a (encInt IntKind.u32) 32 y.6, .c (.sb y.7), .c (.int .i64 y.8)] 73, .own [.c (.lit .u32 (4294967295 : Int)), .c (.lit .u32 (0 : Int)), .c (.lit .u32 (0 : Int))] 76]))))

 (.br (y.4 == (1 : Int))

 (.need (decide ((0 : Int) ≤ y.3) && decide (y.3.toNat < 32))

 (.need (decide (y.3.toNat < 32))
 (.eq (T.ret (SVal.int IntKind.i64 y.3) = T.ret (SVal.int IntKind.i64 y.3))

 (.need (inR .i64 (y.3 + (1 : Int)))

 (.br (y.3 + (1 : Int) == y.2)

 (.ret (.sb y.7, [.ro encLook [PUnit.unit], .ro (encHd 2) hs, Blk.rows false IntKind.u32 xss, .ro (encInt IntKind.u8) ac, .own [.a (encInt IntKind.u32) k l] 22, .own [.c (.sli 4 (.c 0) 1 (.v k) (some (.v k))), .c (.int .i64 (c + (1 : Int)))] 68, Blk.rows true IntKind.u32 xss, .vec (encHd 6) gs 34, .own [.c (.int .i64 x.1), .c (.int .i64 x.2), .c (.int .i64 x.3), .c (.sli 7 (.c 0) 1 (.v gs.length) none), .c (.int .i64 x.4)] 70, .own [.c (.int .i64 y.1), .c (.int .i64 y.2), .c (.int .i64 (y.3 + (1 : Int))), .c (.lit .i64 (2 : Int)), .c (.int .u32 y.5), .a (encInt IntKind.u32) 32 (y.6.set y.3.toNat (l.getD y.1.toNat (0 : Int))), .c (.sb y.7), .c (.int .i64 y.8)] 73, .own [.c (.lit .u32 (4294967295 : Int)), .c (.lit .u32 (0 : Int)), .c (.lit .u32 (0 : Int))] 76]))

 (.ret (.sb y.7, [.ro encLook [PUnit.unit], .ro (encHd 2) hs, Blk.rows false IntKind.u32 xss, .ro (encInt IntKind.u8) ac, .own [.a (encInt IntKind.u32) k l] 22, .own [.c (.sli 4 (.c 0) 1 (.v k) (some (.v k))), .c (.int .i64 (c + (1 : Int)))] 68, Blk.rows true IntKind.u32 xss, .vec (encHd 6) gs 34, .own [.c (.int .i64 x.1), .c (.int .i64 x.2), .c (.int .i64 x.3), .c (.sli 7 (.c 0) 1 (.v gs.length) none), .c (.int .i64 x.4)] 70, .own [.c (.int .i64 y.1), .c (.int .i64 y.2), .c (.int .i64 (y.3 + (1 : Int))), .c (.int .i64 y.4), .c (.int .u32 y.5), .a (encInt IntKind.u32) 32 (y.6.set y.3.toNat (l.getD y.1.toNat (0 : Int))), .c (.sb y.7), .c (.int .i64 y.8)] 73, .own [.c (.lit .u32 (4294967295 : Int)), .c (.lit .u32 (0 : Int)), .c (.lit .u32 (0 : Int))] 76])))))))

 (.br (y.4 == (2 : Int))

 (.ret (.sb (l.getD y.1.toNat (0 : Int) == y.5), [.ro encLook [PUnit.unit], .ro (encHd 2) hs, Blk.rows false IntKind.u32 xss, .ro (encInt IntKind.u8) ac, .own [.a (encInt IntKind.u32) k l] 22, .own [.c (.sli 4 (.c 0) 1 (.v k) (some (.v k))), .c (.int .i64 (c + (1 : Int)))] 68, Blk.rows true IntKind.u32 xss, .vec (encHd 6) gs 34, .own [.c (.int .i64 x.1), .c (.int .i64 x.2), .c (.int .i64 x.3), .c (.sli 7 (.c 0) 1 (.v gs.length) none), .c (.int .i64 x.4)] 70, .own [.c (.int .i64 y.1), .c (.int .i64 y.2), .c (.int .i64 y.3), .c (.lit .i64 (0 : Int)), .c (.int .u32 y.5), .a (encInt IntKind.u32) 32 y.6, .c (.sb (l.getD y.1.toNat (0 : Int) == y.5)), .c (.int .i64 y.8)] 73, .own [.c (.lit .u32 (4294967295 : Int)), .c (.lit .u32 (0 : Int)), .c (.lit .u32 (0 : Int))] 76]))

 (.ret (.sb y.7, [.ro encLook [PUnit.unit], .ro (encHd 2) hs, Blk.rows false IntKind.u32 xss, .ro (encInt IntKind.u8) ac, .own [.a (encInt IntKind.u32) k l] 22, .own [.c (.sli 4 (.c 0) 1 (.v k) (some (.v k))), .c (.int .i64 (c + (1 : Int)))] 68, Blk.rows true IntKind.u32 xss, .vec (encHd 6) gs 34, .own [.c (.int .i64 x.1), .c (.int .i64 x.2), .c (.int .i64 x.3), .c (.sli 7 (.c 0) 1 (.v gs.length) none), .c (.int .i64 x.4)] 70, .own [.c (.int .i64 y.1), .c (.int .i64 y.2), .c (.int .i64 y.3), .c (.int .i64 y.4), .c (.int .u32 y.5), .a (encInt IntKind.u32) 32 y.6, .c (.sb y.7), .c (.int .i64 y.8)] 73, .own [.c (.lit .u32 (4294967295 : Int)), .c (.lit .u32 (0 : Int)), .c (.lit .u32 (0 : Int))] 76])))))))))))))))))) := by kernel_rfl
end Go.Proofs.YtmknmbacecjfmaaDoor

/- Layer 10: a writer's step. -/
namespace Go.Proofs.YtmknmbacecjfmaaDoor
open Go Go.Proofs.YtmknmbacecjfmaaDoor.Sx
set_option linter.unusedVariables false
theorem w32_mod (x : Int) : IntKind.u32.wrap x = x % 4294967296 := by
  simp [IntKind.wrap, IntKind.signed, IntKind.bits]
theorem low_u32 (x : Int) : ((low .u32 x : Nat) : Int) = x % 4294967296 := by
  have : 0 ≤ x % 4294967296 := by omega
  simp only [low, IntKind.bits]
  omega
theorem low_lt (x : Int) : low .u32 x < 4294967296 := by
  have := low_u32 x
  omega
theorem and_mask (x : Int) : bitop .and .u32 x 4294967295 = x % 4294967296 := by
  have h1 : low .u32 4294967295 = 2 ^ 32 - 1 := by decide
  have h2 := low_lt x
  simp only [bitop, h1, Nat.and_two_pow_sub_one_eq_mod, w32_mod]
  rw [Nat.mod_eq_of_lt (by omega), low_u32]
  omega
theorem and_zero (x : Int) : bitop .and .u32 x 0 = 0 := by
  have h1 : low .u32 0 = 0 := by decide
  simp only [bitop, h1, Nat.and_zero, w32_mod]
  rfl
theorem or_zero (x : Int) : bitop .or .u32 x 0 = x % 4294967296 := by
  have h1 : low .u32 0 = 0 := by decide
  simp only [bitop, h1, Nat.or_zero, w32_mod, low_u32]
  omega
theorem zero_or (x : Int) : bitop .or .u32 0 x = x % 4294967296 := by
  have h1 : low .u32 0 = 0 := by decide
  simp only [bitop, h1, Nat.zero_or, w32_mod, low_u32]
  omega
theorem raw_inc (x : Int) : IntKind.u32.wrap (bitop .or .u32 (bitop .and .u32 x 4294967295) 0 + 1) = (x + 1) % 4294967296 := by
  simp only [and_mask, or_zero, w32_mod]; omega
theorem raw_set (x v : Int) : IntKind.u32.wrap (bitop .or .u32 (bitop .and .u32 x 0) v + 0) = v % 4294967296 := by
  simp only [and_zero, zero_or, w32_mod]; omega
def U32s (l : List Int) : Prop := ∀ x ∈ l, 0 ≤ x ∧ x < 4294967296
theorem u32s_getD {l : List Int} (h : U32s l) (i : Nat) : 0 ≤ l.getD i 0 ∧ l.getD i 0 < 4294967296 := by
  rw [List.getD_eq_getElem?_getD]
  cases hi : l[i]? with
  | none => simp
  | some x => simpa using h x (List.mem_of_getElem? hi)
theorem u32s_set {l : List Int} (h : U32s l) (i : Nat) {x : Int} (hx : 0 ≤ x ∧ x < 4294967296) : U32s (l.set i x) := by
  intro y hy
  rcases List.mem_or_eq_of_mem_set hy with h1 | rfl
  · exact h y h1
  · exact hx
structure WR where
  x : Wr
  l : List Int
  c : Int
  b : Bool
/-- what a writer's step does -/
def wNext (k : Nat) (xss : List (List Int)) (x : Wr) (l : List Int) (c : Int) : WR :=
  if x.ver = (xss.length : Int) then ⟨x, l, c, true⟩ else
  if x.ph = 1 then
    if 0 ≤ x.at' + 1 + x.i ∧ x.at' + 1 + x.i < (k : Int) then ⟨⟨x.at', x.i + 1, if x.i + 1 = ((xss.getD x.ver.toNat []).length : Int) then 2 else 1, x.ver⟩, l.set (x.at' + 1 + x.i).toNat ((xss.getD x.ver.toNat []).getD x.i.toNat 0), c + 1, false⟩
    else ⟨⟨x.at', x.i + 1, if x.i + 1 = ((xss.getD x.ver.toNat []).length : Int) then 2 else 1, x.ver⟩, l, c, true⟩
  else
    if 0 ≤ x.at' ∧ x.at' < (k : Int) then
      if x.ph = 2 then ⟨⟨x.at', 0, 0, x.ver + 1⟩, l.set x.at'.toNat ((l.getD x.at'.toNat 0 + 1) % 4294967296), c + 1, x.ver + 1 == (xss.length : Int)⟩
      else ⟨⟨x.at', 0, 1, x.ver⟩, l.set x.at'.toNat ((l.getD x.at'.toNat 0 + 1) % 4294967296), c + 1, false⟩
    else ⟨⟨x.at', 0, if x.ph = 2 then 0 else 1, x.ver⟩, l, c, true⟩
/-- a writer among its versions -/
structure WOk (k : Nat) (xss : List (List Int)) (l : List Int) (c : Int) (x : Wr) : Prop where
  kl : k ≤ 4096 ∧ l.length = k
  ok : okV xss
  us : ∀ i, U32s (xss.getD i [])
  nl : xss.length ≤ 1000
  c : 0 ≤ c ∧ c ≤ 1000000
  a : -1000 ≤ x.at' ∧ x.at' ≤ 1000
  v : 0 ≤ x.ver ∧ x.ver ≤ (xss.length : Int)
  p : 0 ≤ x.ph ∧ x.ph ≤ 2
  i : x.ph = 1 → x.ver < (xss.length : Int) ∧ 0 ≤ x.i ∧ x.i < ((xss.getD x.ver.toNat []).length : Int)
  p2 : x.ph = 2 → x.ver < (xss.length : Int)
theorem wNext_ok {k : Nat} {xss : List (List Int)} {l : List Int} {c : Int} {x : Wr} (h : WOk k xss l c x) (hc : 0 ≤ (wNext k xss x l c).c ∧ (wNext k xss x l c).c ≤ 1000000) : WOk k xss (wNext k xss x l c).l (wNext k xss x l c).c (wNext k xss x l c).x := by
  obtain ⟨at', i, ph, ver⟩ := x
  obtain ⟨⟨h1, h2⟩, h3, h4, h5, h6, h7, h8, h9, h10, h11⟩ := h
  simp only at h7 h8 h9 h10 h11
  by_cases hv : ver = (xss.length : Int)
  · simp only [wNext, if_pos hv] at hc ⊢
    exact ⟨⟨h1, h2⟩, h3, h4, h5, hc, h7, h8, h9, h10, h11⟩
  have hrow := (h3 ver.toNat (by omega)).1
  by_cases hp : ph = 1
  · obtain ⟨h12, h13, h14⟩ := h10 hp
    have hx : ∀ {l' : List Int} {c' : Int}, l'.length = k → (0 ≤ c' ∧ c' ≤ 1000000) → WOk k xss l' c' ⟨at', i + 1, if i + 1 = ((xss.getD ver.toNat []).length : Int) then 2 else 1, ver⟩ := by
      intro l' c' hl hc'
      refine ⟨⟨h1, hl⟩, h3, h4, h5, hc', h7, h8, ?_, ?_, ?_⟩
      · simp only; split <;> omega
      · simp only
        split
        · intro h; omega
        · intro _; omega
      · simp only
        intro _; exact h12
    by_cases ha : 0 ≤ at' + 1 + i ∧ at' + 1 + i < (k : Int)
    · simp only [wNext, if_neg hv, if_pos hp, if_pos ha] at hc ⊢
      exact hx (by rw [List.length_set]; exact h2) hc
    · simp only [wNext, if_neg hv, if_pos hp, if_neg ha] at hc ⊢
      exact hx h2 hc
  · by_cases ha : 0 ≤ at' ∧ at' < (k : Int)
    · by_cases h2p : ph = 2
      · simp only [wNext, if_neg hv, if_neg hp, if_pos ha, if_pos h2p] at hc ⊢
        exact ⟨⟨h1, by rw [List.length_set]; exact h2⟩, h3, h4, h5, hc, h7, by simp only; omega, by simp only; omega, fun h => by simp only at h; omega, fun h => by simp only at h; omega⟩
      · simp only [wNext, if_neg hv, if_neg hp, if_pos ha, if_neg h2p] at hc ⊢
        exact ⟨⟨h1, by rw [List.length_set]; exact h2⟩, h3, h4, h5, hc, h7, h8, by simp only; omega, fun _ => ⟨by simp only; omega, by simp only; omega⟩, fun h => by simp only at h; omega⟩
    · simp only [wNext, if_neg hv, if_neg hp, if_neg ha] at hc ⊢
      refine ⟨⟨h1, h2⟩, h3, h4, h5, hc, h7, h8, ?_, ?_, ?_⟩
      · simp only; split <;> omega
      · simp only
        split
        · intro h; omega
        · intro _; omega
      · simp only
        split
        · intro h; omega
        · intro h; omega
theorem sM_ren {k : Nat} {ac : List Int} {xss : List (List Int)} {hs gs : List (Nat × Nat)} {l : List Int} {c : Int} {x : Wr} : renSt (List.range 9) (sM k ac xss hs gs l c x) (List.range 9) = some (sM k ac xss hs gs l c x) := by kernel_rfl
set_option maxHeartbeats 2000000 in
theorem w_step {k : Nat} {ac : List Int} {xss : List (List Int)} {l : List Int} {c : Int} {x : Wr} (h : WOk k xss l c x) :
    ∀ (env : Env) (w : World) (vs : List Value), GlOk cfgM.gl env → Rep env (sM k ac xss (hdL xss) (hdL xss) l c x) w → DenL env [.ptr 8 0, .ptr 5 0] vs → Calls cfgM.P 14 ⟨vs⟩ w (Ends1 env (sM k ac xss (hdL xss) (hdL xss) l c x) w (.sb (wNext k xss x l c).b) (sM k ac xss (hdL xss) (hdL xss) (wNext k xss x l c).l (wNext k xss x l c).c (wNext k xss x l c).x)) := by
  obtain ⟨at', i, ph, ver⟩ := x
  obtain ⟨⟨h1, h2⟩, h3, h4, h5, h6, h7, h8, h9, h10, h11⟩ := h
  simp only at h7 h8 h9 h10 h11
  have hhl := hdL_len xss
  generalize hR : wNext k xss _ l c = R
  by_cases hv : ver = (xss.length : Int)
  · simp only [wNext, if_pos hv] at hR
    subst hR
    refine ends_allg (c := cfgM) cfgM_ok (@k_w k ac xss (hdL xss) (hdL xss) l c _) (by kernel_rfl) rfl sM_ren rfl ?_
    refine all_brt (p := ver = (xss.length : Int)) (by rw [hhl]; exact beq_iff_eq) hv ?_
    exact all_ret ⟨_, rfl, rfl⟩
  have hvl : ver.toNat < xss.length := by omega
  have hget := hdL_get hvl
  simp only [wNext, if_neg hv] at hR
  have ht := @k_w k ac xss (hdL xss) (hdL xss) l c ⟨at', i, ph, ver⟩
  have e0 : (ver == ((hdL xss).length : Int)) = false := by rw [hhl]; exact beq_eq_false_iff_ne.2 hv
  rw [hget] at ht
  have hrow := (h3 _ hvl).1
  have hus := u32s_getD (h4 ver.toNat)
  generalize xss.getD ver.toNat [] = row at *
  refine ends_allg (c := cfgM) cfgM_ok ht (by kernel_rfl) rfl sM_ren rfl ?_
  refine all_brf (p := ver = (xss.length : Int)) (by rw [hhl]; exact beq_iff_eq) hv ?_
  refine all_needq (by simp only [decide_eq_true_eq, Bool.and_eq_true]; exact Iff.rfl) (by omega) ?_
  refine all_needq (by simp only [decide_eq_true_eq]; exact Iff.rfl) (by omega) ?_
  have hq : ph = 0 ∨ ph = 1 ∨ ph = 2 := by omega
  by_cases hp : ph = 1
  · subst hp
    obtain ⟨_, h12, h13⟩ := h10 rfl
    have hv2 := hus i.toNat
    rw [if_pos rfl] at hR
    refine all_br (fun _ => ?_) (fun hh => by cases hh)
    refine all_needq (by simp only [inR_i64]; exact Iff.rfl) (by omega) ?_
    refine all_needq (by simp only [inR_i64]; exact Iff.rfl) (by omega) ?_
    refine all_needq (by simp only [decide_eq_true_eq, Bool.and_eq_true]; exact Iff.rfl) (by omega) ?_
    refine all_needq (by simp only [decide_eq_true_eq, Bool.and_eq_true]; exact Iff.rfl) (by omega) ?_
    refine all_brp (by simp only [decide_eq_true_eq]; exact Iff.rfl) (fun hn => ?_) (fun hn => ?_)
    · rw [if_neg (by omega)] at hR
      refine all_eq rfl (all_eq rfl (all_eq rfl (all_eq rfl ?_)))
      refine all_needq (by simp only [inR_i64]; exact Iff.rfl) (by omega) ?_
      refine all_brp (by exact beq_iff_eq) (fun hq => ?_) (fun hq => ?_)
      · rw [if_pos hq] at hR; subst hR
        exact all_ret ⟨_, rfl, rfl⟩
      · rw [if_neg hq] at hR; subst hR
        exact all_ret ⟨_, rfl, rfl⟩
    refine all_brp (by simp only [decide_eq_true_eq]; exact Iff.rfl) (fun hn2 => ?_) (fun hn2 => ?_)
    · rw [if_neg (by omega)] at hR
      refine all_eq rfl (all_eq rfl (all_eq rfl (all_eq rfl ?_)))
      refine all_needq (by simp only [inR_i64]; exact Iff.rfl) (by omega) ?_
      refine all_brp (by exact beq_iff_eq) (fun hq => ?_) (fun hq => ?_)
      · rw [if_pos hq] at hR; subst hR
        exact all_ret ⟨_, rfl, rfl⟩
      · rw [if_neg hq] at hR; subst hR
        exact all_ret ⟨_, rfl, rfl⟩
    rw [if_pos (by omega)] at hR
    have hi : (at' + 1 + i).toNat < l.length := by omega
    have e1 : row.getD i.toNat 0 % 4294967296 = row.getD i.toNat 0 := Int.emod_eq_of_lt hv2.1 hv2.2
    simp only [Sx.getD_set_self hi, List.set_set, raw_set, e1, e0]
    repeat' (first
      | refine all_needq (by simp only [inR_i64]; exact Iff.rfl) (by omega) ?_
      | refine all_needq (by simp only [decide_eq_true_eq, Bool.and_eq_true]; exact Iff.rfl) (by omega) ?_
      | refine all_needq (by simp only [decide_eq_true_eq]; exact Iff.rfl) (by omega) ?_
      | refine all_need rfl (fun _ => ?_)
      | refine all_eq trivial ?_
      | refine all_eq rfl ?_)
    refine all_brp (by exact beq_iff_eq) (fun hq => ?_) (fun hq => ?_)
    · rw [if_pos hq] at hR; subst hR
      exact all_ret ⟨_, rfl, rfl⟩
    · rw [if_neg hq] at hR; subst hR
      exact all_ret ⟨_, rfl, rfl⟩
  · rw [if_neg hp] at hR
    have hpq : ph = 0 ∨ ph = 2 := by omega
    have e2 : (1 : Int) - IntKind.i64.wrap (ph.tdiv 2) = if ph = 2 then 0 else 1 := by
      rcases hpq with rfl | rfl <;> decide
    rw [e2]
    refine all_brf (p := ph = 1) beq_iff_eq hp ?_
    refine all_need rfl fun _ => ?_
    have e3 : -9223372036854775808 ≤ (if ph = 2 then (0 : Int) else 1) ∧ (if ph = 2 then (0 : Int) else 1) ≤ 9223372036854775807 := by split <;> omega
    refine all_brp (by simp only [decide_eq_true_eq]; exact Iff.rfl) (fun hn => ?_) (fun hn => ?_)
    · rw [if_neg (by omega)] at hR
      refine all_need rfl fun _ => ?_
      refine all_needq (by first | (simp only [inR_i64]; done) | (simp only [inR_i64]; exact Iff.rfl)) e3 ?_
      subst hR
      exact all_ret ⟨_, rfl, rfl⟩
    refine all_brp (by simp only [decide_eq_true_eq]; exact Iff.rfl) (fun hn2 => ?_) (fun hn2 => ?_)
    · rw [if_neg (by omega)] at hR
      refine all_need rfl fun _ => ?_
      refine all_needq (by first | (simp only [inR_i64]; done) | (simp only [inR_i64]; exact Iff.rfl)) e3 ?_
      subst hR
      exact all_ret ⟨_, rfl, rfl⟩
    rw [if_pos (by omega)] at hR
    have hi : at'.toNat < l.length := by omega
    simp only [Sx.getD_set_self hi, List.set_set, raw_inc, e0]
    repeat' (first
      | refine all_needq (by simp only [inR_i64]; exact Iff.rfl) (by omega) ?_
      | refine all_needq (by simp only [decide_eq_true_eq, Bool.and_eq_true]; exact Iff.rfl) (by omega) ?_
      | refine all_needq (by simp only [decide_eq_true_eq]; exact Iff.rfl) (by omega) ?_
      | refine all_need rfl (fun _ => ?_)
      | refine all_eq trivial ?_
      | refine all_eq rfl ?_)
    refine all_brp (by exact beq_iff_eq) (fun hq => ?_) (fun hq => ?_)
    · rw [if_pos hq] at hR
      refine all_needq (by simp only [inR_i64]; exact Iff.rfl) (by omega) ?_
      refine all_need rfl fun _ => ?_
      refine all_needq (by first | (simp only [inR_i64]; done) | (simp only [inR_i64]; exact Iff.rfl)) e3 ?_
      rw [if_pos hq]
      rw [← hhl] at hR
      subst hR
      exact all_ret ⟨_, rfl, rfl⟩
    · rw [if_neg hq] at hR
      refine all_need rfl fun _ => ?_
      refine all_needq (by first | (simp only [inR_i64]; done) | (simp only [inR_i64]; exact Iff.rfl)) e3 ?_
      rw [if_neg hq]
      subst hR
      exact all_ret ⟨_, rfl, rfl⟩
end Go.Proofs.YtmknmbacecjfmaaDoor

/- Layer 10: a reader's step. -/
namespace Go.Proofs.YtmknmbacecjfmaaDoor
open Go Go.Proofs.YtmknmbacecjfmaaDoor.Sx
set_option linter.unusedVariables false
structure RR where
  y : Rd
  c : Int
  b : Bool
/-- where a reader reads -/
def rAt (y : Rd) : Int := if y.ph = 1 then y.at' + (1 + y.i) else y.at'
/-- what a reader's step does -/
def rNext (k : Nat) (y : Rd) (l : List Int) (c : Int) : RR :=
  if y.got = true then ⟨y, c, true⟩ else
  if 0 ≤ rAt y ∧ rAt y < (k : Int) then
    if y.ph = 0 then
      if (l.getD y.at'.toNat 0).tmod 2 = 0 then ⟨⟨y.at', y.n, 0, 1, l.getD y.at'.toNat 0, y.buf, false, y.tries + 1⟩, c + 1, false⟩ else ⟨y, c + 1, false⟩
    else if y.ph = 1 then ⟨⟨y.at', y.n, y.i + 1, if y.i + 1 = y.n then 2 else 1, y.sq, y.buf.set y.i.toNat (l.getD (y.at' + (1 + y.i)).toNat 0), false, y.tries⟩, c + 1, false⟩
    else ⟨⟨y.at', y.n, y.i, 0, y.sq, y.buf, l.getD y.at'.toNat 0 == y.sq, y.tries⟩, c + 1, l.getD y.at'.toNat 0 == y.sq⟩
  else ⟨y, c, true⟩
structure ROk (k : Nat) (l : List Int) (c : Int) (y : Rd) : Prop where
  kl : k ≤ 4096 ∧ l.length = k
  c : 0 ≤ c ∧ c ≤ 1000000
  a : -1000 ≤ y.at' ∧ y.at' ≤ 1000
  n : 1 ≤ y.n ∧ y.n ≤ 32
  p : 0 ≤ y.ph ∧ y.ph ≤ 2
  i : y.ph = 1 → 0 ≤ y.i ∧ y.i < y.n
  bl : y.buf.length = 32
  t : 0 ≤ y.tries ∧ y.tries ≤ 1000000
theorem rNext_ok {k : Nat} {l : List Int} {c : Int} {y : Rd} (h : ROk k l c y) (hc : 0 ≤ (rNext k y l c).c ∧ (rNext k y l c).c ≤ 1000000) (ht : (rNext k y l c).y.tries ≤ 1000000) : ROk k l (rNext k y l c).c (rNext k y l c).y := by
  obtain ⟨at', n, i, ph, sq, buf, got, tries⟩ := y
  obtain ⟨⟨h1, h2⟩, h3, h4, h5, h6, h7, h8, h9⟩ := h
  simp only at h4 h5 h6 h7 h8 h9
  by_cases hg : got = true
  · simp only [rNext, if_pos hg] at hc ⊢
    exact ⟨⟨h1, h2⟩, hc, h4, h5, h6, h7, h8, h9⟩
  by_cases ha : 0 ≤ rAt ⟨at', n, i, ph, sq, buf, got, tries⟩ ∧ rAt ⟨at', n, i, ph, sq, buf, got, tries⟩ < (k : Int)
  · by_cases h0 : ph = 0
    · by_cases hev : (l.getD at'.toNat 0).tmod 2 = 0
      · simp only [rNext, if_neg hg, if_pos ha, if_pos h0, if_pos hev] at hc ht ⊢
        exact ⟨⟨h1, h2⟩, hc, h4, h5, by simp only; omega, fun _ => ⟨by simp only; omega, by simp only; omega⟩, h8, by simp only; omega⟩
      · simp only [rNext, if_neg hg, if_pos ha, if_pos h0, if_neg hev] at hc ht ⊢
        exact ⟨⟨h1, h2⟩, hc, h4, h5, h6, h7, h8, h9⟩
    · by_cases hp : ph = 1
      · have h7 := h7 hp
        simp only [rNext, if_neg hg, if_pos ha, if_neg h0, if_pos hp] at hc ht ⊢
        refine ⟨⟨h1, h2⟩, hc, h4, h5, ?_, ?_, ?_, h9⟩
        · simp only; split <;> omega
        · simp only
          split
          · intro h; omega
          · intro _; omega
        · simp only; rw [List.length_set]; exact h8
      · simp only [rNext, if_neg hg, if_pos ha, if_neg h0, if_neg hp] at hc ht ⊢
        exact ⟨⟨h1, h2⟩, hc, h4, h5, by simp only; omega, fun h => by simp only at h; omega, h8, h9⟩
  · simp only [rNext, if_neg hg, if_neg ha] at hc ⊢
    exact ⟨⟨h1, h2⟩, hc, h4, h5, h6, h7, h8, h9⟩
theorem sMR_ren {k : Nat} {ac : List Int} {xss : List (List Int)} {hs gs : List (Nat × Nat)} {l : List Int} {c : Int} {x : Wr} {y : Rd} : renSt (List.range 10) (sMR k ac xss hs gs l c x y) (List.range 10) = some (sMR k ac xss hs gs l c x y) := by kernel_rfl
set_option maxHeartbeats 4000000 in
theorem r_step {k : Nat} {ac : List Int} {xss : List (List Int)} {hs gs : List (Nat × Nat)} {l : List Int} {c : Int} {x : Wr} {y : Rd} (h : ROk k l c y) :
    ∀ (env : Env) (w : World) (vs : List Value), GlOk cfgM.gl env → Rep env (sMR k ac xss hs gs l c x y) w → DenL env [.ptr 9 0, .ptr 5 0] vs → Calls cfgM.P 16 ⟨vs⟩ w (Ends1 env (sMR k ac xss hs gs l c x y) w (.sb (rNext k y l c).b) (sMR k ac xss hs gs l (rNext k y l c).c x (rNext k y l c).y)) := by
  obtain ⟨at', n, i, ph, sq, buf, got, tries⟩ := y
  obtain ⟨⟨h1, h2⟩, h3, h4, h5, h6, h7, h8, h9⟩ := h
  simp only at h4 h5 h6 h7 h8 h9
  generalize hR : rNext k _ l c = R
  refine ends_allg (c := cfgM) cfgM_ok k_r (by kernel_rfl) rfl sMR_ren rfl ?_
  cases got with
  | true =>
    simp only [rNext, if_pos] at hR
    subst hR
    refine all_br (fun _ => all_ret ⟨_, rfl, rfl⟩) (fun hh => by cases hh)
  | false =>
    simp only [rNext, if_neg (show ¬ false = true by simp)] at hR
    refine all_br (fun hh => by cases hh) (fun _ => ?_)
    by_cases hp : ph = 1
    · have h7 := h7 hp
      simp only [rAt, if_pos hp, if_neg (show ¬ ph = 0 by omega)] at hR
      refine all_brt (p := ph = 1) beq_iff_eq hp ?_
      refine all_needq (by simp only [inR_i64]; exact Iff.rfl) (by omega) ?_
      refine all_needq (by simp only [inR_i64]; exact Iff.rfl) (by omega) ?_
      refine all_need rfl fun _ => all_need rfl fun _ => all_need rfl fun _ => ?_
      refine all_brp (by simp only [decide_eq_true_eq]; exact Iff.rfl) (fun hn => ?_) (fun hn => ?_)
      · rw [if_neg (by omega)] at hR; subst hR
        exact all_ret ⟨_, rfl, rfl⟩
      refine all_brp (by simp only [decide_eq_true_eq]; exact Iff.rfl) (fun hn2 => ?_) (fun hn2 => ?_)
      · rw [if_neg (by omega)] at hR; subst hR
        exact all_ret ⟨_, rfl, rfl⟩
      rw [if_pos (by omega)] at hR
      refine all_needq (by simp only [inR_i64]; exact Iff.rfl) (by omega) ?_
      refine all_needq (by simp only [decide_eq_true_eq, Bool.and_eq_true]; exact Iff.rfl) (by omega) ?_
      refine all_needq (by simp only [decide_eq_true_eq]; exact Iff.rfl) (by omega) ?_
      refine all_need rfl fun _ => all_need rfl fun _ => all_need rfl fun _ => ?_
      refine all_brf (p := ph = 0) beq_iff_eq (by omega) ?_
      refine all_brt (p := ph = 1) beq_iff_eq hp ?_
      refine all_needq (by simp only [decide_eq_true_eq, Bool.and_eq_true]; exact Iff.rfl) (by omega) ?_
      refine all_needq (by simp only [decide_eq_true_eq]; exact Iff.rfl) (by omega) ?_
      refine all_eq rfl ?_
      refine all_needq (by simp only [inR_i64]; exact Iff.rfl) (by omega) ?_
      refine all_brp (by exact beq_iff_eq) (fun hq => ?_) (fun hq => ?_)
      · rw [if_pos hq] at hR; subst hR
        exact all_ret ⟨_, rfl, rfl⟩
      · rw [if_neg hq] at hR; subst hR hp
        exact all_ret ⟨_, rfl, rfl⟩
    · simp only [rAt, if_neg hp] at hR
      refine all_brf (p := ph = 1) beq_iff_eq hp ?_
      refine all_need rfl fun _ => all_need rfl fun _ => all_need rfl fun _ => ?_
      refine all_brp (by simp only [decide_eq_true_eq]; exact Iff.rfl) (fun hn => ?_) (fun hn => ?_)
      · rw [if_neg (by omega)] at hR; subst hR
        exact all_ret ⟨_, rfl, rfl⟩
      refine all_brp (by simp only [decide_eq_true_eq]; exact Iff.rfl) (fun hn2 => ?_) (fun hn2 => ?_)
      · rw [if_neg (by omega)] at hR; subst hR
        exact all_ret ⟨_, rfl, rfl⟩
      rw [if_pos (by omega)] at hR
      refine all_needq (by simp only [inR_i64]; exact Iff.rfl) (by omega) ?_
      refine all_needq (by simp only [decide_eq_true_eq, Bool.and_eq_true]; exact Iff.rfl) (by omega) ?_
      refine all_needq (by simp only [decide_eq_true_eq]; exact Iff.rfl) (by omega) ?_
      refine all_need rfl fun _ => all_need rfl fun _ => all_need rfl fun _ => ?_
      refine all_brp (by exact beq_iff_eq) (fun h0 => ?_) (fun h0 => ?_)
      · rw [if_pos h0] at hR
        refine all_need rfl fun _ => ?_
        refine all_brp (by exact beq_iff_eq) (fun hq => ?_) (fun hq => ?_)
        · rw [if_pos hq] at hR
          refine all_needq (by simp only [inR_i64]; exact Iff.rfl) (by omega) ?_
          subst hR
          exact all_ret ⟨_, rfl, rfl⟩
        · rw [if_neg hq] at hR; subst hR
          exact all_ret ⟨_, rfl, rfl⟩
      · rw [if_neg h0] at hR
        refine all_brf (p := ph = 1) beq_iff_eq hp ?_
        refine all_brt (p := ph = 2) beq_iff_eq (by have h0 : ¬ ph = 0 := h0; omega) ?_
        subst hR
        exact all_ret ⟨_, rfl, rfl⟩
end Go.Proofs.YtmknmbacecjfmaaDoor

/- Layer 10: a writer made, few versions, and steps, at a law's state. -/
namespace Go.Proofs.YtmknmbacecjfmaaDoor
open Go Go.Proofs.YtmknmbacecjfmaaDoor.Sx
set_option linter.unusedVariables false
theorem gl3 {k : Nat} (h : 0 < k) : ∀ p ∈ cfgM.gl, p.2 < k := by
  intro p hp
  rw [List.mem_singleton.1 hp]; exact h
theorem roSame_refl (S : St) : roSame S S := fun i b h => .inr h
theorem ren_hd (m : List Nat) (j : Nat) (h : ∀ i n, ren m (.slr 3 i n) = .slr j i n) : ∀ gs : List (Nat × Nat), (renRows m (encHd 3) gs).flatMap (encRow 0).enc = gs.flatMap (encHd j).enc
  | [] => rfl
  | x :: gs => by
    have ih := ren_hd m j h gs
    simp only [renRows, List.map_cons, List.flatMap_cons] at ih ⊢
    rw [ih]
    congr 1
    show (encRow 0).enc [ren m (.slr 3 x.1 x.2)] = _
    rw [h]; rfl
abbrev mN : List Nat := newMap 3 3 3
set_option maxRecDepth 100000 in
theorem newL_ok {k : Nat} {ac : List Int} {xss : List (List Int)} {l : List Int} {c a : Int} {cp : Nat} (hsz : xss.length * 24 ≤ 140737488355328) (hok : okV xss) (env : Env) (w : World) (vs : List Value) (hg : GlOk cfgM.gl env) (hr : Rep env (sI k ac xss (hdL xss) l c) w) (hd : DenL env [.int .i64 a, vsV xss cp] vs) :
    Calls cfgM.P 9 ⟨vs⟩ w (Ends1 env (sI k ac xss (hdL xss) l c) w (.tup [.ptr 8 0, .lit .i64 0]) (sM k ac xss (hdL xss) (hdL xss) l c (wr0 a))) := by
  have h := newW_call (a := a) (cp := cp) hsz (.inl ⟨hok, rfl, rfl⟩)
  generalize hdL xss = hs at *
  have hf := frameNew (c := cfgM) (n := 3) h ([.ro (encInt .u8) ac] ++ memS k l c) rfl rfl (gl3 (by simp)) (by kernel_rfl) (Sa := inS xss hs) (Sb := [.rows true .u32 xss, .vec (encRow 0) (renRows mN (encHd 3) hs) 34, wrB 7 (wr0 a) hs.length]) (s' := .tup [.ptr 8 0, .lit .i64 0]) (by kernel_rfl) (by kernel_rfl) rfl (roSame_refl _) (by
    intro b hb
    simp only [List.mem_cons, List.not_mem_nil, or_false] at hb
    rcases hb with rfl | rfl | rfl <;> rfl) rfl
  refine (hf env w vs hg hr hd).mono fun e w' he => ?_
  have := ends_typed (E := encRow 0) (xs := renRows mN (encHd 3) hs) (E' := encHd 6) (ys := hs) (T := 34) 7 rfl (by simp [renRows]) rfl (ren_hd mN 6 (fun i n => rfl) hs) he
  exact this
set_option maxRecDepth 100000 in
theorem newL_no {k : Nat} {ac : List Int} {xss : List (List Int)} {l : List Int} {c a : Int} {cp : Nat} (hsz : xss.length * 24 ≤ 140737488355328) (hok : ¬ okV xss) (env : Env) (w : World) (vs : List Value) (hg : GlOk cfgM.gl env) (hr : Rep env (sI k ac xss (hdL xss) l c) w) (hd : DenL env [.int .i64 a, vsV xss cp] vs) :
    Calls cfgM.P 9 ⟨vs⟩ w (Ends1 env (sI k ac xss (hdL xss) l c) w (.tup [.pnil, .lit .i64 100]) (sI k ac xss (hdL xss) l c)) := by
  have h := newW_call (a := a) (cp := cp) hsz (.inr ⟨hok, rfl, rfl⟩)
  exact frame (c := cfgM) h ([.ro (encInt .u8) ac] ++ memS k l c) rfl rfl (gl3 (by simp)) (by kernel_rfl) (roSame_refl _) env w vs hg hr hd
noncomputable def fewB (xss : List (List Int)) : Bool := @decide (fewV xss) (Classical.propDecidable _)
theorem fewB_iff {xss : List (List Int)} : fewB xss = true ↔ fewV xss := by unfold fewB; simp
theorem ends_sb {env : Env} {S S' : St} {w : World} {b : Bool} {e : Ending} {w' : World} (h : Ends1 env S w (.bl b) S' e w') : Ends1 env S w (.sb b) S' e w' := by
  obtain ⟨env', v, h1, hx, hr, hv⟩ := h
  exact ⟨env', v, h1, hx, hr, by simpa only [Den] using hv⟩
theorem few_in {xss : List (List Int)} {cp : Nat} : ∀ (env : Env) (w : World) (vs : List Value), GlOk cfgM.gl env → Rep env (inS xss (hdL xss)) w → DenL env [vsV xss cp] vs → Calls cfgM.P 11 ⟨vs⟩ w (Ends1 env (inS xss (hdL xss)) w (.sb (fewB xss)) (inS xss (hdL xss))) := by
  intro env w vs hg hr hd
  cases hb : fewB xss with
  | true => exact (few_call (.inl ⟨fewB_iff.1 hb, rfl⟩) env w vs hg hr hd).mono fun e w' h => ends_sb h
  | false => exact (few_call (.inr ⟨fun h => (by rw [fewB_iff.2 h] at hb; cases hb), rfl⟩) env w vs hg hr hd).mono fun e w' h => ends_sb h
theorem few_rest (rest : St) {xss : List (List Int)} {cp : Nat} : ∀ (env : Env) (w : World) (vs : List Value), GlOk cfgM.gl env → Rep env (inS xss (hdL xss) ++ rest) w → DenL env [vsV xss cp] vs → Calls cfgM.P 11 ⟨vs⟩ w (Ends1 env (inS xss (hdL xss) ++ rest) w (.sb (fewB xss)) (inS xss (hdL xss) ++ rest)) :=
  frame (c := cfgM) few_in rest rfl rfl (gl3 (by simp)) (by kernel_rfl) (roSame_refl _)
theorem w_rest (rest : St) {k : Nat} {ac : List Int} {xss : List (List Int)} {l : List Int} {c : Int} {x : Wr} (h : WOk k xss l c x) :
    ∀ (env : Env) (w : World) (vs : List Value), GlOk cfgM.gl env → Rep env (sM k ac xss (hdL xss) (hdL xss) l c x ++ rest) w → DenL env [.ptr 8 0, .ptr 5 0] vs → Calls cfgM.P 14 ⟨vs⟩ w (Ends1 env (sM k ac xss (hdL xss) (hdL xss) l c x ++ rest) w (.sb (wNext k xss x l c).b) (sM k ac xss (hdL xss) (hdL xss) (wNext k xss x l c).l (wNext k xss x l c).c (wNext k xss x l c).x ++ rest)) :=
  frame (c := cfgM) (w_step h) rest rfl rfl (gl3 (by simp)) (by kernel_rfl) (by
    intro i b hb
    match i with
    | 0 => exact .inr hb
    | 1 => exact .inr hb
    | 2 => exact .inr hb
    | 3 => exact .inr hb
    | 4 => simp at hb; subst hb; exact .inl (plainB_ok rfl)
    | 5 => simp at hb; subst hb; exact .inl (plainB_ok rfl)
    | 6 => exact .inr hb
    | 7 => exact .inr hb
    | 8 => simp at hb; subst hb; exact .inl (plainB_ok rfl)
    | n + 9 => simp at hb)
end Go.Proofs.YtmknmbacecjfmaaDoor

/- SeqlockWhole, plain: what is read is a version as a whole. -/
namespace Go.Proofs.YtmknmbacecjfmaaDoor
open Go Go.Proofs.YtmknmbacecjfmaaDoor.Sx
set_option linter.unusedVariables false
/-- a word of a version; the version before the first is of zeros -/
def verW (xss : List (List Int)) (k j : Nat) : Int := match k with
  | 0 => 0
  | k + 1 => (xss.getD k []).getD j 0
/-- versions that a law looks at -/
structure Vs (xss : List (List Int)) (n : Nat) (e0 : Int) : Prop where
  len : 1 ≤ xss.length ∧ xss.length ≤ 10
  row : ∀ i, i < xss.length → (xss.getD i []).length = n
  n : 1 ≤ n ∧ n ≤ 32
  e : e0 % 2 = 0
/-- a writer, and its words -/
structure WI (a : Nat) (xss : List (List Int)) (n : Nat) (e0 : Int) (l : List Int) (c : Int) (x : Wr) : Prop where
  ok : WOk 60 xss l c x
  at' : x.at' = (a : Int)
  seq : l.getD a 0 = (e0 + 2 * x.ver + (if x.ph = 0 then 0 else 1)) % 4294967296
  w0 : x.ph = 0 → ∀ j : Nat, j < n → l.getD (a + 1 + j) 0 = verW xss x.ver.toNat j
  w1 : ¬ x.ph = 0 → ∀ j : Nat, (x.ph = 1 → (j : Int) < x.i) → j < n → l.getD (a + 1 + j) 0 = verW xss (x.ver.toNat + 1) j
/-- a reader that began at a version -/
structure RI (a : Nat) (xss : List (List Int)) (n : Nat) (e0 : Int) (bf : Int) (x : Wr) (y : Rd) : Prop where
  at' : y.at' = (a : Int)
  yn : y.n = (n : Int)
  run : ¬ y.ph = 0 → y.sq = (e0 + 2 * bf) % 4294967296 ∧ 0 ≤ bf ∧ bf ≤ x.ver ∧ (x.ver = bf → x.ph = 0 → ∀ j : Nat, (y.ph = 1 → (j : Int) < y.i) → j < n → y.buf.getD j 0 = verW xss bf.toNat j)
theorem wi_step {a : Nat} {xss : List (List Int)} {n : Nat} {e0 : Int} {l : List Int} {c : Int} {x : Wr} (hv : Vs xss n e0) (ha : a ≤ 20) (h : WI a xss n e0 l c x) (hc : 0 ≤ (wNext 60 xss x l c).c ∧ (wNext 60 xss x l c).c ≤ 1000000) :
    WI a xss n e0 (wNext 60 xss x l c).l (wNext 60 xss x l c).c (wNext 60 xss x l c).x := by
  have hok := wNext_ok h.ok hc
  obtain ⟨at', i, ph, ver⟩ := x
  obtain ⟨h0, h1, h2, h3, h4⟩ := h
  have hvv := h0.v
  have hp := h0.p
  have hi := h0.i
  have hl := h0.kl.2
  have hrow := hv.row
  have hn := hv.n
  simp only at h1 h2 h3 h4 hvv hp hi
  subst h1
  by_cases e1 : ver = (xss.length : Int)
  · simp only [wNext, if_pos e1] at hok ⊢
    exact ⟨hok, rfl, h2, h3, h4⟩
  have hr := hrow ver.toNat (by omega)
  by_cases e2 : ph = 1
  · obtain ⟨hi0, hi1, hi2⟩ := hi e2
    have e3 : 0 ≤ (a : Int) + 1 + i ∧ (a : Int) + 1 + i < ((60 : Nat) : Int) := by omega
    simp only [wNext, if_neg e1, if_pos e2, if_pos e3] at hok ⊢
    have hph : ¬ (if i + 1 = ((xss.getD ver.toNat []).length : Int) then (2 : Int) else 1) = 0 := by split <;> omega
    refine ⟨hok, rfl, ?_, fun h => absurd h hph, fun _ j hj hjn => ?_⟩
    · simp only
      rw [if_neg hph, Sx.getD_set_ne (by omega), h2, if_neg (by omega)]
    · simp only at hj ⊢
      have hji : (j : Int) < i + 1 := by
        by_cases hq : i + 1 = ((xss.getD ver.toNat []).length : Int)
        · rw [hr] at hq; omega
        · exact hj (by rw [if_neg hq])
      by_cases hq : (j : Int) = i
      · have : ((a : Int) + 1 + i).toNat = a + 1 + j := by omega
        rw [this, Sx.getD_set_self (by omega)]
        have : i.toNat = j := by omega
        rw [this]; rfl
      · rw [Sx.getD_set_ne (by omega)]
        exact h4 (by omega) j (fun _ => by omega) hjn
  · have e3 : 0 ≤ (a : Int) ∧ (a : Int) < ((60 : Nat) : Int) := by omega
    have hal : a < l.length := by omega
    by_cases e4 : ph = 2
    · simp only [wNext, if_neg e1, if_neg e2, if_pos e3, if_pos e4] at hok ⊢
      refine ⟨hok, rfl, ?_, fun _ j hj => ?_, fun h => absurd rfl h⟩
      · simp only [Int.toNat_natCast]
        rw [Sx.getD_set_self hal, h2, if_neg (by omega)]
        simp only [if_true]
        omega
      · simp only [Int.toNat_natCast]
        rw [Sx.getD_set_ne (by omega), show (ver + 1).toNat = ver.toNat + 1 by omega]
        exact h4 (by omega) j (fun h => by omega) hj
    · have e5 : ph = 0 := by omega
      simp only [wNext, if_neg e1, if_neg e2, if_pos e3, if_neg e4] at hok ⊢
      refine ⟨hok, rfl, ?_, fun h => (by simp only at h; omega), fun _ j hj hjn => ?_⟩
      · simp only [Int.toNat_natCast]
        rw [Sx.getD_set_self hal, h2, if_pos e5, if_neg (by omega)]
        omega
      · have := hj rfl
        simp only at this
        omega
theorem wNext_ver {a : Nat} {xss : List (List Int)} {n : Nat} {e0 : Int} {l : List Int} {c : Int} {x : Wr} (h : WI a xss n e0 l c x) (ha : a ≤ 20) : x.ver ≤ (wNext 60 xss x l c).x.ver ∧ ((wNext 60 xss x l c).x.ver = x.ver → (wNext 60 xss x l c).x.ph = 0 → x.ph = 0) ∧ (wNext 60 xss x l c).c ≤ c + 1 ∧ c ≤ (wNext 60 xss x l c).c := by
  obtain ⟨at', i, ph, ver⟩ := x
  have h1 := h.at'
  have hp := h.ok.p
  have hi := h.ok.i
  simp only at h1 hp hi
  unfold wNext
  simp only
  by_cases e1 : ver = (xss.length : Int)
  · rw [if_pos e1]
    exact ⟨Int.le_refl _, fun _ h => h, by simp only; omega, Int.le_refl _⟩
  rw [if_neg e1]
  by_cases e2 : ph = 1
  · rw [if_pos e2]
    split
    · refine ⟨Int.le_refl _, fun _ h => ?_, by simp only; omega, by simp only; omega⟩
      simp only at h
      split at h <;> omega
    · refine ⟨Int.le_refl _, fun _ h => ?_, by simp only; omega, by simp only; omega⟩
      simp only at h
      split at h <;> omega
  · rw [if_neg e2]
    split
    · split
      · exact ⟨by simp only; omega, fun h => by simp only at h; omega, by simp only; omega, by simp only; omega⟩
      · exact ⟨Int.le_refl _, fun _ h => by simp only at h; omega, by simp only; omega, by simp only; omega⟩
    · omega
theorem ri_w {a : Nat} {xss : List (List Int)} {n : Nat} {e0 bf : Int} {l : List Int} {c : Int} {x : Wr} {y : Rd} (h : WI a xss n e0 l c x) (ha : a ≤ 20) (hr : RI a xss n e0 bf x y) : RI a xss n e0 bf (wNext 60 xss x l c).x y := by
  obtain ⟨h1, h2, _, _⟩ := wNext_ver h ha
  refine ⟨hr.at', hr.yn, fun hp => ?_⟩
  obtain ⟨k1, k2, k3, k4⟩ := hr.run hp
  refine ⟨k1, k2, by omega, fun e1 e2 => k4 (by omega) (h2 (by omega) e2)⟩
/-- what a reader's step comes to -/
structure RDone (a : Nat) (xss : List (List Int)) (n : Nat) (e0 bf : Int) (l : List Int) (c : Int) (x : Wr) (y : Rd) : Prop where
  b : (rNext 60 y l c).b = (rNext 60 y l c).y.got
  cc : (rNext 60 y l c).c = c + 1
  t : y.tries ≤ (rNext 60 y l c).y.tries ∧ (rNext 60 y l c).y.tries ≤ y.tries + 1
  ri : RI a xss n e0 (if y.tries < (rNext 60 y l c).y.tries then x.ver else bf) x (rNext 60 y l c).y
  got : (rNext 60 y l c).y.got = true → (0 ≤ (if y.tries < (rNext 60 y l c).y.tries then x.ver else bf) ∧ (if y.tries < (rNext 60 y l c).y.tries then x.ver else bf) ≤ x.ver) ∧ ∀ j : Nat, j < n → (rNext 60 y l c).y.buf.getD j 0 = verW xss (if y.tries < (rNext 60 y l c).y.tries then x.ver else bf).toNat j
theorem r_done {a : Nat} {xss : List (List Int)} {n : Nat} {e0 bf : Int} {l : List Int} {c : Int} {x : Wr} {y : Rd} (hv : Vs xss n e0) (ha : a ≤ 20) (h : WI a xss n e0 l c x) (hk : ROk 60 l c y) (hr : RI a xss n e0 bf x y) (hg : y.got = false) : RDone a xss n e0 bf l c x y := by
  obtain ⟨at', yn, i, ph, sq, buf, got, tries⟩ := y
  have h1 := hr.at'
  have h2 := hr.yn
  have hrun := hr.run
  have hp := hk.p
  have hi := hk.i
  have hbl := hk.bl
  have hn := hv.n
  have hw := h.ok.v
  have hwp := h.ok.p
  have hlen := hv.len
  simp only at h1 h2 hrun hp hi hbl hg
  subst h1 h2 hg
  have hseq := h.seq
  have hev : (l.getD a 0).tmod 2 = 0 ↔ x.ph = 0 := by
    rw [hseq]
    have he := hv.e
    rw [Int.tmod_eq_emod_of_nonneg (by omega)]
    split <;> omega
  by_cases e0' : ph = 0
  · have ea : 0 ≤ rAt ⟨(a : Int), n, i, ph, sq, buf, false, tries⟩ ∧ rAt ⟨(a : Int), n, i, ph, sq, buf, false, tries⟩ < ((60 : Nat) : Int) := by
      unfold rAt; rw [if_neg (by simp only; omega)]; simp only; omega
    by_cases e1 : (l.getD (a : Int).toNat 0).tmod 2 = 0
    · have hR : rNext 60 ⟨(a : Int), n, i, ph, sq, buf, false, tries⟩ l c = ⟨⟨a, n, 0, 1, l.getD (a : Int).toNat 0, buf, false, tries + 1⟩, c + 1, false⟩ := by
        unfold rNext
        rw [if_neg (by simp), if_pos ea]
        simp only [if_pos e0', if_pos e1]
      rw [Int.toNat_natCast] at e1
      have hx := hev.1 e1
      refine ⟨?_, ?_, ?_, ?_, ?_⟩ <;> rw [hR]
      · exact ⟨by simp only; omega, by simp only; omega⟩
      · simp only
        rw [if_pos (by omega)]
        refine ⟨rfl, rfl, fun _ => ⟨?_, hw.1, Int.le_refl _, fun _ _ j hj _ => ?_⟩⟩
        · simp only [Int.toNat_natCast]
          rw [hseq, if_pos hx]; simp
        · have := hj rfl
          simp only at this
          omega
      · intro h; cases h
    · have hR : rNext 60 ⟨(a : Int), n, i, ph, sq, buf, false, tries⟩ l c = ⟨⟨(a : Int), n, i, ph, sq, buf, false, tries⟩, c + 1, false⟩ := by
        unfold rNext
        rw [if_neg (by simp), if_pos ea]
        simp only [if_pos e0', if_neg e1]
      refine ⟨?_, ?_, ?_, ?_, ?_⟩ <;> rw [hR]
      · exact ⟨by simp only; omega, by simp only; omega⟩
      · simp only
        rw [if_neg (by omega)]
        exact ⟨rfl, rfl, fun h => absurd e0' h⟩
      · intro h; cases h
  obtain ⟨k1, k2, k3, k4⟩ := hrun e0'
  by_cases e1 : ph = 1
  · have hi := hi e1
    have ea : 0 ≤ rAt ⟨(a : Int), n, i, ph, sq, buf, false, tries⟩ ∧ rAt ⟨(a : Int), n, i, ph, sq, buf, false, tries⟩ < ((60 : Nat) : Int) := by
      unfold rAt; rw [if_pos (by exact e1)]; simp only; omega
    have hR : rNext 60 ⟨(a : Int), n, i, ph, sq, buf, false, tries⟩ l c = ⟨⟨a, n, i + 1, if i + 1 = (n : Int) then 2 else 1, sq, buf.set i.toNat (l.getD ((a : Int) + (1 + i)).toNat 0), false, tries⟩, c + 1, false⟩ := by
      unfold rNext
      rw [if_neg (by simp), if_pos ea]
      simp only [if_neg e0', if_pos e1]
    refine ⟨?_, ?_, ?_, ?_, ?_⟩ <;> rw [hR]
    · exact ⟨by simp only; omega, by simp only; omega⟩
    · simp only
      rw [if_neg (by omega)]
      refine ⟨rfl, rfl, fun _ => ⟨k1, k2, k3, fun f1 f2 j hj hjn => ?_⟩⟩
      simp only at hj ⊢
      have hji : (j : Int) < i + 1 := by
        by_cases hq : i + 1 = (n : Int)
        · omega
        · exact hj (by rw [if_neg hq])
      by_cases hq : (j : Int) = i
      · have : i.toNat = j := by omega
        rw [this, Sx.getD_set_self (by omega)]
        have : ((a : Int) + (1 + i)).toNat = a + 1 + j := by omega
        rw [this, h.w0 f2 j hjn, f1]
      · rw [Sx.getD_set_ne (by omega)]
        exact k4 f1 f2 j (fun _ => by omega) hjn
    · intro h; cases h
  · have e2 : ph = 2 := by omega
    have ea : 0 ≤ rAt ⟨(a : Int), n, i, ph, sq, buf, false, tries⟩ ∧ rAt ⟨(a : Int), n, i, ph, sq, buf, false, tries⟩ < ((60 : Nat) : Int) := by
      unfold rAt; rw [if_neg (by exact e1)]; simp only; omega
    have hR : rNext 60 ⟨(a : Int), n, i, ph, sq, buf, false, tries⟩ l c = ⟨⟨a, n, i, 0, sq, buf, l.getD (a : Int).toNat 0 == sq, tries⟩, c + 1, l.getD (a : Int).toNat 0 == sq⟩ := by
      unfold rNext
      rw [if_neg (by simp), if_pos ea]
      simp only [if_neg e0', if_neg e1]
    refine ⟨?_, ?_, ?_, ?_, ?_⟩ <;> rw [hR]
    · exact ⟨by simp only; omega, by simp only; omega⟩
    · simp only
      rw [if_neg (by omega)]
      exact ⟨rfl, rfl, fun h => absurd rfl h⟩
    · simp only
      rw [if_neg (by omega)]
      intro hgot
      rw [beq_iff_eq, Int.toNat_natCast, hseq, k1] at hgot
      have f1 : x.ver = bf ∧ x.ph = 0 := by
        have hve := hw.2
        split at hgot
        · refine ⟨?_, by assumption⟩
          omega
        · exfalso; omega
      refine ⟨⟨k2, k3⟩, fun j hj => k4 f1.1 f1.2 j (fun h => absurd h e1) hj⟩
end Go.Proofs.YtmknmbacecjfmaaDoor

/- Layer 10: the package's variable, and how a card is closed. -/
namespace Go.Proofs.YtmknmbacecjfmaaDoor
open Go Go.Proofs.YtmknmbacecjfmaaDoor.Sx Go.ChangeShapes Go.WideShapes Go.ChangeAt Go.RowKit
set_option linter.unusedVariables false
abbrev laid1 : List (String × DataW Unit) := [("purlin/mem.look", Rows.laid_purlin_mem_look)]
theorem Tryd.own : ownKnob Tryd.prog.godebug = none := by kernel_rfl
theorem Tryd.laidOut : laidOutB Tryd.prog = true := by kernel_rfl
theorem gLook : Tryd.prog.globalNamed "purlin/mem.look" = some 0 := by kernel_rfl
theorem tLook : (Tryd.prog.globals[0]?).map (·.type) = some 76 := by kernel_rfl
/-- the door's own heap meets the condition -/
theorem door_met (os : Os) (args : Array Value) : laidMetH Tryd.prog laid1 ((World.doorLaid Tryd.prog 400 os).forCall (fun _ _ => 0) ⟨#[], args, []⟩).memory :=
  laidMetH_of_parts3 (fuel := 8) (laidMet_of_run' 8 (by kernel_rfl) (by kernel_rfl)) (by kernel_rfl) (by kernel_rfl)
/-- what the condition gives -/
theorem of_laid {W : World} (h : laidMetH Tryd.prog laid1 W) : ∃ e : Slot, (e.blk = 0 ∧ e.off = 0) ∧ Rep [e] [lookB] W := by
  rw [MakeChecks.laidMetH_plain _ _ _ (by kernel_rfl)] at h
  obtain ⟨ps, ⟨g0, t0, cs0, f0, p0, q0, hg0, ht0, hv0, hd0, _, _⟩, _, _⟩ := h
  obtain rfl := Option.some.inj (gLook.symm.trans hg0)
  obtain rfl := Option.some.inj (tLook.symm.trans ht0)
  obtain ⟨xs, m, _, hx, hlen, hxl, hf⟩ := DataW.trod_struct Tryd.underlying76 hd0
  have hC : Tryd.prog.cellsOf 76 = 3 := by kernel_rfl
  have k22 : Tryd.prog.cellsOf 22 = 1 := by kernel_rfl
  rw [hC] at hlen
  obtain ⟨l⟩ := cs0
  simp only at hlen hf
  match l, hlen with
  | [c0, c1, c2], _ =>
    match xs, hxl, hx with
    | [y0, y1, y2], _, hx =>
      have f0 : DataW.trod _ Tryd.prog W 0 _ false m 22 (([c0, c1, c2].drop 0).take (Tryd.prog.cellsOf 22)) = some y0 := hf 0 _ rfl
      have f1 : DataW.trod _ Tryd.prog W 0 _ false m 22 (([c0, c1, c2].drop 1).take (Tryd.prog.cellsOf 22)) = some y1 := hf 1 _ rfl
      have f2 : DataW.trod _ Tryd.prog W 0 _ false m 22 (([c0, c1, c2].drop 2).take (Tryd.prog.cellsOf 22)) = some y2 := hf 2 _ rfl
      rw [k22] at f0 f1 f2
      obtain ⟨a0, h0, e0, _⟩ := DataW.trod_int Tryd.underlying22 f0
      obtain ⟨a1, h1, e1, _⟩ := DataW.trod_int Tryd.underlying22 f1
      obtain ⟨a2, h2, e2, _⟩ := DataW.trod_int Tryd.underlying22 f2
      simp at h0 h1 h2
      subst h0 h1 h2 e0 e1 e2
      simp [Rows.laid_purlin_mem_look] at hx
      obtain ⟨⟨rfl, rfl, rfl⟩, _⟩ := hx
      have hc := fun i => World.var?_cell hg0 hv0 i
      have hsz : 0 < W.heap.size := by
        have := hc 0
        simp only [World.cell?] at this
        rcases Nat.eq_zero_or_pos W.heap.size with h | h
        · rw [Array.getElem?_eq_none (by omega)] at this; simp at this
        · exact h
      refine ⟨⟨0, 0, 0, []⟩, ⟨rfl, rfl⟩, rfl, ?_, ?_, ?_⟩
      · intro id sl b he hb
        match id with
        | 0 =>
          simp only [List.getElem?_cons_zero, Option.some.injEq] at he hb
          subst he hb
          refine ⟨[.int .u32 4294967295, .int .u32 0, .int .u32 0], by simp [encLook, encOf, DenL, Den], fun i hi => ?_⟩
          have := hc i
          simpa using this
        | n + 1 => simp at he
      · intro i j e f b c hij he hf' hb' hc' x hx''
        match i, j with
        | 0, 0 => exact (hij rfl).elim
        | i + 1, _ => simp at he
        | 0, j + 1 => simp at hf'
      · intro id sl b he hb x hx
        match id with
        | 0 =>
          simp only [List.getElem?_cons_zero, Option.some.injEq] at he hb
          subst he hb
          simp [Blk.supp] at hx
          omega
        | n + 1 => simp at he
end Go.Proofs.YtmknmbacecjfmaaDoor

/- Layer 10: versions, as they come in, opened. -/
namespace Go.Proofs.YtmknmbacecjfmaaDoor
open Go Go.Proofs.YtmknmbacecjfmaaDoor.Sx Go.ChangeShapes Go.WideShapes Go.ChangeAt Go.RowKit
set_option linter.unusedVariables false
theorem wf_u32S {n : Int} (h : (Lit.int .u32 n).wf = true) : 0 ≤ n ∧ n < 4294967296 := by simp [Lit.wf, IntKind.min, IntKind.max, IntKind.signed, IntKind.bits] at h; omega
/-- a row's header, and what lies there -/
def RowIs (w : World) (p : Value × List Int) : Prop :=
  U32s p.2 ∧ ((p.2 = [] ∧ ∃ a cp, p.1 = .slice a 0 cp) ∨ ∃ b o cp, p.1 = .slice (some ⟨b, o, none⟩) p.2.length cp ∧ p.2.length ≤ cp ∧ b < w.heap.size ∧ ∀ j, j < p.2.length → w.cell? ⟨b, o + j, none⟩ = some (.int .u32 (p.2.getD j 0)))
def encRaw (w : World) : Enc { p : Value × List Int // RowIs w p } where
  tag := .other
  shut := true
  shutOk := by intro _ env env' x vs h; simpa [DenL, Den] using h
  sz := 1
  enc x := [.raw x.1.1]
  dec _ := none
  dflt := ⟨(.slice none 0 0, []), ⟨fun x h => (by cases h), .inl ⟨rfl, _, _, rfl⟩⟩⟩
  pos := Nat.one_pos
  len := fun _ => rfl
  ok := by intro env l x vs h; cases h
set_option maxRecDepth 100000 in
theorem open_row {H : Type} {enc : TypeId × Value → H} {w : World} {base : Nat} {spare : Nat → Bool} {held : Bool} (n : Nat) (cs : List Value) (y : DataW H × List MemPlace) (h : DataW.trod enc Tryd.prog w base spare held n 34 cs = some y) :
    ∃ x, DenL [] ((encRaw w).enc x) cs := by
  have hC : Tryd.prog.cellsOf 22 = 1 := by kernel_rfl
  rcases DataW.trod_slice Tryd.underlying34 h with ⟨rfl, _⟩ | ⟨a, len, cap, elems, rest, m, _, rfl, _, hb, hlc, _, hel, hi, _, _⟩
  · exact ⟨⟨(.slice none 0 0, []), ⟨fun x h => (by cases h), .inl ⟨rfl, _, _, rfl⟩⟩⟩, by simp [encRaw, DenL, Den]⟩
  · rw [hC] at hi
    have key : ∀ k, k ≤ len → ∃ l : List Int, l.length = k ∧ U32s l ∧ ∀ j, j < k → w.cell? (a.add j) = some (.int .u32 (l.getD j 0)) := by
      intro k
      induction k with
      | zero => intro _; exact ⟨[], rfl, fun x h => (by cases h), fun j hj => (by omega)⟩
      | succ k ih =>
        intro hk
        obtain ⟨l, h1, h2, h3⟩ := ih (by omega)
        have h4 := hi k (by omega)
        rw [List.getElem?_eq_getElem (by omega)] at h4
        rw [Option.bind_eq_some_iff] at h4
        obtain ⟨cs', hc, htr⟩ := h4
        obtain ⟨_, hcl, hat⟩ := World.cells?_some hc
        obtain ⟨z, hz, _, hw⟩ := DataW.trod_int Tryd.underlying22 htr
        subst hz
        have h5 := hat 0 (by omega)
        have e1 : (a.add (k * 1)).add 0 = a.add k := by simp [Addr.add]
        rw [e1] at h5
        refine ⟨l ++ [z], by simp [h1], fun x hx => ?_, fun j hj => ?_⟩
        · rcases List.mem_append.1 hx with hx | hx
          · exact h2 x hx
          · rw [List.mem_singleton.1 hx]; exact wf_u32S hw
        · rcases Nat.lt_or_ge j k with hjk | hjk
          · rw [Sx.getD_append_left (by omega)]; exact h3 j hjk
          · obtain rfl : j = k := by omega
            have : (l ++ [z]).getD j 0 = z := by rw [← h1]; exact Sx.getD_append_len
            rw [this, h5]; rfl
    obtain ⟨l, h1, h2, h3⟩ := key len (Nat.le_refl _)
    rcases Nat.eq_zero_or_pos len with h0 | h0
    · subst h0
      have : l = [] := List.length_eq_zero_iff.1 h1
      subst this
      exact ⟨⟨(.slice (some a) 0 cap, []), ⟨h2, .inl ⟨rfl, _, _, rfl⟩⟩⟩, by simp [encRaw, DenL, Den]⟩
    · obtain ⟨blk, off, spot⟩ := a
      have hsp := World.cell?_spot (h3 0 h0)
      simp only [Addr.add] at hsp
      subst hsp
      have hlt : blk < w.heap.size := by
        have := h3 0 h0
        by_cases hlt : blk < w.heap.size
        · exact hlt
        · have hge : w.heap.size ≤ blk := by omega
          rw [addr_add _ _ rfl] at this
          simp only [World.cell?] at this
          rw [Array.getElem?_eq_none hge] at this
          simp at this
      refine ⟨⟨(.slice (some ⟨blk, off, none⟩) len cap, l), ⟨h2, .inr ⟨blk, off, cap, by rw [h1], (show l.length ≤ cap by omega), hlt, fun j (hj : j < l.length) => ?_⟩⟩⟩, by simp [encRaw, DenL, Den]⟩
      have h9 := h3 j (by omega)
      rw [addr_add _ _ rfl] at h9
      exact h9
/-- where a row lies -/
def boOf {w : World} (x : { p : Value × List Int // RowIs w p }) : Nat × Nat := match x.1.2, x.1.1 with
  | _ :: _, .slice (some a) _ _ => (a.block, a.off)
  | _, _ => (0, 0)
def famOf {w : World} (xs : List { p : Value × List Int // RowIs w p }) : List Nat := xs.flatMap fun x => [(boOf x).1, (boOf x).2]
theorem famOf_len {w : World} : ∀ xs : List { p : Value × List Int // RowIs w p }, (famOf xs).length = 2 * xs.length
  | [] => rfl
  | x :: xs => by
    have := famOf_len xs
    simp only [famOf, List.flatMap_cons, List.length_append, List.length_cons, List.length_nil] at this ⊢
    omega
theorem famOf_get {w : World} : ∀ (xs : List { p : Value × List Int // RowIs w p }) (i : Nat) (h : i < xs.length), (famOf xs)[2 * i]? = some (boOf xs[i]).1 ∧ (famOf xs)[2 * i + 1]? = some (boOf xs[i]).2
  | [], i, h => by simp at h
  | x :: xs, 0, h => by simp [famOf]
  | x :: xs, i + 1, h => by
    have := famOf_get xs i (by simpa using h)
    simp only [famOf, List.flatMap_cons, List.cons_append, List.nil_append] at this ⊢
    rw [show 2 * (i + 1) = 2 * i + 1 + 1 by omega]
    simp only [List.getElem?_cons_succ, List.getElem_cons_succ]
    exact this
theorem famOf_low {w : World} (h0 : 0 < w.heap.size) : ∀ (xs : List { p : Value × List Int // RowIs w p }), ∀ b ∈ evs (famOf xs), b < w.heap.size
  | [], b, h => by simp [famOf, evs] at h
  | x :: xs, b, h => by
    simp only [famOf, List.flatMap_cons, List.cons_append, List.nil_append, evs] at h
    rcases List.mem_cons.1 h with rfl | h
    · obtain ⟨⟨v, l⟩, hu, hx⟩ := x
      simp only at hx hu
      unfold boOf
      rcases hx with ⟨rfl, a, cp, rfl⟩ | ⟨b, o, cp, rfl, _, hb, _⟩
      · exact h0
      · cases l with
        | nil => exact h0
        | cons y l => exact hb
    · exact famOf_low h0 xs b h
theorem denL_of {env : Env} : ∀ {l : List SVal} {vs : List Value}, l.length = vs.length → (∀ i (h : i < l.length) (h' : i < vs.length), Den env l[i] vs[i]) → DenL env l vs
  | [], [], _, _ => by simp [DenL]
  | [], _ :: _, h, _ => by simp at h
  | _ :: _, [], h, _ => by simp at h
  | s :: l, v :: vs, h, hd => denL_cons.2 ⟨hd 0 (by simp) (by simp), denL_of (by simpa using h) fun i h1 h2 => hd (i + 1) (by simpa using h1) (by simpa using h2)⟩
theorem raw_cs {w : World} {env : Env} : ∀ {xs : List { p : Value × List Int // RowIs w p }} {cs : List Value}, DenL env (xs.flatMap (encRaw w).enc) cs → cs = xs.map (·.1.1)
  | [], cs, h => by simpa [DenL] using h
  | x :: xs, cs, h => by
    rw [List.flatMap_cons] at h
    obtain ⟨us, ws, rfl, h1, h2⟩ := denL_split h
    rw [raw_cs h2]
    have : us = [x.1.1] := by simpa [encRaw, DenL, Den] using h1
    rw [this]; rfl
theorem hd_flat (k : Nat) (xss : List (List Int)) : (hdL xss).flatMap (encHd k).enc = (List.range xss.length).map fun i => SVal.slr k i (xss.getD i []).length := by
  unfold hdL
  rw [List.flatMap_map]
  generalize List.range xss.length = r
  induction r with
  | nil => rfl
  | cons i r ih => rw [List.flatMap_cons, List.map_cons, ih]; rfl
/-- the versions, with the package's variable -/
theorem rep_vers {w : World} {e0 e1 : Slot} {xs : List { p : Value × List Int // RowIs w p }} (he : e0.blk = 0 ∧ e0.off = 0) (hr0 : Rep [e0] [lookB] w) (h1 : Rep [e1] [.ro (encRaw w) xs] w) :
    Rep [e0, e1, ⟨0, 0, 0, famOf xs⟩] (inS (xs.map (·.1.2)) (hdL (xs.map (·.1.2)))) w := by
  have hlook := hr0.holds 0 e0 lookB rfl rfl
  have hlow0 := hr0.low 0 e0 lookB rfl rfl
  have hsz : 0 < w.heap.size := by
    have := hlow0 e0.blk (by simp [Blk.supp])
    omega
  obtain ⟨cs, k1, k2⟩ := h1.holds 0 e1 _ rfl rfl
  have hlow1 := h1.low 0 e1 _ rfl rfl
  have hcs := raw_cs k1
  refine ⟨rfl, ?_, ?_, ?_⟩
  · intro id e b hei hbi
    match id with
    | 0 =>
      simp at hei hbi; subst hei hbi
      exact Blk.holds_mono (env := [e0]) [e1, ⟨0, 0, 0, famOf xs⟩] hlook
    | 1 =>
      simp at hei hbi; subst hei hbi
      refine ⟨cs, ?_, k2⟩
      rw [hd_flat, hcs]
      refine denL_of (by simp) fun i h h' => ?_
      have hi : i < xs.length := by simpa using h
      simp only [List.getElem_map, List.getElem_range]
      obtain ⟨g1, g2⟩ := famOf_get xs i hi
      have e2 : (xs.map (·.1.2)).getD i [] = xs[i].1.2 := by
        rw [List.getD_eq_getElem?_getD, List.getElem?_map, List.getElem?_eq_getElem hi]; rfl
      rw [e2]
      simp only [Den]
      generalize xs[i] = x at *
      obtain ⟨⟨v, l⟩, hu, hx⟩ := x
      simp only at hx hu ⊢
      rcases hx with ⟨rfl, a, cp, rfl⟩ | ⟨b, o, cp, rfl, hc, hb, _⟩
      · exact ⟨⟨0, 0, 0, famOf xs⟩, a, cp, rfl, rfl, Nat.zero_le _, fun h => absurd h (Nat.lt_irrefl 0)⟩
      · refine ⟨⟨0, 0, 0, famOf xs⟩, _, cp, rfl, rfl, hc, fun hl => ⟨b, o, ?_, ?_, rfl⟩⟩
        · cases l with
          | nil => simp at hl
          | cons y l => exact g1
        · cases l with
          | nil => simp at hl
          | cons y l => exact g2
    | 2 =>
      simp at hei hbi; subst hei hbi
      refine ⟨by rw [famOf_len]; simp, fun i b o hb ho j hj => ?_⟩
      have hi : i < xs.length := by
        have := (List.getElem?_eq_some_iff.1 hb).1
        simp only [famOf_len] at this
        omega
      obtain ⟨g1, g2⟩ := famOf_get xs i hi
      have e2 : (xs.map (·.1.2)).getD i [] = xs[i].1.2 := by
        rw [List.getD_eq_getElem?_getD, List.getElem?_map, List.getElem?_eq_getElem hi]; rfl
      rw [e2] at hj ⊢
      simp only at hb ho
      rw [g1] at hb
      rw [g2] at ho
      simp only [Option.some.injEq] at hb ho
      generalize xs[i] = x at *
      obtain ⟨⟨v, l⟩, hu, hx⟩ := x
      simp only at hx hu hj ⊢
      rcases hx with ⟨rfl, a, cp, rfl⟩ | ⟨b', o', cp, rfl, hc, hb', hcell⟩
      · simp at hj
      · cases l with
        | nil => simp at hj
        | cons y l =>
          simp only [boOf] at hb ho
          subst hb ho
          exact hcell j hj
    | n + 3 => simp at hei
  · intro i j e f b c hij hei hfj hbi hcj x hx
    match i with
    | 0 => simp at hbi; subst hbi; cases hx
    | 1 => simp at hbi; subst hbi; cases hx
    | 2 => simp at hbi; subst hbi; cases hx
    | n + 3 => simp at hbi
  · intro id e b hei hbi x hx
    match id with
    | 0 => simp at hei hbi; subst hei hbi; exact hlow0 x hx
    | 1 =>
      simp at hei hbi; subst hei hbi
      refine hlow1 x ?_
      simp only [Blk.supp] at hx ⊢
      cases xs with
      | nil => simp [hdL] at hx
      | cons y ys =>
        simp only at hx ⊢
        split at hx
        · cases hx
        · exact hx
    | 2 =>
      simp at hei hbi; subst hei hbi
      exact famOf_low hsz xs x hx
    | n + 3 => simp at hei
end Go.Proofs.YtmknmbacecjfmaaDoor

/- Layer 10: versions as an argument. -/
namespace Go.Proofs.YtmknmbacecjfmaaDoor
open Go Go.Proofs.YtmknmbacecjfmaaDoor.Sx Go.ChangeShapes Go.WideShapes Go.ChangeAt Go.RowKit
set_option linter.unusedVariables false
set_option maxRecDepth 100000 in
/-- what an argument of versions weighs -/
theorem vers_size {H : Type} {enc : TypeId × Value → H} {w : World} {base : Nat} {spare : Nat → Bool} {held : Bool} {v : Value} {d : DataW H} {ps : List MemPlace} {n cp : Nat} {a : Option Addr} (h : DataW.Trod enc Tryd.prog w base spare held 23 v d ps) (hv : v = .slice a n cp) {rest : List Nat} (hw : (d.weights Tryd.prog 23 ++ rest).all (· ≤ reachBytes) = true) : n * 24 ≤ 140737488355328 := by
  subst hv
  obtain ⟨fuel, hf⟩ := h
  have hb : Tryd.prog.bytesOf 34 = 24 := by kernel_rfl
  rcases DataW.trod_slice Tryd.underlying23 hf with ⟨h0, _⟩ | ⟨b, len, cap, elems, rs, m, _, h0, hx, _, _, _, hel, _, _, _⟩
  · simp [Value.cells] at h0
    omega
  · simp [Value.cells] at h0
    obtain ⟨_, rfl, rfl⟩ := h0
    have hd : d = .slice (elems.map (·.1)) (rs.map (·.1)) := congrArg Prod.fst hx
    subst hd
    rw [List.all_append, Bool.and_eq_true] at hw
    have h1 := hw.1
    unfold DataW.weights at h1
    rw [Tryd.underlying23] at h1
    simp only [List.all_cons, Bool.and_eq_true, decide_eq_true_eq, List.length_map, hb] at h1
    have h2 := h1.1
    unfold reachBytes at h2
    have : (elems.length + rs.length) * 24 = elems.length * 24 + rs.length * 24 := Nat.add_mul _ _ _
    omega
set_option maxRecDepth 100000 in
theorem open_vers {H : Type} {enc : TypeId × Value → H} {W : World} {r : Reach} {b0 base : Nat} {spare : Nat → Bool} {held : Bool} {v : Value} {d : DataW H} {ps : List MemPlace} {rest : List Nat} (hval : Value.okWide Tryd.prog W r b0 23 v) (hd : DataW.Trod enc Tryd.prog W base spare held 23 v d ps) (hw : (d.weights Tryd.prog 23 ++ rest).all (· ≤ reachBytes) = true) {e0 : Slot} (he : e0.blk = 0 ∧ e0.off = 0) (hr0 : Rep [e0] [lookB] W) :
    ∃ (xss : List (List Int)) (cp : Nat) (e1 e2 : Slot), xss.length * 24 ≤ 140737488355328 ∧ (∀ i, U32s (xss.getD i [])) ∧ Rep [e0, e1, e2] (inS xss (hdL xss)) W ∧ Den [e0, e1, e2] (vsV xss cp) v := by
  obtain ⟨xs, cp, e1, hr1, hd1⟩ := open_sli (encRaw W) Tryd.underlying23 (by kernel_rfl) open_row rfl hval hd
  have hd1' := hd1
  simp only [Den] at hd1'
  obtain ⟨e, a, _, hv, _⟩ := hd1'
  have hsz := vers_size hd hv hw
  simp only [NN.val] at hsz
  refine ⟨xs.map (·.1.2), cp, e1, _, by simpa using hsz, fun i x hx => ?_, rep_vers he hr0 hr1, ?_⟩
  · rcases Nat.lt_or_ge i xs.length with hi | hi
    · have e2 : (xs.map (·.1.2)).getD i [] = xs[i].1.2 := by
        rw [List.getD_eq_getElem?_getD, List.getElem?_map, List.getElem?_eq_getElem hi]; rfl
      rw [e2] at hx
      exact xs[i].2.1 x hx
    · rw [List.getD_eq_getElem?_getD, List.getElem?_map, List.getElem?_eq_none hi] at hx
      cases hx
  · have h1 : Den ([e0] ++ [e1]) (.sli 1 (.c 0) 1 (.v xs.length) (some (.v cp))) v := den_add (env := [e0]) (n := 1) hd1 rfl
    have h2 := den_wide (more := [⟨0, 0, 0, famOf xs⟩]) h1
    rw [show xs.length = (xs.map (·.1.2)).length by simp] at h2
    exact h2
theorem open_bytes {H : Type} {enc : TypeId × Value → H} {w : World} {base : Nat} {spare : Nat → Bool} {held : Bool} (n : Nat) (cs : List Value) (y : DataW H × List MemPlace) (h : DataW.trod enc Tryd.prog w base spare held n 5 cs = some y) :
    ∃ x : Int, DenL [] ((encInt .u8).enc x) cs := by
  obtain ⟨a, h0, _⟩ := DataW.trod_int Tryd.underlying5 h
  subst h0
  exact ⟨a, by simp [encInt, DenL, Den]⟩
end Go.Proofs.YtmknmbacecjfmaaDoor

