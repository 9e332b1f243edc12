/- RingMakes: which rings, senders and receivers there may be, and how many words they need, is as the document says. -/
import Derived.Test.YtplbncncnjiahaaDoorRgb
import Derived.Test.YtplbncncnjiahaaDoorSxC
import Derived.Test.YtplbncncnjiahaaDoorCards
import Derived.Test.YtplbncncnjiahaaDoorTie
import Derived.ProofKit
import Derived.LaidMore
import Derived.OpenShut
import Derived.Stop.Joined
/- Layer 12: the document's words, few, a sender's making: pieces. -/
namespace Go.Proofs.YtplbncncnjiahaaDoor
open Go Go.Proofs.YtplbncncnjiahaaDoor.Sx
set_option linter.unusedVariables false
noncomputable def gPlaces (args : List SVal) (S : St) : T (SVal × St) := match args with
  | [a] => match asI a with
    | some (.u32, p, _) => .eq (S = [lookB]) (.ret (.sb (powB p), [lookB]))
    | _ => .no 202
  | _ => .no 203
theorem gPlaces_ok (args : List SVal) (S : St) (v : SVal) (S' : St) (h : (gPlaces args S).at (v, S')) : PreOk cfgM 1 29 args S v S' := by
  unfold gPlaces at h
  split at h
  · rename_i a
    split at h
    · rename_i p la h1
      obtain ⟨rfl, h⟩ := h
      simp only [T.at, Prod.mk.injEq] at h
      obtain ⟨rfl, rfl⟩ := h
      refine ⟨fun env w vs hg hr hd => ?_, rfl, rfl, fun _ _ h => .inr h, look_ren, by simp only [renL, asI_ren h1]⟩
      obtain ⟨u, us, rfl, h4, rfl⟩ := hd
      exact places_call env w _ hg hr ⟨_, _, rfl, asI_int h1 h4, rfl⟩
    · exact h.elim
  · exact h.elim
noncomputable def cfgN : Cfg := { P := Tryd.prog, ex := exI, gl := [(0, 0)], sm := fun f => match f with
  | 10 => some (smPre 1 gWords)
  | 29 => some (smPre 1 gPlaces)
  | _ => none }
theorem cfgN_ok : SmOk cfgN := by
  intro f g h
  simp only [cfgN] at h
  split at h
  · simp only [Option.some.injEq] at h; subst h
    exact smPre_ok (c := cfgM) (gl_lt (by omega)) gWords_ok
  · simp only [Option.some.injEq] at h; subst h
    exact smPre_ok (c := cfgM) (gl_lt (by omega)) gPlaces_ok
  · cases h
noncomputable def bW : Code := Tryd.f11.body.getD .skip
noncomputable def cW : Code := restC 4 bW
noncomputable def regW : Code := lft (lft cW)
noncomputable def blkW : Code := rgt (lft cW)
noncomputable def roundW : Code := lft (lft blkW)
noncomputable def tmW : Code := lft roundW
noncomputable def bbW : Code := lft (lft (rgt roundW))
noncomputable def incW : Code := rgt (rgt roundW)
noncomputable def endW : Code := rgt cW
abbrev vW (p s k i : Int) : List SVal := [.int .i64 p, .int .i64 s, .int .i64 k, .int .i64 i]
noncomputable def bF : Code := Tryd.f8.body.getD .skip
noncomputable def cF : Code := restC 2 bF
noncomputable def regF : Code := lft (lft cF)
noncomputable def blkF : Code := rgt (lft cF)
noncomputable def roundF : Code := lft (lft blkF)
noncomputable def tmF : Code := lft roundF
noncomputable def bbF : Code := lft (lft (rgt roundF))
noncomputable def incF : Code := rgt (rgt roundF)
noncomputable def endF : Code := rgt cF
abbrev sF (l : List ByteArray) : St := [lookB, .ro encStr l]
abbrev aF (l : List ByteArray) (cap : Nat) : SVal := .sli 1 (.c 0) 1 (.v l.length) (some (.v cap))
noncomputable def bS : Code := Tryd.f12.body.getD .skip
noncomputable def cS : Code := restC 2 bS
noncomputable def regS : Code := lft (lft cS)
noncomputable def blkS : Code := rgt (lft cS)
noncomputable def roundS : Code := lft (lft blkS)
noncomputable def rsS : Code := restC 2 roundS
noncomputable def bbS : Code := lft (lft rsS)
noncomputable def incS : Code := rgt rsS
noncomputable def endS : Code := rgt cS
abbrev sS (l : List ByteArray) : St := [lookB, .vec encStr l 9]
abbrev aS (l : List ByteArray) : SVal := .sli 1 (.c 0) 1 (.v l.length) none
end Go.Proofs.YtplbncncnjiahaaDoor

namespace Go.Proofs.YtplbncncnjiahaaDoor
open Go Go.Proofs.YtplbncncnjiahaaDoor.Sx
set_option linter.unusedVariables false
set_option maxRecDepth 100000 in
theorem rw_pre {p s : Int} : (execN cfgN 100 4 bW ([.int .i64 p, .int .i64 s] ++ List.replicate 35 .bad) [lookB]).bind (canonK 1 [(0,0)] 37 [0, 1, 6, 4, 5]) =
 

 (.br (decide (p < (1 : Int)))

 (.ret (.ret, [.int .i64 p, .int .i64 s, .bad, .lit .i64 (0 : Int), .lit .i64 (120 : Int)], [.ro encLook [PUnit.unit]]))

 (.br (decide ((32768 : Int) < p))

 (.ret (.ret, [.int .i64 p, .int .i64 s, .bad, .lit .i64 (0 : Int), .lit .i64 (120 : Int)], [.ro encLook [PUnit.unit]]))

 (.eq ([Blk.ro encLook [PUnit.unit]] = [Blk.ro encLook [PUnit.unit]])

 (.br (!decide (IntKind.u32.wrap p = (1 : Int) ∨ IntKind.u32.wrap p = (2 : Int) ∨ IntKind.u32.wrap p = (4 : Int) ∨ IntKind.u32.wrap p = (8 : Int) ∨ IntKind.u32.wrap p = (16 : Int) ∨ IntKind.u32.wrap p = (32 : Int) ∨ IntKind.u32.wrap p = (64 : Int) ∨ IntKind.u32.wrap p = (128 : Int) ∨ IntKind.u32.wrap p = (256 : Int) ∨ IntKind.u32.wrap p = (512 : Int) ∨ IntKind.u32.wrap p = (1024 : Int) ∨ IntKind.u32.wrap p = (2048 : Int) ∨ IntKind.u32.wrap p = (4096 : Int) ∨ IntKind.u32.wrap p = (8192 : Int) ∨ IntKind.u32.wrap p = (16384 : Int) ∨ IntKind.u32.wrap p = (32768 : Int)))

 (.ret (.ret, [.int .i64 p, .int .i64 s, .bad, .lit .i64 (0 : Int), .lit .i64 (120 : Int)], [.ro encLook [PUnit.unit]]))

 (.br (decide (s < (1 : Int)))

 (.ret (.ret, [.int .i64 p, .int .i64 s, .bad, .lit .i64 (0 : Int), .lit .i64 (121 : Int)], [.ro encLook [PUnit.unit]]))

 (.br (decide ((32 : Int) < s))

 (.ret (.ret, [.int .i64 p, .int .i64 s, .bad, .lit .i64 (0 : Int), .lit .i64 (121 : Int)], [.ro encLook [PUnit.unit]]))

 (.ret (.normal, [.int .i64 p, .int .i64 s, .lit .i64 (1 : Int), .lit .i64 (0 : Int), .lit .i64 (0 : Int)], [.ro encLook [PUnit.unit]])))))))) := by kernel_rfl
set_option maxRecDepth 100000 in
theorem rw_reg {p s : Int} : (exec cfgM 100 regW (fr 37 [0, 1, 6] [.int .i64 p, .int .i64 s, .int .i64 1]) [lookB]).bind (canonK 1 [(0,0)] 37 [0, 1, 6, 7]) =
 

 (.ret (.normal, [.int .i64 p, .int .i64 s, .int .i64 (1 : Int), .lit .i64 (0 : Int)], [.ro encLook [PUnit.unit]])) := by kernel_rfl
set_option maxRecDepth 100000 in
theorem rw_tm {p s k i : Int} : (exec cfgM 100 tmW (fr 37 [0, 1, 6, 7] (vW p s k i)) [lookB]).bind (canonK 1 [(0,0)] 37 [0, 1, 6, 7]) =
 

 (.br (decide (i < s))

 (.ret (.normal, [.int .i64 p, .int .i64 s, .int .i64 k, .int .i64 i], [.ro encLook [PUnit.unit]]))

 (.ret (.exit 0, [.int .i64 p, .int .i64 s, .int .i64 k, .int .i64 i], [.ro encLook [PUnit.unit]]))) := by kernel_rfl
set_option maxRecDepth 100000 in
theorem rw_bb {p s k i : Int} : (exec cfgM 100 bbW (fr 37 [0, 1, 6, 7] (vW p s k i)) [lookB]).bind (canonK 1 [(0,0)] 37 [0, 1, 6, 7]) =
 

 (.need (inR .i64 (k + (1 : Int)))

 (.ret (.normal, [.int .i64 p, .int .i64 s, .int .i64 (k + (1 : Int)), .int .i64 i], [.ro encLook [PUnit.unit]]))) := by kernel_rfl
set_option maxRecDepth 100000 in
theorem rw_inc {p s k i : Int} : (exec cfgM 100 incW (fr 37 [0, 1, 6, 7] (vW p s k i)) [lookB]).bind (canonK 1 [(0,0)] 37 [0, 1, 6, 7]) =
 

 (.need (inR .i64 (i + (4 : Int)))

 (.ret (.normal, [.int .i64 p, .int .i64 s, .int .i64 k, .int .i64 (i + (4 : Int))], [.ro encLook [PUnit.unit]]))) := by kernel_rfl
set_option maxRecDepth 100000 in
theorem rw_end {p s k i : Int} : (exec cfgM 100 endW (fr 37 [0, 1, 6, 7] (vW p s k i)) [lookB]).bind (canonK 1 [(0,0)] 37 [4, 5]) =
 

 (.need (inR .i64 (p * k))

 (.need (inR .i64 ((2 : Int) + p * k))

 (.ret (.ret, [.int .i64 ((2 : Int) + p * k), .lit .i64 (0 : Int)], [.ro encLook [PUnit.unit]])))) := by kernel_rfl
set_option maxRecDepth 100000 in
theorem fw_pre {l : List ByteArray} {cap : Nat} : (execN cfgM 100 2 bF ([aF l cap] ++ List.replicate 18 .bad) (sF l)).bind (canonK 2 [(0,0)] 19 [0, 2]) =
 

 (.br (decide ((20 : Int) < (↑l.length : Int)))

 (.ret (.ret, [.sli 1 (.c 0) 1 (.v l.length) (some (.v cap)), .bl false], [.ro encLook [PUnit.unit], .ro encStr l]))

 (.ret (.normal, [.sli 1 (.c 0) 1 (.v l.length) (some (.v cap)), .bl false], [.ro encLook [PUnit.unit], .ro encStr l]))) := by kernel_rfl
set_option maxRecDepth 100000 in
theorem fw_reg {l : List ByteArray} {cap : Nat} : (exec cfgM 100 regF (fr 19 [0] [aF l cap]) (sF l)).bind (canonK 2 [(0,0)] 19 [0, 3]) =
 

 (.ret (.normal, [.sli 1 (.c 0) 1 (.v l.length) (some (.v cap)), .lit .i64 (0 : Int)], [.ro encLook [PUnit.unit], .ro encStr l])) := by kernel_rfl
set_option maxRecDepth 100000 in
theorem fw_tm {l : List ByteArray} {cap i : Nat} : (exec cfgM 100 tmF (fr 19 [0, 3] [aF l cap, .int .i64 (i : Nat)]) (sF l)).bind (canonK 2 [(0,0)] 19 [0, 3]) =
 

 (.br (decide ((↑i : Int) < (↑l.length : Int)))

 (.ret (.normal, [.sli 1 (.c 0) 1 (.v l.length) (some (.v cap)), .int .i64 (↑i : Int)], [.ro encLook [PUnit.unit], .ro encStr l]))

 (.ret (.exit 0, [.sli 1 (.c 0) 1 (.v l.length) (some (.v cap)), .int .i64 (↑i : Int)], [.ro encLook [PUnit.unit], .ro encStr l]))) := by kernel_rfl
set_option maxRecDepth 100000 in
theorem fw_bb {l : List ByteArray} {cap i : Nat} : (exec cfgM 100 bbF (fr 19 [0, 3] [aF l cap, .int .i64 (i : Nat)]) (sF l)).bind (canonK 2 [(0,0)] 19 [0, 3, 2]) =
 

 (.need (decide ((0 : Int) ≤ (↑i : Int)) && decide ((↑i : Int).toNat < l.length))

 (.need (decide ((↑i : Int).toNat < l.length))

 (.br (decide ((40 : Int) < (↑(l.getD (↑i : Int).toNat { data := { toList := [] } }).size : Int)))

 (.ret (.ret, [.sli 1 (.c 0) 1 (.v l.length) (some (.v cap)), .int .i64 (↑i : Int), .bl false], [.ro encLook [PUnit.unit], .ro encStr l]))

 (.ret (.normal, [.sli 1 (.c 0) 1 (.v l.length) (some (.v cap)), .int .i64 (↑i : Int), .bad], [.ro encLook [PUnit.unit], .ro encStr l]))))) := by kernel_rfl
set_option maxRecDepth 100000 in
theorem fw_inc {l : List ByteArray} {cap i : Nat} : (exec cfgM 100 incF (fr 19 [0, 3] [aF l cap, .int .i64 (i : Nat)]) (sF l)).bind (canonK 2 [(0,0)] 19 [0, 3]) =
 

 (.need (inR .i64 ((↑i : Int) + (1 : Int)))

 (.ret (.normal, [.sli 1 (.c 0) 1 (.v l.length) (some (.v cap)), .int .i64 ((↑i : Int) + (1 : Int))], [.ro encLook [PUnit.unit], .ro encStr l]))) := by kernel_rfl
set_option maxRecDepth 100000 in
theorem fw_end {l : List ByteArray} {cap i : Nat} : (exec cfgM 100 endF (fr 19 [0, 3] [aF l cap, .int .i64 (i : Nat)]) (sF l)).bind (canonK 2 [(0,0)] 19 [2]) =
 

 (.ret (.ret, [.bl true], [.ro encLook [PUnit.unit], .ro encStr l])) := by kernel_rfl
set_option maxRecDepth 100000 in
theorem sw_pre {a p s : Int} {l : List ByteArray} : (execN cfgN 100 2 bS ([.int .i64 a, .int .i64 p, .int .i64 s, aS l] ++ List.replicate 53 .bad) (sS l)).bind (canonK 2 [(0,0)] 57 [0, 1, 2, 3, 8, 9]) =
 

 (.eq ([Blk.ro encLook [PUnit.unit]] = [Blk.ro encLook [PUnit.unit]])

 (.br ((wordsP p s).snd != (0 : Int))

 (.ret (.ret, [.int .i64 a, .int .i64 p, .int .i64 s, .sli 1 (.c 0) 1 (.v l.length) none, .pnil, .int .i64 (wordsP p s).snd], [.ro encLook [PUnit.unit], .vec encStr l 9]))

 (.ret (.normal, [.int .i64 a, .int .i64 p, .int .i64 s, .sli 1 (.c 0) 1 (.v l.length) none, .pnil, .lit .i64 (0 : Int)], [.ro encLook [PUnit.unit], .vec encStr l 9])))) := by kernel_rfl
set_option maxRecDepth 100000 in
theorem sw_reg {a p s : Int} {l : List ByteArray} : (exec cfgM 100 regS (fr 57 [0, 1, 2, 3] [.int .i64 a, .int .i64 p, .int .i64 s, aS l]) (sS l)).bind (canonK 2 [(0,0)] 57 [0, 1, 2, 3, 24, 25, 26]) =
 

 (.ret (.normal, [.int .i64 a, .int .i64 p, .int .i64 s, .sli 1 (.c 0) 1 (.v l.length) none, .sli 1 (.c 0) 1 (.v l.length) none, .int .i64 (↑l.length : Int), .lit .i64 (0 : Int)], [.ro encLook [PUnit.unit], .vec encStr l 9])) := by kernel_rfl
set_option maxRecDepth 100000 in
theorem sw_tm {a p s : Int} {l : List ByteArray} {i : Nat} : (execN cfgM 100 2 roundS (fr 57 [0, 1, 2, 3, 24, 25, 26] [.int .i64 a, .int .i64 p, .int .i64 s, aS l, aS l, .int .i64 (l.length : Nat), .int .i64 (i : Nat)]) (sS l)).bind (canonK 2 [(0,0)] 57 [0, 1, 2, 3, 24, 25, 26]) =
 

 (.br (decide ((↑i : Int) < (↑l.length : Int)))

 (.ret (.normal, [.int .i64 a, .int .i64 p, .int .i64 s, .sli 1 (.c 0) 1 (.v l.length) none, .sli 1 (.c 0) 1 (.v l.length) none, .int .i64 (↑l.length : Int), .int .i64 (↑i : Int)], [.ro encLook [PUnit.unit], .vec encStr l 9]))

 (.ret (.exit 0, [.int .i64 a, .int .i64 p, .int .i64 s, .sli 1 (.c 0) 1 (.v l.length) none, .sli 1 (.c 0) 1 (.v l.length) none, .int .i64 (↑l.length : Int), .int .i64 (↑i : Int)], [.ro encLook [PUnit.unit], .vec encStr l 9]))) := by kernel_rfl
set_option maxRecDepth 100000 in
theorem sw_bb {a p s : Int} {l : List ByteArray} {i : Nat} : (exec cfgM 100 bbS (fr 57 [0, 1, 2, 3, 24, 25, 26] [.int .i64 a, .int .i64 p, .int .i64 s, aS l, aS l, .int .i64 (l.length : Nat), .int .i64 (i : Nat)]) (sS l)).bind (canonK 2 [(0,0)] 57 [0, 1, 2, 3, 24, 25, 26, 8, 9]) =
 

 (.need (decide ((0 : Int) ≤ (↑i : Int)) && decide ((↑i : Int).toNat < l.length))

 (.need (decide ((↑i : Int).toNat < l.length))

 (.br (decide ((↑(l.getD (↑i : Int).toNat { data := { toList := [] } }).size : Int) < (1 : Int)))

 (.ret (.ret, [.int .i64 a, .int .i64 p, .int .i64 s, .sli 1 (.c 0) 1 (.v l.length) none, .sli 1 (.c 0) 1 (.v l.length) none, .int .i64 (↑l.length : Int), .int .i64 (↑i : Int), .pnil, .lit .i64 (121 : Int)], [.ro encLook [PUnit.unit], .vec encStr l 9]))

 (.br (decide (s < (↑(l.getD (↑i : Int).toNat { data := { toList := [] } }).size : Int)))

 (.ret (.ret, [.int .i64 a, .int .i64 p, .int .i64 s, .sli 1 (.c 0) 1 (.v l.length) none, .sli 1 (.c 0) 1 (.v l.length) none, .int .i64 (↑l.length : Int), .int .i64 (↑i : Int), .pnil, .lit .i64 (121 : Int)], [.ro encLook [PUnit.unit], .vec encStr l 9]))

 (.ret (.normal, [.int .i64 a, .int .i64 p, .int .i64 s, .sli 1 (.c 0) 1 (.v l.length) none, .sli 1 (.c 0) 1 (.v l.length) none, .int .i64 (↑l.length : Int), .int .i64 (↑i : Int), .bad, .bad], [.ro encLook [PUnit.unit], .vec encStr l 9])))))) := by kernel_rfl
set_option maxRecDepth 100000 in
theorem sw_inc {a p s : Int} {l : List ByteArray} {i : Nat} : (exec cfgM 100 incS (fr 57 [0, 1, 2, 3, 24, 25, 26] [.int .i64 a, .int .i64 p, .int .i64 s, aS l, aS l, .int .i64 (l.length : Nat), .int .i64 (i : Nat)]) (sS l)).bind (canonK 2 [(0,0)] 57 [0, 1, 2, 3, 24, 25, 26]) =
 

 (.need (inR .i64 ((↑i : Int) + (1 : Int)))

 (.ret (.normal, [.int .i64 a, .int .i64 p, .int .i64 s, .sli 1 (.c 0) 1 (.v l.length) none, .sli 1 (.c 0) 1 (.v l.length) none, .int .i64 (↑l.length : Int), .int .i64 ((↑i : Int) + (1 : Int))], [.ro encLook [PUnit.unit], .vec encStr l 9]))) := by kernel_rfl
set_option maxRecDepth 100000 in
theorem sw_end {a p s : Int} {l : List ByteArray} {i : Nat} : (exec cfgM 100 endS (fr 57 [0, 1, 2, 3, 24, 25, 26] [.int .i64 a, .int .i64 p, .int .i64 s, aS l, aS l, .int .i64 (l.length : Nat), .int .i64 (i : Nat)]) (sS l)).bind (canonK 2 [(0,0)] 57 [8, 9]) =
 

 (.need (decide (0 + l.length ≤ l.length))

 (.need (decide (0 + l.length ≤ l.length))

 (.need (roomy (List.take l.length (List.drop 0 l)).length 16)

 (.ret (.ret, [.ptr 2 0, .lit .i64 (0 : Int)], [.ro encLook [PUnit.unit], .vec encStr l 9, .own [.c (.int .i64 a), .c (.int .i64 p), .c (.int .i64 s), .c (SVal.fn (Fn.func 30) [.ptr 2 0] []), .c (.lit .u32 (0 : Int)), .c (.lit .u32 (0 : Int)), .c (.lit .i64 (0 : Int)), .c (.sli 3 (.c 0) 1 (.v (List.take l.length (List.drop 0 l)).length) none), .c .snil] 76, .vec encStr (List.take l.length (List.drop 0 l)) 9]))))) := by kernel_rfl
end Go.Proofs.YtplbncncnjiahaaDoor

/- Layer 12: the document's words; few. -/
namespace Go.Proofs.YtplbncncnjiahaaDoor
open Go Go.Proofs.YtplbncncnjiahaaDoor.Sx
set_option linter.unusedVariables false
theorem bW_eq : Tryd.f11.body = some bW := by kernel_rfl
set_option maxHeartbeats 1000000 in
theorem refwords_call {p s : Int} : ∀ (env : Env) (w : World) (vs : List Value), GlOk cfgM.gl env → Rep env [lookB] w → DenL env [.int .i64 p, .int .i64 s] vs → Calls cfgM.P 11 ⟨vs⟩ w (Ends1 env [lookB] w (.tup [.int .i64 (wordsP p s).1, .int .i64 (wordsP p s).2]) [lookB]) := by
  intro env w vs hg hr hd
  have hb0 : env.length = 1 := hr.len
  refine AtK.begin (c := cfgM) Tryd.func11 bW_eq hg hr hd fun a0 hA => ?_
  refine pieceNTK2 (c := cfgN) cfgN_ok 4 [0, 1, 6, 4, 5] rw_pre (by omega) (by simp) hA ?_
  have bad : ∀ {m e : Int} {t : SVal}, wordsP p s = (m, e) → ∀ {env' : Env} {a' : Act} {w' : World}, AtK env [(0, 0)] ⟨w, inFoot env [lookB]⟩ env' (fr 37 [0, 1, 6, 4, 5] [.int .i64 p, .int .i64 s, .bad, .lit .i64 m, .lit .i64 e]) [lookB] a' w' →
      bodyPost Tryd.prog Tryd.f11 (Ends1 env [lookB] w (.tup [.int .i64 (wordsP p s).1, .int .i64 (wordsP p s).2]) [lookB]) .ret a' w' := by
    intro m e t h env' a' w' hA'
    rw [h]
    have hA2 : AtK env [(0, 0)] ⟨w, inFoot env [lookB]⟩ env' (fr 37 [0, 1, 6, 4, 5] [.int .i64 p, .int .i64 s, .bad, .int .i64 m, .int .i64 e]) [lookB] a' w' := hA'.on fun h => h.gvals _ rfl
    exact hA2.out (c := cfgM) (by kernel_rfl)
  refine all_brp (by simp only [decide_eq_true_eq] <;> exact Iff.rfl) (fun h1 => all_ret fun _ _ _ h => bad (t := .bad) (by unfold wordsP; rw [if_pos (.inl h1)]) h) (fun h1 => ?_)
  refine all_brp (by simp only [decide_eq_true_eq] <;> exact Iff.rfl) (fun h2 => all_ret fun _ _ _ h => bad (t := .bad) (by unfold wordsP; rw [if_pos (.inr (.inl h2))]) h) (fun h2 => ?_)
  refine all_eq rfl ?_
  have e1 : IntKind.u32.wrap p = p := wrap_inR (by rw [inR_u32]; omega)
  rw [e1]
  refine all_br (fun h3 => all_ret fun _ _ _ h => bad (t := .bad) (by
    have h3' : powB p = false := by
      have : (!powB p) = true := h3
      simpa using this
    unfold wordsP; rw [if_pos (.inr (.inr h3'))]) h) (fun h3 => ?_)
  have h3' : powB p = true := by
    have : (!powB p) = false := h3
    simpa using this
  have hn : ¬ (p < 1 ∨ 32768 < p ∨ powB p = false) := by rw [h3']; simp; omega
  refine all_brp (by simp only [decide_eq_true_eq] <;> exact Iff.rfl) (fun h4 => all_ret fun _ _ _ h => bad (t := .bad) (by unfold wordsP; rw [if_neg hn, if_pos (.inl h4)]) h) (fun h4 => ?_)
  refine all_brp (by simp only [decide_eq_true_eq] <;> exact Iff.rfl) (fun h5 => all_ret fun _ _ _ h => bad (t := .bad) (by unfold wordsP; rw [if_neg hn, if_pos (.inr h5)]) h) (fun h5 => ?_)
  refine all_ret fun env1 a1 w1 hA1 => ?_
  simp only [Ex.to, Exit.then]
  have hA2 : AtK env [(0, 0)] ⟨w, inFoot env [lookB]⟩ env1 (fr 37 [0, 1, 6] [.int .i64 p, .int .i64 s, .int .i64 1]) [lookB] a1 w1 := hA1.on fun h => (At.few (names := [0, 1, 6]) (extra := [4, 5]) (vals := [.int .i64 p, .int .i64 s, .lit .i64 1]) (ev := [.lit .i64 0, .lit .i64 0]) h rfl).gvals _ rfl
  refine (show cW.wp Tryd.prog _ a1 w1 from wpS (by kernel_rfl) (wpS (by kernel_rfl) ?_))
  refine pieceTK2 (c := cfgM) cfgM_ok [0, 1, 6, 7] rw_reg (by omega) (by simp) hA2 ?_
  refine all_ret fun env3 a3 w3 hA3 => ?_
  simp only [Ex.to, Exit.then]
  have hA4 := hA3.on fun h => h.gvals (vW p s (1 + ((0 : Nat) : Int)) (4 * ((0 : Nat) : Int))) rfl
  refine wpB 0 (by kernel_rfl) (wpL (by kernel_rfl) (fun (k : Nat) a' w' => 4 * (k : Int) < s + 4 ∧ ∃ env', AtK env [(0, 0)] ⟨w, inFoot env [lookB]⟩ env' (fr 37 [0, 1, 6, 7] (vW p s (1 + (k : Int)) (4 * (k : Int)))) [lookB] a' w') (fun (k : Nat) => 9 - k) (0 : Nat) ⟨by omega, env3, hA4⟩ ?_)
  rintro k a' w' ⟨hk, env', hA⟩
  refine (show roundW.wp _ _ _ _ from wpS (by kernel_rfl) ?_)
  refine pieceTK2 (c := cfgM) cfgM_ok [0, 1, 6, 7] rw_tm (by omega) (by simp) hA ?_
  refine all_brp (by simp only [decide_eq_true_eq] <;> exact Iff.rfl) (fun h6 => all_ret fun env1 a1 w1 hA1 => ?_) (fun h6 => all_ret fun env1 a1 w1 hA1 => ?_)
  · simp only [Ex.to, Exit.then]
    refine (show (rgt roundW).wp _ _ _ _ from wpS (by kernel_rfl) (wpB 1 (by kernel_rfl) ?_))
    refine (show bbW.wp _ _ _ _ from ?_)
    refine pieceTK2 (c := cfgM) cfgM_ok [0, 1, 6, 7] rw_bb (by omega) (by simp) hA1 ?_
    refine all_needq (by simp only [inR_i64]; exact Iff.rfl) (by omega) ?_
    refine all_ret fun env2 a2 w2 hA2 => ?_
    simp only [Ex.to, Exit.inBlock, Exit.then]
    refine (show incW.wp _ _ _ _ from ?_)
    refine pieceTK2 (c := cfgM) cfgM_ok [0, 1, 6, 7] rw_inc (by omega) (by simp) hA2 ?_
    refine all_needp (by simp only [inR_i64]; exact Iff.rfl) (by omega) fun _ => all_ret fun env4 a4 w4 hA4 => ?_
    rw [show (1 : Int) + (k : Int) + 1 = 1 + ((k + 1 : Nat) : Int) by omega, show (4 : Int) * (k : Int) + 4 = 4 * ((k + 1 : Nat) : Int) by omega] at hA4
    exact ⟨k + 1, ⟨by omega, env4, hA4⟩, by omega⟩
  · simp only [Ex.to, Exit.then, Exit.inBlock, if_true]
    refine (show endW.wp _ _ _ _ from ?_)
    refine pieceTK2 (c := cfgM) cfgM_ok [4, 5] rw_end (by omega) (by simp) hA1 ?_
    have ek : (k : Int) = (s + 3) / 4 := by omega
    have hm : 0 ≤ p * (1 + (s + 3) / 4) ∧ p * (1 + (s + 3) / 4) ≤ 32768 * 9 := by
      have h9 : 1 + (s + 3) / 4 ≤ 9 := by omega
      have h10 : 0 ≤ 1 + (s + 3) / 4 := by omega
      exact ⟨Int.mul_nonneg (by omega) h10, Int.mul_le_mul (by omega) h9 h10 (by omega)⟩
    rw [ek]
    refine all_needq (by simp only [inR_i64]; exact Iff.rfl) (by omega) ?_
    refine all_needq (by simp only [inR_i64]; exact Iff.rfl) (by omega) ?_
    have : wordsP p s = (2 + p * (1 + (s + 3) / 4), 0) := by unfold wordsP; rw [if_neg hn, if_neg (by omega)]
    rw [this]
    refine all_ret fun env4 a4 w4 hA4 => ?_
    have hA5 : AtK env [(0, 0)] ⟨w, inFoot env [lookB]⟩ env4 (fr 37 [4, 5] [.int .i64 (2 + p * (1 + (s + 3) / 4)), .int .i64 0]) [lookB] a4 w4 := hA4.on fun h => h.gvals _ rfl
    exact hA5.out (c := cfgM) (by kernel_rfl)
theorem bF_eq : Tryd.f8.body = some bF := by kernel_rfl
def fewP (l : List ByteArray) : Bool := decide (l.length ≤ 20) && l.all fun s => decide (s.size ≤ 40)
theorem few_of {l : List ByteArray} (h1 : l.length ≤ 20) (h2 : ∀ j, j < l.length → (l.getD j ⟨⟨[]⟩⟩).size ≤ 40) : fewP l = true := by
  unfold fewP
  rw [Bool.and_eq_true, decide_eq_true_eq, List.all_eq_true]
  refine ⟨h1, fun s hs => ?_⟩
  obtain ⟨j, hj, rfl⟩ := List.mem_iff_getElem.1 hs
  have := h2 j hj
  rw [List.getD_eq_getElem?_getD, List.getElem?_eq_getElem hj] at this
  exact decide_eq_true this
theorem few_no {l : List ByteArray} {j : Nat} (hj : j < l.length) (h2 : 40 < (l.getD j ⟨⟨[]⟩⟩).size) : fewP l = false := by
  unfold fewP
  rw [Bool.and_eq_false_iff]
  refine .inr ?_
  rw [List.all_eq_false]
  refine ⟨l[j], List.getElem_mem hj, ?_⟩
  rw [List.getD_eq_getElem?_getD, List.getElem?_eq_getElem hj] at h2
  simp only [Option.getD_some] at h2
  simp; omega
set_option maxHeartbeats 1000000 in
theorem few_call {l : List ByteArray} {cap : Nat} : ∀ (env : Env) (w : World) (vs : List Value), GlOk cfgM.gl env → Rep env (sF l) w → DenL env [aF l cap] vs → Calls cfgM.P 8 ⟨vs⟩ w (Ends1 env (sF l) w (.bl (fewP l)) (sF l)) := by
  intro env w vs hg hr hd
  have hb0 : env.length = 2 := hr.len
  refine AtK.begin (c := cfgM) Tryd.func8 bF_eq hg hr hd fun a0 hA => ?_
  refine pieceNTK2 (c := cfgM) cfgM_ok 2 [0, 2] fw_pre (by omega) (by simp) hA ?_
  refine all_brp (by simp only [decide_eq_true_eq] <;> exact Iff.rfl) (fun h1 => all_ret fun _ _ _ h => ?_) (fun h1 => ?_)
  · have : fewP l = false := by
      unfold fewP; rw [decide_eq_false (by omega), Bool.false_and]
    rw [this]; exact h.out (c := cfgM) (by kernel_rfl)
  refine all_ret fun env1 a1 w1 hA1 => ?_
  simp only [Ex.to, Exit.then]
  have hA2 : AtK env [(0, 0)] ⟨w, inFoot env (sF l)⟩ env1 (fr 19 [0] [aF l cap]) (sF l) a1 w1 := hA1.on fun h => At.few (names := [0]) (extra := [2]) (vals := [aF l cap]) (ev := [.bl false]) h rfl
  refine (show cF.wp Tryd.prog _ a1 w1 from wpS (by kernel_rfl) (wpS (by kernel_rfl) ?_))
  refine pieceTK2 (c := cfgM) cfgM_ok [0, 3] fw_reg (by omega) (by simp) hA2 ?_
  refine all_ret fun env3 a3 w3 hA3 => ?_
  simp only [Ex.to, Exit.then]
  have hA4 := hA3.on fun h => h.gvals [aF l cap, .int .i64 ((0 : Nat) : Int)] rfl
  refine wpB 0 (by kernel_rfl) (wpL (by kernel_rfl) (fun (i : Nat) a' w' => (i ≤ l.length ∧ ∀ j, j < i → (l.getD j ⟨⟨[]⟩⟩).size ≤ 40) ∧ ∃ env', AtK env [(0, 0)] ⟨w, inFoot env (sF l)⟩ env' (fr 19 [0, 3] [aF l cap, .int .i64 (i : Nat)]) (sF l) a' w') (fun (i : Nat) => l.length - i) (0 : Nat) ⟨⟨Nat.zero_le _, fun j hj => by omega⟩, env3, hA4⟩ ?_)
  rintro i a' w' ⟨⟨hi, hall⟩, env', hA⟩
  refine (show roundF.wp _ _ _ _ from wpS (by kernel_rfl) ?_)
  refine pieceTK2 (c := cfgM) cfgM_ok [0, 3] fw_tm (by omega) (by simp) hA ?_
  refine all_brp (by simp only [decide_eq_true_eq] <;> exact Iff.rfl) (fun h6 => all_ret fun env1 a1 w1 hA1 => ?_) (fun h6 => all_ret fun env1 a1 w1 hA1 => ?_)
  · simp only [Ex.to, Exit.then]
    have hi' : i < l.length := by omega
    refine (show (rgt roundF).wp _ _ _ _ from wpS (by kernel_rfl) (wpB 1 (by kernel_rfl) ?_))
    refine (show bbF.wp _ _ _ _ from ?_)
    refine pieceTK2 (c := cfgM) cfgM_ok [0, 3, 2] fw_bb (by omega) (by simp) hA1 ?_
    simp only [Int.toNat_natCast]
    refine all_needq (by simp only [decide_eq_true_eq, Bool.and_eq_true]; exact Iff.rfl) (by omega) ?_
    refine all_needq (by simp only [decide_eq_true_eq]; exact Iff.rfl) (by omega) ?_
    refine all_brp (by simp only [decide_eq_true_eq] <;> exact Iff.rfl) (fun h7 => all_ret fun _ _ _ h => ?_) (fun h7 => ?_)
    · rw [few_no hi' (by omega)]
      exact h.out (c := cfgM) (by kernel_rfl)
    refine all_ret fun env2 a2 w2 hA2 => ?_
    simp only [Ex.to, Exit.inBlock, Exit.then]
    have hA3 : AtK env [(0, 0)] ⟨w, inFoot env (sF l)⟩ env2 (fr 19 [0, 3] [aF l cap, .int .i64 (i : Nat)]) (sF l) a2 w2 := hA2.on fun h => At.few (names := [0, 3]) (extra := [2]) (vals := [aF l cap, .int .i64 (i : Nat)]) (ev := [.bad]) h rfl
    refine (show incF.wp _ _ _ _ from ?_)
    refine pieceTK2 (c := cfgM) cfgM_ok [0, 3] fw_inc (by omega) (by simp) hA3 ?_
    refine all_needp (by simp only [inR_i64]; exact Iff.rfl) (by omega) fun _ => all_ret fun env4 a4 w4 hA4 => ?_
    refine ⟨i + 1, ⟨⟨by omega, fun j hj => ?_⟩, env4, hA4⟩, by omega⟩
    by_cases hji : j = i
    · subst hji; omega
    · exact hall j (by omega)
  · have him : i = l.length := by omega
    subst him
    simp only [Ex.to, Exit.then, Exit.inBlock, if_true]
    refine (show endF.wp _ _ _ _ from ?_)
    refine pieceTK2 (c := cfgM) cfgM_ok [2] fw_end (by omega) (by simp) hA1 ?_
    rw [few_of (by omega) hall]
    exact all_ret fun env4 a4 w4 hA4 => hA4.out (c := cfgM) (by kernel_rfl)
end Go.Proofs.YtplbncncnjiahaaDoor

/- RingMakes: pieces. -/
namespace Go.Proofs.YtplbncncnjiahaaDoor
open Go Go.Proofs.YtplbncncnjiahaaDoor.Sx
set_option linter.unusedVariables false
theorem gRef_ok (args : List SVal) (S : St) (v : SVal) (S' : St) (h : (gWords args S).at (v, S')) : PreOk cfgM 1 11 args S v S' := by
  unfold gWords at h
  split at h
  · rename_i a b
    split at h
    · rename_i p la s lb h1 h2
      obtain ⟨rfl, h⟩ := h
      simp only [T.at, Prod.mk.injEq] at h
      obtain ⟨rfl, rfl⟩ := h
      refine ⟨fun env w vs hg hr hd => ?_, rfl, rfl, fun _ _ h => .inr h, look_ren, by simp only [renL, asI_ren h1, asI_ren h2]⟩
      obtain ⟨u, us, rfl, h4, u2, us2, rfl, h5, rfl⟩ := hd
      exact refwords_call env w _ hg hr ⟨_, _, rfl, asI_int h1 h4, _, _, rfl, asI_int h2 h5, rfl⟩
    · exact h.elim
  · exact h.elim
/-- what comes in -/
structure InK where
  at' : Int
  places : Int
  size : Int
  times : Int
  l : List ByteArray
  cap : Nat
abbrev qK (q : InK) : SVal := .agg [.int .i64 q.at', .int .i64 q.places, .int .i64 q.size, .int .i64 q.times]
abbrev argK (q : InK) : List SVal := [qK q, aF q.l q.cap]
noncomputable def b3 : Code := Tryd.f3.body.getD .skip
def smEcho (v : SVal) : List SVal → St → T (SVal × St) := fun args st => .eq (args = [] ∧ st = []) (.ret (v, st))
noncomputable def cfgEcho : Cfg := { P := Tryd.prog, ex := exI, gl := [(0, 0)], sm := fun f => match f with
  | 8 => some (smEcho (.bl true))
  | 10 => some (smPre 1 gWords)
  | 11 => some (smPre 1 gWords)
  | 12 => some (smEcho (.tup [.pnil, .lit .i64 121]))
  | _ => none }
end Go.Proofs.YtplbncncnjiahaaDoor

/- Layer 12: a sender is made. -/
namespace Go.Proofs.YtplbncncnjiahaaDoor
open Go Go.Proofs.YtplbncncnjiahaaDoor.Sx
set_option linter.unusedVariables false
theorem bS_eq : Tryd.f12.body = some bS := by kernel_rfl
abbrev nilS : ByteArray := ⟨⟨[]⟩⟩
def okS (s : Int) (x : ByteArray) : Prop := 1 ≤ x.size ∧ (x.size : Int) ≤ s
/-- all the messages fit -/
def fits (s : Int) (l : List ByteArray) : Prop := ∀ j, j < l.length → okS s (l.getD j nilS)
abbrev sndB (k : Nat) (a p s : Int) (l : List ByteArray) : St := [.own [.c (.int .i64 a), .c (.int .i64 p), .c (.int .i64 s), .c (.fn (.func 30) [.ptr k 0] []), .c (.lit .u32 0), .c (.lit .u32 0), .c (.lit .i64 0), .c (.sli (k + 1) (.c 0) 1 (.v l.length) none), .c .snil] 76, .vec encStr l 9]
abbrev vS (a p s : Int) (l : List ByteArray) (i : Nat) : List SVal := [.int .i64 a, .int .i64 p, .int .i64 s, aS l, aS l, .int .i64 (l.length : Nat), .int .i64 (i : Nat)]
abbrev nS : List Nat := [0, 1, 2, 3, 24, 25, 26]
open Classical in
noncomputable def sendR (a p s : Int) (l : List ByteArray) : SVal × St :=
  if (wordsP p s).2 = 0 then (if fits s l then (.tup [.ptr 2 0, .lit .i64 0], sS l ++ sndB 2 a p s l) else (.tup [.pnil, .int .i64 121], sS l)) else (.tup [.pnil, .int .i64 (wordsP p s).2], sS l)
theorem sendR_bad {a p s : Int} {l : List ByteArray} (h : ¬ (wordsP p s).2 = 0) : sendR a p s l = (.tup [.pnil, .int .i64 (wordsP p s).2], sS l) := by unfold sendR; rw [if_neg h]
theorem sendR_no {a p s : Int} {l : List ByteArray} (h : (wordsP p s).2 = 0) (h2 : ¬ fits s l) : sendR a p s l = (.tup [.pnil, .int .i64 121], sS l) := by unfold sendR; rw [if_pos h, if_neg h2]
theorem sendR_ok {a p s : Int} {l : List ByteArray} (h : (wordsP p s).2 = 0) (h2 : fits s l) : sendR a p s l = (.tup [.ptr 2 0, .lit .i64 0], sS l ++ sndB 2 a p s l) := by unfold sendR; rw [if_pos h, if_pos h2]
set_option maxHeartbeats 1000000 in
theorem send_call {a p s : Int} {l : List ByteArray} (hl : l.length ≤ 1000) :
    ∀ (env : Env) (w : World) (vs : List Value), GlOk cfgM.gl env → Rep env (sS l) w → DenL env [.int .i64 a, .int .i64 p, .int .i64 s, aS l] vs → Calls cfgM.P 12 ⟨vs⟩ w (Ends1 env (sS l) w (sendR a p s l).1 (sendR a p s l).2) := by
  intro env w vs hg hr hd
  have hb0 : env.length = 2 := hr.len
  refine AtK.begin (c := cfgM) Tryd.func12 bS_eq hg hr hd fun a0 hA => ?_
  refine pieceNTK2 (c := cfgN) cfgN_ok 2 [0, 1, 2, 3, 8, 9] sw_pre (by omega) (by simp) hA ?_
  refine all_eq rfl ?_
  refine all_brp (by rw [bne_iff_ne]) (fun h1 => all_ret fun _ _ _ h => ?_) (fun h1 => ?_)
  · rw [sendR_bad h1]
    exact h.out (c := cfgM) (by kernel_rfl)
  have h1' : (wordsP p s).2 = 0 := by simpa using h1
  refine all_ret fun env1 a1 w1 hA1 => ?_
  simp only [Ex.to, Exit.then]
  have hA2 : AtK env [(0, 0)] ⟨w, inFoot env (sS l)⟩ env1 (fr 57 [0, 1, 2, 3] [.int .i64 a, .int .i64 p, .int .i64 s, aS l]) (sS l) a1 w1 := hA1.on fun h => At.few (names := [0, 1, 2, 3]) (extra := [8, 9]) (vals := [.int .i64 a, .int .i64 p, .int .i64 s, aS l]) (ev := [.pnil, .lit .i64 0]) h rfl
  refine (show cS.wp Tryd.prog _ a1 w1 from wpS (by kernel_rfl) (wpS (by kernel_rfl) ?_))
  refine pieceTK2 (c := cfgM) cfgM_ok nS sw_reg (by omega) (by simp) hA2 ?_
  refine all_ret fun env3 a3 w3 hA3 => ?_
  simp only [Ex.to, Exit.then]
  have hA4 := hA3.on fun h => h.gvals (vS a p s l 0) rfl
  refine wpB 0 (by kernel_rfl) (wpL (by kernel_rfl) (fun (i : Nat) a' w' => (i ≤ l.length ∧ ∀ j, j < i → okS s (l.getD j nilS)) ∧ ∃ env', AtK env [(0, 0)] ⟨w, inFoot env (sS l)⟩ env' (fr 57 nS (vS a p s l i)) (sS l) a' w') (fun (i : Nat) => l.length - i) (0 : Nat) ⟨⟨Nat.zero_le _, fun j hj => by omega⟩, env3, hA4⟩ ?_)
  rintro i a' w' ⟨⟨hi, hall⟩, env', hA⟩
  refine (show roundS.wp _ _ _ _ from ?_)
  refine pieceNTK2 (c := cfgM) cfgM_ok 2 nS sw_tm (by omega) (by simp) hA ?_
  refine all_brp (by simp only [decide_eq_true_eq] <;> exact Iff.rfl) (fun h6 => all_ret fun env1 a1 w1 hA1 => ?_) (fun h6 => all_ret fun env1 a1 w1 hA1 => ?_)
  · simp only [Ex.to, Exit.then]
    have hi' : i < l.length := by omega
    refine (show rsS.wp _ _ _ _ from wpS (by kernel_rfl) (wpB 1 (by kernel_rfl) ?_))
    refine (show bbS.wp _ _ _ _ from ?_)
    refine pieceTK2 (c := cfgM) cfgM_ok [0, 1, 2, 3, 24, 25, 26, 8, 9] sw_bb (by omega) (by simp) hA1 ?_
    simp only [Int.toNat_natCast]
    refine all_needq (by simp only [decide_eq_true_eq, Bool.and_eq_true]; exact Iff.rfl) (by omega) ?_
    refine all_needq (by simp only [decide_eq_true_eq]; exact Iff.rfl) (by omega) ?_
    have bad : ¬ okS s (l.getD i nilS) → ∀ {env' : Env} {a' : Act} {w' : World}, AtK env [(0, 0)] ⟨w, inFoot env (sS l)⟩ env' (fr 57 [0, 1, 2, 3, 24, 25, 26, 8, 9] (vS a p s l i ++ [.pnil, .lit .i64 121])) (sS l) a' w' →
        bodyPost Tryd.prog Tryd.f12 (Ends1 env (sS l) w (sendR a p s l).1 (sendR a p s l).2) .ret a' w' := by
      intro hb env' a' w' hA'
      rw [sendR_no h1' (fun hf => hb (hf i hi'))]
      have hA3 : AtK env [(0, 0)] ⟨w, inFoot env (sS l)⟩ env' (fr 57 [0, 1, 2, 3, 24, 25, 26, 8, 9] (vS a p s l i ++ [.pnil, .int .i64 121])) (sS l) a' w' := hA'.on fun h => h.gvals _ rfl
      exact hA3.out (c := cfgM) (by kernel_rfl)
    refine all_brp (by simp only [decide_eq_true_eq] <;> exact Iff.rfl) (fun h7 => all_ret fun _ _ _ h => bad (fun hk => by have := hk.1; unfold nilS at this; omega) h) (fun h7 => ?_)
    refine all_brp (by simp only [decide_eq_true_eq] <;> exact Iff.rfl) (fun h8 => all_ret fun _ _ _ h => bad (fun hk => by have := hk.2; unfold nilS at this; omega) h) (fun h8 => ?_)
    refine all_ret fun env2 a2 w2 hA2 => ?_
    simp only [Ex.to, Exit.inBlock, Exit.then]
    have hA3 : AtK env [(0, 0)] ⟨w, inFoot env (sS l)⟩ env2 (fr 57 nS (vS a p s l i)) (sS l) a2 w2 := hA2.on fun h => At.few (names := nS) (extra := [8, 9]) (vals := vS a p s l i) (ev := [.bad, .bad]) h rfl
    refine (show incS.wp _ _ _ _ from ?_)
    refine pieceTK2 (c := cfgM) cfgM_ok nS sw_inc (by omega) (by simp) hA3 ?_
    refine all_needp (by simp only [inR_i64]; exact Iff.rfl) (by omega) fun _ => all_ret fun env4 a4 w4 hA4 => ?_
    refine ⟨i + 1, ⟨⟨by omega, fun j hj => ?_⟩, env4, hA4⟩, by omega⟩
    by_cases hji : j = i
    · subst hji; exact ⟨by unfold nilS; omega, by unfold nilS; omega⟩
    · exact hall j (by omega)
  · have him : i = l.length := by omega
    subst him
    simp only [Ex.to, Exit.then, Exit.inBlock, if_true]
    refine (show endS.wp _ _ _ _ from ?_)
    refine pieceTK2 (c := cfgM) cfgM_ok [8, 9] sw_end (by omega) (by simp) hA1 ?_
    have e5 : List.take l.length (List.drop 0 l) = l := by simp
    rw [e5, sendR_ok h1' hall]
    refine all_needq (by simp only [decide_eq_true_eq]; exact Iff.rfl) (by omega) ?_
    refine all_needq (by simp only [decide_eq_true_eq]; exact Iff.rfl) (by omega) ?_
    refine all_needq (by simp only [roomy_iff]; exact Iff.rfl) (by omega) ?_
    refine all_ret fun env4 a4 w4 hA4 => ?_
    exact hA4.out (c := cfgM) (by kernel_rfl)
abbrev idS : List Nat := [0, 4, 1, 2, 3]
abbrev ivS : List Nat := [0, 2, 3, 4, 1]
abbrev qB (q : InK) : Blk := .own [.c (.int .i64 q.at'), .c (.int .i64 q.places), .c (.int .i64 q.size), .c (.int .i64 q.times)] 23
/-- the law's state when it makes a sender -/
abbrev sL (q : InK) : St := [lookB, .ro encStr q.l, qB q, .gone, .vec encStr q.l 9]
theorem sndB_plain {k : Nat} {a p s : Int} {l : List ByteArray} : ∀ b ∈ sndB k a p s l, plainB b = true := by
  intro b h
  simp only [List.mem_cons, List.not_mem_nil, or_false] at h
  rcases h with rfl | rfl <;> rfl
theorem roSame_refl (S : St) : roSame S S := fun _ _ h => .inr h
abbrev aL (q : InK) : List SVal := [.int .i64 q.at', .int .i64 q.places, .int .i64 q.size, .sli 4 (.c 0) 1 (.v q.l.length) none]
set_option maxRecDepth 100000 in
theorem sendL_ok {q : InK} (hl : q.l.length ≤ 1000) (h1 : (wordsP q.places q.size).2 = 0) (h2 : fits q.size q.l) (env : Env) (w : World) (vs : List Value) (hg : GlOk cfgM.gl env) (hr : Rep env (sL q) w) (hd : DenL env (aL q) vs) :
    Calls cfgM.P 12 ⟨vs⟩ w (Ends1 env (sL q) w (.tup [.ptr 5 0, .lit .i64 0]) (sL q ++ sndB 5 q.at' q.places q.size q.l)) := by
  have hc := send_call (a := q.at') (p := q.places) (s := q.size) hl
  rw [sendR_ok h1 h2] at hc
  have hf := frameNew (c := cfgM) (n := 2) hc [.ro encStr q.l, qB q, .gone] rfl rfl (gl_lt (by simp)) (by kernel_rfl) (Sa := sS q.l) (Sb := sndB 5 q.at' q.places q.size q.l) (s' := .tup [.ptr 5 0, .lit .i64 0]) (by kernel_rfl) (by kernel_rfl) rfl (roSame_refl _) sndB_plain rfl
  exact permNew (n := 2) (st := sL q) (S0 := sS q.l ++ [.ro encStr q.l, qB q, .gone]) (st0' := sL q ++ sndB 5 q.at' q.places q.size q.l) (st' := sL q ++ sndB 5 q.at' q.places q.size q.l) idS ivS hf rfl rfl rfl rfl rfl rfl rfl (by kernel_rfl) EqvSt.rfl' (by kernel_rfl) EqvSt.rfl' rfl rfl env w vs hg hr hd
theorem sendL_bad {q : InK} (hl : q.l.length ≤ 1000) {e : Int} (he : (sendR q.at' q.places q.size q.l) = (.tup [.pnil, .int .i64 e], sS q.l)) (env : Env) (w : World) (vs : List Value) (hg : GlOk cfgM.gl env) (hr : Rep env (sL q) w) (hd : DenL env (aL q) vs) :
    Calls cfgM.P 12 ⟨vs⟩ w (Ends1 env (sL q) w (.tup [.pnil, .int .i64 e]) (sL q)) := by
  have hc := send_call (a := q.at') (p := q.places) (s := q.size) hl
  rw [he] at hc
  have hf := frame (c := cfgM) hc [.ro encStr q.l, qB q, .gone] rfl rfl (gl_lt (by simp)) (by kernel_rfl) (roSame_refl _)
  exact permCall (st := sL q) (S0 := sS q.l ++ [.ro encStr q.l, qB q, .gone]) (st0' := sL q) (st' := sL q) idS ivS hf rfl rfl rfl rfl rfl rfl (by kernel_rfl) EqvSt.rfl' (by kernel_rfl) EqvSt.rfl' rfl rfl env w vs hg hr hd
end Go.Proofs.YtplbncncnjiahaaDoor

/- RingMakes: what it calls; its states. -/
namespace Go.Proofs.YtplbncncnjiahaaDoor
open Go Go.Proofs.YtplbncncnjiahaaDoor.Sx
set_option linter.unusedVariables false
theorem fewK {q : InK} (env : Env) (w : World) (vs : List Value) (hg : GlOk cfgM.gl env) (hr : Rep env (sF q.l ++ [qB q]) w) (hd : DenL env [aF q.l q.cap] vs) :
    Calls cfgM.P 8 ⟨vs⟩ w (Ends1 env (sF q.l ++ [qB q]) w (.bl (fewP q.l)) (sF q.l ++ [qB q])) :=
  frame (c := cfgM) few_call [qB q] rfl rfl (gl_lt (by simp)) (by kernel_rfl) (roSame_refl _) env w vs hg hr hd
/-- few, and the making of a sender, with ends that are known -/
noncomputable def cfgK (q : InK) (b : Bool) (P : Prop) (r : SVal) (S' : St) : Cfg := { P := Tryd.prog, ex := exI, gl := [(0, 0)], sm := fun f => match f with
  | 8 => some (smEq [aF q.l q.cap] (sF q.l ++ [qB q]) (fewP q.l = b) (.bl b) (sF q.l ++ [qB q]))
  | 9 => some (smClosed [0] [lookB] (.bl true))
  | 10 => some (smPre 1 gWords)
  | 11 => some (smPre 1 gWords)
  | 12 => some (smEq (aL q) (sL q) P r S')
  | _ => none }
theorem cfgK_ok {q : InK} {b : Bool} {P : Prop} {r : SVal} {S' : St} (h : P → ∀ (env : Env) (w : World) (vs : List Value), GlOk cfgM.gl env → Rep env (sL q) w → DenL env (aL q) vs → Calls cfgM.P 12 ⟨vs⟩ w (Ends1 env (sL q) w r S')) : SmOk (cfgK q b P r S') := by
  intro f g h'
  simp only [cfgK] at h'
  split at h'
  · simp only [Option.some.injEq] at h'; subst h'
    exact smEq_ok (c := cfgK q b P r S') fun hb env w vs hg hr hd => by rw [← hb]; exact fewK env w vs hg hr hd
  · simp only [Option.some.injEq] at h'; subst h'
    exact smClosedS_ok cfg0_ok awake_val ⟨rfl, rfl, rfl, rfl, rfl, rfl, rfl, rfl, rfl, rfl, trivial⟩ (by kernel_rfl) rfl rfl (by intro b hb e; rw [List.mem_singleton.1 hb]; rfl)
  · simp only [Option.some.injEq] at h'; subst h'
    exact smPre_ok (c := cfgM) (gl_lt (by omega)) gWords_ok
  · simp only [Option.some.injEq] at h'; subst h'
    exact smPre_ok (c := cfgM) (gl_lt (by omega)) gRef_ok
  · simp only [Option.some.injEq] at h'; subst h'
    exact smEq_ok (c := cfgK q b P r S') h
  · cases h'
noncomputable def c3 : Code := restC 7 b3
noncomputable def reg3 : Code := lft (lft c3)
noncomputable def blk3 : Code := rgt (lft c3)
noncomputable def round3 : Code := lft (lft blk3)
noncomputable def tm3 : Code := lft round3
noncomputable def bb3 : Code := lft (lft (rgt round3))
noncomputable def inc3 : Code := rgt (rgt round3)
noncomputable def end3 : Code := rgt c3
abbrev n3a : List Nat := [1, 2, 5, 6, 7, 8, 9, 10, 11, 12, 13]
abbrev n3b : List Nat := [1, 2, 5, 6, 7, 8, 9, 10, 11, 12, 13, 14]
/-- receiver -/
abbrev rcvB (k : Nat) (q : InK) : Blk := .own [.c (.int .i64 q.at'), .c (.int .i64 q.places), .c (.int .i64 q.size), .c (.fn (.func 31) [.ptr k 0] []), .c (.int .u32 0), .c (.int .u32 0), .c (.int .i64 0), .c (.int .i64 (imax q.times 0)), .c (.int .i64 0), .c .snil, .c .snil] 78
abbrev sndG (k : Nat) (q : InK) : St := [.own [.c (.int .i64 q.at'), .c (.int .i64 q.places), .c (.int .i64 q.size), .c (.fn (.func 30) [.ptr k 0] []), .c (.int .u32 0), .c (.int .u32 0), .c (.int .i64 0), .c (.sli (k + 1) (.c 0) 1 (.v q.l.length) none), .c .snil] 76, .vec encStr q.l 9]
abbrev x0 (q : InK) : St := sF q.l ++ [qB q]
abbrev x1 (q : InK) : St := x0 q ++ [rcvB 3 q]
abbrev x2 (q : InK) : St := x0 q ++ (sndG 3 q ++ [rcvB 5 q])
abbrev vK (q : InK) (g h : Int) (s r : SVal) (want : Int) : List SVal := [aF q.l q.cap, .ptr 2 0, .int .i64 (wordsP q.places q.size).1, .int .i64 (wordsP q.places q.size).2, .int .i64 (wordsP q.places q.size).1, .int .i64 (wordsP q.places q.size).2, s, .int .i64 g, r, .int .i64 h, .int .i64 want]
end Go.Proofs.YtplbncncnjiahaaDoor

namespace Go.Proofs.YtplbncncnjiahaaDoor
open Go Go.Proofs.YtplbncncnjiahaaDoor.Sx
set_option linter.unusedVariables false
set_option maxRecDepth 100000 in
theorem k_few {q : InK} {P : Prop} {r : SVal} {S' : St} : (execN (cfgK q false P r S') 100 2 b3 (argK q ++ List.replicate 140 .bad) (sF q.l)).bind (canonK 2 [(0,0)] 142 [4]) =
 

 (.eq ([SVal.sli 1 (.c 0) 1 (.v q.5.length) (some (.v q.6))] = [SVal.sli 1 (.c 0) 1 (.v q.5.length) (some (.v q.6))] ∧ [Blk.ro encLook [PUnit.unit], .ro encStr q.5, .own [.c (.int .i64 q.1), .c (.int .i64 q.2), .c (.int .i64 q.3), .c (.int .i64 q.4)] 23] = [Blk.ro encLook [PUnit.unit], .ro encStr q.5, .own [.c (.int .i64 q.1), .c (.int .i64 q.2), .c (.int .i64 q.3), .c (.int .i64 q.4)] 23] ∧ fewP q.5 = false)

 (.eq (some [Blk.ro encLook [PUnit.unit]] = some [Blk.ro encLook [PUnit.unit]])

 (.ret (.ret, [.bl true], [.ro encLook [PUnit.unit], .ro encStr q.5])))) := by kernel_rfl
set_option maxRecDepth 100000 in
theorem k_bad {q : InK} {P : Prop} {e : Int} : (execN (cfgK q true P (.tup [.pnil, .int .i64 e]) (sL q)) 100 7 b3 (argK q ++ List.replicate 140 .bad) (sF q.l)).bind (canonK 3 [(0,0)] 142 n3a) =
 

 (.eq ([SVal.sli 1 (.c 0) 1 (.v q.5.length) (some (.v q.6))] = [SVal.sli 1 (.c 0) 1 (.v q.5.length) (some (.v q.6))] ∧ [Blk.ro encLook [PUnit.unit], .ro encStr q.5, .own [.c (.int .i64 q.1), .c (.int .i64 q.2), .c (.int .i64 q.3), .c (.int .i64 q.4)] 23] = [Blk.ro encLook [PUnit.unit], .ro encStr q.5, .own [.c (.int .i64 q.1), .c (.int .i64 q.2), .c (.int .i64 q.3), .c (.int .i64 q.4)] 23] ∧ fewP q.5 = true)

 (.eq ([Blk.ro encLook [PUnit.unit]] = [Blk.ro encLook [PUnit.unit]])

 (.eq ([Blk.ro encLook [PUnit.unit]] = [Blk.ro encLook [PUnit.unit]])

 (.need (decide (0 + q.5.length ≤ q.5.length))

 (.need (decide (0 + q.5.length ≤ q.5.length))

 (.need (roomy (List.take q.5.length (List.drop 0 q.5)).length 16)

 (.eq ([SVal.int .i64 q.1, .int .i64 q.2, .int .i64 q.3, .sli 4 (.c 0) 1 (.v (List.take q.5.length (List.drop 0 q.5)).length) none] = [SVal.int .i64 q.1, .int .i64 q.2, .int .i64 q.3, .sli 4 (.c 0) 1 (.v q.5.length) none] ∧ [Blk.ro encLook [PUnit.unit], .ro encStr q.5, .own [.c (.int .i64 q.1), .c (.int .i64 q.2), .c (.int .i64 q.3), .c (.int .i64 q.4)] 23, .gone, .vec encStr (List.take q.5.length (List.drop 0 q.5)) 9] = [Blk.ro encLook [PUnit.unit], .ro encStr q.5, .own [.c (.int .i64 q.1), .c (.int .i64 q.2), .c (.int .i64 q.3), .c (.int .i64 q.4)] 23, .gone, .vec encStr q.5 9] ∧ P)
 (.eq (T.ret (SVal.int IntKind.i64 q.1) = T.ret (SVal.int IntKind.i64 q.1))
 (.eq (T.ret (SVal.int IntKind.i64 q.1) = T.ret (SVal.int IntKind.i64 q.1))
 (.eq (T.ret (SVal.int IntKind.i64 q.1) = T.ret (SVal.int IntKind.i64 q.1))
 (.eq (T.ret (SVal.int IntKind.i64 q.2) = T.ret (SVal.int IntKind.i64 q.2))
 (.eq (T.ret (SVal.int IntKind.i64 q.2) = T.ret (SVal.int IntKind.i64 q.2))
 (.eq (T.ret (SVal.int IntKind.i64 q.2) = T.ret (SVal.int IntKind.i64 q.2))
 (.eq (T.ret (SVal.int IntKind.i64 q.3) = T.ret (SVal.int IntKind.i64 q.3))
 (.eq (T.ret (SVal.int IntKind.i64 q.3) = T.ret (SVal.int IntKind.i64 q.3))
 (.eq (T.ret (SVal.int IntKind.i64 q.3) = T.ret (SVal.int IntKind.i64 q.3))

 (.eq ([Blk.ro encLook [PUnit.unit]] = [Blk.ro encLook [PUnit.unit]])

 (.br ((wordsP q.2 q.3).snd != (0 : Int))

 (.ret (.normal, [.sli 1 (.c 0) 1 (.v q.5.length) (some (.v q.6)), .ptr 2 0, .int .i64 (wordsP q.2 q.3).fst, .int .i64 (wordsP q.2 q.3).snd, .int .i64 (wordsP q.2 q.3).fst, .int .i64 (wordsP q.2 q.3).snd, .pnil, .int .i64 e, .pnil, .int .i64 (wordsP q.2 q.3).snd, .int .i64 (wordsP q.2 q.3).snd], [.ro encLook [PUnit.unit], .ro encStr q.5, .own [.c (.int .i64 q.1), .c (.int .i64 q.2), .c (.int .i64 q.3), .c (.int .i64 q.4)] 23]))

 (.ret (.normal, [.sli 1 (.c 0) 1 (.v q.5.length) (some (.v q.6)), .ptr 2 0, .int .i64 (wordsP q.2 q.3).fst, .int .i64 (wordsP q.2 q.3).snd, .int .i64 (wordsP q.2 q.3).fst, .int .i64 (wordsP q.2 q.3).snd, .pnil, .int .i64 e, .ptr 3 0, .lit .i64 (0 : Int), .int .i64 (wordsP q.2 q.3).snd], [.ro encLook [PUnit.unit], .ro encStr q.5, .own [.c (.int .i64 q.1), .c (.int .i64 q.2), .c (.int .i64 q.3), .c (.int .i64 q.4)] 23, .own [.c (.int .i64 q.1), .c (.int .i64 q.2), .c (.int .i64 q.3), .c (SVal.fn (Fn.func 31) [.ptr 3 0] []), .c (.lit .u32 (0 : Int)), .c (.lit .u32 (0 : Int)), .c (.lit .i64 (0 : Int)), .c (.int .i64 (imax q.4 (0 : Int))), .c (.lit .i64 (0 : Int)), .c .snil, .c .snil] 78])))))))))))))))))))) := by kernel_rfl
set_option maxRecDepth 100000 in
theorem k_good {q : InK} {P : Prop} : (execN (cfgK q true P (.tup [.ptr 5 0, .lit .i64 0]) (sL q ++ sndB 5 q.at' q.places q.size q.l)) 100 7 b3 (argK q ++ List.replicate 140 .bad) (sF q.l)).bind (canonK 3 [(0,0)] 142 n3a) =
 

 (.eq ([SVal.sli 1 (.c 0) 1 (.v q.5.length) (some (.v q.6))] = [SVal.sli 1 (.c 0) 1 (.v q.5.length) (some (.v q.6))] ∧ [Blk.ro encLook [PUnit.unit], .ro encStr q.5, .own [.c (.int .i64 q.1), .c (.int .i64 q.2), .c (.int .i64 q.3), .c (.int .i64 q.4)] 23] = [Blk.ro encLook [PUnit.unit], .ro encStr q.5, .own [.c (.int .i64 q.1), .c (.int .i64 q.2), .c (.int .i64 q.3), .c (.int .i64 q.4)] 23] ∧ fewP q.5 = true)

 (.eq ([Blk.ro encLook [PUnit.unit]] = [Blk.ro encLook [PUnit.unit]])

 (.eq ([Blk.ro encLook [PUnit.unit]] = [Blk.ro encLook [PUnit.unit]])

 (.need (decide (0 + q.5.length ≤ q.5.length))

 (.need (decide (0 + q.5.length ≤ q.5.length))

 (.need (roomy (List.take q.5.length (List.drop 0 q.5)).length 16)

 (.eq ([SVal.int .i64 q.1, .int .i64 q.2, .int .i64 q.3, .sli 4 (.c 0) 1 (.v (List.take q.5.length (List.drop 0 q.5)).length) none] = [SVal.int .i64 q.1, .int .i64 q.2, .int .i64 q.3, .sli 4 (.c 0) 1 (.v q.5.length) none] ∧ [Blk.ro encLook [PUnit.unit], .ro encStr q.5, .own [.c (.int .i64 q.1), .c (.int .i64 q.2), .c (.int .i64 q.3), .c (.int .i64 q.4)] 23, .gone, .vec encStr (List.take q.5.length (List.drop 0 q.5)) 9] = [Blk.ro encLook [PUnit.unit], .ro encStr q.5, .own [.c (.int .i64 q.1), .c (.int .i64 q.2), .c (.int .i64 q.3), .c (.int .i64 q.4)] 23, .gone, .vec encStr q.5 9] ∧ P)
 (.eq (T.ret (SVal.int IntKind.i64 q.1) = T.ret (SVal.int IntKind.i64 q.1))
 (.eq (T.ret (SVal.int IntKind.i64 q.1) = T.ret (SVal.int IntKind.i64 q.1))
 (.eq (T.ret (SVal.int IntKind.i64 q.1) = T.ret (SVal.int IntKind.i64 q.1))
 (.eq (T.ret (SVal.int IntKind.i64 q.2) = T.ret (SVal.int IntKind.i64 q.2))
 (.eq (T.ret (SVal.int IntKind.i64 q.2) = T.ret (SVal.int IntKind.i64 q.2))
 (.eq (T.ret (SVal.int IntKind.i64 q.2) = T.ret (SVal.int IntKind.i64 q.2))
 (.eq (T.ret (SVal.int IntKind.i64 q.3) = T.ret (SVal.int IntKind.i64 q.3))
 (.eq (T.ret (SVal.int IntKind.i64 q.3) = T.ret (SVal.int IntKind.i64 q.3))
 (.eq (T.ret (SVal.int IntKind.i64 q.3) = T.ret (SVal.int IntKind.i64 q.3))

 (.eq ([Blk.ro encLook [PUnit.unit]] = [Blk.ro encLook [PUnit.unit]])

 (.br ((wordsP q.2 q.3).snd != (0 : Int))

 (.ret (.normal, [.sli 1 (.c 0) 1 (.v q.5.length) (some (.v q.6)), .ptr 2 0, .int .i64 (wordsP q.2 q.3).fst, .int .i64 (wordsP q.2 q.3).snd, .int .i64 (wordsP q.2 q.3).fst, .int .i64 (wordsP q.2 q.3).snd, .ptr 3 0, .lit .i64 (0 : Int), .pnil, .int .i64 (wordsP q.2 q.3).snd, .int .i64 (wordsP q.2 q.3).snd], [.ro encLook [PUnit.unit], .ro encStr q.5, .own [.c (.int .i64 q.1), .c (.int .i64 q.2), .c (.int .i64 q.3), .c (.int .i64 q.4)] 23, .own [.c (.int .i64 q.1), .c (.int .i64 q.2), .c (.int .i64 q.3), .c (SVal.fn (Fn.func 30) [.ptr 3 0] []), .c (.lit .u32 (0 : Int)), .c (.lit .u32 (0 : Int)), .c (.lit .i64 (0 : Int)), .c (.sli 4 (.c 0) 1 (.v q.5.length) none), .c .snil] 76, .vec encStr q.5 9]))

 (.ret (.normal, [.sli 1 (.c 0) 1 (.v q.5.length) (some (.v q.6)), .ptr 2 0, .int .i64 (wordsP q.2 q.3).fst, .int .i64 (wordsP q.2 q.3).snd, .int .i64 (wordsP q.2 q.3).fst, .int .i64 (wordsP q.2 q.3).snd, .ptr 3 0, .lit .i64 (0 : Int), .ptr 5 0, .lit .i64 (0 : Int), .int .i64 (wordsP q.2 q.3).snd], [.ro encLook [PUnit.unit], .ro encStr q.5, .own [.c (.int .i64 q.1), .c (.int .i64 q.2), .c (.int .i64 q.3), .c (.int .i64 q.4)] 23, .own [.c (.int .i64 q.1), .c (.int .i64 q.2), .c (.int .i64 q.3), .c (SVal.fn (Fn.func 30) [.ptr 3 0] []), .c (.lit .u32 (0 : Int)), .c (.lit .u32 (0 : Int)), .c (.lit .i64 (0 : Int)), .c (.sli 4 (.c 0) 1 (.v q.5.length) none), .c .snil] 76, .vec encStr q.5 9, .own [.c (.int .i64 q.1), .c (.int .i64 q.2), .c (.int .i64 q.3), .c (SVal.fn (Fn.func 31) [.ptr 5 0] []), .c (.lit .u32 (0 : Int)), .c (.lit .u32 (0 : Int)), .c (.lit .i64 (0 : Int)), .c (.int .i64 (imax q.4 (0 : Int))), .c (.lit .i64 (0 : Int)), .c .snil, .c .snil] 78])))))))))))))))))))) := by kernel_rfl
set_option maxRecDepth 100000 in
theorem l0_reg {q : InK} {g h want : Int} : (exec cfgM 100 reg3 (fr 142 n3a (vK q g h .pnil .pnil want)) (x0 q)).bind (canonK 3 [(0,0)] 142 n3b) =
 

 (.ret (.normal, [.sli 1 (.c 0) 1 (.v q.5.length) (some (.v q.6)), .ptr 2 0, .int .i64 (wordsP q.2 q.3).fst, .int .i64 (wordsP q.2 q.3).snd, .int .i64 (wordsP q.2 q.3).fst, .int .i64 (wordsP q.2 q.3).snd, .pnil, .int .i64 g, .pnil, .int .i64 h, .int .i64 want, .lit .i64 (0 : Int)], [.ro encLook [PUnit.unit], .ro encStr q.5, .own [.c (.int .i64 q.1), .c (.int .i64 q.2), .c (.int .i64 q.3), .c (.int .i64 q.4)] 23])) := by kernel_rfl
set_option maxRecDepth 100000 in
theorem l0_tm {q : InK} {g h want : Int} {i : Nat} : (exec cfgM 100 tm3 (fr 142 n3b ((vK q g h .pnil .pnil want) ++ [.int .i64 (i : Nat)])) (x0 q)).bind (canonK 3 [(0,0)] 142 n3b) =
 

 (.br (decide ((↑i : Int) < (↑q.5.length : Int)))

 (.br (want == (0 : Int))

 (.ret (.normal, [.sli 1 (.c 0) 1 (.v q.5.length) (some (.v q.6)), .ptr 2 0, .int .i64 (wordsP q.2 q.3).fst, .int .i64 (wordsP q.2 q.3).snd, .int .i64 (wordsP q.2 q.3).fst, .int .i64 (wordsP q.2 q.3).snd, .pnil, .int .i64 g, .pnil, .int .i64 h, .int .i64 want, .int .i64 (↑i : Int)], [.ro encLook [PUnit.unit], .ro encStr q.5, .own [.c (.int .i64 q.1), .c (.int .i64 q.2), .c (.int .i64 q.3), .c (.int .i64 q.4)] 23]))

 (.ret (.exit 0, [.sli 1 (.c 0) 1 (.v q.5.length) (some (.v q.6)), .ptr 2 0, .int .i64 (wordsP q.2 q.3).fst, .int .i64 (wordsP q.2 q.3).snd, .int .i64 (wordsP q.2 q.3).fst, .int .i64 (wordsP q.2 q.3).snd, .pnil, .int .i64 g, .pnil, .int .i64 h, .int .i64 want, .int .i64 (↑i : Int)], [.ro encLook [PUnit.unit], .ro encStr q.5, .own [.c (.int .i64 q.1), .c (.int .i64 q.2), .c (.int .i64 q.3), .c (.int .i64 q.4)] 23])))

 (.ret (.exit 0, [.sli 1 (.c 0) 1 (.v q.5.length) (some (.v q.6)), .ptr 2 0, .int .i64 (wordsP q.2 q.3).fst, .int .i64 (wordsP q.2 q.3).snd, .int .i64 (wordsP q.2 q.3).fst, .int .i64 (wordsP q.2 q.3).snd, .pnil, .int .i64 g, .pnil, .int .i64 h, .int .i64 want, .int .i64 (↑i : Int)], [.ro encLook [PUnit.unit], .ro encStr q.5, .own [.c (.int .i64 q.1), .c (.int .i64 q.2), .c (.int .i64 q.3), .c (.int .i64 q.4)] 23]))) := by kernel_rfl
set_option maxRecDepth 100000 in
theorem l0_end {q : InK} {g h want : Int} {i : Nat} : (exec cfg 100 end3 (fr 142 n3b ((vK q g h .pnil .pnil want) ++ [.int .i64 (i : Nat)])) (x0 q)).bind (canonK 3 [(0,0)] 142 [4]) =
 

 (.eq (some [Blk.ro encLook [PUnit.unit]] = some [Blk.ro encLook [PUnit.unit]])

 (.br ((wordsP q.2 q.3).fst == (wordsP q.2 q.3).fst)

 (.br ((wordsP q.2 q.3).snd == (wordsP q.2 q.3).snd)

 (.br (g == want)

 (.br (h == (wordsP q.2 q.3).snd)

 (.br (true == (g != (0 : Int)))

 (.br (true == (h != (0 : Int)))

 (.ret (.ret, [.bl true], [.ro encLook [PUnit.unit], .ro encStr q.5, .own [.c (.int .i64 q.1), .c (.int .i64 q.2), .c (.int .i64 q.3), .c (.int .i64 q.4)] 23]))

 (.ret (.ret, [.bl false], [.ro encLook [PUnit.unit], .ro encStr q.5, .own [.c (.int .i64 q.1), .c (.int .i64 q.2), .c (.int .i64 q.3), .c (.int .i64 q.4)] 23])))

 (.ret (.ret, [.bl false], [.ro encLook [PUnit.unit], .ro encStr q.5, .own [.c (.int .i64 q.1), .c (.int .i64 q.2), .c (.int .i64 q.3), .c (.int .i64 q.4)] 23])))

 (.ret (.ret, [.bl false], [.ro encLook [PUnit.unit], .ro encStr q.5, .own [.c (.int .i64 q.1), .c (.int .i64 q.2), .c (.int .i64 q.3), .c (.int .i64 q.4)] 23])))

 (.ret (.ret, [.bl false], [.ro encLook [PUnit.unit], .ro encStr q.5, .own [.c (.int .i64 q.1), .c (.int .i64 q.2), .c (.int .i64 q.3), .c (.int .i64 q.4)] 23])))

 (.ret (.ret, [.bl false], [.ro encLook [PUnit.unit], .ro encStr q.5, .own [.c (.int .i64 q.1), .c (.int .i64 q.2), .c (.int .i64 q.3), .c (.int .i64 q.4)] 23])))

 (.ret (.ret, [.bl false], [.ro encLook [PUnit.unit], .ro encStr q.5, .own [.c (.int .i64 q.1), .c (.int .i64 q.2), .c (.int .i64 q.3), .c (.int .i64 q.4)] 23])))) := by kernel_rfl
set_option maxRecDepth 100000 in
theorem l1_reg {q : InK} {g h want : Int} : (exec cfgM 100 reg3 (fr 142 n3a (vK q g h .pnil (.ptr 3 0) want)) (x1 q)).bind (canonK 4 [(0,0)] 142 n3b) =
 

 (.ret (.normal, [.sli 1 (.c 0) 1 (.v q.5.length) (some (.v q.6)), .ptr 2 0, .int .i64 (wordsP q.2 q.3).fst, .int .i64 (wordsP q.2 q.3).snd, .int .i64 (wordsP q.2 q.3).fst, .int .i64 (wordsP q.2 q.3).snd, .pnil, .int .i64 g, .ptr 3 0, .int .i64 h, .int .i64 want, .lit .i64 (0 : Int)], [.ro encLook [PUnit.unit], .ro encStr q.5, .own [.c (.int .i64 q.1), .c (.int .i64 q.2), .c (.int .i64 q.3), .c (.int .i64 q.4)] 23, .own [.c (.int .i64 q.1), .c (.int .i64 q.2), .c (.int .i64 q.3), .c (SVal.fn (Fn.func 31) [.ptr 3 0] []), .c (.int .u32 (0 : Int)), .c (.int .u32 (0 : Int)), .c (.int .i64 (0 : Int)), .c (.int .i64 (imax q.4 (0 : Int))), .c (.int .i64 (0 : Int)), .c .snil, .c .snil] 78])) := by kernel_rfl
set_option maxRecDepth 100000 in
theorem l1_tm {q : InK} {g h want : Int} {i : Nat} : (exec cfgM 100 tm3 (fr 142 n3b ((vK q g h .pnil (.ptr 3 0) want) ++ [.int .i64 (i : Nat)])) (x1 q)).bind (canonK 4 [(0,0)] 142 n3b) =
 

 (.br (decide ((↑i : Int) < (↑q.5.length : Int)))

 (.br (want == (0 : Int))

 (.ret (.normal, [.sli 1 (.c 0) 1 (.v q.5.length) (some (.v q.6)), .ptr 2 0, .int .i64 (wordsP q.2 q.3).fst, .int .i64 (wordsP q.2 q.3).snd, .int .i64 (wordsP q.2 q.3).fst, .int .i64 (wordsP q.2 q.3).snd, .pnil, .int .i64 g, .ptr 3 0, .int .i64 h, .int .i64 want, .int .i64 (↑i : Int)], [.ro encLook [PUnit.unit], .ro encStr q.5, .own [.c (.int .i64 q.1), .c (.int .i64 q.2), .c (.int .i64 q.3), .c (.int .i64 q.4)] 23, .own [.c (.int .i64 q.1), .c (.int .i64 q.2), .c (.int .i64 q.3), .c (SVal.fn (Fn.func 31) [.ptr 3 0] []), .c (.int .u32 (0 : Int)), .c (.int .u32 (0 : Int)), .c (.int .i64 (0 : Int)), .c (.int .i64 (imax q.4 (0 : Int))), .c (.int .i64 (0 : Int)), .c .snil, .c .snil] 78]))

 (.ret (.exit 0, [.sli 1 (.c 0) 1 (.v q.5.length) (some (.v q.6)), .ptr 2 0, .int .i64 (wordsP q.2 q.3).fst, .int .i64 (wordsP q.2 q.3).snd, .int .i64 (wordsP q.2 q.3).fst, .int .i64 (wordsP q.2 q.3).snd, .pnil, .int .i64 g, .ptr 3 0, .int .i64 h, .int .i64 want, .int .i64 (↑i : Int)], [.ro encLook [PUnit.unit], .ro encStr q.5, .own [.c (.int .i64 q.1), .c (.int .i64 q.2), .c (.int .i64 q.3), .c (.int .i64 q.4)] 23, .own [.c (.int .i64 q.1), .c (.int .i64 q.2), .c (.int .i64 q.3), .c (SVal.fn (Fn.func 31) [.ptr 3 0] []), .c (.int .u32 (0 : Int)), .c (.int .u32 (0 : Int)), .c (.int .i64 (0 : Int)), .c (.int .i64 (imax q.4 (0 : Int))), .c (.int .i64 (0 : Int)), .c .snil, .c .snil] 78])))

 (.ret (.exit 0, [.sli 1 (.c 0) 1 (.v q.5.length) (some (.v q.6)), .ptr 2 0, .int .i64 (wordsP q.2 q.3).fst, .int .i64 (wordsP q.2 q.3).snd, .int .i64 (wordsP q.2 q.3).fst, .int .i64 (wordsP q.2 q.3).snd, .pnil, .int .i64 g, .ptr 3 0, .int .i64 h, .int .i64 want, .int .i64 (↑i : Int)], [.ro encLook [PUnit.unit], .ro encStr q.5, .own [.c (.int .i64 q.1), .c (.int .i64 q.2), .c (.int .i64 q.3), .c (.int .i64 q.4)] 23, .own [.c (.int .i64 q.1), .c (.int .i64 q.2), .c (.int .i64 q.3), .c (SVal.fn (Fn.func 31) [.ptr 3 0] []), .c (.int .u32 (0 : Int)), .c (.int .u32 (0 : Int)), .c (.int .i64 (0 : Int)), .c (.int .i64 (imax q.4 (0 : Int))), .c (.int .i64 (0 : Int)), .c .snil, .c .snil] 78]))) := by kernel_rfl
set_option maxRecDepth 100000 in
theorem l1_bb {q : InK} {g h want : Int} {i : Nat} : (exec cfgM 100 bb3 (fr 142 n3b ((vK q g h .pnil (.ptr 3 0) want) ++ [.int .i64 (i : Nat)])) (x1 q)).bind (canonK 4 [(0,0)] 142 n3b) =
 

 (.need (decide ((0 : Int) ≤ (↑i : Int)) && decide ((↑i : Int).toNat < q.5.length))

 (.need (decide ((↑i : Int).toNat < q.5.length))

 (.br (decide ((↑(q.5.getD (↑i : Int).toNat { data := { toList := [] } }).size : Int) < (1 : Int)))

 (.ret (.normal, [.sli 1 (.c 0) 1 (.v q.5.length) (some (.v q.6)), .ptr 2 0, .int .i64 (wordsP q.2 q.3).fst, .int .i64 (wordsP q.2 q.3).snd, .int .i64 (wordsP q.2 q.3).fst, .int .i64 (wordsP q.2 q.3).snd, .pnil, .int .i64 g, .ptr 3 0, .int .i64 h, .lit .i64 (121 : Int), .int .i64 (↑i : Int)], [.ro encLook [PUnit.unit], .ro encStr q.5, .own [.c (.int .i64 q.1), .c (.int .i64 q.2), .c (.int .i64 q.3), .c (.int .i64 q.4)] 23, .own [.c (.int .i64 q.1), .c (.int .i64 q.2), .c (.int .i64 q.3), .c (SVal.fn (Fn.func 31) [.ptr 3 0] []), .c (.int .u32 (0 : Int)), .c (.int .u32 (0 : Int)), .c (.int .i64 (0 : Int)), .c (.int .i64 (imax q.4 (0 : Int))), .c (.int .i64 (0 : Int)), .c .snil, .c .snil] 78]))

 (.need (decide ((0 : Int) ≤ (↑i : Int)) && decide ((↑i : Int).toNat < q.5.length))

 (.need (decide ((↑i : Int).toNat < q.5.length))

 (.br (decide (q.3 < (↑(q.5.getD (↑i : Int).toNat { data := { toList := [] } }).size : Int)))

 (.ret (.normal, [.sli 1 (.c 0) 1 (.v q.5.length) (some (.v q.6)), .ptr 2 0, .int .i64 (wordsP q.2 q.3).fst, .int .i64 (wordsP q.2 q.3).snd, .int .i64 (wordsP q.2 q.3).fst, .int .i64 (wordsP q.2 q.3).snd, .pnil, .int .i64 g, .ptr 3 0, .int .i64 h, .lit .i64 (121 : Int), .int .i64 (↑i : Int)], [.ro encLook [PUnit.unit], .ro encStr q.5, .own [.c (.int .i64 q.1), .c (.int .i64 q.2), .c (.int .i64 q.3), .c (.int .i64 q.4)] 23, .own [.c (.int .i64 q.1), .c (.int .i64 q.2), .c (.int .i64 q.3), .c (SVal.fn (Fn.func 31) [.ptr 3 0] []), .c (.int .u32 (0 : Int)), .c (.int .u32 (0 : Int)), .c (.int .i64 (0 : Int)), .c (.int .i64 (imax q.4 (0 : Int))), .c (.int .i64 (0 : Int)), .c .snil, .c .snil] 78]))

 (.ret (.normal, [.sli 1 (.c 0) 1 (.v q.5.length) (some (.v q.6)), .ptr 2 0, .int .i64 (wordsP q.2 q.3).fst, .int .i64 (wordsP q.2 q.3).snd, .int .i64 (wordsP q.2 q.3).fst, .int .i64 (wordsP q.2 q.3).snd, .pnil, .int .i64 g, .ptr 3 0, .int .i64 h, .int .i64 want, .int .i64 (↑i : Int)], [.ro encLook [PUnit.unit], .ro encStr q.5, .own [.c (.int .i64 q.1), .c (.int .i64 q.2), .c (.int .i64 q.3), .c (.int .i64 q.4)] 23, .own [.c (.int .i64 q.1), .c (.int .i64 q.2), .c (.int .i64 q.3), .c (SVal.fn (Fn.func 31) [.ptr 3 0] []), .c (.int .u32 (0 : Int)), .c (.int .u32 (0 : Int)), .c (.int .i64 (0 : Int)), .c (.int .i64 (imax q.4 (0 : Int))), .c (.int .i64 (0 : Int)), .c .snil, .c .snil] 78])))))))) := by kernel_rfl
set_option maxRecDepth 100000 in
theorem l1_inc {q : InK} {g h want : Int} {i : Nat} : (exec cfgM 100 inc3 (fr 142 n3b ((vK q g h .pnil (.ptr 3 0) want) ++ [.int .i64 (i : Nat)])) (x1 q)).bind (canonK 4 [(0,0)] 142 n3b) =
 

 (.need (inR .i64 ((↑i : Int) + (1 : Int)))

 (.ret (.normal, [.sli 1 (.c 0) 1 (.v q.5.length) (some (.v q.6)), .ptr 2 0, .int .i64 (wordsP q.2 q.3).fst, .int .i64 (wordsP q.2 q.3).snd, .int .i64 (wordsP q.2 q.3).fst, .int .i64 (wordsP q.2 q.3).snd, .pnil, .int .i64 g, .ptr 3 0, .int .i64 h, .int .i64 want, .int .i64 ((↑i : Int) + (1 : Int))], [.ro encLook [PUnit.unit], .ro encStr q.5, .own [.c (.int .i64 q.1), .c (.int .i64 q.2), .c (.int .i64 q.3), .c (.int .i64 q.4)] 23, .own [.c (.int .i64 q.1), .c (.int .i64 q.2), .c (.int .i64 q.3), .c (SVal.fn (Fn.func 31) [.ptr 3 0] []), .c (.int .u32 (0 : Int)), .c (.int .u32 (0 : Int)), .c (.int .i64 (0 : Int)), .c (.int .i64 (imax q.4 (0 : Int))), .c (.int .i64 (0 : Int)), .c .snil, .c .snil] 78]))) := by kernel_rfl
set_option maxRecDepth 100000 in
theorem l1_end {q : InK} {g h want : Int} {i : Nat} : (exec cfg 100 end3 (fr 142 n3b ((vK q g h .pnil (.ptr 3 0) want) ++ [.int .i64 (i : Nat)])) (x1 q)).bind (canonK 4 [(0,0)] 142 [4]) =
 

 (.eq (some [Blk.ro encLook [PUnit.unit]] = some [Blk.ro encLook [PUnit.unit]])

 (.br ((wordsP q.2 q.3).fst == (wordsP q.2 q.3).fst)

 (.br ((wordsP q.2 q.3).snd == (wordsP q.2 q.3).snd)

 (.br (g == want)

 (.br (h == (wordsP q.2 q.3).snd)

 (.br (true == (g != (0 : Int)))

 (.br (false == (h != (0 : Int)))

 (.need (true)

 (.ret (.ret, [.bl true], [.ro encLook [PUnit.unit], .ro encStr q.5, .own [.c (.int .i64 q.1), .c (.int .i64 q.2), .c (.int .i64 q.3), .c (.int .i64 q.4)] 23, .own [.c (.int .i64 q.1), .c (.int .i64 q.2), .c (.int .i64 q.3), .c (SVal.fn (Fn.func 31) [.ptr 3 0] []), .c (.int .u32 (0 : Int)), .c (.int .u32 (0 : Int)), .c (.int .i64 (0 : Int)), .c (.int .i64 (imax q.4 (0 : Int))), .c (.int .i64 (0 : Int)), .c .snil, .c .snil] 78])))

 (.ret (.ret, [.bl false], [.ro encLook [PUnit.unit], .ro encStr q.5, .own [.c (.int .i64 q.1), .c (.int .i64 q.2), .c (.int .i64 q.3), .c (.int .i64 q.4)] 23, .own [.c (.int .i64 q.1), .c (.int .i64 q.2), .c (.int .i64 q.3), .c (SVal.fn (Fn.func 31) [.ptr 3 0] []), .c (.int .u32 (0 : Int)), .c (.int .u32 (0 : Int)), .c (.int .i64 (0 : Int)), .c (.int .i64 (imax q.4 (0 : Int))), .c (.int .i64 (0 : Int)), .c .snil, .c .snil] 78])))

 (.ret (.ret, [.bl false], [.ro encLook [PUnit.unit], .ro encStr q.5, .own [.c (.int .i64 q.1), .c (.int .i64 q.2), .c (.int .i64 q.3), .c (.int .i64 q.4)] 23, .own [.c (.int .i64 q.1), .c (.int .i64 q.2), .c (.int .i64 q.3), .c (SVal.fn (Fn.func 31) [.ptr 3 0] []), .c (.int .u32 (0 : Int)), .c (.int .u32 (0 : Int)), .c (.int .i64 (0 : Int)), .c (.int .i64 (imax q.4 (0 : Int))), .c (.int .i64 (0 : Int)), .c .snil, .c .snil] 78])))

 (.ret (.ret, [.bl false], [.ro encLook [PUnit.unit], .ro encStr q.5, .own [.c (.int .i64 q.1), .c (.int .i64 q.2), .c (.int .i64 q.3), .c (.int .i64 q.4)] 23, .own [.c (.int .i64 q.1), .c (.int .i64 q.2), .c (.int .i64 q.3), .c (SVal.fn (Fn.func 31) [.ptr 3 0] []), .c (.int .u32 (0 : Int)), .c (.int .u32 (0 : Int)), .c (.int .i64 (0 : Int)), .c (.int .i64 (imax q.4 (0 : Int))), .c (.int .i64 (0 : Int)), .c .snil, .c .snil] 78])))

 (.ret (.ret, [.bl false], [.ro encLook [PUnit.unit], .ro encStr q.5, .own [.c (.int .i64 q.1), .c (.int .i64 q.2), .c (.int .i64 q.3), .c (.int .i64 q.4)] 23, .own [.c (.int .i64 q.1), .c (.int .i64 q.2), .c (.int .i64 q.3), .c (SVal.fn (Fn.func 31) [.ptr 3 0] []), .c (.int .u32 (0 : Int)), .c (.int .u32 (0 : Int)), .c (.int .i64 (0 : Int)), .c (.int .i64 (imax q.4 (0 : Int))), .c (.int .i64 (0 : Int)), .c .snil, .c .snil] 78])))

 (.ret (.ret, [.bl false], [.ro encLook [PUnit.unit], .ro encStr q.5, .own [.c (.int .i64 q.1), .c (.int .i64 q.2), .c (.int .i64 q.3), .c (.int .i64 q.4)] 23, .own [.c (.int .i64 q.1), .c (.int .i64 q.2), .c (.int .i64 q.3), .c (SVal.fn (Fn.func 31) [.ptr 3 0] []), .c (.int .u32 (0 : Int)), .c (.int .u32 (0 : Int)), .c (.int .i64 (0 : Int)), .c (.int .i64 (imax q.4 (0 : Int))), .c (.int .i64 (0 : Int)), .c .snil, .c .snil] 78])))

 (.ret (.ret, [.bl false], [.ro encLook [PUnit.unit], .ro encStr q.5, .own [.c (.int .i64 q.1), .c (.int .i64 q.2), .c (.int .i64 q.3), .c (.int .i64 q.4)] 23, .own [.c (.int .i64 q.1), .c (.int .i64 q.2), .c (.int .i64 q.3), .c (SVal.fn (Fn.func 31) [.ptr 3 0] []), .c (.int .u32 (0 : Int)), .c (.int .u32 (0 : Int)), .c (.int .i64 (0 : Int)), .c (.int .i64 (imax q.4 (0 : Int))), .c (.int .i64 (0 : Int)), .c .snil, .c .snil] 78])))) := by kernel_rfl
set_option maxRecDepth 100000 in
theorem l2_reg {q : InK} {g h want : Int} : (exec cfgM 100 reg3 (fr 142 n3a (vK q g h (.ptr 3 0) (.ptr 5 0) want)) (x2 q)).bind (canonK 6 [(0,0)] 142 n3b) =
 

 (.ret (.normal, [.sli 1 (.c 0) 1 (.v q.5.length) (some (.v q.6)), .ptr 2 0, .int .i64 (wordsP q.2 q.3).fst, .int .i64 (wordsP q.2 q.3).snd, .int .i64 (wordsP q.2 q.3).fst, .int .i64 (wordsP q.2 q.3).snd, .ptr 3 0, .int .i64 g, .ptr 5 0, .int .i64 h, .int .i64 want, .lit .i64 (0 : Int)], [.ro encLook [PUnit.unit], .ro encStr q.5, .own [.c (.int .i64 q.1), .c (.int .i64 q.2), .c (.int .i64 q.3), .c (.int .i64 q.4)] 23, .own [.c (.int .i64 q.1), .c (.int .i64 q.2), .c (.int .i64 q.3), .c (SVal.fn (Fn.func 30) [.ptr 3 0] []), .c (.int .u32 (0 : Int)), .c (.int .u32 (0 : Int)), .c (.int .i64 (0 : Int)), .c (.sli 4 (.c 0) 1 (.v q.5.length) none), .c .snil] 76, .vec encStr q.5 9, .own [.c (.int .i64 q.1), .c (.int .i64 q.2), .c (.int .i64 q.3), .c (SVal.fn (Fn.func 31) [.ptr 5 0] []), .c (.int .u32 (0 : Int)), .c (.int .u32 (0 : Int)), .c (.int .i64 (0 : Int)), .c (.int .i64 (imax q.4 (0 : Int))), .c (.int .i64 (0 : Int)), .c .snil, .c .snil] 78])) := by kernel_rfl
set_option maxRecDepth 100000 in
theorem l2_tm {q : InK} {g h want : Int} {i : Nat} : (exec cfgM 100 tm3 (fr 142 n3b ((vK q g h (.ptr 3 0) (.ptr 5 0) want) ++ [.int .i64 (i : Nat)])) (x2 q)).bind (canonK 6 [(0,0)] 142 n3b) =
 

 (.br (decide ((↑i : Int) < (↑q.5.length : Int)))

 (.br (want == (0 : Int))

 (.ret (.normal, [.sli 1 (.c 0) 1 (.v q.5.length) (some (.v q.6)), .ptr 2 0, .int .i64 (wordsP q.2 q.3).fst, .int .i64 (wordsP q.2 q.3).snd, .int .i64 (wordsP q.2 q.3).fst, .int .i64 (wordsP q.2 q.3).snd, .ptr 3 0, .int .i64 g, .ptr 5 0, .int .i64 h, .int .i64 want, .int .i64 (↑i : Int)], [.ro encLook [PUnit.unit], .ro encStr q.5, .own [.c (.int .i64 q.1), .c (.int .i64 q.2), .c (.int .i64 q.3), .c (.int .i64 q.4)] 23, .own [.c (.int .i64 q.1), .c (.int .i64 q.2), .c (.int .i64 q.3), .c (SVal.fn (Fn.func 30) [.ptr 3 0] []), .c (.int .u32 (0 : Int)), .c (.int .u32 (0 : Int)), .c (.int .i64 (0 : Int)), .c (.sli 4 (.c 0) 1 (.v q.5.length) none), .c .snil] 76, .vec encStr q.5 9, .own [.c (.int .i64 q.1), .c (.int .i64 q.2), .c (.int .i64 q.3), .c (SVal.fn (Fn.func 31) [.ptr 5 0] []), .c (.int .u32 (0 : Int)), .c (.int .u32 (0 : Int)), .c (.int .i64 (0 : Int)), .c (.int .i64 (imax q.4 (0 : Int))), .c (.int .i64 (0 : Int)), .c .snil, .c .snil] 78]))

 (.ret (.exit 0, [.sli 1 (.c 0) 1 (.v q.5.length) (some (.v q.6)), .ptr 2 0, .int .i64 (wordsP q.2 q.3).fst, .int .i64 (wordsP q.2 q.3).snd, .int .i64 (wordsP q.2 q.3).fst, .int .i64 (wordsP q.2 q.3).snd, .ptr 3 0, .int .i64 g, .ptr 5 0, .int .i64 h, .int .i64 want, .int .i64 (↑i : Int)], [.ro encLook [PUnit.unit], .ro encStr q.5, .own [.c (.int .i64 q.1), .c (.int .i64 q.2), .c (.int .i64 q.3), .c (.int .i64 q.4)] 23, .own [.c (.int .i64 q.1), .c (.int .i64 q.2), .c (.int .i64 q.3), .c (SVal.fn (Fn.func 30) [.ptr 3 0] []), .c (.int .u32 (0 : Int)), .c (.int .u32 (0 : Int)), .c (.int .i64 (0 : Int)), .c (.sli 4 (.c 0) 1 (.v q.5.length) none), .c .snil] 76, .vec encStr q.5 9, .own [.c (.int .i64 q.1), .c (.int .i64 q.2), .c (.int .i64 q.3), .c (SVal.fn (Fn.func 31) [.ptr 5 0] []), .c (.int .u32 (0 : Int)), .c (.int .u32 (0 : Int)), .c (.int .i64 (0 : Int)), .c (.int .i64 (imax q.4 (0 : Int))), .c (.int .i64 (0 : Int)), .c .snil, .c .snil] 78])))

 (.ret (.exit 0, [.sli 1 (.c 0) 1 (.v q.5.length) (some (.v q.6)), .ptr 2 0, .int .i64 (wordsP q.2 q.3).fst, .int .i64 (wordsP q.2 q.3).snd, .int .i64 (wordsP q.2 q.3).fst, .int .i64 (wordsP q.2 q.3).snd, .ptr 3 0, .int .i64 g, .ptr 5 0, .int .i64 h, .int .i64 want, .int .i64 (↑i : Int)], [.ro encLook [PUnit.unit], .ro encStr q.5, .own [.c (.int .i64 q.1), .c (.int .i64 q.2), .c (.int .i64 q.3), .c (.int .i64 q.4)] 23, .own [.c (.int .i64 q.1), .c (.int .i64 q.2), .c (.int .i64 q.3), .c (SVal.fn (Fn.func 30) [.ptr 3 0] []), .c (.int .u32 (0 : Int)), .c (.int .u32 (0 : Int)), .c (.int .i64 (0 : Int)), .c (.sli 4 (.c 0) 1 (.v q.5.length) none), .c .snil] 76, .vec encStr q.5 9, .own [.c (.int .i64 q.1), .c (.int .i64 q.2), .c (.int .i64 q.3), .c (SVal.fn (Fn.func 31) [.ptr 5 0] []), .c (.int .u32 (0 : Int)), .c (.int .u32 (0 : Int)), .c (.int .i64 (0 : Int)), .c (.int .i64 (imax q.4 (0 : Int))), .c (.int .i64 (0 : Int)), .c .snil, .c .snil] 78]))) := by kernel_rfl
set_option maxRecDepth 100000 in
theorem l2_bb {q : InK} {g h want : Int} {i : Nat} : (exec cfgM 100 bb3 (fr 142 n3b ((vK q g h (.ptr 3 0) (.ptr 5 0) want) ++ [.int .i64 (i : Nat)])) (x2 q)).bind (canonK 6 [(0,0)] 142 n3b) =
 

 (.need (decide ((0 : Int) ≤ (↑i : Int)) && decide ((↑i : Int).toNat < q.5.length))

 (.need (decide ((↑i : Int).toNat < q.5.length))

 (.br (decide ((↑(q.5.getD (↑i : Int).toNat { data := { toList := [] } }).size : Int) < (1 : Int)))

 (.ret (.normal, [.sli 1 (.c 0) 1 (.v q.5.length) (some (.v q.6)), .ptr 2 0, .int .i64 (wordsP q.2 q.3).fst, .int .i64 (wordsP q.2 q.3).snd, .int .i64 (wordsP q.2 q.3).fst, .int .i64 (wordsP q.2 q.3).snd, .ptr 3 0, .int .i64 g, .ptr 5 0, .int .i64 h, .lit .i64 (121 : Int), .int .i64 (↑i : Int)], [.ro encLook [PUnit.unit], .ro encStr q.5, .own [.c (.int .i64 q.1), .c (.int .i64 q.2), .c (.int .i64 q.3), .c (.int .i64 q.4)] 23, .own [.c (.int .i64 q.1), .c (.int .i64 q.2), .c (.int .i64 q.3), .c (SVal.fn (Fn.func 30) [.ptr 3 0] []), .c (.int .u32 (0 : Int)), .c (.int .u32 (0 : Int)), .c (.int .i64 (0 : Int)), .c (.sli 4 (.c 0) 1 (.v q.5.length) none), .c .snil] 76, .vec encStr q.5 9, .own [.c (.int .i64 q.1), .c (.int .i64 q.2), .c (.int .i64 q.3), .c (SVal.fn (Fn.func 31) [.ptr 5 0] []), .c (.int .u32 (0 : Int)), .c (.int .u32 (0 : Int)), .c (.int .i64 (0 : Int)), .c (.int .i64 (imax q.4 (0 : Int))), .c (.int .i64 (0 : Int)), .c .snil, .c .snil] 78]))

 (.need (decide ((0 : Int) ≤ (↑i : Int)) && decide ((↑i : Int).toNat < q.5.length))

 (.need (decide ((↑i : Int).toNat < q.5.length))

 (.br (decide (q.3 < (↑(q.5.getD (↑i : Int).toNat { data := { toList := [] } }).size : Int)))

 (.ret (.normal, [.sli 1 (.c 0) 1 (.v q.5.length) (some (.v q.6)), .ptr 2 0, .int .i64 (wordsP q.2 q.3).fst, .int .i64 (wordsP q.2 q.3).snd, .int .i64 (wordsP q.2 q.3).fst, .int .i64 (wordsP q.2 q.3).snd, .ptr 3 0, .int .i64 g, .ptr 5 0, .int .i64 h, .lit .i64 (121 : Int), .int .i64 (↑i : Int)], [.ro encLook [PUnit.unit], .ro encStr q.5, .own [.c (.int .i64 q.1), .c (.int .i64 q.2), .c (.int .i64 q.3), .c (.int .i64 q.4)] 23, .own [.c (.int .i64 q.1), .c (.int .i64 q.2), .c (.int .i64 q.3), .c (SVal.fn (Fn.func 30) [.ptr 3 0] []), .c (.int .u32 (0 : Int)), .c (.int .u32 (0 : Int)), .c (.int .i64 (0 : Int)), .c (.sli 4 (.c 0) 1 (.v q.5.length) none), .c .snil] 76, .vec encStr q.5 9, .own [.c (.int .i64 q.1), .c (.int .i64 q.2), .c (.int .i64 q.3), .c (SVal.fn (Fn.func 31) [.ptr 5 0] []), .c (.int .u32 (0 : Int)), .c (.int .u32 (0 : Int)), .c (.int .i64 (0 : Int)), .c (.int .i64 (imax q.4 (0 : Int))), .c (.int .i64 (0 : Int)), .c .snil, .c .snil] 78]))

 (.ret (.normal, [.sli 1 (.c 0) 1 (.v q.5.length) (some (.v q.6)), .ptr 2 0, .int .i64 (wordsP q.2 q.3).fst, .int .i64 (wordsP q.2 q.3).snd, .int .i64 (wordsP q.2 q.3).fst, .int .i64 (wordsP q.2 q.3).snd, .ptr 3 0, .int .i64 g, .ptr 5 0, .int .i64 h, .int .i64 want, .int .i64 (↑i : Int)], [.ro encLook [PUnit.unit], .ro encStr q.5, .own [.c (.int .i64 q.1), .c (.int .i64 q.2), .c (.int .i64 q.3), .c (.int .i64 q.4)] 23, .own [.c (.int .i64 q.1), .c (.int .i64 q.2), .c (.int .i64 q.3), .c (SVal.fn (Fn.func 30) [.ptr 3 0] []), .c (.int .u32 (0 : Int)), .c (.int .u32 (0 : Int)), .c (.int .i64 (0 : Int)), .c (.sli 4 (.c 0) 1 (.v q.5.length) none), .c .snil] 76, .vec encStr q.5 9, .own [.c (.int .i64 q.1), .c (.int .i64 q.2), .c (.int .i64 q.3), .c (SVal.fn (Fn.func 31) [.ptr 5 0] []), .c (.int .u32 (0 : Int)), .c (.int .u32 (0 : Int)), .c (.int .i64 (0 : Int)), .c (.int .i64 (imax q.4 (0 : Int))), .c (.int .i64 (0 : Int)), .c .snil, .c .snil] 78])))))))) := by kernel_rfl
set_option maxRecDepth 100000 in
theorem l2_inc {q : InK} {g h want : Int} {i : Nat} : (exec cfgM 100 inc3 (fr 142 n3b ((vK q g h (.ptr 3 0) (.ptr 5 0) want) ++ [.int .i64 (i : Nat)])) (x2 q)).bind (canonK 6 [(0,0)] 142 n3b) =
 

 (.need (inR .i64 ((↑i : Int) + (1 : Int)))

 (.ret (.normal, [.sli 1 (.c 0) 1 (.v q.5.length) (some (.v q.6)), .ptr 2 0, .int .i64 (wordsP q.2 q.3).fst, .int .i64 (wordsP q.2 q.3).snd, .int .i64 (wordsP q.2 q.3).fst, .int .i64 (wordsP q.2 q.3).snd, .ptr 3 0, .int .i64 g, .ptr 5 0, .int .i64 h, .int .i64 want, .int .i64 ((↑i : Int) + (1 : Int))], [.ro encLook [PUnit.unit], .ro encStr q.5, .own [.c (.int .i64 q.1), .c (.int .i64 q.2), .c (.int .i64 q.3), .c (.int .i64 q.4)] 23, .own [.c (.int .i64 q.1), .c (.int .i64 q.2), .c (.int .i64 q.3), .c (SVal.fn (Fn.func 30) [.ptr 3 0] []), .c (.int .u32 (0 : Int)), .c (.int .u32 (0 : Int)), .c (.int .i64 (0 : Int)), .c (.sli 4 (.c 0) 1 (.v q.5.length) none), .c .snil] 76, .vec encStr q.5 9, .own [.c (.int .i64 q.1), .c (.int .i64 q.2), .c (.int .i64 q.3), .c (SVal.fn (Fn.func 31) [.ptr 5 0] []), .c (.int .u32 (0 : Int)), .c (.int .u32 (0 : Int)), .c (.int .i64 (0 : Int)), .c (.int .i64 (imax q.4 (0 : Int))), .c (.int .i64 (0 : Int)), .c .snil, .c .snil] 78]))) := by kernel_rfl
set_option maxRecDepth 100000 in
theorem l2_end {q : InK} {g h want : Int} {i : Nat} : (exec cfg 100 end3 (fr 142 n3b ((vK q g h (.ptr 3 0) (.ptr 5 0) want) ++ [.int .i64 (i : Nat)])) (x2 q)).bind (canonK 6 [(0,0)] 142 [4]) =
 

 (.eq (some [Blk.ro encLook [PUnit.unit]] = some [Blk.ro encLook [PUnit.unit]])

 (.br ((wordsP q.2 q.3).fst == (wordsP q.2 q.3).fst)

 (.br ((wordsP q.2 q.3).snd == (wordsP q.2 q.3).snd)

 (.br (g == want)

 (.br (h == (wordsP q.2 q.3).snd)

 (.br (false == (g != (0 : Int)))

 (.br (false == (h != (0 : Int)))

 (.need (true)

 (.need (true)

 (.need (true)

 (.need (true)

 (.ret (.ret, [.bl true], [.ro encLook [PUnit.unit], .ro encStr q.5, .own [.c (.int .i64 q.1), .c (.int .i64 q.2), .c (.int .i64 q.3), .c (.int .i64 q.4)] 23, .own [.c (.int .i64 q.1), .c (.int .i64 q.2), .c (.int .i64 q.3), .c (SVal.fn (Fn.func 30) [.ptr 3 0] []), .c (.int .u32 (0 : Int)), .c (.int .u32 (0 : Int)), .c (.int .i64 (0 : Int)), .c (.sli 4 (.c 0) 1 (.v q.5.length) none), .c .snil] 76, .vec encStr q.5 9, .own [.c (.int .i64 q.1), .c (.int .i64 q.2), .c (.int .i64 q.3), .c (SVal.fn (Fn.func 31) [.ptr 5 0] []), .c (.int .u32 (0 : Int)), .c (.int .u32 (0 : Int)), .c (.int .i64 (0 : Int)), .c (.int .i64 (imax q.4 (0 : Int))), .c (.int .i64 (0 : Int)), .c .snil, .c .snil] 78]))))))

 (.ret (.ret, [.bl false], [.ro encLook [PUnit.unit], .ro encStr q.5, .own [.c (.int .i64 q.1), .c (.int .i64 q.2), .c (.int .i64 q.3), .c (.int .i64 q.4)] 23, .own [.c (.int .i64 q.1), .c (.int .i64 q.2), .c (.int .i64 q.3), .c (SVal.fn (Fn.func 30) [.ptr 3 0] []), .c (.int .u32 (0 : Int)), .c (.int .u32 (0 : Int)), .c (.int .i64 (0 : Int)), .c (.sli 4 (.c 0) 1 (.v q.5.length) none), .c .snil] 76, .vec encStr q.5 9, .own [.c (.int .i64 q.1), .c (.int .i64 q.2), .c (.int .i64 q.3), .c (SVal.fn (Fn.func 31) [.ptr 5 0] []), .c (.int .u32 (0 : Int)), .c (.int .u32 (0 : Int)), .c (.int .i64 (0 : Int)), .c (.int .i64 (imax q.4 (0 : Int))), .c (.int .i64 (0 : Int)), .c .snil, .c .snil] 78])))

 (.ret (.ret, [.bl false], [.ro encLook [PUnit.unit], .ro encStr q.5, .own [.c (.int .i64 q.1), .c (.int .i64 q.2), .c (.int .i64 q.3), .c (.int .i64 q.4)] 23, .own [.c (.int .i64 q.1), .c (.int .i64 q.2), .c (.int .i64 q.3), .c (SVal.fn (Fn.func 30) [.ptr 3 0] []), .c (.int .u32 (0 : Int)), .c (.int .u32 (0 : Int)), .c (.int .i64 (0 : Int)), .c (.sli 4 (.c 0) 1 (.v q.5.length) none), .c .snil] 76, .vec encStr q.5 9, .own [.c (.int .i64 q.1), .c (.int .i64 q.2), .c (.int .i64 q.3), .c (SVal.fn (Fn.func 31) [.ptr 5 0] []), .c (.int .u32 (0 : Int)), .c (.int .u32 (0 : Int)), .c (.int .i64 (0 : Int)), .c (.int .i64 (imax q.4 (0 : Int))), .c (.int .i64 (0 : Int)), .c .snil, .c .snil] 78])))

 (.ret (.ret, [.bl false], [.ro encLook [PUnit.unit], .ro encStr q.5, .own [.c (.int .i64 q.1), .c (.int .i64 q.2), .c (.int .i64 q.3), .c (.int .i64 q.4)] 23, .own [.c (.int .i64 q.1), .c (.int .i64 q.2), .c (.int .i64 q.3), .c (SVal.fn (Fn.func 30) [.ptr 3 0] []), .c (.int .u32 (0 : Int)), .c (.int .u32 (0 : Int)), .c (.int .i64 (0 : Int)), .c (.sli 4 (.c 0) 1 (.v q.5.length) none), .c .snil] 76, .vec encStr q.5 9, .own [.c (.int .i64 q.1), .c (.int .i64 q.2), .c (.int .i64 q.3), .c (SVal.fn (Fn.func 31) [.ptr 5 0] []), .c (.int .u32 (0 : Int)), .c (.int .u32 (0 : Int)), .c (.int .i64 (0 : Int)), .c (.int .i64 (imax q.4 (0 : Int))), .c (.int .i64 (0 : Int)), .c .snil, .c .snil] 78])))

 (.ret (.ret, [.bl false], [.ro encLook [PUnit.unit], .ro encStr q.5, .own [.c (.int .i64 q.1), .c (.int .i64 q.2), .c (.int .i64 q.3), .c (.int .i64 q.4)] 23, .own [.c (.int .i64 q.1), .c (.int .i64 q.2), .c (.int .i64 q.3), .c (SVal.fn (Fn.func 30) [.ptr 3 0] []), .c (.int .u32 (0 : Int)), .c (.int .u32 (0 : Int)), .c (.int .i64 (0 : Int)), .c (.sli 4 (.c 0) 1 (.v q.5.length) none), .c .snil] 76, .vec encStr q.5 9, .own [.c (.int .i64 q.1), .c (.int .i64 q.2), .c (.int .i64 q.3), .c (SVal.fn (Fn.func 31) [.ptr 5 0] []), .c (.int .u32 (0 : Int)), .c (.int .u32 (0 : Int)), .c (.int .i64 (0 : Int)), .c (.int .i64 (imax q.4 (0 : Int))), .c (.int .i64 (0 : Int)), .c .snil, .c .snil] 78])))

 (.ret (.ret, [.bl false], [.ro encLook [PUnit.unit], .ro encStr q.5, .own [.c (.int .i64 q.1), .c (.int .i64 q.2), .c (.int .i64 q.3), .c (.int .i64 q.4)] 23, .own [.c (.int .i64 q.1), .c (.int .i64 q.2), .c (.int .i64 q.3), .c (SVal.fn (Fn.func 30) [.ptr 3 0] []), .c (.int .u32 (0 : Int)), .c (.int .u32 (0 : Int)), .c (.int .i64 (0 : Int)), .c (.sli 4 (.c 0) 1 (.v q.5.length) none), .c .snil] 76, .vec encStr q.5 9, .own [.c (.int .i64 q.1), .c (.int .i64 q.2), .c (.int .i64 q.3), .c (SVal.fn (Fn.func 31) [.ptr 5 0] []), .c (.int .u32 (0 : Int)), .c (.int .u32 (0 : Int)), .c (.int .i64 (0 : Int)), .c (.int .i64 (imax q.4 (0 : Int))), .c (.int .i64 (0 : Int)), .c .snil, .c .snil] 78])))

 (.ret (.ret, [.bl false], [.ro encLook [PUnit.unit], .ro encStr q.5, .own [.c (.int .i64 q.1), .c (.int .i64 q.2), .c (.int .i64 q.3), .c (.int .i64 q.4)] 23, .own [.c (.int .i64 q.1), .c (.int .i64 q.2), .c (.int .i64 q.3), .c (SVal.fn (Fn.func 30) [.ptr 3 0] []), .c (.int .u32 (0 : Int)), .c (.int .u32 (0 : Int)), .c (.int .i64 (0 : Int)), .c (.sli 4 (.c 0) 1 (.v q.5.length) none), .c .snil] 76, .vec encStr q.5 9, .own [.c (.int .i64 q.1), .c (.int .i64 q.2), .c (.int .i64 q.3), .c (SVal.fn (Fn.func 31) [.ptr 5 0] []), .c (.int .u32 (0 : Int)), .c (.int .u32 (0 : Int)), .c (.int .i64 (0 : Int)), .c (.int .i64 (imax q.4 (0 : Int))), .c (.int .i64 (0 : Int)), .c .snil, .c .snil] 78])))) := by kernel_rfl
end Go.Proofs.YtplbncncnjiahaaDoor

/- RingMakes: its call. -/
namespace Go.Proofs.YtplbncncnjiahaaDoor
open Go Go.Proofs.YtplbncncnjiahaaDoor.Sx
set_option linter.unusedVariables false
abbrev Q3 (w0 : From) : Exit → Act → World → Prop := bodyPost Tryd.prog Tryd.f3 (Said w0)
/-- what is wanted of the messages, so far -/
def wantI (s : Int) (l : List ByteArray) (i : Nat) (want : Int) : Prop := (want = 0 ∧ ∀ j, j < i → okS s (l.getD j nilS)) ∨ (want = 121 ∧ ¬ fits s l)
theorem want_all {s : Int} {l : List ByteArray} {i : Nat} {want : Int} (h : wantI s l i want) (hi : i = l.length ∨ want ≠ 0) : (fits s l → want = 0) ∧ (¬ fits s l → want = 121) := by
  rcases h with ⟨h1, h2⟩ | ⟨h1, h2⟩
  · refine ⟨fun _ => h1, fun hf => ?_⟩
    rcases hi with hi | hi
    · subst hi; exact absurd h2 hf
    · exact absurd h1 hi
  · exact ⟨fun hf => absurd hf h2, fun _ => h1⟩
theorem end3_0 {w0 : From} {q : InK} {g h want : Int} {i : Nat} (h1 : g = want) (h2 : h = (wordsP q.places q.size).2) (h3 : ¬ g = 0) (h4 : ¬ h = 0) {env : Env} {a : Act} {w : World} (hA : At [(0, 0)] w0 env (fr 142 n3b ((vK q g h .pnil .pnil want) ++ [.int .i64 (i : Nat)])) (x0 q) a w) : end3.wp Tryd.prog (Q3 w0) a w := by
  refine pieceT0 (c := cfg) cfg_ok [4] l0_end hA ?_
  refine all_eq rfl ?_
  refine all_brp (by rw [beq_iff_eq]) (fun _ => ?_) (fun hh => absurd rfl hh)
  refine all_brp (by rw [beq_iff_eq]) (fun _ => ?_) (fun hh => absurd rfl hh)
  refine all_brp (by rw [beq_iff_eq]) (fun _ => ?_) (fun hh => absurd h1 hh)
  refine all_brp (by rw [beq_iff_eq]) (fun _ => ?_) (fun hh => absurd h2 hh)
  have e1 : (g != 0) = true := by exact bne_iff_ne.2 h3
  have e2 : (h != 0) = true := by exact bne_iff_ne.2 h4
  rw [e1, e2]
  refine all_br (fun _ => ?_) (fun hh => by cases hh)
  refine all_br (fun _ => ?_) (fun hh => by cases hh)
  exact all_ret fun env' a' w' hA' => hA'.said (by kernel_rfl)
theorem c3_0 {w0 : From} {q : InK} {g h want : Int} (h1 : g = want) (h2 : h = (wordsP q.places q.size).2) (h3 : ¬ g = 0) (h4 : ¬ h = 0) {env : Env} {a : Act} {w : World} (hA : At [(0, 0)] w0 env (fr 142 n3a (vK q g h .pnil .pnil want)) (x0 q) a w) : c3.wp Tryd.prog (Q3 w0) a w := by
  refine wpS (by kernel_rfl) (wpS (by kernel_rfl) ?_)
  refine pieceT0 (c := cfgM) cfgM_ok n3b l0_reg hA (all_ret fun env2 a2 w2 hA2 => ?_)
  simp only [Ex.to, Exit.then]
  have hA3 := hA2.gvals ((vK q g h .pnil .pnil want) ++ [.int .i64 ((0 : Nat) : Int)]) rfl
  refine wpB 0 (by kernel_rfl) (wpL (by kernel_rfl) (fun (i : Nat) a' w' => ∃ env', At [(0, 0)] w0 env' (fr 142 n3b ((vK q g h .pnil .pnil want) ++ [SVal.int .i64 ((i : Nat) : Int)])) (x0 q) a' w') (fun (i : Nat) => 1 - i) (0 : Nat) ⟨env2, hA3⟩ ?_)
  rintro i a' w' ⟨env', hA⟩
  refine (show round3.wp _ _ _ _ from wpS (by kernel_rfl) ?_)
  refine pieceT0 (c := cfgM) cfgM_ok n3b l0_tm hA ?_
  have out : ∀ {env' : Env} {a' : Act} {w' : World}, At [(0, 0)] w0 env' (fr 142 n3b ((vK q g h .pnil .pnil want) ++ [SVal.int .i64 ((i : Nat) : Int)])) (x0 q) a' w' →
      (Exit.then (fun a' w' => ∃ k, (∃ env', At [(0, 0)] w0 env' (fr 142 n3b ((vK q g h .pnil .pnil want) ++ [SVal.int .i64 ((k : Nat) : Int)])) (x0 q) a' w') ∧ 1 - k < 1 - i) (Exit.inBlock 0 (Exit.then (end3.wp Tryd.prog (Q3 w0)) (Q3 w0)))) (.exit 0) a' w' := by
    intro env' a' w' h'
    simp only [Exit.then, Exit.inBlock, if_true]
    exact end3_0 h1 h2 h3 h4 h'
  refine all_br (fun _ => ?_) (fun _ => all_ret fun _ _ _ h => out h)
  refine all_brp (by rw [beq_iff_eq]) (fun hh => absurd (h1.trans hh) h3) (fun _ => all_ret fun _ _ _ h => out h)
theorem end3_1 {w0 : From} {q : InK} {g h want : Int} {i : Nat} (h1 : g = want) (h2 : h = (wordsP q.places q.size).2) (h3 : ¬ g = 0) (h4 : h = 0) {env : Env} {a : Act} {w : World} (hA : At [(0, 0)] w0 env (fr 142 n3b ((vK q g h .pnil (.ptr 3 0) want) ++ [.int .i64 (i : Nat)])) (x1 q) a w) : end3.wp Tryd.prog (Q3 w0) a w := by
  refine pieceT0 (c := cfg) cfg_ok [4] l1_end hA ?_
  refine all_eq rfl ?_
  refine all_brp (by rw [beq_iff_eq]) (fun _ => ?_) (fun hh => absurd rfl hh)
  refine all_brp (by rw [beq_iff_eq]) (fun _ => ?_) (fun hh => absurd rfl hh)
  refine all_brp (by rw [beq_iff_eq]) (fun _ => ?_) (fun hh => absurd h1 hh)
  refine all_brp (by rw [beq_iff_eq]) (fun _ => ?_) (fun hh => absurd h2 hh)
  have e1 : (g != 0) = true := by exact bne_iff_ne.2 h3
  have e2 : (h != 0) = false := by rw [h4]; rfl
  rw [e1, e2]
  refine all_br (fun _ => ?_) (fun hh => by cases hh)
  refine all_br (fun _ => ?_) (fun hh => by cases hh)
  refine all_need rfl fun _ => ?_
  exact all_ret fun env' a' w' hA' => hA'.said (by kernel_rfl)
def Inv1 (w0 : From) (q : InK) (g h : Int) (i : Nat) (a : Act) (w : World) : Prop :=
  i ≤ q.l.length ∧ ∃ want, wantI q.size q.l i want ∧ ∃ env, At [(0, 0)] w0 env (fr 142 n3b ((vK q g h .pnil (.ptr 3 0) want) ++ [SVal.int .i64 ((i : Nat) : Int)])) (x1 q) a w
abbrev R31 (w0 : From) (q : InK) (g h : Int) (i : Nat) : Exit → Act → World → Prop :=
  Exit.then (fun a' w' => ∃ k, Inv1 w0 q g h k a' w' ∧ q.l.length - k < q.l.length - i) (Exit.inBlock 0 (Exit.then (end3.wp Tryd.prog (Q3 w0)) (Q3 w0)))
set_option maxHeartbeats 1000000 in
theorem round3_1 {w0 : From} {q : InK} (hl : q.l.length ≤ 1000) {g h : Int} (hf : ¬ fits q.size q.l) (h1 : g = 121) (h2 : h = (wordsP q.places q.size).2) (h4 : h = 0) {i : Nat} {a : Act} {w : World} (hI : Inv1 w0 q g h i a w) : round3.wp Tryd.prog (R31 w0 q g h i) a w := by
  obtain ⟨hi, want, hw, env, hA⟩ := hI
  refine wpS (by kernel_rfl) ?_
  refine pieceT0 (c := cfgM) cfgM_ok n3b l1_tm hA ?_
  have out : (i = q.l.length ∨ want ≠ 0) → ∀ {env' : Env} {a' : Act} {w' : World}, At [(0, 0)] w0 env' (fr 142 n3b ((vK q g h .pnil (.ptr 3 0) want) ++ [SVal.int .i64 ((i : Nat) : Int)])) (x1 q) a' w' → R31 w0 q g h i (.exit 0) a' w' := by
    intro hx env' a' w' h'
    simp only [R31, Exit.then, Exit.inBlock, if_true]
    exact end3_1 (h1.trans ((want_all hw hx).2 hf).symm) h2 (by omega) h4 h'
  refine all_brp (by simp only [decide_eq_true_eq] <;> exact Iff.rfl) (fun h6 => ?_) (fun h6 => all_ret fun _ _ _ h => out (.inl (by omega)) h)
  refine all_brp (by rw [beq_iff_eq]) (fun h7 => all_ret fun env1 a1 w1 hA1 => ?_) (fun h7 => all_ret fun _ _ _ h => out (.inr h7) h)
  simp only [Ex.to, Exit.then]
  have hi' : i < q.l.length := by omega
  refine (show (rgt round3).wp _ _ _ _ from wpS (by kernel_rfl) (wpB 1 (by kernel_rfl) ?_))
  refine (show bb3.wp _ _ _ _ from ?_)
  refine pieceT0 (c := cfgM) cfgM_ok n3b l1_bb hA1 ?_
  simp only [Int.toNat_natCast]
  have fin : ∀ {want' : Int}, wantI q.size q.l (i + 1) want' → ∀ {env' : Env} {a' : Act} {w' : World}, At [(0, 0)] w0 env' (fr 142 n3b ((vK q g h .pnil (.ptr 3 0) want') ++ [SVal.int .i64 ((i : Nat) : Int)])) (x1 q) a' w' →
      Exit.inBlock 1 (Exit.then (inc3.wp Tryd.prog (R31 w0 q g h i)) (R31 w0 q g h i)) .normal a' w' := by
    intro want' hw' env' a' w' h'
    simp only [Exit.inBlock, Exit.then]
    refine pieceT0 (c := cfgM) cfgM_ok n3b l1_inc h' ?_
    refine all_needp (by simp only [inR_i64]; exact Iff.rfl) (by omega) fun _ => all_ret fun env'' a'' w'' hA' => ?_
    exact ⟨i + 1, ⟨by omega, want', hw', env'', hA'⟩, by omega⟩
  have bad : ¬ okS q.size (q.l.getD i nilS) → wantI q.size q.l (i + 1) 121 := fun hb => .inr ⟨rfl, fun hf => hb (hf i hi')⟩
  have good : okS q.size (q.l.getD i nilS) → wantI q.size q.l (i + 1) want := by
    intro hk
    rcases hw with ⟨g1, g2⟩ | ⟨g1, g2⟩
    · refine .inl ⟨g1, fun j hj => ?_⟩
      by_cases hji : j = i
      · subst hji; exact hk
      · exact g2 j (by omega)
    · exact .inr ⟨g1, g2⟩
  refine all_needq (by simp only [decide_eq_true_eq, Bool.and_eq_true]; exact Iff.rfl) (by omega) ?_
  refine all_needq (by simp only [decide_eq_true_eq]; exact Iff.rfl) (by omega) ?_
  refine all_brp (by simp only [decide_eq_true_eq] <;> exact Iff.rfl) (fun h8 => all_ret fun _ _ _ h' => fin (bad fun hk => by have := hk.1; unfold nilS at this; omega) (h'.gvals _ rfl)) (fun h8 => ?_)
  refine all_needq (by simp only [decide_eq_true_eq, Bool.and_eq_true]; exact Iff.rfl) (by omega) ?_
  refine all_needq (by simp only [decide_eq_true_eq]; exact Iff.rfl) (by omega) ?_
  refine all_brp (by simp only [decide_eq_true_eq] <;> exact Iff.rfl) (fun h9 => all_ret fun _ _ _ h' => fin (bad fun hk => by have := hk.2; unfold nilS at this; omega) (h'.gvals _ rfl)) (fun h9 => ?_)
  exact all_ret fun _ _ _ h' => fin (good ⟨by unfold nilS; omega, by unfold nilS; omega⟩) (h'.gvals _ rfl)
theorem c3_1 {w0 : From} {q : InK} (hl : q.l.length ≤ 1000) {g h : Int} (hf : ¬ fits q.size q.l) (h1 : g = 121) (h2 : h = (wordsP q.places q.size).2) (h4 : h = 0) {want : Int} (hz : want = 0) {env : Env} {a : Act} {w : World} (hA : At [(0, 0)] w0 env (fr 142 n3a (vK q g h .pnil (.ptr 3 0) want)) (x1 q) a w) : c3.wp Tryd.prog (Q3 w0) a w := by
  refine wpS (by kernel_rfl) (wpS (by kernel_rfl) ?_)
  refine pieceT0 (c := cfgM) cfgM_ok n3b l1_reg hA (all_ret fun env2 a2 w2 hA2 => ?_)
  simp only [Ex.to, Exit.then]
  have hA3 := hA2.gvals ((vK q g h .pnil (.ptr 3 0) want) ++ [.int .i64 ((0 : Nat) : Int)]) rfl
  refine wpB 0 (by kernel_rfl) (wpL (by kernel_rfl) (Inv1 w0 q g h) (fun i => q.l.length - i) 0 ⟨Nat.zero_le _, want, .inl ⟨hz, fun j hj => by omega⟩, env2, hA3⟩ ?_)
  intro i a w h'
  exact round3_1 hl hf h1 h2 h4 h'
theorem end3_2 {w0 : From} {q : InK} {g h want : Int} {i : Nat} (h1 : g = want) (h2 : h = (wordsP q.places q.size).2) (h3 : g = 0) (h4 : h = 0) {env : Env} {a : Act} {w : World} (hA : At [(0, 0)] w0 env (fr 142 n3b ((vK q g h (.ptr 3 0) (.ptr 5 0) want) ++ [.int .i64 (i : Nat)])) (x2 q) a w) : end3.wp Tryd.prog (Q3 w0) a w := by
  refine pieceT0 (c := cfg) cfg_ok [4] l2_end hA ?_
  refine all_eq rfl ?_
  refine all_brp (by rw [beq_iff_eq]) (fun _ => ?_) (fun hh => absurd rfl hh)
  refine all_brp (by rw [beq_iff_eq]) (fun _ => ?_) (fun hh => absurd rfl hh)
  refine all_brp (by rw [beq_iff_eq]) (fun _ => ?_) (fun hh => absurd h1 hh)
  refine all_brp (by rw [beq_iff_eq]) (fun _ => ?_) (fun hh => absurd h2 hh)
  have e1 : (g != 0) = false := by rw [h3]; rfl
  have e2 : (h != 0) = false := by rw [h4]; rfl
  rw [e1, e2]
  refine all_br (fun _ => ?_) (fun hh => by cases hh)
  refine all_br (fun _ => ?_) (fun hh => by cases hh)
  refine all_need rfl fun _ => all_need rfl fun _ => all_need rfl fun _ => all_need rfl fun _ => ?_
  exact all_ret fun env' a' w' hA' => hA'.said (by kernel_rfl)
def Inv2 (w0 : From) (q : InK) (g h : Int) (i : Nat) (a : Act) (w : World) : Prop :=
  i ≤ q.l.length ∧ ∃ want, wantI q.size q.l i want ∧ ∃ env, At [(0, 0)] w0 env (fr 142 n3b ((vK q g h (.ptr 3 0) (.ptr 5 0) want) ++ [SVal.int .i64 ((i : Nat) : Int)])) (x2 q) a w
abbrev R32 (w0 : From) (q : InK) (g h : Int) (i : Nat) : Exit → Act → World → Prop :=
  Exit.then (fun a' w' => ∃ k, Inv2 w0 q g h k a' w' ∧ q.l.length - k < q.l.length - i) (Exit.inBlock 0 (Exit.then (end3.wp Tryd.prog (Q3 w0)) (Q3 w0)))
set_option maxHeartbeats 1000000 in
theorem round3_2 {w0 : From} {q : InK} (hl : q.l.length ≤ 1000) {g h : Int} (hf : fits q.size q.l) (h1 : g = 0) (h2 : h = (wordsP q.places q.size).2) (h4 : h = 0) {i : Nat} {a : Act} {w : World} (hI : Inv2 w0 q g h i a w) : round3.wp Tryd.prog (R32 w0 q g h i) a w := by
  obtain ⟨hi, want, hw, env, hA⟩ := hI
  refine wpS (by kernel_rfl) ?_
  refine pieceT0 (c := cfgM) cfgM_ok n3b l2_tm hA ?_
  have out : (i = q.l.length ∨ want ≠ 0) → ∀ {env' : Env} {a' : Act} {w' : World}, At [(0, 0)] w0 env' (fr 142 n3b ((vK q g h (.ptr 3 0) (.ptr 5 0) want) ++ [SVal.int .i64 ((i : Nat) : Int)])) (x2 q) a' w' → R32 w0 q g h i (.exit 0) a' w' := by
    intro hx env' a' w' h'
    simp only [R32, Exit.then, Exit.inBlock, if_true]
    exact end3_2 (h1.trans ((want_all hw hx).1 hf).symm) h2 h1 h4 h'
  refine all_brp (by simp only [decide_eq_true_eq] <;> exact Iff.rfl) (fun h6 => ?_) (fun h6 => all_ret fun _ _ _ h => out (.inl (by omega)) h)
  refine all_brp (by rw [beq_iff_eq]) (fun h7 => all_ret fun env1 a1 w1 hA1 => ?_) (fun h7 => all_ret fun _ _ _ h => out (.inr h7) h)
  simp only [Ex.to, Exit.then]
  have hi' : i < q.l.length := by omega
  refine (show (rgt round3).wp _ _ _ _ from wpS (by kernel_rfl) (wpB 1 (by kernel_rfl) ?_))
  refine (show bb3.wp _ _ _ _ from ?_)
  refine pieceT0 (c := cfgM) cfgM_ok n3b l2_bb hA1 ?_
  simp only [Int.toNat_natCast]
  have fin : ∀ {want' : Int}, wantI q.size q.l (i + 1) want' → ∀ {env' : Env} {a' : Act} {w' : World}, At [(0, 0)] w0 env' (fr 142 n3b ((vK q g h (.ptr 3 0) (.ptr 5 0) want') ++ [SVal.int .i64 ((i : Nat) : Int)])) (x2 q) a' w' →
      Exit.inBlock 1 (Exit.then (inc3.wp Tryd.prog (R32 w0 q g h i)) (R32 w0 q g h i)) .normal a' w' := by
    intro want' hw' env' a' w' h'
    simp only [Exit.inBlock, Exit.then]
    refine pieceT0 (c := cfgM) cfgM_ok n3b l2_inc h' ?_
    refine all_needp (by simp only [inR_i64]; exact Iff.rfl) (by omega) fun _ => all_ret fun env'' a'' w'' hA' => ?_
    exact ⟨i + 1, ⟨by omega, want', hw', env'', hA'⟩, by omega⟩
  have bad : ¬ okS q.size (q.l.getD i nilS) → wantI q.size q.l (i + 1) 121 := fun hb => .inr ⟨rfl, fun hf => hb (hf i hi')⟩
  have good : okS q.size (q.l.getD i nilS) → wantI q.size q.l (i + 1) want := by
    intro hk
    rcases hw with ⟨g1, g2⟩ | ⟨g1, g2⟩
    · refine .inl ⟨g1, fun j hj => ?_⟩
      by_cases hji : j = i
      · subst hji; exact hk
      · exact g2 j (by omega)
    · exact .inr ⟨g1, g2⟩
  refine all_needq (by simp only [decide_eq_true_eq, Bool.and_eq_true]; exact Iff.rfl) (by omega) ?_
  refine all_needq (by simp only [decide_eq_true_eq]; exact Iff.rfl) (by omega) ?_
  refine all_brp (by simp only [decide_eq_true_eq] <;> exact Iff.rfl) (fun h8 => all_ret fun _ _ _ h' => fin (bad fun hk => by have := hk.1; unfold nilS at this; omega) (h'.gvals _ rfl)) (fun h8 => ?_)
  refine all_needq (by simp only [decide_eq_true_eq, Bool.and_eq_true]; exact Iff.rfl) (by omega) ?_
  refine all_needq (by simp only [decide_eq_true_eq]; exact Iff.rfl) (by omega) ?_
  refine all_brp (by simp only [decide_eq_true_eq] <;> exact Iff.rfl) (fun h9 => all_ret fun _ _ _ h' => fin (bad fun hk => by have := hk.2; unfold nilS at this; omega) (h'.gvals _ rfl)) (fun h9 => ?_)
  exact all_ret fun _ _ _ h' => fin (good ⟨by unfold nilS; omega, by unfold nilS; omega⟩) (h'.gvals _ rfl)
theorem c3_2 {w0 : From} {q : InK} (hl : q.l.length ≤ 1000) {g h : Int} (hf : fits q.size q.l) (h1 : g = 0) (h2 : h = (wordsP q.places q.size).2) (h4 : h = 0) {want : Int} (hz : want = 0) {env : Env} {a : Act} {w : World} (hA : At [(0, 0)] w0 env (fr 142 n3a (vK q g h (.ptr 3 0) (.ptr 5 0) want)) (x2 q) a w) : c3.wp Tryd.prog (Q3 w0) a w := by
  refine wpS (by kernel_rfl) (wpS (by kernel_rfl) ?_)
  refine pieceT0 (c := cfgM) cfgM_ok n3b l2_reg hA (all_ret fun env2 a2 w2 hA2 => ?_)
  simp only [Ex.to, Exit.then]
  have hA3 := hA2.gvals ((vK q g h (.ptr 3 0) (.ptr 5 0) want) ++ [.int .i64 ((0 : Nat) : Int)]) rfl
  refine wpB 0 (by kernel_rfl) (wpL (by kernel_rfl) (Inv2 w0 q g h) (fun i => q.l.length - i) 0 ⟨Nat.zero_le _, want, .inl ⟨hz, fun j hj => by omega⟩, env2, hA3⟩ ?_)
  intro i a w h'
  exact round3_2 hl hf h1 h2 h4 h'
theorem noFootK {e0 e1 : Slot} {q : InK} (x : Nat) (h : inFoot [e0, e1] (sF q.l) x) : False := by
  obtain ⟨id, e, b, he, hb, hx⟩ := h
  match id with
  | 0 => simp at hb; subst hb; cases hx
  | 1 => simp at hb; subst hb; cases hx
  | n + 2 => simp at hb
theorem b3_eq : Tryd.f3.body = some b3 := by kernel_rfl
set_option maxHeartbeats 2000000 in
theorem ringMakes_call {q : InK} {e0 e1 : Slot} (he : e0.blk = 0 ∧ e0.off = 0) {w : World} {v0 v1 : Value} (hr : Rep [e0, e1] (sF q.l) w) (h0 : Den [e0, e1] (qK q) v0) (h1 : Den [e0, e1] (aF q.l q.cap) v1) :
    Calls Tryd.prog 3 ⟨[v0, v1]⟩ w (Said ⟨w, fun _ => False⟩) := by
  refine call_begin (c := cfgM) Tryd.func3 b3_eq (args := argK q) (by
    intro p hp
    rw [List.mem_singleton.1 hp]
    exact ⟨e0, rfl, he⟩) hr ⟨_, _, rfl, h0, _, _, rfl, h1, rfl⟩ (F := fun _ => False) (fun x h => noFootK x h) ?_
  intro a hA
  have htk : List.take q.l.length (List.drop 0 q.l) = q.l := by simp
  cases hf : fewP q.l with
  | false =>
    refine pieceNT0 (c := cfgK q false False .bad []) (cfgK_ok fun h => h.elim) 2 [4] k_few hA ?_
    refine all_eq ⟨by first | exact True.intro | rfl, by first | exact True.intro | rfl, hf⟩ ?_
    exact all_eq rfl (all_ret fun env' a' w' hA' => hA'.said (by kernel_rfl))
  | true =>
    have hl : q.l.length ≤ 20 := by
      unfold fewP at hf
      rw [Bool.and_eq_true, decide_eq_true_eq] at hf
      exact hf.1
    by_cases hw : (wordsP q.places q.size).2 = 0
    · by_cases hfit : fits q.size q.l
      · refine pieceNT0 (c := cfgK q true True (.tup [.ptr 5 0, .lit .i64 0]) (sL q ++ sndB 5 q.at' q.places q.size q.l)) (cfgK_ok fun _ => sendL_ok (by omega) hw hfit) 7 n3a k_good hA ?_
        simp only [htk]
        refine all_eq ⟨by first | exact True.intro | rfl, by first | exact True.intro | rfl, hf⟩ ?_
        refine all_eq trivial (all_eq trivial ?_)
        refine all_needq (by simp only [decide_eq_true_eq]; exact Iff.rfl) (by omega) ?_
        refine all_needq (by simp only [decide_eq_true_eq]; exact Iff.rfl) (by omega) ?_
        refine all_needq (by simp only [roomy_iff]; exact Iff.rfl) (by omega) ?_
        refine all_eq ⟨by first | exact True.intro | rfl, by first | exact True.intro | rfl, trivial⟩ ?_
        repeat' (first | refine all_eq trivial ?_ | refine all_eq rfl ?_)
        refine all_brp (by rw [bne_iff_ne]) (fun hh => absurd hw hh) (fun _ => all_ret fun env1 a1 w1 hA1 => ?_)
        simp only [Ex.to, Exit.then]
        have hA2 : At [(0, 0)] ⟨w, fun _ => False⟩ env1 (fr 142 n3a (vK q 0 0 (.ptr 3 0) (.ptr 5 0) (wordsP q.places q.size).2)) (x2 q) a1 w1 := (hA1.gvals (vK q 0 0 (.ptr 3 0) (.ptr 5 0) (wordsP q.places q.size).2) rfl).gen rfl
        exact (show c3.wp Tryd.prog (Q3 ⟨w, fun _ => False⟩) a1 w1 from c3_2 (by omega) hfit rfl hw.symm rfl hw hA2)
      · refine pieceNT0 (c := cfgK q true True (.tup [.pnil, .int .i64 121]) (sL q)) (cfgK_ok fun _ => sendL_bad (by omega) (sendR_no hw hfit)) 7 n3a k_bad hA ?_
        simp only [htk]
        refine all_eq ⟨by first | exact True.intro | rfl, by first | exact True.intro | rfl, hf⟩ ?_
        refine all_eq trivial (all_eq trivial ?_)
        refine all_needq (by simp only [decide_eq_true_eq]; exact Iff.rfl) (by omega) ?_
        refine all_needq (by simp only [decide_eq_true_eq]; exact Iff.rfl) (by omega) ?_
        refine all_needq (by simp only [roomy_iff]; exact Iff.rfl) (by omega) ?_
        refine all_eq ⟨by first | exact True.intro | rfl, by first | exact True.intro | rfl, trivial⟩ ?_
        repeat' (first | refine all_eq trivial ?_ | refine all_eq rfl ?_)
        refine all_brp (by rw [bne_iff_ne]) (fun hh => absurd hw hh) (fun _ => all_ret fun env1 a1 w1 hA1 => ?_)
        simp only [Ex.to, Exit.then]
        have hA2 : At [(0, 0)] ⟨w, fun _ => False⟩ env1 (fr 142 n3a (vK q 121 0 .pnil (.ptr 3 0) (wordsP q.places q.size).2)) (x1 q) a1 w1 := (hA1.gvals (vK q 121 0 .pnil (.ptr 3 0) (wordsP q.places q.size).2) rfl).gen rfl
        exact (show c3.wp Tryd.prog (Q3 ⟨w, fun _ => False⟩) a1 w1 from c3_1 (by omega) hfit rfl hw.symm rfl hw hA2)
    · refine pieceNT0 (c := cfgK q true True (.tup [.pnil, .int .i64 (wordsP q.places q.size).2]) (sL q)) (cfgK_ok fun _ => sendL_bad (by omega) (sendR_bad hw)) 7 n3a k_bad hA ?_
      simp only [htk]
      refine all_eq ⟨by first | exact True.intro | rfl, by first | exact True.intro | rfl, hf⟩ ?_
      refine all_eq trivial (all_eq trivial ?_)
      refine all_needq (by simp only [decide_eq_true_eq]; exact Iff.rfl) (by omega) ?_
      refine all_needq (by simp only [decide_eq_true_eq]; exact Iff.rfl) (by omega) ?_
      refine all_needq (by simp only [roomy_iff]; exact Iff.rfl) (by omega) ?_
      refine all_eq ⟨by first | exact True.intro | rfl, by first | exact True.intro | rfl, trivial⟩ ?_
      repeat' (first | refine all_eq trivial ?_ | refine all_eq rfl ?_)
      refine all_brp (by rw [bne_iff_ne]) (fun _ => all_ret fun env1 a1 w1 hA1 => ?_) (fun hh => by exfalso; exact hh hw)
      simp only [Ex.to, Exit.then]
      have hA2 : At [(0, 0)] ⟨w, fun _ => False⟩ env1 (fr 142 n3a (vK q (wordsP q.places q.size).2 (wordsP q.places q.size).2 .pnil .pnil (wordsP q.places q.size).2)) (x0 q) a1 w1 := hA1
      exact (show c3.wp Tryd.prog (Q3 ⟨w, fun _ => False⟩) a1 w1 from c3_0 rfl rfl hw hw hA2)
end Go.Proofs.YtplbncncnjiahaaDoor

/- Layer 12: the package's variable, and how a card is closed. -/
namespace Go.Proofs.YtplbncncnjiahaaDoor
open Go Go.Proofs.YtplbncncnjiahaaDoor.Sx Go.ChangeShapes Go.WideShapes Go.ChangeAt Go.RowKit
set_option linter.unusedVariables false
abbrev laid1 : List (String × DataW Unit) := [("purlin/mem.look", Rows.laid_purlin_mem_look)]
theorem Tryd.own : ownKnob Tryd.prog.godebug = none := by kernel_rfl
theorem Tryd.laidOut : laidOutB Tryd.prog = true := by kernel_rfl
theorem gLook : Tryd.prog.globalNamed "purlin/mem.look" = some 0 := by kernel_rfl
theorem tLook : (Tryd.prog.globals[0]?).map (·.type) = some 83 := by kernel_rfl
/-- the door's own heap meets the condition -/
theorem door_met (os : Os) (args : Array Value) : laidMetH Tryd.prog laid1 ((World.doorLaid Tryd.prog 400 os).forCall (fun _ _ => 0) ⟨#[], args, []⟩).memory :=
  laidMetH_of_parts3 (fuel := 8) (laidMet_of_run' 8 (by kernel_rfl) (by kernel_rfl)) (by kernel_rfl) (by kernel_rfl)
set_option maxRecDepth 100000 in
/-- what the condition gives -/
theorem of_laid {W : World} (h : laidMetH Tryd.prog laid1 W) : ∃ e : Slot, (e.blk = 0 ∧ e.off = 0) ∧ Rep [e] [lookB] W := by
  rw [MakeChecks.laidMetH_plain _ _ _ (by kernel_rfl)] at h
  obtain ⟨ps, ⟨g0, t0, cs0, f0, p0, q0, hg0, ht0, hv0, hd0, _, _⟩, _, _⟩ := h
  obtain rfl := Option.some.inj (gLook.symm.trans hg0)
  obtain rfl := Option.some.inj (tLook.symm.trans ht0)
  obtain ⟨xs, m, _, hx, hlen, hxl, hf⟩ := DataW.trod_struct Tryd.underlying83 hd0
  have hC : Tryd.prog.cellsOf 83 = 3 := by kernel_rfl
  have k40 : Tryd.prog.cellsOf 40 = 1 := by kernel_rfl
  rw [hC] at hlen
  obtain ⟨l⟩ := cs0
  simp only at hlen hf
  match l, hlen with
  | [c0, c1, c2], _ =>
    match xs, hxl, hx with
    | [y0, y1, y2], _, hx =>
      have f0 : DataW.trod _ Tryd.prog W 0 _ false m 40 (([c0, c1, c2].drop 0).take (Tryd.prog.cellsOf 40)) = some y0 := hf 0 _ rfl
      have f1 : DataW.trod _ Tryd.prog W 0 _ false m 40 (([c0, c1, c2].drop 1).take (Tryd.prog.cellsOf 40)) = some y1 := hf 1 _ rfl
      have f2 : DataW.trod _ Tryd.prog W 0 _ false m 40 (([c0, c1, c2].drop 2).take (Tryd.prog.cellsOf 40)) = some y2 := hf 2 _ rfl
      rw [k40] at f0 f1 f2
      obtain ⟨a0, h0, e0, _⟩ := DataW.trod_int Tryd.underlying40 f0
      obtain ⟨a1, h1, e1, _⟩ := DataW.trod_int Tryd.underlying40 f1
      obtain ⟨a2, h2, e2, _⟩ := DataW.trod_int Tryd.underlying40 f2
      simp at h0 h1 h2
      subst h0 h1 h2 e0 e1 e2
      simp [Rows.laid_purlin_mem_look] at hx
      obtain ⟨⟨rfl, rfl, rfl⟩, _⟩ := hx
      have hc := fun i => World.var?_cell hg0 hv0 i
      have hsz : 0 < W.heap.size := by
        have := hc 0
        simp only [World.cell?] at this
        rcases Nat.eq_zero_or_pos W.heap.size with h | h
        · rw [Array.getElem?_eq_none (by omega)] at this; simp at this
        · exact h
      refine ⟨⟨0, 0, 0, []⟩, ⟨rfl, rfl⟩, rfl, ?_, ?_, ?_⟩
      · intro id sl b he hb
        match id with
        | 0 =>
          simp only [List.getElem?_cons_zero, Option.some.injEq] at he hb
          subst he hb
          refine ⟨[.int .u32 4294967295, .int .u32 0, .int .u32 0], by simp [encLook, encOf, DenL, Den], fun i hi => ?_⟩
          have := hc i
          simpa using this
        | n + 1 => simp at he
      · intro i j e f b c hij he hf' hb' hc' x hx''
        match i, j with
        | 0, 0 => exact (hij rfl).elim
        | i + 1, _ => simp at he
        | 0, j + 1 => simp at hf'
      · intro id sl b he hb x hx
        match id with
        | 0 =>
          simp only [List.getElem?_cons_zero, Option.some.injEq] at he hb
          subst he hb
          simp [Blk.supp] at hx
          omega
        | n + 1 => simp at he
end Go.Proofs.YtplbncncnjiahaaDoor

/- RingMakes: its row and its card. -/
namespace Go.Proofs.YtplbncncnjiahaaDoor
open Go Go.Proofs.YtplbncncnjiahaaDoor.Sx Go.ChangeShapes Go.WideShapes Go.ChangeAt Go.RowKit
set_option linter.unusedVariables false
abbrev ringV (a p s t : Int) : Value := .agg #[.int .i64 a, .int .i64 p, .int .i64 s, .int .i64 t]
theorem den_ring {env : Env} (a p s t : Int) : Den env (.agg [.int .i64 a, .int .i64 p, .int .i64 s, .int .i64 t]) (ringV a p s t) := ⟨_, rfl, _, _, rfl, rfl, _, _, rfl, rfl, _, _, rfl, rfl, _, _, rfl, rfl, rfl⟩
theorem open_ring {H : Type} {enc : TypeId × Value → H} {W : World} {r : Reach} {b0 base : Nat} {spare : Nat → Bool} {held : Bool} {v : Value} {d : DataW H} {ps : List MemPlace} (hval : Value.okWide Tryd.prog W r b0 23 v) (hd : DataW.Trod enc Tryd.prog W base spare held 23 v d ps) :
    ∃ a p s t : Int, v = ringV a p s t := by
  have hv : ∃ cs, v = .agg cs := by
    simp only [Value.okWide, Tryd.underlying23] at hval
    obtain ⟨cs, e, _⟩ := hval
    exact ⟨cs, e⟩
  obtain ⟨cs, rfl⟩ := hv
  obtain ⟨fuel, h⟩ := hd
  obtain ⟨xs, m, _, _, hlen, hxl, hf⟩ := DataW.trod_struct Tryd.underlying23 h
  have hC : Tryd.prog.cellsOf 23 = 4 := by kernel_rfl
  rw [hC] at hlen
  obtain ⟨l⟩ := cs
  simp only [Value.cells] at hlen hf
  match l, hlen with
  | [c0, c1, c2, c3], _ =>
    match xs, hxl with
    | [y0, y1, y2, y3], _ =>
      have f0 : DataW.trod enc Tryd.prog W base spare held m 3 (([c0, c1, c2, c3].drop 0).take (Tryd.prog.cellsOf 3)) = some y0 := hf 0 _ rfl
      have f1 : DataW.trod enc Tryd.prog W base spare held m 3 (([c0, c1, c2, c3].drop 1).take (Tryd.prog.cellsOf 3)) = some y1 := hf 1 _ rfl
      have f2 : DataW.trod enc Tryd.prog W base spare held m 3 (([c0, c1, c2, c3].drop 2).take (Tryd.prog.cellsOf 3)) = some y2 := hf 2 _ rfl
      have f3 : DataW.trod enc Tryd.prog W base spare held m 3 (([c0, c1, c2, c3].drop 3).take (Tryd.prog.cellsOf 3)) = some y3 := hf 3 _ rfl
      have k0 : Tryd.prog.cellsOf 3 = 1 := by kernel_rfl
      rw [k0] at f0 f1 f2 f3
      obtain ⟨a, h0, _⟩ := DataW.trod_int Tryd.underlying3 f0
      obtain ⟨b, h1, _⟩ := DataW.trod_int Tryd.underlying3 f1
      obtain ⟨c, h2, _⟩ := DataW.trod_int Tryd.underlying3 f2
      obtain ⟨d, h3, _⟩ := DataW.trod_int Tryd.underlying3 f3
      simp at h0 h1 h2 h3
      subst h0 h1 h2 h3
      exact ⟨a, b, c, d, rfl⟩
theorem open_str {H : Type} {enc : TypeId × Value → H} {w : World} {base : Nat} {spare : Nat → Bool} {held : Bool} (n : Nat) (cs : List Value) (y : DataW H × List MemPlace) (h : DataW.trod enc Tryd.prog w base spare held n 9 cs = some y) :
    ∃ x : ByteArray, DenL [] (encStr.enc x) cs := by
  obtain ⟨s, h0, _⟩ := DataW.trod_string Tryd.underlying9 h
  subst h0
  exact ⟨s, by simp [encStr, DenL, Den]⟩
set_option maxRecDepth 100000 in
theorem ringMakes_lifted (os : Os) (started : os.Started) (H : Type) (enc : TypeId × Value → H) :
    ReturnsInHanded {} Tryd.checked os 3 .any (fun w args => (Rows.ringMakesSpec.pre enc Tryd.prog Tryd.f3 [] false w args ∧ laidMetH Tryd.prog laid1 w) ∧ sizedMet enc Tryd.prog Tryd.f3 (OpenSpec.ofChange Rows.ringMakesSpec) false w args)
      (Rows.ringMakesSpec.post enc Tryd.prog Tryd.f3 false true false false) := by
  refine returnsInHanded_of_change_and (C := Tryd.checked) (X := fun w _ => laidMetH Tryd.prog laid1 w) (fun _ _ _ hh h => h.of_heap hh) Tryd.own started (by kernel_rfl) Tryd.func3
    (ChangeSpec.witness_shaped (enc := enc) (C := Tryd.checked) (os := os) (X := fun w _ => laidMetH Tryd.prog laid1 w) false (World.doorLaid Tryd.prog 400 os) #[.agg #[.int .i64 0, .int .i64 0, .int .i64 0, .int .i64 0], .slice none 0 0] 8 rfl (World.shaped_of_RefB (by kernel_rfl) (by kernel_rfl)) (by kernel_rfl) (by kernel_rfl) (by kernel_rfl) (door_met os _)) ?_
  intro W base args ds gs before hval0 hW _ _ hL _
  have hval : ∀ (j : Nat) t v, Tryd.f3.params[j]? = some t → args[j]? = some v → Value.okWide Tryd.prog W .any base t v := hval0
  have hW' := hW
  obtain ⟨p, q, hA0, hV, rfl, hfz, hnd⟩ := hW
  have hA : DataW.TrodAll enc Tryd.prog W 0 (fun _ => true) true Tryd.f3.params.toList args.toList ds p := hA0
  rw [Tryd.params3] at hA hval
  obtain ⟨v0, v1, d0, d1, p0, p1, rfl, rfl, rfl, h0, h1⟩ := trodAll_two hA
  obtain ⟨rfl, rfl⟩ := trodVars_none hV
  obtain ⟨a, p, s, t, rfl⟩ := open_ring (hval 0 23 v0 rfl rfl) h0
  clear hA0 hval0
  have hlt0 : ∀ x ∈ p0, x.block < W.heap.size := fun x hx => by simpa using hW'.lt x (by simp [hx])
  have hlt1 : ∀ x ∈ p1, x.block < W.heap.size := fun x hx => by simpa using hW'.lt x (by simp [hx])
  obtain ⟨e0, he, hr0⟩ := of_laid hL
  have fin : ∀ e W', Said ⟨W, fun _ => False⟩ e W' → ∃ v, e = .returned v ∧ Rows.ringMakesSpec.post enc Tryd.prog Tryd.f3 false true false false W #[ringV a p s t, v1] v W' := by
    rintro e W' ⟨rfl, hsz, hk, hc⟩
    have hk' : ∀ x, x < W.heap.size → W'.heap[x]? = W.heap[x]? := fun x hx => hk x hx (fun h => h)
    refine ⟨_, rfl, _, _, _, [], _, [], hW', ⟨[], [], shut_bool Tryd.underlying4 true, rfl, rfl⟩, trodAll_mk2 (trod_same Tryd.laidOut (by kernel_rfl) (of_decide_eq_true (by kernel_rfl)) h0 hk' hlt0) (trod_same Tryd.laidOut (by kernel_rfl) (of_decide_eq_true (by kernel_rfl)) h1 hk' hlt1), rfl, keptBut_of _ hc hk', fun h => by cases h⟩
  obtain ⟨ys, cap, e1, hr1, hd1⟩ := open_sli encStr Tryd.underlying24 (by kernel_rfl) open_str rfl (hval 1 24 v1 rfl rfl) h1
  obtain ⟨hr, _⟩ := ro_add hr0 (by intro b hb e; rw [List.mem_singleton.1 hb]; rfl) rfl hr1
  have hv : Den ([e0] ++ [e1]) (aF ys cap) v1 := den_add (env := [e0]) (n := 1) hd1 rfl
  exact (ringMakes_call (q := ⟨a, p, s, t, ys, cap⟩) he hr (den_ring a p s t) hv).mono fun e W' h => fin e W' h
theorem ringMakes_row : Rows.RingMakesSaid :=
  OpenClaim.holds_of_wide 3 Tryd.f3 rfl rfl rfl rfl rfl rfl rfl ⟨rfl, rfl, rfl, rfl, rfl⟩ rfl rfl rfl rfl rfl (by kernel_rfl) Tryd.func3 (by kernel_rfl)
    (of_decide_eq_true (by kernel_rfl)) (by unfold Func.isWrapper; first | (rw [if_pos (by decide +kernel)]; kernel_rfl) | (rw [if_neg (by decide +kernel)]; exact ⟨rfl, rfl⟩))
    (fun os started H enc _ => ringMakes_lifted os started H enc)
theorem ringMakes_holds : Rows.RingMakesCardSaid :=
  Claim7.holds_tied_plain_at .later [] [.data] true _ _ ringMakes_row (fun _ h => by cases h) (by kernel_rfl) (fun _ h => by cases h) ringMakes_row_tie rfl ⟨rfl, rfl⟩ (by kernel_rfl) rfl
    (fun f fn hf hfn => by
      obtain rfl : f = 3 := Option.some.inj ((show Tryd.prog.funcNamed "purlin/purlinlaw12.RingMakes" = some 3 by kernel_rfl).symm.trans hf) |>.symm
      obtain rfl : fn = Tryd.f3 := (Option.some.inj (Tryd.func3.symm.trans hfn)).symm
      exact ⟨by kernel_rfl, fun j t ht => by
        rw [Tryd.params3] at ht
        have hm : t ∈ [23, 24] := by simpa using Array.mem_of_getElem? ht
        have hall : ([23, 24].all fun u => !Tryd.prog.wantsStandIn u) = true := by kernel_rfl
        exact (show Tryd.prog.wantsStandIn t = false by simpa using List.all_eq_true.1 hall t hm)⟩)
    (by kernel_rfl)
end Go.Proofs.YtplbncncnjiahaaDoor

