/- RingOrder holds for every input: what is received is what was sent, in order. -/
import Derived.Test.YtplbncncnjiahaaDoorRgc
/- RingOrder: pieces. -/
namespace Go.Proofs.YtplbncncnjiahaaDoor
open Go Go.Proofs.YtplbncncnjiahaaDoor.Sx
set_option linter.unusedVariables false
noncomputable def b5 : Code := Tryd.f5.body.getD .skip
noncomputable def c5 : Code := restC 3 b5
noncomputable def reg5 : Code := lft (lft c5)
noncomputable def blk5 : Code := rgt (lft c5)
noncomputable def round5 : Code := lft (lft blk5)
noncomputable def tm5 : Code := lft round5
noncomputable def bb5 : Code := lft (lft (rgt round5))
noncomputable def inc5 : Code := rgt (rgt round5)
noncomputable def d5 : Code := rgt c5
noncomputable def reg52 : Code := lft (lft d5)
noncomputable def blk52 : Code := rgt (lft d5)
noncomputable def round52 : Code := lft (lft blk52)
noncomputable def tm52 : Code := lft round52
noncomputable def inc52 : Code := rgt (rgt round52)
noncomputable def end5 : Code := rgt d5
abbrev vLw (n : Int) (L : List ByteArray) : List SVal := [.ptr 12 0, .ptr 2 0, .ptr 3 0, .ptr 6 0, .sli 9 (.c 0) 1 (.v L.length) none, .int .i64 n]
abbrev n5 : List Nat := [3, 7, 8, 9, 10, 11]
abbrev n5i : List Nat := [3, 7, 8, 9, 10, 11, 12]
abbrev n5o : List Nat := [3, 7, 8, 9, 10, 11, 12, 13, 14]
abbrev n5j : List Nat := [3, 7, 8, 9, 10, 11, 15]
abbrev n5e : List Nat := [3, 7, 8, 9, 10, 11, 16, 17]
abbrev vLi (n : Int) (L : List ByteArray) (i : Nat) : List SVal := vLw n L ++ [.int .i64 (i : Nat)]
abbrev vLo (n : Int) (L : List ByteArray) (i : Nat) (O I : List ByteArray) : List SVal := vLi n L i ++ [.sli 13 (.c 0) 1 (.v O.length) none, .sli 14 (.c 0) 1 (.v I.length) none]
abbrev vLe (n : Int) (L : List ByteArray) (O I : List ByteArray) : List SVal := vLw n L ++ [.sli 13 (.c 0) 1 (.v O.length) none, .sli 14 (.c 0) 1 (.v I.length) none]
/-- the making of it all, and awake -/
abbrev sB4 (q : InR) : St := sB q ++ [plB q 1 2]
noncomputable def cfgBo (q : InR) (p s : Int) (n : Int) (z : Int) (L : List ByteArray) (P : Prop) : Cfg := { P := Tryd.prog, ex := exI, gl := [(0, 0)], sm := fun f => match f with
  | 9 => some (smClosed [0] [lookB] (.bl true))
  | 25 => some (smEq [plV q 1 2, .int .u8 p, .int .u8 s] (sB4 q) P (madeV 4 n L) (sB4 q ++ madeS 4 n z L q.h))
  | _ => none }
theorem bothL {q : InR} {p s : Int} (hh : 0 ≤ q.h ∧ q.h < 4294967296) (hs : 0 ≤ s ∧ s ≤ 255) (env : Env) (w : World) (vs : List Value) (hg : GlOk cfgM.gl env) (hr : Rep env (sB4 q) w) (hd : DenL env [plV q 1 2, .int .u8 p, .int .u8 s] vs) :
    Calls cfgM.P 25 ⟨vs⟩ w (Ends1 env (sB4 q) w (madeV 4 (nR p) (lAll q (zR s))) (sB4 q ++ madeS 4 (nR p) (zR s) (lAll q (zR s)) q.h)) := by
  have h := both_call (q := q) (p := p) (s := s) hh hs
  generalize nR p = n at *
  generalize zR s = z at *
  generalize lAll q z = L at *
  exact frameNew (c := cfgM) (n := 9) h [plB q 1 2] rfl rfl (gl_lt (by simp)) (by kernel_rfl) (Sa := sB q) (Sb := madeS 4 n z L q.h) (s' := madeV 4 n L) (by kernel_rfl) (by kernel_rfl) rfl (roSame_refl _) (by
    intro b hb
    simp only [List.mem_cons, List.mem_append, List.not_mem_nil, or_false] at hb
    rcases hb with (((rfl | rfl) | rfl | rfl | rfl) | rfl | rfl | rfl) | rfl <;> rfl) rfl env w vs hg hr hd
theorem cfgBo_ok {q : InR} {p s : Int} (hh : 0 ≤ q.h ∧ q.h < 4294967296) (hs : 0 ≤ s ∧ s ≤ 255) : SmOk (cfgBo q p s (nR p) (zR s) (lAll q (zR s)) True) := by
  intro F G h
  simp only [cfgBo] at h
  split at h
  · simp only [Option.some.injEq] at h; subst h
    exact smClosedS_ok cfg0_ok awake_val ⟨rfl, rfl, rfl, rfl, rfl, rfl, rfl, rfl, rfl, rfl, trivial⟩ (by kernel_rfl) rfl rfl (by intro b hb e; rw [List.mem_singleton.1 hb]; rfl)
  · simp only [Option.some.injEq] at h; subst h
    exact smEq_ok (c := cfgBo q p s (nR p) (zR s) (lAll q (zR s)) True) fun h env w vs hg hr hd => bothL hh hs env w vs hg hr hd
  · cases h
end Go.Proofs.YtplbncncnjiahaaDoor

namespace Go.Proofs.YtplbncncnjiahaaDoor
open Go Go.Proofs.YtplbncncnjiahaaDoor.Sx
set_option linter.unusedVariables false
set_option maxRecDepth 100000 in
theorem o_pre {q : InR} {p s n z : Int} {L : List ByteArray} {P : Prop} : (execN (cfgBo q p s n z L P) 100 3 b5 ([plV q 1 2, .int .u8 p, .int .u8 s] ++ List.replicate 127 .bad) (sB q)).bind (canonK 4 [(0,0)] 130 n5) =
 

 (.eq ([SVal.agg [.int .u32 q.1, .int .u32 q.2, .sli 1 (.c 0) 1 (.v q.3.length) (some (.v q.4)), .sli 2 (.c 0) 1 (.v q.5.length) (some (.v q.6))], .int .u8 p, .int .u8 s] = [SVal.agg [.int .u32 q.1, .int .u32 q.2, .sli 1 (.c 0) 1 (.v q.3.length) (some (.v q.4)), .sli 2 (.c 0) 1 (.v q.5.length) (some (.v q.6))], .int .u8 p, .int .u8 s] ∧ [Blk.ro encLook [PUnit.unit], .ro encStr q.3, .ro (encInt IntKind.u8) q.5, .own [.c (.int .u32 q.1), .c (.int .u32 q.2), .c (.sli 1 (.c 0) 1 (.v q.3.length) (some (.v q.4))), .c (.sli 2 (.c 0) 1 (.v q.5.length) (some (.v q.6)))] 43] = [Blk.ro encLook [PUnit.unit], .ro encStr q.3, .ro (encInt IntKind.u8) q.5, .own [.c (.int .u32 q.1), .c (.int .u32 q.2), .c (.sli 1 (.c 0) 1 (.v q.3.length) (some (.v q.4))), .c (.sli 2 (.c 0) 1 (.v q.5.length) (some (.v q.6)))] 43] ∧ P)

 (.eq (some [Blk.ro encLook [PUnit.unit]] = some [Blk.ro encLook [PUnit.unit]])

 (.ret (.normal, [.ptr 3 0, .ptr 4 0, .ptr 6 0, .ptr 9 0, .sli 12 (.c 0) 1 (.v L.length) none, .int .i64 n], [.ro encLook [PUnit.unit], .ro encStr q.3, .ro (encInt IntKind.u8) q.5, .own [.c (.int .u32 q.1), .c (.int .u32 q.2), .c (.sli 1 (.c 0) 1 (.v q.3.length) (some (.v q.4))), .c (.sli 2 (.c 0) 1 (.v q.5.length) (some (.v q.6)))] 43, .own [.c (.sli 5 (.c 0) 1 (.v 80) (some (.v 80))), .c (.int .i64 (2 : Int))] 80, .own [.a (encInt IntKind.u32) 80 (((List.replicate 80 (0 : Int)).set 0 q.1).set 1 q.1)] 40, .own [.c (.int .i64 (0 : Int)), .c (.int .i64 n), .c (.int .i64 z), .c (SVal.fn (Fn.func 30) [.ptr 6 0] []), .c (.int .u32 (0 : Int)), .c (.int .u32 (0 : Int)), .c (.int .i64 (0 : Int)), .c (.sli 7 (.c 0) 1 (.v L.length) none), .c (.sli 8 (.c 0) 1 (.v 0) none)] 76, .vec encStr L 9, .vec encBool [] 4, .own [.c (.int .i64 (0 : Int)), .c (.int .i64 n), .c (.int .i64 z), .c (SVal.fn (Fn.func 31) [.ptr 9 0] []), .c (.int .u32 (0 : Int)), .c (.int .u32 (0 : Int)), .c (.int .i64 (0 : Int)), .c (.int .i64 (40 : Int)), .c (.int .i64 (0 : Int)), .c (.sli 10 (.c 0) 1 (.v 0) none), .c (.sli 11 (.c 0) 1 (.v 0) none)] 78, .vec (encInt IntKind.u8) [] 5, .vec encStr [] 9, .vec encStr L 9])))) := by kernel_rfl
set_option maxRecDepth 100000 in
theorem o_reg {q : InR} {w : List Int} {c : Int} {f g : Nat} {x : Snd} {y : Rcv} {L : List ByteArray} {n : Int} : (exec cfgM 100 reg5 (fr 130 n5 (vLw n L)) (sLw q w c f g x y L)).bind (canonK 13 [(0,0)] 130 n5i) =
 

 (.ret (.normal, [.ptr 12 0, .ptr 2 0, .ptr 3 0, .ptr 6 0, .sli 9 (.c 0) 1 (.v L.length) none, .int .i64 n, .lit .i64 (0 : Int)], [.ro encLook [PUnit.unit], .own [.a (encInt IntKind.u32) 80 w] 40, .own [.c (.sli 1 (.c 0) 1 (.v 80) (some (.v 80))), .c (.int .i64 c)] 80, .own [.c (.int .i64 x.1), .c (.int .i64 x.2), .c (.int .i64 x.3), .c (SVal.fn (Fn.func f) [.ptr 3 0] []), .c (.int .u32 x.4), .c (.int .u32 x.5), .c (.int .i64 x.6), .c (.sli 4 (.c 0) 1 (.v L.length) none), .c (.sli 5 (.c 0) 1 (.v x.7.length) none)] 76, .vec encStr L 9, .vec encBool x.7 4, .own [.c (.int .i64 y.1), .c (.int .i64 y.2), .c (.int .i64 y.3), .c (SVal.fn (Fn.func g) [.ptr 6 0] []), .c (.int .u32 y.4), .c (.int .u32 y.5), .c (.int .i64 y.6), .c (.int .i64 y.7), .c (.int .i64 y.8), .c (.sli 7 (.c 0) 1 (.v y.9.length) none), .c (.sli 8 (.c 0) 1 (.v y.10.length) none)] 78, .vec (encInt IntKind.u8) y.9 5, .vec encStr y.10 9, .vec encStr L 9, .ro encStr q.3, .ro (encInt IntKind.u8) q.5, .own [.c (.int .u32 q.1), .c (.int .u32 q.2), .c (.sli 10 (.c 0) 1 (.v q.3.length) (some (.v q.4))), .c (.sli 11 (.c 0) 1 (.v q.5.length) (some (.v q.6)))] 43])) := by kernel_rfl
set_option maxRecDepth 100000 in
theorem o_tm {q : InR} {w : List Int} {c : Int} {f g : Nat} {x : Snd} {y : Rcv} {L : List ByteArray} {n : Int} {i : Nat} : (exec cfgM 100 tm5 (fr 130 n5i (vLi n L i)) (sLw q w c f g x y L)).bind (canonK 13 [(0,0)] 130 n5i) =
 

 (.br (decide ((↑i : Int) < (↑q.5.length : Int)))

 (.br (decide ((↑i : Int) < (250 : Int)))

 (.ret (.normal, [.ptr 12 0, .ptr 2 0, .ptr 3 0, .ptr 6 0, .sli 9 (.c 0) 1 (.v L.length) none, .int .i64 n, .int .i64 (↑i : Int)], [.ro encLook [PUnit.unit], .own [.a (encInt IntKind.u32) 80 w] 40, .own [.c (.sli 1 (.c 0) 1 (.v 80) (some (.v 80))), .c (.int .i64 c)] 80, .own [.c (.int .i64 x.1), .c (.int .i64 x.2), .c (.int .i64 x.3), .c (SVal.fn (Fn.func f) [.ptr 3 0] []), .c (.int .u32 x.4), .c (.int .u32 x.5), .c (.int .i64 x.6), .c (.sli 4 (.c 0) 1 (.v L.length) none), .c (.sli 5 (.c 0) 1 (.v x.7.length) none)] 76, .vec encStr L 9, .vec encBool x.7 4, .own [.c (.int .i64 y.1), .c (.int .i64 y.2), .c (.int .i64 y.3), .c (SVal.fn (Fn.func g) [.ptr 6 0] []), .c (.int .u32 y.4), .c (.int .u32 y.5), .c (.int .i64 y.6), .c (.int .i64 y.7), .c (.int .i64 y.8), .c (.sli 7 (.c 0) 1 (.v y.9.length) none), .c (.sli 8 (.c 0) 1 (.v y.10.length) none)] 78, .vec (encInt IntKind.u8) y.9 5, .vec encStr y.10 9, .vec encStr L 9, .ro encStr q.3, .ro (encInt IntKind.u8) q.5, .own [.c (.int .u32 q.1), .c (.int .u32 q.2), .c (.sli 10 (.c 0) 1 (.v q.3.length) (some (.v q.4))), .c (.sli 11 (.c 0) 1 (.v q.5.length) (some (.v q.6)))] 43]))

 (.ret (.exit 0, [.ptr 12 0, .ptr 2 0, .ptr 3 0, .ptr 6 0, .sli 9 (.c 0) 1 (.v L.length) none, .int .i64 n, .int .i64 (↑i : Int)], [.ro encLook [PUnit.unit], .own [.a (encInt IntKind.u32) 80 w] 40, .own [.c (.sli 1 (.c 0) 1 (.v 80) (some (.v 80))), .c (.int .i64 c)] 80, .own [.c (.int .i64 x.1), .c (.int .i64 x.2), .c (.int .i64 x.3), .c (SVal.fn (Fn.func f) [.ptr 3 0] []), .c (.int .u32 x.4), .c (.int .u32 x.5), .c (.int .i64 x.6), .c (.sli 4 (.c 0) 1 (.v L.length) none), .c (.sli 5 (.c 0) 1 (.v x.7.length) none)] 76, .vec encStr L 9, .vec encBool x.7 4, .own [.c (.int .i64 y.1), .c (.int .i64 y.2), .c (.int .i64 y.3), .c (SVal.fn (Fn.func g) [.ptr 6 0] []), .c (.int .u32 y.4), .c (.int .u32 y.5), .c (.int .i64 y.6), .c (.int .i64 y.7), .c (.int .i64 y.8), .c (.sli 7 (.c 0) 1 (.v y.9.length) none), .c (.sli 8 (.c 0) 1 (.v y.10.length) none)] 78, .vec (encInt IntKind.u8) y.9 5, .vec encStr y.10 9, .vec encStr L 9, .ro encStr q.3, .ro (encInt IntKind.u8) q.5, .own [.c (.int .u32 q.1), .c (.int .u32 q.2), .c (.sli 10 (.c 0) 1 (.v q.3.length) (some (.v q.4))), .c (.sli 11 (.c 0) 1 (.v q.5.length) (some (.v q.6)))] 43])))

 (.ret (.exit 0, [.ptr 12 0, .ptr 2 0, .ptr 3 0, .ptr 6 0, .sli 9 (.c 0) 1 (.v L.length) none, .int .i64 n, .int .i64 (↑i : Int)], [.ro encLook [PUnit.unit], .own [.a (encInt IntKind.u32) 80 w] 40, .own [.c (.sli 1 (.c 0) 1 (.v 80) (some (.v 80))), .c (.int .i64 c)] 80, .own [.c (.int .i64 x.1), .c (.int .i64 x.2), .c (.int .i64 x.3), .c (SVal.fn (Fn.func f) [.ptr 3 0] []), .c (.int .u32 x.4), .c (.int .u32 x.5), .c (.int .i64 x.6), .c (.sli 4 (.c 0) 1 (.v L.length) none), .c (.sli 5 (.c 0) 1 (.v x.7.length) none)] 76, .vec encStr L 9, .vec encBool x.7 4, .own [.c (.int .i64 y.1), .c (.int .i64 y.2), .c (.int .i64 y.3), .c (SVal.fn (Fn.func g) [.ptr 6 0] []), .c (.int .u32 y.4), .c (.int .u32 y.5), .c (.int .i64 y.6), .c (.int .i64 y.7), .c (.int .i64 y.8), .c (.sli 7 (.c 0) 1 (.v y.9.length) none), .c (.sli 8 (.c 0) 1 (.v y.10.length) none)] 78, .vec (encInt IntKind.u8) y.9 5, .vec encStr y.10 9, .vec encStr L 9, .ro encStr q.3, .ro (encInt IntKind.u8) q.5, .own [.c (.int .u32 q.1), .c (.int .u32 q.2), .c (.sli 10 (.c 0) 1 (.v q.3.length) (some (.v q.4))), .c (.sli 11 (.c 0) 1 (.v q.5.length) (some (.v q.6)))] 43]))) := by kernel_rfl
set_option maxRecDepth 100000 in
theorem o_pick {q : InR} {w : List Int} {c : Int} {f g : Nat} {x : Snd} {y : Rcv} {L : List ByteArray} {n : Int} {i : Nat} {w1 w2 : List Int} {c1 c2 : Int} {f1 g2 : Nat} {x1 : Snd} {y2 : Rcv} {b1 b2 : Bool} {P1 P2 : Prop} : (execN (cfgSt q w c f g x y L w1 w2 c1 c2 f1 g2 x1 y2 b1 b2 P1 P2) 100 1 bb5 (fr 130 n5i (vLi n L i)) (sLw q w c f g x y L)).bind (canonK 0 [(0,0)] 130 n5i) =
 

 (.need (decide ((0 : Int) ≤ (↑i : Int)) && decide ((↑i : Int).toNat < q.5.length))

 (.need (decide ((↑i : Int).toNat < q.5.length))

 (.br (bitop BinOp.and IntKind.u8 (q.5.getD (↑i : Int).toNat (0 : Int)) (1 : Int) == (0 : Int))

 (.eq ([SVal.ptr 3 0, .ptr 2 0] = [SVal.ptr 3 0, .ptr 2 0] ∧ [Blk.ro encLook [PUnit.unit], .own [.a (encInt IntKind.u32) 80 w] 40, .own [.c (.sli 1 (.c 0) 1 (.v 80) (some (.v 80))), .c (.int .i64 c)] 80, .own [.c (.int .i64 x.1), .c (.int .i64 x.2), .c (.int .i64 x.3), .c (SVal.fn (Fn.func f) [.ptr 3 0] []), .c (.int .u32 x.4), .c (.int .u32 x.5), .c (.int .i64 x.6), .c (.sli 4 (.c 0) 1 (.v L.length) none), .c (.sli 5 (.c 0) 1 (.v x.7.length) none)] 76, .vec encStr L 9, .vec encBool x.7 4, .own [.c (.int .i64 y.1), .c (.int .i64 y.2), .c (.int .i64 y.3), .c (SVal.fn (Fn.func g) [.ptr 6 0] []), .c (.int .u32 y.4), .c (.int .u32 y.5), .c (.int .i64 y.6), .c (.int .i64 y.7), .c (.int .i64 y.8), .c (.sli 7 (.c 0) 1 (.v y.9.length) none), .c (.sli 8 (.c 0) 1 (.v y.10.length) none)] 78, .vec (encInt IntKind.u8) y.9 5, .vec encStr y.10 9, .vec encStr L 9, .ro encStr q.3, .ro (encInt IntKind.u8) q.5, .own [.c (.int .u32 q.1), .c (.int .u32 q.2), .c (.sli 10 (.c 0) 1 (.v q.3.length) (some (.v q.4))), .c (.sli 11 (.c 0) 1 (.v q.5.length) (some (.v q.6)))] 43] = [Blk.ro encLook [PUnit.unit], .own [.a (encInt IntKind.u32) 80 w] 40, .own [.c (.sli 1 (.c 0) 1 (.v 80) (some (.v 80))), .c (.int .i64 c)] 80, .own [.c (.int .i64 x.1), .c (.int .i64 x.2), .c (.int .i64 x.3), .c (SVal.fn (Fn.func f) [.ptr 3 0] []), .c (.int .u32 x.4), .c (.int .u32 x.5), .c (.int .i64 x.6), .c (.sli 4 (.c 0) 1 (.v L.length) none), .c (.sli 5 (.c 0) 1 (.v x.7.length) none)] 76, .vec encStr L 9, .vec encBool x.7 4, .own [.c (.int .i64 y.1), .c (.int .i64 y.2), .c (.int .i64 y.3), .c (SVal.fn (Fn.func g) [.ptr 6 0] []), .c (.int .u32 y.4), .c (.int .u32 y.5), .c (.int .i64 y.6), .c (.int .i64 y.7), .c (.int .i64 y.8), .c (.sli 7 (.c 0) 1 (.v y.9.length) none), .c (.sli 8 (.c 0) 1 (.v y.10.length) none)] 78, .vec (encInt IntKind.u8) y.9 5, .vec encStr y.10 9, .vec encStr L 9, .ro encStr q.3, .ro (encInt IntKind.u8) q.5, .own [.c (.int .u32 q.1), .c (.int .u32 q.2), .c (.sli 10 (.c 0) 1 (.v q.3.length) (some (.v q.4))), .c (.sli 11 (.c 0) 1 (.v q.5.length) (some (.v q.6)))] 43] ∧ P1)

 (.ret (.normal, [.ptr 1 0, .ptr 4 0, .ptr 6 0, .ptr 9 0, .sli 12 (.c 0) 1 (.v L.length) none, .int .i64 n, .int .i64 (↑i : Int)], [.ro encLook [PUnit.unit], .own [.c (.int .u32 q.1), .c (.int .u32 q.2), .c (.sli 2 (.c 0) 1 (.v q.3.length) (some (.v q.4))), .c (.sli 3 (.c 0) 1 (.v q.5.length) (some (.v q.6)))] 43, .ro encStr q.3, .ro (encInt IntKind.u8) q.5, .own [.c (.sli 5 (.c 0) 1 (.v 80) (some (.v 80))), .c (.int .i64 c1)] 80, .own [.a (encInt IntKind.u32) 80 w1] 40, .own [.c (.int .i64 x1.1), .c (.int .i64 x1.2), .c (.int .i64 x1.3), .c (SVal.fn (Fn.func f1) [.ptr 6 0] []), .c (.int .u32 x1.4), .c (.int .u32 x1.5), .c (.int .i64 x1.6), .c (.sli 7 (.c 0) 1 (.v L.length) none), .c (.sli 8 (.c 0) 1 (.v x1.7.length) none)] 76, .vec encStr L 9, .vec encBool x1.7 4, .own [.c (.int .i64 y.1), .c (.int .i64 y.2), .c (.int .i64 y.3), .c (SVal.fn (Fn.func g) [.ptr 9 0] []), .c (.int .u32 y.4), .c (.int .u32 y.5), .c (.int .i64 y.6), .c (.int .i64 y.7), .c (.int .i64 y.8), .c (.sli 10 (.c 0) 1 (.v y.9.length) none), .c (.sli 11 (.c 0) 1 (.v y.10.length) none)] 78, .vec (encInt IntKind.u8) y.9 5, .vec encStr y.10 9, .vec encStr L 9])))

 (.eq ([SVal.ptr 6 0, .ptr 2 0] = [SVal.ptr 6 0, .ptr 2 0] ∧ [Blk.ro encLook [PUnit.unit], .own [.a (encInt IntKind.u32) 80 w] 40, .own [.c (.sli 1 (.c 0) 1 (.v 80) (some (.v 80))), .c (.int .i64 c)] 80, .own [.c (.int .i64 x.1), .c (.int .i64 x.2), .c (.int .i64 x.3), .c (SVal.fn (Fn.func f) [.ptr 3 0] []), .c (.int .u32 x.4), .c (.int .u32 x.5), .c (.int .i64 x.6), .c (.sli 4 (.c 0) 1 (.v L.length) none), .c (.sli 5 (.c 0) 1 (.v x.7.length) none)] 76, .vec encStr L 9, .vec encBool x.7 4, .own [.c (.int .i64 y.1), .c (.int .i64 y.2), .c (.int .i64 y.3), .c (SVal.fn (Fn.func g) [.ptr 6 0] []), .c (.int .u32 y.4), .c (.int .u32 y.5), .c (.int .i64 y.6), .c (.int .i64 y.7), .c (.int .i64 y.8), .c (.sli 7 (.c 0) 1 (.v y.9.length) none), .c (.sli 8 (.c 0) 1 (.v y.10.length) none)] 78, .vec (encInt IntKind.u8) y.9 5, .vec encStr y.10 9, .vec encStr L 9, .ro encStr q.3, .ro (encInt IntKind.u8) q.5, .own [.c (.int .u32 q.1), .c (.int .u32 q.2), .c (.sli 10 (.c 0) 1 (.v q.3.length) (some (.v q.4))), .c (.sli 11 (.c 0) 1 (.v q.5.length) (some (.v q.6)))] 43] = [Blk.ro encLook [PUnit.unit], .own [.a (encInt IntKind.u32) 80 w] 40, .own [.c (.sli 1 (.c 0) 1 (.v 80) (some (.v 80))), .c (.int .i64 c)] 80, .own [.c (.int .i64 x.1), .c (.int .i64 x.2), .c (.int .i64 x.3), .c (SVal.fn (Fn.func f) [.ptr 3 0] []), .c (.int .u32 x.4), .c (.int .u32 x.5), .c (.int .i64 x.6), .c (.sli 4 (.c 0) 1 (.v L.length) none), .c (.sli 5 (.c 0) 1 (.v x.7.length) none)] 76, .vec encStr L 9, .vec encBool x.7 4, .own [.c (.int .i64 y.1), .c (.int .i64 y.2), .c (.int .i64 y.3), .c (SVal.fn (Fn.func g) [.ptr 6 0] []), .c (.int .u32 y.4), .c (.int .u32 y.5), .c (.int .i64 y.6), .c (.int .i64 y.7), .c (.int .i64 y.8), .c (.sli 7 (.c 0) 1 (.v y.9.length) none), .c (.sli 8 (.c 0) 1 (.v y.10.length) none)] 78, .vec (encInt IntKind.u8) y.9 5, .vec encStr y.10 9, .vec encStr L 9, .ro encStr q.3, .ro (encInt IntKind.u8) q.5, .own [.c (.int .u32 q.1), .c (.int .u32 q.2), .c (.sli 10 (.c 0) 1 (.v q.3.length) (some (.v q.4))), .c (.sli 11 (.c 0) 1 (.v q.5.length) (some (.v q.6)))] 43] ∧ P2)

 (.ret (.normal, [.ptr 1 0, .ptr 4 0, .ptr 6 0, .ptr 9 0, .sli 12 (.c 0) 1 (.v L.length) none, .int .i64 n, .int .i64 (↑i : Int)], [.ro encLook [PUnit.unit], .own [.c (.int .u32 q.1), .c (.int .u32 q.2), .c (.sli 2 (.c 0) 1 (.v q.3.length) (some (.v q.4))), .c (.sli 3 (.c 0) 1 (.v q.5.length) (some (.v q.6)))] 43, .ro encStr q.3, .ro (encInt IntKind.u8) q.5, .own [.c (.sli 5 (.c 0) 1 (.v 80) (some (.v 80))), .c (.int .i64 c2)] 80, .own [.a (encInt IntKind.u32) 80 w2] 40, .own [.c (.int .i64 x.1), .c (.int .i64 x.2), .c (.int .i64 x.3), .c (SVal.fn (Fn.func f) [.ptr 6 0] []), .c (.int .u32 x.4), .c (.int .u32 x.5), .c (.int .i64 x.6), .c (.sli 7 (.c 0) 1 (.v L.length) none), .c (.sli 8 (.c 0) 1 (.v x.7.length) none)] 76, .vec encStr L 9, .vec encBool x.7 4, .own [.c (.int .i64 y2.1), .c (.int .i64 y2.2), .c (.int .i64 y2.3), .c (SVal.fn (Fn.func g2) [.ptr 9 0] []), .c (.int .u32 y2.4), .c (.int .u32 y2.5), .c (.int .i64 y2.6), .c (.int .i64 y2.7), .c (.int .i64 y2.8), .c (.sli 10 (.c 0) 1 (.v y2.9.length) none), .c (.sli 11 (.c 0) 1 (.v y2.10.length) none)] 78, .vec (encInt IntKind.u8) y2.9 5, .vec encStr y2.10 9, .vec encStr L 9])))))) := by kernel_rfl
set_option maxRecDepth 100000 in
theorem o_pass {q : InR} {w : List Int} {c : Int} {f g : Nat} {x : Snd} {y : Rcv} {L O I : List ByteArray} {n : Int} {i : Nat} {P : Prop} : (execN (cfgPs q w c f g x y L O I P) 100 1 (restC 1 bb5) (fr 130 n5i (vLi n L i)) (sLw q w c f g x y L)).bind (canonK 13 [(0,0)] 130 n5o) =
 

 (.need (decide ((0 : Int) ≤ (↑x.7.length : Int)))

 (.need (decide ((↑x.7.length : Int) * (↑1 : Int) ≤ (140737488355328 : Int)))

 (.need (decide ((↑x.7.length : Int) ≤ (4611686018427387904 : Int)))

 (.need (decide (0 + x.7.length ≤ x.7.length))

 (.need (decide ((↑x.7.length : Int).toNat = (List.take x.7.length (List.drop 0 x.7)).length))

 (.need (decide ((↑x.7.length : Int).toNat * 1 + 0 = (List.take x.7.length (List.drop 0 x.7)).length * 1))

 (.need ((List.take x.7.length (List.drop 0 x.7)).all fun x => (encBool.enc x).all scalar)

 (.need (decide (0 + y.10.length ≤ y.10.length))

 (.need (decide (0 + y.10.length ≤ y.10.length))

 (.need (roomy (List.take y.10.length (List.drop 0 y.10)).length 16)

 (.eq ([SVal.sli 9 (.c 0) 1 (.v L.length) none, .sli 13 (.c 0) 1 (.v (↑x.7.length : Int).toNat) (some (.v (↑x.7.length : Int).toNat)), .sli 15 (.c 0) 1 (.v (List.take y.10.length (List.drop 0 y.10)).length) none] = [SVal.sli 9 (.c 0) 1 (.v L.length) none, .sli 13 (.c 0) 1 (.v x.7.length) (some (.v x.7.length)), .sli 15 (.c 0) 1 (.v (List.take y.10.length y.10).length) none] ∧ [Blk.ro encLook [PUnit.unit], .own [.a (encInt IntKind.u32) 80 w] 40, .own [.c (.sli 1 (.c 0) 1 (.v 80) (some (.v 80))), .c (.int .i64 c)] 80, .own [.c (.int .i64 x.1), .c (.int .i64 x.2), .c (.int .i64 x.3), .c (SVal.fn (Fn.func f) [.ptr 3 0] []), .c (.int .u32 x.4), .c (.int .u32 x.5), .c (.int .i64 x.6), .c (.sli 4 (.c 0) 1 (.v L.length) none), .c (.sli 5 (.c 0) 1 (.v x.7.length) none)] 76, .vec encStr L 9, .vec encBool x.7 4, .own [.c (.int .i64 y.1), .c (.int .i64 y.2), .c (.int .i64 y.3), .c (SVal.fn (Fn.func g) [.ptr 6 0] []), .c (.int .u32 y.4), .c (.int .u32 y.5), .c (.int .i64 y.6), .c (.int .i64 y.7), .c (.int .i64 y.8), .c (.sli 7 (.c 0) 1 (.v y.9.length) none), .c (.sli 8 (.c 0) 1 (.v y.10.length) none)] 78, .vec (encInt IntKind.u8) y.9 5, .vec encStr y.10 9, .vec encStr L 9, .ro encStr q.3, .ro (encInt IntKind.u8) q.5, .own [.c (.int .u32 q.1), .c (.int .u32 q.2), .c (.sli 10 (.c 0) 1 (.v q.3.length) (some (.v q.4))), .c (.sli 11 (.c 0) 1 (.v q.5.length) (some (.v q.6)))] 43, .own [.a encBool (List.take x.7.length (List.drop 0 x.7)).length (List.take x.7.length (List.drop 0 x.7))] 4, .gone, .vec encStr (List.take y.10.length (List.drop 0 y.10)) 9] = [Blk.ro encLook [PUnit.unit], .own [.a (encInt IntKind.u32) 80 w] 40, .own [.c (.sli 1 (.c 0) 1 (.v 80) (some (.v 80))), .c (.int .i64 c)] 80, .own [.c (.int .i64 x.1), .c (.int .i64 x.2), .c (.int .i64 x.3), .c (SVal.fn (Fn.func f) [.ptr 3 0] []), .c (.int .u32 x.4), .c (.int .u32 x.5), .c (.int .i64 x.6), .c (.sli 4 (.c 0) 1 (.v L.length) none), .c (.sli 5 (.c 0) 1 (.v x.7.length) none)] 76, .vec encStr L 9, .vec encBool x.7 4, .own [.c (.int .i64 y.1), .c (.int .i64 y.2), .c (.int .i64 y.3), .c (SVal.fn (Fn.func g) [.ptr 6 0] []), .c (.int .u32 y.4), .c (.int .u32 y.5), .c (.int .i64 y.6), .c (.int .i64 y.7), .c (.int .i64 y.8), .c (.sli 7 (.c 0) 1 (.v y.9.length) none), .c (.sli 8 (.c 0) 1 (.v y.10.length) none)] 78, .vec (encInt IntKind.u8) y.9 5, .vec encStr y.10 9, .vec encStr L 9, .ro encStr q.3, .ro (encInt IntKind.u8) q.5, .own [.c (.int .u32 q.1), .c (.int .u32 q.2), .c (.sli 10 (.c 0) 1 (.v q.3.length) (some (.v q.4))), .c (.sli 11 (.c 0) 1 (.v q.5.length) (some (.v q.6)))] 43, .own [.a encBool (List.take x.7.length x.7).length (List.take x.7.length x.7)] 4, .gone, .vec encStr (List.take y.10.length y.10) 9] ∧ P)

 (.ret (.normal, [.ptr 12 0, .ptr 2 0, .ptr 3 0, .ptr 6 0, .sli 9 (.c 0) 1 (.v L.length) none, .int .i64 n, .int .i64 (↑i : Int), .sli 13 (.c 0) 1 (.v O.length) none, .sli 14 (.c 0) 1 (.v I.length) none], [.ro encLook [PUnit.unit], .own [.a (encInt IntKind.u32) 80 w] 40, .own [.c (.sli 1 (.c 0) 1 (.v 80) (some (.v 80))), .c (.int .i64 c)] 80, .own [.c (.int .i64 x.1), .c (.int .i64 x.2), .c (.int .i64 x.3), .c (SVal.fn (Fn.func f) [.ptr 3 0] []), .c (.int .u32 x.4), .c (.int .u32 x.5), .c (.int .i64 x.6), .c (.sli 4 (.c 0) 1 (.v L.length) none), .c (.sli 5 (.c 0) 1 (.v x.7.length) none)] 76, .vec encStr L 9, .vec encBool x.7 4, .own [.c (.int .i64 y.1), .c (.int .i64 y.2), .c (.int .i64 y.3), .c (SVal.fn (Fn.func g) [.ptr 6 0] []), .c (.int .u32 y.4), .c (.int .u32 y.5), .c (.int .i64 y.6), .c (.int .i64 y.7), .c (.int .i64 y.8), .c (.sli 7 (.c 0) 1 (.v y.9.length) none), .c (.sli 8 (.c 0) 1 (.v y.10.length) none)] 78, .vec (encInt IntKind.u8) y.9 5, .vec encStr y.10 9, .vec encStr L 9, .ro encStr q.3, .ro (encInt IntKind.u8) q.5, .own [.c (.int .u32 q.1), .c (.int .u32 q.2), .c (.sli 10 (.c 0) 1 (.v q.3.length) (some (.v q.4))), .c (.sli 11 (.c 0) 1 (.v q.5.length) (some (.v q.6)))] 43, .vec encStr O 9, .vec encStr I 9]))))))))))))) := by kernel_rfl
set_option maxRecDepth 100000 in
theorem o_chk {q : InR} {w : List Int} {c : Int} {f g : Nat} {x : Snd} {y : Rcv} {L O I : List ByteArray} {n : Int} {i : Nat} {P : Prop} : (exec (cfgTx q w c f g x y L O I P) 100 (restC 2 bb5) (fr 130 n5o (vLo n L i O I)) (sLo q w c f g x y L O I)).bind (canonK 13 [(0,0)] 130 n5i) =
 

 (.br (decide ((↑O.length : Int) < (↑I.length : Int)))

 (.ret (.ret, [.ptr 12 0, .ptr 2 0, .ptr 3 0, .ptr 6 0, .sli 9 (.c 0) 1 (.v L.length) none, .int .i64 n, .int .i64 (↑i : Int)], [.ro encLook [PUnit.unit], .own [.a (encInt IntKind.u32) 80 w] 40, .own [.c (.sli 1 (.c 0) 1 (.v 80) (some (.v 80))), .c (.int .i64 c)] 80, .own [.c (.int .i64 x.1), .c (.int .i64 x.2), .c (.int .i64 x.3), .c (SVal.fn (Fn.func f) [.ptr 3 0] []), .c (.int .u32 x.4), .c (.int .u32 x.5), .c (.int .i64 x.6), .c (.sli 4 (.c 0) 1 (.v L.length) none), .c (.sli 5 (.c 0) 1 (.v x.7.length) none)] 76, .vec encStr L 9, .vec encBool x.7 4, .own [.c (.int .i64 y.1), .c (.int .i64 y.2), .c (.int .i64 y.3), .c (SVal.fn (Fn.func g) [.ptr 6 0] []), .c (.int .u32 y.4), .c (.int .u32 y.5), .c (.int .i64 y.6), .c (.int .i64 y.7), .c (.int .i64 y.8), .c (.sli 7 (.c 0) 1 (.v y.9.length) none), .c (.sli 8 (.c 0) 1 (.v y.10.length) none)] 78, .vec (encInt IntKind.u8) y.9 5, .vec encStr y.10 9, .vec encStr L 9, .ro encStr q.3, .ro (encInt IntKind.u8) q.5, .own [.c (.int .u32 q.1), .c (.int .u32 q.2), .c (.sli 10 (.c 0) 1 (.v q.3.length) (some (.v q.4))), .c (.sli 11 (.c 0) 1 (.v q.5.length) (some (.v q.6)))] 43]))

 (.need (inR .i64 ((↑O.length : Int) - (↑I.length : Int)))

 (.br (decide (n < (↑O.length : Int) - (↑I.length : Int)))

 (.ret (.ret, [.ptr 12 0, .ptr 2 0, .ptr 3 0, .ptr 6 0, .sli 9 (.c 0) 1 (.v L.length) none, .int .i64 n, .int .i64 (↑i : Int)], [.ro encLook [PUnit.unit], .own [.a (encInt IntKind.u32) 80 w] 40, .own [.c (.sli 1 (.c 0) 1 (.v 80) (some (.v 80))), .c (.int .i64 c)] 80, .own [.c (.int .i64 x.1), .c (.int .i64 x.2), .c (.int .i64 x.3), .c (SVal.fn (Fn.func f) [.ptr 3 0] []), .c (.int .u32 x.4), .c (.int .u32 x.5), .c (.int .i64 x.6), .c (.sli 4 (.c 0) 1 (.v L.length) none), .c (.sli 5 (.c 0) 1 (.v x.7.length) none)] 76, .vec encStr L 9, .vec encBool x.7 4, .own [.c (.int .i64 y.1), .c (.int .i64 y.2), .c (.int .i64 y.3), .c (SVal.fn (Fn.func g) [.ptr 6 0] []), .c (.int .u32 y.4), .c (.int .u32 y.5), .c (.int .i64 y.6), .c (.int .i64 y.7), .c (.int .i64 y.8), .c (.sli 7 (.c 0) 1 (.v y.9.length) none), .c (.sli 8 (.c 0) 1 (.v y.10.length) none)] 78, .vec (encInt IntKind.u8) y.9 5, .vec encStr y.10 9, .vec encStr L 9, .ro encStr q.3, .ro (encInt IntKind.u8) q.5, .own [.c (.int .u32 q.1), .c (.int .u32 q.2), .c (.sli 10 (.c 0) 1 (.v q.3.length) (some (.v q.4))), .c (.sli 11 (.c 0) 1 (.v q.5.length) (some (.v q.6)))] 43]))

 (.need (decide ((0 : Int) ≤ (↑I.length : Int)) && decide ((↑I.length : Int).toNat ≤ O.length))

 (.need (decide (0 ≤ (↑I.length : Int).toNat))

 (.eq ([SVal.sli 14 (.c 0) 1 (.v I.length) none, .sli 13 (.c 0) 1 (.v (↑I.length : Int).toNat) none] = [SVal.sli 14 (.c 0) 1 (.v I.length) none, .sli 13 (.c 0) 1 (.v I.length) none] ∧ [Blk.ro encLook [PUnit.unit], .own [.a (encInt IntKind.u32) 80 w] 40, .own [.c (.sli 1 (.c 0) 1 (.v 80) (some (.v 80))), .c (.int .i64 c)] 80, .own [.c (.int .i64 x.1), .c (.int .i64 x.2), .c (.int .i64 x.3), .c (SVal.fn (Fn.func f) [.ptr 3 0] []), .c (.int .u32 x.4), .c (.int .u32 x.5), .c (.int .i64 x.6), .c (.sli 4 (.c 0) 1 (.v L.length) none), .c (.sli 5 (.c 0) 1 (.v x.7.length) none)] 76, .vec encStr L 9, .vec encBool x.7 4, .own [.c (.int .i64 y.1), .c (.int .i64 y.2), .c (.int .i64 y.3), .c (SVal.fn (Fn.func g) [.ptr 6 0] []), .c (.int .u32 y.4), .c (.int .u32 y.5), .c (.int .i64 y.6), .c (.int .i64 y.7), .c (.int .i64 y.8), .c (.sli 7 (.c 0) 1 (.v y.9.length) none), .c (.sli 8 (.c 0) 1 (.v y.10.length) none)] 78, .vec (encInt IntKind.u8) y.9 5, .vec encStr y.10 9, .vec encStr L 9, .ro encStr q.3, .ro (encInt IntKind.u8) q.5, .own [.c (.int .u32 q.1), .c (.int .u32 q.2), .c (.sli 10 (.c 0) 1 (.v q.3.length) (some (.v q.4))), .c (.sli 11 (.c 0) 1 (.v q.5.length) (some (.v q.6)))] 43, .vec encStr O 9, .vec encStr I 9] = [Blk.ro encLook [PUnit.unit], .own [.a (encInt IntKind.u32) 80 w] 40, .own [.c (.sli 1 (.c 0) 1 (.v 80) (some (.v 80))), .c (.int .i64 c)] 80, .own [.c (.int .i64 x.1), .c (.int .i64 x.2), .c (.int .i64 x.3), .c (SVal.fn (Fn.func f) [.ptr 3 0] []), .c (.int .u32 x.4), .c (.int .u32 x.5), .c (.int .i64 x.6), .c (.sli 4 (.c 0) 1 (.v L.length) none), .c (.sli 5 (.c 0) 1 (.v x.7.length) none)] 76, .vec encStr L 9, .vec encBool x.7 4, .own [.c (.int .i64 y.1), .c (.int .i64 y.2), .c (.int .i64 y.3), .c (SVal.fn (Fn.func g) [.ptr 6 0] []), .c (.int .u32 y.4), .c (.int .u32 y.5), .c (.int .i64 y.6), .c (.int .i64 y.7), .c (.int .i64 y.8), .c (.sli 7 (.c 0) 1 (.v y.9.length) none), .c (.sli 8 (.c 0) 1 (.v y.10.length) none)] 78, .vec (encInt IntKind.u8) y.9 5, .vec encStr y.10 9, .vec encStr L 9, .ro encStr q.3, .ro (encInt IntKind.u8) q.5, .own [.c (.int .u32 q.1), .c (.int .u32 q.2), .c (.sli 10 (.c 0) 1 (.v q.3.length) (some (.v q.4))), .c (.sli 11 (.c 0) 1 (.v q.5.length) (some (.v q.6)))] 43, .vec encStr O 9, .vec encStr I 9] ∧ P)

 (.ret (.normal, [.ptr 12 0, .ptr 2 0, .ptr 3 0, .ptr 6 0, .sli 9 (.c 0) 1 (.v L.length) none, .int .i64 n, .int .i64 (↑i : Int)], [.ro encLook [PUnit.unit], .own [.a (encInt IntKind.u32) 80 w] 40, .own [.c (.sli 1 (.c 0) 1 (.v 80) (some (.v 80))), .c (.int .i64 c)] 80, .own [.c (.int .i64 x.1), .c (.int .i64 x.2), .c (.int .i64 x.3), .c (SVal.fn (Fn.func f) [.ptr 3 0] []), .c (.int .u32 x.4), .c (.int .u32 x.5), .c (.int .i64 x.6), .c (.sli 4 (.c 0) 1 (.v L.length) none), .c (.sli 5 (.c 0) 1 (.v x.7.length) none)] 76, .vec encStr L 9, .vec encBool x.7 4, .own [.c (.int .i64 y.1), .c (.int .i64 y.2), .c (.int .i64 y.3), .c (SVal.fn (Fn.func g) [.ptr 6 0] []), .c (.int .u32 y.4), .c (.int .u32 y.5), .c (.int .i64 y.6), .c (.int .i64 y.7), .c (.int .i64 y.8), .c (.sli 7 (.c 0) 1 (.v y.9.length) none), .c (.sli 8 (.c 0) 1 (.v y.10.length) none)] 78, .vec (encInt IntKind.u8) y.9 5, .vec encStr y.10 9, .vec encStr L 9, .ro encStr q.3, .ro (encInt IntKind.u8) q.5, .own [.c (.int .u32 q.1), .c (.int .u32 q.2), .c (.sli 10 (.c 0) 1 (.v q.3.length) (some (.v q.4))), .c (.sli 11 (.c 0) 1 (.v q.5.length) (some (.v q.6)))] 43])))))))) := by kernel_rfl
set_option maxRecDepth 100000 in
theorem o_inc {q : InR} {w : List Int} {c : Int} {f g : Nat} {x : Snd} {y : Rcv} {L : List ByteArray} {n : Int} {i : Nat} : (exec cfgM 100 inc5 (fr 130 n5i (vLi n L i)) (sLw q w c f g x y L)).bind (canonK 13 [(0,0)] 130 n5i) =
 

 (.need (inR .i64 ((↑i : Int) + (1 : Int)))

 (.ret (.normal, [.ptr 12 0, .ptr 2 0, .ptr 3 0, .ptr 6 0, .sli 9 (.c 0) 1 (.v L.length) none, .int .i64 n, .int .i64 ((↑i : Int) + (1 : Int))], [.ro encLook [PUnit.unit], .own [.a (encInt IntKind.u32) 80 w] 40, .own [.c (.sli 1 (.c 0) 1 (.v 80) (some (.v 80))), .c (.int .i64 c)] 80, .own [.c (.int .i64 x.1), .c (.int .i64 x.2), .c (.int .i64 x.3), .c (SVal.fn (Fn.func f) [.ptr 3 0] []), .c (.int .u32 x.4), .c (.int .u32 x.5), .c (.int .i64 x.6), .c (.sli 4 (.c 0) 1 (.v L.length) none), .c (.sli 5 (.c 0) 1 (.v x.7.length) none)] 76, .vec encStr L 9, .vec encBool x.7 4, .own [.c (.int .i64 y.1), .c (.int .i64 y.2), .c (.int .i64 y.3), .c (SVal.fn (Fn.func g) [.ptr 6 0] []), .c (.int .u32 y.4), .c (.int .u32 y.5), .c (.int .i64 y.6), .c (.int .i64 y.7), .c (.int .i64 y.8), .c (.sli 7 (.c 0) 1 (.v y.9.length) none), .c (.sli 8 (.c 0) 1 (.v y.10.length) none)] 78, .vec (encInt IntKind.u8) y.9 5, .vec encStr y.10 9, .vec encStr L 9, .ro encStr q.3, .ro (encInt IntKind.u8) q.5, .own [.c (.int .u32 q.1), .c (.int .u32 q.2), .c (.sli 10 (.c 0) 1 (.v q.3.length) (some (.v q.4))), .c (.sli 11 (.c 0) 1 (.v q.5.length) (some (.v q.6)))] 43]))) := by kernel_rfl
set_option maxRecDepth 100000 in
theorem o_reg2 {q : InR} {w : List Int} {c : Int} {f g : Nat} {x : Snd} {y : Rcv} {L : List ByteArray} {n : Int} : (exec cfgM 100 reg52 (fr 130 n5 (vLw n L)) (sLw q w c f g x y L)).bind (canonK 13 [(0,0)] 130 n5j) =
 

 (.ret (.normal, [.ptr 12 0, .ptr 2 0, .ptr 3 0, .ptr 6 0, .sli 9 (.c 0) 1 (.v L.length) none, .int .i64 n, .lit .i64 (0 : Int)], [.ro encLook [PUnit.unit], .own [.a (encInt IntKind.u32) 80 w] 40, .own [.c (.sli 1 (.c 0) 1 (.v 80) (some (.v 80))), .c (.int .i64 c)] 80, .own [.c (.int .i64 x.1), .c (.int .i64 x.2), .c (.int .i64 x.3), .c (SVal.fn (Fn.func f) [.ptr 3 0] []), .c (.int .u32 x.4), .c (.int .u32 x.5), .c (.int .i64 x.6), .c (.sli 4 (.c 0) 1 (.v L.length) none), .c (.sli 5 (.c 0) 1 (.v x.7.length) none)] 76, .vec encStr L 9, .vec encBool x.7 4, .own [.c (.int .i64 y.1), .c (.int .i64 y.2), .c (.int .i64 y.3), .c (SVal.fn (Fn.func g) [.ptr 6 0] []), .c (.int .u32 y.4), .c (.int .u32 y.5), .c (.int .i64 y.6), .c (.int .i64 y.7), .c (.int .i64 y.8), .c (.sli 7 (.c 0) 1 (.v y.9.length) none), .c (.sli 8 (.c 0) 1 (.v y.10.length) none)] 78, .vec (encInt IntKind.u8) y.9 5, .vec encStr y.10 9, .vec encStr L 9, .ro encStr q.3, .ro (encInt IntKind.u8) q.5, .own [.c (.int .u32 q.1), .c (.int .u32 q.2), .c (.sli 10 (.c 0) 1 (.v q.3.length) (some (.v q.4))), .c (.sli 11 (.c 0) 1 (.v q.5.length) (some (.v q.6)))] 43])) := by kernel_rfl
set_option maxRecDepth 100000 in
theorem o_tm2 {q : InR} {w : List Int} {c : Int} {f g : Nat} {x : Snd} {y : Rcv} {L : List ByteArray} {n : Int} {i : Nat} {w1 w2 : List Int} {c1 c2 : Int} {f1 g2 : Nat} {x1 : Snd} {y2 : Rcv} {b1 b2 : Bool} {P1 P2 : Prop} : (exec (cfgSt q w c f g x y L w1 w2 c1 c2 f1 g2 x1 y2 b1 b2 P1 P2) 100 tm52 (fr 130 n5j (vLi n L i)) (sLw q w c f g x y L)).bind (canonK 0 [(0,0)] 130 n5j) =
 

 (.br (decide ((↑i : Int) < (1000 : Int)))

 (.eq ([SVal.ptr 6 0, .ptr 2 0] = [SVal.ptr 6 0, .ptr 2 0] ∧ [Blk.ro encLook [PUnit.unit], .own [.a (encInt IntKind.u32) 80 w] 40, .own [.c (.sli 1 (.c 0) 1 (.v 80) (some (.v 80))), .c (.int .i64 c)] 80, .own [.c (.int .i64 x.1), .c (.int .i64 x.2), .c (.int .i64 x.3), .c (SVal.fn (Fn.func f) [.ptr 3 0] []), .c (.int .u32 x.4), .c (.int .u32 x.5), .c (.int .i64 x.6), .c (.sli 4 (.c 0) 1 (.v L.length) none), .c (.sli 5 (.c 0) 1 (.v x.7.length) none)] 76, .vec encStr L 9, .vec encBool x.7 4, .own [.c (.int .i64 y.1), .c (.int .i64 y.2), .c (.int .i64 y.3), .c (SVal.fn (Fn.func g) [.ptr 6 0] []), .c (.int .u32 y.4), .c (.int .u32 y.5), .c (.int .i64 y.6), .c (.int .i64 y.7), .c (.int .i64 y.8), .c (.sli 7 (.c 0) 1 (.v y.9.length) none), .c (.sli 8 (.c 0) 1 (.v y.10.length) none)] 78, .vec (encInt IntKind.u8) y.9 5, .vec encStr y.10 9, .vec encStr L 9, .ro encStr q.3, .ro (encInt IntKind.u8) q.5, .own [.c (.int .u32 q.1), .c (.int .u32 q.2), .c (.sli 10 (.c 0) 1 (.v q.3.length) (some (.v q.4))), .c (.sli 11 (.c 0) 1 (.v q.5.length) (some (.v q.6)))] 43] = [Blk.ro encLook [PUnit.unit], .own [.a (encInt IntKind.u32) 80 w] 40, .own [.c (.sli 1 (.c 0) 1 (.v 80) (some (.v 80))), .c (.int .i64 c)] 80, .own [.c (.int .i64 x.1), .c (.int .i64 x.2), .c (.int .i64 x.3), .c (SVal.fn (Fn.func f) [.ptr 3 0] []), .c (.int .u32 x.4), .c (.int .u32 x.5), .c (.int .i64 x.6), .c (.sli 4 (.c 0) 1 (.v L.length) none), .c (.sli 5 (.c 0) 1 (.v x.7.length) none)] 76, .vec encStr L 9, .vec encBool x.7 4, .own [.c (.int .i64 y.1), .c (.int .i64 y.2), .c (.int .i64 y.3), .c (SVal.fn (Fn.func g) [.ptr 6 0] []), .c (.int .u32 y.4), .c (.int .u32 y.5), .c (.int .i64 y.6), .c (.int .i64 y.7), .c (.int .i64 y.8), .c (.sli 7 (.c 0) 1 (.v y.9.length) none), .c (.sli 8 (.c 0) 1 (.v y.10.length) none)] 78, .vec (encInt IntKind.u8) y.9 5, .vec encStr y.10 9, .vec encStr L 9, .ro encStr q.3, .ro (encInt IntKind.u8) q.5, .own [.c (.int .u32 q.1), .c (.int .u32 q.2), .c (.sli 10 (.c 0) 1 (.v q.3.length) (some (.v q.4))), .c (.sli 11 (.c 0) 1 (.v q.5.length) (some (.v q.6)))] 43] ∧ P2)

 (.br (!b2)

 (.ret (.normal, [.ptr 1 0, .ptr 4 0, .ptr 6 0, .ptr 9 0, .sli 12 (.c 0) 1 (.v L.length) none, .int .i64 n, .int .i64 (↑i : Int)], [.ro encLook [PUnit.unit], .own [.c (.int .u32 q.1), .c (.int .u32 q.2), .c (.sli 2 (.c 0) 1 (.v q.3.length) (some (.v q.4))), .c (.sli 3 (.c 0) 1 (.v q.5.length) (some (.v q.6)))] 43, .ro encStr q.3, .ro (encInt IntKind.u8) q.5, .own [.c (.sli 5 (.c 0) 1 (.v 80) (some (.v 80))), .c (.int .i64 c2)] 80, .own [.a (encInt IntKind.u32) 80 w2] 40, .own [.c (.int .i64 x.1), .c (.int .i64 x.2), .c (.int .i64 x.3), .c (SVal.fn (Fn.func f) [.ptr 6 0] []), .c (.int .u32 x.4), .c (.int .u32 x.5), .c (.int .i64 x.6), .c (.sli 7 (.c 0) 1 (.v L.length) none), .c (.sli 8 (.c 0) 1 (.v x.7.length) none)] 76, .vec encStr L 9, .vec encBool x.7 4, .own [.c (.int .i64 y2.1), .c (.int .i64 y2.2), .c (.int .i64 y2.3), .c (SVal.fn (Fn.func g2) [.ptr 9 0] []), .c (.int .u32 y2.4), .c (.int .u32 y2.5), .c (.int .i64 y2.6), .c (.int .i64 y2.7), .c (.int .i64 y2.8), .c (.sli 10 (.c 0) 1 (.v y2.9.length) none), .c (.sli 11 (.c 0) 1 (.v y2.10.length) none)] 78, .vec (encInt IntKind.u8) y2.9 5, .vec encStr y2.10 9, .vec encStr L 9]))

 (.ret (.exit 2, [.ptr 1 0, .ptr 4 0, .ptr 6 0, .ptr 9 0, .sli 12 (.c 0) 1 (.v L.length) none, .int .i64 n, .int .i64 (↑i : Int)], [.ro encLook [PUnit.unit], .own [.c (.int .u32 q.1), .c (.int .u32 q.2), .c (.sli 2 (.c 0) 1 (.v q.3.length) (some (.v q.4))), .c (.sli 3 (.c 0) 1 (.v q.5.length) (some (.v q.6)))] 43, .ro encStr q.3, .ro (encInt IntKind.u8) q.5, .own [.c (.sli 5 (.c 0) 1 (.v 80) (some (.v 80))), .c (.int .i64 c2)] 80, .own [.a (encInt IntKind.u32) 80 w2] 40, .own [.c (.int .i64 x.1), .c (.int .i64 x.2), .c (.int .i64 x.3), .c (SVal.fn (Fn.func f) [.ptr 6 0] []), .c (.int .u32 x.4), .c (.int .u32 x.5), .c (.int .i64 x.6), .c (.sli 7 (.c 0) 1 (.v L.length) none), .c (.sli 8 (.c 0) 1 (.v x.7.length) none)] 76, .vec encStr L 9, .vec encBool x.7 4, .own [.c (.int .i64 y2.1), .c (.int .i64 y2.2), .c (.int .i64 y2.3), .c (SVal.fn (Fn.func g2) [.ptr 9 0] []), .c (.int .u32 y2.4), .c (.int .u32 y2.5), .c (.int .i64 y2.6), .c (.int .i64 y2.7), .c (.int .i64 y2.8), .c (.sli 10 (.c 0) 1 (.v y2.9.length) none), .c (.sli 11 (.c 0) 1 (.v y2.10.length) none)] 78, .vec (encInt IntKind.u8) y2.9 5, .vec encStr y2.10 9, .vec encStr L 9]))))

 (.ret (.exit 2, [.ptr 1 0, .ptr 4 0, .ptr 6 0, .ptr 9 0, .sli 12 (.c 0) 1 (.v L.length) none, .int .i64 n, .int .i64 (↑i : Int)], [.ro encLook [PUnit.unit], .own [.c (.int .u32 q.1), .c (.int .u32 q.2), .c (.sli 2 (.c 0) 1 (.v q.3.length) (some (.v q.4))), .c (.sli 3 (.c 0) 1 (.v q.5.length) (some (.v q.6)))] 43, .ro encStr q.3, .ro (encInt IntKind.u8) q.5, .own [.c (.sli 5 (.c 0) 1 (.v 80) (some (.v 80))), .c (.int .i64 c)] 80, .own [.a (encInt IntKind.u32) 80 w] 40, .own [.c (.int .i64 x.1), .c (.int .i64 x.2), .c (.int .i64 x.3), .c (SVal.fn (Fn.func f) [.ptr 6 0] []), .c (.int .u32 x.4), .c (.int .u32 x.5), .c (.int .i64 x.6), .c (.sli 7 (.c 0) 1 (.v L.length) none), .c (.sli 8 (.c 0) 1 (.v x.7.length) none)] 76, .vec encStr L 9, .vec encBool x.7 4, .own [.c (.int .i64 y.1), .c (.int .i64 y.2), .c (.int .i64 y.3), .c (SVal.fn (Fn.func g) [.ptr 9 0] []), .c (.int .u32 y.4), .c (.int .u32 y.5), .c (.int .i64 y.6), .c (.int .i64 y.7), .c (.int .i64 y.8), .c (.sli 10 (.c 0) 1 (.v y.9.length) none), .c (.sli 11 (.c 0) 1 (.v y.10.length) none)] 78, .vec (encInt IntKind.u8) y.9 5, .vec encStr y.10 9, .vec encStr L 9]))) := by kernel_rfl
set_option maxRecDepth 100000 in
theorem o_inc2 {q : InR} {w : List Int} {c : Int} {f g : Nat} {x : Snd} {y : Rcv} {L : List ByteArray} {n : Int} {i : Nat} : (exec cfgM 100 inc52 (fr 130 n5j (vLi n L i)) (sLw q w c f g x y L)).bind (canonK 13 [(0,0)] 130 n5j) =
 

 (.need (inR .i64 ((↑i : Int) + (1 : Int)))

 (.ret (.normal, [.ptr 12 0, .ptr 2 0, .ptr 3 0, .ptr 6 0, .sli 9 (.c 0) 1 (.v L.length) none, .int .i64 n, .int .i64 ((↑i : Int) + (1 : Int))], [.ro encLook [PUnit.unit], .own [.a (encInt IntKind.u32) 80 w] 40, .own [.c (.sli 1 (.c 0) 1 (.v 80) (some (.v 80))), .c (.int .i64 c)] 80, .own [.c (.int .i64 x.1), .c (.int .i64 x.2), .c (.int .i64 x.3), .c (SVal.fn (Fn.func f) [.ptr 3 0] []), .c (.int .u32 x.4), .c (.int .u32 x.5), .c (.int .i64 x.6), .c (.sli 4 (.c 0) 1 (.v L.length) none), .c (.sli 5 (.c 0) 1 (.v x.7.length) none)] 76, .vec encStr L 9, .vec encBool x.7 4, .own [.c (.int .i64 y.1), .c (.int .i64 y.2), .c (.int .i64 y.3), .c (SVal.fn (Fn.func g) [.ptr 6 0] []), .c (.int .u32 y.4), .c (.int .u32 y.5), .c (.int .i64 y.6), .c (.int .i64 y.7), .c (.int .i64 y.8), .c (.sli 7 (.c 0) 1 (.v y.9.length) none), .c (.sli 8 (.c 0) 1 (.v y.10.length) none)] 78, .vec (encInt IntKind.u8) y.9 5, .vec encStr y.10 9, .vec encStr L 9, .ro encStr q.3, .ro (encInt IntKind.u8) q.5, .own [.c (.int .u32 q.1), .c (.int .u32 q.2), .c (.sli 10 (.c 0) 1 (.v q.3.length) (some (.v q.4))), .c (.sli 11 (.c 0) 1 (.v q.5.length) (some (.v q.6)))] 43]))) := by kernel_rfl
set_option maxRecDepth 100000 in
theorem o_pass2 {q : InR} {w : List Int} {c : Int} {f g : Nat} {x : Snd} {y : Rcv} {L O I : List ByteArray} {n : Int} {P : Prop} : (execN (cfgPs q w c f g x y L O I P) 100 1 end5 (fr 130 n5 (vLw n L)) (sLw q w c f g x y L)).bind (canonK 13 [(0,0)] 130 n5e) =
 

 (.need (decide ((0 : Int) ≤ (↑x.7.length : Int)))

 (.need (decide ((↑x.7.length : Int) * (↑1 : Int) ≤ (140737488355328 : Int)))

 (.need (decide ((↑x.7.length : Int) ≤ (4611686018427387904 : Int)))

 (.need (decide (0 + x.7.length ≤ x.7.length))

 (.need (decide ((↑x.7.length : Int).toNat = (List.take x.7.length (List.drop 0 x.7)).length))

 (.need (decide ((↑x.7.length : Int).toNat * 1 + 0 = (List.take x.7.length (List.drop 0 x.7)).length * 1))

 (.need ((List.take x.7.length (List.drop 0 x.7)).all fun x => (encBool.enc x).all scalar)

 (.need (decide (0 + y.10.length ≤ y.10.length))

 (.need (decide (0 + y.10.length ≤ y.10.length))

 (.need (roomy (List.take y.10.length (List.drop 0 y.10)).length 16)

 (.eq ([SVal.sli 9 (.c 0) 1 (.v L.length) none, .sli 13 (.c 0) 1 (.v (↑x.7.length : Int).toNat) (some (.v (↑x.7.length : Int).toNat)), .sli 15 (.c 0) 1 (.v (List.take y.10.length (List.drop 0 y.10)).length) none] = [SVal.sli 9 (.c 0) 1 (.v L.length) none, .sli 13 (.c 0) 1 (.v x.7.length) (some (.v x.7.length)), .sli 15 (.c 0) 1 (.v (List.take y.10.length y.10).length) none] ∧ [Blk.ro encLook [PUnit.unit], .own [.a (encInt IntKind.u32) 80 w] 40, .own [.c (.sli 1 (.c 0) 1 (.v 80) (some (.v 80))), .c (.int .i64 c)] 80, .own [.c (.int .i64 x.1), .c (.int .i64 x.2), .c (.int .i64 x.3), .c (SVal.fn (Fn.func f) [.ptr 3 0] []), .c (.int .u32 x.4), .c (.int .u32 x.5), .c (.int .i64 x.6), .c (.sli 4 (.c 0) 1 (.v L.length) none), .c (.sli 5 (.c 0) 1 (.v x.7.length) none)] 76, .vec encStr L 9, .vec encBool x.7 4, .own [.c (.int .i64 y.1), .c (.int .i64 y.2), .c (.int .i64 y.3), .c (SVal.fn (Fn.func g) [.ptr 6 0] []), .c (.int .u32 y.4), .c (.int .u32 y.5), .c (.int .i64 y.6), .c (.int .i64 y.7), .c (.int .i64 y.8), .c (.sli 7 (.c 0) 1 (.v y.9.length) none), .c (.sli 8 (.c 0) 1 (.v y.10.length) none)] 78, .vec (encInt IntKind.u8) y.9 5, .vec encStr y.10 9, .vec encStr L 9, .ro encStr q.3, .ro (encInt IntKind.u8) q.5, .own [.c (.int .u32 q.1), .c (.int .u32 q.2), .c (.sli 10 (.c 0) 1 (.v q.3.length) (some (.v q.4))), .c (.sli 11 (.c 0) 1 (.v q.5.length) (some (.v q.6)))] 43, .own [.a encBool (List.take x.7.length (List.drop 0 x.7)).length (List.take x.7.length (List.drop 0 x.7))] 4, .gone, .vec encStr (List.take y.10.length (List.drop 0 y.10)) 9] = [Blk.ro encLook [PUnit.unit], .own [.a (encInt IntKind.u32) 80 w] 40, .own [.c (.sli 1 (.c 0) 1 (.v 80) (some (.v 80))), .c (.int .i64 c)] 80, .own [.c (.int .i64 x.1), .c (.int .i64 x.2), .c (.int .i64 x.3), .c (SVal.fn (Fn.func f) [.ptr 3 0] []), .c (.int .u32 x.4), .c (.int .u32 x.5), .c (.int .i64 x.6), .c (.sli 4 (.c 0) 1 (.v L.length) none), .c (.sli 5 (.c 0) 1 (.v x.7.length) none)] 76, .vec encStr L 9, .vec encBool x.7 4, .own [.c (.int .i64 y.1), .c (.int .i64 y.2), .c (.int .i64 y.3), .c (SVal.fn (Fn.func g) [.ptr 6 0] []), .c (.int .u32 y.4), .c (.int .u32 y.5), .c (.int .i64 y.6), .c (.int .i64 y.7), .c (.int .i64 y.8), .c (.sli 7 (.c 0) 1 (.v y.9.length) none), .c (.sli 8 (.c 0) 1 (.v y.10.length) none)] 78, .vec (encInt IntKind.u8) y.9 5, .vec encStr y.10 9, .vec encStr L 9, .ro encStr q.3, .ro (encInt IntKind.u8) q.5, .own [.c (.int .u32 q.1), .c (.int .u32 q.2), .c (.sli 10 (.c 0) 1 (.v q.3.length) (some (.v q.4))), .c (.sli 11 (.c 0) 1 (.v q.5.length) (some (.v q.6)))] 43, .own [.a encBool (List.take x.7.length x.7).length (List.take x.7.length x.7)] 4, .gone, .vec encStr (List.take y.10.length y.10) 9] ∧ P)

 (.ret (.normal, [.ptr 12 0, .ptr 2 0, .ptr 3 0, .ptr 6 0, .sli 9 (.c 0) 1 (.v L.length) none, .int .i64 n, .sli 13 (.c 0) 1 (.v O.length) none, .sli 14 (.c 0) 1 (.v I.length) none], [.ro encLook [PUnit.unit], .own [.a (encInt IntKind.u32) 80 w] 40, .own [.c (.sli 1 (.c 0) 1 (.v 80) (some (.v 80))), .c (.int .i64 c)] 80, .own [.c (.int .i64 x.1), .c (.int .i64 x.2), .c (.int .i64 x.3), .c (SVal.fn (Fn.func f) [.ptr 3 0] []), .c (.int .u32 x.4), .c (.int .u32 x.5), .c (.int .i64 x.6), .c (.sli 4 (.c 0) 1 (.v L.length) none), .c (.sli 5 (.c 0) 1 (.v x.7.length) none)] 76, .vec encStr L 9, .vec encBool x.7 4, .own [.c (.int .i64 y.1), .c (.int .i64 y.2), .c (.int .i64 y.3), .c (SVal.fn (Fn.func g) [.ptr 6 0] []), .c (.int .u32 y.4), .c (.int .u32 y.5), .c (.int .i64 y.6), .c (.int .i64 y.7), .c (.int .i64 y.8), .c (.sli 7 (.c 0) 1 (.v y.9.length) none), .c (.sli 8 (.c 0) 1 (.v y.10.length) none)] 78, .vec (encInt IntKind.u8) y.9 5, .vec encStr y.10 9, .vec encStr L 9, .ro encStr q.3, .ro (encInt IntKind.u8) q.5, .own [.c (.int .u32 q.1), .c (.int .u32 q.2), .c (.sli 10 (.c 0) 1 (.v q.3.length) (some (.v q.4))), .c (.sli 11 (.c 0) 1 (.v q.5.length) (some (.v q.6)))] 43, .vec encStr O 9, .vec encStr I 9]))))))))))))) := by kernel_rfl
set_option maxRecDepth 100000 in
theorem o_end {q : InR} {w : List Int} {c : Int} {f g : Nat} {x : Snd} {y : Rcv} {L O I : List ByteArray} {n : Int} {P : Prop} : (exec (cfgTx2 q w c f g x y L O I P) 100 (restC 1 end5) (fr 130 n5e (vLe n L O I)) (sLo q w c f g x y L O I)).bind (canonK 13 [(0,0)] 130 [6]) =
 

 (.need (decide (0 + y.10.length ≤ y.10.length))

 (.need (decide (0 + y.10.length ≤ y.10.length))

 (.need (roomy (List.take y.10.length (List.drop 0 y.10)).length 16)

 (.br (decide ((↑(List.take y.10.length (List.drop 0 y.10)).length : Int) < (40 : Int)))

 (.ret (.ret, [.bl true], [.ro encLook [PUnit.unit], .own [.a (encInt IntKind.u32) 80 w] 40, .own [.c (.sli 1 (.c 0) 1 (.v 80) (some (.v 80))), .c (.int .i64 c)] 80, .own [.c (.int .i64 x.1), .c (.int .i64 x.2), .c (.int .i64 x.3), .c (SVal.fn (Fn.func f) [.ptr 3 0] []), .c (.int .u32 x.4), .c (.int .u32 x.5), .c (.int .i64 x.6), .c (.sli 4 (.c 0) 1 (.v L.length) none), .c (.sli 5 (.c 0) 1 (.v x.7.length) none)] 76, .vec encStr L 9, .vec encBool x.7 4, .own [.c (.int .i64 y.1), .c (.int .i64 y.2), .c (.int .i64 y.3), .c (SVal.fn (Fn.func g) [.ptr 6 0] []), .c (.int .u32 y.4), .c (.int .u32 y.5), .c (.int .i64 y.6), .c (.int .i64 y.7), .c (.int .i64 y.8), .c (.sli 7 (.c 0) 1 (.v y.9.length) none), .c (.sli 8 (.c 0) 1 (.v y.10.length) none)] 78, .vec (encInt IntKind.u8) y.9 5, .vec encStr y.10 9, .vec encStr L 9, .ro encStr q.3, .ro (encInt IntKind.u8) q.5, .own [.c (.int .u32 q.1), .c (.int .u32 q.2), .c (.sli 10 (.c 0) 1 (.v q.3.length) (some (.v q.4))), .c (.sli 11 (.c 0) 1 (.v q.5.length) (some (.v q.6)))] 43]))

 (.need (inR .i64 ((↑O.length : Int) - (↑I.length : Int)))

 (.br (decide ((↑O.length : Int) - (↑I.length : Int) ≤ n))

 (.need (decide ((0 : Int) ≤ (↑I.length : Int)) && decide ((↑I.length : Int).toNat ≤ O.length))

 (.need (decide (0 ≤ (↑I.length : Int).toNat))

 (.eq ([SVal.sli 14 (.c 0) 1 (.v I.length) none, .sli 13 (.c 0) 1 (.v (↑I.length : Int).toNat) none] = [SVal.sli 14 (.c 0) 1 (.v I.length) none, .sli 13 (.c 0) 1 (.v I.length) none] ∧ [Blk.ro encLook [PUnit.unit], .own [.a (encInt IntKind.u32) 80 w] 40, .own [.c (.sli 1 (.c 0) 1 (.v 80) (some (.v 80))), .c (.int .i64 c)] 80, .own [.c (.int .i64 x.1), .c (.int .i64 x.2), .c (.int .i64 x.3), .c (SVal.fn (Fn.func f) [.ptr 3 0] []), .c (.int .u32 x.4), .c (.int .u32 x.5), .c (.int .i64 x.6), .c (.sli 4 (.c 0) 1 (.v L.length) none), .c (.sli 5 (.c 0) 1 (.v x.7.length) none)] 76, .vec encStr L 9, .vec encBool x.7 4, .own [.c (.int .i64 y.1), .c (.int .i64 y.2), .c (.int .i64 y.3), .c (SVal.fn (Fn.func g) [.ptr 6 0] []), .c (.int .u32 y.4), .c (.int .u32 y.5), .c (.int .i64 y.6), .c (.int .i64 y.7), .c (.int .i64 y.8), .c (.sli 7 (.c 0) 1 (.v y.9.length) none), .c (.sli 8 (.c 0) 1 (.v y.10.length) none)] 78, .vec (encInt IntKind.u8) y.9 5, .vec encStr y.10 9, .vec encStr L 9, .ro encStr q.3, .ro (encInt IntKind.u8) q.5, .own [.c (.int .u32 q.1), .c (.int .u32 q.2), .c (.sli 10 (.c 0) 1 (.v q.3.length) (some (.v q.4))), .c (.sli 11 (.c 0) 1 (.v q.5.length) (some (.v q.6)))] 43, .vec encStr O 9, .vec encStr I 9, .gone, .vec encStr (List.take y.10.length (List.drop 0 y.10)) 9] = [Blk.ro encLook [PUnit.unit], .own [.a (encInt IntKind.u32) 80 w] 40, .own [.c (.sli 1 (.c 0) 1 (.v 80) (some (.v 80))), .c (.int .i64 c)] 80, .own [.c (.int .i64 x.1), .c (.int .i64 x.2), .c (.int .i64 x.3), .c (SVal.fn (Fn.func f) [.ptr 3 0] []), .c (.int .u32 x.4), .c (.int .u32 x.5), .c (.int .i64 x.6), .c (.sli 4 (.c 0) 1 (.v L.length) none), .c (.sli 5 (.c 0) 1 (.v x.7.length) none)] 76, .vec encStr L 9, .vec encBool x.7 4, .own [.c (.int .i64 y.1), .c (.int .i64 y.2), .c (.int .i64 y.3), .c (SVal.fn (Fn.func g) [.ptr 6 0] []), .c (.int .u32 y.4), .c (.int .u32 y.5), .c (.int .i64 y.6), .c (.int .i64 y.7), .c (.int .i64 y.8), .c (.sli 7 (.c 0) 1 (.v y.9.length) none), .c (.sli 8 (.c 0) 1 (.v y.10.length) none)] 78, .vec (encInt IntKind.u8) y.9 5, .vec encStr y.10 9, .vec encStr L 9, .ro encStr q.3, .ro (encInt IntKind.u8) q.5, .own [.c (.int .u32 q.1), .c (.int .u32 q.2), .c (.sli 10 (.c 0) 1 (.v q.3.length) (some (.v q.4))), .c (.sli 11 (.c 0) 1 (.v q.5.length) (some (.v q.6)))] 43, .vec encStr O 9, .vec encStr I 9, .gone, .vec encStr (List.take y.10.length y.10) 9] ∧ P)

 (.ret (.ret, [.bl true], [.ro encLook [PUnit.unit], .own [.a (encInt IntKind.u32) 80 w] 40, .own [.c (.sli 1 (.c 0) 1 (.v 80) (some (.v 80))), .c (.int .i64 c)] 80, .own [.c (.int .i64 x.1), .c (.int .i64 x.2), .c (.int .i64 x.3), .c (SVal.fn (Fn.func f) [.ptr 3 0] []), .c (.int .u32 x.4), .c (.int .u32 x.5), .c (.int .i64 x.6), .c (.sli 4 (.c 0) 1 (.v L.length) none), .c (.sli 5 (.c 0) 1 (.v x.7.length) none)] 76, .vec encStr L 9, .vec encBool x.7 4, .own [.c (.int .i64 y.1), .c (.int .i64 y.2), .c (.int .i64 y.3), .c (SVal.fn (Fn.func g) [.ptr 6 0] []), .c (.int .u32 y.4), .c (.int .u32 y.5), .c (.int .i64 y.6), .c (.int .i64 y.7), .c (.int .i64 y.8), .c (.sli 7 (.c 0) 1 (.v y.9.length) none), .c (.sli 8 (.c 0) 1 (.v y.10.length) none)] 78, .vec (encInt IntKind.u8) y.9 5, .vec encStr y.10 9, .vec encStr L 9, .ro encStr q.3, .ro (encInt IntKind.u8) q.5, .own [.c (.int .u32 q.1), .c (.int .u32 q.2), .c (.sli 10 (.c 0) 1 (.v q.3.length) (some (.v q.4))), .c (.sli 11 (.c 0) 1 (.v q.5.length) (some (.v q.6)))] 43])))))

 (.ret (.ret, [.bl false], [.ro encLook [PUnit.unit], .own [.a (encInt IntKind.u32) 80 w] 40, .own [.c (.sli 1 (.c 0) 1 (.v 80) (some (.v 80))), .c (.int .i64 c)] 80, .own [.c (.int .i64 x.1), .c (.int .i64 x.2), .c (.int .i64 x.3), .c (SVal.fn (Fn.func f) [.ptr 3 0] []), .c (.int .u32 x.4), .c (.int .u32 x.5), .c (.int .i64 x.6), .c (.sli 4 (.c 0) 1 (.v L.length) none), .c (.sli 5 (.c 0) 1 (.v x.7.length) none)] 76, .vec encStr L 9, .vec encBool x.7 4, .own [.c (.int .i64 y.1), .c (.int .i64 y.2), .c (.int .i64 y.3), .c (SVal.fn (Fn.func g) [.ptr 6 0] []), .c (.int .u32 y.4), .c (.int .u32 y.5), .c (.int .i64 y.6), .c (.int .i64 y.7), .c (.int .i64 y.8), .c (.sli 7 (.c 0) 1 (.v y.9.length) none), .c (.sli 8 (.c 0) 1 (.v y.10.length) none)] 78, .vec (encInt IntKind.u8) y.9 5, .vec encStr y.10 9, .vec encStr L 9, .ro encStr q.3, .ro (encInt IntKind.u8) q.5, .own [.c (.int .u32 q.1), .c (.int .u32 q.2), .c (.sli 10 (.c 0) 1 (.v q.3.length) (some (.v q.4))), .c (.sli 11 (.c 0) 1 (.v q.5.length) (some (.v q.6)))] 43])))))))) := by kernel_rfl
end Go.Proofs.YtplbncncnjiahaaDoor

/- RingOrder: its call. -/
namespace Go.Proofs.YtplbncncnjiahaaDoor
open Go Go.Proofs.YtplbncncnjiahaaDoor.Sx
set_option linter.unusedVariables false
abbrev Q5 (w0 : From) : Exit → Act → World → Prop := bodyPost Tryd.prog Tryd.f5 (Said w0)
structure LI (q : InR) (n z : Int) (L : List ByteArray) (m : Nat) (w : List Int) (c : Int) (x : Snd) (y : Rcv) (A : Ab) : Prop where
  rel : Rel 80 0 n z 40 L w x y A
  ord : OrdA L A
  c : 0 ≤ c ∧ c ≤ 2 + (m : Int)
theorem LI.small {q : InR} {n z : Int} {L : List ByteArray} {m : Nat} {w : List Int} {c : Int} {x : Snd} {y : Rcv} {A : Ab} (h : LI q n z L m w c x y A) : x.sent.length ≤ L.length ∧ L.length ≤ 1000 ∧ y.got.length ≤ 40 ∧ outK L x.sent (min x.sent.length L.length) = outA L A ∧ inK y.got y.got.length = inA A := by
  have hs := h.rel.s
  have hr := h.rel.r
  have h1 := hs.le
  have h2 := hr.le
  refine ⟨by rw [hs.sent]; exact h1, hs.ml, by rw [hr.got]; omega, ?_, by rw [hr.got]⟩
  rw [hs.sent, Nat.min_eq_left h1]
theorem LI.s {q : InR} {n z : Int} {L : List ByteArray} {m : Nat} {w : List Int} {c : Int} {x : Snd} {y : Rcv} {A : Ab} (h : LI q n z L m w c x y A) : LI q n z L (m + 1) (sNext x L w).2 (sC x L c) (sNext x L w).1 y (aStepS n L A) := by
  refine ⟨(rel_s h.rel).1, ord_s h.rel h.ord, ?_⟩
  have := h.c
  unfold sC
  split <;> omega
theorem LI.r {q : InR} {n z : Int} {L : List ByteArray} {m : Nat} {w : List Int} {c : Int} {x : Snd} {y : Rcv} {A : Ab} (h : LI q n z L m w c x y A) : LI q n z L (m + 1) (rNext y w).2 (rC y c) x (rNext y w).1 (aStepR 40 A) := by
  refine ⟨(rel_r h.rel).1, ord_r h.rel h.ord, ?_⟩
  have := h.c
  unfold rC
  split <;> omega
abbrev idK : List Nat := [0, 5, 4, 6, 7, 8, 9, 10, 11, 12, 2, 3, 1]
def InvO (w0 : From) (q : InR) (n z : Int) (L : List ByteArray) (i : Nat) (a : Act) (W : World) : Prop :=
  i ≤ 250 ∧ ∃ w c x y A, LI q n z L i w c x y A ∧ ∃ env, At [(0, 0)] w0 env (fr 130 n5i (vLi n L i)) (sLw q w c (sfn x.p) (rfn y.p) x y L) a W
def InvT (w0 : From) (q : InR) (n z : Int) (L : List ByteArray) (i : Nat) (a : Act) (W : World) : Prop :=
  i ≤ 1000 ∧ ∃ w c x y A, LI q n z L (250 + i) w c x y A ∧ ∃ env, At [(0, 0)] w0 env (fr 130 n5j (vLi n L i)) (sLw q w c (sfn x.p) (rfn y.p) x y L) a W
theorem pass_needs {x : Snd} {y : Rcv} {Q : (Ex × List SVal × St) → Prop} {t : T (Ex × List SVal × St)} (h1 : x.sent.length ≤ 1000) (h2 : y.got.length ≤ 1000) (h : All Q t) :
    All Q (.need (decide ((0 : Int) ≤ (↑x.7.length : Int))) (.need (decide ((↑x.7.length : Int) * ((1 : Nat) : Int) ≤ (140737488355328 : Int))) (.need (decide ((↑x.7.length : Int) ≤ (4611686018427387904 : Int))) (.need (decide (0 + x.7.length ≤ x.7.length)) (.need (decide ((↑x.7.length : Int).toNat = (List.take x.7.length (List.drop 0 x.7)).length)) (.need (decide ((↑x.7.length : Int).toNat * 1 + 0 = (List.take x.7.length (List.drop 0 x.7)).length * 1)) (.need ((List.take x.7.length (List.drop 0 x.7)).all fun x => (encBool.enc x).all scalar) (.need (decide (0 + y.10.length ≤ y.10.length)) (.need (decide (0 + y.10.length ≤ y.10.length)) (.need (roomy (List.take y.10.length (List.drop 0 y.10)).length 16) t)))))))))) := by
  have e1 : (List.take x.7.length (List.drop 0 x.7)).length = x.7.length := by simp
  have e2 : (List.take y.10.length (List.drop 0 y.10)).length = y.10.length := by simp
  rw [e1, e2]
  refine all_needq (by simp only [decide_eq_true_eq]; exact Iff.rfl) (by omega) ?_
  refine all_needq (by simp only [decide_eq_true_eq]; exact Iff.rfl) (by omega) ?_
  refine all_needq (by simp only [decide_eq_true_eq]; exact Iff.rfl) (by omega) ?_
  refine all_needq (by simp only [decide_eq_true_eq]; exact Iff.rfl) (by omega) ?_
  refine all_needq (by simp only [decide_eq_true_eq]; exact Iff.rfl) (by omega) ?_
  refine all_needq (by simp only [decide_eq_true_eq]; exact Iff.rfl) (by omega) ?_
  refine all_need (List.all_eq_true.2 fun b _ => rfl) fun _ => ?_
  refine all_needq (by simp only [decide_eq_true_eq]; exact Iff.rfl) (by omega) ?_
  refine all_needq (by simp only [decide_eq_true_eq]; exact Iff.rfl) (by omega) ?_
  exact all_needq (by simp only [roomy_iff]; exact Iff.rfl) (by omega) h
set_option maxHeartbeats 2000000 in
theorem end5_ok {w0 : From} {q : InR} {n z : Int} {L : List ByteArray} {m : Nat} {w : List Int} {c : Int} {x : Snd} {y : Rcv} {A : Ab} (h : LI q n z L m w c x y A) {env : Env} {a : Act} {W : World} (hA : At [(0, 0)] w0 env (fr 130 n5 (vLw n L)) (sLw q w c (sfn x.p) (rfn y.p) x y L) a W) : end5.wp Tryd.prog (Q5 w0) a W := by
  obtain ⟨g1, g2, g3, g4, g5⟩ := h.small
  obtain ⟨s1, s2, s3, s4⟩ := ord_say h.rel h.ord
  refine pieceNT0 (c := cfgPs q w c (sfn x.p) (rfn y.p) x y L (outA L A) (inA A) True) (cfgPs_ok fun _ => ⟨g4.symm, g5.symm, g2, by omega⟩) 1 n5e o_pass2 hA ?_
  refine pass_needs (by omega) (by omega) ?_
  refine all_eq ⟨rfl, rfl, trivial⟩ ?_
  refine all_ret fun env1 a1 w1 hA1 => ?_
  simp only [Ex.to, Exit.then]
  have i1 : (inA A).length ≤ A.got.length := inK_len _ _
  have i2 : (outA L A).length ≤ A.sent.length := outK_len _ _ _
  rw [h.rel.s.sent] at g1
  rw [h.rel.r.got] at g3
  generalize outA L A = O at *
  generalize inA A = I at *
  refine (show (restC 1 end5).wp Tryd.prog (Q5 w0) a1 w1 from ?_)
  refine pieceT0 (c := cfgTx2 q w c (sfn x.p) (rfn y.p) x y L O I True) (cfgTx2_ok fun _ => ⟨s3, s1, by omega⟩) [6] (o_end (O := O) (I := I)) hA1 ?_
  have hyg := h.rel.r.got
  have e2 : (List.take y.10.length (List.drop 0 y.10)).length = y.10.length := by simp
  rw [e2]
  have hyl : y.got.length ≤ 40 := by rw [hyg]; omega
  refine all_needq (by simp only [decide_eq_true_eq]; exact Iff.rfl) (by omega) ?_
  refine all_needq (by simp only [decide_eq_true_eq]; exact Iff.rfl) (by omega) ?_
  refine all_needq (by simp only [roomy_iff]; exact Iff.rfl) (by omega) ?_
  refine all_brp (by simp only [decide_eq_true_eq]; exact Iff.rfl) (fun _ => all_ret fun _ _ _ h => h.said (by kernel_rfl)) (fun _ => ?_)
  refine all_needq (by simp only [inR_i64]; exact Iff.rfl) (by omega) ?_
  refine all_brp (by simp only [decide_eq_true_eq] <;> exact Iff.rfl) (fun _ => ?_) (fun hh => absurd s2 hh)
  refine all_needq (by simp only [decide_eq_true_eq, Bool.and_eq_true]; exact Iff.rfl) (by omega) ?_
  refine all_need (decide_eq_true (Nat.zero_le _)) fun _ => ?_
  refine all_eq ⟨rfl, rfl, trivial⟩ ?_
  exact all_ret fun _ _ _ h => h.said (by kernel_rfl)
abbrev RT (w0 : From) (q : InR) (n z : Int) (L : List ByteArray) (i : Nat) : Exit → Act → World → Prop :=
  Exit.then (fun a' w' => ∃ k, InvT w0 q n z L k a' w' ∧ 1000 - k < 1000 - i) (Exit.inBlock 2 (Exit.then (end5.wp Tryd.prog (Q5 w0)) (Q5 w0)))
set_option maxHeartbeats 2000000 in
theorem roundT_ok {w0 : From} {q : InR} {n z : Int} {L : List ByteArray} {i : Nat} {a : Act} {W : World} (hI : InvT w0 q n z L i a W) : round52.wp Tryd.prog (RT w0 q n z L i) a W := by
  obtain ⟨hi, w, c, x, y, A, h, env, hA⟩ := hI
  have hc := h.c
  refine wpS (by kernel_rfl) ?_
  refine pieceT0 (c := cfgSt q w c (sfn x.p) (rfn y.p) x y L (sNext x L w).2 (rNext y w).2 (sC x L c) (rC y c) (sfn (sNext x L w).1.p) (rfn (rNext y w).1.p) (sNext x L w).1 (rNext y w).1 (sStill (sNext x L w).1 L) (rStill (rNext y w).1) (SOk 80 w c x L ∧ x.p ≤ 3) (ROk 80 w c y ∧ y.p ≤ 3)) cfgSt_ok n5j o_tm2 hA ?_
  have hr := h.r
  have hrok := rel_rok h.rel (c := c) (by omega)
  generalize (rNext y w).1 = y2 at *
  generalize (rNext y w).2 = w2 at *
  generalize rC y c = c2 at *
  have out : ∀ {m : Nat} {w : List Int} {c : Int} {x : Snd} {y : Rcv} {A : Ab}, LI q n z L m w c x y A → ∀ {env : Env} {a : Act} {W : World}, At [(0, 0)] w0 env (fr 130 n5j (vLi n L i)) (sLw q w c (sfn x.p) (rfn y.p) x y L) a W → RT w0 q n z L i (.exit 2) a W := by
    intro m w c x y A h env a W hA
    simp only [RT, Exit.then, Exit.inBlock, if_true]
    exact end5_ok h (At.few (names := n5) (extra := [15]) (vals := vLw n L) (ev := [.int .i64 (i : Nat)]) hA rfl)
  refine all_brp (by simp only [decide_eq_true_eq]; exact Iff.rfl) (fun h1 => ?_) (fun h1 => all_ret fun env1 a1 w1 hA1 => ?_)
  · refine all_eq ⟨rfl, rfl, hrok⟩ ?_
    refine all_br (fun hb => all_ret fun env1 a1 w1 hA1 => ?_) (fun hb => all_ret fun env1 a1 w1 hA1 => ?_)
    · have hA2 := hA1.perm idK (by kernel_rfl) (by kernel_rfl) (st' := sLw q w2 c2 (sfn x.p) (rfn y2.p) x y2 L) (vals' := vLi n L i) (by kernel_rfl) (by kernel_rfl)
      simp only [Ex.to, Exit.then]
      refine (show (rgt round52).wp _ _ _ _ from wpS (by kernel_rfl) (wpB 3 (by kernel_rfl) ?_))
      refine wp_skip ?_
      simp only [Exit.inBlock, Exit.then]
      refine (show inc52.wp _ _ _ _ from ?_)
      refine pieceT0 (c := cfgM) cfgM_ok n5j o_inc2 hA2 ?_
      refine all_needp (by simp only [inR_i64]; exact Iff.rfl) (by omega) fun _ => all_ret fun env4 a4 w4 hA4 => ?_
      exact ⟨i + 1, ⟨by omega, w2, c2, x, y2, _, hr, env4, hA4⟩, by omega⟩
    · have hA2 := hA1.perm idK (by kernel_rfl) (by kernel_rfl) (st' := sLw q w2 c2 (sfn x.p) (rfn y2.p) x y2 L) (vals' := vLi n L i) (by kernel_rfl) (by kernel_rfl)
      exact out hr hA2
  · have hA2 := hA1.perm idK (by kernel_rfl) (by kernel_rfl) (st' := sLw q w c (sfn x.p) (rfn y.p) x y L) (vals' := vLi n L i) (by kernel_rfl) (by kernel_rfl)
    exact out h hA2
theorem d5_ok {w0 : From} {q : InR} {n z : Int} {L : List ByteArray} {m : Nat} (hm : m ≤ 250) {w : List Int} {c : Int} {x : Snd} {y : Rcv} {A : Ab} (h : LI q n z L m w c x y A) {env : Env} {a : Act} {W : World} (hA : At [(0, 0)] w0 env (fr 130 n5 (vLw n L)) (sLw q w c (sfn x.p) (rfn y.p) x y L) a W) : d5.wp Tryd.prog (Q5 w0) a W := by
  refine wpS (by kernel_rfl) (wpS (by kernel_rfl) ?_)
  refine pieceT0 (c := cfgM) cfgM_ok n5j o_reg2 hA (all_ret fun env2 a2 w2 hA2 => ?_)
  simp only [Ex.to, Exit.then]
  have hA3 := hA2.gvals (vLi n L 0) rfl
  refine wpB 2 (by kernel_rfl) (wpL (by kernel_rfl) (InvT w0 q n z L) (fun i => 1000 - i) 0 ⟨Nat.zero_le _, w, c, x, y, A, ⟨h.rel, h.ord, by have := h.c; omega⟩, env2, hA3⟩ ?_)
  intro i a w h
  exact roundT_ok h
abbrev RO5 (w0 : From) (q : InR) (n z : Int) (L : List ByteArray) (i : Nat) : Exit → Act → World → Prop :=
  Exit.then (fun a' w' => ∃ k, InvO w0 q n z L k a' w' ∧ 250 - k < 250 - i) (Exit.inBlock 0 (Exit.then (d5.wp Tryd.prog (Q5 w0)) (Q5 w0)))
set_option maxHeartbeats 2000000 in
theorem roundO_ok {w0 : From} {q : InR} {n z : Int} {L : List ByteArray} {i : Nat} {a : Act} {W : World} (hI : InvO w0 q n z L i a W) : round5.wp Tryd.prog (RO5 w0 q n z L i) a W := by
  obtain ⟨hi, w, c, x, y, A, h, env, hA⟩ := hI
  have hc := h.c
  refine wpS (by kernel_rfl) ?_
  refine pieceT0 (c := cfgM) cfgM_ok n5i o_tm hA ?_
  have out : ∀ {env : Env} {a : Act} {W : World}, At [(0, 0)] w0 env (fr 130 n5i (vLi n L i)) (sLw q w c (sfn x.p) (rfn y.p) x y L) a W → RO5 w0 q n z L i (.exit 0) a W := by
    intro env a W hA
    simp only [RO5, Exit.then, Exit.inBlock, if_true]
    exact d5_ok hi h (At.few (names := n5) (extra := [12]) (vals := vLw n L) (ev := [.int .i64 (i : Nat)]) hA rfl)
  refine all_brp (by simp only [decide_eq_true_eq]; exact Iff.rfl) (fun h1 => ?_) (fun h1 => all_ret fun _ _ _ h => out h)
  refine all_brp (by simp only [decide_eq_true_eq]; exact Iff.rfl) (fun h2 => all_ret fun env1 a1 w1 hA1 => ?_) (fun h2 => all_ret fun _ _ _ h => out h)
  simp only [Ex.to, Exit.then]
  refine (show (rgt round5).wp _ _ _ _ from wpS (by kernel_rfl) (wpB 1 (by kernel_rfl) ?_))
  refine (show bb5.wp _ _ _ _ from ?_)
  refine pieceNT0 (c := cfgSt q w c (sfn x.p) (rfn y.p) x y L (sNext x L w).2 (rNext y w).2 (sC x L c) (rC y c) (sfn (sNext x L w).1.p) (rfn (rNext y w).1.p) (sNext x L w).1 (rNext y w).1 (sStill (sNext x L w).1 L) (rStill (rNext y w).1) (SOk 80 w c x L ∧ x.p ≤ 3) (ROk 80 w c y ∧ y.p ≤ 3)) cfgSt_ok 1 n5i o_pick hA1 ?_
  have main : ∀ {w : List Int} {c : Int} {x : Snd} {y : Rcv} {A : Ab}, LI q n z L (i + 1) w c x y A → ∀ {env : Env} {a : Act} {W : World}, At [(0, 0)] w0 env (fr 130 n5i (vLi n L i)) (sLw q w c (sfn x.p) (rfn y.p) x y L) a W →
      (restC 1 bb5).wp Tryd.prog (Exit.inBlock 1 (Exit.then (inc5.wp Tryd.prog (RO5 w0 q n z L i)) (RO5 w0 q n z L i))) a W := by
    intro w c x y A h env a W hA
    obtain ⟨g1, g2, g3, g4, g5⟩ := h.small
    obtain ⟨s1, s2, s3, s4⟩ := ord_say h.rel h.ord
    refine pieceNT0 (c := cfgPs q w c (sfn x.p) (rfn y.p) x y L (outA L A) (inA A) True) (cfgPs_ok fun _ => ⟨g4.symm, g5.symm, g2, by omega⟩) 1 n5o o_pass hA ?_
    refine pass_needs (by omega) (by omega) ?_
    refine all_eq ⟨rfl, rfl, trivial⟩ ?_
    refine all_ret fun env1 a1 w1 hA1 => ?_
    simp only [Ex.to, Exit.then]
    have i1 : (inA A).length ≤ A.got.length := inK_len _ _
    have i2 : (outA L A).length ≤ A.sent.length := outK_len _ _ _
    rw [h.rel.s.sent] at g1
    rw [h.rel.r.got] at g3
    generalize outA L A = O at *
    generalize inA A = I at *
    refine (show (restC 2 bb5).wp Tryd.prog _ a1 w1 from ?_)
    refine pieceT0 (c := cfgTx q w c (sfn x.p) (rfn y.p) x y L O I True) (cfgTx_ok fun _ => ⟨s3, s1, by omega⟩) n5i (o_chk (O := O) (I := I)) hA1 ?_
    refine all_brp (by simp only [decide_eq_true_eq]; exact Iff.rfl) (fun hh => by exfalso; omega) (fun _ => ?_)
    refine all_needq (by simp only [inR_i64]; exact Iff.rfl) (by omega) ?_
    refine all_brp (by simp only [decide_eq_true_eq]; exact Iff.rfl) (fun hh => by exfalso; omega) (fun _ => ?_)
    refine all_needq (by simp only [decide_eq_true_eq, Bool.and_eq_true]; exact Iff.rfl) (by omega) ?_
    refine all_need (decide_eq_true (Nat.zero_le _)) fun _ => ?_
    refine all_eq ⟨rfl, rfl, trivial⟩ ?_
    refine all_ret fun env2 a2 w2 hA2 => ?_
    simp only [Ex.to, Exit.inBlock, Exit.then]
    refine pieceT0 (c := cfgM) cfgM_ok n5i o_inc hA2 ?_
    refine all_needp (by simp only [inR_i64]; exact Iff.rfl) (by omega) fun _ => all_ret fun env4 a4 w4 hA4 => ?_
    exact ⟨i + 1, ⟨by omega, w, c, x, y, A, h, env4, hA4⟩, by omega⟩
  have hs := h.s
  have hr := h.r
  have hrok := rel_rok h.rel (c := c) (by omega)
  have hsok := rel_sok h.rel (c := c) (by omega)
  generalize (rNext y w).1 = y2 at *
  generalize (rNext y w).2 = w2 at *
  generalize rC y c = c2 at *
  generalize (sNext x L w).1 = x1 at *
  generalize (sNext x L w).2 = w1 at *
  generalize sC x L c = c1 at *
  simp only [Int.toNat_natCast]
  refine all_needq (by simp only [decide_eq_true_eq, Bool.and_eq_true]; exact Iff.rfl) (by omega) ?_
  refine all_needq (by simp only [decide_eq_true_eq]; exact Iff.rfl) (by omega) ?_
  refine all_br (fun _ => ?_) (fun _ => ?_)
  · refine all_eq ⟨by first | exact True.intro | rfl, by first | exact True.intro | rfl, hsok⟩ (all_ret fun env2 a2 w2 hA2 => ?_)
    simp only [Ex.to, Exit.then]
    have hA3 := hA2.perm idK (by kernel_rfl) (by kernel_rfl) (st' := sLw q w1 c1 (sfn x1.p) (rfn y.p) x1 y L) (vals' := vLi n L i) (by kernel_rfl) (by kernel_rfl)
    exact (show (restC 1 bb5).wp Tryd.prog _ a2 w2 from main hs hA3)
  · refine all_eq ⟨by first | exact True.intro | rfl, by first | exact True.intro | rfl, hrok⟩ (all_ret fun env2 a2 w3 hA2 => ?_)
    simp only [Ex.to, Exit.then]
    have hA3 := hA2.perm idK (by kernel_rfl) (by kernel_rfl) (st' := sLw q w2 c2 (sfn x.p) (rfn y2.p) x y2 L) (vals' := vLi n L i) (by kernel_rfl) (by kernel_rfl)
    exact (show (restC 1 bb5).wp Tryd.prog _ a2 w3 from main hr hA3)
theorem noFootR {e0 e1 e2 : Slot} {q : InR} (x : Nat) (h : inFoot [e0, e1, e2] (sB q) x) : False := by
  obtain ⟨id, e, b, he, hb, hx⟩ := h
  match id with
  | 0 => simp at hb; subst hb; cases hx
  | 1 => simp at hb; subst hb; cases hx
  | 2 => simp at hb; subst hb; cases hx
  | n + 3 => simp at hb
theorem b5_eq : Tryd.f5.body = some b5 := by kernel_rfl
set_option maxHeartbeats 2000000 in
theorem ringOrder_call {q : InR} {p s : Int} (hh : 0 ≤ q.h ∧ q.h < 4294967296) (hs : 0 ≤ s ∧ s ≤ 255) {e0 e1 e2 : Slot} (he : e0.blk = 0 ∧ e0.off = 0) {w : World} {v0 v1 v2 : Value} (hr : Rep [e0, e1, e2] (sB q) w) (h0 : Den [e0, e1, e2] (plV q 1 2) v0) (h1 : Den [e0, e1, e2] (.int .u8 p) v1) (h2 : Den [e0, e1, e2] (.int .u8 s) v2) :
    Calls Tryd.prog 5 ⟨[v0, v1, v2]⟩ w (Said ⟨w, fun _ => False⟩) := by
  refine call_begin (c := cfgM) Tryd.func5 b5_eq (args := [plV q 1 2, .int .u8 p, .int .u8 s]) (by
    intro p hp
    rw [List.mem_singleton.1 hp]
    exact ⟨e0, rfl, he⟩) hr ⟨_, _, rfl, h0, _, _, rfl, h1, _, _, rfl, h2, rfl⟩ (F := fun _ => False) (fun x h => noFootR x h) ?_
  intro a hA
  refine pieceNT0 (c := cfgBo q p s (nR p) (zR s) (lAll q (zR s)) True) (cfgBo_ok hh hs) 3 n5 o_pre hA ?_
  have hz := zR_ok hs
  have hn := nR_ok p
  have hfit : ∀ x ∈ lAll q (zR s), fitB (zR s) x := cutL_fit hz.1 q.ms (min q.ms.length 20)
  have hlen : (lAll q (zR s)).length = min q.ms.length 20 := cutL_len (zR s) q.ms (min q.ms.length 20)
  generalize nR p = n at *
  generalize zR s = z at *
  generalize lAll q z = L at *
  refine all_eq ⟨rfl, rfl, trivial⟩ (all_eq rfl (all_ret fun env1 a1 w1 hA1 => ?_))
  simp only [Ex.to, Exit.then]
  have hA2 := hA1.perm [0, 5, 4, 6, 7, 8, 9, 10, 11, 12, 1, 2, 3] (by kernel_rfl) (by kernel_rfl) (st' := sLw q (w80 q.h) 2 30 31 (snd0 n z) (rcv0 n z) L) (vals' := vLw n L) (by kernel_rfl) (by kernel_rfl)
  refine (show c5.wp Tryd.prog (Q5 ⟨w, fun _ => False⟩) a1 w1 from wpS (by kernel_rfl) (wpS (by kernel_rfl) ?_))
  refine pieceT0 (c := cfgM) cfgM_ok n5i o_reg hA2 (all_ret fun env2 a2 w2 hA3 => ?_)
  simp only [Ex.to, Exit.then]
  have hA4 := hA3.gvals (vLi n L 0) rfl
  refine wpB 0 (by kernel_rfl) (wpL (by kernel_rfl) (InvO ⟨w, fun _ => False⟩ q n z L) (fun i => 250 - i) 0 ⟨Nat.zero_le _, w80 q.h, 2, snd0 n z, rcv0 n z, ab0, ⟨rel_start hn hz hh (by omega) hfit, ord_start L, by simp⟩, env2, hA4⟩ ?_)
  intro i a w h
  exact roundO_ok h
end Go.Proofs.YtplbncncnjiahaaDoor

/- RingOrder: its row and its card. -/
namespace Go.Proofs.YtplbncncnjiahaaDoor
open Go Go.Proofs.YtplbncncnjiahaaDoor.Sx Go.ChangeShapes Go.WideShapes Go.ChangeAt Go.RowKit
set_option linter.unusedVariables false
set_option maxRecDepth 100000 in
theorem ringOrder_lifted (os : Os) (started : os.Started) (H : Type) (enc : TypeId × Value → H) :
    ReturnsInHanded {} Tryd.checked os 5 .any (fun w args => (Rows.ringOrderSpec.pre enc Tryd.prog Tryd.f5 [] false w args ∧ laidMetH Tryd.prog laid1 w) ∧ sizedMet enc Tryd.prog Tryd.f5 (OpenSpec.ofChange Rows.ringOrderSpec) false w args)
      (Rows.ringOrderSpec.post enc Tryd.prog Tryd.f5 false true false false) := by
  refine returnsInHanded_of_change_and (C := Tryd.checked) (X := fun w _ => laidMetH Tryd.prog laid1 w) (fun _ _ _ hh h => h.of_heap hh) Tryd.own started (by kernel_rfl) Tryd.func5
    (ChangeSpec.witness_shaped (enc := enc) (C := Tryd.checked) (os := os) (X := fun w _ => laidMetH Tryd.prog laid1 w) false (World.doorLaid Tryd.prog 400 os) #[.agg #[.int .u32 0, .int .u32 0, .slice none 0 0, .slice none 0 0], .int .u8 0, .int .u8 0] 8 rfl (World.shaped_of_RefB (by kernel_rfl) (by kernel_rfl)) (by kernel_rfl) (by kernel_rfl) (by kernel_rfl) (door_met os _)) ?_
  intro W base args ds gs before hval0 hW _ _ hL _
  have hval : ∀ (j : Nat) t v, Tryd.f5.params[j]? = some t → args[j]? = some v → Value.okWide Tryd.prog W .any base t v := hval0
  have hW' := hW
  obtain ⟨p, q, hA0, hV, rfl, hfz, hnd⟩ := hW
  have hA : DataW.TrodAll enc Tryd.prog W 0 (fun _ => true) true Tryd.f5.params.toList args.toList ds p := hA0
  rw [Tryd.params5] at hA hval
  obtain ⟨v0, v1, v2, d0, d1, d2, p0, p1, p2, rfl, rfl, rfl, h0, h1, h2⟩ := trodAll_three hA
  obtain ⟨rfl, rfl⟩ := trodVars_none hV
  obtain ⟨hh, ht, va, vb, rfl, wh, wt, ⟨ms, c1, s1, hr1, hd1⟩, ⟨ks, c2, s2, hr2, hd2⟩⟩ := open_play (hval 0 43 v0 rfl rfl) h0
  obtain ⟨x1, rfl, wx1⟩ := open_byteR (hval 1 5 v1 rfl rfl) h1
  obtain ⟨x2, rfl, wx2⟩ := open_byteR (hval 2 5 v2 rfl rfl) h2
  clear hA0 hval0
  have hlt0 : ∀ x ∈ p0, x.block < W.heap.size := fun x hx => by simpa using hW'.lt x (by simp [hx])
  have hlt1 : ∀ x ∈ p1, x.block < W.heap.size := fun x hx => by simpa using hW'.lt x (by simp [hx])
  have hlt2 : ∀ x ∈ p2, x.block < W.heap.size := fun x hx => by simpa using hW'.lt x (by simp [hx])
  obtain ⟨e0, he, hr0⟩ := of_laid hL
  have fin : ∀ e W', Said ⟨W, fun _ => False⟩ e W' → ∃ v, e = .returned v ∧ Rows.ringOrderSpec.post enc Tryd.prog Tryd.f5 false true false false W #[playV hh ht va vb, .int .u8 x1, .int .u8 x2] v W' := by
    rintro e W' ⟨rfl, hsz, hk, hc⟩
    have hk' : ∀ x, x < W.heap.size → W'.heap[x]? = W.heap[x]? := fun x hx => hk x hx (fun h => h)
    refine ⟨_, rfl, _, _, _, [], _, [], hW', ⟨[], [], shut_bool Tryd.underlying4 true, rfl, rfl⟩, trodAll_mk3 (trod_same Tryd.laidOut (by kernel_rfl) (of_decide_eq_true (by kernel_rfl)) h0 hk' hlt0) (trod_same Tryd.laidOut (by kernel_rfl) (of_decide_eq_true (by kernel_rfl)) h1 hk' hlt1) (trod_same Tryd.laidOut (by kernel_rfl) (of_decide_eq_true (by kernel_rfl)) h2 hk' hlt2), rfl, keptBut_of _ hc hk', fun h => by cases h⟩
  obtain ⟨hq1, hn1⟩ := ro_add hr0 (by intro b hb e; rw [List.mem_singleton.1 hb]; rfl) rfl hr1
  obtain ⟨hr, _⟩ := ro_add hq1 hn1 rfl hr2
  have g1 : Den ([e0, s1] ++ [s2]) (plV ⟨hh, ht, ms, c1, ks, c2⟩ 1 2) (playV hh ht va vb) := den_play (q := ⟨hh, ht, ms, c1, ks, c2⟩) (den_wide (den_add (env := [e0]) (n := 1) hd1 rfl)) (den_add (env := [e0, s1]) (n := 2) hd2 rfl)
  exact (ringOrder_call (q := ⟨hh, ht, ms, c1, ks, c2⟩) (p := x1) (s := x2) wh wx2 he hr g1 rfl rfl).mono fun e W' h => fin e W' h
theorem ringOrder_row : Rows.RingOrderSaid :=
  OpenClaim.holds_of_wide 5 Tryd.f5 rfl rfl rfl rfl rfl rfl rfl ⟨rfl, rfl, rfl, rfl, rfl⟩ rfl rfl rfl rfl rfl (by kernel_rfl) Tryd.func5 (by kernel_rfl)
    (of_decide_eq_true (by kernel_rfl)) (by unfold Func.isWrapper; first | (rw [if_pos (by decide +kernel)]; kernel_rfl) | (rw [if_neg (by decide +kernel)]; exact ⟨rfl, rfl⟩))
    (fun os started H enc _ => ringOrder_lifted os started H enc)
theorem ringOrder_holds : Rows.RingOrderCardSaid :=
  Claim7.holds_tied_plain_at .later [] [.data] true _ _ ringOrder_row (fun _ h => by cases h) (by kernel_rfl) (fun _ h => by cases h) ringOrder_row_tie rfl ⟨rfl, rfl⟩ (by kernel_rfl) rfl
    (fun f fn hf hfn => by
      obtain rfl : f = 5 := Option.some.inj ((show Tryd.prog.funcNamed "purlin/purlinlaw12.RingOrder" = some 5 by kernel_rfl).symm.trans hf) |>.symm
      obtain rfl : fn = Tryd.f5 := (Option.some.inj (Tryd.func5.symm.trans hfn)).symm
      exact ⟨by kernel_rfl, fun j t ht => by
        rw [Tryd.params5] at ht
        have hm : t ∈ [43, 5, 5] := by simpa using Array.mem_of_getElem? ht
        have hall : ([43, 5, 5].all fun u => !Tryd.prog.wantsStandIn u) = true := by kernel_rfl
        exact (show Tryd.prog.wantsStandIn t = false by simpa using List.all_eq_true.1 hall t hm)⟩)
    (by kernel_rfl)
end Go.Proofs.YtplbncncnjiahaaDoor

