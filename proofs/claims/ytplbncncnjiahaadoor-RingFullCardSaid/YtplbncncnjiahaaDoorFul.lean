/- RingFull holds for every input: a message isn't sent just where the ring was full when it was begun; a try receives nothing just where it was empty. -/
import Derived.Test.YtplbncncnjiahaaDoorRgc
/- RingFull: pieces, and its plain law. -/
namespace Go.Proofs.YtplbncncnjiahaaDoor
open Go Go.Proofs.YtplbncncnjiahaaDoor.Sx
set_option linter.unusedVariables false
noncomputable def b6 : Code := Tryd.f6.body.getD .skip
noncomputable def c6 : Code := restC 5 b6
noncomputable def reg6 : Code := lft (lft c6)
noncomputable def blk6 : Code := rgt (lft c6)
noncomputable def round6 : Code := lft (lft blk6)
noncomputable def tm6 : Code := lft round6
noncomputable def bb6 : Code := lft (lft (rgt round6))
noncomputable def inc6 : Code := rgt (rgt round6)
noncomputable def end6 : Code := rgt c6
noncomputable def sel6 : Code := lft (lft (restC 1 bb6))
noncomputable def cnd6 : Code := rgt (lft (restC 1 bb6))
noncomputable def snd6 : Code := lft cnd6
noncomputable def rcv6 : Code := restC 2 bb6
abbrev nF : List Nat := [3, 7, 8, 9, 10, 11, 12, 13, 14, 15]
abbrev nFi : List Nat := [3, 7, 8, 9, 10, 11, 12, 13, 14, 15, 16]
abbrev nFo : List Nat := [3, 7, 8, 9, 10, 11, 12, 13, 14, 15, 16, 17, 18]
abbrev nFp : List Nat := [3, 7, 8, 9, 10, 11, 12, 13, 14, 15, 16, 17, 18, 65]
abbrev nFs : List Nat := [3, 7, 8, 9, 10, 11, 12, 13, 14, 15, 16, 19]
abbrev nFr : List Nat := [3, 7, 8, 9, 10, 11, 12, 13, 14, 15, 16, 21]
abbrev vF (n : Int) (L : List ByteArray) (bg fl st em : Bool) : List SVal := [.ptr 12 0, .ptr 2 0, .ptr 3 0, .ptr 6 0, .sli 9 (.c 0) 1 (.v L.length) none, .int .i64 n, .sb bg, .sb fl, .sb st, .sb em]
abbrev vFi (n : Int) (L : List ByteArray) (bg fl st em : Bool) (i : Nat) : List SVal := vF n L bg fl st em ++ [.int .i64 (i : Nat)]
abbrev vFo (n : Int) (L : List ByteArray) (bg fl st em : Bool) (i : Nat) (O I : List ByteArray) : List SVal := vFi n L bg fl st em i ++ [.sli 13 (.c 0) 1 (.v O.length) none, .sli 14 (.c 0) 1 (.v I.length) none]
end Go.Proofs.YtplbncncnjiahaaDoor

namespace Go.Proofs.YtplbncncnjiahaaDoor
open Go Go.Proofs.YtplbncncnjiahaaDoor.Sx
set_option linter.unusedVariables false
set_option maxRecDepth 100000 in
theorem f_pre {q : InR} {p s n z : Int} {L : List ByteArray} {P : Prop} : (execN (cfgBo q p s n z L P) 100 5 b6 ([plV q 1 2, .int .u8 p, .int .u8 s] ++ List.replicate 120 .bad) (sB q)).bind (canonK 4 [(0,0)] 123 nF) =
 

 (.eq ([SVal.agg [.int .u32 q.1, .int .u32 q.2, .sli 1 (.c 0) 1 (.v q.3.length) (some (.v q.4)), .sli 2 (.c 0) 1 (.v q.5.length) (some (.v q.6))], .int .u8 p, .int .u8 s] = [SVal.agg [.int .u32 q.1, .int .u32 q.2, .sli 1 (.c 0) 1 (.v q.3.length) (some (.v q.4)), .sli 2 (.c 0) 1 (.v q.5.length) (some (.v q.6))], .int .u8 p, .int .u8 s] ∧ [Blk.ro encLook [PUnit.unit], .ro encStr q.3, .ro (encInt IntKind.u8) q.5, .own [.c (.int .u32 q.1), .c (.int .u32 q.2), .c (.sli 1 (.c 0) 1 (.v q.3.length) (some (.v q.4))), .c (.sli 2 (.c 0) 1 (.v q.5.length) (some (.v q.6)))] 43] = [Blk.ro encLook [PUnit.unit], .ro encStr q.3, .ro (encInt IntKind.u8) q.5, .own [.c (.int .u32 q.1), .c (.int .u32 q.2), .c (.sli 1 (.c 0) 1 (.v q.3.length) (some (.v q.4))), .c (.sli 2 (.c 0) 1 (.v q.5.length) (some (.v q.6)))] 43] ∧ P)

 (.eq (some [Blk.ro encLook [PUnit.unit]] = some [Blk.ro encLook [PUnit.unit]])

 (.ret (.normal, [.ptr 3 0, .ptr 4 0, .ptr 6 0, .ptr 9 0, .sli 12 (.c 0) 1 (.v L.length) none, .int .i64 n, .bl true, .bl false, .bl true, .bl false], [.ro encLook [PUnit.unit], .ro encStr q.3, .ro (encInt IntKind.u8) q.5, .own [.c (.int .u32 q.1), .c (.int .u32 q.2), .c (.sli 1 (.c 0) 1 (.v q.3.length) (some (.v q.4))), .c (.sli 2 (.c 0) 1 (.v q.5.length) (some (.v q.6)))] 43, .own [.c (.sli 5 (.c 0) 1 (.v 80) (some (.v 80))), .c (.int .i64 (2 : Int))] 80, .own [.a (encInt IntKind.u32) 80 (((List.replicate 80 (0 : Int)).set 0 q.1).set 1 q.1)] 40, .own [.c (.int .i64 (0 : Int)), .c (.int .i64 n), .c (.int .i64 z), .c (SVal.fn (Fn.func 30) [.ptr 6 0] []), .c (.int .u32 (0 : Int)), .c (.int .u32 (0 : Int)), .c (.int .i64 (0 : Int)), .c (.sli 7 (.c 0) 1 (.v L.length) none), .c (.sli 8 (.c 0) 1 (.v 0) none)] 76, .vec encStr L 9, .vec encBool [] 4, .own [.c (.int .i64 (0 : Int)), .c (.int .i64 n), .c (.int .i64 z), .c (SVal.fn (Fn.func 31) [.ptr 9 0] []), .c (.int .u32 (0 : Int)), .c (.int .u32 (0 : Int)), .c (.int .i64 (0 : Int)), .c (.int .i64 (40 : Int)), .c (.int .i64 (0 : Int)), .c (.sli 10 (.c 0) 1 (.v 0) none), .c (.sli 11 (.c 0) 1 (.v 0) none)] 78, .vec (encInt IntKind.u8) [] 5, .vec encStr [] 9, .vec encStr L 9])))) := by kernel_rfl
set_option maxRecDepth 100000 in
theorem f_reg {q : InR} {w : List Int} {c : Int} {f g : Nat} {x : Snd} {y : Rcv} {L : List ByteArray} {n : Int} {bg fl st em : Bool} : (exec cfgM 100 reg6 (fr 123 nF (vF n L bg fl st em)) (sLw q w c f g x y L)).bind (canonK 13 [(0,0)] 123 nFi) =
 

 (.ret (.normal, [.ptr 12 0, .ptr 2 0, .ptr 3 0, .ptr 6 0, .sli 9 (.c 0) 1 (.v L.length) none, .int .i64 n, .sb bg, .sb fl, .sb st, .sb em, .lit .i64 (0 : Int)], [.ro encLook [PUnit.unit], .own [.a (encInt IntKind.u32) 80 w] 40, .own [.c (.sli 1 (.c 0) 1 (.v 80) (some (.v 80))), .c (.int .i64 c)] 80, .own [.c (.int .i64 x.1), .c (.int .i64 x.2), .c (.int .i64 x.3), .c (SVal.fn (Fn.func f) [.ptr 3 0] []), .c (.int .u32 x.4), .c (.int .u32 x.5), .c (.int .i64 x.6), .c (.sli 4 (.c 0) 1 (.v L.length) none), .c (.sli 5 (.c 0) 1 (.v x.7.length) none)] 76, .vec encStr L 9, .vec encBool x.7 4, .own [.c (.int .i64 y.1), .c (.int .i64 y.2), .c (.int .i64 y.3), .c (SVal.fn (Fn.func g) [.ptr 6 0] []), .c (.int .u32 y.4), .c (.int .u32 y.5), .c (.int .i64 y.6), .c (.int .i64 y.7), .c (.int .i64 y.8), .c (.sli 7 (.c 0) 1 (.v y.9.length) none), .c (.sli 8 (.c 0) 1 (.v y.10.length) none)] 78, .vec (encInt IntKind.u8) y.9 5, .vec encStr y.10 9, .vec encStr L 9, .ro encStr q.3, .ro (encInt IntKind.u8) q.5, .own [.c (.int .u32 q.1), .c (.int .u32 q.2), .c (.sli 10 (.c 0) 1 (.v q.3.length) (some (.v q.4))), .c (.sli 11 (.c 0) 1 (.v q.5.length) (some (.v q.6)))] 43])) := by kernel_rfl
set_option maxRecDepth 100000 in
theorem f_tm {q : InR} {w : List Int} {c : Int} {f g : Nat} {x : Snd} {y : Rcv} {L : List ByteArray} {n : Int} {bg fl st em : Bool} {i : Nat} : (exec cfgM 100 tm6 (fr 123 nFi (vFi n L bg fl st em i)) (sLw q w c f g x y L)).bind (canonK 13 [(0,0)] 123 nFi) =
 

 (.br (decide ((↑i : Int) < (↑q.5.length : Int)))

 (.br (decide ((↑i : Int) < (250 : Int)))

 (.ret (.normal, [.ptr 12 0, .ptr 2 0, .ptr 3 0, .ptr 6 0, .sli 9 (.c 0) 1 (.v L.length) none, .int .i64 n, .sb bg, .sb fl, .sb st, .sb em, .int .i64 (↑i : Int)], [.ro encLook [PUnit.unit], .own [.a (encInt IntKind.u32) 80 w] 40, .own [.c (.sli 1 (.c 0) 1 (.v 80) (some (.v 80))), .c (.int .i64 c)] 80, .own [.c (.int .i64 x.1), .c (.int .i64 x.2), .c (.int .i64 x.3), .c (SVal.fn (Fn.func f) [.ptr 3 0] []), .c (.int .u32 x.4), .c (.int .u32 x.5), .c (.int .i64 x.6), .c (.sli 4 (.c 0) 1 (.v L.length) none), .c (.sli 5 (.c 0) 1 (.v x.7.length) none)] 76, .vec encStr L 9, .vec encBool x.7 4, .own [.c (.int .i64 y.1), .c (.int .i64 y.2), .c (.int .i64 y.3), .c (SVal.fn (Fn.func g) [.ptr 6 0] []), .c (.int .u32 y.4), .c (.int .u32 y.5), .c (.int .i64 y.6), .c (.int .i64 y.7), .c (.int .i64 y.8), .c (.sli 7 (.c 0) 1 (.v y.9.length) none), .c (.sli 8 (.c 0) 1 (.v y.10.length) none)] 78, .vec (encInt IntKind.u8) y.9 5, .vec encStr y.10 9, .vec encStr L 9, .ro encStr q.3, .ro (encInt IntKind.u8) q.5, .own [.c (.int .u32 q.1), .c (.int .u32 q.2), .c (.sli 10 (.c 0) 1 (.v q.3.length) (some (.v q.4))), .c (.sli 11 (.c 0) 1 (.v q.5.length) (some (.v q.6)))] 43]))

 (.ret (.exit 0, [.ptr 12 0, .ptr 2 0, .ptr 3 0, .ptr 6 0, .sli 9 (.c 0) 1 (.v L.length) none, .int .i64 n, .sb bg, .sb fl, .sb st, .sb em, .int .i64 (↑i : Int)], [.ro encLook [PUnit.unit], .own [.a (encInt IntKind.u32) 80 w] 40, .own [.c (.sli 1 (.c 0) 1 (.v 80) (some (.v 80))), .c (.int .i64 c)] 80, .own [.c (.int .i64 x.1), .c (.int .i64 x.2), .c (.int .i64 x.3), .c (SVal.fn (Fn.func f) [.ptr 3 0] []), .c (.int .u32 x.4), .c (.int .u32 x.5), .c (.int .i64 x.6), .c (.sli 4 (.c 0) 1 (.v L.length) none), .c (.sli 5 (.c 0) 1 (.v x.7.length) none)] 76, .vec encStr L 9, .vec encBool x.7 4, .own [.c (.int .i64 y.1), .c (.int .i64 y.2), .c (.int .i64 y.3), .c (SVal.fn (Fn.func g) [.ptr 6 0] []), .c (.int .u32 y.4), .c (.int .u32 y.5), .c (.int .i64 y.6), .c (.int .i64 y.7), .c (.int .i64 y.8), .c (.sli 7 (.c 0) 1 (.v y.9.length) none), .c (.sli 8 (.c 0) 1 (.v y.10.length) none)] 78, .vec (encInt IntKind.u8) y.9 5, .vec encStr y.10 9, .vec encStr L 9, .ro encStr q.3, .ro (encInt IntKind.u8) q.5, .own [.c (.int .u32 q.1), .c (.int .u32 q.2), .c (.sli 10 (.c 0) 1 (.v q.3.length) (some (.v q.4))), .c (.sli 11 (.c 0) 1 (.v q.5.length) (some (.v q.6)))] 43])))

 (.ret (.exit 0, [.ptr 12 0, .ptr 2 0, .ptr 3 0, .ptr 6 0, .sli 9 (.c 0) 1 (.v L.length) none, .int .i64 n, .sb bg, .sb fl, .sb st, .sb em, .int .i64 (↑i : Int)], [.ro encLook [PUnit.unit], .own [.a (encInt IntKind.u32) 80 w] 40, .own [.c (.sli 1 (.c 0) 1 (.v 80) (some (.v 80))), .c (.int .i64 c)] 80, .own [.c (.int .i64 x.1), .c (.int .i64 x.2), .c (.int .i64 x.3), .c (SVal.fn (Fn.func f) [.ptr 3 0] []), .c (.int .u32 x.4), .c (.int .u32 x.5), .c (.int .i64 x.6), .c (.sli 4 (.c 0) 1 (.v L.length) none), .c (.sli 5 (.c 0) 1 (.v x.7.length) none)] 76, .vec encStr L 9, .vec encBool x.7 4, .own [.c (.int .i64 y.1), .c (.int .i64 y.2), .c (.int .i64 y.3), .c (SVal.fn (Fn.func g) [.ptr 6 0] []), .c (.int .u32 y.4), .c (.int .u32 y.5), .c (.int .i64 y.6), .c (.int .i64 y.7), .c (.int .i64 y.8), .c (.sli 7 (.c 0) 1 (.v y.9.length) none), .c (.sli 8 (.c 0) 1 (.v y.10.length) none)] 78, .vec (encInt IntKind.u8) y.9 5, .vec encStr y.10 9, .vec encStr L 9, .ro encStr q.3, .ro (encInt IntKind.u8) q.5, .own [.c (.int .u32 q.1), .c (.int .u32 q.2), .c (.sli 10 (.c 0) 1 (.v q.3.length) (some (.v q.4))), .c (.sli 11 (.c 0) 1 (.v q.5.length) (some (.v q.6)))] 43]))) := by kernel_rfl
set_option maxRecDepth 100000 in
theorem f_pass {q : InR} {w : List Int} {c : Int} {f g : Nat} {x : Snd} {y : Rcv} {L O I : List ByteArray} {n : Int} {bg fl st em : Bool} {i : Nat} {P : Prop} : (execN (cfgPs q w c f g x y L O I P) 100 1 bb6 (fr 123 nFi (vFi n L bg fl st em i)) (sLw q w c f g x y L)).bind (canonK 13 [(0,0)] 123 nFo) =
 

 (.need (decide ((0 : Int) ≤ (↑x.7.length : Int)))

 (.need (decide ((↑x.7.length : Int) * (↑1 : Int) ≤ (140737488355328 : Int)))

 (.need (decide ((↑x.7.length : Int) ≤ (4611686018427387904 : Int)))

 (.need (decide (0 + x.7.length ≤ x.7.length))

 (.need (decide ((↑x.7.length : Int).toNat = (List.take x.7.length (List.drop 0 x.7)).length))

 (.need (decide ((↑x.7.length : Int).toNat * 1 + 0 = (List.take x.7.length (List.drop 0 x.7)).length * 1))

 (.need ((List.take x.7.length (List.drop 0 x.7)).all fun x => (encBool.enc x).all scalar)

 (.need (decide (0 + y.10.length ≤ y.10.length))

 (.need (decide (0 + y.10.length ≤ y.10.length))

 (.need (roomy (List.take y.10.length (List.drop 0 y.10)).length 16)

 (.eq ([SVal.sli 9 (.c 0) 1 (.v L.length) none, .sli 13 (.c 0) 1 (.v (↑x.7.length : Int).toNat) (some (.v (↑x.7.length : Int).toNat)), .sli 15 (.c 0) 1 (.v (List.take y.10.length (List.drop 0 y.10)).length) none] = [SVal.sli 9 (.c 0) 1 (.v L.length) none, .sli 13 (.c 0) 1 (.v x.7.length) (some (.v x.7.length)), .sli 15 (.c 0) 1 (.v (List.take y.10.length y.10).length) none] ∧ [Blk.ro encLook [PUnit.unit], .own [.a (encInt IntKind.u32) 80 w] 40, .own [.c (.sli 1 (.c 0) 1 (.v 80) (some (.v 80))), .c (.int .i64 c)] 80, .own [.c (.int .i64 x.1), .c (.int .i64 x.2), .c (.int .i64 x.3), .c (SVal.fn (Fn.func f) [.ptr 3 0] []), .c (.int .u32 x.4), .c (.int .u32 x.5), .c (.int .i64 x.6), .c (.sli 4 (.c 0) 1 (.v L.length) none), .c (.sli 5 (.c 0) 1 (.v x.7.length) none)] 76, .vec encStr L 9, .vec encBool x.7 4, .own [.c (.int .i64 y.1), .c (.int .i64 y.2), .c (.int .i64 y.3), .c (SVal.fn (Fn.func g) [.ptr 6 0] []), .c (.int .u32 y.4), .c (.int .u32 y.5), .c (.int .i64 y.6), .c (.int .i64 y.7), .c (.int .i64 y.8), .c (.sli 7 (.c 0) 1 (.v y.9.length) none), .c (.sli 8 (.c 0) 1 (.v y.10.length) none)] 78, .vec (encInt IntKind.u8) y.9 5, .vec encStr y.10 9, .vec encStr L 9, .ro encStr q.3, .ro (encInt IntKind.u8) q.5, .own [.c (.int .u32 q.1), .c (.int .u32 q.2), .c (.sli 10 (.c 0) 1 (.v q.3.length) (some (.v q.4))), .c (.sli 11 (.c 0) 1 (.v q.5.length) (some (.v q.6)))] 43, .own [.a encBool (List.take x.7.length (List.drop 0 x.7)).length (List.take x.7.length (List.drop 0 x.7))] 4, .gone, .vec encStr (List.take y.10.length (List.drop 0 y.10)) 9] = [Blk.ro encLook [PUnit.unit], .own [.a (encInt IntKind.u32) 80 w] 40, .own [.c (.sli 1 (.c 0) 1 (.v 80) (some (.v 80))), .c (.int .i64 c)] 80, .own [.c (.int .i64 x.1), .c (.int .i64 x.2), .c (.int .i64 x.3), .c (SVal.fn (Fn.func f) [.ptr 3 0] []), .c (.int .u32 x.4), .c (.int .u32 x.5), .c (.int .i64 x.6), .c (.sli 4 (.c 0) 1 (.v L.length) none), .c (.sli 5 (.c 0) 1 (.v x.7.length) none)] 76, .vec encStr L 9, .vec encBool x.7 4, .own [.c (.int .i64 y.1), .c (.int .i64 y.2), .c (.int .i64 y.3), .c (SVal.fn (Fn.func g) [.ptr 6 0] []), .c (.int .u32 y.4), .c (.int .u32 y.5), .c (.int .i64 y.6), .c (.int .i64 y.7), .c (.int .i64 y.8), .c (.sli 7 (.c 0) 1 (.v y.9.length) none), .c (.sli 8 (.c 0) 1 (.v y.10.length) none)] 78, .vec (encInt IntKind.u8) y.9 5, .vec encStr y.10 9, .vec encStr L 9, .ro encStr q.3, .ro (encInt IntKind.u8) q.5, .own [.c (.int .u32 q.1), .c (.int .u32 q.2), .c (.sli 10 (.c 0) 1 (.v q.3.length) (some (.v q.4))), .c (.sli 11 (.c 0) 1 (.v q.5.length) (some (.v q.6)))] 43, .own [.a encBool (List.take x.7.length x.7).length (List.take x.7.length x.7)] 4, .gone, .vec encStr (List.take y.10.length y.10) 9] ∧ P)

 (.ret (.normal, [.ptr 12 0, .ptr 2 0, .ptr 3 0, .ptr 6 0, .sli 9 (.c 0) 1 (.v L.length) none, .int .i64 n, .sb bg, .sb fl, .sb st, .sb em, .int .i64 (↑i : Int), .sli 13 (.c 0) 1 (.v O.length) none, .sli 14 (.c 0) 1 (.v I.length) none], [.ro encLook [PUnit.unit], .own [.a (encInt IntKind.u32) 80 w] 40, .own [.c (.sli 1 (.c 0) 1 (.v 80) (some (.v 80))), .c (.int .i64 c)] 80, .own [.c (.int .i64 x.1), .c (.int .i64 x.2), .c (.int .i64 x.3), .c (SVal.fn (Fn.func f) [.ptr 3 0] []), .c (.int .u32 x.4), .c (.int .u32 x.5), .c (.int .i64 x.6), .c (.sli 4 (.c 0) 1 (.v L.length) none), .c (.sli 5 (.c 0) 1 (.v x.7.length) none)] 76, .vec encStr L 9, .vec encBool x.7 4, .own [.c (.int .i64 y.1), .c (.int .i64 y.2), .c (.int .i64 y.3), .c (SVal.fn (Fn.func g) [.ptr 6 0] []), .c (.int .u32 y.4), .c (.int .u32 y.5), .c (.int .i64 y.6), .c (.int .i64 y.7), .c (.int .i64 y.8), .c (.sli 7 (.c 0) 1 (.v y.9.length) none), .c (.sli 8 (.c 0) 1 (.v y.10.length) none)] 78, .vec (encInt IntKind.u8) y.9 5, .vec encStr y.10 9, .vec encStr L 9, .ro encStr q.3, .ro (encInt IntKind.u8) q.5, .own [.c (.int .u32 q.1), .c (.int .u32 q.2), .c (.sli 10 (.c 0) 1 (.v q.3.length) (some (.v q.4))), .c (.sli 11 (.c 0) 1 (.v q.5.length) (some (.v q.6)))] 43, .vec encStr O 9, .vec encStr I 9]))))))))))))) := by kernel_rfl
set_option maxRecDepth 100000 in
theorem f_sel {q : InR} {w : List Int} {c : Int} {f g : Nat} {x : Snd} {y : Rcv} {L O I : List ByteArray} {n : Int} {bg fl st em : Bool} {i : Nat} : (exec cfgM 100 sel6 (fr 123 nFo (vFo n L bg fl st em i O I)) (sLo q w c f g x y L O I)).bind (canonK 13 [(0,0)] 123 nFp) =
 

 (.need (decide ((0 : Int) ≤ (↑i : Int)) && decide ((↑i : Int).toNat < q.5.length))

 (.need (decide ((↑i : Int).toNat < q.5.length))

 (.ret (.normal, [.ptr 12 0, .ptr 2 0, .ptr 3 0, .ptr 6 0, .sli 9 (.c 0) 1 (.v L.length) none, .int .i64 n, .sb bg, .sb fl, .sb st, .sb em, .int .i64 (↑i : Int), .sli 13 (.c 0) 1 (.v O.length) none, .sli 14 (.c 0) 1 (.v I.length) none, .sb (bitop BinOp.and IntKind.u8 (q.5.getD (↑i : Int).toNat (0 : Int)) (1 : Int) == (0 : Int))], [.ro encLook [PUnit.unit], .own [.a (encInt IntKind.u32) 80 w] 40, .own [.c (.sli 1 (.c 0) 1 (.v 80) (some (.v 80))), .c (.int .i64 c)] 80, .own [.c (.int .i64 x.1), .c (.int .i64 x.2), .c (.int .i64 x.3), .c (SVal.fn (Fn.func f) [.ptr 3 0] []), .c (.int .u32 x.4), .c (.int .u32 x.5), .c (.int .i64 x.6), .c (.sli 4 (.c 0) 1 (.v L.length) none), .c (.sli 5 (.c 0) 1 (.v x.7.length) none)] 76, .vec encStr L 9, .vec encBool x.7 4, .own [.c (.int .i64 y.1), .c (.int .i64 y.2), .c (.int .i64 y.3), .c (SVal.fn (Fn.func g) [.ptr 6 0] []), .c (.int .u32 y.4), .c (.int .u32 y.5), .c (.int .i64 y.6), .c (.int .i64 y.7), .c (.int .i64 y.8), .c (.sli 7 (.c 0) 1 (.v y.9.length) none), .c (.sli 8 (.c 0) 1 (.v y.10.length) none)] 78, .vec (encInt IntKind.u8) y.9 5, .vec encStr y.10 9, .vec encStr L 9, .ro encStr q.3, .ro (encInt IntKind.u8) q.5, .own [.c (.int .u32 q.1), .c (.int .u32 q.2), .c (.sli 10 (.c 0) 1 (.v q.3.length) (some (.v q.4))), .c (.sli 11 (.c 0) 1 (.v q.5.length) (some (.v q.6)))] 43, .vec encStr O 9, .vec encStr I 9])))) := by kernel_rfl
set_option maxRecDepth 100000 in
theorem f_sa {q : InR} {w : List Int} {c : Int} {f g : Nat} {x : Snd} {y : Rcv} {L O I : List ByteArray} {n : Int} {bg fl st em : Bool} {i : Nat} : (execN cfgM 100 2 snd6 (fr 123 nFo (vFo n L bg fl st em i O I)) (sLo q w c f g x y L O I)).bind (canonK 13 [(0,0)] 123 nFs) =
 

 (.need (decide ((0 : Int) ≤ (↑x.7.length : Int)))

 (.need (decide ((↑x.7.length : Int) * (1 : Int) ≤ (140737488355328 : Int)))

 (.need (decide ((↑x.7.length : Int) ≤ (4611686018427387904 : Int)))

 (.need (decide (0 + x.7.length ≤ x.7.length))

 (.need (decide ((↑x.7.length : Int).toNat = (List.take x.7.length (List.drop 0 x.7)).length))

 (.need (decide ((↑x.7.length : Int).toNat * 1 + 0 = (List.take x.7.length (List.drop 0 x.7)).length * 1))

 (.need ((List.take x.7.length (List.drop 0 x.7)).all fun x => (encBool.enc x).all scalar)

 (.br (bg)

 (.need (inR .i64 ((↑O.length : Int) - (↑I.length : Int)))

 (.ret (.normal, [.ptr 12 0, .ptr 2 0, .ptr 3 0, .ptr 6 0, .sli 9 (.c 0) 1 (.v L.length) none, .int .i64 n, .sb bg, .sb ((↑O.length : Int) - (↑I.length : Int) == n), .sb st, .sb em, .int .i64 (↑i : Int), .int .i64 (↑(↑x.7.length : Int).toNat : Int)], [.ro encLook [PUnit.unit], .own [.a (encInt IntKind.u32) 80 w] 40, .own [.c (.sli 1 (.c 0) 1 (.v 80) (some (.v 80))), .c (.int .i64 c)] 80, .own [.c (.int .i64 x.1), .c (.int .i64 x.2), .c (.int .i64 x.3), .c (SVal.fn (Fn.func f) [.ptr 3 0] []), .c (.int .u32 x.4), .c (.int .u32 x.5), .c (.int .i64 x.6), .c (.sli 4 (.c 0) 1 (.v L.length) none), .c (.sli 5 (.c 0) 1 (.v x.7.length) none)] 76, .vec encStr L 9, .vec encBool x.7 4, .own [.c (.int .i64 y.1), .c (.int .i64 y.2), .c (.int .i64 y.3), .c (SVal.fn (Fn.func g) [.ptr 6 0] []), .c (.int .u32 y.4), .c (.int .u32 y.5), .c (.int .i64 y.6), .c (.int .i64 y.7), .c (.int .i64 y.8), .c (.sli 7 (.c 0) 1 (.v y.9.length) none), .c (.sli 8 (.c 0) 1 (.v y.10.length) none)] 78, .vec (encInt IntKind.u8) y.9 5, .vec encStr y.10 9, .vec encStr L 9, .ro encStr q.3, .ro (encInt IntKind.u8) q.5, .own [.c (.int .u32 q.1), .c (.int .u32 q.2), .c (.sli 10 (.c 0) 1 (.v q.3.length) (some (.v q.4))), .c (.sli 11 (.c 0) 1 (.v q.5.length) (some (.v q.6)))] 43])))

 (.ret (.normal, [.ptr 12 0, .ptr 2 0, .ptr 3 0, .ptr 6 0, .sli 9 (.c 0) 1 (.v L.length) none, .int .i64 n, .sb bg, .sb fl, .sb st, .sb em, .int .i64 (↑i : Int), .int .i64 (↑(↑x.7.length : Int).toNat : Int)], [.ro encLook [PUnit.unit], .own [.a (encInt IntKind.u32) 80 w] 40, .own [.c (.sli 1 (.c 0) 1 (.v 80) (some (.v 80))), .c (.int .i64 c)] 80, .own [.c (.int .i64 x.1), .c (.int .i64 x.2), .c (.int .i64 x.3), .c (SVal.fn (Fn.func f) [.ptr 3 0] []), .c (.int .u32 x.4), .c (.int .u32 x.5), .c (.int .i64 x.6), .c (.sli 4 (.c 0) 1 (.v L.length) none), .c (.sli 5 (.c 0) 1 (.v x.7.length) none)] 76, .vec encStr L 9, .vec encBool x.7 4, .own [.c (.int .i64 y.1), .c (.int .i64 y.2), .c (.int .i64 y.3), .c (SVal.fn (Fn.func g) [.ptr 6 0] []), .c (.int .u32 y.4), .c (.int .u32 y.5), .c (.int .i64 y.6), .c (.int .i64 y.7), .c (.int .i64 y.8), .c (.sli 7 (.c 0) 1 (.v y.9.length) none), .c (.sli 8 (.c 0) 1 (.v y.10.length) none)] 78, .vec (encInt IntKind.u8) y.9 5, .vec encStr y.10 9, .vec encStr L 9, .ro encStr q.3, .ro (encInt IntKind.u8) q.5, .own [.c (.int .u32 q.1), .c (.int .u32 q.2), .c (.sli 10 (.c 0) 1 (.v q.3.length) (some (.v q.4))), .c (.sli 11 (.c 0) 1 (.v q.5.length) (some (.v q.6)))] 43])))))))))) := by kernel_rfl
set_option maxRecDepth 100000 in
theorem f_sb {q : InR} {w : List Int} {c : Int} {f g : Nat} {x : Snd} {y : Rcv} {L : List ByteArray} {n : Int} {bg fl st em : Bool} {i : Nat} {u : Nat} {w1 w2 : List Int} {c1 c2 : Int} {f1 g2 : Nat} {x1 : Snd} {y2 : Rcv} {b1 b2 : Bool} {P1 P2 : Prop} : (execN (cfgSt q w c f g x y L w1 w2 c1 c2 f1 g2 x1 y2 b1 b2 P1 P2) 100 1 (restC 2 snd6) (fr 123 nFs (vFi n L bg fl st em i ++ [.int .i64 (u : Nat)])) (sLw q w c f g x y L)).bind (canonK 0 [(0,0)] 123 nFs) =
 

 (.eq ([SVal.ptr 3 0, .ptr 2 0] = [SVal.ptr 3 0, .ptr 2 0] ∧ [Blk.ro encLook [PUnit.unit], .own [.a (encInt IntKind.u32) 80 w] 40, .own [.c (.sli 1 (.c 0) 1 (.v 80) (some (.v 80))), .c (.int .i64 c)] 80, .own [.c (.int .i64 x.1), .c (.int .i64 x.2), .c (.int .i64 x.3), .c (SVal.fn (Fn.func f) [.ptr 3 0] []), .c (.int .u32 x.4), .c (.int .u32 x.5), .c (.int .i64 x.6), .c (.sli 4 (.c 0) 1 (.v L.length) none), .c (.sli 5 (.c 0) 1 (.v x.7.length) none)] 76, .vec encStr L 9, .vec encBool x.7 4, .own [.c (.int .i64 y.1), .c (.int .i64 y.2), .c (.int .i64 y.3), .c (SVal.fn (Fn.func g) [.ptr 6 0] []), .c (.int .u32 y.4), .c (.int .u32 y.5), .c (.int .i64 y.6), .c (.int .i64 y.7), .c (.int .i64 y.8), .c (.sli 7 (.c 0) 1 (.v y.9.length) none), .c (.sli 8 (.c 0) 1 (.v y.10.length) none)] 78, .vec (encInt IntKind.u8) y.9 5, .vec encStr y.10 9, .vec encStr L 9, .ro encStr q.3, .ro (encInt IntKind.u8) q.5, .own [.c (.int .u32 q.1), .c (.int .u32 q.2), .c (.sli 10 (.c 0) 1 (.v q.3.length) (some (.v q.4))), .c (.sli 11 (.c 0) 1 (.v q.5.length) (some (.v q.6)))] 43] = [Blk.ro encLook [PUnit.unit], .own [.a (encInt IntKind.u32) 80 w] 40, .own [.c (.sli 1 (.c 0) 1 (.v 80) (some (.v 80))), .c (.int .i64 c)] 80, .own [.c (.int .i64 x.1), .c (.int .i64 x.2), .c (.int .i64 x.3), .c (SVal.fn (Fn.func f) [.ptr 3 0] []), .c (.int .u32 x.4), .c (.int .u32 x.5), .c (.int .i64 x.6), .c (.sli 4 (.c 0) 1 (.v L.length) none), .c (.sli 5 (.c 0) 1 (.v x.7.length) none)] 76, .vec encStr L 9, .vec encBool x.7 4, .own [.c (.int .i64 y.1), .c (.int .i64 y.2), .c (.int .i64 y.3), .c (SVal.fn (Fn.func g) [.ptr 6 0] []), .c (.int .u32 y.4), .c (.int .u32 y.5), .c (.int .i64 y.6), .c (.int .i64 y.7), .c (.int .i64 y.8), .c (.sli 7 (.c 0) 1 (.v y.9.length) none), .c (.sli 8 (.c 0) 1 (.v y.10.length) none)] 78, .vec (encInt IntKind.u8) y.9 5, .vec encStr y.10 9, .vec encStr L 9, .ro encStr q.3, .ro (encInt IntKind.u8) q.5, .own [.c (.int .u32 q.1), .c (.int .u32 q.2), .c (.sli 10 (.c 0) 1 (.v q.3.length) (some (.v q.4))), .c (.sli 11 (.c 0) 1 (.v q.5.length) (some (.v q.6)))] 43] ∧ P1)

 (.ret (.normal, [.ptr 1 0, .ptr 4 0, .ptr 6 0, .ptr 9 0, .sli 12 (.c 0) 1 (.v L.length) none, .int .i64 n, .sb bg, .sb fl, .sb st, .sb em, .int .i64 (↑i : Int), .int .i64 (↑u : Int)], [.ro encLook [PUnit.unit], .own [.c (.int .u32 q.1), .c (.int .u32 q.2), .c (.sli 2 (.c 0) 1 (.v q.3.length) (some (.v q.4))), .c (.sli 3 (.c 0) 1 (.v q.5.length) (some (.v q.6)))] 43, .ro encStr q.3, .ro (encInt IntKind.u8) q.5, .own [.c (.sli 5 (.c 0) 1 (.v 80) (some (.v 80))), .c (.int .i64 c1)] 80, .own [.a (encInt IntKind.u32) 80 w1] 40, .own [.c (.int .i64 x1.1), .c (.int .i64 x1.2), .c (.int .i64 x1.3), .c (SVal.fn (Fn.func f1) [.ptr 6 0] []), .c (.int .u32 x1.4), .c (.int .u32 x1.5), .c (.int .i64 x1.6), .c (.sli 7 (.c 0) 1 (.v L.length) none), .c (.sli 8 (.c 0) 1 (.v x1.7.length) none)] 76, .vec encStr L 9, .vec encBool x1.7 4, .own [.c (.int .i64 y.1), .c (.int .i64 y.2), .c (.int .i64 y.3), .c (SVal.fn (Fn.func g) [.ptr 9 0] []), .c (.int .u32 y.4), .c (.int .u32 y.5), .c (.int .i64 y.6), .c (.int .i64 y.7), .c (.int .i64 y.8), .c (.sli 10 (.c 0) 1 (.v y.9.length) none), .c (.sli 11 (.c 0) 1 (.v y.10.length) none)] 78, .vec (encInt IntKind.u8) y.9 5, .vec encStr y.10 9, .vec encStr L 9]))) := by kernel_rfl
set_option maxRecDepth 100000 in
theorem f_sc {q : InR} {w : List Int} {c : Int} {f g : Nat} {x : Snd} {y : Rcv} {L : List ByteArray} {n : Int} {bg fl st em : Bool} {i : Nat} {u : Nat} : (exec cfgM 100 (restC 3 snd6) (fr 123 nFs (vFi n L bg fl st em i ++ [.int .i64 (u : Nat)])) (sLw q w c f g x y L)).bind (canonK 13 [(0,0)] 123 nFi) =
 

 (.need (decide ((0 : Int) ≤ (↑x.7.length : Int)))

 (.need (decide ((↑x.7.length : Int) * (1 : Int) ≤ (140737488355328 : Int)))

 (.need (decide ((↑x.7.length : Int) ≤ (4611686018427387904 : Int)))

 (.need (decide (0 + x.7.length ≤ x.7.length))

 (.need (decide ((↑x.7.length : Int).toNat = (List.take x.7.length (List.drop 0 x.7)).length))

 (.need (decide ((↑x.7.length : Int).toNat * 1 + 0 = (List.take x.7.length (List.drop 0 x.7)).length * 1))

 (.need ((List.take x.7.length (List.drop 0 x.7)).all fun x => (encBool.enc x).all scalar)

 (.br (decide ((↑u : Int) < (↑(↑x.7.length : Int).toNat : Int)))

 (.need (decide ((0 : Int) ≤ (↑u : Int)) && decide ((↑u : Int).toNat < (↑x.7.length : Int).toNat))

 (.need (decide ((↑u : Int).toNat < (List.take x.7.length (List.drop 0 x.7)).length))

 (.br ((List.take x.7.length (List.drop 0 x.7)).getD (↑u : Int).toNat false == fl)

 (.ret (.ret, [.ptr 12 0, .ptr 2 0, .ptr 3 0, .ptr 6 0, .sli 9 (.c 0) 1 (.v L.length) none, .int .i64 n, .sb (decide ((↑u : Int) < (↑(↑x.7.length : Int).toNat : Int))), .sb fl, .sb st, .sb em, .int .i64 (↑i : Int)], [.ro encLook [PUnit.unit], .own [.a (encInt IntKind.u32) 80 w] 40, .own [.c (.sli 1 (.c 0) 1 (.v 80) (some (.v 80))), .c (.int .i64 c)] 80, .own [.c (.int .i64 x.1), .c (.int .i64 x.2), .c (.int .i64 x.3), .c (SVal.fn (Fn.func f) [.ptr 3 0] []), .c (.int .u32 x.4), .c (.int .u32 x.5), .c (.int .i64 x.6), .c (.sli 4 (.c 0) 1 (.v L.length) none), .c (.sli 5 (.c 0) 1 (.v x.7.length) none)] 76, .vec encStr L 9, .vec encBool x.7 4, .own [.c (.int .i64 y.1), .c (.int .i64 y.2), .c (.int .i64 y.3), .c (SVal.fn (Fn.func g) [.ptr 6 0] []), .c (.int .u32 y.4), .c (.int .u32 y.5), .c (.int .i64 y.6), .c (.int .i64 y.7), .c (.int .i64 y.8), .c (.sli 7 (.c 0) 1 (.v y.9.length) none), .c (.sli 8 (.c 0) 1 (.v y.10.length) none)] 78, .vec (encInt IntKind.u8) y.9 5, .vec encStr y.10 9, .vec encStr L 9, .ro encStr q.3, .ro (encInt IntKind.u8) q.5, .own [.c (.int .u32 q.1), .c (.int .u32 q.2), .c (.sli 10 (.c 0) 1 (.v q.3.length) (some (.v q.4))), .c (.sli 11 (.c 0) 1 (.v q.5.length) (some (.v q.6)))] 43]))

 (.ret (.exit 1, [.ptr 12 0, .ptr 2 0, .ptr 3 0, .ptr 6 0, .sli 9 (.c 0) 1 (.v L.length) none, .int .i64 n, .sb (decide ((↑u : Int) < (↑(↑x.7.length : Int).toNat : Int))), .sb fl, .sb st, .sb em, .int .i64 (↑i : Int)], [.ro encLook [PUnit.unit], .own [.a (encInt IntKind.u32) 80 w] 40, .own [.c (.sli 1 (.c 0) 1 (.v 80) (some (.v 80))), .c (.int .i64 c)] 80, .own [.c (.int .i64 x.1), .c (.int .i64 x.2), .c (.int .i64 x.3), .c (SVal.fn (Fn.func f) [.ptr 3 0] []), .c (.int .u32 x.4), .c (.int .u32 x.5), .c (.int .i64 x.6), .c (.sli 4 (.c 0) 1 (.v L.length) none), .c (.sli 5 (.c 0) 1 (.v x.7.length) none)] 76, .vec encStr L 9, .vec encBool x.7 4, .own [.c (.int .i64 y.1), .c (.int .i64 y.2), .c (.int .i64 y.3), .c (SVal.fn (Fn.func g) [.ptr 6 0] []), .c (.int .u32 y.4), .c (.int .u32 y.5), .c (.int .i64 y.6), .c (.int .i64 y.7), .c (.int .i64 y.8), .c (.sli 7 (.c 0) 1 (.v y.9.length) none), .c (.sli 8 (.c 0) 1 (.v y.10.length) none)] 78, .vec (encInt IntKind.u8) y.9 5, .vec encStr y.10 9, .vec encStr L 9, .ro encStr q.3, .ro (encInt IntKind.u8) q.5, .own [.c (.int .u32 q.1), .c (.int .u32 q.2), .c (.sli 10 (.c 0) 1 (.v q.3.length) (some (.v q.4))), .c (.sli 11 (.c 0) 1 (.v q.5.length) (some (.v q.6)))] 43])))))

 (.ret (.exit 1, [.ptr 12 0, .ptr 2 0, .ptr 3 0, .ptr 6 0, .sli 9 (.c 0) 1 (.v L.length) none, .int .i64 n, .sb (decide ((↑u : Int) < (↑(↑x.7.length : Int).toNat : Int))), .sb fl, .sb st, .sb em, .int .i64 (↑i : Int)], [.ro encLook [PUnit.unit], .own [.a (encInt IntKind.u32) 80 w] 40, .own [.c (.sli 1 (.c 0) 1 (.v 80) (some (.v 80))), .c (.int .i64 c)] 80, .own [.c (.int .i64 x.1), .c (.int .i64 x.2), .c (.int .i64 x.3), .c (SVal.fn (Fn.func f) [.ptr 3 0] []), .c (.int .u32 x.4), .c (.int .u32 x.5), .c (.int .i64 x.6), .c (.sli 4 (.c 0) 1 (.v L.length) none), .c (.sli 5 (.c 0) 1 (.v x.7.length) none)] 76, .vec encStr L 9, .vec encBool x.7 4, .own [.c (.int .i64 y.1), .c (.int .i64 y.2), .c (.int .i64 y.3), .c (SVal.fn (Fn.func g) [.ptr 6 0] []), .c (.int .u32 y.4), .c (.int .u32 y.5), .c (.int .i64 y.6), .c (.int .i64 y.7), .c (.int .i64 y.8), .c (.sli 7 (.c 0) 1 (.v y.9.length) none), .c (.sli 8 (.c 0) 1 (.v y.10.length) none)] 78, .vec (encInt IntKind.u8) y.9 5, .vec encStr y.10 9, .vec encStr L 9, .ro encStr q.3, .ro (encInt IntKind.u8) q.5, .own [.c (.int .u32 q.1), .c (.int .u32 q.2), .c (.sli 10 (.c 0) 1 (.v q.3.length) (some (.v q.4))), .c (.sli 11 (.c 0) 1 (.v q.5.length) (some (.v q.6)))] 43])))))))))) := by kernel_rfl
set_option maxRecDepth 100000 in
theorem f_ra {q : InR} {w : List Int} {c : Int} {f g : Nat} {x : Snd} {y : Rcv} {L O I : List ByteArray} {n : Int} {bg fl st em : Bool} {i : Nat} : (execN cfgM 100 2 rcv6 (fr 123 nFo (vFo n L bg fl st em i O I)) (sLo q w c f g x y L O I)).bind (canonK 13 [(0,0)] 123 nFr) =
 

 (.need (decide (0 + y.10.length ≤ y.10.length))

 (.need (decide (0 + y.10.length ≤ y.10.length))

 (.need (roomy (List.take y.10.length (List.drop 0 y.10)).length 16)

 (.br (st)

 (.ret (.normal, [.ptr 12 0, .ptr 2 0, .ptr 3 0, .ptr 6 0, .sli 9 (.c 0) 1 (.v L.length) none, .int .i64 n, .sb bg, .sb fl, .sb st, .sb ((↑O.length : Int) == (↑I.length : Int)), .int .i64 (↑i : Int), .int .i64 (↑(List.take y.10.length (List.drop 0 y.10)).length : Int)], [.ro encLook [PUnit.unit], .own [.a (encInt IntKind.u32) 80 w] 40, .own [.c (.sli 1 (.c 0) 1 (.v 80) (some (.v 80))), .c (.int .i64 c)] 80, .own [.c (.int .i64 x.1), .c (.int .i64 x.2), .c (.int .i64 x.3), .c (SVal.fn (Fn.func f) [.ptr 3 0] []), .c (.int .u32 x.4), .c (.int .u32 x.5), .c (.int .i64 x.6), .c (.sli 4 (.c 0) 1 (.v L.length) none), .c (.sli 5 (.c 0) 1 (.v x.7.length) none)] 76, .vec encStr L 9, .vec encBool x.7 4, .own [.c (.int .i64 y.1), .c (.int .i64 y.2), .c (.int .i64 y.3), .c (SVal.fn (Fn.func g) [.ptr 6 0] []), .c (.int .u32 y.4), .c (.int .u32 y.5), .c (.int .i64 y.6), .c (.int .i64 y.7), .c (.int .i64 y.8), .c (.sli 7 (.c 0) 1 (.v y.9.length) none), .c (.sli 8 (.c 0) 1 (.v y.10.length) none)] 78, .vec (encInt IntKind.u8) y.9 5, .vec encStr y.10 9, .vec encStr L 9, .ro encStr q.3, .ro (encInt IntKind.u8) q.5, .own [.c (.int .u32 q.1), .c (.int .u32 q.2), .c (.sli 10 (.c 0) 1 (.v q.3.length) (some (.v q.4))), .c (.sli 11 (.c 0) 1 (.v q.5.length) (some (.v q.6)))] 43]))

 (.ret (.normal, [.ptr 12 0, .ptr 2 0, .ptr 3 0, .ptr 6 0, .sli 9 (.c 0) 1 (.v L.length) none, .int .i64 n, .sb bg, .sb fl, .sb st, .sb em, .int .i64 (↑i : Int), .int .i64 (↑(List.take y.10.length (List.drop 0 y.10)).length : Int)], [.ro encLook [PUnit.unit], .own [.a (encInt IntKind.u32) 80 w] 40, .own [.c (.sli 1 (.c 0) 1 (.v 80) (some (.v 80))), .c (.int .i64 c)] 80, .own [.c (.int .i64 x.1), .c (.int .i64 x.2), .c (.int .i64 x.3), .c (SVal.fn (Fn.func f) [.ptr 3 0] []), .c (.int .u32 x.4), .c (.int .u32 x.5), .c (.int .i64 x.6), .c (.sli 4 (.c 0) 1 (.v L.length) none), .c (.sli 5 (.c 0) 1 (.v x.7.length) none)] 76, .vec encStr L 9, .vec encBool x.7 4, .own [.c (.int .i64 y.1), .c (.int .i64 y.2), .c (.int .i64 y.3), .c (SVal.fn (Fn.func g) [.ptr 6 0] []), .c (.int .u32 y.4), .c (.int .u32 y.5), .c (.int .i64 y.6), .c (.int .i64 y.7), .c (.int .i64 y.8), .c (.sli 7 (.c 0) 1 (.v y.9.length) none), .c (.sli 8 (.c 0) 1 (.v y.10.length) none)] 78, .vec (encInt IntKind.u8) y.9 5, .vec encStr y.10 9, .vec encStr L 9, .ro encStr q.3, .ro (encInt IntKind.u8) q.5, .own [.c (.int .u32 q.1), .c (.int .u32 q.2), .c (.sli 10 (.c 0) 1 (.v q.3.length) (some (.v q.4))), .c (.sli 11 (.c 0) 1 (.v q.5.length) (some (.v q.6)))] 43])))))) := by kernel_rfl
set_option maxRecDepth 100000 in
theorem f_rb {q : InR} {w : List Int} {c : Int} {f g : Nat} {x : Snd} {y : Rcv} {L : List ByteArray} {n : Int} {bg fl st em : Bool} {i : Nat} {u : Nat} {w1 w2 : List Int} {c1 c2 : Int} {f1 g2 : Nat} {x1 : Snd} {y2 : Rcv} {b1 b2 : Bool} {P1 P2 : Prop} : (execN (cfgSt q w c f g x y L w1 w2 c1 c2 f1 g2 x1 y2 b1 b2 P1 P2) 100 1 (restC 2 rcv6) (fr 123 nFr (vFi n L bg fl st em i ++ [.int .i64 (u : Nat)])) (sLw q w c f g x y L)).bind (canonK 0 [(0,0)] 123 nFr) =
 

 (.eq ([SVal.ptr 6 0, .ptr 2 0] = [SVal.ptr 6 0, .ptr 2 0] ∧ [Blk.ro encLook [PUnit.unit], .own [.a (encInt IntKind.u32) 80 w] 40, .own [.c (.sli 1 (.c 0) 1 (.v 80) (some (.v 80))), .c (.int .i64 c)] 80, .own [.c (.int .i64 x.1), .c (.int .i64 x.2), .c (.int .i64 x.3), .c (SVal.fn (Fn.func f) [.ptr 3 0] []), .c (.int .u32 x.4), .c (.int .u32 x.5), .c (.int .i64 x.6), .c (.sli 4 (.c 0) 1 (.v L.length) none), .c (.sli 5 (.c 0) 1 (.v x.7.length) none)] 76, .vec encStr L 9, .vec encBool x.7 4, .own [.c (.int .i64 y.1), .c (.int .i64 y.2), .c (.int .i64 y.3), .c (SVal.fn (Fn.func g) [.ptr 6 0] []), .c (.int .u32 y.4), .c (.int .u32 y.5), .c (.int .i64 y.6), .c (.int .i64 y.7), .c (.int .i64 y.8), .c (.sli 7 (.c 0) 1 (.v y.9.length) none), .c (.sli 8 (.c 0) 1 (.v y.10.length) none)] 78, .vec (encInt IntKind.u8) y.9 5, .vec encStr y.10 9, .vec encStr L 9, .ro encStr q.3, .ro (encInt IntKind.u8) q.5, .own [.c (.int .u32 q.1), .c (.int .u32 q.2), .c (.sli 10 (.c 0) 1 (.v q.3.length) (some (.v q.4))), .c (.sli 11 (.c 0) 1 (.v q.5.length) (some (.v q.6)))] 43] = [Blk.ro encLook [PUnit.unit], .own [.a (encInt IntKind.u32) 80 w] 40, .own [.c (.sli 1 (.c 0) 1 (.v 80) (some (.v 80))), .c (.int .i64 c)] 80, .own [.c (.int .i64 x.1), .c (.int .i64 x.2), .c (.int .i64 x.3), .c (SVal.fn (Fn.func f) [.ptr 3 0] []), .c (.int .u32 x.4), .c (.int .u32 x.5), .c (.int .i64 x.6), .c (.sli 4 (.c 0) 1 (.v L.length) none), .c (.sli 5 (.c 0) 1 (.v x.7.length) none)] 76, .vec encStr L 9, .vec encBool x.7 4, .own [.c (.int .i64 y.1), .c (.int .i64 y.2), .c (.int .i64 y.3), .c (SVal.fn (Fn.func g) [.ptr 6 0] []), .c (.int .u32 y.4), .c (.int .u32 y.5), .c (.int .i64 y.6), .c (.int .i64 y.7), .c (.int .i64 y.8), .c (.sli 7 (.c 0) 1 (.v y.9.length) none), .c (.sli 8 (.c 0) 1 (.v y.10.length) none)] 78, .vec (encInt IntKind.u8) y.9 5, .vec encStr y.10 9, .vec encStr L 9, .ro encStr q.3, .ro (encInt IntKind.u8) q.5, .own [.c (.int .u32 q.1), .c (.int .u32 q.2), .c (.sli 10 (.c 0) 1 (.v q.3.length) (some (.v q.4))), .c (.sli 11 (.c 0) 1 (.v q.5.length) (some (.v q.6)))] 43] ∧ P2)

 (.ret (.normal, [.ptr 1 0, .ptr 4 0, .ptr 6 0, .ptr 9 0, .sli 12 (.c 0) 1 (.v L.length) none, .int .i64 n, .sb bg, .sb fl, .sb st, .sb em, .int .i64 (↑i : Int), .int .i64 (↑u : Int)], [.ro encLook [PUnit.unit], .own [.c (.int .u32 q.1), .c (.int .u32 q.2), .c (.sli 2 (.c 0) 1 (.v q.3.length) (some (.v q.4))), .c (.sli 3 (.c 0) 1 (.v q.5.length) (some (.v q.6)))] 43, .ro encStr q.3, .ro (encInt IntKind.u8) q.5, .own [.c (.sli 5 (.c 0) 1 (.v 80) (some (.v 80))), .c (.int .i64 c2)] 80, .own [.a (encInt IntKind.u32) 80 w2] 40, .own [.c (.int .i64 x.1), .c (.int .i64 x.2), .c (.int .i64 x.3), .c (SVal.fn (Fn.func f) [.ptr 6 0] []), .c (.int .u32 x.4), .c (.int .u32 x.5), .c (.int .i64 x.6), .c (.sli 7 (.c 0) 1 (.v L.length) none), .c (.sli 8 (.c 0) 1 (.v x.7.length) none)] 76, .vec encStr L 9, .vec encBool x.7 4, .own [.c (.int .i64 y2.1), .c (.int .i64 y2.2), .c (.int .i64 y2.3), .c (SVal.fn (Fn.func g2) [.ptr 9 0] []), .c (.int .u32 y2.4), .c (.int .u32 y2.5), .c (.int .i64 y2.6), .c (.int .i64 y2.7), .c (.int .i64 y2.8), .c (.sli 10 (.c 0) 1 (.v y2.9.length) none), .c (.sli 11 (.c 0) 1 (.v y2.10.length) none)] 78, .vec (encInt IntKind.u8) y2.9 5, .vec encStr y2.10 9, .vec encStr L 9]))) := by kernel_rfl
set_option maxRecDepth 100000 in
theorem f_rc {q : InR} {w : List Int} {c : Int} {f g : Nat} {x : Snd} {y : Rcv} {L : List ByteArray} {n : Int} {bg fl st em : Bool} {i : Nat} {u : Nat} : (exec cfgM 100 (restC 3 rcv6) (fr 123 nFr (vFi n L bg fl st em i ++ [.int .i64 (u : Nat)])) (sLw q w c f g x y L)).bind (canonK 13 [(0,0)] 123 nFi) =
 

 (.need (decide (0 + y.10.length ≤ y.10.length))

 (.need (decide (0 + y.10.length ≤ y.10.length))

 (.need (roomy (List.take y.10.length (List.drop 0 y.10)).length 16)

 (.br (decide ((↑u : Int) < (↑(List.take y.10.length (List.drop 0 y.10)).length : Int)))

 (.need (decide ((0 : Int) ≤ (↑u : Int)) && decide ((↑u : Int).toNat < (List.take y.10.length (List.drop 0 y.10)).length))

 (.need (decide ((↑u : Int).toNat < (List.take y.10.length (List.drop 0 y.10)).length))

 (.br (!strEq ((List.take y.10.length (List.drop 0 y.10)).getD (↑u : Int).toNat { data := { toList := [] } }) { data := { toList := [] } } == em)

 (.ret (.ret, [.ptr 12 0, .ptr 2 0, .ptr 3 0, .ptr 6 0, .sli 9 (.c 0) 1 (.v L.length) none, .int .i64 n, .sb bg, .sb fl, .sb (decide ((↑u : Int) < (↑(List.take y.10.length (List.drop 0 y.10)).length : Int))), .sb em, .int .i64 (↑i : Int)], [.ro encLook [PUnit.unit], .own [.a (encInt IntKind.u32) 80 w] 40, .own [.c (.sli 1 (.c 0) 1 (.v 80) (some (.v 80))), .c (.int .i64 c)] 80, .own [.c (.int .i64 x.1), .c (.int .i64 x.2), .c (.int .i64 x.3), .c (SVal.fn (Fn.func f) [.ptr 3 0] []), .c (.int .u32 x.4), .c (.int .u32 x.5), .c (.int .i64 x.6), .c (.sli 4 (.c 0) 1 (.v L.length) none), .c (.sli 5 (.c 0) 1 (.v x.7.length) none)] 76, .vec encStr L 9, .vec encBool x.7 4, .own [.c (.int .i64 y.1), .c (.int .i64 y.2), .c (.int .i64 y.3), .c (SVal.fn (Fn.func g) [.ptr 6 0] []), .c (.int .u32 y.4), .c (.int .u32 y.5), .c (.int .i64 y.6), .c (.int .i64 y.7), .c (.int .i64 y.8), .c (.sli 7 (.c 0) 1 (.v y.9.length) none), .c (.sli 8 (.c 0) 1 (.v y.10.length) none)] 78, .vec (encInt IntKind.u8) y.9 5, .vec encStr y.10 9, .vec encStr L 9, .ro encStr q.3, .ro (encInt IntKind.u8) q.5, .own [.c (.int .u32 q.1), .c (.int .u32 q.2), .c (.sli 10 (.c 0) 1 (.v q.3.length) (some (.v q.4))), .c (.sli 11 (.c 0) 1 (.v q.5.length) (some (.v q.6)))] 43]))

 (.ret (.normal, [.ptr 12 0, .ptr 2 0, .ptr 3 0, .ptr 6 0, .sli 9 (.c 0) 1 (.v L.length) none, .int .i64 n, .sb bg, .sb fl, .sb (decide ((↑u : Int) < (↑(List.take y.10.length (List.drop 0 y.10)).length : Int))), .sb em, .int .i64 (↑i : Int)], [.ro encLook [PUnit.unit], .own [.a (encInt IntKind.u32) 80 w] 40, .own [.c (.sli 1 (.c 0) 1 (.v 80) (some (.v 80))), .c (.int .i64 c)] 80, .own [.c (.int .i64 x.1), .c (.int .i64 x.2), .c (.int .i64 x.3), .c (SVal.fn (Fn.func f) [.ptr 3 0] []), .c (.int .u32 x.4), .c (.int .u32 x.5), .c (.int .i64 x.6), .c (.sli 4 (.c 0) 1 (.v L.length) none), .c (.sli 5 (.c 0) 1 (.v x.7.length) none)] 76, .vec encStr L 9, .vec encBool x.7 4, .own [.c (.int .i64 y.1), .c (.int .i64 y.2), .c (.int .i64 y.3), .c (SVal.fn (Fn.func g) [.ptr 6 0] []), .c (.int .u32 y.4), .c (.int .u32 y.5), .c (.int .i64 y.6), .c (.int .i64 y.7), .c (.int .i64 y.8), .c (.sli 7 (.c 0) 1 (.v y.9.length) none), .c (.sli 8 (.c 0) 1 (.v y.10.length) none)] 78, .vec (encInt IntKind.u8) y.9 5, .vec encStr y.10 9, .vec encStr L 9, .ro encStr q.3, .ro (encInt IntKind.u8) q.5, .own [.c (.int .u32 q.1), .c (.int .u32 q.2), .c (.sli 10 (.c 0) 1 (.v q.3.length) (some (.v q.4))), .c (.sli 11 (.c 0) 1 (.v q.5.length) (some (.v q.6)))] 43])))))

 (.ret (.normal, [.ptr 12 0, .ptr 2 0, .ptr 3 0, .ptr 6 0, .sli 9 (.c 0) 1 (.v L.length) none, .int .i64 n, .sb bg, .sb fl, .sb (decide ((↑u : Int) < (↑(List.take y.10.length (List.drop 0 y.10)).length : Int))), .sb em, .int .i64 (↑i : Int)], [.ro encLook [PUnit.unit], .own [.a (encInt IntKind.u32) 80 w] 40, .own [.c (.sli 1 (.c 0) 1 (.v 80) (some (.v 80))), .c (.int .i64 c)] 80, .own [.c (.int .i64 x.1), .c (.int .i64 x.2), .c (.int .i64 x.3), .c (SVal.fn (Fn.func f) [.ptr 3 0] []), .c (.int .u32 x.4), .c (.int .u32 x.5), .c (.int .i64 x.6), .c (.sli 4 (.c 0) 1 (.v L.length) none), .c (.sli 5 (.c 0) 1 (.v x.7.length) none)] 76, .vec encStr L 9, .vec encBool x.7 4, .own [.c (.int .i64 y.1), .c (.int .i64 y.2), .c (.int .i64 y.3), .c (SVal.fn (Fn.func g) [.ptr 6 0] []), .c (.int .u32 y.4), .c (.int .u32 y.5), .c (.int .i64 y.6), .c (.int .i64 y.7), .c (.int .i64 y.8), .c (.sli 7 (.c 0) 1 (.v y.9.length) none), .c (.sli 8 (.c 0) 1 (.v y.10.length) none)] 78, .vec (encInt IntKind.u8) y.9 5, .vec encStr y.10 9, .vec encStr L 9, .ro encStr q.3, .ro (encInt IntKind.u8) q.5, .own [.c (.int .u32 q.1), .c (.int .u32 q.2), .c (.sli 10 (.c 0) 1 (.v q.3.length) (some (.v q.4))), .c (.sli 11 (.c 0) 1 (.v q.5.length) (some (.v q.6)))] 43])))))) := by kernel_rfl
set_option maxRecDepth 100000 in
theorem f_inc {q : InR} {w : List Int} {c : Int} {f g : Nat} {x : Snd} {y : Rcv} {L : List ByteArray} {n : Int} {bg fl st em : Bool} {i : Nat} : (exec cfgM 100 inc6 (fr 123 nFi (vFi n L bg fl st em i)) (sLw q w c f g x y L)).bind (canonK 13 [(0,0)] 123 nFi) =
 

 (.need (inR .i64 ((↑i : Int) + (1 : Int)))

 (.ret (.normal, [.ptr 12 0, .ptr 2 0, .ptr 3 0, .ptr 6 0, .sli 9 (.c 0) 1 (.v L.length) none, .int .i64 n, .sb bg, .sb fl, .sb st, .sb em, .int .i64 ((↑i : Int) + (1 : Int))], [.ro encLook [PUnit.unit], .own [.a (encInt IntKind.u32) 80 w] 40, .own [.c (.sli 1 (.c 0) 1 (.v 80) (some (.v 80))), .c (.int .i64 c)] 80, .own [.c (.int .i64 x.1), .c (.int .i64 x.2), .c (.int .i64 x.3), .c (SVal.fn (Fn.func f) [.ptr 3 0] []), .c (.int .u32 x.4), .c (.int .u32 x.5), .c (.int .i64 x.6), .c (.sli 4 (.c 0) 1 (.v L.length) none), .c (.sli 5 (.c 0) 1 (.v x.7.length) none)] 76, .vec encStr L 9, .vec encBool x.7 4, .own [.c (.int .i64 y.1), .c (.int .i64 y.2), .c (.int .i64 y.3), .c (SVal.fn (Fn.func g) [.ptr 6 0] []), .c (.int .u32 y.4), .c (.int .u32 y.5), .c (.int .i64 y.6), .c (.int .i64 y.7), .c (.int .i64 y.8), .c (.sli 7 (.c 0) 1 (.v y.9.length) none), .c (.sli 8 (.c 0) 1 (.v y.10.length) none)] 78, .vec (encInt IntKind.u8) y.9 5, .vec encStr y.10 9, .vec encStr L 9, .ro encStr q.3, .ro (encInt IntKind.u8) q.5, .own [.c (.int .u32 q.1), .c (.int .u32 q.2), .c (.sli 10 (.c 0) 1 (.v q.3.length) (some (.v q.4))), .c (.sli 11 (.c 0) 1 (.v q.5.length) (some (.v q.6)))] 43]))) := by kernel_rfl
set_option maxRecDepth 100000 in
theorem f_end {q : InR} {w : List Int} {c : Int} {f g : Nat} {x : Snd} {y : Rcv} {L : List ByteArray} {n : Int} {bg fl st em : Bool} : (exec cfgM 100 end6 (fr 123 nF (vF n L bg fl st em)) (sLw q w c f g x y L)).bind (canonK 13 [(0,0)] 123 [6]) =
 

 (.ret (.ret, [.bl true], [.ro encLook [PUnit.unit], .own [.a (encInt IntKind.u32) 80 w] 40, .own [.c (.sli 1 (.c 0) 1 (.v 80) (some (.v 80))), .c (.int .i64 c)] 80, .own [.c (.int .i64 x.1), .c (.int .i64 x.2), .c (.int .i64 x.3), .c (SVal.fn (Fn.func f) [.ptr 3 0] []), .c (.int .u32 x.4), .c (.int .u32 x.5), .c (.int .i64 x.6), .c (.sli 4 (.c 0) 1 (.v L.length) none), .c (.sli 5 (.c 0) 1 (.v x.7.length) none)] 76, .vec encStr L 9, .vec encBool x.7 4, .own [.c (.int .i64 y.1), .c (.int .i64 y.2), .c (.int .i64 y.3), .c (SVal.fn (Fn.func g) [.ptr 6 0] []), .c (.int .u32 y.4), .c (.int .u32 y.5), .c (.int .i64 y.6), .c (.int .i64 y.7), .c (.int .i64 y.8), .c (.sli 7 (.c 0) 1 (.v y.9.length) none), .c (.sli 8 (.c 0) 1 (.v y.10.length) none)] 78, .vec (encInt IntKind.u8) y.9 5, .vec encStr y.10 9, .vec encStr L 9, .ro encStr q.3, .ro (encInt IntKind.u8) q.5, .own [.c (.int .u32 q.1), .c (.int .u32 q.2), .c (.sli 10 (.c 0) 1 (.v q.3.length) (some (.v q.4))), .c (.sli 11 (.c 0) 1 (.v q.5.length) (some (.v q.6)))] 43])) := by kernel_rfl
end Go.Proofs.YtplbncncnjiahaaDoor

/- RingFull, plain: a side that was begun where the ring was full, or empty. -/
namespace Go.Proofs.YtplbncncnjiahaaDoor
open Go Go.Proofs.YtplbncncnjiahaaDoor.Sx
set_option linter.unusedVariables false
/-- begins, full -/
structure FS (n : Int) (L : List ByteArray) (A : Ab) (bg fl : Bool) : Prop where
  lt : A.sp ≠ 0 → A.sent.length < L.length
  s0 : A.sent.length < L.length → (bg = true ↔ A.sp = 0)
  s1 : A.sp = 1 → (fl = true ↔ (A.sq : Int) = n)
  s2 : 2 ≤ A.sp → fl = false
/-- starts, empty -/
structure FR (t : Int) (A : Ab) (st em : Bool) : Prop where
  lt : A.rp ≠ 0 → (A.got.length : Int) < t
  s0 : (A.got.length : Int) < t → (st = true ↔ A.rp = 0)
  s1 : A.rp = 1 → (em = true ↔ A.rq = 0)
  s2 : 2 ≤ A.rp → em = false
/-- full, anew, where a sender begins -/
def flN (bg fl : Bool) (n k : Int) : Bool := if bg then k == n else fl
def emN (st em : Bool) (k : Int) : Bool := if st then k == 0 else em
theorem fs_step {k : Nat} {a n z t : Int} {ms : List ByteArray} {l : List Int} {x : Snd} {y : Rcv} {A : Ab} (h : Rel k a n z t ms l x y A) {bg fl : Bool} (hf : FS n ms A bg fl) :
    FS n ms (aStepS n ms A) (decide (A.sent.length < (aStepS n ms A).sent.length)) (flN bg fl n A.q.length) ∧
      (A.sent.length < (aStepS n ms A).sent.length → (aStepS n ms A).sent.getD A.sent.length false ≠ flN bg fl n A.q.length) := by
  obtain ⟨sent, sp, sd, sq, got, rp, rd, rq, q⟩ := A
  have hp3 := h.s.p3
  have hs1 := h.s.s1
  obtain ⟨f0, f1, f2, f3⟩ := hf
  simp only at hp3 hs1 f0 f1 f2 f3
  by_cases hov : sent.length = ms.length
  · have hsp : sp = 0 := Decidable.byContradiction fun hne => by have := f0 hne; omega
    subst hsp
    simp only [aStepS, if_pos hov]
    exact ⟨⟨fun h => absurd rfl h, fun h => by simp only at h; omega, fun h => (by cases h), fun h => by simp only at h; omega⟩, fun h => by omega⟩
  have hlt : sent.length < ms.length := by have := h.s.le; simp only at this; omega
  have f1 := f1 hlt
  have hp : sp = 0 ∨ sp = 1 ∨ sp = 2 ∨ sp = 3 := by omega
  rcases hp with rfl | rfl | rfl | rfl
  · have hbg : bg = true := f1.2 rfl
    subst hbg
    simp only [aStepS, if_neg hov, flN, if_true]
    refine ⟨⟨fun _ => hlt, fun _ => by simp, fun _ => by simp, fun h => by simp only at h; omega⟩, fun h => by omega⟩
  · have hbg : bg = false := by
      cases bg with
      | false => rfl
      | true => exact absurd (f1.1 rfl) (by omega)
    subst hbg
    obtain ⟨k1, k2, k3⟩ := hs1 rfl
    have f2 := f2 rfl
    simp only [aStepS, if_neg hov, flN]
    by_cases hn : n ≤ (sq : Int)
    · simp only [if_pos hn]
      have hfl : fl = true := f2.2 (by omega)
      subst hfl
      exact ⟨⟨fun h => absurd rfl h, fun _ => by simp, fun h => (by cases h), fun h => by simp only at h; omega⟩, fun _ => by rw [Sx.getD_append_len]; simp⟩
    · simp only [if_neg hn]
      have hfl : fl = false := by
        cases fl with
        | false => rfl
        | true => exact absurd (f2.1 rfl) (by omega)
      subst hfl
      exact ⟨⟨fun _ => hlt, fun _ => by simp, fun h => (by cases h), fun _ => rfl⟩, fun h => by omega⟩
  · have hbg : bg = false := by
      cases bg with
      | false => rfl
      | true => exact absurd (f1.1 rfl) (by omega)
    subst hbg
    have hfl := f3 (by omega)
    subst hfl
    simp only [aStepS, if_neg hov, flN]
    refine ⟨⟨fun _ => hlt, fun _ => ?_, fun h => ?_, fun _ => rfl⟩, fun h => by omega⟩
    · simp only [Nat.lt_irrefl, decide_false, Bool.false_eq_true, false_iff]; split <;> omega
    · simp only at h; split at h <;> cases h
  · have hbg : bg = false := by
      cases bg with
      | false => rfl
      | true => exact absurd (f1.1 rfl) (by omega)
    subst hbg
    have hfl := f3 (by omega)
    subst hfl
    simp only [aStepS, if_neg hov, flN]
    exact ⟨⟨fun h => absurd rfl h, fun _ => by simp, fun h => (by cases h), fun h => by simp only at h; omega⟩, fun _ => by rw [Sx.getD_append_len]; simp⟩
theorem fr_step {k : Nat} {a n z t : Int} {ms : List ByteArray} {l : List Int} {x : Snd} {y : Rcv} {A : Ab} (h : Rel k a n z t ms l x y A) {st em : Bool} (hf : FR t A st em) :
    FR t (aStepR t A) (decide (A.got.length < (aStepR t A).got.length)) (emN st em A.q.length) ∧
      (A.got.length < (aStepR t A).got.length → ((aStepR t A).got.getD A.got.length nilB).size = 0 ↔ (A.got.length < (aStepR t A).got.length → emN st em A.q.length = true)) := by
  obtain ⟨sent, sp, sd, sq, got, rp, rd, rq, q⟩ := A
  have hp3 := h.r.p3
  have hs2 := h.r.s2
  obtain ⟨f0, f1, f2, f3⟩ := hf
  simp only at hp3 hs2 f0 f1 f2 f3
  by_cases hov : (got.length : Int) = t
  · have hsp : rp = 0 := Decidable.byContradiction fun hne => by have := f0 hne; omega
    subst hsp
    simp only [aStepR, if_pos hov]
    exact ⟨⟨fun h => absurd rfl h, fun h => by simp only at h; omega, fun h => (by cases h), fun h => by simp only at h; omega⟩, by simp⟩
  have hlt : (got.length : Int) < t := by have := h.r.le; simp only at this; omega
  have f1 := f1 hlt
  have hp : rp = 0 ∨ rp = 1 ∨ rp = 2 ∨ rp = 3 := by omega
  rcases hp with rfl | rfl | rfl | rfl
  · have hbg : st = true := f1.2 rfl
    subst hbg
    simp only [aStepR, if_neg hov, emN, if_true]
    refine ⟨⟨fun _ => hlt, fun _ => by simp, fun _ => ?_, fun h => by simp only at h; omega⟩, by simp⟩
    simp only [beq_iff_eq]; omega
  · have hbg : st = false := by
      cases st with
      | false => rfl
      | true => exact absurd (f1.1 rfl) (by omega)
    subst hbg
    have f2 := f2 rfl
    simp only [aStepR, if_neg hov, emN]
    by_cases hn : rq = 0
    · simp only [if_pos hn]
      have hfl : em = true := f2.2 hn
      subst hfl
      refine ⟨⟨fun h => absurd rfl h, fun _ => by simp, fun h => (by cases h), fun h => by simp only at h; omega⟩, ?_⟩
      rw [Sx.getD_append_len]
      exact ⟨fun _ _ => rfl, fun _ _ => rfl⟩
    · simp only [if_neg hn]
      have hfl : em = false := by
        cases em with
        | false => rfl
        | true => exact absurd (f2.1 rfl) hn
      subst hfl
      exact ⟨⟨fun _ => hlt, fun _ => by simp, fun h => (by cases h), fun _ => rfl⟩, by simp⟩
  · have hbg : st = false := by
      cases st with
      | false => rfl
      | true => exact absurd (f1.1 rfl) (by omega)
    subst hbg
    have hfl := f3 (by omega)
    subst hfl
    simp only [aStepR, if_neg hov, emN]
    refine ⟨⟨fun _ => hlt, fun _ => ?_, fun h => ?_, fun _ => rfl⟩, by simp⟩
    · simp only [Nat.lt_irrefl, decide_false, Bool.false_eq_true, false_iff]; split <;> omega
    · simp only at h; split at h <;> cases h
  · have hbg : st = false := by
      cases st with
      | false => rfl
      | true => exact absurd (f1.1 rfl) (by omega)
    subst hbg
    have hfl := f3 (by omega)
    subst hfl
    obtain ⟨_, k2, _⟩ := hs2 (by omega)
    simp only [aStepR, if_neg hov, emN]
    refine ⟨⟨fun h => absurd rfl h, fun _ => by simp, fun h => (by cases h), fun h => by simp only at h; omega⟩, ?_⟩
    rw [Sx.getD_append_len]
    cases q with
    | nil => exact absurd rfl k2
    | cons s q =>
      have hf := (h.q.fit s (by simp)).1
      simp only [List.headD_cons]
      exact ⟨fun h => absurd (h (by simp)) (by omega), fun h => absurd (h (by simp)) (by simp)⟩
theorem fs_keep {n t : Int} {L : List ByteArray} {A : Ab} {bg fl : Bool} (hf : FS n L A bg fl) : FS n L (aStepR t A) bg fl := by
  obtain ⟨sent, sp, sd, sq, got, rp, rd, rq, q⟩ := A
  obtain ⟨f0, f1, f2, f3⟩ := hf
  simp only at f0 f1 f2 f3
  unfold aStepR
  simp only
  split
  · exact ⟨f0, f1, f2, f3⟩
  · split
    · exact ⟨f0, f1, f2, f3⟩
    · split <;> exact ⟨f0, f1, f2, f3⟩
    · exact ⟨f0, f1, f2, f3⟩
    · exact ⟨f0, f1, f2, f3⟩
theorem fr_keep {n t : Int} {L : List ByteArray} {A : Ab} {st em : Bool} (hf : FR t A st em) : FR t (aStepS n L A) st em := by
  obtain ⟨sent, sp, sd, sq, got, rp, rd, rq, q⟩ := A
  obtain ⟨f0, f1, f2, f3⟩ := hf
  simp only at f0 f1 f2 f3
  unfold aStepS
  simp only
  split
  · exact ⟨f0, f1, f2, f3⟩
  · split
    · exact ⟨f0, f1, f2, f3⟩
    · split <;> exact ⟨f0, f1, f2, f3⟩
    · exact ⟨f0, f1, f2, f3⟩
    · exact ⟨f0, f1, f2, f3⟩
theorem fs_start (n : Int) (L : List ByteArray) : FS n L ab0 true false := ⟨fun h => absurd rfl h, fun _ => by simp, fun h => (by cases h), fun h => by simp only at h; omega⟩
theorem fr_start : FR 40 ab0 true false := ⟨fun h => absurd rfl h, fun _ => by simp, fun h => (by cases h), fun h => by simp only at h; omega⟩
end Go.Proofs.YtplbncncnjiahaaDoor

/- RingFull: its call. -/
namespace Go.Proofs.YtplbncncnjiahaaDoor
open Go Go.Proofs.YtplbncncnjiahaaDoor.Sx
set_option linter.unusedVariables false
abbrev Q6 (w0 : From) : Exit → Act → World → Prop := bodyPost Tryd.prog Tryd.f6 (Said w0)
def InvF (w0 : From) (q : InR) (n z : Int) (L : List ByteArray) (i : Nat) (a : Act) (W : World) : Prop :=
  i ≤ 250 ∧ ∃ w c x y A bg fl st em, LI q n z L i w c x y A ∧ FS n L A bg fl ∧ FR 40 A st em ∧ ∃ env, At [(0, 0)] w0 env (fr 123 nFi (vFi n L bg fl st em i)) (sLw q w c (sfn x.p) (rfn y.p) x y L) a W
abbrev RF (w0 : From) (q : InR) (n z : Int) (L : List ByteArray) (i : Nat) : Exit → Act → World → Prop :=
  Exit.then (fun a' w' => ∃ k, InvF w0 q n z L k a' w' ∧ 250 - k < 250 - i) (Exit.inBlock 0 (Exit.then (end6.wp Tryd.prog (Q6 w0)) (Q6 w0)))
abbrev BF (w0 : From) (q : InR) (n z : Int) (L : List ByteArray) (i : Nat) : Exit → Act → World → Prop :=
  Exit.inBlock 1 (Exit.then (inc6.wp Tryd.prog (RF w0 q n z L i)) (RF w0 q n z L i))
theorem next6 {w0 : From} {q : InR} {n z : Int} {L : List ByteArray} {i : Nat} (hi : i < 250) {w : List Int} {c : Int} {x : Snd} {y : Rcv} {A : Ab} {bg fl st em : Bool} (h : LI q n z L (i + 1) w c x y A) (hs : FS n L A bg fl) (hr : FR 40 A st em) {env : Env} {a : Act} {W : World} (hA : At [(0, 0)] w0 env (fr 123 nFi (vFi n L bg fl st em i)) (sLw q w c (sfn x.p) (rfn y.p) x y L) a W) :
    inc6.wp Tryd.prog (RF w0 q n z L i) a W := by
  refine pieceT0 (c := cfgM) cfgM_ok nFi f_inc hA ?_
  refine all_needp (by simp only [inR_i64]; exact Iff.rfl) (by omega) fun _ => all_ret fun env4 a4 w4 hA4 => ?_
  exact ⟨i + 1, ⟨by omega, w, c, x, y, A, bg, fl, st, em, h, hs, hr, env4, hA4⟩, by omega⟩
theorem copy_needs {l : List Bool} {Q : (Ex × List SVal × St) → Prop} {t : T (Ex × List SVal × St)} (h1 : l.length ≤ 1000) (h : All Q t) :
    All Q (.need (decide ((0 : Int) ≤ (↑l.length : Int))) (.need (decide ((↑l.length : Int) * ((1 : Nat) : Int) ≤ (140737488355328 : Int))) (.need (decide ((↑l.length : Int) ≤ (4611686018427387904 : Int))) (.need (decide (0 + l.length ≤ l.length)) (.need (decide ((↑l.length : Int).toNat = (List.take l.length (List.drop 0 l)).length)) (.need (decide ((↑l.length : Int).toNat * 1 + 0 = (List.take l.length (List.drop 0 l)).length * 1)) (.need ((List.take l.length (List.drop 0 l)).all fun x => (encBool.enc x).all scalar) t))))))) := by
  have e1 : (List.take l.length (List.drop 0 l)).length = l.length := by simp
  rw [e1]
  refine all_needq (by simp only [decide_eq_true_eq]; exact Iff.rfl) (by omega) ?_
  refine all_needq (by simp only [decide_eq_true_eq]; exact Iff.rfl) (by omega) ?_
  refine all_needq (by simp only [decide_eq_true_eq]; exact Iff.rfl) (by omega) ?_
  refine all_needq (by simp only [decide_eq_true_eq]; exact Iff.rfl) (by omega) ?_
  refine all_needq (by simp only [decide_eq_true_eq]; exact Iff.rfl) (by omega) ?_
  refine all_needq (by simp only [decide_eq_true_eq]; exact Iff.rfl) (by omega) ?_
  exact all_need (List.all_eq_true.2 fun b _ => rfl) fun _ => h
theorem sLi_few {w0 : From} {n : Int} {L : List ByteArray} {bg fl st em : Bool} {i : Nat} {ex : List Nat} {ev : List SVal} {S : St} {env : Env} {a : Act} {W : World} (hA : At [(0, 0)] w0 env (fr 123 (nFi ++ ex) (vFi n L bg fl st em i ++ ev)) S a W) : At [(0, 0)] w0 env (fr 123 nFi (vFi n L bg fl st em i)) S a W := At.few hA rfl
set_option maxHeartbeats 2000000 in
theorem snd6_ok {w0 : From} {q : InR} {n z : Int} {L : List ByteArray} {i : Nat} (hi : i < 250) {w : List Int} {c : Int} {x : Snd} {y : Rcv} {A : Ab} {bg fl st em : Bool} (h : LI q n z L i w c x y A) (hs : FS n L A bg fl) (hr : FR 40 A st em) {env : Env} {a : Act} {W : World} (hA : At [(0, 0)] w0 env (fr 123 nFo (vFo n L bg fl st em i (outA L A) (inA A))) (sLo q w c (sfn x.p) (rfn y.p) x y L (outA L A) (inA A)) a W) :
    snd6.wp Tryd.prog (Exit.then (rcv6.wp Tryd.prog (BF w0 q n z L i)) (BF w0 q n z L i)) a W := by
  have hc := h.c
  obtain ⟨g1, g2, g3, g4, g5⟩ := h.small
  obtain ⟨s1, s2, s3, s4⟩ := ord_say h.rel h.ord
  have i1 : (inA A).length ≤ A.got.length := inK_len _ _
  have i2 : (outA L A).length ≤ A.sent.length := outK_len _ _ _
  have hst := h.rel.s.sent
  have hgt := h.rel.r.got
  have hsl : x.sent.length = A.sent.length := by rw [hst]
  have hgl : y.got.length = A.got.length := by rw [hgt]
  refine pieceNT0 (c := cfgM) cfgM_ok 2 nFs (f_sa (O := outA L A) (I := inA A)) hA ?_
  refine copy_needs (l := x.7) (by omega) ?_
  -- the step
  have step : ∀ {env : Env} {a : Act} {W : World}, At [(0, 0)] w0 env (fr 123 nFs (vFi n L bg (flN bg fl n A.q.length) st em i ++ [.int .i64 (x.sent.length : Nat)])) (sLw q w c (sfn x.p) (rfn y.p) x y L) a W →
      (restC 2 snd6).wp Tryd.prog (Exit.then (rcv6.wp Tryd.prog (BF w0 q n z L i)) (BF w0 q n z L i)) a W := by
    intro env a W hA
    have hsok := rel_sok h.rel (c := c) (by omega)
    refine pieceNT0 (c := cfgSt q w c (sfn x.p) (rfn y.p) x y L (sNext x L w).2 (rNext y w).2 (sC x L c) (rC y c) (sfn (sNext x L w).1.p) (rfn (rNext y w).1.p) (sNext x L w).1 (rNext y w).1 (sStill (sNext x L w).1 L) (rStill (rNext y w).1) (SOk 80 w c x L ∧ x.p ≤ 3) (ROk 80 w c y ∧ y.p ≤ 3)) cfgSt_ok 1 nFs f_sb hA ?_
    refine all_eq ⟨rfl, rfl, hsok⟩ (all_ret fun env2 a2 w2 hA2 => ?_)
    have hn := h.s
    obtain ⟨hs2, hs3⟩ := fs_step h.rel hs
    have hr2 : FR 40 (aStepS n L A) st em := fr_keep hr
    generalize hx1 : (sNext x L w).1 = x1 at *
    generalize (sNext x L w).2 = w1 at *
    generalize sC x L c = c1 at *
    generalize hF : flN bg fl n A.q.length = F at *
    generalize hA' : aStepS n L A = A' at *
    have hA3 := hA2.perm idK (by kernel_rfl) (by kernel_rfl) (st' := sLw q w1 c1 (sfn x1.p) (rfn y.p) x1 y L) (vals' := vFi n L bg F st em i ++ [.int .i64 (x.sent.length : Nat)]) (by kernel_rfl) (by kernel_rfl)
    simp only [Ex.to, Exit.then]
    refine (show (restC 3 snd6).wp Tryd.prog _ a2 w2 from ?_)
    have hst1 := hn.rel.s.sent
    have hle1 := hn.small.1
    refine pieceT0 (c := cfgM) cfgM_ok nFi (f_sc (u := x.sent.length)) hA3 ?_
    refine copy_needs (l := x1.7) (by omega) ?_
    have e1 : List.take x1.7.length (List.drop 0 x1.7) = x1.sent := by simp
    simp only [e1, Int.toNat_natCast]
    have eb : decide ((x.sent.length : Int) < (x1.sent.length : Int)) = decide (A.sent.length < A'.sent.length) := by
      rw [← hst, ← hst1]
      exact decide_eq_decide.2 (by omega)
    rw [eb]
    have fin : ∀ {env : Env} {a : Act} {W : World}, At [(0, 0)] w0 env (fr 123 nFi (vFi n L (decide (A.sent.length < A'.sent.length)) F st em i)) (sLw q w1 c1 (sfn x1.p) (rfn y.p) x1 y L) a W → Exit.then (rcv6.wp Tryd.prog (BF w0 q n z L i)) (BF w0 q n z L i) (.exit 1) a W := by
      intro env a W hA
      simp only [Exit.then, BF, Exit.inBlock, if_true]
      exact next6 hi hn hs2 hr2 hA
    refine all_brp (by simp only [decide_eq_true_eq]; exact Iff.rfl) (fun hlt => ?_) (fun _ => all_ret fun _ _ _ h => fin h)
    have hlt' : x.sent.length < x1.sent.length := by rw [hst, hst1]; exact hlt
    refine all_needq (by simp only [decide_eq_true_eq, Bool.and_eq_true]; exact Iff.rfl) (by omega) ?_
    refine all_needq (by simp only [decide_eq_true_eq]; exact Iff.rfl) (by omega) ?_
    refine all_br (fun hh => ?_) (fun _ => all_ret fun _ _ _ h => fin h)
    have hne := hs3 hlt
    rw [hst, hst1, beq_iff_eq] at hh
    exact absurd hh hne
  refine all_br (fun hb => ?_) (fun hb => ?_)
  · refine all_needq (by simp only [inR_i64]; exact Iff.rfl) (by omega) (all_ret fun env1 a1 w1 hA1 => ?_)
    simp only [Ex.to, Exit.then]
    refine (show (restC 2 snd6).wp Tryd.prog _ a1 w1 from step (env := env1) ?_)
    have e2 : ((outA L A).length : Int) - ((inA A).length : Int) = (A.q.length : Int) := by omega
    rw [e2] at hA1
    have e3 : flN bg fl n A.q.length = ((A.q.length : Int) == n) := by unfold flN; rw [hb]; rfl
    rw [e3]
    exact hA1
  · refine all_ret fun env1 a1 w1 hA1 => ?_
    simp only [Ex.to, Exit.then]
    refine (show (restC 2 snd6).wp Tryd.prog _ a1 w1 from step (env := env1) ?_)
    have e3 : flN bg fl n A.q.length = fl := by unfold flN; rw [hb]; rfl
    rw [e3]
    exact hA1
theorem got_needs {l : List ByteArray} {Q : (Ex × List SVal × St) → Prop} {t : T (Ex × List SVal × St)} (h1 : l.length ≤ 1000) (h : All Q t) :
    All Q (.need (decide (0 + l.length ≤ l.length)) (.need (decide (0 + l.length ≤ l.length)) (.need (roomy (List.take l.length (List.drop 0 l)).length 16) t))) := by
  have e1 : (List.take l.length (List.drop 0 l)).length = l.length := by simp
  rw [e1]
  refine all_needq (by simp only [decide_eq_true_eq]; exact Iff.rfl) (by omega) ?_
  refine all_needq (by simp only [decide_eq_true_eq]; exact Iff.rfl) (by omega) ?_
  exact all_needq (by simp only [roomy_iff]; exact Iff.rfl) (by omega) h
set_option maxHeartbeats 2000000 in
theorem rcv6_ok {w0 : From} {q : InR} {n z : Int} {L : List ByteArray} {i : Nat} (hi : i < 250) {w : List Int} {c : Int} {x : Snd} {y : Rcv} {A : Ab} {bg fl st em : Bool} (h : LI q n z L i w c x y A) (hs : FS n L A bg fl) (hr : FR 40 A st em) {env : Env} {a : Act} {W : World} (hA : At [(0, 0)] w0 env (fr 123 nFo (vFo n L bg fl st em i (outA L A) (inA A))) (sLo q w c (sfn x.p) (rfn y.p) x y L (outA L A) (inA A)) a W) :
    rcv6.wp Tryd.prog (BF w0 q n z L i) a W := by
  have hc := h.c
  obtain ⟨g1, g2, g3, g4, g5⟩ := h.small
  obtain ⟨s1, s2, s3, s4⟩ := ord_say h.rel h.ord
  have i1 : (inA A).length ≤ A.got.length := inK_len _ _
  have i2 : (outA L A).length ≤ A.sent.length := outK_len _ _ _
  have hst := h.rel.s.sent
  have hgt := h.rel.r.got
  have hsl : x.sent.length = A.sent.length := by rw [hst]
  have hgl : y.got.length = A.got.length := by rw [hgt]
  refine pieceNT0 (c := cfgM) cfgM_ok 2 nFr (f_ra (O := outA L A) (I := inA A)) hA ?_
  refine got_needs (l := y.10) (by omega) ?_
  have e0 : (List.take y.10.length (List.drop 0 y.10)).length = y.10.length := by simp
  rw [e0]
  have step : ∀ {env : Env} {a : Act} {W : World}, At [(0, 0)] w0 env (fr 123 nFr (vFi n L bg fl st (emN st em A.q.length) i ++ [.int .i64 (y.got.length : Nat)])) (sLw q w c (sfn x.p) (rfn y.p) x y L) a W →
      (restC 2 rcv6).wp Tryd.prog (BF w0 q n z L i) a W := by
    intro env a W hA
    have hrok := rel_rok h.rel (c := c) (by omega)
    refine pieceNT0 (c := cfgSt q w c (sfn x.p) (rfn y.p) x y L (sNext x L w).2 (rNext y w).2 (sC x L c) (rC y c) (sfn (sNext x L w).1.p) (rfn (rNext y w).1.p) (sNext x L w).1 (rNext y w).1 (sStill (sNext x L w).1 L) (rStill (rNext y w).1) (SOk 80 w c x L ∧ x.p ≤ 3) (ROk 80 w c y ∧ y.p ≤ 3)) cfgSt_ok 1 nFr f_rb hA ?_
    refine all_eq ⟨rfl, rfl, hrok⟩ (all_ret fun env2 a2 w2 hA2 => ?_)
    have hn := h.r
    obtain ⟨hr2, hr3⟩ := fr_step h.rel hr
    have hs2 : FS n L (aStepR 40 A) bg fl := fs_keep hs
    generalize hx1 : (rNext y w).1 = y1 at *
    generalize (rNext y w).2 = w1 at *
    generalize rC y c = c1 at *
    generalize hF : emN st em A.q.length = F at *
    generalize hA' : aStepR 40 A = A' at *
    have hA3 := hA2.perm idK (by kernel_rfl) (by kernel_rfl) (st' := sLw q w1 c1 (sfn x.p) (rfn y1.p) x y1 L) (vals' := vFi n L bg fl st F i ++ [.int .i64 (y.got.length : Nat)]) (by kernel_rfl) (by kernel_rfl)
    simp only [Ex.to, Exit.then]
    refine (show (restC 3 rcv6).wp Tryd.prog _ a2 w2 from ?_)
    have hst1 := hn.rel.r.got
    have hle1 := hn.small.2.2.1
    refine pieceT0 (c := cfgM) cfgM_ok nFi (f_rc (u := y.got.length)) hA3 ?_
    refine got_needs (l := y1.10) (by omega) ?_
    have e1 : List.take y1.10.length (List.drop 0 y1.10) = y1.got := by simp
    simp only [e1, Int.toNat_natCast]
    have eb : decide ((y.got.length : Int) < (y1.got.length : Int)) = decide (A.got.length < A'.got.length) := by
      rw [← hgt, ← hst1]
      exact decide_eq_decide.2 (by omega)
    rw [eb]
    have fin : ∀ {env : Env} {a : Act} {W : World}, At [(0, 0)] w0 env (fr 123 nFi (vFi n L bg fl (decide (A.got.length < A'.got.length)) F i)) (sLw q w1 c1 (sfn x.p) (rfn y1.p) x y1 L) a W → BF w0 q n z L i .normal a W := by
      intro env a W hA
      simp only [BF, Exit.inBlock, Exit.then]
      exact next6 hi hn hs2 hr2 hA
    refine all_brp (by simp only [decide_eq_true_eq]; exact Iff.rfl) (fun hlt => ?_) (fun _ => all_ret fun _ _ _ h => fin h)
    have hlt' : y.got.length < y1.got.length := by rw [hgt, hst1]; exact hlt
    refine all_needq (by simp only [decide_eq_true_eq, Bool.and_eq_true]; exact Iff.rfl) (by omega) ?_
    refine all_needq (by simp only [decide_eq_true_eq]; exact Iff.rfl) (by omega) ?_
    refine all_br (fun hh => ?_) (fun _ => all_ret fun _ _ _ h => fin h)
    have hs := strEq_size (y1.got.getD y.got.length nilB)
    rw [hgt, hst1] at hs
    have hh' : (!strEq (A'.got.getD A.got.length nilB) { data := { toList := [] } } == F) = true := by rw [← hgt, ← hst1]; exact hh
    have k1 : (A'.got.getD A.got.length nilB).size = 0 ↔ F = true := ⟨fun h0 => hr3.1 (fun _ => h0) hlt, fun h0 => hr3.2 (fun _ => h0) hlt⟩
    exfalso
    cases hFF : F with
    | true =>
      have := hs.2 (k1.2 hFF)
      rw [this, hFF] at hh'; cases hh'
    | false =>
      cases hE : strEq (A'.got.getD A.got.length nilB) { data := { toList := [] } } with
      | true => rw [k1.1 (hs.1 hE)] at hFF; cases hFF
      | false => rw [hE, hFF] at hh'; cases hh'
  refine all_br (fun hb => ?_) (fun hb => ?_)
  · refine all_ret fun env1 a1 w1 hA1 => ?_
    simp only [Ex.to, Exit.then]
    refine (show (restC 2 rcv6).wp Tryd.prog _ a1 w1 from step (env := env1) ?_)
    have e3 : emN st em A.q.length = (((outA L A).length : Int) == ((inA A).length : Int)) := by
      unfold emN
      rw [hb, if_pos rfl, Bool.eq_iff_iff]
      simp only [beq_iff_eq]; omega
    rw [e3]
    exact hA1
  · refine all_ret fun env1 a1 w1 hA1 => ?_
    simp only [Ex.to, Exit.then]
    refine (show (restC 2 rcv6).wp Tryd.prog _ a1 w1 from step (env := env1) ?_)
    have e3 : emN st em A.q.length = em := by unfold emN; rw [hb]; rfl
    rw [e3]
    exact hA1
set_option maxHeartbeats 2000000 in
theorem round6_ok {w0 : From} {q : InR} {n z : Int} {L : List ByteArray} {i : Nat} {a : Act} {W : World} (hI : InvF w0 q n z L i a W) : round6.wp Tryd.prog (RF w0 q n z L i) a W := by
  obtain ⟨hi, w, c, x, y, A, bg, fl, st, em, h, hs, hr, env, hA⟩ := hI
  have hc := h.c
  refine wpS (by kernel_rfl) ?_
  refine pieceT0 (c := cfgM) cfgM_ok nFi f_tm hA ?_
  have out : ∀ {env : Env} {a : Act} {W : World}, At [(0, 0)] w0 env (fr 123 nFi (vFi n L bg fl st em i)) (sLw q w c (sfn x.p) (rfn y.p) x y L) a W → RF w0 q n z L i (.exit 0) a W := by
    intro env a W hA
    simp only [RF, Exit.then, Exit.inBlock, if_true]
    have hA2 : At [(0, 0)] w0 env (fr 123 nF (vF n L bg fl st em)) (sLw q w c (sfn x.p) (rfn y.p) x y L) a W := At.few (names := nF) (extra := [16]) (vals := vF n L bg fl st em) (ev := [.int .i64 (i : Nat)]) hA rfl
    refine pieceT0 (c := cfgM) cfgM_ok [6] f_end hA2 ?_
    exact all_ret fun _ _ _ h => h.said (by kernel_rfl)
  refine all_brp (by simp only [decide_eq_true_eq]; exact Iff.rfl) (fun h1 => ?_) (fun h1 => all_ret fun _ _ _ h => out h)
  refine all_brp (by simp only [decide_eq_true_eq]; exact Iff.rfl) (fun h2 => all_ret fun env1 a1 w1 hA1 => ?_) (fun h2 => all_ret fun _ _ _ h => out h)
  simp only [Ex.to, Exit.then]
  refine (show (rgt round6).wp _ _ _ _ from wpS (by kernel_rfl) (wpB 1 (by kernel_rfl) ?_))
  refine (show bb6.wp Tryd.prog (BF w0 q n z L i) a1 w1 from ?_)
  obtain ⟨g1, g2, g3, g4, g5⟩ := h.small
  refine pieceNT0 (c := cfgPs q w c (sfn x.p) (rfn y.p) x y L (outA L A) (inA A) True) (cfgPs_ok fun _ => ⟨g4.symm, g5.symm, g2, by omega⟩) 1 nFo f_pass hA1 ?_
  refine pass_needs (by omega) (by omega) ?_
  refine all_eq ⟨rfl, rfl, trivial⟩ ?_
  refine all_ret fun env2 a2 w2 hA2 => ?_
  simp only [Ex.to, Exit.then]
  refine (show (restC 1 bb6).wp Tryd.prog (BF w0 q n z L i) a2 w2 from wpS (by kernel_rfl) (wpS (by kernel_rfl) ?_))
  refine (show sel6.wp _ _ _ _ from ?_)
  refine pieceT0 (c := cfgM) cfgM_ok nFp (f_sel (O := outA L A) (I := inA A)) hA2 ?_
  simp only [Int.toNat_natCast]
  refine all_needq (by simp only [decide_eq_true_eq, Bool.and_eq_true]; exact Iff.rfl) (by omega) ?_
  refine all_needq (by simp only [decide_eq_true_eq]; exact Iff.rfl) (by omega) ?_
  refine all_ret fun env3 a3 w3 hA3 => ?_
  simp only [Ex.to, Exit.then]
  have hA4 : At [(0, 0)] w0 env3 (fr 123 nFo (vFo n L bg fl st em i (outA L A) (inA A))) (sLo q w c (sfn x.p) (rfn y.p) x y L (outA L A) (inA A)) a3 w3 := At.few (names := nFo) (extra := [65]) (vals := vFo n L bg fl st em i (outA L A) (inA A)) (ev := [.sb _]) hA3 rfl
  refine wpC 65 (by kernel_rfl) hA3 (bitop BinOp.and IntKind.u8 (q.ps.getD i 0) 1 == 0) (.inr rfl) ?_
  cases hb : (bitop BinOp.and IntKind.u8 (q.ps.getD i 0) 1 == 0) with
  | true =>
    rw [if_pos rfl]
    exact (show snd6.wp Tryd.prog _ a3 w3 from snd6_ok (by omega) h hs hr hA4)
  | false =>
    rw [if_neg (by simp)]
    refine (show (rgt cnd6).wp Tryd.prog _ a3 w3 from wp_skip ?_)
    simp only [Exit.then]
    exact rcv6_ok (by omega) h hs hr hA4
theorem b6_eq : Tryd.f6.body = some b6 := by kernel_rfl
set_option maxHeartbeats 2000000 in
theorem ringFull_call {q : InR} {p s : Int} (hh : 0 ≤ q.h ∧ q.h < 4294967296) (hs : 0 ≤ s ∧ s ≤ 255) {e0 e1 e2 : Slot} (he : e0.blk = 0 ∧ e0.off = 0) {w : World} {v0 v1 v2 : Value} (hr : Rep [e0, e1, e2] (sB q) w) (h0 : Den [e0, e1, e2] (plV q 1 2) v0) (h1 : Den [e0, e1, e2] (.int .u8 p) v1) (h2 : Den [e0, e1, e2] (.int .u8 s) v2) :
    Calls Tryd.prog 6 ⟨[v0, v1, v2]⟩ w (Said ⟨w, fun _ => False⟩) := by
  refine call_begin (c := cfgM) Tryd.func6 b6_eq (args := [plV q 1 2, .int .u8 p, .int .u8 s]) (by
    intro p hp
    rw [List.mem_singleton.1 hp]
    exact ⟨e0, rfl, he⟩) hr ⟨_, _, rfl, h0, _, _, rfl, h1, _, _, rfl, h2, rfl⟩ (F := fun _ => False) (fun x h => noFootR x h) ?_
  intro a hA
  refine pieceNT0 (c := cfgBo q p s (nR p) (zR s) (lAll q (zR s)) True) (cfgBo_ok hh hs) 5 nF f_pre hA ?_
  have hz := zR_ok hs
  have hn := nR_ok p
  have hfit : ∀ x ∈ lAll q (zR s), fitB (zR s) x := cutL_fit hz.1 q.ms (min q.ms.length 20)
  have hlen : (lAll q (zR s)).length = min q.ms.length 20 := cutL_len (zR s) q.ms (min q.ms.length 20)
  generalize nR p = n at *
  generalize zR s = z at *
  generalize lAll q z = L at *
  refine all_eq ⟨rfl, rfl, trivial⟩ (all_eq rfl (all_ret fun env1 a1 w1 hA1 => ?_))
  simp only [Ex.to, Exit.then]
  have hA2 := hA1.perm [0, 5, 4, 6, 7, 8, 9, 10, 11, 12, 1, 2, 3] (by kernel_rfl) (by kernel_rfl) (st' := sLw q (w80 q.h) 2 30 31 (snd0 n z) (rcv0 n z) L) (vals' := [.ptr 12 0, .ptr 2 0, .ptr 3 0, .ptr 6 0, .sli 9 (.c 0) 1 (.v L.length) none, .int .i64 n, .bl true, .bl false, .bl true, .bl false]) (by kernel_rfl) (by kernel_rfl)
  have hA3 := hA2.gvals (vF n L true false true false) rfl
  refine (show c6.wp Tryd.prog (Q6 ⟨w, fun _ => False⟩) a1 w1 from wpS (by kernel_rfl) (wpS (by kernel_rfl) ?_))
  refine pieceT0 (c := cfgM) cfgM_ok nFi f_reg hA3 (all_ret fun env2 a2 w2 hA4 => ?_)
  simp only [Ex.to, Exit.then]
  have hA5 := hA4.gvals (vFi n L true false true false 0) rfl
  refine wpB 0 (by kernel_rfl) (wpL (by kernel_rfl) (InvF ⟨w, fun _ => False⟩ q n z L) (fun i => 250 - i) 0 ⟨Nat.zero_le _, w80 q.h, 2, snd0 n z, rcv0 n z, ab0, true, false, true, false, ⟨rel_start hn hz hh (by omega) hfit, ord_start L, by simp⟩, fs_start n L, fr_start, env2, hA5⟩ ?_)
  intro i a w h
  exact round6_ok h
end Go.Proofs.YtplbncncnjiahaaDoor

/- RingFull: its row and its card. -/
namespace Go.Proofs.YtplbncncnjiahaaDoor
open Go Go.Proofs.YtplbncncnjiahaaDoor.Sx Go.ChangeShapes Go.WideShapes Go.ChangeAt Go.RowKit
set_option linter.unusedVariables false
set_option maxRecDepth 100000 in
theorem ringFull_lifted (os : Os) (started : os.Started) (H : Type) (enc : TypeId × Value → H) :
    ReturnsInHanded {} Tryd.checked os 6 .any (fun w args => (Rows.ringFullSpec.pre enc Tryd.prog Tryd.f6 [] false w args ∧ laidMetH Tryd.prog laid1 w) ∧ sizedMet enc Tryd.prog Tryd.f6 (OpenSpec.ofChange Rows.ringFullSpec) false w args)
      (Rows.ringFullSpec.post enc Tryd.prog Tryd.f6 false true false false) := by
  refine returnsInHanded_of_change_and (C := Tryd.checked) (X := fun w _ => laidMetH Tryd.prog laid1 w) (fun _ _ _ hh h => h.of_heap hh) Tryd.own started (by kernel_rfl) Tryd.func6
    (ChangeSpec.witness_shaped (enc := enc) (C := Tryd.checked) (os := os) (X := fun w _ => laidMetH Tryd.prog laid1 w) false (World.doorLaid Tryd.prog 400 os) #[.agg #[.int .u32 0, .int .u32 0, .slice none 0 0, .slice none 0 0], .int .u8 0, .int .u8 0] 8 rfl (World.shaped_of_RefB (by kernel_rfl) (by kernel_rfl)) (by kernel_rfl) (by kernel_rfl) (by kernel_rfl) (door_met os _)) ?_
  intro W base args ds gs before hval0 hW _ _ hL _
  have hval : ∀ (j : Nat) t v, Tryd.f6.params[j]? = some t → args[j]? = some v → Value.okWide Tryd.prog W .any base t v := hval0
  have hW' := hW
  obtain ⟨p, q, hA0, hV, rfl, hfz, hnd⟩ := hW
  have hA : DataW.TrodAll enc Tryd.prog W 0 (fun _ => true) true Tryd.f6.params.toList args.toList ds p := hA0
  rw [Tryd.params6] at hA hval
  obtain ⟨v0, v1, v2, d0, d1, d2, p0, p1, p2, rfl, rfl, rfl, h0, h1, h2⟩ := trodAll_three hA
  obtain ⟨rfl, rfl⟩ := trodVars_none hV
  obtain ⟨hh, ht, va, vb, rfl, wh, wt, ⟨ms, c1, s1, hr1, hd1⟩, ⟨ks, c2, s2, hr2, hd2⟩⟩ := open_play (hval 0 43 v0 rfl rfl) h0
  obtain ⟨x1, rfl, wx1⟩ := open_byteR (hval 1 5 v1 rfl rfl) h1
  obtain ⟨x2, rfl, wx2⟩ := open_byteR (hval 2 5 v2 rfl rfl) h2
  clear hA0 hval0
  have hlt0 : ∀ x ∈ p0, x.block < W.heap.size := fun x hx => by simpa using hW'.lt x (by simp [hx])
  have hlt1 : ∀ x ∈ p1, x.block < W.heap.size := fun x hx => by simpa using hW'.lt x (by simp [hx])
  have hlt2 : ∀ x ∈ p2, x.block < W.heap.size := fun x hx => by simpa using hW'.lt x (by simp [hx])
  obtain ⟨e0, he, hr0⟩ := of_laid hL
  have fin : ∀ e W', Said ⟨W, fun _ => False⟩ e W' → ∃ v, e = .returned v ∧ Rows.ringFullSpec.post enc Tryd.prog Tryd.f6 false true false false W #[playV hh ht va vb, .int .u8 x1, .int .u8 x2] v W' := by
    rintro e W' ⟨rfl, hsz, hk, hc⟩
    have hk' : ∀ x, x < W.heap.size → W'.heap[x]? = W.heap[x]? := fun x hx => hk x hx (fun h => h)
    refine ⟨_, rfl, _, _, _, [], _, [], hW', ⟨[], [], shut_bool Tryd.underlying4 true, rfl, rfl⟩, trodAll_mk3 (trod_same Tryd.laidOut (by kernel_rfl) (of_decide_eq_true (by kernel_rfl)) h0 hk' hlt0) (trod_same Tryd.laidOut (by kernel_rfl) (of_decide_eq_true (by kernel_rfl)) h1 hk' hlt1) (trod_same Tryd.laidOut (by kernel_rfl) (of_decide_eq_true (by kernel_rfl)) h2 hk' hlt2), rfl, keptBut_of _ hc hk', fun h => by cases h⟩
  obtain ⟨hq1, hn1⟩ := ro_add hr0 (by intro b hb e; rw [List.mem_singleton.1 hb]; rfl) rfl hr1
  obtain ⟨hr, _⟩ := ro_add hq1 hn1 rfl hr2
  have g1 : Den ([e0, s1] ++ [s2]) (plV ⟨hh, ht, ms, c1, ks, c2⟩ 1 2) (playV hh ht va vb) := den_play (q := ⟨hh, ht, ms, c1, ks, c2⟩) (den_wide (den_add (env := [e0]) (n := 1) hd1 rfl)) (den_add (env := [e0, s1]) (n := 2) hd2 rfl)
  exact (ringFull_call (q := ⟨hh, ht, ms, c1, ks, c2⟩) (p := x1) (s := x2) wh wx2 he hr g1 rfl rfl).mono fun e W' h => fin e W' h
theorem ringFull_row : Rows.RingFullSaid :=
  OpenClaim.holds_of_wide 6 Tryd.f6 rfl rfl rfl rfl rfl rfl rfl ⟨rfl, rfl, rfl, rfl, rfl⟩ rfl rfl rfl rfl rfl (by kernel_rfl) Tryd.func6 (by kernel_rfl)
    (of_decide_eq_true (by kernel_rfl)) (by unfold Func.isWrapper; first | (rw [if_pos (by decide +kernel)]; kernel_rfl) | (rw [if_neg (by decide +kernel)]; exact ⟨rfl, rfl⟩))
    (fun os started H enc _ => ringFull_lifted os started H enc)
theorem ringFull_holds : Rows.RingFullCardSaid :=
  Claim7.holds_tied_plain_at .later [] [.data] true _ _ ringFull_row (fun _ h => by cases h) (by kernel_rfl) (fun _ h => by cases h) ringFull_row_tie rfl ⟨rfl, rfl⟩ (by kernel_rfl) rfl
    (fun f fn hf hfn => by
      obtain rfl : f = 6 := Option.some.inj ((show Tryd.prog.funcNamed "purlin/purlinlaw12.RingFull" = some 6 by kernel_rfl).symm.trans hf) |>.symm
      obtain rfl : fn = Tryd.f6 := (Option.some.inj (Tryd.func6.symm.trans hfn)).symm
      exact ⟨by kernel_rfl, fun j t ht => by
        rw [Tryd.params6] at ht
        have hm : t ∈ [43, 5, 5] := by simpa using Array.mem_of_getElem? ht
        have hall : ([43, 5, 5].all fun u => !Tryd.prog.wantsStandIn u) = true := by kernel_rfl
        exact (show Tryd.prog.wantsStandIn t = false by simpa using List.all_eq_true.1 hall t hm)⟩)
    (by kernel_rfl)
end Go.Proofs.YtplbncncnjiahaaDoor

