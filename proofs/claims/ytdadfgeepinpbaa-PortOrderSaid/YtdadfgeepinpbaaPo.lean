/- PortOrder returns true at every input, without condition, and leaves its arguments as they were. -/
import Derived.Test.YtdadfgeepinpbaaSxB
import Derived.Test.YtdadfgeepinpbaaRows
/- PortOrder: the configuration and the state. -/
namespace Go.Proofs.Ytdadfgeepinpbaa
open Go Go.Proofs.Ytdadfgeepinpbaa.Sx
set_option linter.unusedVariables false
/-- a call as it lies in cells -/
structure Cl where
  kind : Int
  s : ByteArray
  tick : Int
def encCl : Enc Cl := encOf 2 (fun x => [.int .i64 x.kind, .str x.s, .int .u32 x.tick]) ⟨0, .empty, 0⟩ (fun _ => rfl) (by intro env env' x vs h; simpa [DenL, Den] using h)
def Cl0 : Cl := ⟨0, .empty, 0⟩
noncomputable def cfg0 : Cfg := { P := Try.prog, ex := fun k => match k with | .i64 => true | _ => false, gl := [], sm := fun _ => none }
theorem cfg0_ok : SmOk cfg0 := by intro f g h; cases h
set_option maxRecDepth 100000 in
theorem awake_val : (callF cfg0 100 8 [] []).val = some (.bl true) := by kernel_rfl
noncomputable def cfg : Cfg := { P := Try.prog, ex := fun k => match k with | .i64 => true | _ => false, gl := [], sm := fun f => match f with | 8 => some (smClosed [] [] (.bl true)) | _ => none }
theorem cfg_ok : SmOk cfg := by
  intro f g h
  simp only [cfg] at h
  split at h
  · simp only [Option.some.injEq] at h; subst h
    exact smClosed_ok cfg0_ok awake_val (by kernel_rfl) rfl rfl (by intro b hb; cases hb)
  · cases h
noncomputable def b3 : Code := Try.f3.body.getD .skip
noncomputable def blk3 : Code := rgt (lft (restC 7 b3))
noncomputable def reg3 : Code := lft (lft (restC 7 b3))
noncomputable def round3 : Code := lft (lft blk3)
noncomputable def end3 : Code := rgt (restC 7 b3)
abbrev n3 : List Nat := [2, 6, 7, 8, 9, 11, 12, 13]
abbrev v3 (cl : SVal) (d z : Int) (se : SVal) (got i : Int) : List SVal := [cl, .bl false, .int .u8 d, .int .u8 z, .ptr 1 0, se, .int .i64 got, .int .i64 i]
abbrev s3n (calls : List Cl) (d z : Int) (sent : List ByteArray) : St := [.ro encCl calls, .own [.c (.ifc 56 (.ptr 2 0)), .c (.int .i64 z)] 62, .own [.c .snil, .c (.int .i64 d)] 58, .vec encStr sent 9]
abbrev s3v (calls : List Cl) (d z : Int) (xs sent : List ByteArray) : St := [.ro encCl calls, .own [.c (.ifc 56 (.ptr 2 0)), .c (.int .i64 z)] 62, .own [.c (.sli 3 (.c 0) 1 (.v xs.length) none), .c (.int .i64 d)] 58, .vec encStr xs 9, .vec encStr sent 9]
abbrev callsV (calls : List Cl) (cap : Nat) : SVal := .sli 0 (.c 0) 3 (.v calls.length) (some (.v cap))
end Go.Proofs.Ytdadfgeepinpbaa

namespace Go.Proofs.Ytdadfgeepinpbaa
open Go Go.Proofs.Ytdadfgeepinpbaa.Sx
set_option linter.unusedVariables false
set_option maxRecDepth 100000 in
theorem po_pre {size depth : Int} {calls : List Cl} {cap : Nat} : (execN cfg 100 7 b3 ([.int .u8 size, .int .u8 depth, callsV calls cap] ++ List.replicate 141 .bad) [.ro encCl calls]).bind (canon [] 144 [2, 6, 7, 8, 9, 11, 12]) =
  (.need (true)
   (.need (decide ((0 : Int) ≤ depth.tmod (5 : Int)))
    (.need (true)
     (.br (decide (IntKind.u8.wrap ((1 : Int) + size.tmod (32 : Int)) < (1 : Int)))
      (.ret (Ex.ret, [SVal.sli (0 : Nat) (NN.c (0 : Nat)) (3 : Nat) (NN.v calls.length) (some (NN.v cap)),
  SVal.bl false,
  SVal.int IntKind.u8 (IntKind.u8.wrap ((1 : Int) * (2 : Int) ^ min (depth.tmod (5 : Int)).toNat (8 : Nat))),
  SVal.int IntKind.u8 (IntKind.u8.wrap ((1 : Int) + size.tmod (32 : Int))), SVal.pnil, SVal.bad, SVal.bad],
        [Blk.ro encCl calls]))
      (.br (decide ((32 : Int) < IntKind.u8.wrap ((1 : Int) + size.tmod (32 : Int))))
       (.ret (Ex.ret, [SVal.sli (0 : Nat) (NN.c (0 : Nat)) (3 : Nat) (NN.v calls.length) (some (NN.v cap)),
  SVal.bl false,
  SVal.int IntKind.u8 (IntKind.u8.wrap ((1 : Int) * (2 : Int) ^ min (depth.tmod (5 : Int)).toNat (8 : Nat))),
  SVal.int IntKind.u8 (IntKind.u8.wrap ((1 : Int) + size.tmod (32 : Int))), SVal.pnil, SVal.bad, SVal.bad],
         [Blk.ro encCl calls]))
       (.br (decide ((0 : Int) < IntKind.u8.wrap ((1 : Int) * (2 : Int) ^ min (depth.tmod (5 : Int)).toNat (8 : Nat))))
        (.br (decide
  (IntKind.u8.wrap ((1 : Int) * (2 : Int) ^ min (depth.tmod (5 : Int)).toNat (8 : Nat)) ≤ (16 : Int)))
         (.br (bitop BinOp.and IntKind.u8
    (IntKind.u8.wrap ((1 : Int) * (2 : Int) ^ min (depth.tmod (5 : Int)).toNat (8 : Nat)))
    (IntKind.u8.wrap
      (IntKind.u8.wrap ((1 : Int) * (2 : Int) ^ min (depth.tmod (5 : Int)).toNat (8 : Nat)) - (1 : Int))) ==
  (0 : Int))
          (.need (inR IntKind.i64
  (IntKind.u8.wrap ((1 : Int) * (2 : Int) ^ min (depth.tmod (5 : Int)).toNat (8 : Nat))))
           (.need (inR IntKind.i64 (IntKind.u8.wrap ((1 : Int) + size.tmod (32 : Int))))
            (.ret (Ex.normal, [SVal.sli (0 : Nat) (NN.c (0 : Nat)) (3 : Nat) (NN.v calls.length) (some (NN.v cap)),
  SVal.bl false,
  SVal.int IntKind.u8 (IntKind.u8.wrap ((1 : Int) * (2 : Int) ^ min (depth.tmod (5 : Int)).toNat (8 : Nat))),
  SVal.int IntKind.u8 (IntKind.u8.wrap ((1 : Int) + size.tmod (32 : Int))), SVal.ptr (1 : Nat) (0 : Nat),
  SVal.sli (3 : Nat) (NN.c (0 : Nat)) (1 : Nat) (NN.c (0 : Nat)) (some (NN.c (0 : Nat))),
  SVal.lit IntKind.i64 (0 : Int)],
              [Blk.ro encCl calls,
  Blk.own
    [Seg.c (SVal.ifc (56 : Nat) (SVal.ptr (2 : Nat) (0 : Nat))),
      Seg.c (SVal.int IntKind.i64 (IntKind.u8.wrap ((1 : Int) + size.tmod (32 : Int))))]
    (62 : Nat),
  Blk.own
    [Seg.c SVal.snil,
      Seg.c
        (SVal.int IntKind.i64 (IntKind.u8.wrap ((1 : Int) * (2 : Int) ^ min (depth.tmod (5 : Int)).toNat (8 : Nat))))]
    (58 : Nat),
  Blk.own [] (9 : Nat)]))))
          (.ret (Ex.ret, [SVal.sli (0 : Nat) (NN.c (0 : Nat)) (3 : Nat) (NN.v calls.length) (some (NN.v cap)),
  SVal.bl false,
  SVal.int IntKind.u8 (IntKind.u8.wrap ((1 : Int) * (2 : Int) ^ min (depth.tmod (5 : Int)).toNat (8 : Nat))),
  SVal.int IntKind.u8 (IntKind.u8.wrap ((1 : Int) + size.tmod (32 : Int))), SVal.pnil, SVal.bad, SVal.bad],
            [Blk.ro encCl calls])))
         (.ret (Ex.ret, [SVal.sli (0 : Nat) (NN.c (0 : Nat)) (3 : Nat) (NN.v calls.length) (some (NN.v cap)),
  SVal.bl false,
  SVal.int IntKind.u8 (IntKind.u8.wrap ((1 : Int) * (2 : Int) ^ min (depth.tmod (5 : Int)).toNat (8 : Nat))),
  SVal.int IntKind.u8 (IntKind.u8.wrap ((1 : Int) + size.tmod (32 : Int))), SVal.pnil, SVal.bad, SVal.bad],
           [Blk.ro encCl calls])))
        (.ret (Ex.ret, [SVal.sli (0 : Nat) (NN.c (0 : Nat)) (3 : Nat) (NN.v calls.length) (some (NN.v cap)),
  SVal.bl false,
  SVal.int IntKind.u8 (IntKind.u8.wrap ((1 : Int) * (2 : Int) ^ min (depth.tmod (5 : Int)).toNat (8 : Nat))),
  SVal.int IntKind.u8 (IntKind.u8.wrap ((1 : Int) + size.tmod (32 : Int))), SVal.pnil, SVal.bad, SVal.bad],
          [Blk.ro encCl calls])))))))) := by kernel_rfl
set_option maxRecDepth 100000 in
theorem po_reg {d z got : Int} {calls : List Cl} {sent : List ByteArray} {cap : Nat} : (exec cfg 100 reg3 (fr 144 [2, 6, 7, 8, 9, 11, 12] [callsV calls cap, .bl false, .int .u8 d, .int .u8 z, .ptr 1 0, .sli 4 (.c 0) 1 (.v 0) none, .lit .i64 0]) [.ro encCl calls, .own [.c (.ifc 56 (.ptr 2 0)), .c (.int .i64 z)] 62, .own [.c .snil, .c (.int .i64 d)] 58, .gone, .vec encStr [] 9]).bind (canon [] 144 n3) =
  (.ret (Ex.normal, [SVal.sli (0 : Nat) (NN.c (0 : Nat)) (3 : Nat) (NN.v calls.length) (some (NN.v cap)), SVal.bl false,
  SVal.int IntKind.u8 d, SVal.int IntKind.u8 z, SVal.ptr (1 : Nat) (0 : Nat),
  SVal.sli (3 : Nat) (NN.c (0 : Nat)) (1 : Nat) (NN.v (0 : Nat)) none, SVal.lit IntKind.i64 (0 : Int),
  SVal.lit IntKind.i64 (0 : Int)],
    [Blk.ro encCl calls,
  Blk.own [Seg.c (SVal.ifc (56 : Nat) (SVal.ptr (2 : Nat) (0 : Nat))), Seg.c (SVal.int IntKind.i64 z)] (62 : Nat),
  Blk.own [Seg.c SVal.snil, Seg.c (SVal.int IntKind.i64 d)] (58 : Nat), Blk.vec encStr [] (9 : Nat)])) := by kernel_rfl
set_option maxRecDepth 100000 in
theorem po_endn {d z got i : Int} {calls : List Cl} {sent : List ByteArray} {cap : Nat} : (exec cfg 100 end3 (fr 144 n3 (v3 (callsV calls cap) d z (.sli 3 (.c 0) 1 (.v sent.length) none) got i)) (s3n calls d z sent)).bind (canon [] 144 [6]) =
  (.need (inR IntKind.i64 ((↑sent.length : Int) - got))
   (.ret (Ex.ret, [SVal.sb ((0 : Int) == (↑sent.length : Int) - got)],
     []))) := by kernel_rfl
set_option maxRecDepth 100000 in
theorem po_endv {d z got i : Int} {calls : List Cl} {xs sent : List ByteArray} {cap : Nat} : (exec cfg 100 end3 (fr 144 n3 (v3 (callsV calls cap) d z (.sli 4 (.c 0) 1 (.v sent.length) none) got i)) (s3v calls d z xs sent)).bind (canon [] 144 [6]) =
  (.need (inR IntKind.i64 ((↑sent.length : Int) - got))
   (.ret (Ex.ret, [SVal.sb ((↑xs.length : Int) == (↑sent.length : Int) - got)],
     []))) := by kernel_rfl
end Go.Proofs.Ytdadfgeepinpbaa

namespace Go.Proofs.Ytdadfgeepinpbaa
open Go Go.Proofs.Ytdadfgeepinpbaa.Sx
set_option linter.unusedVariables false
set_option maxRecDepth 100000 in
theorem po_rn {d z got i : Int} {calls : List Cl} {sent : List ByteArray} {cap : Nat} : (exec cfg 100 round3 (fr 144 n3 (v3 (callsV calls cap) d z (.sli 3 (.c 0) 1 (.v sent.length) none) got i)) (s3n calls d z sent)).bind (canon [] 144 n3) =
  (.br (decide (i < (↑calls.length : Int)))
   (.br (decide (i < (80 : Int)))
    (.need (decide ((0 : Int) ≤ i) && decide (i.toNat < calls.length))
     (.need (decide (i.toNat < calls.length))
      (.need (decide (i.toNat < calls.length))
       (.need (decide (i.toNat < calls.length))
        (.br (decide ((40 : Int) < (↑(calls.getD i.toNat encCl.dflt).2.size : Int)))
         (.need (decide ((40 : Nat) ≤ (calls.getD i.toNat encCl.dflt).2.size))
          (.need (decide ((0 : Nat) ≤ (40 : Nat)))
           (.need (inR IntKind.i64 ((↑sent.length : Int) - got))
            (.need (inR IntKind.i64 d)
             (.br (bitop BinOp.and IntKind.i64 (calls.getD i.toNat encCl.dflt).1 (1 : Int) == (0 : Int))
              (.br (decide ((1 : Int) ≤ (↑((calls.getD i.toNat encCl.dflt).2.extract (0 : Nat) (40 : Nat)).size : Int)))
               (.br (!decide ((↑((calls.getD i.toNat encCl.dflt).2.extract (0 : Nat) (40 : Nat)).size : Int) ≤ z))
                (.br (!strEq ((calls.getD i.toNat encCl.dflt).2.extract (0 : Nat) (40 : Nat))
    { data := { toList := [] } })
                 (.need (inR IntKind.i64 z)
                  (.br (decide ((↑((calls.getD i.toNat encCl.dflt).2.extract (0 : Nat) (40 : Nat)).size : Int) ≤ z))
                   (.br (!false == !(↑sent.length : Int) - got == d)
                    (.no 106)
                    (.br (decide ((↑((calls.getD i.toNat encCl.dflt).2.extract (0 : Nat) (40 : Nat)).size : Int) ≤ z))
                     (.br ((↑sent.length : Int) - got == d)
                      (.ret (Ex.ret, [SVal.sli (0 : Nat) (NN.c (0 : Nat)) (3 : Nat) (NN.v calls.length)
    (some (NN.v cap)),
  SVal.bl false, SVal.int IntKind.u8 d, SVal.int IntKind.u8 z, SVal.ptr (1 : Nat) (0 : Nat),
  SVal.sli (3 : Nat) (NN.c (0 : Nat)) (1 : Nat) (NN.v sent.length) none, SVal.int IntKind.i64 got,
  SVal.int IntKind.i64 i],
                        [Blk.ro encCl calls,
  Blk.own [Seg.c (SVal.ifc (56 : Nat) (SVal.ptr (2 : Nat) (0 : Nat))), Seg.c (SVal.int IntKind.i64 z)] (62 : Nat),
  Blk.own [Seg.c SVal.snil, Seg.c (SVal.int IntKind.i64 d)] (58 : Nat), Blk.vec encStr sent (9 : Nat)]))
                      (.need (inR IntKind.i64 (i + (1 : Int)))
                       (.ret (Ex.normal, [SVal.sli (0 : Nat) (NN.c (0 : Nat)) (3 : Nat) (NN.v calls.length)
    (some (NN.v cap)),
  SVal.bl false, SVal.int IntKind.u8 d, SVal.int IntKind.u8 z, SVal.ptr (1 : Nat) (0 : Nat),
  SVal.sli (3 : Nat) (NN.c (0 : Nat)) (1 : Nat) (NN.v sent.length) none, SVal.int IntKind.i64 got,
  SVal.int IntKind.i64 (i + (1 : Int))],
                         [Blk.ro encCl calls,
  Blk.own [Seg.c (SVal.ifc (56 : Nat) (SVal.ptr (2 : Nat) (0 : Nat))), Seg.c (SVal.int IntKind.i64 z)] (62 : Nat),
  Blk.own [Seg.c SVal.snil, Seg.c (SVal.int IntKind.i64 d)] (58 : Nat), Blk.vec encStr sent (9 : Nat)]))))
                     (.need (inR IntKind.i64 (i + (1 : Int)))
                      (.ret (Ex.normal, [SVal.sli (0 : Nat) (NN.c (0 : Nat)) (3 : Nat) (NN.v calls.length)
    (some (NN.v cap)),
  SVal.bl false, SVal.int IntKind.u8 d, SVal.int IntKind.u8 z, SVal.ptr (1 : Nat) (0 : Nat),
  SVal.sli (3 : Nat) (NN.c (0 : Nat)) (1 : Nat) (NN.v sent.length) none, SVal.int IntKind.i64 got,
  SVal.int IntKind.i64 (i + (1 : Int))],
                        [Blk.ro encCl calls,
  Blk.own [Seg.c (SVal.ifc (56 : Nat) (SVal.ptr (2 : Nat) (0 : Nat))), Seg.c (SVal.int IntKind.i64 z)] (62 : Nat),
  Blk.own [Seg.c SVal.snil, Seg.c (SVal.int IntKind.i64 d)] (58 : Nat), Blk.vec encStr sent (9 : Nat)])))))
                   (.br (decide ((↑((calls.getD i.toNat encCl.dflt).2.extract (0 : Nat) (40 : Nat)).size : Int) ≤ z))
                    (.br ((↑sent.length : Int) - got == d)
                     (.ret (Ex.ret, [SVal.sli (0 : Nat) (NN.c (0 : Nat)) (3 : Nat) (NN.v calls.length)
    (some (NN.v cap)),
  SVal.bl false, SVal.int IntKind.u8 d, SVal.int IntKind.u8 z, SVal.ptr (1 : Nat) (0 : Nat),
  SVal.sli (3 : Nat) (NN.c (0 : Nat)) (1 : Nat) (NN.v sent.length) none, SVal.int IntKind.i64 got,
  SVal.int IntKind.i64 i],
                       [Blk.ro encCl calls,
  Blk.own [Seg.c (SVal.ifc (56 : Nat) (SVal.ptr (2 : Nat) (0 : Nat))), Seg.c (SVal.int IntKind.i64 z)] (62 : Nat),
  Blk.own [Seg.c SVal.snil, Seg.c (SVal.int IntKind.i64 d)] (58 : Nat), Blk.vec encStr sent (9 : Nat)]))
                     (.need (inR IntKind.i64 (i + (1 : Int)))
                      (.ret (Ex.normal, [SVal.sli (0 : Nat) (NN.c (0 : Nat)) (3 : Nat) (NN.v calls.length)
    (some (NN.v cap)),
  SVal.bl false, SVal.int IntKind.u8 d, SVal.int IntKind.u8 z, SVal.ptr (1 : Nat) (0 : Nat),
  SVal.sli (3 : Nat) (NN.c (0 : Nat)) (1 : Nat) (NN.v sent.length) none, SVal.int IntKind.i64 got,
  SVal.int IntKind.i64 (i + (1 : Int))],
                        [Blk.ro encCl calls,
  Blk.own [Seg.c (SVal.ifc (56 : Nat) (SVal.ptr (2 : Nat) (0 : Nat))), Seg.c (SVal.int IntKind.i64 z)] (62 : Nat),
  Blk.own [Seg.c SVal.snil, Seg.c (SVal.int IntKind.i64 d)] (58 : Nat), Blk.vec encStr sent (9 : Nat)]))))
                    (.need (inR IntKind.i64 (i + (1 : Int)))
                     (.ret (Ex.normal, [SVal.sli (0 : Nat) (NN.c (0 : Nat)) (3 : Nat) (NN.v calls.length)
    (some (NN.v cap)),
  SVal.bl false, SVal.int IntKind.u8 d, SVal.int IntKind.u8 z, SVal.ptr (1 : Nat) (0 : Nat),
  SVal.sli (3 : Nat) (NN.c (0 : Nat)) (1 : Nat) (NN.v sent.length) none, SVal.int IntKind.i64 got,
  SVal.int IntKind.i64 (i + (1 : Int))],
                       [Blk.ro encCl calls,
  Blk.own [Seg.c (SVal.ifc (56 : Nat) (SVal.ptr (2 : Nat) (0 : Nat))), Seg.c (SVal.int IntKind.i64 z)] (62 : Nat),
  Blk.own [Seg.c SVal.snil, Seg.c (SVal.int IntKind.i64 d)] (58 : Nat), Blk.vec encStr sent (9 : Nat)]))))))
                 (.need (inR IntKind.i64 (i + (1 : Int)))
                  (.ret (Ex.normal, [SVal.sli (0 : Nat) (NN.c (0 : Nat)) (3 : Nat) (NN.v calls.length)
    (some (NN.v cap)),
  SVal.bl false, SVal.int IntKind.u8 d, SVal.int IntKind.u8 z, SVal.ptr (1 : Nat) (0 : Nat),
  SVal.sli (3 : Nat) (NN.c (0 : Nat)) (1 : Nat) (NN.v sent.length) none, SVal.int IntKind.i64 got,
  SVal.int IntKind.i64 (i + (1 : Int))],
                    [Blk.ro encCl calls,
  Blk.own [Seg.c (SVal.ifc (56 : Nat) (SVal.ptr (2 : Nat) (0 : Nat))), Seg.c (SVal.int IntKind.i64 z)] (62 : Nat),
  Blk.own [Seg.c SVal.snil, Seg.c (SVal.int IntKind.i64 d)] (58 : Nat), Blk.vec encStr sent (9 : Nat)]))))
                (.br ((0 : Int) == d)
                 (.br (!strEq ((calls.getD i.toNat encCl.dflt).2.extract (0 : Nat) (40 : Nat))
    { data := { toList := [] } })
                  (.need (inR IntKind.i64 z)
                   (.br (decide ((↑((calls.getD i.toNat encCl.dflt).2.extract (0 : Nat) (40 : Nat)).size : Int) ≤ z))
                    (.br (!false == !(↑sent.length : Int) - got == d)
                     (.no 106)
                     (.br (decide ((↑((calls.getD i.toNat encCl.dflt).2.extract (0 : Nat) (40 : Nat)).size : Int) ≤ z))
                      (.br ((↑sent.length : Int) - got == d)
                       (.need (inR IntKind.i64 (i + (1 : Int)))
                        (.ret (Ex.normal, [SVal.sli (0 : Nat) (NN.c (0 : Nat)) (3 : Nat) (NN.v calls.length)
    (some (NN.v cap)),
  SVal.bl false, SVal.int IntKind.u8 d, SVal.int IntKind.u8 z, SVal.ptr (1 : Nat) (0 : Nat),
  SVal.sli (3 : Nat) (NN.c (0 : Nat)) (1 : Nat) (NN.v sent.length) none, SVal.int IntKind.i64 got,
  SVal.int IntKind.i64 (i + (1 : Int))],
                          [Blk.ro encCl calls,
  Blk.own [Seg.c (SVal.ifc (56 : Nat) (SVal.ptr (2 : Nat) (0 : Nat))), Seg.c (SVal.int IntKind.i64 z)] (62 : Nat),
  Blk.own [Seg.c SVal.snil, Seg.c (SVal.int IntKind.i64 d)] (58 : Nat), Blk.vec encStr sent (9 : Nat)])))
                       (.need (inR IntKind.i64 (i + (1 : Int)))
                        (.ret (Ex.normal, [SVal.sli (0 : Nat) (NN.c (0 : Nat)) (3 : Nat) (NN.v calls.length)
    (some (NN.v cap)),
  SVal.bl false, SVal.int IntKind.u8 d, SVal.int IntKind.u8 z, SVal.ptr (1 : Nat) (0 : Nat),
  SVal.sli (3 : Nat) (NN.c (0 : Nat)) (1 : Nat) (NN.v sent.length) none, SVal.int IntKind.i64 got,
  SVal.int IntKind.i64 (i + (1 : Int))],
                          [Blk.ro encCl calls,
  Blk.own [Seg.c (SVal.ifc (56 : Nat) (SVal.ptr (2 : Nat) (0 : Nat))), Seg.c (SVal.int IntKind.i64 z)] (62 : Nat),
  Blk.own [Seg.c SVal.snil, Seg.c (SVal.int IntKind.i64 d)] (58 : Nat), Blk.vec encStr sent (9 : Nat)]))))
                      (.need (inR IntKind.i64 (i + (1 : Int)))
                       (.ret (Ex.normal, [SVal.sli (0 : Nat) (NN.c (0 : Nat)) (3 : Nat) (NN.v calls.length)
    (some (NN.v cap)),
  SVal.bl false, SVal.int IntKind.u8 d, SVal.int IntKind.u8 z, SVal.ptr (1 : Nat) (0 : Nat),
  SVal.sli (3 : Nat) (NN.c (0 : Nat)) (1 : Nat) (NN.v sent.length) none, SVal.int IntKind.i64 got,
  SVal.int IntKind.i64 (i + (1 : Int))],
                         [Blk.ro encCl calls,
  Blk.own [Seg.c (SVal.ifc (56 : Nat) (SVal.ptr (2 : Nat) (0 : Nat))), Seg.c (SVal.int IntKind.i64 z)] (62 : Nat),
  Blk.own [Seg.c SVal.snil, Seg.c (SVal.int IntKind.i64 d)] (58 : Nat), Blk.vec encStr sent (9 : Nat)])))))
                    (.br (decide ((↑((calls.getD i.toNat encCl.dflt).2.extract (0 : Nat) (40 : Nat)).size : Int) ≤ z))
                     (.br ((↑sent.length : Int) - got == d)
                      (.need (inR IntKind.i64 (i + (1 : Int)))
                       (.ret (Ex.normal, [SVal.sli (0 : Nat) (NN.c (0 : Nat)) (3 : Nat) (NN.v calls.length)
    (some (NN.v cap)),
  SVal.bl false, SVal.int IntKind.u8 d, SVal.int IntKind.u8 z, SVal.ptr (1 : Nat) (0 : Nat),
  SVal.sli (3 : Nat) (NN.c (0 : Nat)) (1 : Nat) (NN.v sent.length) none, SVal.int IntKind.i64 got,
  SVal.int IntKind.i64 (i + (1 : Int))],
                         [Blk.ro encCl calls,
  Blk.own [Seg.c (SVal.ifc (56 : Nat) (SVal.ptr (2 : Nat) (0 : Nat))), Seg.c (SVal.int IntKind.i64 z)] (62 : Nat),
  Blk.own [Seg.c SVal.snil, Seg.c (SVal.int IntKind.i64 d)] (58 : Nat), Blk.vec encStr sent (9 : Nat)])))
                      (.need (inR IntKind.i64 (i + (1 : Int)))
                       (.ret (Ex.normal, [SVal.sli (0 : Nat) (NN.c (0 : Nat)) (3 : Nat) (NN.v calls.length)
    (some (NN.v cap)),
  SVal.bl false, SVal.int IntKind.u8 d, SVal.int IntKind.u8 z, SVal.ptr (1 : Nat) (0 : Nat),
  SVal.sli (3 : Nat) (NN.c (0 : Nat)) (1 : Nat) (NN.v sent.length) none, SVal.int IntKind.i64 got,
  SVal.int IntKind.i64 (i + (1 : Int))],
                         [Blk.ro encCl calls,
  Blk.own [Seg.c (SVal.ifc (56 : Nat) (SVal.ptr (2 : Nat) (0 : Nat))), Seg.c (SVal.int IntKind.i64 z)] (62 : Nat),
  Blk.own [Seg.c SVal.snil, Seg.c (SVal.int IntKind.i64 d)] (58 : Nat), Blk.vec encStr sent (9 : Nat)]))))
                     (.need (inR IntKind.i64 (i + (1 : Int)))
                      (.ret (Ex.normal, [SVal.sli (0 : Nat) (NN.c (0 : Nat)) (3 : Nat) (NN.v calls.length)
    (some (NN.v cap)),
  SVal.bl false, SVal.int IntKind.u8 d, SVal.int IntKind.u8 z, SVal.ptr (1 : Nat) (0 : Nat),
  SVal.sli (3 : Nat) (NN.c (0 : Nat)) (1 : Nat) (NN.v sent.length) none, SVal.int IntKind.i64 got,
  SVal.int IntKind.i64 (i + (1 : Int))],
                        [Blk.ro encCl calls,
  Blk.own [Seg.c (SVal.ifc (56 : Nat) (SVal.ptr (2 : Nat) (0 : Nat))), Seg.c (SVal.int IntKind.i64 z)] (62 : Nat),
  Blk.own [Seg.c SVal.snil, Seg.c (SVal.int IntKind.i64 d)] (58 : Nat), Blk.vec encStr sent (9 : Nat)]))))))
                  (.need (inR IntKind.i64 (i + (1 : Int)))
                   (.ret (Ex.normal, [SVal.sli (0 : Nat) (NN.c (0 : Nat)) (3 : Nat) (NN.v calls.length)
    (some (NN.v cap)),
  SVal.bl false, SVal.int IntKind.u8 d, SVal.int IntKind.u8 z, SVal.ptr (1 : Nat) (0 : Nat),
  SVal.sli (3 : Nat) (NN.c (0 : Nat)) (1 : Nat) (NN.v sent.length) none, SVal.int IntKind.i64 got,
  SVal.int IntKind.i64 (i + (1 : Int))],
                     [Blk.ro encCl calls,
  Blk.own [Seg.c (SVal.ifc (56 : Nat) (SVal.ptr (2 : Nat) (0 : Nat))), Seg.c (SVal.int IntKind.i64 z)] (62 : Nat),
  Blk.own [Seg.c SVal.snil, Seg.c (SVal.int IntKind.i64 d)] (58 : Nat), Blk.vec encStr sent (9 : Nat)]))))
                 (.need (true)
                  (.need (true)
                   (.br (!strEq ((calls.getD i.toNat encCl.dflt).2.extract (0 : Nat) (40 : Nat))
    { data := { toList := [] } })
                    (.need (inR IntKind.i64 z)
                     (.need (true)
                      (.need (decide (sent.length = sent.length))
                       (.need (roomy (sent.length + (1 : Nat)) (16 : Nat))
                        (.br (decide
  ((↑((calls.getD i.toNat encCl.dflt).2.extract (0 : Nat) (40 : Nat)).size : Int) ≤ z))
                         (.br (!true == !(↑sent.length : Int) - got == d)
                          (.no 106)
                          (.br (decide
  ((↑((calls.getD i.toNat encCl.dflt).2.extract (0 : Nat) (40 : Nat)).size : Int) ≤ z))
                           (.br ((↑sent.length : Int) - got == d)
                            (.ret (Ex.ret, [SVal.sli (0 : Nat) (NN.c (0 : Nat)) (3 : Nat) (NN.v calls.length)
    (some (NN.v cap)),
  SVal.bl false, SVal.int IntKind.u8 d, SVal.int IntKind.u8 z, SVal.ptr (1 : Nat) (0 : Nat),
  SVal.sli (4 : Nat) (NN.c (0 : Nat)) (1 : Nat) (NN.v (sent.length + (1 : Nat))) none, SVal.int IntKind.i64 got,
  SVal.int IntKind.i64 i],
                              [Blk.ro encCl calls,
  Blk.own [Seg.c (SVal.ifc (56 : Nat) (SVal.ptr (2 : Nat) (0 : Nat))), Seg.c (SVal.int IntKind.i64 z)] (62 : Nat),
  Blk.own [Seg.c (SVal.sli (3 : Nat) (NN.c (0 : Nat)) (1 : Nat) (NN.c (1 : Nat)) none), Seg.c (SVal.int IntKind.i64 d)]
    (58 : Nat),
  Blk.vec (encRow (0 : Nat)) [[SVal.str ((calls.getD i.toNat encCl.dflt).2.extract (0 : Nat) (40 : Nat))]] (9 : Nat),
  Blk.vec encStr (sent ++ [(calls.getD i.toNat encCl.dflt).2.extract (0 : Nat) (40 : Nat)]) (9 : Nat)]))
                            (.need (inR IntKind.i64 (i + (1 : Int)))
                             (.ret (Ex.normal, [SVal.sli (0 : Nat) (NN.c (0 : Nat)) (3 : Nat) (NN.v calls.length)
    (some (NN.v cap)),
  SVal.bl false, SVal.int IntKind.u8 d, SVal.int IntKind.u8 z, SVal.ptr (1 : Nat) (0 : Nat),
  SVal.sli (4 : Nat) (NN.c (0 : Nat)) (1 : Nat) (NN.v (sent.length + (1 : Nat))) none, SVal.int IntKind.i64 got,
  SVal.int IntKind.i64 (i + (1 : Int))],
                               [Blk.ro encCl calls,
  Blk.own [Seg.c (SVal.ifc (56 : Nat) (SVal.ptr (2 : Nat) (0 : Nat))), Seg.c (SVal.int IntKind.i64 z)] (62 : Nat),
  Blk.own [Seg.c (SVal.sli (3 : Nat) (NN.c (0 : Nat)) (1 : Nat) (NN.c (1 : Nat)) none), Seg.c (SVal.int IntKind.i64 d)]
    (58 : Nat),
  Blk.vec (encRow (0 : Nat)) [[SVal.str ((calls.getD i.toNat encCl.dflt).2.extract (0 : Nat) (40 : Nat))]] (9 : Nat),
  Blk.vec encStr (sent ++ [(calls.getD i.toNat encCl.dflt).2.extract (0 : Nat) (40 : Nat)]) (9 : Nat)]))))
                           (.need (inR IntKind.i64 (i + (1 : Int)))
                            (.ret (Ex.normal, [SVal.sli (0 : Nat) (NN.c (0 : Nat)) (3 : Nat) (NN.v calls.length)
    (some (NN.v cap)),
  SVal.bl false, SVal.int IntKind.u8 d, SVal.int IntKind.u8 z, SVal.ptr (1 : Nat) (0 : Nat),
  SVal.sli (4 : Nat) (NN.c (0 : Nat)) (1 : Nat) (NN.v (sent.length + (1 : Nat))) none, SVal.int IntKind.i64 got,
  SVal.int IntKind.i64 (i + (1 : Int))],
                              [Blk.ro encCl calls,
  Blk.own [Seg.c (SVal.ifc (56 : Nat) (SVal.ptr (2 : Nat) (0 : Nat))), Seg.c (SVal.int IntKind.i64 z)] (62 : Nat),
  Blk.own [Seg.c (SVal.sli (3 : Nat) (NN.c (0 : Nat)) (1 : Nat) (NN.c (1 : Nat)) none), Seg.c (SVal.int IntKind.i64 d)]
    (58 : Nat),
  Blk.vec (encRow (0 : Nat)) [[SVal.str ((calls.getD i.toNat encCl.dflt).2.extract (0 : Nat) (40 : Nat))]] (9 : Nat),
  Blk.vec encStr (sent ++ [(calls.getD i.toNat encCl.dflt).2.extract (0 : Nat) (40 : Nat)]) (9 : Nat)])))))
                         (.no 106))))))
                    (.need (true)
                     (.need (decide (sent.length = sent.length))
                      (.need (roomy (sent.length + (1 : Nat)) (16 : Nat))
                       (.no 106)))))))))
               (.br (!strEq ((calls.getD i.toNat encCl.dflt).2.extract (0 : Nat) (40 : Nat))
    { data := { toList := [] } })
                (.need (inR IntKind.i64 z)
                 (.br (decide ((↑((calls.getD i.toNat encCl.dflt).2.extract (0 : Nat) (40 : Nat)).size : Int) ≤ z))
                  (.br (!false == !(↑sent.length : Int) - got == d)
                   (.no 106)
                   (.br (decide ((↑((calls.getD i.toNat encCl.dflt).2.extract (0 : Nat) (40 : Nat)).size : Int) ≤ z))
                    (.br ((↑sent.length : Int) - got == d)
                     (.ret (Ex.ret, [SVal.sli (0 : Nat) (NN.c (0 : Nat)) (3 : Nat) (NN.v calls.length)
    (some (NN.v cap)),
  SVal.bl false, SVal.int IntKind.u8 d, SVal.int IntKind.u8 z, SVal.ptr (1 : Nat) (0 : Nat),
  SVal.sli (3 : Nat) (NN.c (0 : Nat)) (1 : Nat) (NN.v sent.length) none, SVal.int IntKind.i64 got,
  SVal.int IntKind.i64 i],
                       [Blk.ro encCl calls,
  Blk.own [Seg.c (SVal.ifc (56 : Nat) (SVal.ptr (2 : Nat) (0 : Nat))), Seg.c (SVal.int IntKind.i64 z)] (62 : Nat),
  Blk.own [Seg.c SVal.snil, Seg.c (SVal.int IntKind.i64 d)] (58 : Nat), Blk.vec encStr sent (9 : Nat)]))
                     (.need (inR IntKind.i64 (i + (1 : Int)))
                      (.ret (Ex.normal, [SVal.sli (0 : Nat) (NN.c (0 : Nat)) (3 : Nat) (NN.v calls.length)
    (some (NN.v cap)),
  SVal.bl false, SVal.int IntKind.u8 d, SVal.int IntKind.u8 z, SVal.ptr (1 : Nat) (0 : Nat),
  SVal.sli (3 : Nat) (NN.c (0 : Nat)) (1 : Nat) (NN.v sent.length) none, SVal.int IntKind.i64 got,
  SVal.int IntKind.i64 (i + (1 : Int))],
                        [Blk.ro encCl calls,
  Blk.own [Seg.c (SVal.ifc (56 : Nat) (SVal.ptr (2 : Nat) (0 : Nat))), Seg.c (SVal.int IntKind.i64 z)] (62 : Nat),
  Blk.own [Seg.c SVal.snil, Seg.c (SVal.int IntKind.i64 d)] (58 : Nat), Blk.vec encStr sent (9 : Nat)]))))
                    (.need (inR IntKind.i64 (i + (1 : Int)))
                     (.ret (Ex.normal, [SVal.sli (0 : Nat) (NN.c (0 : Nat)) (3 : Nat) (NN.v calls.length)
    (some (NN.v cap)),
  SVal.bl false, SVal.int IntKind.u8 d, SVal.int IntKind.u8 z, SVal.ptr (1 : Nat) (0 : Nat),
  SVal.sli (3 : Nat) (NN.c (0 : Nat)) (1 : Nat) (NN.v sent.length) none, SVal.int IntKind.i64 got,
  SVal.int IntKind.i64 (i + (1 : Int))],
                       [Blk.ro encCl calls,
  Blk.own [Seg.c (SVal.ifc (56 : Nat) (SVal.ptr (2 : Nat) (0 : Nat))), Seg.c (SVal.int IntKind.i64 z)] (62 : Nat),
  Blk.own [Seg.c SVal.snil, Seg.c (SVal.int IntKind.i64 d)] (58 : Nat), Blk.vec encStr sent (9 : Nat)])))))
                  (.br (decide ((↑((calls.getD i.toNat encCl.dflt).2.extract (0 : Nat) (40 : Nat)).size : Int) ≤ z))
                   (.br ((↑sent.length : Int) - got == d)
                    (.ret (Ex.ret, [SVal.sli (0 : Nat) (NN.c (0 : Nat)) (3 : Nat) (NN.v calls.length) (some (NN.v cap)),
  SVal.bl false, SVal.int IntKind.u8 d, SVal.int IntKind.u8 z, SVal.ptr (1 : Nat) (0 : Nat),
  SVal.sli (3 : Nat) (NN.c (0 : Nat)) (1 : Nat) (NN.v sent.length) none, SVal.int IntKind.i64 got,
  SVal.int IntKind.i64 i],
                      [Blk.ro encCl calls,
  Blk.own [Seg.c (SVal.ifc (56 : Nat) (SVal.ptr (2 : Nat) (0 : Nat))), Seg.c (SVal.int IntKind.i64 z)] (62 : Nat),
  Blk.own [Seg.c SVal.snil, Seg.c (SVal.int IntKind.i64 d)] (58 : Nat), Blk.vec encStr sent (9 : Nat)]))
                    (.need (inR IntKind.i64 (i + (1 : Int)))
                     (.ret (Ex.normal, [SVal.sli (0 : Nat) (NN.c (0 : Nat)) (3 : Nat) (NN.v calls.length)
    (some (NN.v cap)),
  SVal.bl false, SVal.int IntKind.u8 d, SVal.int IntKind.u8 z, SVal.ptr (1 : Nat) (0 : Nat),
  SVal.sli (3 : Nat) (NN.c (0 : Nat)) (1 : Nat) (NN.v sent.length) none, SVal.int IntKind.i64 got,
  SVal.int IntKind.i64 (i + (1 : Int))],
                       [Blk.ro encCl calls,
  Blk.own [Seg.c (SVal.ifc (56 : Nat) (SVal.ptr (2 : Nat) (0 : Nat))), Seg.c (SVal.int IntKind.i64 z)] (62 : Nat),
  Blk.own [Seg.c SVal.snil, Seg.c (SVal.int IntKind.i64 d)] (58 : Nat), Blk.vec encStr sent (9 : Nat)]))))
                   (.need (inR IntKind.i64 (i + (1 : Int)))
                    (.ret (Ex.normal, [SVal.sli (0 : Nat) (NN.c (0 : Nat)) (3 : Nat) (NN.v calls.length)
    (some (NN.v cap)),
  SVal.bl false, SVal.int IntKind.u8 d, SVal.int IntKind.u8 z, SVal.ptr (1 : Nat) (0 : Nat),
  SVal.sli (3 : Nat) (NN.c (0 : Nat)) (1 : Nat) (NN.v sent.length) none, SVal.int IntKind.i64 got,
  SVal.int IntKind.i64 (i + (1 : Int))],
                      [Blk.ro encCl calls,
  Blk.own [Seg.c (SVal.ifc (56 : Nat) (SVal.ptr (2 : Nat) (0 : Nat))), Seg.c (SVal.int IntKind.i64 z)] (62 : Nat),
  Blk.own [Seg.c SVal.snil, Seg.c (SVal.int IntKind.i64 d)] (58 : Nat), Blk.vec encStr sent (9 : Nat)]))))))
                (.need (inR IntKind.i64 (i + (1 : Int)))
                 (.ret (Ex.normal, [SVal.sli (0 : Nat) (NN.c (0 : Nat)) (3 : Nat) (NN.v calls.length) (some (NN.v cap)),
  SVal.bl false, SVal.int IntKind.u8 d, SVal.int IntKind.u8 z, SVal.ptr (1 : Nat) (0 : Nat),
  SVal.sli (3 : Nat) (NN.c (0 : Nat)) (1 : Nat) (NN.v sent.length) none, SVal.int IntKind.i64 got,
  SVal.int IntKind.i64 (i + (1 : Int))],
                   [Blk.ro encCl calls,
  Blk.own [Seg.c (SVal.ifc (56 : Nat) (SVal.ptr (2 : Nat) (0 : Nat))), Seg.c (SVal.int IntKind.i64 z)] (62 : Nat),
  Blk.own [Seg.c SVal.snil, Seg.c (SVal.int IntKind.i64 d)] (58 : Nat), Blk.vec encStr sent (9 : Nat)])))))
              (.br (got == (↑sent.length : Int))
               (.need (inR IntKind.i64 (i + (1 : Int)))
                (.ret (Ex.normal, [SVal.sli (0 : Nat) (NN.c (0 : Nat)) (3 : Nat) (NN.v calls.length) (some (NN.v cap)),
  SVal.bl false, SVal.int IntKind.u8 d, SVal.int IntKind.u8 z, SVal.ptr (1 : Nat) (0 : Nat),
  SVal.sli (3 : Nat) (NN.c (0 : Nat)) (1 : Nat) (NN.v sent.length) none, SVal.int IntKind.i64 got,
  SVal.int IntKind.i64 (i + (1 : Int))],
                  [Blk.ro encCl calls,
  Blk.own [Seg.c (SVal.ifc (56 : Nat) (SVal.ptr (2 : Nat) (0 : Nat))), Seg.c (SVal.int IntKind.i64 z)] (62 : Nat),
  Blk.own [Seg.c SVal.snil, Seg.c (SVal.int IntKind.i64 d)] (58 : Nat), Blk.vec encStr sent (9 : Nat)])))
               (.ret (Ex.ret, [SVal.sli (0 : Nat) (NN.c (0 : Nat)) (3 : Nat) (NN.v calls.length) (some (NN.v cap)),
  SVal.bl false, SVal.int IntKind.u8 d, SVal.int IntKind.u8 z, SVal.ptr (1 : Nat) (0 : Nat),
  SVal.sli (3 : Nat) (NN.c (0 : Nat)) (1 : Nat) (NN.v sent.length) none, SVal.int IntKind.i64 got,
  SVal.int IntKind.i64 i],
                 [Blk.ro encCl calls,
  Blk.own [Seg.c (SVal.ifc (56 : Nat) (SVal.ptr (2 : Nat) (0 : Nat))), Seg.c (SVal.int IntKind.i64 z)] (62 : Nat),
  Blk.own [Seg.c SVal.snil, Seg.c (SVal.int IntKind.i64 d)] (58 : Nat), Blk.vec encStr sent (9 : Nat)]))))))))
         (.need (inR IntKind.i64 ((↑sent.length : Int) - got))
          (.need (inR IntKind.i64 d)
           (.br (bitop BinOp.and IntKind.i64 (calls.getD i.toNat encCl.dflt).1 (1 : Int) == (0 : Int))
            (.br (decide ((1 : Int) ≤ (↑(calls.getD i.toNat encCl.dflt).2.size : Int)))
             (.br (!decide ((↑(calls.getD i.toNat encCl.dflt).2.size : Int) ≤ z))
              (.br (!strEq (calls.getD i.toNat encCl.dflt).2 { data := { toList := [] } })
               (.need (inR IntKind.i64 z)
                (.br (decide ((↑(calls.getD i.toNat encCl.dflt).2.size : Int) ≤ z))
                 (.br (!false == !(↑sent.length : Int) - got == d)
                  (.no 106)
                  (.br (decide ((↑(calls.getD i.toNat encCl.dflt).2.size : Int) ≤ z))
                   (.br ((↑sent.length : Int) - got == d)
                    (.ret (Ex.ret, [SVal.sli (0 : Nat) (NN.c (0 : Nat)) (3 : Nat) (NN.v calls.length) (some (NN.v cap)),
  SVal.bl false, SVal.int IntKind.u8 d, SVal.int IntKind.u8 z, SVal.ptr (1 : Nat) (0 : Nat),
  SVal.sli (3 : Nat) (NN.c (0 : Nat)) (1 : Nat) (NN.v sent.length) none, SVal.int IntKind.i64 got,
  SVal.int IntKind.i64 i],
                      [Blk.ro encCl calls,
  Blk.own [Seg.c (SVal.ifc (56 : Nat) (SVal.ptr (2 : Nat) (0 : Nat))), Seg.c (SVal.int IntKind.i64 z)] (62 : Nat),
  Blk.own [Seg.c SVal.snil, Seg.c (SVal.int IntKind.i64 d)] (58 : Nat), Blk.vec encStr sent (9 : Nat)]))
                    (.need (inR IntKind.i64 (i + (1 : Int)))
                     (.ret (Ex.normal, [SVal.sli (0 : Nat) (NN.c (0 : Nat)) (3 : Nat) (NN.v calls.length)
    (some (NN.v cap)),
  SVal.bl false, SVal.int IntKind.u8 d, SVal.int IntKind.u8 z, SVal.ptr (1 : Nat) (0 : Nat),
  SVal.sli (3 : Nat) (NN.c (0 : Nat)) (1 : Nat) (NN.v sent.length) none, SVal.int IntKind.i64 got,
  SVal.int IntKind.i64 (i + (1 : Int))],
                       [Blk.ro encCl calls,
  Blk.own [Seg.c (SVal.ifc (56 : Nat) (SVal.ptr (2 : Nat) (0 : Nat))), Seg.c (SVal.int IntKind.i64 z)] (62 : Nat),
  Blk.own [Seg.c SVal.snil, Seg.c (SVal.int IntKind.i64 d)] (58 : Nat), Blk.vec encStr sent (9 : Nat)]))))
                   (.need (inR IntKind.i64 (i + (1 : Int)))
                    (.ret (Ex.normal, [SVal.sli (0 : Nat) (NN.c (0 : Nat)) (3 : Nat) (NN.v calls.length)
    (some (NN.v cap)),
  SVal.bl false, SVal.int IntKind.u8 d, SVal.int IntKind.u8 z, SVal.ptr (1 : Nat) (0 : Nat),
  SVal.sli (3 : Nat) (NN.c (0 : Nat)) (1 : Nat) (NN.v sent.length) none, SVal.int IntKind.i64 got,
  SVal.int IntKind.i64 (i + (1 : Int))],
                      [Blk.ro encCl calls,
  Blk.own [Seg.c (SVal.ifc (56 : Nat) (SVal.ptr (2 : Nat) (0 : Nat))), Seg.c (SVal.int IntKind.i64 z)] (62 : Nat),
  Blk.own [Seg.c SVal.snil, Seg.c (SVal.int IntKind.i64 d)] (58 : Nat), Blk.vec encStr sent (9 : Nat)])))))
                 (.br (decide ((↑(calls.getD i.toNat encCl.dflt).2.size : Int) ≤ z))
                  (.br ((↑sent.length : Int) - got == d)
                   (.ret (Ex.ret, [SVal.sli (0 : Nat) (NN.c (0 : Nat)) (3 : Nat) (NN.v calls.length) (some (NN.v cap)),
  SVal.bl false, SVal.int IntKind.u8 d, SVal.int IntKind.u8 z, SVal.ptr (1 : Nat) (0 : Nat),
  SVal.sli (3 : Nat) (NN.c (0 : Nat)) (1 : Nat) (NN.v sent.length) none, SVal.int IntKind.i64 got,
  SVal.int IntKind.i64 i],
                     [Blk.ro encCl calls,
  Blk.own [Seg.c (SVal.ifc (56 : Nat) (SVal.ptr (2 : Nat) (0 : Nat))), Seg.c (SVal.int IntKind.i64 z)] (62 : Nat),
  Blk.own [Seg.c SVal.snil, Seg.c (SVal.int IntKind.i64 d)] (58 : Nat), Blk.vec encStr sent (9 : Nat)]))
                   (.need (inR IntKind.i64 (i + (1 : Int)))
                    (.ret (Ex.normal, [SVal.sli (0 : Nat) (NN.c (0 : Nat)) (3 : Nat) (NN.v calls.length)
    (some (NN.v cap)),
  SVal.bl false, SVal.int IntKind.u8 d, SVal.int IntKind.u8 z, SVal.ptr (1 : Nat) (0 : Nat),
  SVal.sli (3 : Nat) (NN.c (0 : Nat)) (1 : Nat) (NN.v sent.length) none, SVal.int IntKind.i64 got,
  SVal.int IntKind.i64 (i + (1 : Int))],
                      [Blk.ro encCl calls,
  Blk.own [Seg.c (SVal.ifc (56 : Nat) (SVal.ptr (2 : Nat) (0 : Nat))), Seg.c (SVal.int IntKind.i64 z)] (62 : Nat),
  Blk.own [Seg.c SVal.snil, Seg.c (SVal.int IntKind.i64 d)] (58 : Nat), Blk.vec encStr sent (9 : Nat)]))))
                  (.need (inR IntKind.i64 (i + (1 : Int)))
                   (.ret (Ex.normal, [SVal.sli (0 : Nat) (NN.c (0 : Nat)) (3 : Nat) (NN.v calls.length)
    (some (NN.v cap)),
  SVal.bl false, SVal.int IntKind.u8 d, SVal.int IntKind.u8 z, SVal.ptr (1 : Nat) (0 : Nat),
  SVal.sli (3 : Nat) (NN.c (0 : Nat)) (1 : Nat) (NN.v sent.length) none, SVal.int IntKind.i64 got,
  SVal.int IntKind.i64 (i + (1 : Int))],
                     [Blk.ro encCl calls,
  Blk.own [Seg.c (SVal.ifc (56 : Nat) (SVal.ptr (2 : Nat) (0 : Nat))), Seg.c (SVal.int IntKind.i64 z)] (62 : Nat),
  Blk.own [Seg.c SVal.snil, Seg.c (SVal.int IntKind.i64 d)] (58 : Nat), Blk.vec encStr sent (9 : Nat)]))))))
               (.need (inR IntKind.i64 (i + (1 : Int)))
                (.ret (Ex.normal, [SVal.sli (0 : Nat) (NN.c (0 : Nat)) (3 : Nat) (NN.v calls.length) (some (NN.v cap)),
  SVal.bl false, SVal.int IntKind.u8 d, SVal.int IntKind.u8 z, SVal.ptr (1 : Nat) (0 : Nat),
  SVal.sli (3 : Nat) (NN.c (0 : Nat)) (1 : Nat) (NN.v sent.length) none, SVal.int IntKind.i64 got,
  SVal.int IntKind.i64 (i + (1 : Int))],
                  [Blk.ro encCl calls,
  Blk.own [Seg.c (SVal.ifc (56 : Nat) (SVal.ptr (2 : Nat) (0 : Nat))), Seg.c (SVal.int IntKind.i64 z)] (62 : Nat),
  Blk.own [Seg.c SVal.snil, Seg.c (SVal.int IntKind.i64 d)] (58 : Nat), Blk.vec encStr sent (9 : Nat)]))))
              (.br ((0 : Int) == d)
               (.br (!strEq (calls.getD i.toNat encCl.dflt).2 { data := { toList := [] } })
                (.need (inR IntKind.i64 z)
                 (.br (decide ((↑(calls.getD i.toNat encCl.dflt).2.size : Int) ≤ z))
                  (.br (!false == !(↑sent.length : Int) - got == d)
                   (.no 106)
                   (.br (decide ((↑(calls.getD i.toNat encCl.dflt).2.size : Int) ≤ z))
                    (.br ((↑sent.length : Int) - got == d)
                     (.need (inR IntKind.i64 (i + (1 : Int)))
                      (.ret (Ex.normal, [SVal.sli (0 : Nat) (NN.c (0 : Nat)) (3 : Nat) (NN.v calls.length)
    (some (NN.v cap)),
  SVal.bl false, SVal.int IntKind.u8 d, SVal.int IntKind.u8 z, SVal.ptr (1 : Nat) (0 : Nat),
  SVal.sli (3 : Nat) (NN.c (0 : Nat)) (1 : Nat) (NN.v sent.length) none, SVal.int IntKind.i64 got,
  SVal.int IntKind.i64 (i + (1 : Int))],
                        [Blk.ro encCl calls,
  Blk.own [Seg.c (SVal.ifc (56 : Nat) (SVal.ptr (2 : Nat) (0 : Nat))), Seg.c (SVal.int IntKind.i64 z)] (62 : Nat),
  Blk.own [Seg.c SVal.snil, Seg.c (SVal.int IntKind.i64 d)] (58 : Nat), Blk.vec encStr sent (9 : Nat)])))
                     (.need (inR IntKind.i64 (i + (1 : Int)))
                      (.ret (Ex.normal, [SVal.sli (0 : Nat) (NN.c (0 : Nat)) (3 : Nat) (NN.v calls.length)
    (some (NN.v cap)),
  SVal.bl false, SVal.int IntKind.u8 d, SVal.int IntKind.u8 z, SVal.ptr (1 : Nat) (0 : Nat),
  SVal.sli (3 : Nat) (NN.c (0 : Nat)) (1 : Nat) (NN.v sent.length) none, SVal.int IntKind.i64 got,
  SVal.int IntKind.i64 (i + (1 : Int))],
                        [Blk.ro encCl calls,
  Blk.own [Seg.c (SVal.ifc (56 : Nat) (SVal.ptr (2 : Nat) (0 : Nat))), Seg.c (SVal.int IntKind.i64 z)] (62 : Nat),
  Blk.own [Seg.c SVal.snil, Seg.c (SVal.int IntKind.i64 d)] (58 : Nat), Blk.vec encStr sent (9 : Nat)]))))
                    (.need (inR IntKind.i64 (i + (1 : Int)))
                     (.ret (Ex.normal, [SVal.sli (0 : Nat) (NN.c (0 : Nat)) (3 : Nat) (NN.v calls.length)
    (some (NN.v cap)),
  SVal.bl false, SVal.int IntKind.u8 d, SVal.int IntKind.u8 z, SVal.ptr (1 : Nat) (0 : Nat),
  SVal.sli (3 : Nat) (NN.c (0 : Nat)) (1 : Nat) (NN.v sent.length) none, SVal.int IntKind.i64 got,
  SVal.int IntKind.i64 (i + (1 : Int))],
                       [Blk.ro encCl calls,
  Blk.own [Seg.c (SVal.ifc (56 : Nat) (SVal.ptr (2 : Nat) (0 : Nat))), Seg.c (SVal.int IntKind.i64 z)] (62 : Nat),
  Blk.own [Seg.c SVal.snil, Seg.c (SVal.int IntKind.i64 d)] (58 : Nat), Blk.vec encStr sent (9 : Nat)])))))
                  (.br (decide ((↑(calls.getD i.toNat encCl.dflt).2.size : Int) ≤ z))
                   (.br ((↑sent.length : Int) - got == d)
                    (.need (inR IntKind.i64 (i + (1 : Int)))
                     (.ret (Ex.normal, [SVal.sli (0 : Nat) (NN.c (0 : Nat)) (3 : Nat) (NN.v calls.length)
    (some (NN.v cap)),
  SVal.bl false, SVal.int IntKind.u8 d, SVal.int IntKind.u8 z, SVal.ptr (1 : Nat) (0 : Nat),
  SVal.sli (3 : Nat) (NN.c (0 : Nat)) (1 : Nat) (NN.v sent.length) none, SVal.int IntKind.i64 got,
  SVal.int IntKind.i64 (i + (1 : Int))],
                       [Blk.ro encCl calls,
  Blk.own [Seg.c (SVal.ifc (56 : Nat) (SVal.ptr (2 : Nat) (0 : Nat))), Seg.c (SVal.int IntKind.i64 z)] (62 : Nat),
  Blk.own [Seg.c SVal.snil, Seg.c (SVal.int IntKind.i64 d)] (58 : Nat), Blk.vec encStr sent (9 : Nat)])))
                    (.need (inR IntKind.i64 (i + (1 : Int)))
                     (.ret (Ex.normal, [SVal.sli (0 : Nat) (NN.c (0 : Nat)) (3 : Nat) (NN.v calls.length)
    (some (NN.v cap)),
  SVal.bl false, SVal.int IntKind.u8 d, SVal.int IntKind.u8 z, SVal.ptr (1 : Nat) (0 : Nat),
  SVal.sli (3 : Nat) (NN.c (0 : Nat)) (1 : Nat) (NN.v sent.length) none, SVal.int IntKind.i64 got,
  SVal.int IntKind.i64 (i + (1 : Int))],
                       [Blk.ro encCl calls,
  Blk.own [Seg.c (SVal.ifc (56 : Nat) (SVal.ptr (2 : Nat) (0 : Nat))), Seg.c (SVal.int IntKind.i64 z)] (62 : Nat),
  Blk.own [Seg.c SVal.snil, Seg.c (SVal.int IntKind.i64 d)] (58 : Nat), Blk.vec encStr sent (9 : Nat)]))))
                   (.need (inR IntKind.i64 (i + (1 : Int)))
                    (.ret (Ex.normal, [SVal.sli (0 : Nat) (NN.c (0 : Nat)) (3 : Nat) (NN.v calls.length)
    (some (NN.v cap)),
  SVal.bl false, SVal.int IntKind.u8 d, SVal.int IntKind.u8 z, SVal.ptr (1 : Nat) (0 : Nat),
  SVal.sli (3 : Nat) (NN.c (0 : Nat)) (1 : Nat) (NN.v sent.length) none, SVal.int IntKind.i64 got,
  SVal.int IntKind.i64 (i + (1 : Int))],
                      [Blk.ro encCl calls,
  Blk.own [Seg.c (SVal.ifc (56 : Nat) (SVal.ptr (2 : Nat) (0 : Nat))), Seg.c (SVal.int IntKind.i64 z)] (62 : Nat),
  Blk.own [Seg.c SVal.snil, Seg.c (SVal.int IntKind.i64 d)] (58 : Nat), Blk.vec encStr sent (9 : Nat)]))))))
                (.need (inR IntKind.i64 (i + (1 : Int)))
                 (.ret (Ex.normal, [SVal.sli (0 : Nat) (NN.c (0 : Nat)) (3 : Nat) (NN.v calls.length) (some (NN.v cap)),
  SVal.bl false, SVal.int IntKind.u8 d, SVal.int IntKind.u8 z, SVal.ptr (1 : Nat) (0 : Nat),
  SVal.sli (3 : Nat) (NN.c (0 : Nat)) (1 : Nat) (NN.v sent.length) none, SVal.int IntKind.i64 got,
  SVal.int IntKind.i64 (i + (1 : Int))],
                   [Blk.ro encCl calls,
  Blk.own [Seg.c (SVal.ifc (56 : Nat) (SVal.ptr (2 : Nat) (0 : Nat))), Seg.c (SVal.int IntKind.i64 z)] (62 : Nat),
  Blk.own [Seg.c SVal.snil, Seg.c (SVal.int IntKind.i64 d)] (58 : Nat), Blk.vec encStr sent (9 : Nat)]))))
               (.need (true)
                (.need (true)
                 (.br (!strEq (calls.getD i.toNat encCl.dflt).2 { data := { toList := [] } })
                  (.need (inR IntKind.i64 z)
                   (.need (true)
                    (.need (decide (sent.length = sent.length))
                     (.need (roomy (sent.length + (1 : Nat)) (16 : Nat))
                      (.br (decide ((↑(calls.getD i.toNat encCl.dflt).2.size : Int) ≤ z))
                       (.br (!true == !(↑sent.length : Int) - got == d)
                        (.no 106)
                        (.br (decide ((↑(calls.getD i.toNat encCl.dflt).2.size : Int) ≤ z))
                         (.br ((↑sent.length : Int) - got == d)
                          (.ret (Ex.ret, [SVal.sli (0 : Nat) (NN.c (0 : Nat)) (3 : Nat) (NN.v calls.length)
    (some (NN.v cap)),
  SVal.bl false, SVal.int IntKind.u8 d, SVal.int IntKind.u8 z, SVal.ptr (1 : Nat) (0 : Nat),
  SVal.sli (4 : Nat) (NN.c (0 : Nat)) (1 : Nat) (NN.v (sent.length + (1 : Nat))) none, SVal.int IntKind.i64 got,
  SVal.int IntKind.i64 i],
                            [Blk.ro encCl calls,
  Blk.own [Seg.c (SVal.ifc (56 : Nat) (SVal.ptr (2 : Nat) (0 : Nat))), Seg.c (SVal.int IntKind.i64 z)] (62 : Nat),
  Blk.own [Seg.c (SVal.sli (3 : Nat) (NN.c (0 : Nat)) (1 : Nat) (NN.c (1 : Nat)) none), Seg.c (SVal.int IntKind.i64 d)]
    (58 : Nat),
  Blk.vec (encRow (0 : Nat)) [[SVal.str (calls.getD i.toNat encCl.dflt).2]] (9 : Nat),
  Blk.vec encStr (sent ++ [(calls.getD i.toNat encCl.dflt).2]) (9 : Nat)]))
                          (.need (inR IntKind.i64 (i + (1 : Int)))
                           (.ret (Ex.normal, [SVal.sli (0 : Nat) (NN.c (0 : Nat)) (3 : Nat) (NN.v calls.length)
    (some (NN.v cap)),
  SVal.bl false, SVal.int IntKind.u8 d, SVal.int IntKind.u8 z, SVal.ptr (1 : Nat) (0 : Nat),
  SVal.sli (4 : Nat) (NN.c (0 : Nat)) (1 : Nat) (NN.v (sent.length + (1 : Nat))) none, SVal.int IntKind.i64 got,
  SVal.int IntKind.i64 (i + (1 : Int))],
                             [Blk.ro encCl calls,
  Blk.own [Seg.c (SVal.ifc (56 : Nat) (SVal.ptr (2 : Nat) (0 : Nat))), Seg.c (SVal.int IntKind.i64 z)] (62 : Nat),
  Blk.own [Seg.c (SVal.sli (3 : Nat) (NN.c (0 : Nat)) (1 : Nat) (NN.c (1 : Nat)) none), Seg.c (SVal.int IntKind.i64 d)]
    (58 : Nat),
  Blk.vec (encRow (0 : Nat)) [[SVal.str (calls.getD i.toNat encCl.dflt).2]] (9 : Nat),
  Blk.vec encStr (sent ++ [(calls.getD i.toNat encCl.dflt).2]) (9 : Nat)]))))
                         (.need (inR IntKind.i64 (i + (1 : Int)))
                          (.ret (Ex.normal, [SVal.sli (0 : Nat) (NN.c (0 : Nat)) (3 : Nat) (NN.v calls.length)
    (some (NN.v cap)),
  SVal.bl false, SVal.int IntKind.u8 d, SVal.int IntKind.u8 z, SVal.ptr (1 : Nat) (0 : Nat),
  SVal.sli (4 : Nat) (NN.c (0 : Nat)) (1 : Nat) (NN.v (sent.length + (1 : Nat))) none, SVal.int IntKind.i64 got,
  SVal.int IntKind.i64 (i + (1 : Int))],
                            [Blk.ro encCl calls,
  Blk.own [Seg.c (SVal.ifc (56 : Nat) (SVal.ptr (2 : Nat) (0 : Nat))), Seg.c (SVal.int IntKind.i64 z)] (62 : Nat),
  Blk.own [Seg.c (SVal.sli (3 : Nat) (NN.c (0 : Nat)) (1 : Nat) (NN.c (1 : Nat)) none), Seg.c (SVal.int IntKind.i64 d)]
    (58 : Nat),
  Blk.vec (encRow (0 : Nat)) [[SVal.str (calls.getD i.toNat encCl.dflt).2]] (9 : Nat),
  Blk.vec encStr (sent ++ [(calls.getD i.toNat encCl.dflt).2]) (9 : Nat)])))))
                       (.no 106))))))
                  (.need (true)
                   (.need (decide (sent.length = sent.length))
                    (.need (roomy (sent.length + (1 : Nat)) (16 : Nat))
                     (.no 106)))))))))
             (.br (!strEq (calls.getD i.toNat encCl.dflt).2 { data := { toList := [] } })
              (.need (inR IntKind.i64 z)
               (.br (decide ((↑(calls.getD i.toNat encCl.dflt).2.size : Int) ≤ z))
                (.br (!false == !(↑sent.length : Int) - got == d)
                 (.no 106)
                 (.br (decide ((↑(calls.getD i.toNat encCl.dflt).2.size : Int) ≤ z))
                  (.br ((↑sent.length : Int) - got == d)
                   (.ret (Ex.ret, [SVal.sli (0 : Nat) (NN.c (0 : Nat)) (3 : Nat) (NN.v calls.length) (some (NN.v cap)),
  SVal.bl false, SVal.int IntKind.u8 d, SVal.int IntKind.u8 z, SVal.ptr (1 : Nat) (0 : Nat),
  SVal.sli (3 : Nat) (NN.c (0 : Nat)) (1 : Nat) (NN.v sent.length) none, SVal.int IntKind.i64 got,
  SVal.int IntKind.i64 i],
                     [Blk.ro encCl calls,
  Blk.own [Seg.c (SVal.ifc (56 : Nat) (SVal.ptr (2 : Nat) (0 : Nat))), Seg.c (SVal.int IntKind.i64 z)] (62 : Nat),
  Blk.own [Seg.c SVal.snil, Seg.c (SVal.int IntKind.i64 d)] (58 : Nat), Blk.vec encStr sent (9 : Nat)]))
                   (.need (inR IntKind.i64 (i + (1 : Int)))
                    (.ret (Ex.normal, [SVal.sli (0 : Nat) (NN.c (0 : Nat)) (3 : Nat) (NN.v calls.length)
    (some (NN.v cap)),
  SVal.bl false, SVal.int IntKind.u8 d, SVal.int IntKind.u8 z, SVal.ptr (1 : Nat) (0 : Nat),
  SVal.sli (3 : Nat) (NN.c (0 : Nat)) (1 : Nat) (NN.v sent.length) none, SVal.int IntKind.i64 got,
  SVal.int IntKind.i64 (i + (1 : Int))],
                      [Blk.ro encCl calls,
  Blk.own [Seg.c (SVal.ifc (56 : Nat) (SVal.ptr (2 : Nat) (0 : Nat))), Seg.c (SVal.int IntKind.i64 z)] (62 : Nat),
  Blk.own [Seg.c SVal.snil, Seg.c (SVal.int IntKind.i64 d)] (58 : Nat), Blk.vec encStr sent (9 : Nat)]))))
                  (.need (inR IntKind.i64 (i + (1 : Int)))
                   (.ret (Ex.normal, [SVal.sli (0 : Nat) (NN.c (0 : Nat)) (3 : Nat) (NN.v calls.length)
    (some (NN.v cap)),
  SVal.bl false, SVal.int IntKind.u8 d, SVal.int IntKind.u8 z, SVal.ptr (1 : Nat) (0 : Nat),
  SVal.sli (3 : Nat) (NN.c (0 : Nat)) (1 : Nat) (NN.v sent.length) none, SVal.int IntKind.i64 got,
  SVal.int IntKind.i64 (i + (1 : Int))],
                     [Blk.ro encCl calls,
  Blk.own [Seg.c (SVal.ifc (56 : Nat) (SVal.ptr (2 : Nat) (0 : Nat))), Seg.c (SVal.int IntKind.i64 z)] (62 : Nat),
  Blk.own [Seg.c SVal.snil, Seg.c (SVal.int IntKind.i64 d)] (58 : Nat), Blk.vec encStr sent (9 : Nat)])))))
                (.br (decide ((↑(calls.getD i.toNat encCl.dflt).2.size : Int) ≤ z))
                 (.br ((↑sent.length : Int) - got == d)
                  (.ret (Ex.ret, [SVal.sli (0 : Nat) (NN.c (0 : Nat)) (3 : Nat) (NN.v calls.length) (some (NN.v cap)),
  SVal.bl false, SVal.int IntKind.u8 d, SVal.int IntKind.u8 z, SVal.ptr (1 : Nat) (0 : Nat),
  SVal.sli (3 : Nat) (NN.c (0 : Nat)) (1 : Nat) (NN.v sent.length) none, SVal.int IntKind.i64 got,
  SVal.int IntKind.i64 i],
                    [Blk.ro encCl calls,
  Blk.own [Seg.c (SVal.ifc (56 : Nat) (SVal.ptr (2 : Nat) (0 : Nat))), Seg.c (SVal.int IntKind.i64 z)] (62 : Nat),
  Blk.own [Seg.c SVal.snil, Seg.c (SVal.int IntKind.i64 d)] (58 : Nat), Blk.vec encStr sent (9 : Nat)]))
                  (.need (inR IntKind.i64 (i + (1 : Int)))
                   (.ret (Ex.normal, [SVal.sli (0 : Nat) (NN.c (0 : Nat)) (3 : Nat) (NN.v calls.length)
    (some (NN.v cap)),
  SVal.bl false, SVal.int IntKind.u8 d, SVal.int IntKind.u8 z, SVal.ptr (1 : Nat) (0 : Nat),
  SVal.sli (3 : Nat) (NN.c (0 : Nat)) (1 : Nat) (NN.v sent.length) none, SVal.int IntKind.i64 got,
  SVal.int IntKind.i64 (i + (1 : Int))],
                     [Blk.ro encCl calls,
  Blk.own [Seg.c (SVal.ifc (56 : Nat) (SVal.ptr (2 : Nat) (0 : Nat))), Seg.c (SVal.int IntKind.i64 z)] (62 : Nat),
  Blk.own [Seg.c SVal.snil, Seg.c (SVal.int IntKind.i64 d)] (58 : Nat), Blk.vec encStr sent (9 : Nat)]))))
                 (.need (inR IntKind.i64 (i + (1 : Int)))
                  (.ret (Ex.normal, [SVal.sli (0 : Nat) (NN.c (0 : Nat)) (3 : Nat) (NN.v calls.length)
    (some (NN.v cap)),
  SVal.bl false, SVal.int IntKind.u8 d, SVal.int IntKind.u8 z, SVal.ptr (1 : Nat) (0 : Nat),
  SVal.sli (3 : Nat) (NN.c (0 : Nat)) (1 : Nat) (NN.v sent.length) none, SVal.int IntKind.i64 got,
  SVal.int IntKind.i64 (i + (1 : Int))],
                    [Blk.ro encCl calls,
  Blk.own [Seg.c (SVal.ifc (56 : Nat) (SVal.ptr (2 : Nat) (0 : Nat))), Seg.c (SVal.int IntKind.i64 z)] (62 : Nat),
  Blk.own [Seg.c SVal.snil, Seg.c (SVal.int IntKind.i64 d)] (58 : Nat), Blk.vec encStr sent (9 : Nat)]))))))
              (.need (inR IntKind.i64 (i + (1 : Int)))
               (.ret (Ex.normal, [SVal.sli (0 : Nat) (NN.c (0 : Nat)) (3 : Nat) (NN.v calls.length) (some (NN.v cap)),
  SVal.bl false, SVal.int IntKind.u8 d, SVal.int IntKind.u8 z, SVal.ptr (1 : Nat) (0 : Nat),
  SVal.sli (3 : Nat) (NN.c (0 : Nat)) (1 : Nat) (NN.v sent.length) none, SVal.int IntKind.i64 got,
  SVal.int IntKind.i64 (i + (1 : Int))],
                 [Blk.ro encCl calls,
  Blk.own [Seg.c (SVal.ifc (56 : Nat) (SVal.ptr (2 : Nat) (0 : Nat))), Seg.c (SVal.int IntKind.i64 z)] (62 : Nat),
  Blk.own [Seg.c SVal.snil, Seg.c (SVal.int IntKind.i64 d)] (58 : Nat), Blk.vec encStr sent (9 : Nat)])))))
            (.br (got == (↑sent.length : Int))
             (.need (inR IntKind.i64 (i + (1 : Int)))
              (.ret (Ex.normal, [SVal.sli (0 : Nat) (NN.c (0 : Nat)) (3 : Nat) (NN.v calls.length) (some (NN.v cap)),
  SVal.bl false, SVal.int IntKind.u8 d, SVal.int IntKind.u8 z, SVal.ptr (1 : Nat) (0 : Nat),
  SVal.sli (3 : Nat) (NN.c (0 : Nat)) (1 : Nat) (NN.v sent.length) none, SVal.int IntKind.i64 got,
  SVal.int IntKind.i64 (i + (1 : Int))],
                [Blk.ro encCl calls,
  Blk.own [Seg.c (SVal.ifc (56 : Nat) (SVal.ptr (2 : Nat) (0 : Nat))), Seg.c (SVal.int IntKind.i64 z)] (62 : Nat),
  Blk.own [Seg.c SVal.snil, Seg.c (SVal.int IntKind.i64 d)] (58 : Nat), Blk.vec encStr sent (9 : Nat)])))
             (.ret (Ex.ret, [SVal.sli (0 : Nat) (NN.c (0 : Nat)) (3 : Nat) (NN.v calls.length) (some (NN.v cap)),
  SVal.bl false, SVal.int IntKind.u8 d, SVal.int IntKind.u8 z, SVal.ptr (1 : Nat) (0 : Nat),
  SVal.sli (3 : Nat) (NN.c (0 : Nat)) (1 : Nat) (NN.v sent.length) none, SVal.int IntKind.i64 got,
  SVal.int IntKind.i64 i],
               [Blk.ro encCl calls,
  Blk.own [Seg.c (SVal.ifc (56 : Nat) (SVal.ptr (2 : Nat) (0 : Nat))), Seg.c (SVal.int IntKind.i64 z)] (62 : Nat),
  Blk.own [Seg.c SVal.snil, Seg.c (SVal.int IntKind.i64 d)] (58 : Nat), Blk.vec encStr sent (9 : Nat)])))))))))))
    (.ret (Ex.exit
  (0 :
    Nat), [SVal.sli (0 : Nat) (NN.c (0 : Nat)) (3 : Nat) (NN.v calls.length) (some (NN.v cap)), SVal.bl false,
  SVal.int IntKind.u8 d, SVal.int IntKind.u8 z, SVal.ptr (1 : Nat) (0 : Nat),
  SVal.sli (3 : Nat) (NN.c (0 : Nat)) (1 : Nat) (NN.v sent.length) none, SVal.int IntKind.i64 got,
  SVal.int IntKind.i64 i],
      [Blk.ro encCl calls,
  Blk.own [Seg.c (SVal.ifc (56 : Nat) (SVal.ptr (2 : Nat) (0 : Nat))), Seg.c (SVal.int IntKind.i64 z)] (62 : Nat),
  Blk.own [Seg.c SVal.snil, Seg.c (SVal.int IntKind.i64 d)] (58 : Nat), Blk.vec encStr sent (9 : Nat)])))
   (.ret (Ex.exit
  (0 :
    Nat), [SVal.sli (0 : Nat) (NN.c (0 : Nat)) (3 : Nat) (NN.v calls.length) (some (NN.v cap)), SVal.bl false,
  SVal.int IntKind.u8 d, SVal.int IntKind.u8 z, SVal.ptr (1 : Nat) (0 : Nat),
  SVal.sli (3 : Nat) (NN.c (0 : Nat)) (1 : Nat) (NN.v sent.length) none, SVal.int IntKind.i64 got,
  SVal.int IntKind.i64 i],
     [Blk.ro encCl calls,
  Blk.own [Seg.c (SVal.ifc (56 : Nat) (SVal.ptr (2 : Nat) (0 : Nat))), Seg.c (SVal.int IntKind.i64 z)] (62 : Nat),
  Blk.own [Seg.c SVal.snil, Seg.c (SVal.int IntKind.i64 d)] (58 : Nat), Blk.vec encStr sent (9 : Nat)]))) := by kernel_rfl
end Go.Proofs.Ytdadfgeepinpbaa

namespace Go.Proofs.Ytdadfgeepinpbaa
open Go Go.Proofs.Ytdadfgeepinpbaa.Sx
set_option linter.unusedVariables false
set_option maxRecDepth 100000 in
theorem po_rv {d z got i : Int} {calls : List Cl} {xs sent : List ByteArray} {cap : Nat} : (exec cfg 100 round3 (fr 144 n3 (v3 (callsV calls cap) d z (.sli 4 (.c 0) 1 (.v sent.length) none) got i)) (s3v calls d z xs sent)).bind (canon [] 144 n3) =
  (.br (decide (i < (↑calls.length : Int)))
   (.br (decide (i < (80 : Int)))
    (.need (decide ((0 : Int) ≤ i) && decide (i.toNat < calls.length))
     (.need (decide (i.toNat < calls.length))
      (.need (decide (i.toNat < calls.length))
       (.need (decide (i.toNat < calls.length))
        (.br (decide ((40 : Int) < (↑(calls.getD i.toNat encCl.dflt).2.size : Int)))
         (.need (decide ((40 : Nat) ≤ (calls.getD i.toNat encCl.dflt).2.size))
          (.need (decide ((0 : Nat) ≤ (40 : Nat)))
           (.need (inR IntKind.i64 ((↑sent.length : Int) - got))
            (.need (inR IntKind.i64 d)
             (.br (bitop BinOp.and IntKind.i64 (calls.getD i.toNat encCl.dflt).1 (1 : Int) == (0 : Int))
              (.br (decide ((1 : Int) ≤ (↑((calls.getD i.toNat encCl.dflt).2.extract (0 : Nat) (40 : Nat)).size : Int)))
               (.br (!decide ((↑((calls.getD i.toNat encCl.dflt).2.extract (0 : Nat) (40 : Nat)).size : Int) ≤ z))
                (.br (!strEq ((calls.getD i.toNat encCl.dflt).2.extract (0 : Nat) (40 : Nat))
    { data := { toList := [] } })
                 (.need (inR IntKind.i64 z)
                  (.br (decide ((↑((calls.getD i.toNat encCl.dflt).2.extract (0 : Nat) (40 : Nat)).size : Int) ≤ z))
                   (.br (!false == !(↑sent.length : Int) - got == d)
                    (.no 106)
                    (.br (decide ((↑((calls.getD i.toNat encCl.dflt).2.extract (0 : Nat) (40 : Nat)).size : Int) ≤ z))
                     (.br ((↑sent.length : Int) - got == d)
                      (.ret (Ex.ret, [SVal.sli (0 : Nat) (NN.c (0 : Nat)) (3 : Nat) (NN.v calls.length)
    (some (NN.v cap)),
  SVal.bl false, SVal.int IntKind.u8 d, SVal.int IntKind.u8 z, SVal.ptr (1 : Nat) (0 : Nat),
  SVal.sli (4 : Nat) (NN.c (0 : Nat)) (1 : Nat) (NN.v sent.length) none, SVal.int IntKind.i64 got,
  SVal.int IntKind.i64 i],
                        [Blk.ro encCl calls,
  Blk.own [Seg.c (SVal.ifc (56 : Nat) (SVal.ptr (2 : Nat) (0 : Nat))), Seg.c (SVal.int IntKind.i64 z)] (62 : Nat),
  Blk.own [Seg.c (SVal.sli (3 : Nat) (NN.c (0 : Nat)) (1 : Nat) (NN.v xs.length) none), Seg.c (SVal.int IntKind.i64 d)]
    (58 : Nat),
  Blk.vec encStr xs (9 : Nat), Blk.vec encStr sent (9 : Nat)]))
                      (.need (inR IntKind.i64 (i + (1 : Int)))
                       (.ret (Ex.normal, [SVal.sli (0 : Nat) (NN.c (0 : Nat)) (3 : Nat) (NN.v calls.length)
    (some (NN.v cap)),
  SVal.bl false, SVal.int IntKind.u8 d, SVal.int IntKind.u8 z, SVal.ptr (1 : Nat) (0 : Nat),
  SVal.sli (4 : Nat) (NN.c (0 : Nat)) (1 : Nat) (NN.v sent.length) none, SVal.int IntKind.i64 got,
  SVal.int IntKind.i64 (i + (1 : Int))],
                         [Blk.ro encCl calls,
  Blk.own [Seg.c (SVal.ifc (56 : Nat) (SVal.ptr (2 : Nat) (0 : Nat))), Seg.c (SVal.int IntKind.i64 z)] (62 : Nat),
  Blk.own [Seg.c (SVal.sli (3 : Nat) (NN.c (0 : Nat)) (1 : Nat) (NN.v xs.length) none), Seg.c (SVal.int IntKind.i64 d)]
    (58 : Nat),
  Blk.vec encStr xs (9 : Nat), Blk.vec encStr sent (9 : Nat)]))))
                     (.need (inR IntKind.i64 (i + (1 : Int)))
                      (.ret (Ex.normal, [SVal.sli (0 : Nat) (NN.c (0 : Nat)) (3 : Nat) (NN.v calls.length)
    (some (NN.v cap)),
  SVal.bl false, SVal.int IntKind.u8 d, SVal.int IntKind.u8 z, SVal.ptr (1 : Nat) (0 : Nat),
  SVal.sli (4 : Nat) (NN.c (0 : Nat)) (1 : Nat) (NN.v sent.length) none, SVal.int IntKind.i64 got,
  SVal.int IntKind.i64 (i + (1 : Int))],
                        [Blk.ro encCl calls,
  Blk.own [Seg.c (SVal.ifc (56 : Nat) (SVal.ptr (2 : Nat) (0 : Nat))), Seg.c (SVal.int IntKind.i64 z)] (62 : Nat),
  Blk.own [Seg.c (SVal.sli (3 : Nat) (NN.c (0 : Nat)) (1 : Nat) (NN.v xs.length) none), Seg.c (SVal.int IntKind.i64 d)]
    (58 : Nat),
  Blk.vec encStr xs (9 : Nat), Blk.vec encStr sent (9 : Nat)])))))
                   (.br (decide ((↑((calls.getD i.toNat encCl.dflt).2.extract (0 : Nat) (40 : Nat)).size : Int) ≤ z))
                    (.br ((↑sent.length : Int) - got == d)
                     (.ret (Ex.ret, [SVal.sli (0 : Nat) (NN.c (0 : Nat)) (3 : Nat) (NN.v calls.length)
    (some (NN.v cap)),
  SVal.bl false, SVal.int IntKind.u8 d, SVal.int IntKind.u8 z, SVal.ptr (1 : Nat) (0 : Nat),
  SVal.sli (4 : Nat) (NN.c (0 : Nat)) (1 : Nat) (NN.v sent.length) none, SVal.int IntKind.i64 got,
  SVal.int IntKind.i64 i],
                       [Blk.ro encCl calls,
  Blk.own [Seg.c (SVal.ifc (56 : Nat) (SVal.ptr (2 : Nat) (0 : Nat))), Seg.c (SVal.int IntKind.i64 z)] (62 : Nat),
  Blk.own [Seg.c (SVal.sli (3 : Nat) (NN.c (0 : Nat)) (1 : Nat) (NN.v xs.length) none), Seg.c (SVal.int IntKind.i64 d)]
    (58 : Nat),
  Blk.vec encStr xs (9 : Nat), Blk.vec encStr sent (9 : Nat)]))
                     (.need (inR IntKind.i64 (i + (1 : Int)))
                      (.ret (Ex.normal, [SVal.sli (0 : Nat) (NN.c (0 : Nat)) (3 : Nat) (NN.v calls.length)
    (some (NN.v cap)),
  SVal.bl false, SVal.int IntKind.u8 d, SVal.int IntKind.u8 z, SVal.ptr (1 : Nat) (0 : Nat),
  SVal.sli (4 : Nat) (NN.c (0 : Nat)) (1 : Nat) (NN.v sent.length) none, SVal.int IntKind.i64 got,
  SVal.int IntKind.i64 (i + (1 : Int))],
                        [Blk.ro encCl calls,
  Blk.own [Seg.c (SVal.ifc (56 : Nat) (SVal.ptr (2 : Nat) (0 : Nat))), Seg.c (SVal.int IntKind.i64 z)] (62 : Nat),
  Blk.own [Seg.c (SVal.sli (3 : Nat) (NN.c (0 : Nat)) (1 : Nat) (NN.v xs.length) none), Seg.c (SVal.int IntKind.i64 d)]
    (58 : Nat),
  Blk.vec encStr xs (9 : Nat), Blk.vec encStr sent (9 : Nat)]))))
                    (.need (inR IntKind.i64 (i + (1 : Int)))
                     (.ret (Ex.normal, [SVal.sli (0 : Nat) (NN.c (0 : Nat)) (3 : Nat) (NN.v calls.length)
    (some (NN.v cap)),
  SVal.bl false, SVal.int IntKind.u8 d, SVal.int IntKind.u8 z, SVal.ptr (1 : Nat) (0 : Nat),
  SVal.sli (4 : Nat) (NN.c (0 : Nat)) (1 : Nat) (NN.v sent.length) none, SVal.int IntKind.i64 got,
  SVal.int IntKind.i64 (i + (1 : Int))],
                       [Blk.ro encCl calls,
  Blk.own [Seg.c (SVal.ifc (56 : Nat) (SVal.ptr (2 : Nat) (0 : Nat))), Seg.c (SVal.int IntKind.i64 z)] (62 : Nat),
  Blk.own [Seg.c (SVal.sli (3 : Nat) (NN.c (0 : Nat)) (1 : Nat) (NN.v xs.length) none), Seg.c (SVal.int IntKind.i64 d)]
    (58 : Nat),
  Blk.vec encStr xs (9 : Nat), Blk.vec encStr sent (9 : Nat)]))))))
                 (.need (inR IntKind.i64 (i + (1 : Int)))
                  (.ret (Ex.normal, [SVal.sli (0 : Nat) (NN.c (0 : Nat)) (3 : Nat) (NN.v calls.length)
    (some (NN.v cap)),
  SVal.bl false, SVal.int IntKind.u8 d, SVal.int IntKind.u8 z, SVal.ptr (1 : Nat) (0 : Nat),
  SVal.sli (4 : Nat) (NN.c (0 : Nat)) (1 : Nat) (NN.v sent.length) none, SVal.int IntKind.i64 got,
  SVal.int IntKind.i64 (i + (1 : Int))],
                    [Blk.ro encCl calls,
  Blk.own [Seg.c (SVal.ifc (56 : Nat) (SVal.ptr (2 : Nat) (0 : Nat))), Seg.c (SVal.int IntKind.i64 z)] (62 : Nat),
  Blk.own [Seg.c (SVal.sli (3 : Nat) (NN.c (0 : Nat)) (1 : Nat) (NN.v xs.length) none), Seg.c (SVal.int IntKind.i64 d)]
    (58 : Nat),
  Blk.vec encStr xs (9 : Nat), Blk.vec encStr sent (9 : Nat)]))))
                (.br ((↑xs.length : Int) == d)
                 (.br (!strEq ((calls.getD i.toNat encCl.dflt).2.extract (0 : Nat) (40 : Nat))
    { data := { toList := [] } })
                  (.need (inR IntKind.i64 z)
                   (.br (decide ((↑((calls.getD i.toNat encCl.dflt).2.extract (0 : Nat) (40 : Nat)).size : Int) ≤ z))
                    (.br (!false == !(↑sent.length : Int) - got == d)
                     (.no 106)
                     (.br (decide ((↑((calls.getD i.toNat encCl.dflt).2.extract (0 : Nat) (40 : Nat)).size : Int) ≤ z))
                      (.br ((↑sent.length : Int) - got == d)
                       (.need (inR IntKind.i64 (i + (1 : Int)))
                        (.ret (Ex.normal, [SVal.sli (0 : Nat) (NN.c (0 : Nat)) (3 : Nat) (NN.v calls.length)
    (some (NN.v cap)),
  SVal.bl false, SVal.int IntKind.u8 d, SVal.int IntKind.u8 z, SVal.ptr (1 : Nat) (0 : Nat),
  SVal.sli (4 : Nat) (NN.c (0 : Nat)) (1 : Nat) (NN.v sent.length) none, SVal.int IntKind.i64 got,
  SVal.int IntKind.i64 (i + (1 : Int))],
                          [Blk.ro encCl calls,
  Blk.own [Seg.c (SVal.ifc (56 : Nat) (SVal.ptr (2 : Nat) (0 : Nat))), Seg.c (SVal.int IntKind.i64 z)] (62 : Nat),
  Blk.own [Seg.c (SVal.sli (3 : Nat) (NN.c (0 : Nat)) (1 : Nat) (NN.v xs.length) none), Seg.c (SVal.int IntKind.i64 d)]
    (58 : Nat),
  Blk.vec encStr xs (9 : Nat), Blk.vec encStr sent (9 : Nat)])))
                       (.need (inR IntKind.i64 (i + (1 : Int)))
                        (.ret (Ex.normal, [SVal.sli (0 : Nat) (NN.c (0 : Nat)) (3 : Nat) (NN.v calls.length)
    (some (NN.v cap)),
  SVal.bl false, SVal.int IntKind.u8 d, SVal.int IntKind.u8 z, SVal.ptr (1 : Nat) (0 : Nat),
  SVal.sli (4 : Nat) (NN.c (0 : Nat)) (1 : Nat) (NN.v sent.length) none, SVal.int IntKind.i64 got,
  SVal.int IntKind.i64 (i + (1 : Int))],
                          [Blk.ro encCl calls,
  Blk.own [Seg.c (SVal.ifc (56 : Nat) (SVal.ptr (2 : Nat) (0 : Nat))), Seg.c (SVal.int IntKind.i64 z)] (62 : Nat),
  Blk.own [Seg.c (SVal.sli (3 : Nat) (NN.c (0 : Nat)) (1 : Nat) (NN.v xs.length) none), Seg.c (SVal.int IntKind.i64 d)]
    (58 : Nat),
  Blk.vec encStr xs (9 : Nat), Blk.vec encStr sent (9 : Nat)]))))
                      (.need (inR IntKind.i64 (i + (1 : Int)))
                       (.ret (Ex.normal, [SVal.sli (0 : Nat) (NN.c (0 : Nat)) (3 : Nat) (NN.v calls.length)
    (some (NN.v cap)),
  SVal.bl false, SVal.int IntKind.u8 d, SVal.int IntKind.u8 z, SVal.ptr (1 : Nat) (0 : Nat),
  SVal.sli (4 : Nat) (NN.c (0 : Nat)) (1 : Nat) (NN.v sent.length) none, SVal.int IntKind.i64 got,
  SVal.int IntKind.i64 (i + (1 : Int))],
                         [Blk.ro encCl calls,
  Blk.own [Seg.c (SVal.ifc (56 : Nat) (SVal.ptr (2 : Nat) (0 : Nat))), Seg.c (SVal.int IntKind.i64 z)] (62 : Nat),
  Blk.own [Seg.c (SVal.sli (3 : Nat) (NN.c (0 : Nat)) (1 : Nat) (NN.v xs.length) none), Seg.c (SVal.int IntKind.i64 d)]
    (58 : Nat),
  Blk.vec encStr xs (9 : Nat), Blk.vec encStr sent (9 : Nat)])))))
                    (.br (decide ((↑((calls.getD i.toNat encCl.dflt).2.extract (0 : Nat) (40 : Nat)).size : Int) ≤ z))
                     (.br ((↑sent.length : Int) - got == d)
                      (.need (inR IntKind.i64 (i + (1 : Int)))
                       (.ret (Ex.normal, [SVal.sli (0 : Nat) (NN.c (0 : Nat)) (3 : Nat) (NN.v calls.length)
    (some (NN.v cap)),
  SVal.bl false, SVal.int IntKind.u8 d, SVal.int IntKind.u8 z, SVal.ptr (1 : Nat) (0 : Nat),
  SVal.sli (4 : Nat) (NN.c (0 : Nat)) (1 : Nat) (NN.v sent.length) none, SVal.int IntKind.i64 got,
  SVal.int IntKind.i64 (i + (1 : Int))],
                         [Blk.ro encCl calls,
  Blk.own [Seg.c (SVal.ifc (56 : Nat) (SVal.ptr (2 : Nat) (0 : Nat))), Seg.c (SVal.int IntKind.i64 z)] (62 : Nat),
  Blk.own [Seg.c (SVal.sli (3 : Nat) (NN.c (0 : Nat)) (1 : Nat) (NN.v xs.length) none), Seg.c (SVal.int IntKind.i64 d)]
    (58 : Nat),
  Blk.vec encStr xs (9 : Nat), Blk.vec encStr sent (9 : Nat)])))
                      (.need (inR IntKind.i64 (i + (1 : Int)))
                       (.ret (Ex.normal, [SVal.sli (0 : Nat) (NN.c (0 : Nat)) (3 : Nat) (NN.v calls.length)
    (some (NN.v cap)),
  SVal.bl false, SVal.int IntKind.u8 d, SVal.int IntKind.u8 z, SVal.ptr (1 : Nat) (0 : Nat),
  SVal.sli (4 : Nat) (NN.c (0 : Nat)) (1 : Nat) (NN.v sent.length) none, SVal.int IntKind.i64 got,
  SVal.int IntKind.i64 (i + (1 : Int))],
                         [Blk.ro encCl calls,
  Blk.own [Seg.c (SVal.ifc (56 : Nat) (SVal.ptr (2 : Nat) (0 : Nat))), Seg.c (SVal.int IntKind.i64 z)] (62 : Nat),
  Blk.own [Seg.c (SVal.sli (3 : Nat) (NN.c (0 : Nat)) (1 : Nat) (NN.v xs.length) none), Seg.c (SVal.int IntKind.i64 d)]
    (58 : Nat),
  Blk.vec encStr xs (9 : Nat), Blk.vec encStr sent (9 : Nat)]))))
                     (.need (inR IntKind.i64 (i + (1 : Int)))
                      (.ret (Ex.normal, [SVal.sli (0 : Nat) (NN.c (0 : Nat)) (3 : Nat) (NN.v calls.length)
    (some (NN.v cap)),
  SVal.bl false, SVal.int IntKind.u8 d, SVal.int IntKind.u8 z, SVal.ptr (1 : Nat) (0 : Nat),
  SVal.sli (4 : Nat) (NN.c (0 : Nat)) (1 : Nat) (NN.v sent.length) none, SVal.int IntKind.i64 got,
  SVal.int IntKind.i64 (i + (1 : Int))],
                        [Blk.ro encCl calls,
  Blk.own [Seg.c (SVal.ifc (56 : Nat) (SVal.ptr (2 : Nat) (0 : Nat))), Seg.c (SVal.int IntKind.i64 z)] (62 : Nat),
  Blk.own [Seg.c (SVal.sli (3 : Nat) (NN.c (0 : Nat)) (1 : Nat) (NN.v xs.length) none), Seg.c (SVal.int IntKind.i64 d)]
    (58 : Nat),
  Blk.vec encStr xs (9 : Nat), Blk.vec encStr sent (9 : Nat)]))))))
                  (.need (inR IntKind.i64 (i + (1 : Int)))
                   (.ret (Ex.normal, [SVal.sli (0 : Nat) (NN.c (0 : Nat)) (3 : Nat) (NN.v calls.length)
    (some (NN.v cap)),
  SVal.bl false, SVal.int IntKind.u8 d, SVal.int IntKind.u8 z, SVal.ptr (1 : Nat) (0 : Nat),
  SVal.sli (4 : Nat) (NN.c (0 : Nat)) (1 : Nat) (NN.v sent.length) none, SVal.int IntKind.i64 got,
  SVal.int IntKind.i64 (i + (1 : Int))],
                     [Blk.ro encCl calls,
  Blk.own [Seg.c (SVal.ifc (56 : Nat) (SVal.ptr (2 : Nat) (0 : Nat))), Seg.c (SVal.int IntKind.i64 z)] (62 : Nat),
  Blk.own [Seg.c (SVal.sli (3 : Nat) (NN.c (0 : Nat)) (1 : Nat) (NN.v xs.length) none), Seg.c (SVal.int IntKind.i64 d)]
    (58 : Nat),
  Blk.vec encStr xs (9 : Nat), Blk.vec encStr sent (9 : Nat)]))))
                 (.need (true)
                  (.need (decide (xs.length = xs.length))
                   (.need (roomy (xs.length + (1 : Nat)) (16 : Nat))
                    (.br (!strEq ((calls.getD i.toNat encCl.dflt).2.extract (0 : Nat) (40 : Nat))
    { data := { toList := [] } })
                     (.need (inR IntKind.i64 z)
                      (.need (true)
                       (.need (decide (sent.length = sent.length))
                        (.need (roomy (sent.length + (1 : Nat)) (16 : Nat))
                         (.br (decide
  ((↑((calls.getD i.toNat encCl.dflt).2.extract (0 : Nat) (40 : Nat)).size : Int) ≤ z))
                          (.br (!true == !(↑sent.length : Int) - got == d)
                           (.no 106)
                           (.br (decide
  ((↑((calls.getD i.toNat encCl.dflt).2.extract (0 : Nat) (40 : Nat)).size : Int) ≤ z))
                            (.br ((↑sent.length : Int) - got == d)
                             (.ret (Ex.ret, [SVal.sli (0 : Nat) (NN.c (0 : Nat)) (3 : Nat) (NN.v calls.length)
    (some (NN.v cap)),
  SVal.bl false, SVal.int IntKind.u8 d, SVal.int IntKind.u8 z, SVal.ptr (1 : Nat) (0 : Nat),
  SVal.sli (4 : Nat) (NN.c (0 : Nat)) (1 : Nat) (NN.v (sent.length + (1 : Nat))) none, SVal.int IntKind.i64 got,
  SVal.int IntKind.i64 i],
                               [Blk.ro encCl calls,
  Blk.own [Seg.c (SVal.ifc (56 : Nat) (SVal.ptr (2 : Nat) (0 : Nat))), Seg.c (SVal.int IntKind.i64 z)] (62 : Nat),
  Blk.own
    [Seg.c (SVal.sli (3 : Nat) (NN.c (0 : Nat)) (1 : Nat) (NN.v (xs.length + (1 : Nat))) none),
      Seg.c (SVal.int IntKind.i64 d)]
    (58 : Nat),
  Blk.vec encStr (xs ++ [(calls.getD i.toNat encCl.dflt).2.extract (0 : Nat) (40 : Nat)]) (9 : Nat),
  Blk.vec encStr (sent ++ [(calls.getD i.toNat encCl.dflt).2.extract (0 : Nat) (40 : Nat)]) (9 : Nat)]))
                             (.need (inR IntKind.i64 (i + (1 : Int)))
                              (.ret (Ex.normal, [SVal.sli (0 : Nat) (NN.c (0 : Nat)) (3 : Nat) (NN.v calls.length)
    (some (NN.v cap)),
  SVal.bl false, SVal.int IntKind.u8 d, SVal.int IntKind.u8 z, SVal.ptr (1 : Nat) (0 : Nat),
  SVal.sli (4 : Nat) (NN.c (0 : Nat)) (1 : Nat) (NN.v (sent.length + (1 : Nat))) none, SVal.int IntKind.i64 got,
  SVal.int IntKind.i64 (i + (1 : Int))],
                                [Blk.ro encCl calls,
  Blk.own [Seg.c (SVal.ifc (56 : Nat) (SVal.ptr (2 : Nat) (0 : Nat))), Seg.c (SVal.int IntKind.i64 z)] (62 : Nat),
  Blk.own
    [Seg.c (SVal.sli (3 : Nat) (NN.c (0 : Nat)) (1 : Nat) (NN.v (xs.length + (1 : Nat))) none),
      Seg.c (SVal.int IntKind.i64 d)]
    (58 : Nat),
  Blk.vec encStr (xs ++ [(calls.getD i.toNat encCl.dflt).2.extract (0 : Nat) (40 : Nat)]) (9 : Nat),
  Blk.vec encStr (sent ++ [(calls.getD i.toNat encCl.dflt).2.extract (0 : Nat) (40 : Nat)]) (9 : Nat)]))))
                            (.need (inR IntKind.i64 (i + (1 : Int)))
                             (.ret (Ex.normal, [SVal.sli (0 : Nat) (NN.c (0 : Nat)) (3 : Nat) (NN.v calls.length)
    (some (NN.v cap)),
  SVal.bl false, SVal.int IntKind.u8 d, SVal.int IntKind.u8 z, SVal.ptr (1 : Nat) (0 : Nat),
  SVal.sli (4 : Nat) (NN.c (0 : Nat)) (1 : Nat) (NN.v (sent.length + (1 : Nat))) none, SVal.int IntKind.i64 got,
  SVal.int IntKind.i64 (i + (1 : Int))],
                               [Blk.ro encCl calls,
  Blk.own [Seg.c (SVal.ifc (56 : Nat) (SVal.ptr (2 : Nat) (0 : Nat))), Seg.c (SVal.int IntKind.i64 z)] (62 : Nat),
  Blk.own
    [Seg.c (SVal.sli (3 : Nat) (NN.c (0 : Nat)) (1 : Nat) (NN.v (xs.length + (1 : Nat))) none),
      Seg.c (SVal.int IntKind.i64 d)]
    (58 : Nat),
  Blk.vec encStr (xs ++ [(calls.getD i.toNat encCl.dflt).2.extract (0 : Nat) (40 : Nat)]) (9 : Nat),
  Blk.vec encStr (sent ++ [(calls.getD i.toNat encCl.dflt).2.extract (0 : Nat) (40 : Nat)]) (9 : Nat)])))))
                          (.no 106))))))
                     (.need (true)
                      (.need (decide (sent.length = sent.length))
                       (.need (roomy (sent.length + (1 : Nat)) (16 : Nat))
                        (.no 106))))))))))
               (.br (!strEq ((calls.getD i.toNat encCl.dflt).2.extract (0 : Nat) (40 : Nat))
    { data := { toList := [] } })
                (.need (inR IntKind.i64 z)
                 (.br (decide ((↑((calls.getD i.toNat encCl.dflt).2.extract (0 : Nat) (40 : Nat)).size : Int) ≤ z))
                  (.br (!false == !(↑sent.length : Int) - got == d)
                   (.no 106)
                   (.br (decide ((↑((calls.getD i.toNat encCl.dflt).2.extract (0 : Nat) (40 : Nat)).size : Int) ≤ z))
                    (.br ((↑sent.length : Int) - got == d)
                     (.ret (Ex.ret, [SVal.sli (0 : Nat) (NN.c (0 : Nat)) (3 : Nat) (NN.v calls.length)
    (some (NN.v cap)),
  SVal.bl false, SVal.int IntKind.u8 d, SVal.int IntKind.u8 z, SVal.ptr (1 : Nat) (0 : Nat),
  SVal.sli (4 : Nat) (NN.c (0 : Nat)) (1 : Nat) (NN.v sent.length) none, SVal.int IntKind.i64 got,
  SVal.int IntKind.i64 i],
                       [Blk.ro encCl calls,
  Blk.own [Seg.c (SVal.ifc (56 : Nat) (SVal.ptr (2 : Nat) (0 : Nat))), Seg.c (SVal.int IntKind.i64 z)] (62 : Nat),
  Blk.own [Seg.c (SVal.sli (3 : Nat) (NN.c (0 : Nat)) (1 : Nat) (NN.v xs.length) none), Seg.c (SVal.int IntKind.i64 d)]
    (58 : Nat),
  Blk.vec encStr xs (9 : Nat), Blk.vec encStr sent (9 : Nat)]))
                     (.need (inR IntKind.i64 (i + (1 : Int)))
                      (.ret (Ex.normal, [SVal.sli (0 : Nat) (NN.c (0 : Nat)) (3 : Nat) (NN.v calls.length)
    (some (NN.v cap)),
  SVal.bl false, SVal.int IntKind.u8 d, SVal.int IntKind.u8 z, SVal.ptr (1 : Nat) (0 : Nat),
  SVal.sli (4 : Nat) (NN.c (0 : Nat)) (1 : Nat) (NN.v sent.length) none, SVal.int IntKind.i64 got,
  SVal.int IntKind.i64 (i + (1 : Int))],
                        [Blk.ro encCl calls,
  Blk.own [Seg.c (SVal.ifc (56 : Nat) (SVal.ptr (2 : Nat) (0 : Nat))), Seg.c (SVal.int IntKind.i64 z)] (62 : Nat),
  Blk.own [Seg.c (SVal.sli (3 : Nat) (NN.c (0 : Nat)) (1 : Nat) (NN.v xs.length) none), Seg.c (SVal.int IntKind.i64 d)]
    (58 : Nat),
  Blk.vec encStr xs (9 : Nat), Blk.vec encStr sent (9 : Nat)]))))
                    (.need (inR IntKind.i64 (i + (1 : Int)))
                     (.ret (Ex.normal, [SVal.sli (0 : Nat) (NN.c (0 : Nat)) (3 : Nat) (NN.v calls.length)
    (some (NN.v cap)),
  SVal.bl false, SVal.int IntKind.u8 d, SVal.int IntKind.u8 z, SVal.ptr (1 : Nat) (0 : Nat),
  SVal.sli (4 : Nat) (NN.c (0 : Nat)) (1 : Nat) (NN.v sent.length) none, SVal.int IntKind.i64 got,
  SVal.int IntKind.i64 (i + (1 : Int))],
                       [Blk.ro encCl calls,
  Blk.own [Seg.c (SVal.ifc (56 : Nat) (SVal.ptr (2 : Nat) (0 : Nat))), Seg.c (SVal.int IntKind.i64 z)] (62 : Nat),
  Blk.own [Seg.c (SVal.sli (3 : Nat) (NN.c (0 : Nat)) (1 : Nat) (NN.v xs.length) none), Seg.c (SVal.int IntKind.i64 d)]
    (58 : Nat),
  Blk.vec encStr xs (9 : Nat), Blk.vec encStr sent (9 : Nat)])))))
                  (.br (decide ((↑((calls.getD i.toNat encCl.dflt).2.extract (0 : Nat) (40 : Nat)).size : Int) ≤ z))
                   (.br ((↑sent.length : Int) - got == d)
                    (.ret (Ex.ret, [SVal.sli (0 : Nat) (NN.c (0 : Nat)) (3 : Nat) (NN.v calls.length) (some (NN.v cap)),
  SVal.bl false, SVal.int IntKind.u8 d, SVal.int IntKind.u8 z, SVal.ptr (1 : Nat) (0 : Nat),
  SVal.sli (4 : Nat) (NN.c (0 : Nat)) (1 : Nat) (NN.v sent.length) none, SVal.int IntKind.i64 got,
  SVal.int IntKind.i64 i],
                      [Blk.ro encCl calls,
  Blk.own [Seg.c (SVal.ifc (56 : Nat) (SVal.ptr (2 : Nat) (0 : Nat))), Seg.c (SVal.int IntKind.i64 z)] (62 : Nat),
  Blk.own [Seg.c (SVal.sli (3 : Nat) (NN.c (0 : Nat)) (1 : Nat) (NN.v xs.length) none), Seg.c (SVal.int IntKind.i64 d)]
    (58 : Nat),
  Blk.vec encStr xs (9 : Nat), Blk.vec encStr sent (9 : Nat)]))
                    (.need (inR IntKind.i64 (i + (1 : Int)))
                     (.ret (Ex.normal, [SVal.sli (0 : Nat) (NN.c (0 : Nat)) (3 : Nat) (NN.v calls.length)
    (some (NN.v cap)),
  SVal.bl false, SVal.int IntKind.u8 d, SVal.int IntKind.u8 z, SVal.ptr (1 : Nat) (0 : Nat),
  SVal.sli (4 : Nat) (NN.c (0 : Nat)) (1 : Nat) (NN.v sent.length) none, SVal.int IntKind.i64 got,
  SVal.int IntKind.i64 (i + (1 : Int))],
                       [Blk.ro encCl calls,
  Blk.own [Seg.c (SVal.ifc (56 : Nat) (SVal.ptr (2 : Nat) (0 : Nat))), Seg.c (SVal.int IntKind.i64 z)] (62 : Nat),
  Blk.own [Seg.c (SVal.sli (3 : Nat) (NN.c (0 : Nat)) (1 : Nat) (NN.v xs.length) none), Seg.c (SVal.int IntKind.i64 d)]
    (58 : Nat),
  Blk.vec encStr xs (9 : Nat), Blk.vec encStr sent (9 : Nat)]))))
                   (.need (inR IntKind.i64 (i + (1 : Int)))
                    (.ret (Ex.normal, [SVal.sli (0 : Nat) (NN.c (0 : Nat)) (3 : Nat) (NN.v calls.length)
    (some (NN.v cap)),
  SVal.bl false, SVal.int IntKind.u8 d, SVal.int IntKind.u8 z, SVal.ptr (1 : Nat) (0 : Nat),
  SVal.sli (4 : Nat) (NN.c (0 : Nat)) (1 : Nat) (NN.v sent.length) none, SVal.int IntKind.i64 got,
  SVal.int IntKind.i64 (i + (1 : Int))],
                      [Blk.ro encCl calls,
  Blk.own [Seg.c (SVal.ifc (56 : Nat) (SVal.ptr (2 : Nat) (0 : Nat))), Seg.c (SVal.int IntKind.i64 z)] (62 : Nat),
  Blk.own [Seg.c (SVal.sli (3 : Nat) (NN.c (0 : Nat)) (1 : Nat) (NN.v xs.length) none), Seg.c (SVal.int IntKind.i64 d)]
    (58 : Nat),
  Blk.vec encStr xs (9 : Nat), Blk.vec encStr sent (9 : Nat)]))))))
                (.need (inR IntKind.i64 (i + (1 : Int)))
                 (.ret (Ex.normal, [SVal.sli (0 : Nat) (NN.c (0 : Nat)) (3 : Nat) (NN.v calls.length) (some (NN.v cap)),
  SVal.bl false, SVal.int IntKind.u8 d, SVal.int IntKind.u8 z, SVal.ptr (1 : Nat) (0 : Nat),
  SVal.sli (4 : Nat) (NN.c (0 : Nat)) (1 : Nat) (NN.v sent.length) none, SVal.int IntKind.i64 got,
  SVal.int IntKind.i64 (i + (1 : Int))],
                   [Blk.ro encCl calls,
  Blk.own [Seg.c (SVal.ifc (56 : Nat) (SVal.ptr (2 : Nat) (0 : Nat))), Seg.c (SVal.int IntKind.i64 z)] (62 : Nat),
  Blk.own [Seg.c (SVal.sli (3 : Nat) (NN.c (0 : Nat)) (1 : Nat) (NN.v xs.length) none), Seg.c (SVal.int IntKind.i64 d)]
    (58 : Nat),
  Blk.vec encStr xs (9 : Nat), Blk.vec encStr sent (9 : Nat)])))))
              (.br ((↑xs.length : Int) == (0 : Int))
               (.br (got == (↑sent.length : Int))
                (.need (inR IntKind.i64 (i + (1 : Int)))
                 (.ret (Ex.normal, [SVal.sli (0 : Nat) (NN.c (0 : Nat)) (3 : Nat) (NN.v calls.length) (some (NN.v cap)),
  SVal.bl false, SVal.int IntKind.u8 d, SVal.int IntKind.u8 z, SVal.ptr (1 : Nat) (0 : Nat),
  SVal.sli (4 : Nat) (NN.c (0 : Nat)) (1 : Nat) (NN.v sent.length) none, SVal.int IntKind.i64 got,
  SVal.int IntKind.i64 (i + (1 : Int))],
                   [Blk.ro encCl calls,
  Blk.own [Seg.c (SVal.ifc (56 : Nat) (SVal.ptr (2 : Nat) (0 : Nat))), Seg.c (SVal.int IntKind.i64 z)] (62 : Nat),
  Blk.own [Seg.c (SVal.sli (3 : Nat) (NN.c (0 : Nat)) (1 : Nat) (NN.v xs.length) none), Seg.c (SVal.int IntKind.i64 d)]
    (58 : Nat),
  Blk.vec encStr xs (9 : Nat), Blk.vec encStr sent (9 : Nat)])))
                (.ret (Ex.ret, [SVal.sli (0 : Nat) (NN.c (0 : Nat)) (3 : Nat) (NN.v calls.length) (some (NN.v cap)),
  SVal.bl false, SVal.int IntKind.u8 d, SVal.int IntKind.u8 z, SVal.ptr (1 : Nat) (0 : Nat),
  SVal.sli (4 : Nat) (NN.c (0 : Nat)) (1 : Nat) (NN.v sent.length) none, SVal.int IntKind.i64 got,
  SVal.int IntKind.i64 i],
                  [Blk.ro encCl calls,
  Blk.own [Seg.c (SVal.ifc (56 : Nat) (SVal.ptr (2 : Nat) (0 : Nat))), Seg.c (SVal.int IntKind.i64 z)] (62 : Nat),
  Blk.own [Seg.c (SVal.sli (3 : Nat) (NN.c (0 : Nat)) (1 : Nat) (NN.v xs.length) none), Seg.c (SVal.int IntKind.i64 d)]
    (58 : Nat),
  Blk.vec encStr xs (9 : Nat), Blk.vec encStr sent (9 : Nat)])))
               (.need (decide ((0 : Nat) < xs.length))
                (.need (decide ((0 : Nat) < xs.length))
                 (.need (decide (xs.length ≤ xs.length))
                  (.need (decide ((1 : Nat) ≤ xs.length))
                   (.need (decide ((1 : Nat) + (xs.length - (1 : Nat)) ≤ xs.length))
                    (.need (decide ((1 : Nat) + (xs.length - (1 : Nat)) ≤ xs.length))
                     (.need (roomy (List.take (xs.length - (1 : Nat)) (List.drop (1 : Nat) xs)).length (16 : Nat))
                      (.br (got == (↑sent.length : Int))
                       (.ret (Ex.ret, [SVal.sli (0 : Nat) (NN.c (0 : Nat)) (3 : Nat) (NN.v calls.length)
    (some (NN.v cap)),
  SVal.bl false, SVal.int IntKind.u8 d, SVal.int IntKind.u8 z, SVal.ptr (1 : Nat) (0 : Nat),
  SVal.sli (4 : Nat) (NN.c (0 : Nat)) (1 : Nat) (NN.v sent.length) none, SVal.int IntKind.i64 got,
  SVal.int IntKind.i64 i],
                         [Blk.ro encCl calls,
  Blk.own [Seg.c (SVal.ifc (56 : Nat) (SVal.ptr (2 : Nat) (0 : Nat))), Seg.c (SVal.int IntKind.i64 z)] (62 : Nat),
  Blk.own
    [Seg.c
        (SVal.sli (3 : Nat) (NN.c (0 : Nat)) (1 : Nat)
          (NN.v (List.take (xs.length - (1 : Nat)) (List.drop (1 : Nat) xs)).length) none),
      Seg.c (SVal.int IntKind.i64 d)]
    (58 : Nat),
  Blk.vec encStr (List.take (xs.length - (1 : Nat)) (List.drop (1 : Nat) xs)) (9 : Nat),
  Blk.vec encStr sent (9 : Nat)]))
                       (.need (decide ((0 : Int) ≤ got) && decide (got.toNat < sent.length))
                        (.need (decide (got.toNat < sent.length))
                         (.br (!strEq (xs.getD (0 : Nat) { data := { toList := [] } })
    (sent.getD got.toNat { data := { toList := [] } }))
                          (.ret (Ex.ret, [SVal.sli (0 : Nat) (NN.c (0 : Nat)) (3 : Nat) (NN.v calls.length)
    (some (NN.v cap)),
  SVal.bl false, SVal.int IntKind.u8 d, SVal.int IntKind.u8 z, SVal.ptr (1 : Nat) (0 : Nat),
  SVal.sli (4 : Nat) (NN.c (0 : Nat)) (1 : Nat) (NN.v sent.length) none, SVal.int IntKind.i64 got,
  SVal.int IntKind.i64 i],
                            [Blk.ro encCl calls,
  Blk.own [Seg.c (SVal.ifc (56 : Nat) (SVal.ptr (2 : Nat) (0 : Nat))), Seg.c (SVal.int IntKind.i64 z)] (62 : Nat),
  Blk.own
    [Seg.c
        (SVal.sli (3 : Nat) (NN.c (0 : Nat)) (1 : Nat)
          (NN.v (List.take (xs.length - (1 : Nat)) (List.drop (1 : Nat) xs)).length) none),
      Seg.c (SVal.int IntKind.i64 d)]
    (58 : Nat),
  Blk.vec encStr (List.take (xs.length - (1 : Nat)) (List.drop (1 : Nat) xs)) (9 : Nat),
  Blk.vec encStr sent (9 : Nat)]))
                          (.need (inR IntKind.i64 (got + (1 : Int)))
                           (.need (inR IntKind.i64 (i + (1 : Int)))
                            (.ret (Ex.normal, [SVal.sli (0 : Nat) (NN.c (0 : Nat)) (3 : Nat) (NN.v calls.length)
    (some (NN.v cap)),
  SVal.bl false, SVal.int IntKind.u8 d, SVal.int IntKind.u8 z, SVal.ptr (1 : Nat) (0 : Nat),
  SVal.sli (4 : Nat) (NN.c (0 : Nat)) (1 : Nat) (NN.v sent.length) none, SVal.int IntKind.i64 (got + (1 : Int)),
  SVal.int IntKind.i64 (i + (1 : Int))],
                              [Blk.ro encCl calls,
  Blk.own [Seg.c (SVal.ifc (56 : Nat) (SVal.ptr (2 : Nat) (0 : Nat))), Seg.c (SVal.int IntKind.i64 z)] (62 : Nat),
  Blk.own
    [Seg.c
        (SVal.sli (3 : Nat) (NN.c (0 : Nat)) (1 : Nat)
          (NN.v (List.take (xs.length - (1 : Nat)) (List.drop (1 : Nat) xs)).length) none),
      Seg.c (SVal.int IntKind.i64 d)]
    (58 : Nat),
  Blk.vec encStr (List.take (xs.length - (1 : Nat)) (List.drop (1 : Nat) xs)) (9 : Nat),
  Blk.vec encStr sent (9 : Nat)])))))))))))))))))))))
         (.need (inR IntKind.i64 ((↑sent.length : Int) - got))
          (.need (inR IntKind.i64 d)
           (.br (bitop BinOp.and IntKind.i64 (calls.getD i.toNat encCl.dflt).1 (1 : Int) == (0 : Int))
            (.br (decide ((1 : Int) ≤ (↑(calls.getD i.toNat encCl.dflt).2.size : Int)))
             (.br (!decide ((↑(calls.getD i.toNat encCl.dflt).2.size : Int) ≤ z))
              (.br (!strEq (calls.getD i.toNat encCl.dflt).2 { data := { toList := [] } })
               (.need (inR IntKind.i64 z)
                (.br (decide ((↑(calls.getD i.toNat encCl.dflt).2.size : Int) ≤ z))
                 (.br (!false == !(↑sent.length : Int) - got == d)
                  (.no 106)
                  (.br (decide ((↑(calls.getD i.toNat encCl.dflt).2.size : Int) ≤ z))
                   (.br ((↑sent.length : Int) - got == d)
                    (.ret (Ex.ret, [SVal.sli (0 : Nat) (NN.c (0 : Nat)) (3 : Nat) (NN.v calls.length) (some (NN.v cap)),
  SVal.bl false, SVal.int IntKind.u8 d, SVal.int IntKind.u8 z, SVal.ptr (1 : Nat) (0 : Nat),
  SVal.sli (4 : Nat) (NN.c (0 : Nat)) (1 : Nat) (NN.v sent.length) none, SVal.int IntKind.i64 got,
  SVal.int IntKind.i64 i],
                      [Blk.ro encCl calls,
  Blk.own [Seg.c (SVal.ifc (56 : Nat) (SVal.ptr (2 : Nat) (0 : Nat))), Seg.c (SVal.int IntKind.i64 z)] (62 : Nat),
  Blk.own [Seg.c (SVal.sli (3 : Nat) (NN.c (0 : Nat)) (1 : Nat) (NN.v xs.length) none), Seg.c (SVal.int IntKind.i64 d)]
    (58 : Nat),
  Blk.vec encStr xs (9 : Nat), Blk.vec encStr sent (9 : Nat)]))
                    (.need (inR IntKind.i64 (i + (1 : Int)))
                     (.ret (Ex.normal, [SVal.sli (0 : Nat) (NN.c (0 : Nat)) (3 : Nat) (NN.v calls.length)
    (some (NN.v cap)),
  SVal.bl false, SVal.int IntKind.u8 d, SVal.int IntKind.u8 z, SVal.ptr (1 : Nat) (0 : Nat),
  SVal.sli (4 : Nat) (NN.c (0 : Nat)) (1 : Nat) (NN.v sent.length) none, SVal.int IntKind.i64 got,
  SVal.int IntKind.i64 (i + (1 : Int))],
                       [Blk.ro encCl calls,
  Blk.own [Seg.c (SVal.ifc (56 : Nat) (SVal.ptr (2 : Nat) (0 : Nat))), Seg.c (SVal.int IntKind.i64 z)] (62 : Nat),
  Blk.own [Seg.c (SVal.sli (3 : Nat) (NN.c (0 : Nat)) (1 : Nat) (NN.v xs.length) none), Seg.c (SVal.int IntKind.i64 d)]
    (58 : Nat),
  Blk.vec encStr xs (9 : Nat), Blk.vec encStr sent (9 : Nat)]))))
                   (.need (inR IntKind.i64 (i + (1 : Int)))
                    (.ret (Ex.normal, [SVal.sli (0 : Nat) (NN.c (0 : Nat)) (3 : Nat) (NN.v calls.length)
    (some (NN.v cap)),
  SVal.bl false, SVal.int IntKind.u8 d, SVal.int IntKind.u8 z, SVal.ptr (1 : Nat) (0 : Nat),
  SVal.sli (4 : Nat) (NN.c (0 : Nat)) (1 : Nat) (NN.v sent.length) none, SVal.int IntKind.i64 got,
  SVal.int IntKind.i64 (i + (1 : Int))],
                      [Blk.ro encCl calls,
  Blk.own [Seg.c (SVal.ifc (56 : Nat) (SVal.ptr (2 : Nat) (0 : Nat))), Seg.c (SVal.int IntKind.i64 z)] (62 : Nat),
  Blk.own [Seg.c (SVal.sli (3 : Nat) (NN.c (0 : Nat)) (1 : Nat) (NN.v xs.length) none), Seg.c (SVal.int IntKind.i64 d)]
    (58 : Nat),
  Blk.vec encStr xs (9 : Nat), Blk.vec encStr sent (9 : Nat)])))))
                 (.br (decide ((↑(calls.getD i.toNat encCl.dflt).2.size : Int) ≤ z))
                  (.br ((↑sent.length : Int) - got == d)
                   (.ret (Ex.ret, [SVal.sli (0 : Nat) (NN.c (0 : Nat)) (3 : Nat) (NN.v calls.length) (some (NN.v cap)),
  SVal.bl false, SVal.int IntKind.u8 d, SVal.int IntKind.u8 z, SVal.ptr (1 : Nat) (0 : Nat),
  SVal.sli (4 : Nat) (NN.c (0 : Nat)) (1 : Nat) (NN.v sent.length) none, SVal.int IntKind.i64 got,
  SVal.int IntKind.i64 i],
                     [Blk.ro encCl calls,
  Blk.own [Seg.c (SVal.ifc (56 : Nat) (SVal.ptr (2 : Nat) (0 : Nat))), Seg.c (SVal.int IntKind.i64 z)] (62 : Nat),
  Blk.own [Seg.c (SVal.sli (3 : Nat) (NN.c (0 : Nat)) (1 : Nat) (NN.v xs.length) none), Seg.c (SVal.int IntKind.i64 d)]
    (58 : Nat),
  Blk.vec encStr xs (9 : Nat), Blk.vec encStr sent (9 : Nat)]))
                   (.need (inR IntKind.i64 (i + (1 : Int)))
                    (.ret (Ex.normal, [SVal.sli (0 : Nat) (NN.c (0 : Nat)) (3 : Nat) (NN.v calls.length)
    (some (NN.v cap)),
  SVal.bl false, SVal.int IntKind.u8 d, SVal.int IntKind.u8 z, SVal.ptr (1 : Nat) (0 : Nat),
  SVal.sli (4 : Nat) (NN.c (0 : Nat)) (1 : Nat) (NN.v sent.length) none, SVal.int IntKind.i64 got,
  SVal.int IntKind.i64 (i + (1 : Int))],
                      [Blk.ro encCl calls,
  Blk.own [Seg.c (SVal.ifc (56 : Nat) (SVal.ptr (2 : Nat) (0 : Nat))), Seg.c (SVal.int IntKind.i64 z)] (62 : Nat),
  Blk.own [Seg.c (SVal.sli (3 : Nat) (NN.c (0 : Nat)) (1 : Nat) (NN.v xs.length) none), Seg.c (SVal.int IntKind.i64 d)]
    (58 : Nat),
  Blk.vec encStr xs (9 : Nat), Blk.vec encStr sent (9 : Nat)]))))
                  (.need (inR IntKind.i64 (i + (1 : Int)))
                   (.ret (Ex.normal, [SVal.sli (0 : Nat) (NN.c (0 : Nat)) (3 : Nat) (NN.v calls.length)
    (some (NN.v cap)),
  SVal.bl false, SVal.int IntKind.u8 d, SVal.int IntKind.u8 z, SVal.ptr (1 : Nat) (0 : Nat),
  SVal.sli (4 : Nat) (NN.c (0 : Nat)) (1 : Nat) (NN.v sent.length) none, SVal.int IntKind.i64 got,
  SVal.int IntKind.i64 (i + (1 : Int))],
                     [Blk.ro encCl calls,
  Blk.own [Seg.c (SVal.ifc (56 : Nat) (SVal.ptr (2 : Nat) (0 : Nat))), Seg.c (SVal.int IntKind.i64 z)] (62 : Nat),
  Blk.own [Seg.c (SVal.sli (3 : Nat) (NN.c (0 : Nat)) (1 : Nat) (NN.v xs.length) none), Seg.c (SVal.int IntKind.i64 d)]
    (58 : Nat),
  Blk.vec encStr xs (9 : Nat), Blk.vec encStr sent (9 : Nat)]))))))
               (.need (inR IntKind.i64 (i + (1 : Int)))
                (.ret (Ex.normal, [SVal.sli (0 : Nat) (NN.c (0 : Nat)) (3 : Nat) (NN.v calls.length) (some (NN.v cap)),
  SVal.bl false, SVal.int IntKind.u8 d, SVal.int IntKind.u8 z, SVal.ptr (1 : Nat) (0 : Nat),
  SVal.sli (4 : Nat) (NN.c (0 : Nat)) (1 : Nat) (NN.v sent.length) none, SVal.int IntKind.i64 got,
  SVal.int IntKind.i64 (i + (1 : Int))],
                  [Blk.ro encCl calls,
  Blk.own [Seg.c (SVal.ifc (56 : Nat) (SVal.ptr (2 : Nat) (0 : Nat))), Seg.c (SVal.int IntKind.i64 z)] (62 : Nat),
  Blk.own [Seg.c (SVal.sli (3 : Nat) (NN.c (0 : Nat)) (1 : Nat) (NN.v xs.length) none), Seg.c (SVal.int IntKind.i64 d)]
    (58 : Nat),
  Blk.vec encStr xs (9 : Nat), Blk.vec encStr sent (9 : Nat)]))))
              (.br ((↑xs.length : Int) == d)
               (.br (!strEq (calls.getD i.toNat encCl.dflt).2 { data := { toList := [] } })
                (.need (inR IntKind.i64 z)
                 (.br (decide ((↑(calls.getD i.toNat encCl.dflt).2.size : Int) ≤ z))
                  (.br (!false == !(↑sent.length : Int) - got == d)
                   (.no 106)
                   (.br (decide ((↑(calls.getD i.toNat encCl.dflt).2.size : Int) ≤ z))
                    (.br ((↑sent.length : Int) - got == d)
                     (.need (inR IntKind.i64 (i + (1 : Int)))
                      (.ret (Ex.normal, [SVal.sli (0 : Nat) (NN.c (0 : Nat)) (3 : Nat) (NN.v calls.length)
    (some (NN.v cap)),
  SVal.bl false, SVal.int IntKind.u8 d, SVal.int IntKind.u8 z, SVal.ptr (1 : Nat) (0 : Nat),
  SVal.sli (4 : Nat) (NN.c (0 : Nat)) (1 : Nat) (NN.v sent.length) none, SVal.int IntKind.i64 got,
  SVal.int IntKind.i64 (i + (1 : Int))],
                        [Blk.ro encCl calls,
  Blk.own [Seg.c (SVal.ifc (56 : Nat) (SVal.ptr (2 : Nat) (0 : Nat))), Seg.c (SVal.int IntKind.i64 z)] (62 : Nat),
  Blk.own [Seg.c (SVal.sli (3 : Nat) (NN.c (0 : Nat)) (1 : Nat) (NN.v xs.length) none), Seg.c (SVal.int IntKind.i64 d)]
    (58 : Nat),
  Blk.vec encStr xs (9 : Nat), Blk.vec encStr sent (9 : Nat)])))
                     (.need (inR IntKind.i64 (i + (1 : Int)))
                      (.ret (Ex.normal, [SVal.sli (0 : Nat) (NN.c (0 : Nat)) (3 : Nat) (NN.v calls.length)
    (some (NN.v cap)),
  SVal.bl false, SVal.int IntKind.u8 d, SVal.int IntKind.u8 z, SVal.ptr (1 : Nat) (0 : Nat),
  SVal.sli (4 : Nat) (NN.c (0 : Nat)) (1 : Nat) (NN.v sent.length) none, SVal.int IntKind.i64 got,
  SVal.int IntKind.i64 (i + (1 : Int))],
                        [Blk.ro encCl calls,
  Blk.own [Seg.c (SVal.ifc (56 : Nat) (SVal.ptr (2 : Nat) (0 : Nat))), Seg.c (SVal.int IntKind.i64 z)] (62 : Nat),
  Blk.own [Seg.c (SVal.sli (3 : Nat) (NN.c (0 : Nat)) (1 : Nat) (NN.v xs.length) none), Seg.c (SVal.int IntKind.i64 d)]
    (58 : Nat),
  Blk.vec encStr xs (9 : Nat), Blk.vec encStr sent (9 : Nat)]))))
                    (.need (inR IntKind.i64 (i + (1 : Int)))
                     (.ret (Ex.normal, [SVal.sli (0 : Nat) (NN.c (0 : Nat)) (3 : Nat) (NN.v calls.length)
    (some (NN.v cap)),
  SVal.bl false, SVal.int IntKind.u8 d, SVal.int IntKind.u8 z, SVal.ptr (1 : Nat) (0 : Nat),
  SVal.sli (4 : Nat) (NN.c (0 : Nat)) (1 : Nat) (NN.v sent.length) none, SVal.int IntKind.i64 got,
  SVal.int IntKind.i64 (i + (1 : Int))],
                       [Blk.ro encCl calls,
  Blk.own [Seg.c (SVal.ifc (56 : Nat) (SVal.ptr (2 : Nat) (0 : Nat))), Seg.c (SVal.int IntKind.i64 z)] (62 : Nat),
  Blk.own [Seg.c (SVal.sli (3 : Nat) (NN.c (0 : Nat)) (1 : Nat) (NN.v xs.length) none), Seg.c (SVal.int IntKind.i64 d)]
    (58 : Nat),
  Blk.vec encStr xs (9 : Nat), Blk.vec encStr sent (9 : Nat)])))))
                  (.br (decide ((↑(calls.getD i.toNat encCl.dflt).2.size : Int) ≤ z))
                   (.br ((↑sent.length : Int) - got == d)
                    (.need (inR IntKind.i64 (i + (1 : Int)))
                     (.ret (Ex.normal, [SVal.sli (0 : Nat) (NN.c (0 : Nat)) (3 : Nat) (NN.v calls.length)
    (some (NN.v cap)),
  SVal.bl false, SVal.int IntKind.u8 d, SVal.int IntKind.u8 z, SVal.ptr (1 : Nat) (0 : Nat),
  SVal.sli (4 : Nat) (NN.c (0 : Nat)) (1 : Nat) (NN.v sent.length) none, SVal.int IntKind.i64 got,
  SVal.int IntKind.i64 (i + (1 : Int))],
                       [Blk.ro encCl calls,
  Blk.own [Seg.c (SVal.ifc (56 : Nat) (SVal.ptr (2 : Nat) (0 : Nat))), Seg.c (SVal.int IntKind.i64 z)] (62 : Nat),
  Blk.own [Seg.c (SVal.sli (3 : Nat) (NN.c (0 : Nat)) (1 : Nat) (NN.v xs.length) none), Seg.c (SVal.int IntKind.i64 d)]
    (58 : Nat),
  Blk.vec encStr xs (9 : Nat), Blk.vec encStr sent (9 : Nat)])))
                    (.need (inR IntKind.i64 (i + (1 : Int)))
                     (.ret (Ex.normal, [SVal.sli (0 : Nat) (NN.c (0 : Nat)) (3 : Nat) (NN.v calls.length)
    (some (NN.v cap)),
  SVal.bl false, SVal.int IntKind.u8 d, SVal.int IntKind.u8 z, SVal.ptr (1 : Nat) (0 : Nat),
  SVal.sli (4 : Nat) (NN.c (0 : Nat)) (1 : Nat) (NN.v sent.length) none, SVal.int IntKind.i64 got,
  SVal.int IntKind.i64 (i + (1 : Int))],
                       [Blk.ro encCl calls,
  Blk.own [Seg.c (SVal.ifc (56 : Nat) (SVal.ptr (2 : Nat) (0 : Nat))), Seg.c (SVal.int IntKind.i64 z)] (62 : Nat),
  Blk.own [Seg.c (SVal.sli (3 : Nat) (NN.c (0 : Nat)) (1 : Nat) (NN.v xs.length) none), Seg.c (SVal.int IntKind.i64 d)]
    (58 : Nat),
  Blk.vec encStr xs (9 : Nat), Blk.vec encStr sent (9 : Nat)]))))
                   (.need (inR IntKind.i64 (i + (1 : Int)))
                    (.ret (Ex.normal, [SVal.sli (0 : Nat) (NN.c (0 : Nat)) (3 : Nat) (NN.v calls.length)
    (some (NN.v cap)),
  SVal.bl false, SVal.int IntKind.u8 d, SVal.int IntKind.u8 z, SVal.ptr (1 : Nat) (0 : Nat),
  SVal.sli (4 : Nat) (NN.c (0 : Nat)) (1 : Nat) (NN.v sent.length) none, SVal.int IntKind.i64 got,
  SVal.int IntKind.i64 (i + (1 : Int))],
                      [Blk.ro encCl calls,
  Blk.own [Seg.c (SVal.ifc (56 : Nat) (SVal.ptr (2 : Nat) (0 : Nat))), Seg.c (SVal.int IntKind.i64 z)] (62 : Nat),
  Blk.own [Seg.c (SVal.sli (3 : Nat) (NN.c (0 : Nat)) (1 : Nat) (NN.v xs.length) none), Seg.c (SVal.int IntKind.i64 d)]
    (58 : Nat),
  Blk.vec encStr xs (9 : Nat), Blk.vec encStr sent (9 : Nat)]))))))
                (.need (inR IntKind.i64 (i + (1 : Int)))
                 (.ret (Ex.normal, [SVal.sli (0 : Nat) (NN.c (0 : Nat)) (3 : Nat) (NN.v calls.length) (some (NN.v cap)),
  SVal.bl false, SVal.int IntKind.u8 d, SVal.int IntKind.u8 z, SVal.ptr (1 : Nat) (0 : Nat),
  SVal.sli (4 : Nat) (NN.c (0 : Nat)) (1 : Nat) (NN.v sent.length) none, SVal.int IntKind.i64 got,
  SVal.int IntKind.i64 (i + (1 : Int))],
                   [Blk.ro encCl calls,
  Blk.own [Seg.c (SVal.ifc (56 : Nat) (SVal.ptr (2 : Nat) (0 : Nat))), Seg.c (SVal.int IntKind.i64 z)] (62 : Nat),
  Blk.own [Seg.c (SVal.sli (3 : Nat) (NN.c (0 : Nat)) (1 : Nat) (NN.v xs.length) none), Seg.c (SVal.int IntKind.i64 d)]
    (58 : Nat),
  Blk.vec encStr xs (9 : Nat), Blk.vec encStr sent (9 : Nat)]))))
               (.need (true)
                (.need (decide (xs.length = xs.length))
                 (.need (roomy (xs.length + (1 : Nat)) (16 : Nat))
                  (.br (!strEq (calls.getD i.toNat encCl.dflt).2 { data := { toList := [] } })
                   (.need (inR IntKind.i64 z)
                    (.need (true)
                     (.need (decide (sent.length = sent.length))
                      (.need (roomy (sent.length + (1 : Nat)) (16 : Nat))
                       (.br (decide ((↑(calls.getD i.toNat encCl.dflt).2.size : Int) ≤ z))
                        (.br (!true == !(↑sent.length : Int) - got == d)
                         (.no 106)
                         (.br (decide ((↑(calls.getD i.toNat encCl.dflt).2.size : Int) ≤ z))
                          (.br ((↑sent.length : Int) - got == d)
                           (.ret (Ex.ret, [SVal.sli (0 : Nat) (NN.c (0 : Nat)) (3 : Nat) (NN.v calls.length)
    (some (NN.v cap)),
  SVal.bl false, SVal.int IntKind.u8 d, SVal.int IntKind.u8 z, SVal.ptr (1 : Nat) (0 : Nat),
  SVal.sli (4 : Nat) (NN.c (0 : Nat)) (1 : Nat) (NN.v (sent.length + (1 : Nat))) none, SVal.int IntKind.i64 got,
  SVal.int IntKind.i64 i],
                             [Blk.ro encCl calls,
  Blk.own [Seg.c (SVal.ifc (56 : Nat) (SVal.ptr (2 : Nat) (0 : Nat))), Seg.c (SVal.int IntKind.i64 z)] (62 : Nat),
  Blk.own
    [Seg.c (SVal.sli (3 : Nat) (NN.c (0 : Nat)) (1 : Nat) (NN.v (xs.length + (1 : Nat))) none),
      Seg.c (SVal.int IntKind.i64 d)]
    (58 : Nat),
  Blk.vec encStr (xs ++ [(calls.getD i.toNat encCl.dflt).2]) (9 : Nat),
  Blk.vec encStr (sent ++ [(calls.getD i.toNat encCl.dflt).2]) (9 : Nat)]))
                           (.need (inR IntKind.i64 (i + (1 : Int)))
                            (.ret (Ex.normal, [SVal.sli (0 : Nat) (NN.c (0 : Nat)) (3 : Nat) (NN.v calls.length)
    (some (NN.v cap)),
  SVal.bl false, SVal.int IntKind.u8 d, SVal.int IntKind.u8 z, SVal.ptr (1 : Nat) (0 : Nat),
  SVal.sli (4 : Nat) (NN.c (0 : Nat)) (1 : Nat) (NN.v (sent.length + (1 : Nat))) none, SVal.int IntKind.i64 got,
  SVal.int IntKind.i64 (i + (1 : Int))],
                              [Blk.ro encCl calls,
  Blk.own [Seg.c (SVal.ifc (56 : Nat) (SVal.ptr (2 : Nat) (0 : Nat))), Seg.c (SVal.int IntKind.i64 z)] (62 : Nat),
  Blk.own
    [Seg.c (SVal.sli (3 : Nat) (NN.c (0 : Nat)) (1 : Nat) (NN.v (xs.length + (1 : Nat))) none),
      Seg.c (SVal.int IntKind.i64 d)]
    (58 : Nat),
  Blk.vec encStr (xs ++ [(calls.getD i.toNat encCl.dflt).2]) (9 : Nat),
  Blk.vec encStr (sent ++ [(calls.getD i.toNat encCl.dflt).2]) (9 : Nat)]))))
                          (.need (inR IntKind.i64 (i + (1 : Int)))
                           (.ret (Ex.normal, [SVal.sli (0 : Nat) (NN.c (0 : Nat)) (3 : Nat) (NN.v calls.length)
    (some (NN.v cap)),
  SVal.bl false, SVal.int IntKind.u8 d, SVal.int IntKind.u8 z, SVal.ptr (1 : Nat) (0 : Nat),
  SVal.sli (4 : Nat) (NN.c (0 : Nat)) (1 : Nat) (NN.v (sent.length + (1 : Nat))) none, SVal.int IntKind.i64 got,
  SVal.int IntKind.i64 (i + (1 : Int))],
                             [Blk.ro encCl calls,
  Blk.own [Seg.c (SVal.ifc (56 : Nat) (SVal.ptr (2 : Nat) (0 : Nat))), Seg.c (SVal.int IntKind.i64 z)] (62 : Nat),
  Blk.own
    [Seg.c (SVal.sli (3 : Nat) (NN.c (0 : Nat)) (1 : Nat) (NN.v (xs.length + (1 : Nat))) none),
      Seg.c (SVal.int IntKind.i64 d)]
    (58 : Nat),
  Blk.vec encStr (xs ++ [(calls.getD i.toNat encCl.dflt).2]) (9 : Nat),
  Blk.vec encStr (sent ++ [(calls.getD i.toNat encCl.dflt).2]) (9 : Nat)])))))
                        (.no 106))))))
                   (.need (true)
                    (.need (decide (sent.length = sent.length))
                     (.need (roomy (sent.length + (1 : Nat)) (16 : Nat))
                      (.no 106))))))))))
             (.br (!strEq (calls.getD i.toNat encCl.dflt).2 { data := { toList := [] } })
              (.need (inR IntKind.i64 z)
               (.br (decide ((↑(calls.getD i.toNat encCl.dflt).2.size : Int) ≤ z))
                (.br (!false == !(↑sent.length : Int) - got == d)
                 (.no 106)
                 (.br (decide ((↑(calls.getD i.toNat encCl.dflt).2.size : Int) ≤ z))
                  (.br ((↑sent.length : Int) - got == d)
                   (.ret (Ex.ret, [SVal.sli (0 : Nat) (NN.c (0 : Nat)) (3 : Nat) (NN.v calls.length) (some (NN.v cap)),
  SVal.bl false, SVal.int IntKind.u8 d, SVal.int IntKind.u8 z, SVal.ptr (1 : Nat) (0 : Nat),
  SVal.sli (4 : Nat) (NN.c (0 : Nat)) (1 : Nat) (NN.v sent.length) none, SVal.int IntKind.i64 got,
  SVal.int IntKind.i64 i],
                     [Blk.ro encCl calls,
  Blk.own [Seg.c (SVal.ifc (56 : Nat) (SVal.ptr (2 : Nat) (0 : Nat))), Seg.c (SVal.int IntKind.i64 z)] (62 : Nat),
  Blk.own [Seg.c (SVal.sli (3 : Nat) (NN.c (0 : Nat)) (1 : Nat) (NN.v xs.length) none), Seg.c (SVal.int IntKind.i64 d)]
    (58 : Nat),
  Blk.vec encStr xs (9 : Nat), Blk.vec encStr sent (9 : Nat)]))
                   (.need (inR IntKind.i64 (i + (1 : Int)))
                    (.ret (Ex.normal, [SVal.sli (0 : Nat) (NN.c (0 : Nat)) (3 : Nat) (NN.v calls.length)
    (some (NN.v cap)),
  SVal.bl false, SVal.int IntKind.u8 d, SVal.int IntKind.u8 z, SVal.ptr (1 : Nat) (0 : Nat),
  SVal.sli (4 : Nat) (NN.c (0 : Nat)) (1 : Nat) (NN.v sent.length) none, SVal.int IntKind.i64 got,
  SVal.int IntKind.i64 (i + (1 : Int))],
                      [Blk.ro encCl calls,
  Blk.own [Seg.c (SVal.ifc (56 : Nat) (SVal.ptr (2 : Nat) (0 : Nat))), Seg.c (SVal.int IntKind.i64 z)] (62 : Nat),
  Blk.own [Seg.c (SVal.sli (3 : Nat) (NN.c (0 : Nat)) (1 : Nat) (NN.v xs.length) none), Seg.c (SVal.int IntKind.i64 d)]
    (58 : Nat),
  Blk.vec encStr xs (9 : Nat), Blk.vec encStr sent (9 : Nat)]))))
                  (.need (inR IntKind.i64 (i + (1 : Int)))
                   (.ret (Ex.normal, [SVal.sli (0 : Nat) (NN.c (0 : Nat)) (3 : Nat) (NN.v calls.length)
    (some (NN.v cap)),
  SVal.bl false, SVal.int IntKind.u8 d, SVal.int IntKind.u8 z, SVal.ptr (1 : Nat) (0 : Nat),
  SVal.sli (4 : Nat) (NN.c (0 : Nat)) (1 : Nat) (NN.v sent.length) none, SVal.int IntKind.i64 got,
  SVal.int IntKind.i64 (i + (1 : Int))],
                     [Blk.ro encCl calls,
  Blk.own [Seg.c (SVal.ifc (56 : Nat) (SVal.ptr (2 : Nat) (0 : Nat))), Seg.c (SVal.int IntKind.i64 z)] (62 : Nat),
  Blk.own [Seg.c (SVal.sli (3 : Nat) (NN.c (0 : Nat)) (1 : Nat) (NN.v xs.length) none), Seg.c (SVal.int IntKind.i64 d)]
    (58 : Nat),
  Blk.vec encStr xs (9 : Nat), Blk.vec encStr sent (9 : Nat)])))))
                (.br (decide ((↑(calls.getD i.toNat encCl.dflt).2.size : Int) ≤ z))
                 (.br ((↑sent.length : Int) - got == d)
                  (.ret (Ex.ret, [SVal.sli (0 : Nat) (NN.c (0 : Nat)) (3 : Nat) (NN.v calls.length) (some (NN.v cap)),
  SVal.bl false, SVal.int IntKind.u8 d, SVal.int IntKind.u8 z, SVal.ptr (1 : Nat) (0 : Nat),
  SVal.sli (4 : Nat) (NN.c (0 : Nat)) (1 : Nat) (NN.v sent.length) none, SVal.int IntKind.i64 got,
  SVal.int IntKind.i64 i],
                    [Blk.ro encCl calls,
  Blk.own [Seg.c (SVal.ifc (56 : Nat) (SVal.ptr (2 : Nat) (0 : Nat))), Seg.c (SVal.int IntKind.i64 z)] (62 : Nat),
  Blk.own [Seg.c (SVal.sli (3 : Nat) (NN.c (0 : Nat)) (1 : Nat) (NN.v xs.length) none), Seg.c (SVal.int IntKind.i64 d)]
    (58 : Nat),
  Blk.vec encStr xs (9 : Nat), Blk.vec encStr sent (9 : Nat)]))
                  (.need (inR IntKind.i64 (i + (1 : Int)))
                   (.ret (Ex.normal, [SVal.sli (0 : Nat) (NN.c (0 : Nat)) (3 : Nat) (NN.v calls.length)
    (some (NN.v cap)),
  SVal.bl false, SVal.int IntKind.u8 d, SVal.int IntKind.u8 z, SVal.ptr (1 : Nat) (0 : Nat),
  SVal.sli (4 : Nat) (NN.c (0 : Nat)) (1 : Nat) (NN.v sent.length) none, SVal.int IntKind.i64 got,
  SVal.int IntKind.i64 (i + (1 : Int))],
                     [Blk.ro encCl calls,
  Blk.own [Seg.c (SVal.ifc (56 : Nat) (SVal.ptr (2 : Nat) (0 : Nat))), Seg.c (SVal.int IntKind.i64 z)] (62 : Nat),
  Blk.own [Seg.c (SVal.sli (3 : Nat) (NN.c (0 : Nat)) (1 : Nat) (NN.v xs.length) none), Seg.c (SVal.int IntKind.i64 d)]
    (58 : Nat),
  Blk.vec encStr xs (9 : Nat), Blk.vec encStr sent (9 : Nat)]))))
                 (.need (inR IntKind.i64 (i + (1 : Int)))
                  (.ret (Ex.normal, [SVal.sli (0 : Nat) (NN.c (0 : Nat)) (3 : Nat) (NN.v calls.length)
    (some (NN.v cap)),
  SVal.bl false, SVal.int IntKind.u8 d, SVal.int IntKind.u8 z, SVal.ptr (1 : Nat) (0 : Nat),
  SVal.sli (4 : Nat) (NN.c (0 : Nat)) (1 : Nat) (NN.v sent.length) none, SVal.int IntKind.i64 got,
  SVal.int IntKind.i64 (i + (1 : Int))],
                    [Blk.ro encCl calls,
  Blk.own [Seg.c (SVal.ifc (56 : Nat) (SVal.ptr (2 : Nat) (0 : Nat))), Seg.c (SVal.int IntKind.i64 z)] (62 : Nat),
  Blk.own [Seg.c (SVal.sli (3 : Nat) (NN.c (0 : Nat)) (1 : Nat) (NN.v xs.length) none), Seg.c (SVal.int IntKind.i64 d)]
    (58 : Nat),
  Blk.vec encStr xs (9 : Nat), Blk.vec encStr sent (9 : Nat)]))))))
              (.need (inR IntKind.i64 (i + (1 : Int)))
               (.ret (Ex.normal, [SVal.sli (0 : Nat) (NN.c (0 : Nat)) (3 : Nat) (NN.v calls.length) (some (NN.v cap)),
  SVal.bl false, SVal.int IntKind.u8 d, SVal.int IntKind.u8 z, SVal.ptr (1 : Nat) (0 : Nat),
  SVal.sli (4 : Nat) (NN.c (0 : Nat)) (1 : Nat) (NN.v sent.length) none, SVal.int IntKind.i64 got,
  SVal.int IntKind.i64 (i + (1 : Int))],
                 [Blk.ro encCl calls,
  Blk.own [Seg.c (SVal.ifc (56 : Nat) (SVal.ptr (2 : Nat) (0 : Nat))), Seg.c (SVal.int IntKind.i64 z)] (62 : Nat),
  Blk.own [Seg.c (SVal.sli (3 : Nat) (NN.c (0 : Nat)) (1 : Nat) (NN.v xs.length) none), Seg.c (SVal.int IntKind.i64 d)]
    (58 : Nat),
  Blk.vec encStr xs (9 : Nat), Blk.vec encStr sent (9 : Nat)])))))
            (.br ((↑xs.length : Int) == (0 : Int))
             (.br (got == (↑sent.length : Int))
              (.need (inR IntKind.i64 (i + (1 : Int)))
               (.ret (Ex.normal, [SVal.sli (0 : Nat) (NN.c (0 : Nat)) (3 : Nat) (NN.v calls.length) (some (NN.v cap)),
  SVal.bl false, SVal.int IntKind.u8 d, SVal.int IntKind.u8 z, SVal.ptr (1 : Nat) (0 : Nat),
  SVal.sli (4 : Nat) (NN.c (0 : Nat)) (1 : Nat) (NN.v sent.length) none, SVal.int IntKind.i64 got,
  SVal.int IntKind.i64 (i + (1 : Int))],
                 [Blk.ro encCl calls,
  Blk.own [Seg.c (SVal.ifc (56 : Nat) (SVal.ptr (2 : Nat) (0 : Nat))), Seg.c (SVal.int IntKind.i64 z)] (62 : Nat),
  Blk.own [Seg.c (SVal.sli (3 : Nat) (NN.c (0 : Nat)) (1 : Nat) (NN.v xs.length) none), Seg.c (SVal.int IntKind.i64 d)]
    (58 : Nat),
  Blk.vec encStr xs (9 : Nat), Blk.vec encStr sent (9 : Nat)])))
              (.ret (Ex.ret, [SVal.sli (0 : Nat) (NN.c (0 : Nat)) (3 : Nat) (NN.v calls.length) (some (NN.v cap)),
  SVal.bl false, SVal.int IntKind.u8 d, SVal.int IntKind.u8 z, SVal.ptr (1 : Nat) (0 : Nat),
  SVal.sli (4 : Nat) (NN.c (0 : Nat)) (1 : Nat) (NN.v sent.length) none, SVal.int IntKind.i64 got,
  SVal.int IntKind.i64 i],
                [Blk.ro encCl calls,
  Blk.own [Seg.c (SVal.ifc (56 : Nat) (SVal.ptr (2 : Nat) (0 : Nat))), Seg.c (SVal.int IntKind.i64 z)] (62 : Nat),
  Blk.own [Seg.c (SVal.sli (3 : Nat) (NN.c (0 : Nat)) (1 : Nat) (NN.v xs.length) none), Seg.c (SVal.int IntKind.i64 d)]
    (58 : Nat),
  Blk.vec encStr xs (9 : Nat), Blk.vec encStr sent (9 : Nat)])))
             (.need (decide ((0 : Nat) < xs.length))
              (.need (decide ((0 : Nat) < xs.length))
               (.need (decide (xs.length ≤ xs.length))
                (.need (decide ((1 : Nat) ≤ xs.length))
                 (.need (decide ((1 : Nat) + (xs.length - (1 : Nat)) ≤ xs.length))
                  (.need (decide ((1 : Nat) + (xs.length - (1 : Nat)) ≤ xs.length))
                   (.need (roomy (List.take (xs.length - (1 : Nat)) (List.drop (1 : Nat) xs)).length (16 : Nat))
                    (.br (got == (↑sent.length : Int))
                     (.ret (Ex.ret, [SVal.sli (0 : Nat) (NN.c (0 : Nat)) (3 : Nat) (NN.v calls.length)
    (some (NN.v cap)),
  SVal.bl false, SVal.int IntKind.u8 d, SVal.int IntKind.u8 z, SVal.ptr (1 : Nat) (0 : Nat),
  SVal.sli (4 : Nat) (NN.c (0 : Nat)) (1 : Nat) (NN.v sent.length) none, SVal.int IntKind.i64 got,
  SVal.int IntKind.i64 i],
                       [Blk.ro encCl calls,
  Blk.own [Seg.c (SVal.ifc (56 : Nat) (SVal.ptr (2 : Nat) (0 : Nat))), Seg.c (SVal.int IntKind.i64 z)] (62 : Nat),
  Blk.own
    [Seg.c
        (SVal.sli (3 : Nat) (NN.c (0 : Nat)) (1 : Nat)
          (NN.v (List.take (xs.length - (1 : Nat)) (List.drop (1 : Nat) xs)).length) none),
      Seg.c (SVal.int IntKind.i64 d)]
    (58 : Nat),
  Blk.vec encStr (List.take (xs.length - (1 : Nat)) (List.drop (1 : Nat) xs)) (9 : Nat),
  Blk.vec encStr sent (9 : Nat)]))
                     (.need (decide ((0 : Int) ≤ got) && decide (got.toNat < sent.length))
                      (.need (decide (got.toNat < sent.length))
                       (.br (!strEq (xs.getD (0 : Nat) { data := { toList := [] } })
    (sent.getD got.toNat { data := { toList := [] } }))
                        (.ret (Ex.ret, [SVal.sli (0 : Nat) (NN.c (0 : Nat)) (3 : Nat) (NN.v calls.length)
    (some (NN.v cap)),
  SVal.bl false, SVal.int IntKind.u8 d, SVal.int IntKind.u8 z, SVal.ptr (1 : Nat) (0 : Nat),
  SVal.sli (4 : Nat) (NN.c (0 : Nat)) (1 : Nat) (NN.v sent.length) none, SVal.int IntKind.i64 got,
  SVal.int IntKind.i64 i],
                          [Blk.ro encCl calls,
  Blk.own [Seg.c (SVal.ifc (56 : Nat) (SVal.ptr (2 : Nat) (0 : Nat))), Seg.c (SVal.int IntKind.i64 z)] (62 : Nat),
  Blk.own
    [Seg.c
        (SVal.sli (3 : Nat) (NN.c (0 : Nat)) (1 : Nat)
          (NN.v (List.take (xs.length - (1 : Nat)) (List.drop (1 : Nat) xs)).length) none),
      Seg.c (SVal.int IntKind.i64 d)]
    (58 : Nat),
  Blk.vec encStr (List.take (xs.length - (1 : Nat)) (List.drop (1 : Nat) xs)) (9 : Nat),
  Blk.vec encStr sent (9 : Nat)]))
                        (.need (inR IntKind.i64 (got + (1 : Int)))
                         (.need (inR IntKind.i64 (i + (1 : Int)))
                          (.ret (Ex.normal, [SVal.sli (0 : Nat) (NN.c (0 : Nat)) (3 : Nat) (NN.v calls.length)
    (some (NN.v cap)),
  SVal.bl false, SVal.int IntKind.u8 d, SVal.int IntKind.u8 z, SVal.ptr (1 : Nat) (0 : Nat),
  SVal.sli (4 : Nat) (NN.c (0 : Nat)) (1 : Nat) (NN.v sent.length) none, SVal.int IntKind.i64 (got + (1 : Int)),
  SVal.int IntKind.i64 (i + (1 : Int))],
                            [Blk.ro encCl calls,
  Blk.own [Seg.c (SVal.ifc (56 : Nat) (SVal.ptr (2 : Nat) (0 : Nat))), Seg.c (SVal.int IntKind.i64 z)] (62 : Nat),
  Blk.own
    [Seg.c
        (SVal.sli (3 : Nat) (NN.c (0 : Nat)) (1 : Nat)
          (NN.v (List.take (xs.length - (1 : Nat)) (List.drop (1 : Nat) xs)).length) none),
      Seg.c (SVal.int IntKind.i64 d)]
    (58 : Nat),
  Blk.vec encStr (List.take (xs.length - (1 : Nat)) (List.drop (1 : Nat) xs)) (9 : Nat),
  Blk.vec encStr sent (9 : Nat)]))))))))))))))))))))))))
    (.ret (Ex.exit
  (0 :
    Nat), [SVal.sli (0 : Nat) (NN.c (0 : Nat)) (3 : Nat) (NN.v calls.length) (some (NN.v cap)), SVal.bl false,
  SVal.int IntKind.u8 d, SVal.int IntKind.u8 z, SVal.ptr (1 : Nat) (0 : Nat),
  SVal.sli (4 : Nat) (NN.c (0 : Nat)) (1 : Nat) (NN.v sent.length) none, SVal.int IntKind.i64 got,
  SVal.int IntKind.i64 i],
      [Blk.ro encCl calls,
  Blk.own [Seg.c (SVal.ifc (56 : Nat) (SVal.ptr (2 : Nat) (0 : Nat))), Seg.c (SVal.int IntKind.i64 z)] (62 : Nat),
  Blk.own [Seg.c (SVal.sli (3 : Nat) (NN.c (0 : Nat)) (1 : Nat) (NN.v xs.length) none), Seg.c (SVal.int IntKind.i64 d)]
    (58 : Nat),
  Blk.vec encStr xs (9 : Nat), Blk.vec encStr sent (9 : Nat)])))
   (.ret (Ex.exit
  (0 :
    Nat), [SVal.sli (0 : Nat) (NN.c (0 : Nat)) (3 : Nat) (NN.v calls.length) (some (NN.v cap)), SVal.bl false,
  SVal.int IntKind.u8 d, SVal.int IntKind.u8 z, SVal.ptr (1 : Nat) (0 : Nat),
  SVal.sli (4 : Nat) (NN.c (0 : Nat)) (1 : Nat) (NN.v sent.length) none, SVal.int IntKind.i64 got,
  SVal.int IntKind.i64 i],
     [Blk.ro encCl calls,
  Blk.own [Seg.c (SVal.ifc (56 : Nat) (SVal.ptr (2 : Nat) (0 : Nat))), Seg.c (SVal.int IntKind.i64 z)] (62 : Nat),
  Blk.own [Seg.c (SVal.sli (3 : Nat) (NN.c (0 : Nat)) (1 : Nat) (NN.v xs.length) none), Seg.c (SVal.int IntKind.i64 d)]
    (58 : Nat),
  Blk.vec encStr xs (9 : Nat), Blk.vec encStr sent (9 : Nat)]))) := by kernel_rfl
end Go.Proofs.Ytdadfgeepinpbaa

/- PortOrder: its call, whatever comes in. -/
namespace Go.Proofs.Ytdadfgeepinpbaa
open Go Go.Proofs.Ytdadfgeepinpbaa.Sx
set_option linter.unusedVariables false
/-- where the loop stands -/
structure Ix3 where
  q : Option (List ByteArray)
  sent : List ByteArray
  got : Nat
  i : Nat
def Inv3 (w0 : From) (calls : List Cl) (cap : Nat) (d z : Int) (j : Ix3) (a : Act) (w : World) : Prop :=
  j.i ≤ 80 ∧ j.sent.length ≤ j.i ∧ j.got ≤ j.sent.length ∧
  match j.q with
  | none => j.sent = [] ∧ ∃ env, At [] w0 env (fr 144 n3 (v3 (callsV calls cap) d z (.sli 3 (.c 0) 1 (.v ([] : List ByteArray).length) none) (0 : Nat) (j.i : Nat))) (s3n calls d z []) a w
  | some xs => xs = j.sent.drop j.got ∧ ∃ env, At [] w0 env (fr 144 n3 (v3 (callsV calls cap) d z (.sli 4 (.c 0) 1 (.v j.sent.length) none) (j.got : Nat) (j.i : Nat))) (s3v calls d z xs j.sent) a w

theorem end3_ok {w0 : From} {calls : List Cl} {cap : Nat} {d z : Int} {j : Ix3} {a : Act} {w : World} (h : Inv3 w0 calls cap d z j a w) : end3.wp Try.prog (bodyPost Try.prog Try.f3 (Said w0)) a w := by
  obtain ⟨h1, h2, h3, h4⟩ := h
  split at h4
  · obtain ⟨h5, env, hA⟩ := h4
    refine pieceT cfg_ok [6] po_endn hA ?_
    refine all_need ?_ fun _ => all_ret fun env' a' w' hA' => ?_
    · simp [inR_i64]
    · refine (At.vals hA' [.bl true] ⟨?_, trivial⟩).said ?_
      · intro v hv; simpa [Den] using hv
      · kernel_rfl
  · rename_i xs _
    obtain ⟨h5, env, hA⟩ := h4
    refine pieceT cfg_ok [6] po_endv hA ?_
    refine all_need ?_ fun _ => all_ret fun env' a' w' hA' => ?_
    · rw [inR_i64]; omega
    · refine (At.vals hA' [.bl true] ⟨?_, trivial⟩).said ?_
      · intro v hv
        have hl : xs.length = j.sent.length - j.got := by rw [h5]; simp
        have : ((xs.length : Int) == (j.sent.length : Int) - (j.got : Int)) = true := by
          rw [beq_iff_eq]; omega
        simpa [Den, this] using hv
      · kernel_rfl
end Go.Proofs.Ytdadfgeepinpbaa

/- PortOrder: a round. -/
namespace Go.Proofs.Ytdadfgeepinpbaa
open Go Go.Proofs.Ytdadfgeepinpbaa.Sx
set_option linter.unusedVariables false
abbrev Q3 (w0 : From) : Exit → Act → World → Prop := bodyPost Try.prog Try.f3 (Said w0)
abbrev R3 (w0 : From) (calls : List Cl) (cap : Nat) (d z : Int) (j : Ix3) : Exit → Act → World → Prop :=
  Exit.then (fun a' w' => ∃ k, Inv3 w0 calls cap d z k a' w' ∧ 80 - k.i < 80 - j.i) (Exit.inBlock 0 (Exit.then (end3.wp Try.prog (Q3 w0)) (Q3 w0)))
theorem nilLeaf {w0 : From} {calls : List Cl} {cap : Nat} {d z : Int} {i : Nat} (hi : i < 80) {x : Int} (hx : x = (i : Int) + 1) {env : Env} {a : Act} {w : World}
    (hA : At [] w0 env (fr 144 n3 (v3 (callsV calls cap) d z (.sli 3 (.c 0) 1 (.v ([] : List ByteArray).length) none) (0 : Nat) x)) (s3n calls d z []) a w) : R3 w0 calls cap d z ⟨none, [], 0, i⟩ .normal a w := by
  subst hx
  exact ⟨⟨none, [], 0, i + 1⟩, ⟨by simp only; omega, by simp, by simp, rfl, env, hA⟩, by simp only; omega⟩
theorem vecLeaf {w0 : From} {calls : List Cl} {cap : Nat} {d z : Int} {j : Ix3} (k : Ix3) (hi : j.i < 80) {x y : Int} (hx : x = (k.i : Int)) (hy : y = (k.got : Int)) {env : Env} {a : Act} {w : World} {xs sent : List ByteArray}
    (hsent : k.sent = sent) (hq : k.q = some xs) (hki : k.i = j.i + 1) (hs : k.sent.length ≤ k.i) (hg : k.got ≤ k.sent.length) (hxs : xs = k.sent.drop k.got) {n m : Nat} (hn : n = k.sent.length) (hm : m = xs.length)
    (hA : At [] w0 env (fr 144 n3 (v3 (callsV calls cap) d z (.sli 4 (.c 0) 1 (.v n) none) y x))
      [.ro encCl calls, .own [.c (.ifc 56 (.ptr 2 0)), .c (.int .i64 z)] 62, .own [.c (.sli 3 (.c 0) 1 (.v m) none), .c (.int .i64 d)] 58, .vec encStr xs 9, .vec encStr sent 9] a w) : R3 w0 calls cap d z j .normal a w := by
  subst hx hy hn hm hsent
  obtain ⟨q, s, g, i⟩ := k
  simp only at hq hki hs hg hxs hA ⊢
  subst hq
  exact ⟨⟨some xs, s, g, i⟩, ⟨by simp only; omega, hs, hg, hxs, env, hA⟩, by simp only; omega⟩
theorem vecLeaf1 {w0 : From} {calls : List Cl} {cap : Nat} {d z : Int} {i : Nat} (hi : i < 80) {x : Int} (hx : x = (i : Int) + 1) {env : Env} {a : Act} {w : World} {s : ByteArray}
    (hA : At [] w0 env (fr 144 n3 (v3 (callsV calls cap) d z (.sli 4 (.c 0) 1 (.v (([] : List ByteArray).length + 1)) none) (0 : Nat) x))
      [.ro encCl calls, .own [.c (.ifc 56 (.ptr 2 0)), .c (.int .i64 z)] 62, .own [.c (.sli 3 (.c 0) 1 (.c 1) none), .c (.int .i64 d)] 58, .vec (encRow 0) [[.str s]] 9, .vec encStr ([] ++ [s]) 9] a w) : R3 w0 calls cap d z ⟨none, [], 0, i⟩ .normal a w := by
  have h1 := hA.typed 3 (E' := encStr) (ys := [s]) rfl rfl rfl rfl
  have h2 := h1.own 2 (l := [.sli 3 (.c 0) 1 (.c 1) none, .int .i64 d]) (l' := [.sli 3 (.c 0) 1 (.v [s].length) none, .int .i64 d]) rfl (fun env cs h => by simpa [DenL, Den, NN.val] using h)
  exact vecLeaf ⟨some [s], [s], 0, i + 1⟩ hi (by simpa using hx) rfl rfl rfl rfl (by simp) (by simp) rfl rfl rfl h2
theorem vecLeaf2 {w0 : From} {calls : List Cl} {cap : Nat} {d z : Int} {i got : Nat} {xs sent : List ByteArray} (hi : i < 80) (hs : sent.length ≤ i) (hg : got ≤ sent.length) (hxs : xs = sent.drop got) {x : Int} (hx : x = (i : Int) + 1) {env : Env} {a : Act} {w : World} {s : ByteArray}
    (hA : At [] w0 env (fr 144 n3 (v3 (callsV calls cap) d z (.sli 4 (.c 0) 1 (.v (sent.length + 1)) none) (got : Nat) x))
      [.ro encCl calls, .own [.c (.ifc 56 (.ptr 2 0)), .c (.int .i64 z)] 62, .own [.c (.sli 3 (.c 0) 1 (.v (xs.length + 1)) none), .c (.int .i64 d)] 58, .vec encStr (xs ++ [s]) 9, .vec encStr (sent ++ [s]) 9] a w) : R3 w0 calls cap d z ⟨some xs, sent, got, i⟩ .normal a w :=
  vecLeaf ⟨some (xs ++ [s]), sent ++ [s], got, i + 1⟩ hi (by simpa using hx) rfl rfl rfl rfl (by simp; omega) (by simp; omega) (by simp only [hxs]; rw [List.drop_append_of_le_length hg]) (by simp) (by simp) hA
theorem exitLeaf {w0 : From} {calls : List Cl} {cap : Nat} {d z : Int} {j : Ix3} {a : Act} {w : World} (h : Inv3 w0 calls cap d z j a w) : R3 w0 calls cap d z j (.exit 0) a w := by
  simp only [R3, Exit.then, Exit.inBlock, if_true]
  exact end3_ok h
set_option maxHeartbeats 4000000 in
theorem round_n {w0 : From} {calls : List Cl} {cap : Nat} {d z : Int} (hd : 1 ≤ d) (hd' : d ≤ 16) (hz : 1 ≤ z) (hz' : z ≤ 32) {i : Nat} (hi : i ≤ 80) {env : Env} {a : Act} {w : World}
    (hA : At [] w0 env (fr 144 n3 (v3 (callsV calls cap) d z (.sli 3 (.c 0) 1 (.v ([] : List ByteArray).length) none) (0 : Nat) (i : Nat))) (s3n calls d z []) a w) :
    round3.wp Try.prog (R3 w0 calls cap d z ⟨none, [], 0, i⟩) a w := by
  refine pieceT cfg_ok n3 po_rn hA ?_
  repeat' (first
    | refine all_brp (by simp only [decide_eq_true_eq, decide_eq_false_iff_not, Bool.not_eq_true', Bool.not_eq_false', beq_iff_eq, strEq_nil, List.length_nil, beq_eq_false_iff_ne, ne_eq, Bool.true_eq, Bool.false_eq]; exact Iff.rfl) (fun _ => ?_) (fun _ => ?_)
    | refine all_needp (by simp only [decide_eq_true_eq, Bool.and_eq_true, inR_i64, roomy_iff, List.length_nil]; exact Iff.rfl) ?_ (fun _ => ?_)
    | refine all_br (fun _ => ?_) (fun _ => ?_)
    | refine all_ret (fun _ _ _ _ => ?_)
    | refine all_no ?_)
  all_goals first
    | omega
    | trivial
    | (exfalso; omega)
    | (refine (show R3 w0 calls cap d z _ .normal _ _ from nilLeaf ?_ rfl ‹_›); omega)
    | (refine (show R3 w0 calls cap d z _ (.exit 0) _ _ from exitLeaf ⟨hi, by simp, by simp, rfl, _, ‹_›⟩))
    | (refine (show R3 w0 calls cap d z _ .normal _ _ from vecLeaf1 ?_ rfl ‹_›); omega)

set_option maxHeartbeats 8000000 in
theorem round_v {w0 : From} {calls : List Cl} {cap : Nat} {d z : Int} (hd : 1 ≤ d) (hd' : d ≤ 16) (hz : 1 ≤ z) (hz' : z ≤ 32) {i got : Nat} {xs sent : List ByteArray} (hi : i ≤ 80) (hs : sent.length ≤ i) (hg : got ≤ sent.length) (hxs : xs = sent.drop got) {env : Env} {a : Act} {w : World}
    (hA : At [] w0 env (fr 144 n3 (v3 (callsV calls cap) d z (.sli 4 (.c 0) 1 (.v sent.length) none) (got : Nat) (i : Nat))) (s3v calls d z xs sent) a w) :
    round3.wp Try.prog (R3 w0 calls cap d z ⟨some xs, sent, got, i⟩) a w := by
  have hl : xs.length = sent.length - got := by rw [hxs]; simp
  have h0 : xs.getD 0 (ByteArray.mk ⟨[]⟩) = sent.getD (got : Int).toNat (ByteArray.mk ⟨[]⟩) := by rw [hxs]; simp [List.getD_eq_getElem?_getD]
  have h1 : List.take (xs.length - 1) (List.drop 1 xs) = sent.drop (got + 1) := by
    rw [List.take_of_length_le (by simp), hxs, List.drop_drop]
  refine pieceT cfg_ok n3 po_rv hA ?_
  repeat' (first
    | refine all_brp (by simp only [decide_eq_true_eq, decide_eq_false_iff_not, Bool.not_eq_true', Bool.not_eq_false', beq_iff_eq, strEq_nil, strEq_no, beq_eq_false_iff_ne, ne_eq, Bool.true_eq, Bool.false_eq]; exact Iff.rfl) (fun _ => ?_) (fun _ => ?_)
    | refine all_needp (by simp only [decide_eq_true_eq, Bool.and_eq_true, inR_i64, roomy_iff, List.length_take, List.length_drop]; exact Iff.rfl) ?_ (fun _ => ?_)
    | refine all_br (fun _ => ?_) (fun _ => ?_)
    | refine all_ret (fun _ _ _ _ => ?_)
    | refine all_no ?_)
  all_goals first
    | omega
    | trivial
    | (exfalso; omega)
    | (refine (show R3 w0 calls cap d z _ .normal _ _ from vecLeaf ⟨some xs, sent, got, i + 1⟩ ?_ rfl rfl rfl rfl rfl ?_ hg hxs rfl rfl ‹_›) <;> simp only <;> omega)
    | (refine (show R3 w0 calls cap d z _ (.exit 0) _ _ from exitLeaf ⟨hi, hs, hg, hxs, _, ‹_›⟩))
    | (refine (show R3 w0 calls cap d z _ .normal _ _ from vecLeaf2 ?_ hs hg hxs rfl ‹_›); omega)
    | (refine (show R3 w0 calls cap d z _ .normal _ _ from vecLeaf ⟨some _, sent, got + 1, i + 1⟩ ?_ rfl rfl rfl rfl rfl ?_ ?_ h1 ?_ rfl ‹_›) <;> first | rfl | (simp only; omega))
    | (exact absurd h0 (by assumption))
end Go.Proofs.Ytdadfgeepinpbaa

namespace Go.Proofs.Ytdadfgeepinpbaa
open Go Go.Proofs.Ytdadfgeepinpbaa.Sx
set_option maxRecDepth 100000 in
theorem po_nil {size depth : Int} : callF cfg 100 3 [.int .u8 size, .int .u8 depth, .snil] [] =
  (.need (true)
   (.need (decide ((0 : Int) ≤ depth.tmod (5 : Int)))
    (.need (true)
     (.br (decide (IntKind.u8.wrap ((1 : Int) + size.tmod (32 : Int)) < (1 : Int)))
      (.ret (SVal.bl false,
        [Blk.own
    [Seg.c (SVal.lit IntKind.u8 (0 : Int)), Seg.c (SVal.lit IntKind.u8 (0 : Int)),
      Seg.c (SVal.lit IntKind.u8 (1 : Int)),
      Seg.c (SVal.int IntKind.u8 (IntKind.u8.wrap ((1 : Int) + size.tmod (32 : Int)))),
      Seg.c
        (SVal.int IntKind.u8 (IntKind.u8.wrap ((1 : Int) * (2 : Int) ^ min (depth.tmod (5 : Int)).toNat (8 : Nat)))),
      Seg.c (SVal.lit IntKind.u16 (0 : Int))]
    (29 : Nat),
  Blk.own
    [Seg.c (SVal.lit IntKind.u8 (0 : Int)), Seg.c (SVal.lit IntKind.u8 (0 : Int)),
      Seg.c (SVal.lit IntKind.u8 (1 : Int)),
      Seg.c (SVal.int IntKind.u8 (IntKind.u8.wrap ((1 : Int) + size.tmod (32 : Int)))),
      Seg.c
        (SVal.int IntKind.u8 (IntKind.u8.wrap ((1 : Int) * (2 : Int) ^ min (depth.tmod (5 : Int)).toNat (8 : Nat)))),
      Seg.c (SVal.lit IntKind.u16 (0 : Int))]
    (29 : Nat)]))
      (.br (decide ((32 : Int) < IntKind.u8.wrap ((1 : Int) + size.tmod (32 : Int))))
       (.ret (SVal.bl false,
         [Blk.own
    [Seg.c (SVal.lit IntKind.u8 (0 : Int)), Seg.c (SVal.lit IntKind.u8 (0 : Int)),
      Seg.c (SVal.lit IntKind.u8 (1 : Int)),
      Seg.c (SVal.int IntKind.u8 (IntKind.u8.wrap ((1 : Int) + size.tmod (32 : Int)))),
      Seg.c
        (SVal.int IntKind.u8 (IntKind.u8.wrap ((1 : Int) * (2 : Int) ^ min (depth.tmod (5 : Int)).toNat (8 : Nat)))),
      Seg.c (SVal.lit IntKind.u16 (0 : Int))]
    (29 : Nat),
  Blk.own
    [Seg.c (SVal.lit IntKind.u8 (0 : Int)), Seg.c (SVal.lit IntKind.u8 (0 : Int)),
      Seg.c (SVal.lit IntKind.u8 (1 : Int)),
      Seg.c (SVal.int IntKind.u8 (IntKind.u8.wrap ((1 : Int) + size.tmod (32 : Int)))),
      Seg.c
        (SVal.int IntKind.u8 (IntKind.u8.wrap ((1 : Int) * (2 : Int) ^ min (depth.tmod (5 : Int)).toNat (8 : Nat)))),
      Seg.c (SVal.lit IntKind.u16 (0 : Int))]
    (29 : Nat)]))
       (.br (decide ((0 : Int) < IntKind.u8.wrap ((1 : Int) * (2 : Int) ^ min (depth.tmod (5 : Int)).toNat (8 : Nat))))
        (.br (decide
  (IntKind.u8.wrap ((1 : Int) * (2 : Int) ^ min (depth.tmod (5 : Int)).toNat (8 : Nat)) ≤ (16 : Int)))
         (.br (bitop BinOp.and IntKind.u8
    (IntKind.u8.wrap ((1 : Int) * (2 : Int) ^ min (depth.tmod (5 : Int)).toNat (8 : Nat)))
    (IntKind.u8.wrap
      (IntKind.u8.wrap ((1 : Int) * (2 : Int) ^ min (depth.tmod (5 : Int)).toNat (8 : Nat)) - (1 : Int))) ==
  (0 : Int))
          (.need (inR IntKind.i64
  (IntKind.u8.wrap ((1 : Int) * (2 : Int) ^ min (depth.tmod (5 : Int)).toNat (8 : Nat))))
           (.need (inR IntKind.i64 (IntKind.u8.wrap ((1 : Int) + size.tmod (32 : Int))))
            (.ret (SVal.bl true,
              [Blk.own
    [Seg.c (SVal.lit IntKind.u8 (0 : Int)), Seg.c (SVal.lit IntKind.u8 (0 : Int)),
      Seg.c (SVal.lit IntKind.u8 (1 : Int)),
      Seg.c (SVal.int IntKind.u8 (IntKind.u8.wrap ((1 : Int) + size.tmod (32 : Int)))),
      Seg.c
        (SVal.int IntKind.u8 (IntKind.u8.wrap ((1 : Int) * (2 : Int) ^ min (depth.tmod (5 : Int)).toNat (8 : Nat)))),
      Seg.c (SVal.lit IntKind.u16 (0 : Int))]
    (29 : Nat),
  Blk.own
    [Seg.c (SVal.lit IntKind.u8 (0 : Int)), Seg.c (SVal.lit IntKind.u8 (0 : Int)),
      Seg.c (SVal.lit IntKind.u8 (1 : Int)),
      Seg.c (SVal.int IntKind.u8 (IntKind.u8.wrap ((1 : Int) + size.tmod (32 : Int)))),
      Seg.c
        (SVal.int IntKind.u8 (IntKind.u8.wrap ((1 : Int) * (2 : Int) ^ min (depth.tmod (5 : Int)).toNat (8 : Nat)))),
      Seg.c (SVal.lit IntKind.u16 (0 : Int))]
    (29 : Nat),
  Blk.own
    [Seg.c SVal.snil,
      Seg.c
        (SVal.int IntKind.i64 (IntKind.u8.wrap ((1 : Int) * (2 : Int) ^ min (depth.tmod (5 : Int)).toNat (8 : Nat))))]
    (58 : Nat),
  Blk.own
    [Seg.c (SVal.ifc (56 : Nat) (SVal.ptr (2 : Nat) (0 : Nat))),
      Seg.c (SVal.int IntKind.i64 (IntKind.u8.wrap ((1 : Int) + size.tmod (32 : Int))))]
    (62 : Nat),
  Blk.own [] (9 : Nat)]))))
          (.ret (SVal.bl false,
            [Blk.own
    [Seg.c (SVal.lit IntKind.u8 (0 : Int)), Seg.c (SVal.lit IntKind.u8 (0 : Int)),
      Seg.c (SVal.lit IntKind.u8 (1 : Int)),
      Seg.c (SVal.int IntKind.u8 (IntKind.u8.wrap ((1 : Int) + size.tmod (32 : Int)))),
      Seg.c
        (SVal.int IntKind.u8 (IntKind.u8.wrap ((1 : Int) * (2 : Int) ^ min (depth.tmod (5 : Int)).toNat (8 : Nat)))),
      Seg.c (SVal.lit IntKind.u16 (0 : Int))]
    (29 : Nat),
  Blk.own
    [Seg.c (SVal.lit IntKind.u8 (0 : Int)), Seg.c (SVal.lit IntKind.u8 (0 : Int)),
      Seg.c (SVal.lit IntKind.u8 (1 : Int)),
      Seg.c (SVal.int IntKind.u8 (IntKind.u8.wrap ((1 : Int) + size.tmod (32 : Int)))),
      Seg.c
        (SVal.int IntKind.u8 (IntKind.u8.wrap ((1 : Int) * (2 : Int) ^ min (depth.tmod (5 : Int)).toNat (8 : Nat)))),
      Seg.c (SVal.lit IntKind.u16 (0 : Int))]
    (29 : Nat)])))
         (.ret (SVal.bl false,
           [Blk.own
    [Seg.c (SVal.lit IntKind.u8 (0 : Int)), Seg.c (SVal.lit IntKind.u8 (0 : Int)),
      Seg.c (SVal.lit IntKind.u8 (1 : Int)),
      Seg.c (SVal.int IntKind.u8 (IntKind.u8.wrap ((1 : Int) + size.tmod (32 : Int)))),
      Seg.c
        (SVal.int IntKind.u8 (IntKind.u8.wrap ((1 : Int) * (2 : Int) ^ min (depth.tmod (5 : Int)).toNat (8 : Nat)))),
      Seg.c (SVal.lit IntKind.u16 (0 : Int))]
    (29 : Nat),
  Blk.own
    [Seg.c (SVal.lit IntKind.u8 (0 : Int)), Seg.c (SVal.lit IntKind.u8 (0 : Int)),
      Seg.c (SVal.lit IntKind.u8 (1 : Int)),
      Seg.c (SVal.int IntKind.u8 (IntKind.u8.wrap ((1 : Int) + size.tmod (32 : Int)))),
      Seg.c
        (SVal.int IntKind.u8 (IntKind.u8.wrap ((1 : Int) * (2 : Int) ^ min (depth.tmod (5 : Int)).toNat (8 : Nat)))),
      Seg.c (SVal.lit IntKind.u16 (0 : Int))]
    (29 : Nat)])))
        (.ret (SVal.bl false,
          [Blk.own
    [Seg.c (SVal.lit IntKind.u8 (0 : Int)), Seg.c (SVal.lit IntKind.u8 (0 : Int)),
      Seg.c (SVal.lit IntKind.u8 (1 : Int)),
      Seg.c (SVal.int IntKind.u8 (IntKind.u8.wrap ((1 : Int) + size.tmod (32 : Int)))),
      Seg.c
        (SVal.int IntKind.u8 (IntKind.u8.wrap ((1 : Int) * (2 : Int) ^ min (depth.tmod (5 : Int)).toNat (8 : Nat)))),
      Seg.c (SVal.lit IntKind.u16 (0 : Int))]
    (29 : Nat),
  Blk.own
    [Seg.c (SVal.lit IntKind.u8 (0 : Int)), Seg.c (SVal.lit IntKind.u8 (0 : Int)),
      Seg.c (SVal.lit IntKind.u8 (1 : Int)),
      Seg.c (SVal.int IntKind.u8 (IntKind.u8.wrap ((1 : Int) + size.tmod (32 : Int)))),
      Seg.c
        (SVal.int IntKind.u8 (IntKind.u8.wrap ((1 : Int) * (2 : Int) ^ min (depth.tmod (5 : Int)).toNat (8 : Nat)))),
      Seg.c (SVal.lit IntKind.u16 (0 : Int))]
    (29 : Nat)])))))))) := by kernel_rfl
end Go.Proofs.Ytdadfgeepinpbaa

/- PortOrder, of whatever comes in: its call. -/
namespace Go.Proofs.Ytdadfgeepinpbaa
open Go Go.Proofs.Ytdadfgeepinpbaa.Sx
set_option linter.unusedVariables false
theorem z_facts {size : Int} (h : 0 ≤ size) : 1 ≤ IntKind.u8.wrap (1 + size.tmod 32) ∧ IntKind.u8.wrap (1 + size.tmod 32) ≤ 32 := by
  have h1 : size.tmod 32 = size % 32 := Int.tmod_eq_emod_of_nonneg h
  have h2 : IntKind.u8.wrap (1 + size.tmod 32) = 1 + size % 32 := by
    rw [h1]; exact wrap_inR (by rw [inR_u8]; omega)
  rw [h2]; omega
theorem d_facts {depth : Int} (h : 0 ≤ depth) : 0 ≤ depth.tmod 5 ∧ 1 ≤ IntKind.u8.wrap (1 * 2 ^ min (depth.tmod 5).toNat 8) ∧ IntKind.u8.wrap (1 * 2 ^ min (depth.tmod 5).toNat 8) ≤ 16 ∧
    bitop .and .u8 (IntKind.u8.wrap (1 * 2 ^ min (depth.tmod 5).toNat 8)) (IntKind.u8.wrap (IntKind.u8.wrap (1 * 2 ^ min (depth.tmod 5).toNat 8) - 1)) = 0 := by
  have h1 : depth.tmod 5 = depth % 5 := Int.tmod_eq_emod_of_nonneg h
  rw [h1]
  have h2 : depth % 5 = 0 ∨ depth % 5 = 1 ∨ depth % 5 = 2 ∨ depth % 5 = 3 ∨ depth % 5 = 4 := by omega
  rcases h2 with h2 | h2 | h2 | h2 | h2 <;> rw [h2] <;> decide +kernel
theorem b3_eq : Try.f3.body = some b3 := by kernel_rfl
theorem portOrder_nil {size depth : Int} (hs : 0 ≤ size) (hd : 0 ≤ depth) (w : World) : Calls Try.prog 3 ⟨[.int .u8 size, .int .u8 depth, .slice none 0 0]⟩ w (Said ⟨w, fun _ => False⟩) := by
  obtain ⟨z1, z2⟩ := z_facts hs
  obtain ⟨d0, d1, d2, d3⟩ := d_facts hd
  refine callT (c := cfg) cfg_ok (po_nil (size := size) (depth := depth)) (by kernel_rfl) (env := []) (w := w) (F := fun _ => False) (by intro p hp; cases hp) rep_none (by simp [DenL, Den]) (by rintro x ⟨id, e, b, he, _⟩; simp at he) ?_
  generalize IntKind.u8.wrap (1 + size.tmod 32) = z at *
  generalize IntKind.u8.wrap (1 * 2 ^ min (depth.tmod 5).toNat 8) = d at *
  repeat' (first
    | refine all_brp (by simp only [decide_eq_true_eq, beq_iff_eq]; exact Iff.rfl) (fun _ => ?_) (fun _ => ?_)
    | refine all_needp (by simp only [decide_eq_true_eq, inR_i64]; exact Iff.rfl) ?_ (fun _ => ?_)
    | refine all_ret (fun _ _ _ _ _ _ => ?_))
  all_goals first
    | omega
    | trivial
    | (exfalso; omega)
    | exact said_of ‹_› ‹_›
theorem portOrder_some {size depth : Int} (hs : 0 ≤ size) (hd : 0 ≤ depth) {calls : List Cl} {cap : Nat} {e : Slot} {w : World} {v : Value} (hr : Rep [e] [.ro encCl calls] w) (hv : Den [e] (callsV calls cap) v) :
    Calls Try.prog 3 ⟨[.int .u8 size, .int .u8 depth, v]⟩ w (Said ⟨w, fun _ => False⟩) := by
  obtain ⟨z1, z2⟩ := z_facts hs
  obtain ⟨d0, d1, d2, d3⟩ := d_facts hd
  refine call_begin (c := cfg) Try.func3 b3_eq (args := [.int .u8 size, .int .u8 depth, callsV calls cap]) (by intro p hp; cases hp) hr ⟨_, _, rfl, rfl, _, _, rfl, rfl, _, _, rfl, hv, rfl⟩ (F := fun _ => False) ?_ ?_
  · rintro x ⟨id, e, b, he, hb, hx⟩
    match id with
    | 0 => simp at hb; subst hb; cases hx
    | n + 1 => simp at hb
  intro a hA
  refine pieceNT (c := cfg) cfg_ok 7 [2, 6, 7, 8, 9, 11, 12] po_pre hA ?_
  generalize IntKind.u8.wrap (1 + size.tmod 32) = z at *
  generalize IntKind.u8.wrap (1 * 2 ^ min (depth.tmod 5).toNat 8) = d at *
  repeat' (first
    | refine all_brp (by simp only [decide_eq_true_eq, beq_iff_eq]; exact Iff.rfl) (fun _ => ?_) (fun _ => ?_)
    | refine all_needp (by simp only [decide_eq_true_eq, inR_i64]; exact Iff.rfl) ?_ (fun _ => ?_)
    | refine all_ret (fun _ _ _ _ => ?_))
  all_goals first
    | omega
    | trivial
    | (exfalso; omega)
    | skip
  rename_i env1 a1 w1 hA1
  simp only [Ex.to, Exit.then]
  obtain ⟨env2, hA2⟩ := hA1.void 3 encStr rfl
  refine wpS (by kernel_rfl) (wpS (by kernel_rfl) ?_)
  refine pieceT (c := cfg) cfg_ok n3 (po_reg (d := d) (z := z) (got := 0) (calls := calls) (sent := []) (cap := cap)) hA2 ?_
  refine all_ret fun env3 a3 w3 hA3 => ?_
  have hA4 := hA3.vals (v3 (callsV calls cap) d z (.sli 3 (.c 0) 1 (.v ([] : List ByteArray).length) none) (0 : Nat) (0 : Nat))
    ⟨fun _ h => h, fun _ h => h, fun _ h => h, fun _ h => h, fun _ h => h, fun _ h => h, fun _ h => by simpa [Den] using h, fun _ h => by simpa [Den] using h, trivial⟩
  simp only [Ex.to, Exit.then]
  refine wpB 0 (by kernel_rfl) (wpL (by kernel_rfl) (Inv3 ⟨w, fun _ => False⟩ calls cap d z) (fun j => 80 - j.i) ⟨none, [], 0, 0⟩ ⟨by simp, by simp, by simp, rfl, env3, hA4⟩ ?_)
  rintro ⟨q, sent, got, i⟩ a w' ⟨h1, h2, h3, h4⟩
  cases q with
  | none =>
    obtain ⟨h5, env, hA⟩ := h4
    simp only at h1 h2 h3 h5 hA
    subst h5
    simp only [List.length_nil, Nat.le_zero_eq] at h3
    subst h3
    exact round_n d1 d2 z1 z2 h1 hA
  | some xs =>
    obtain ⟨h5, env, hA⟩ := h4
    exact round_v d1 d2 z1 z2 h1 h2 h3 h5 hA
end Go.Proofs.Ytdadfgeepinpbaa

/- PortOrder: the row. -/
namespace Go.Proofs.Ytdadfgeepinpbaa
open Go Go.Proofs.Ytdadfgeepinpbaa.Sx Go.ChangeShapes Go.WideShapes Go.ChangeAt Go.RowKit
set_option linter.unusedVariables false
theorem Try.own : ownKnob Try.prog.godebug = none := by kernel_rfl
theorem Try.laidOut : laidOutB Try.prog = true := by kernel_rfl
/-- an element of the calls -/
theorem open_cl {H : Type} {enc : TypeId × Value → H} {w : World} {base : Nat} {spare : Nat → Bool} {held : Bool} (n : Nat) (cs : List Value) (y : DataW H × List MemPlace) (h : DataW.trod enc Try.prog w base spare held n 35 cs = some y) :
    ∃ x : Cl, DenL [] (encCl.enc x) cs := by
  obtain ⟨xs, m, _, _, hlen, hxl, hf⟩ := DataW.trod_struct Try.underlying35 h
  have hC : Try.prog.cellsOf 35 = 3 := by kernel_rfl
  rw [hC] at hlen
  match cs, hlen with
  | [c0, c1, c2], _ =>
    match xs, hxl with
    | [y0, y1, y2], _ =>
      have f0 : DataW.trod enc Try.prog w base spare held m 3 (([c0, c1, c2].drop 0).take (Try.prog.cellsOf 3)) = some y0 := hf 0 _ rfl
      have f1 : DataW.trod enc Try.prog w base spare held m 9 (([c0, c1, c2].drop 1).take (Try.prog.cellsOf 9)) = some y1 := hf 1 _ rfl
      have f2 : DataW.trod enc Try.prog w base spare held m 33 (([c0, c1, c2].drop 2).take (Try.prog.cellsOf 33)) = some y2 := hf 2 _ rfl
      have k0 : Try.prog.cellsOf 3 = 1 := by kernel_rfl
      have k1 : Try.prog.cellsOf 9 = 1 := by kernel_rfl
      have k2 : Try.prog.cellsOf 33 = 1 := by kernel_rfl
      rw [k0] at f0
      rw [k1] at f1
      rw [k2] at f2
      obtain ⟨a, h0, _⟩ := DataW.trod_int Try.underlying3 f0
      obtain ⟨b, h1, _⟩ := DataW.trod_string Try.underlying9 f1
      obtain ⟨c, h2, _⟩ := DataW.trod_int Try.underlying33 f2
      simp at h0 h1 h2
      subst h0 h1 h2
      exact ⟨⟨a, b, c⟩, by simp [encCl, encOf, DenL, Den]⟩
set_option maxRecDepth 100000 in
theorem portOrder_lifted (os : Os) (started : os.Started) (H : Type) (enc : TypeId × Value → H) :
    ReturnsInHanded {} Try.checked os 3 .any (Rows.portOrderSpec.pre6 enc Try.prog Try.f3 Rows.portOrderRow.domain false) (Rows.portOrderSpec.post enc Try.prog Try.f3 false true false false) := by
  refine returnsInHanded_of_change (C := Try.checked) Try.own started (by kernel_rfl) Try.func3
    (ChangeSpec.witness6 (enc := enc) (C := Try.checked) false ⟨#[], #[.int .u8 0, .int .u8 0, .slice none 0 0], []⟩ 8 (by kernel_rfl) (by kernel_rfl) (by kernel_rfl) (by kernel_rfl)) ?_
  intro W base args ds gs before hval0 hW hcnd _
  have hval : ∀ (j : Nat) t v, Try.f3.params[j]? = some t → args[j]? = some v → Value.okWide Try.prog W .any base t v := hval0
  have hW' := hW
  obtain ⟨p, q, hA0, hV, rfl, hfz, hnd⟩ := hW
  have hA : DataW.TrodAll enc Try.prog W 0 (fun _ => true) true Try.f3.params.toList args.toList ds p := hA0
  rw [Try.params3] at hA hval
  obtain ⟨v0, v1, v2, d0, d1, d2, p0, p1, p2, rfl, rfl, rfl, h0, h1, h2⟩ := trodAll_three hA
  obtain ⟨rfl, rfl⟩ := trodVars_none hV
  obtain ⟨a, rfl, rfl, rfl, wa⟩ := open_int Try.underlying5 (hval 0 5 v0 rfl rfl) h0
  obtain ⟨b, rfl, rfl, rfl, wb⟩ := open_int Try.underlying5 (hval 1 5 v1 rfl rfl) h1
  clear hA0 hval0
  simp only [List.append_nil, List.nil_append] at hW'
  have hlt : ∀ x ∈ p2, x.block < W.heap.size := fun x hx => by simpa using hW'.lt x hx
  have fin : ∀ e W', Said ⟨W, fun _ => False⟩ e W' → ∃ v, e = .returned v ∧ Rows.portOrderSpec.post enc Try.prog Try.f3 false true false false W #[.int .u8 a, .int .u8 b, v2] v W' := by
    rintro e W' ⟨rfl, hsz, hk, hc⟩
    have hk' : ∀ x, x < W.heap.size → W'.heap[x]? = W.heap[x]? := fun x hx => hk x hx (fun h => h)
    refine ⟨_, rfl, _, _, _, [], _, [], hW', ⟨[], [], shut_bool Try.underlying4 true, rfl, rfl⟩, trodAll_mk3 (shut_int Try.underlying5 wa) (shut_int Try.underlying5 wb) (trod_same Try.laidOut (by kernel_rfl) (of_decide_eq_true (by kernel_rfl)) h2 hk' hlt), rfl, keptBut_of _ hc hk', fun h => by cases h⟩
  have wfa : 0 ≤ a := by simp [Lit.wf, IntKind.min, IntKind.max, IntKind.signed, IntKind.bits] at wa; omega
  have wfb : 0 ≤ b := by simp [Lit.wf, IntKind.min, IntKind.max, IntKind.signed, IntKind.bits] at wb; omega
  rcases open_rows encCl Try.underlying22 (by kernel_rfl) open_cl rfl (hval 2 22 v2 rfl rfl) h2 with rfl | ⟨xs, cap, sl, hr, hd⟩
  · exact (portOrder_nil wfa wfb W).mono fun e W' h => fin e W' h
  · exact (portOrder_some wfa wfb hr hd).mono fun e W' h => fin e W' h
theorem portOrder_holds : Rows.PortOrderSaid :=
  OpenClaim.holds_of_wide 3 Try.f3 rfl rfl rfl rfl rfl rfl rfl ⟨rfl, rfl, rfl, rfl, rfl⟩ rfl rfl rfl rfl rfl (by kernel_rfl) Try.func3 (by kernel_rfl)
    (of_decide_eq_true (by kernel_rfl)) (by unfold Func.isWrapper; first | (rw [if_pos (by decide +kernel)]; kernel_rfl) | (rw [if_neg (by decide +kernel)]; exact ⟨rfl, rfl⟩))
    (fun os started H enc _ => portOrder_lifted os started H enc)
end Go.Proofs.Ytdadfgeepinpbaa

