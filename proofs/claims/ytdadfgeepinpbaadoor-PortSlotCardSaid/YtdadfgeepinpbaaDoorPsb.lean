/- The objects of this layer: what a machine of them does. -/
import Derived.Test.YtdadfgeepinpbaaDoorSxC
import Derived.Test.YtdadfgeepinpbaaDoorRows
/- Layer 19, PortSlot: the configuration. -/
namespace Go.Proofs.YtdadfgeepinpbaaDoor
open Go Go.Proofs.YtdadfgeepinpbaaDoor.Sx
set_option linter.unusedVariables false
/-- the package's variable, as it was laid -/
def encLook : Enc Unit := encOf 2 (fun _ => [.lit .u32 4294967295, .lit .u32 0, .lit .u32 0]) () (fun _ => rfl) (by intro env env' x vs h; simpa [DenL, Den] using h)
abbrev lookB : Blk := .ro encLook [()]
noncomputable def cfg0 : Cfg := { P := Tryd.prog, ex := fun k => match k with | .i64 => true | _ => false, gl := [(0, 0)], sm := fun _ => none }
theorem cfg0_ok : SmOk cfg0 := by intro f g h; cases h
set_option maxRecDepth 100000 in
theorem awake_val : (callF cfg0 100 5 [] [lookB]).val = some (.bl true) := by kernel_rfl
noncomputable def cfg : Cfg := { P := Tryd.prog, ex := fun k => match k with | .i64 => true | _ => false, gl := [(0, 0)], sm := fun f => match f with | 5 => some (smClosed [0] [lookB] (.bl true)) | _ => none }
theorem cfg_ok : SmOk cfg := by
  intro f g h
  simp only [cfg] at h
  split at h
  · simp only [Option.some.injEq] at h; subst h
    exact smClosed_ok cfg0_ok awake_val (by kernel_rfl) rfl rfl (by intro b hb e; rw [List.mem_singleton.1 hb]; rfl)
  · cases h
end Go.Proofs.YtdadfgeepinpbaaDoor

/- Layer 19: packing a message: pieces. -/
namespace Go.Proofs.YtdadfgeepinpbaaDoor
open Go Go.Proofs.YtdadfgeepinpbaaDoor.Sx
set_option linter.unusedVariables false
noncomputable def exI : IntKind → Bool := fun k => match k with | .i64 => true | _ => false
noncomputable def cfgM : Cfg := { P := Tryd.prog, ex := exI, gl := [(0, 0)], sm := fun _ => none }
theorem cfgM_ok : SmOk cfgM := by intro f g h; cases h
noncomputable def bP : Code := Tryd.f30.body.getD .skip
noncomputable def cP : Code := restC 2 bP
noncomputable def regP : Code := lft (lft cP)
noncomputable def blkP : Code := rgt (lft cP)
noncomputable def roundP : Code := lft (lft blkP)
noncomputable def tmP : Code := lft roundP
noncomputable def bbP : Code := lft (rgt roundP)
noncomputable def incP : Code := rgt (rgt roundP)
noncomputable def endP : Code := rgt cP
abbrev sP (l : List Int) : St := [lookB, .own [.a (encInt .u32) 8 [0, 0, 0, 0, 0, 0, 0, 0]] 93, .own [.a (encInt .u32) 8 l] 93]
abbrev vP (s : ByteArray) (i : Nat) : List SVal := [.str s, .ptr 1 0, .ptr 2 0, .int .i64 (i : Nat)]
end Go.Proofs.YtdadfgeepinpbaaDoor

namespace Go.Proofs.YtdadfgeepinpbaaDoor
open Go Go.Proofs.YtdadfgeepinpbaaDoor.Sx
set_option linter.unusedVariables false
set_option maxRecDepth 100000 in
theorem p_pre {s : ByteArray} : (execN cfgM 100 2 bP ([.str s] ++ List.replicate 27 .bad) [lookB]).bind (canonK 1 [(0,0)] 28 [0, 2, 3]) =
 

 (.ret (.normal, [.str s, .ptr 1 0, .ptr 2 0], [.ro encLook [PUnit.unit], .own [.c (.lit .u32 (0 : Int)), .c (.lit .u32 (0 : Int)), .c (.lit .u32 (0 : Int)), .c (.lit .u32 (0 : Int)), .c (.lit .u32 (0 : Int)), .c (.lit .u32 (0 : Int)), .c (.lit .u32 (0 : Int)), .c (.lit .u32 (0 : Int))] 93, .own [.c (.lit .u32 (0 : Int)), .c (.lit .u32 (0 : Int)), .c (.lit .u32 (0 : Int)), .c (.lit .u32 (0 : Int)), .c (.lit .u32 (0 : Int)), .c (.lit .u32 (0 : Int)), .c (.lit .u32 (0 : Int)), .c (.lit .u32 (0 : Int))] 93])) := by kernel_rfl
set_option maxRecDepth 100000 in
theorem p_reg {s : ByteArray} {l : List Int} : (exec cfgM 100 regP (fr 28 [0, 2, 3] [.str s, .ptr 1 0, .ptr 2 0]) (sP l)).bind (canonK 3 [(0,0)] 28 [0, 2, 3, 4]) =
 

 (.ret (.normal, [.str s, .ptr 1 0, .ptr 2 0, .lit .i64 (0 : Int)], [.ro encLook [PUnit.unit], .own [.a (encInt IntKind.u32) 8 [(0 : Int), (0 : Int), (0 : Int), (0 : Int), (0 : Int), (0 : Int), (0 : Int), (0 : Int)]] 93, .own [.a (encInt IntKind.u32) 8 l] 93])) := by kernel_rfl
set_option maxRecDepth 100000 in
theorem p_tm {s : ByteArray} {l : List Int} {i : Nat} : (exec cfgM 100 tmP (fr 28 [0, 2, 3, 4] (vP s i)) (sP l)).bind (canonK 3 [(0,0)] 28 [0, 2, 3, 4]) =
 

 (.br (decide ((↑i : Int) < (↑s.size : Int)))

 (.ret (.normal, [.str s, .ptr 1 0, .ptr 2 0, .int .i64 (↑i : Int)], [.ro encLook [PUnit.unit], .own [.a (encInt IntKind.u32) 8 [(0 : Int), (0 : Int), (0 : Int), (0 : Int), (0 : Int), (0 : Int), (0 : Int), (0 : Int)]] 93, .own [.a (encInt IntKind.u32) 8 l] 93]))

 (.ret (.exit 0, [.str s, .ptr 1 0, .ptr 2 0, .int .i64 (↑i : Int)], [.ro encLook [PUnit.unit], .own [.a (encInt IntKind.u32) 8 [(0 : Int), (0 : Int), (0 : Int), (0 : Int), (0 : Int), (0 : Int), (0 : Int), (0 : Int)]] 93, .own [.a (encInt IntKind.u32) 8 l] 93]))) := by kernel_rfl
set_option maxRecDepth 100000 in
theorem p_bb {s : ByteArray} {l : List Int} {i : Nat} : (exec cfgM 100 (lft bbP) (fr 28 [0, 2, 3, 4] (vP s i)) (sP l)).bind (canonK 3 [(0,0)] 28 [0, 2, 3, 4]) =
 

 (.need (true)

 (.need (decide ((0 : Int) ≤ IntKind.i64.wrap ((↑i : Int).tdiv (4 : Int))) && decide ((IntKind.i64.wrap ((↑i : Int).tdiv (4 : Int))).toNat < 8))

 (.need (decide ((IntKind.i64.wrap ((↑i : Int).tdiv (4 : Int))).toNat < 8))

 (.need (decide ((0 : Int) ≤ (↑i : Int)) && decide ((↑i : Int).toNat < s.size))

 (.need (inR .u32 (byteAt s (↑i : Int).toNat))

 (.need (true)

 (.need (inR .i64 ((8 : Int) * (↑i : Int).tmod (4 : Int)))

 (.need (inR .i64 ((24 : Int) - (8 : Int) * (↑i : Int).tmod (4 : Int)))

 (.need (decide ((0 : Int) ≤ IntKind.u64.wrap ((24 : Int) - (8 : Int) * (↑i : Int).tmod (4 : Int))))

 (.need (decide ((0 : Int) ≤ IntKind.i64.wrap ((↑i : Int).tdiv (4 : Int))) && decide ((IntKind.i64.wrap ((↑i : Int).tdiv (4 : Int))).toNat < 8))

 (.need (decide ((IntKind.i64.wrap ((↑i : Int).tdiv (4 : Int))).toNat < 8))
 (.eq (T.need (decide ((IntKind.i64.wrap ((↑i : Int).tdiv (4 : Int))).toNat < (8 : Nat))) (T.ret ([SVal.int IntKind.u32 (l.getD (IntKind.i64.wrap ((↑i : Int).tdiv (4 : Int))).toNat (0 : Int))].getD (0 : Nat) SVal.bad)) = T.need (decide ((IntKind.i64.wrap ((↑i : Int).tdiv (4 : Int))).toNat < (8 : Nat))) (T.ret ([SVal.int IntKind.u32 (l.getD (IntKind.i64.wrap ((↑i : Int).tdiv (4 : Int))).toNat (0 : Int))].getD (0 : Nat) SVal.bad)))

 (.ret (.normal, [.str s, .ptr 1 0, .ptr 2 0, .int .i64 (↑i : Int)], [.ro encLook [PUnit.unit], .own [.a (encInt IntKind.u32) 8 [(0 : Int), (0 : Int), (0 : Int), (0 : Int), (0 : Int), (0 : Int), (0 : Int), (0 : Int)]] 93, .own [.a (encInt IntKind.u32) 8 (l.set (IntKind.i64.wrap ((↑i : Int).tdiv (4 : Int))).toNat (bitop BinOp.or IntKind.u32 (l.getD (IntKind.i64.wrap ((↑i : Int).tdiv (4 : Int))).toNat (0 : Int)) (IntKind.u32.wrap (byteAt s (↑i : Int).toNat * (2 : Int) ^ min (IntKind.u64.wrap ((24 : Int) - (8 : Int) * (↑i : Int).tmod (4 : Int))).toNat 32))))] 93])))))))))))))) := by kernel_rfl
set_option maxRecDepth 100000 in
theorem p_inc {s : ByteArray} {l : List Int} {i : Nat} : (exec cfgM 100 incP (fr 28 [0, 2, 3, 4] (vP s i)) (sP l)).bind (canonK 3 [(0,0)] 28 [0, 2, 3, 4]) =
 

 (.need (inR .i64 ((↑i : Int) + (1 : Int)))

 (.ret (.normal, [.str s, .ptr 1 0, .ptr 2 0, .int .i64 ((↑i : Int) + (1 : Int))], [.ro encLook [PUnit.unit], .own [.a (encInt IntKind.u32) 8 [(0 : Int), (0 : Int), (0 : Int), (0 : Int), (0 : Int), (0 : Int), (0 : Int), (0 : Int)]] 93, .own [.a (encInt IntKind.u32) 8 l] 93]))) := by kernel_rfl
set_option maxRecDepth 100000 in
theorem p_end {s : ByteArray} {l : List Int} {i : Nat} : (exec cfgM 100 endP (fr 28 [0, 2, 3, 4] (vP s i)) (sP l)).bind (canonK 1 [(0,0)] 28 [2]) =
 

 (.ret (.ret, [.ptr 1 0], [.ro encLook [PUnit.unit], .own [.a (encInt IntKind.u32) 8 (((((((([(0 : Int), (0 : Int), (0 : Int), (0 : Int), (0 : Int), (0 : Int), (0 : Int), (0 : Int)].set 0 (l.getD 0 (0 : Int))).set 1 (l.getD 1 (0 : Int))).set 2 (l.getD 2 (0 : Int))).set 3 (l.getD 3 (0 : Int))).set 4 (l.getD 4 (0 : Int))).set 5 (l.getD 5 (0 : Int))).set 6 (l.getD 6 (0 : Int))).set 7 (l.getD 7 (0 : Int)))] 93])) := by kernel_rfl
end Go.Proofs.YtdadfgeepinpbaaDoor

/- Layer 19: packing a message. -/
namespace Go.Proofs.YtdadfgeepinpbaaDoor
open Go Go.Proofs.YtdadfgeepinpbaaDoor.Sx
set_option linter.unusedVariables false
abbrev u32P (x : Int) : Int := IntKind.u32.wrap x
abbrev z8 : List Int := [0, 0, 0, 0, 0, 0, 0, 0]
def packN (s : ByteArray) : Nat → List Int
  | 0 => z8
  | i + 1 => (packN s i).set (i / 4) (bitop BinOp.or IntKind.u32 ((packN s i).getD (i / 4) 0) (u32P (byteAt s i * (2 : Int) ^ (24 - 8 * (i % 4)))))
theorem packN_len (s : ByteArray) : ∀ i, (packN s i).length = 8
  | 0 => rfl
  | i + 1 => by simp only [packN, List.length_set]; exact packN_len s i
theorem bP_eq : Tryd.f30.body = some bP := by kernel_rfl
abbrev l8 (l : List Int) : List Int := [l.getD 0 0, l.getD 1 0, l.getD 2 0, l.getD 3 0, l.getD 4 0, l.getD 5 0, l.getD 6 0, l.getD 7 0]
abbrev a8 (l : List Int) : SVal := .agg [.int .u32 (l.getD 0 0), .int .u32 (l.getD 1 0), .int .u32 (l.getD 2 0), .int .u32 (l.getD 3 0), .int .u32 (l.getD 4 0), .int .u32 (l.getD 5 0), .int .u32 (l.getD 6 0), .int .u32 (l.getD 7 0)]
theorem wrap_i64 {x : Int} (h : -9223372036854775808 ≤ x ∧ x ≤ 9223372036854775807) : IntKind.i64.wrap x = x := wrap_inR (by rw [inR_i64]; omega)
theorem wrap_u64 {x : Int} (h : 0 ≤ x ∧ x ≤ 18446744073709551615) : IntKind.u64.wrap x = x := by
  unfold IntKind.wrap
  simp [IntKind.signed, IntKind.bits]
  omega
theorem byte_le (s : ByteArray) (i : Nat) : 0 ≤ byteAt s i ∧ byteAt s i ≤ 255 := by
  unfold byteAt
  have := UInt8.toNat_lt (s.data.getD i 0)
  omega
set_option maxHeartbeats 1000000 in
theorem pack_call {s : ByteArray} (h1 : s.size ≤ 32) :
    ∀ (env : Env) (w : World) (vs : List Value), GlOk cfgM.gl env → Rep env [lookB] w → DenL env [.str s] vs → Calls cfgM.P 30 ⟨vs⟩ w (Ends1 env [lookB] w (a8 (packN s s.size)) [lookB, .own [.a (encInt .u32) 8 (l8 (packN s s.size))] 93]) := by
  intro env w vs hg hr hd
  have hb0 : env.length = 1 := hr.len
  refine AtK.begin (c := cfgM) Tryd.func30 bP_eq hg hr hd fun a0 hA => ?_
  refine pieceNTK2 (c := cfgM) cfgM_ok 2 [0, 2, 3] p_pre (by omega) (by simp) hA ?_
  refine all_ret fun env1 a1 w1 hA1 => ?_
  simp only [Ex.to, Exit.then]
  have hA2 := hA1.on fun h => h.segs 1 (l' := [.a (encInt .u32) 8 z8]) rfl (by intro s hs; rw [List.mem_singleton.1 hs]; rfl) (fun cs h => by simpa [segCells, Seg.cells, encInt, DenL, Den] using h)
  have hA3 := hA2.on fun h => h.segs 2 (l' := [.a (encInt .u32) 8 z8]) rfl (by intro s hs; rw [List.mem_singleton.1 hs]; rfl) (fun cs h => by simpa [segCells, Seg.cells, encInt, DenL, Den] using h)
  refine wpS (by kernel_rfl) (wpS (by kernel_rfl) ?_)
  have hA4 : AtK env [(0, 0)] ⟨w, inFoot env [lookB]⟩ env1 (fr 28 [0, 2, 3] [.str s, .ptr 1 0, .ptr 2 0]) (sP (packN s 0)) a1 w1 := hA3
  refine pieceTK2 (c := cfgM) cfgM_ok [0, 2, 3, 4] p_reg (by omega) (by simp) hA4 ?_
  refine all_ret fun env3 a3 w3 hA3 => ?_
  simp only [Ex.to, Exit.then]
  have hA4 := hA3.on fun h => h.gvals (vP s 0) rfl
  refine wpB 0 (by kernel_rfl) (wpL (by kernel_rfl) (fun (i : Nat) a' w' => i ≤ s.size ∧ ∃ env', AtK env [(0, 0)] ⟨w, inFoot env [lookB]⟩ env' (fr 28 [0, 2, 3, 4] (vP s i)) (sP (packN s i)) a' w') (fun (i : Nat) => s.size - i) (0 : Nat) ⟨Nat.zero_le _, env3, hA4⟩ ?_)
  rintro i a' w' ⟨hi, env', hA⟩
  refine (show roundP.wp _ _ _ _ from wpS (by kernel_rfl) ?_)
  refine pieceTK2 (c := cfgM) cfgM_ok [0, 2, 3, 4] p_tm (by omega) (by simp) hA ?_
  refine all_brp (by simp only [decide_eq_true_eq]; exact Iff.rfl) (fun h1 => all_ret fun env1 a1 w1 hA1 => ?_) (fun h1 => all_ret fun env1 a1 w1 hA1 => ?_)
  · simp only [Ex.to, Exit.then]
    have hi' : i < s.size := by omega
    refine (show (rgt roundP).wp _ _ _ _ from wpS (by kernel_rfl) (wpB 1 (by kernel_rfl) ?_))
    refine (show (lft bbP).wp _ _ _ _ from ?_)
    refine pieceTK2 (c := cfgM) cfgM_ok [0, 2, 3, 4] p_bb (by omega) (by simp) hA1 ?_
    have e1 : IntKind.i64.wrap ((i : Int).tdiv 4) = ((i / 4 : Nat) : Int) := by
      rw [Int.tdiv_eq_ediv_of_nonneg (by omega), wrap_i64 (by omega)]; omega
    have e2 : (i : Int).tmod 4 = ((i % 4 : Nat) : Int) := by
      rw [Int.tmod_eq_emod_of_nonneg (by omega)]; omega
    have e3 : IntKind.u64.wrap ((24 : Int) - (8 : Int) * ((i % 4 : Nat) : Int)) = ((24 - 8 * (i % 4) : Nat) : Int) := by
      rw [wrap_u64 (by omega)]; omega
    rw [e1, e2, e3]
    have hb := byte_le s i
    have e4 : min (24 - 8 * (i % 4)) 32 = 24 - 8 * (i % 4) := by omega
    simp only [Int.toNat_natCast, e4]
    refine all_need rfl fun _ => ?_
    refine all_needq (by simp only [decide_eq_true_eq, Bool.and_eq_true]; exact Iff.rfl) (by omega) ?_
    refine all_needq (by simp only [decide_eq_true_eq]; exact Iff.rfl) (by omega) ?_
    refine all_needq (by simp only [decide_eq_true_eq, Bool.and_eq_true]; exact Iff.rfl) (by omega) ?_
    refine all_needq (by simp only [inR_u32]; exact Iff.rfl) (by omega) ?_
    refine all_need rfl fun _ => ?_
    refine all_needq (by simp only [inR_i64]; exact Iff.rfl) (by omega) ?_
    refine all_needq (by simp only [inR_i64]; exact Iff.rfl) (by omega) ?_
    refine all_needq (by simp only [decide_eq_true_eq]; exact Iff.rfl) (by omega) ?_
    refine all_needq (by simp only [decide_eq_true_eq, Bool.and_eq_true]; exact Iff.rfl) (by omega) ?_
    refine all_needq (by simp only [decide_eq_true_eq]; exact Iff.rfl) (by omega) ?_
    refine all_eq (by first | exact True.intro | rfl) ?_
    refine all_ret fun env2 a2 w2 hA2 => ?_
    simp only [Ex.to, Exit.inBlock, Exit.then]
    refine (show incP.wp _ _ _ _ from ?_)
    have hA3 : AtK env [(0, 0)] ⟨w, inFoot env [lookB]⟩ env2 (fr 28 [0, 2, 3, 4] (vP s i)) (sP (packN s (i + 1))) a2 w2 := hA2
    refine pieceTK2 (c := cfgM) cfgM_ok [0, 2, 3, 4] p_inc (by omega) (by simp) hA3 ?_
    refine all_needp (by simp only [inR_i64]; exact Iff.rfl) (by omega) fun _ => all_ret fun env4 a4 w4 hA4 => ?_
    exact ⟨i + 1, ⟨by omega, env4, hA4⟩, by omega⟩
  · have him : i = s.size := by omega
    subst him
    simp only [Ex.to, Exit.then, Exit.inBlock, if_true]
    refine (show endP.wp _ _ _ _ from ?_)
    refine pieceTK2 (c := cfgM) cfgM_ok [2] p_end (by omega) (by simp) hA1 ?_
    exact all_ret fun env4 a4 w4 hA4 => hA4.out (c := cfgM) (by kernel_rfl)
end Go.Proofs.YtdadfgeepinpbaaDoor

/- Layer 19: a message's writing is made: pieces. -/
namespace Go.Proofs.YtdadfgeepinpbaaDoor
open Go Go.Proofs.YtdadfgeepinpbaaDoor.Sx
set_option linter.unusedVariables false
noncomputable def bN : Code := Tryd.f10.body.getD .skip
/-- what comes in -/
structure PutI where
  at' : Int
  n : Int
  s : ByteArray
  tick : Int
abbrev argN (q : PutI) : List SVal := [.int .i64 q.at', .int .i64 q.n, .str q.s, .int .u32 q.tick]
noncomputable def cfgPk (s : ByteArray) : Cfg := { P := Tryd.prog, ex := exI, gl := [(0, 0)], sm := fun f => match f with
  | 30 => some (smEq [.str s] [lookB] (s.size ≤ 32) (a8 (packN s s.size)) [lookB, .own [.a (encInt .u32) 8 (l8 (packN s s.size))] 93])
  | _ => none }
theorem cfgPk_ok {s : ByteArray} : SmOk (cfgPk s) := by
  intro f g h
  simp only [cfgPk] at h
  split at h
  · simp only [Option.some.injEq] at h; subst h
    exact smEq_ok (c := cfgPk s) fun h => pack_call h
  · cases h
abbrev sN (l : List Int) : St := [lookB, .own [.a (encInt .u32) 8 l] 93]
end Go.Proofs.YtdadfgeepinpbaaDoor

namespace Go.Proofs.YtdadfgeepinpbaaDoor
open Go Go.Proofs.YtdadfgeepinpbaaDoor.Sx
set_option linter.unusedVariables false
set_option maxRecDepth 100000 in
theorem n_pre {q : PutI} : (execN cfgM 100 2 bN (argN q ++ List.replicate 49 .bad) [lookB]).bind (canonK 1 [(0,0)] 53 [0, 1, 2, 3, 8, 9]) =
 

 (.br (decide ((1 : Int) ≤ q.2))

 (.br (!decide (q.2 ≤ (32 : Int)))

 (.ret (.ret, [.int .i64 q.1, .int .i64 q.2, .str q.3, .int .u32 q.4, .pnil, .lit .i64 (130 : Int)], [.ro encLook [PUnit.unit]]))

 (.br (decide ((↑q.3.size : Int) < (1 : Int)))

 (.ret (.ret, [.int .i64 q.1, .int .i64 q.2, .str q.3, .int .u32 q.4, .pnil, .lit .i64 (130 : Int)], [.ro encLook [PUnit.unit]]))

 (.br (decide (q.2 < (↑q.3.size : Int)))

 (.ret (.ret, [.int .i64 q.1, .int .i64 q.2, .str q.3, .int .u32 q.4, .pnil, .lit .i64 (130 : Int)], [.ro encLook [PUnit.unit]]))

 (.ret (.normal, [.int .i64 q.1, .int .i64 q.2, .str q.3, .int .u32 q.4, .pnil, .lit .i64 (0 : Int)], [.ro encLook [PUnit.unit]])))))

 (.ret (.ret, [.int .i64 q.1, .int .i64 q.2, .str q.3, .int .u32 q.4, .pnil, .lit .i64 (130 : Int)], [.ro encLook [PUnit.unit]]))) := by kernel_rfl
set_option maxRecDepth 100000 in
theorem n_pack {q : PutI} : (execN (cfgPk q.s) 100 1 (restC 2 bN) (fr 53 [0, 1, 2, 3, 8, 9] (argN q ++ [.pnil, .lit .i64 0])) [lookB]).bind (canonK 1 [(0,0)] 53 [0, 1, 2, 3, 10]) =
 

 (.eq ([SVal.str q.3] = [SVal.str q.3] ∧ [Blk.ro encLook [PUnit.unit]] = [Blk.ro encLook [PUnit.unit]] ∧ q.3.size ≤ 32)

 (.ret (.normal, [.int .i64 q.1, .int .i64 q.2, .str q.3, .int .u32 q.4, .ptr 1 0], [.ro encLook [PUnit.unit], .own [.c (.int .u32 ((packN q.s q.s.size).getD 0 (0 : Int))), .c (.int .u32 ((packN q.s q.s.size).getD 1 (0 : Int))), .c (.int .u32 ((packN q.s q.s.size).getD 2 (0 : Int))), .c (.int .u32 ((packN q.s q.s.size).getD 3 (0 : Int))), .c (.int .u32 ((packN q.s q.s.size).getD 4 (0 : Int))), .c (.int .u32 ((packN q.s q.s.size).getD 5 (0 : Int))), .c (.int .u32 ((packN q.s q.s.size).getD 6 (0 : Int))), .c (.int .u32 ((packN q.s q.s.size).getD 7 (0 : Int)))] 93]))) := by kernel_rfl
set_option maxRecDepth 100000 in
theorem n_app {q : PutI} {l : List Int} : (execN cfgM 100 1 (restC 3 bN) (fr 53 [0, 1, 2, 3, 10] (argN q ++ [.ptr 1 0])) (sN l)).bind (canonK 1 [(0,0)] 53 [0, 11]) =
 

 (.need (inR .i64 (q.2 + (3 : Int)))

 (.need (true)

 (.need (decide ((0 : Int) ≤ IntKind.i64.wrap ((q.2 + (3 : Int)).tdiv (4 : Int))) && decide ((IntKind.i64.wrap ((q.2 + (3 : Int)).tdiv (4 : Int))).toNat ≤ 8))

 (.need (decide (0 ≤ (IntKind.i64.wrap ((q.2 + (3 : Int)).tdiv (4 : Int))).toNat))

 (.need (decide (0 + (IntKind.i64.wrap ((q.2 + (3 : Int)).tdiv (4 : Int))).toNat ≤ l.length))

 (.need (decide (0 + (IntKind.i64.wrap ((q.2 + (3 : Int)).tdiv (4 : Int))).toNat ≤ l.length))

 (.need (decide (0 < (List.take (IntKind.i64.wrap ((q.2 + (3 : Int)).tdiv (4 : Int))).toNat (List.drop 0 l)).length))

 (.need (roomy (2 + (List.take (IntKind.i64.wrap ((q.2 + (3 : Int)).tdiv (4 : Int))).toNat (List.drop 0 l)).length) 4)

 (.ret (.normal, [.int .i64 q.1, .sli 1 (.c 0) 1 (.v (2 + (List.take (IntKind.i64.wrap ((q.2 + (3 : Int)).tdiv (4 : Int))).toNat (List.drop 0 l)).length)) none], [.ro encLook [PUnit.unit], .vec (encInt IntKind.u32) ([q.4, IntKind.u32.wrap (↑q.3.size : Int)] ++ List.take (IntKind.i64.wrap ((q.2 + (3 : Int)).tdiv (4 : Int))).toNat (List.drop 0 l)) 35])))))))))) := by kernel_rfl
set_option maxRecDepth 100000 in
theorem n_wr {q : PutI} {V : List Int} : (exec cfgM 100 (restC 4 bN) (fr 53 [0, 11] [.int .i64 q.at', .sli 1 (.c 0) 1 (.v V.length) none]) [lookB, .vec (encInt .u32) V 35]).bind (canonK 1 [(0,0)] 53 [8, 9]) =
 

 (.br (decide ((1 : Int) ≤ (↑V.length : Int)))

 (.br (!decide ((↑V.length : Int) ≤ (32 : Int)))

 (.ret (.ret, [.pnil, .lit .i64 (100 : Int)], [.ro encLook [PUnit.unit]]))

 (.br ((↑V.length : Int) != (↑V.length : Int))

 (.ret (.ret, [.pnil, .lit .i64 (100 : Int)], [.ro encLook [PUnit.unit]]))

 (.need (decide (0 + V.length ≤ V.length))

 (.need (decide (0 + V.length ≤ V.length))

 (.need (roomy (List.take V.length (List.drop 0 V)).length 4)

 (.need (true)

 (.need (true)

 (.ret (.ret, [.ptr 1 0, .lit .i64 (0 : Int)], [.ro encLook [PUnit.unit], .own [.c (.ptr 2 0)] 46, .own [.c (.int .i64 q.1), .c (.lit .i64 (0 : Int)), .c (.lit .i64 (0 : Int)), .c (.sli 3 (.c 0) 1 (.c 1) none), .c (.lit .i64 (0 : Int))] 100, .vec (encRow 0) (renRows [0, 8, 3, 7, 5] (encRow 0) [[.sli 5 (.c 0) 1 (.v (List.take V.length (List.drop 0 V)).length) none]]) 88, .vec (encInt IntKind.u32) (List.take V.length (List.drop 0 V)) 35])))))))))

 (.ret (.ret, [.pnil, .lit .i64 (100 : Int)], [.ro encLook [PUnit.unit]]))) := by kernel_rfl
end Go.Proofs.YtdadfgeepinpbaaDoor

/- Layer 19: a message's writing is made. -/
namespace Go.Proofs.YtdadfgeepinpbaaDoor
open Go Go.Proofs.YtdadfgeepinpbaaDoor.Sx
set_option linter.unusedVariables false
/-- how many words some bytes need -/
def four (n : Int) : Nat := ((n + 3) / 4).toNat
/-- a message's words, its tick and its length ahead -/
def verP (q : PutI) : List Int := [q.tick, (q.s.size : Int)] ++ (l8 (packN q.s q.s.size)).take (four q.n)
/-- a writer -/
structure Wr where
  at' : Int
  next : Int
  phase : Int
  V : List Int
abbrev putW (k : Nat) (x : Wr) (z : Int) : St := [.own [.c (.ptr (k + 1) 0)] 46, .own [.c (.int .i64 x.at'), .c (.int .i64 x.next), .c (.int .i64 x.phase), .c (.sli (k + 2) (.c 0) 1 (.c 1) none), .c (.lit .i64 z)] 100, .vec (encRow 0) [[.sli (k + 3) (.c 0) 1 (.v x.V.length) none]] 88, .vec (encInt .u32) x.V 35]
abbrev putB (k : Nat) (x : Wr) : St := putW k x 0
structure PutOk (q : PutI) : Prop where
  n : 1 ≤ q.n ∧ q.n ≤ 32
  s : 1 ≤ q.s.size ∧ (q.s.size : Int) ≤ q.n
theorem bN_eq : Tryd.f10.body = some bN := by kernel_rfl
theorem four_le {n : Int} (h : 1 ≤ n ∧ n ≤ 32) : 1 ≤ four n ∧ four n ≤ 8 := by unfold four; omega
theorem verP_len {q : PutI} (h : PutOk q) : (verP q).length = 2 + four q.n := by
  have := four_le h.n
  simp [verP]; omega
abbrev w0P (q : PutI) : Wr := ⟨q.at', 0, 0, verP q⟩
theorem put_bad {q : PutI} (h : ¬ PutOk q) : ∀ (env : Env) (w : World) (vs : List Value), GlOk cfgM.gl env → Rep env [lookB] w → DenL env (argN q) vs → Calls cfgM.P 10 ⟨vs⟩ w (Ends1 env [lookB] w (.tup [.pnil, .lit .i64 130]) [lookB]) := by
  intro env w vs hg hr hd
  have hb0 : env.length = 1 := hr.len
  refine AtK.begin (c := cfgM) Tryd.func10 bN_eq hg hr hd fun a0 hA => ?_
  refine pieceNTK2 (c := cfgM) cfgM_ok 2 [0, 1, 2, 3, 8, 9] n_pre (by omega) (by simp) hA ?_
  have out : ∀ {env' : Env} {a' : Act} {w' : World}, AtK env [(0, 0)] ⟨w, inFoot env [lookB]⟩ env' (fr 53 [0, 1, 2, 3, 8, 9] [.int .i64 q.at', .int .i64 q.n, .str q.s, .int .u32 q.tick, .pnil, .lit .i64 130]) [lookB] a' w' →
      bodyPost Tryd.prog Tryd.f10 (Ends1 env [lookB] w (.tup [.pnil, .lit .i64 130]) [lookB]) .ret a' w' := fun h => h.out (c := cfgM) (by kernel_rfl)
  refine all_brp (by simp only [decide_eq_true_eq]; exact Iff.rfl) (fun h1 => ?_) (fun h1 => all_ret fun _ _ _ h => out h)
  refine all_brp (by simp only [Bool.not_eq_true', decide_eq_false_iff_not]; exact Iff.rfl) (fun h2 => all_ret fun _ _ _ h => out h) (fun h2 => ?_)
  refine all_brp (by simp only [decide_eq_true_eq]; exact Iff.rfl) (fun h3 => all_ret fun _ _ _ h => out h) (fun h3 => ?_)
  refine all_brp (by simp only [decide_eq_true_eq]; exact Iff.rfl) (fun h4 => all_ret fun _ _ _ h => out h) (fun h4 => ?_)
  exact absurd ⟨by omega, by omega⟩ h
set_option maxHeartbeats 1000000 in
theorem put_ok {q : PutI} (h : PutOk q) : ∀ (env : Env) (w : World) (vs : List Value), GlOk cfgM.gl env → Rep env [lookB] w → DenL env (argN q) vs → Calls cfgM.P 10 ⟨vs⟩ w (Ends1 env [lookB] w (.tup [.ptr 1 0, .lit .i64 0]) ([lookB] ++ putB 1 (w0P q))) := by
  intro env w vs hg hr hd
  obtain ⟨⟨n1, n2⟩, s1, s2⟩ := h
  have hf := four_le (n := q.n) ⟨n1, n2⟩
  have hb0 : env.length = 1 := hr.len
  refine AtK.begin (c := cfgM) Tryd.func10 bN_eq hg hr hd fun a0 hA => ?_
  refine pieceNTK2 (c := cfgM) cfgM_ok 2 [0, 1, 2, 3, 8, 9] n_pre (by omega) (by simp) hA ?_
  refine all_brp (by simp only [decide_eq_true_eq] <;> exact Iff.rfl) (fun h1 => ?_) (fun h1 => absurd n1 h1)
  refine all_brp (by simp only [Bool.not_eq_true', decide_eq_false_iff_not] <;> exact Iff.rfl) (fun h2 => absurd n2 h2) (fun h2 => ?_)
  refine all_brp (by simp only [decide_eq_true_eq]; exact Iff.rfl) (fun h3 => by exfalso; omega) (fun h3 => ?_)
  refine all_brp (by simp only [decide_eq_true_eq]; exact Iff.rfl) (fun h4 => by exfalso; omega) (fun h4 => ?_)
  refine all_ret fun env1 a1 w1 hA1 => ?_
  simp only [Ex.to, Exit.then]
  refine (show (restC 2 bN).wp Tryd.prog _ a1 w1 from ?_)
  refine pieceNTK2 (c := cfgPk q.s) cfgPk_ok 1 [0, 1, 2, 3, 10] n_pack (by omega) (by simp) hA1 ?_
  refine all_eq ⟨rfl, rfl, by omega⟩ ?_
  refine all_ret fun env2 a2 w2 hA2 => ?_
  simp only [Ex.to, Exit.then]
  have hA3 := hA2.on fun h => h.segs 1 (l' := [.a (encInt .u32) 8 (l8 (packN q.s q.s.size))]) rfl (by intro s hs; rw [List.mem_singleton.1 hs]; rfl) (fun cs h => by simpa [segCells, Seg.cells, encInt, DenL, Den] using h)
  refine (show (restC 3 bN).wp Tryd.prog _ a2 w2 from ?_)
  have hA4 : AtK env [(0, 0)] ⟨w, inFoot env [lookB]⟩ env2 (fr 53 [0, 1, 2, 3, 10] (argN q ++ [.ptr 1 0])) (sN (l8 (packN q.s q.s.size))) a2 w2 := hA3
  refine pieceNTK2 (c := cfgM) cfgM_ok 1 [0, 11] n_app (by omega) (by simp) hA4 ?_
  have hver : [q.tick, (q.s.size : Int)] ++ (l8 (packN q.s q.s.size)).take (four q.n) = verP q := rfl
  have hvl := verP_len (q := q) ⟨⟨n1, n2⟩, s1, s2⟩
  have hl8 : (l8 (packN q.s q.s.size)).length = 8 := rfl
  generalize l8 (packN q.s q.s.size) = l at *
  have e1 : (IntKind.i64.wrap ((q.n + 3).tdiv 4)).toNat = four q.n := by
    rw [Int.tdiv_eq_ediv_of_nonneg (by omega), wrap_i64 (by omega)]; rfl
  have e0 : (0 : Int) ≤ IntKind.i64.wrap ((q.n + 3).tdiv 4) := by
    rw [Int.tdiv_eq_ediv_of_nonneg (by omega), wrap_i64 (by omega)]; omega
  have e2 : u32P (q.s.size : Int) = (q.s.size : Int) := wrap_inR (by rw [inR_u32]; omega)
  have e3 : (List.take (four q.n) l).length = four q.n := by rw [List.length_take]; omega
  have e4 : IntKind.u32.wrap (q.s.size : Int) = (q.s.size : Int) := e2
  rw [e1, e4]
  simp only [List.drop_zero]
  rw [e3]
  refine all_needq (by simp only [inR_i64]; exact Iff.rfl) (by omega) ?_
  refine all_need rfl fun _ => ?_
  refine all_needq (by simp only [decide_eq_true_eq, Bool.and_eq_true]; exact Iff.rfl) (by omega) ?_
  refine all_needq (by simp only [decide_eq_true_eq]; exact Iff.rfl) (by omega) ?_
  refine all_needq (by simp only [decide_eq_true_eq]; exact Iff.rfl) (by omega) ?_
  refine all_needq (by simp only [decide_eq_true_eq]; exact Iff.rfl) (by omega) ?_
  refine all_needq (by simp only [decide_eq_true_eq]; exact Iff.rfl) (by omega) ?_
  refine all_needq (by simp only [roomy_iff]; exact Iff.rfl) (by omega) ?_
  rw [hver, ← hvl]
  refine all_ret fun env3 a3 w3 hA5 => ?_
  simp only [Ex.to, Exit.then]
  refine (show (restC 4 bN).wp Tryd.prog _ a3 w3 from ?_)
  refine pieceTK2 (c := cfgM) cfgM_ok [8, 9] (n_wr (q := q)) (by omega) (by simp) hA5 ?_
  have e5 : List.take (verP q).length (List.drop 0 (verP q)) = verP q := by simp
  rw [e5]
  refine all_brp (by simp only [decide_eq_true_eq]; exact Iff.rfl) (fun h1 => ?_) (fun h1 => by exfalso; omega)
  refine all_brp (by simp only [Bool.not_eq_true', decide_eq_false_iff_not]; exact Iff.rfl) (fun h2 => by exfalso; omega) (fun h2 => ?_)
  refine all_brp (by rw [bne_iff_ne]) (fun h3 => absurd rfl h3) (fun h3 => ?_)
  refine all_needq (by simp only [decide_eq_true_eq]; exact Iff.rfl) (by omega) ?_
  refine all_needq (by simp only [decide_eq_true_eq]; exact Iff.rfl) (by omega) ?_
  refine all_needq (by simp only [roomy_iff]; exact Iff.rfl) (by omega) ?_
  refine all_need rfl fun _ => all_need rfl fun _ => ?_
  refine all_ret fun env4 a4 w4 hA6 => ?_
  have hA7 : AtK env [(0, 0)] ⟨w, inFoot env [lookB]⟩ env4 (fr 53 [8, 9] [.ptr 1 0, .lit .i64 0]) ([lookB] ++ putB 1 (w0P q)) a4 w4 := hA6.on fun h => h.gen rfl
  exact hA7.out (c := cfgM) (by kernel_rfl)
end Go.Proofs.YtdadfgeepinpbaaDoor

/- Layer 19: a writer's step: its state. -/
namespace Go.Proofs.YtdadfgeepinpbaaDoor
open Go Go.Proofs.YtdadfgeepinpbaaDoor.Sx
set_option linter.unusedVariables false
abbrev memS (n : Nat) (l : List Int) (c : Int) : St := [lookB, .own [.a (encInt .u32) n l] 35, .own [.c (.sli 1 (.c 0) 1 (.v n) (some (.v n))), .c (.int .i64 c)] 90]
abbrev sW (n : Nat) (l : List Int) (c : Int) (x : Wr) : St := memS n l c ++ putB 3 x
/-- a reader -/
structure Rd where
  at' : Int
  n : Int
  next : Int
  phase : Int
  count : Int
  l : List Int
  got : Bool
  tries : Int
abbrev getB (k : Nat) (x : Rd) (z : Int) : St := [.own [.c (.ptr (k + 1) 0), .c (.int .i64 z)] 52, .own [.c (.int .i64 x.at'), .c (.int .i64 x.n), .c (.int .i64 x.next), .c (.int .i64 x.phase), .c (.int .u32 x.count), .a (encInt .u32) 32 x.l, .c (.sb x.got), .c (.int .i64 x.tries)] 107]
abbrev sG (n : Nat) (l : List Int) (c : Int) (x : Rd) (z : Int) : St := memS n l c ++ getB 3 x z
end Go.Proofs.YtdadfgeepinpbaaDoor

namespace Go.Proofs.YtdadfgeepinpbaaDoor
open Go Go.Proofs.YtdadfgeepinpbaaDoor.Sx
set_option linter.unusedVariables false
set_option maxRecDepth 100000 in
theorem k_w {n : Nat} {l : List Int} {c : Int} {x : Wr} : callF cfgM 100 12 [.ptr 4 0, .ptr 2 0] (sW n l c x) =
 

 (.need (decide (0 < 1))

 (.br (x.3 == (1 : Int))

 (.need (inR .i64 (x.1 + (1 : Int)))

 (.need (inR .i64 (x.1 + (1 : Int) + x.2))

 (.need (decide ((0 : Int) ≤ x.2) && decide (x.2.toNat < x.4.length))

 (.need (decide (x.2.toNat < x.4.length))

 (.br (decide (x.1 + (1 : Int) + x.2 < (0 : Int)))
 (.eq (T.ret (SVal.int IntKind.i64 x.1) = T.ret (SVal.int IntKind.i64 x.1))
 (.eq (T.ret (SVal.int IntKind.i64 x.2) = T.ret (SVal.int IntKind.i64 x.2))
 (.eq (T.ret (SVal.int IntKind.i64 x.2) = T.ret (SVal.int IntKind.i64 x.2))
 (.eq (T.need (decide (x.2.toNat < x.4.length)) (T.ret ([SVal.int IntKind.u32 (x.4.getD x.2.toNat (0 : Int))].getD (0 : Nat) SVal.bad)) = T.need (decide (x.2.toNat < x.4.length)) (T.ret ([SVal.int IntKind.u32 (x.4.getD x.2.toNat (0 : Int))].getD (0 : Nat) SVal.bad)))

 (.need (inR .i64 (x.2 + (1 : Int)))

 (.br (x.2 + (1 : Int) == (↑x.4.length : Int))

 (.ret (.bl true, [.ro encLook [PUnit.unit], .own [.a (encInt IntKind.u32) n l] 35, .own [.c (.sli 1 (.c 0) 1 (.v n) (some (.v n))), .c (.int .i64 c)] 90, .own [.c (.ptr 4 0)] 46, .own [.c (.int .i64 x.1), .c (.int .i64 (x.2 + (1 : Int))), .c (.lit .i64 (2 : Int)), .c (.sli 5 (.c 0) 1 (.c 1) none), .c (.lit .i64 (0 : Int))] 100, .vec (encRow 0) [[.sli 6 (.c 0) 1 (.v x.4.length) none]] 88, .vec (encInt IntKind.u32) x.4 35, .own [.c (.lit .u32 (0 : Int)), .c (.int .u32 (x.4.getD x.2.toNat (0 : Int))), .c (.lit .u32 (0 : Int))] 115]))

 (.ret (.bl true, [.ro encLook [PUnit.unit], .own [.a (encInt IntKind.u32) n l] 35, .own [.c (.sli 1 (.c 0) 1 (.v n) (some (.v n))), .c (.int .i64 c)] 90, .own [.c (.ptr 4 0)] 46, .own [.c (.int .i64 x.1), .c (.int .i64 (x.2 + (1 : Int))), .c (.int .i64 x.3), .c (.sli 5 (.c 0) 1 (.c 1) none), .c (.lit .i64 (0 : Int))] 100, .vec (encRow 0) [[.sli 6 (.c 0) 1 (.v x.4.length) none]] 88, .vec (encInt IntKind.u32) x.4 35, .own [.c (.lit .u32 (0 : Int)), .c (.int .u32 (x.4.getD x.2.toNat (0 : Int))), .c (.lit .u32 (0 : Int))] 115]))))))))

 (.br (decide ((↑n : Int) ≤ x.1 + (1 : Int) + x.2))
 (.eq (T.ret (SVal.int IntKind.i64 x.1) = T.ret (SVal.int IntKind.i64 x.1))
 (.eq (T.ret (SVal.int IntKind.i64 x.2) = T.ret (SVal.int IntKind.i64 x.2))
 (.eq (T.ret (SVal.int IntKind.i64 x.2) = T.ret (SVal.int IntKind.i64 x.2))
 (.eq (T.need (decide (x.2.toNat < x.4.length)) (T.ret ([SVal.int IntKind.u32 (x.4.getD x.2.toNat (0 : Int))].getD (0 : Nat) SVal.bad)) = T.need (decide (x.2.toNat < x.4.length)) (T.ret ([SVal.int IntKind.u32 (x.4.getD x.2.toNat (0 : Int))].getD (0 : Nat) SVal.bad)))

 (.need (inR .i64 (x.2 + (1 : Int)))

 (.br (x.2 + (1 : Int) == (↑x.4.length : Int))

 (.ret (.bl true, [.ro encLook [PUnit.unit], .own [.a (encInt IntKind.u32) n l] 35, .own [.c (.sli 1 (.c 0) 1 (.v n) (some (.v n))), .c (.int .i64 c)] 90, .own [.c (.ptr 4 0)] 46, .own [.c (.int .i64 x.1), .c (.int .i64 (x.2 + (1 : Int))), .c (.lit .i64 (2 : Int)), .c (.sli 5 (.c 0) 1 (.c 1) none), .c (.lit .i64 (0 : Int))] 100, .vec (encRow 0) [[.sli 6 (.c 0) 1 (.v x.4.length) none]] 88, .vec (encInt IntKind.u32) x.4 35, .own [.c (.lit .u32 (0 : Int)), .c (.int .u32 (x.4.getD x.2.toNat (0 : Int))), .c (.lit .u32 (0 : Int))] 115]))

 (.ret (.bl true, [.ro encLook [PUnit.unit], .own [.a (encInt IntKind.u32) n l] 35, .own [.c (.sli 1 (.c 0) 1 (.v n) (some (.v n))), .c (.int .i64 c)] 90, .own [.c (.ptr 4 0)] 46, .own [.c (.int .i64 x.1), .c (.int .i64 (x.2 + (1 : Int))), .c (.int .i64 x.3), .c (.sli 5 (.c 0) 1 (.c 1) none), .c (.lit .i64 (0 : Int))] 100, .vec (encRow 0) [[.sli 6 (.c 0) 1 (.v x.4.length) none]] 88, .vec (encInt IntKind.u32) x.4 35, .own [.c (.lit .u32 (0 : Int)), .c (.int .u32 (x.4.getD x.2.toNat (0 : Int))), .c (.lit .u32 (0 : Int))] 115]))))))))

 (.need (inR .i64 (c + (1 : Int)))

 (.need (decide ((0 : Int) ≤ x.1 + (1 : Int) + x.2) && decide ((x.1 + (1 : Int) + x.2).toNat < n))

 (.need (decide ((x.1 + (1 : Int) + x.2).toNat < n))

 (.need (true)

 (.need (true)

 (.need (true)

 (.need (decide ((0 : Int) ≤ x.1 + (1 : Int) + x.2) && decide ((x.1 + (1 : Int) + x.2).toNat < n))

 (.need (decide ((x.1 + (1 : Int) + x.2).toNat < n))
 (.eq (T.ret (SVal.sli (1 : Nat) (NN.c (0 : Nat)) (1 : Nat) (NN.v n) (some (NN.v n))) = T.ret (SVal.sli (1 : Nat) (NN.c (0 : Nat)) (1 : Nat) (NN.v n) (some (NN.v n))))
 (.eq (T.ret (SVal.int IntKind.u32 (x.4.getD x.2.toNat (0 : Int))) = T.ret (SVal.int IntKind.u32 (x.4.getD x.2.toNat (0 : Int))))

 (.need (decide ((0 : Int) ≤ x.1 + (1 : Int) + x.2) && decide ((x.1 + (1 : Int) + x.2).toNat < n))

 (.need (decide ((x.1 + (1 : Int) + x.2).toNat < n))

 (.need (decide ((0 : Int) ≤ x.1 + (1 : Int) + x.2) && decide ((x.1 + (1 : Int) + x.2).toNat < n))

 (.need (decide ((x.1 + (1 : Int) + x.2).toNat < n))
 (.eq (T.ret (SVal.sli (1 : Nat) (NN.c (0 : Nat)) (1 : Nat) (NN.v n) (some (NN.v n))) = T.ret (SVal.sli (1 : Nat) (NN.c (0 : Nat)) (1 : Nat) (NN.v n) (some (NN.v n))))
 (.eq (T.need (decide ((x.1 + (1 : Int) + x.2).toNat < n)) (T.ret ([SVal.int IntKind.u32 ((l.set (x.1 + (1 : Int) + x.2).toNat (bitop BinOp.or IntKind.u32 (bitop BinOp.and IntKind.u32 (l.getD (x.1 + (1 : Int) + x.2).toNat (0 : Int)) (0 : Int)) (x.4.getD x.2.toNat (0 : Int)))).getD (x.1 + (1 : Int) + x.2).toNat (0 : Int))].getD (0 : Nat) SVal.bad)) = T.need (decide ((x.1 + (1 : Int) + x.2).toNat < n)) (T.ret ([SVal.int IntKind.u32 ((l.set (x.1 + (1 : Int) + x.2).toNat (bitop BinOp.or IntKind.u32 (bitop BinOp.and IntKind.u32 (l.getD (x.1 + (1 : Int) + x.2).toNat (0 : Int)) (0 : Int)) (x.4.getD x.2.toNat (0 : Int)))).getD (x.1 + (1 : Int) + x.2).toNat (0 : Int))].getD (0 : Nat) SVal.bad)))
 (.eq (T.ret (SVal.int IntKind.i64 x.1) = T.ret (SVal.int IntKind.i64 x.1))
 (.eq (T.ret (SVal.int IntKind.i64 x.2) = T.ret (SVal.int IntKind.i64 x.2))
 (.eq (T.ret (SVal.int IntKind.i64 x.2) = T.ret (SVal.int IntKind.i64 x.2))
 (.eq (T.need (decide (x.2.toNat < x.4.length)) (T.ret ([SVal.int IntKind.u32 (x.4.getD x.2.toNat (0 : Int))].getD (0 : Nat) SVal.bad)) = T.need (decide (x.2.toNat < x.4.length)) (T.ret ([SVal.int IntKind.u32 (x.4.getD x.2.toNat (0 : Int))].getD (0 : Nat) SVal.bad)))

 (.need (inR .i64 (x.2 + (1 : Int)))

 (.br (x.2 + (1 : Int) == (↑x.4.length : Int))

 (.ret (.bl false, [.ro encLook [PUnit.unit], .own [.a (encInt IntKind.u32) n ((l.set (x.1 + (1 : Int) + x.2).toNat (bitop BinOp.or IntKind.u32 (bitop BinOp.and IntKind.u32 (l.getD (x.1 + (1 : Int) + x.2).toNat (0 : Int)) (0 : Int)) (x.4.getD x.2.toNat (0 : Int)))).set (x.1 + (1 : Int) + x.2).toNat (IntKind.u32.wrap ((l.set (x.1 + (1 : Int) + x.2).toNat (bitop BinOp.or IntKind.u32 (bitop BinOp.and IntKind.u32 (l.getD (x.1 + (1 : Int) + x.2).toNat (0 : Int)) (0 : Int)) (x.4.getD x.2.toNat (0 : Int)))).getD (x.1 + (1 : Int) + x.2).toNat (0 : Int) + (0 : Int))))] 35, .own [.c (.sli 1 (.c 0) 1 (.v n) (some (.v n))), .c (.int .i64 (c + (1 : Int)))] 90, .own [.c (.ptr 4 0)] 46, .own [.c (.int .i64 x.1), .c (.int .i64 (x.2 + (1 : Int))), .c (.lit .i64 (2 : Int)), .c (.sli 5 (.c 0) 1 (.c 1) none), .c (.lit .i64 (0 : Int))] 100, .vec (encRow 0) [[.sli 6 (.c 0) 1 (.v x.4.length) none]] 88, .vec (encInt IntKind.u32) x.4 35, .own [.c (.lit .u32 (0 : Int)), .c (.int .u32 (x.4.getD x.2.toNat (0 : Int))), .c (.lit .u32 (0 : Int))] 115]))

 (.ret (.bl false, [.ro encLook [PUnit.unit], .own [.a (encInt IntKind.u32) n ((l.set (x.1 + (1 : Int) + x.2).toNat (bitop BinOp.or IntKind.u32 (bitop BinOp.and IntKind.u32 (l.getD (x.1 + (1 : Int) + x.2).toNat (0 : Int)) (0 : Int)) (x.4.getD x.2.toNat (0 : Int)))).set (x.1 + (1 : Int) + x.2).toNat (IntKind.u32.wrap ((l.set (x.1 + (1 : Int) + x.2).toNat (bitop BinOp.or IntKind.u32 (bitop BinOp.and IntKind.u32 (l.getD (x.1 + (1 : Int) + x.2).toNat (0 : Int)) (0 : Int)) (x.4.getD x.2.toNat (0 : Int)))).getD (x.1 + (1 : Int) + x.2).toNat (0 : Int) + (0 : Int))))] 35, .own [.c (.sli 1 (.c 0) 1 (.v n) (some (.v n))), .c (.int .i64 (c + (1 : Int)))] 90, .own [.c (.ptr 4 0)] 46, .own [.c (.int .i64 x.1), .c (.int .i64 (x.2 + (1 : Int))), .c (.int .i64 x.3), .c (.sli 5 (.c 0) 1 (.c 1) none), .c (.lit .i64 (0 : Int))] 100, .vec (encRow 0) [[.sli 6 (.c 0) 1 (.v x.4.length) none]] 88, .vec (encInt IntKind.u32) x.4 35, .own [.c (.lit .u32 (0 : Int)), .c (.int .u32 (x.4.getD x.2.toNat (0 : Int))), .c (.lit .u32 (0 : Int))] 115]))))))))))))))))))))))))))))))

 (.need (true)

 (.br (decide (x.1 < (0 : Int)))

 (.need (true)

 (.need (inR .i64 ((1 : Int) - IntKind.i64.wrap (x.3.tdiv (2 : Int))))

 (.ret (.bl true, [.ro encLook [PUnit.unit], .own [.a (encInt IntKind.u32) n l] 35, .own [.c (.sli 1 (.c 0) 1 (.v n) (some (.v n))), .c (.int .i64 c)] 90, .own [.c (.ptr 4 0)] 46, .own [.c (.int .i64 x.1), .c (.lit .i64 (0 : Int)), .c (.int .i64 ((1 : Int) - IntKind.i64.wrap (x.3.tdiv (2 : Int)))), .c (.sli 5 (.c 0) 1 (.c 1) none), .c (.lit .i64 (0 : Int))] 100, .vec (encRow 0) [[.sli 6 (.c 0) 1 (.v x.4.length) none]] 88, .vec (encInt IntKind.u32) x.4 35, .own [.c (.lit .u32 (4294967295 : Int)), .c (.lit .u32 (0 : Int)), .c (.lit .u32 (1 : Int))] 115]))))

 (.br (decide ((↑n : Int) ≤ x.1))

 (.need (true)

 (.need (inR .i64 ((1 : Int) - IntKind.i64.wrap (x.3.tdiv (2 : Int))))

 (.ret (.bl true, [.ro encLook [PUnit.unit], .own [.a (encInt IntKind.u32) n l] 35, .own [.c (.sli 1 (.c 0) 1 (.v n) (some (.v n))), .c (.int .i64 c)] 90, .own [.c (.ptr 4 0)] 46, .own [.c (.int .i64 x.1), .c (.lit .i64 (0 : Int)), .c (.int .i64 ((1 : Int) - IntKind.i64.wrap (x.3.tdiv (2 : Int)))), .c (.sli 5 (.c 0) 1 (.c 1) none), .c (.lit .i64 (0 : Int))] 100, .vec (encRow 0) [[.sli 6 (.c 0) 1 (.v x.4.length) none]] 88, .vec (encInt IntKind.u32) x.4 35, .own [.c (.lit .u32 (4294967295 : Int)), .c (.lit .u32 (0 : Int)), .c (.lit .u32 (1 : Int))] 115]))))

 (.need (inR .i64 (c + (1 : Int)))

 (.need (decide ((0 : Int) ≤ x.1) && decide (x.1.toNat < n))

 (.need (decide (x.1.toNat < n))

 (.need (true)

 (.need (true)

 (.need (true)

 (.need (decide ((0 : Int) ≤ x.1) && decide (x.1.toNat < n))

 (.need (decide (x.1.toNat < n))
 (.eq (T.ret (SVal.sli (1 : Nat) (NN.c (0 : Nat)) (1 : Nat) (NN.v n) (some (NN.v n))) = T.ret (SVal.sli (1 : Nat) (NN.c (0 : Nat)) (1 : Nat) (NN.v n) (some (NN.v n))))

 (.need (decide ((0 : Int) ≤ x.1) && decide (x.1.toNat < n))

 (.need (decide (x.1.toNat < n))

 (.need (decide ((0 : Int) ≤ x.1) && decide (x.1.toNat < n))

 (.need (decide (x.1.toNat < n))
 (.eq (T.ret (SVal.sli (1 : Nat) (NN.c (0 : Nat)) (1 : Nat) (NN.v n) (some (NN.v n))) = T.ret (SVal.sli (1 : Nat) (NN.c (0 : Nat)) (1 : Nat) (NN.v n) (some (NN.v n))))
 (.eq (T.need (decide (x.1.toNat < n)) (T.ret ([SVal.int IntKind.u32 ((l.set x.1.toNat (bitop BinOp.or IntKind.u32 (bitop BinOp.and IntKind.u32 (l.getD x.1.toNat (0 : Int)) (4294967295 : Int)) (0 : Int))).getD x.1.toNat (0 : Int))].getD (0 : Nat) SVal.bad)) = T.need (decide (x.1.toNat < n)) (T.ret ([SVal.int IntKind.u32 ((l.set x.1.toNat (bitop BinOp.or IntKind.u32 (bitop BinOp.and IntKind.u32 (l.getD x.1.toNat (0 : Int)) (4294967295 : Int)) (0 : Int))).getD x.1.toNat (0 : Int))].getD (0 : Nat) SVal.bad)))

 (.br (x.3 == (2 : Int))

 (.need (true)

 (.need (inR .i64 ((1 : Int) - IntKind.i64.wrap (x.3.tdiv (2 : Int))))

 (.ret (.bl true, [.ro encLook [PUnit.unit], .own [.a (encInt IntKind.u32) n ((l.set x.1.toNat (bitop BinOp.or IntKind.u32 (bitop BinOp.and IntKind.u32 (l.getD x.1.toNat (0 : Int)) (4294967295 : Int)) (0 : Int))).set x.1.toNat (IntKind.u32.wrap ((l.set x.1.toNat (bitop BinOp.or IntKind.u32 (bitop BinOp.and IntKind.u32 (l.getD x.1.toNat (0 : Int)) (4294967295 : Int)) (0 : Int))).getD x.1.toNat (0 : Int) + (1 : Int))))] 35, .own [.c (.sli 1 (.c 0) 1 (.v n) (some (.v n))), .c (.int .i64 (c + (1 : Int)))] 90, .own [.c (.ptr 4 0)] 46, .own [.c (.int .i64 x.1), .c (.lit .i64 (0 : Int)), .c (.int .i64 ((1 : Int) - IntKind.i64.wrap (x.3.tdiv (2 : Int)))), .c (.sli 5 (.c 0) 1 (.c 1) none), .c (.lit .i64 (1 : Int))] 100, .vec (encRow 0) [[.sli 6 (.c 0) 1 (.v x.4.length) none]] 88, .vec (encInt IntKind.u32) x.4 35, .own [.c (.lit .u32 (4294967295 : Int)), .c (.lit .u32 (0 : Int)), .c (.lit .u32 (1 : Int))] 115]))))

 (.need (true)

 (.need (inR .i64 ((1 : Int) - IntKind.i64.wrap (x.3.tdiv (2 : Int))))

 (.ret (.bl false, [.ro encLook [PUnit.unit], .own [.a (encInt IntKind.u32) n ((l.set x.1.toNat (bitop BinOp.or IntKind.u32 (bitop BinOp.and IntKind.u32 (l.getD x.1.toNat (0 : Int)) (4294967295 : Int)) (0 : Int))).set x.1.toNat (IntKind.u32.wrap ((l.set x.1.toNat (bitop BinOp.or IntKind.u32 (bitop BinOp.and IntKind.u32 (l.getD x.1.toNat (0 : Int)) (4294967295 : Int)) (0 : Int))).getD x.1.toNat (0 : Int) + (1 : Int))))] 35, .own [.c (.sli 1 (.c 0) 1 (.v n) (some (.v n))), .c (.int .i64 (c + (1 : Int)))] 90, .own [.c (.ptr 4 0)] 46, .own [.c (.int .i64 x.1), .c (.lit .i64 (0 : Int)), .c (.int .i64 ((1 : Int) - IntKind.i64.wrap (x.3.tdiv (2 : Int)))), .c (.sli 5 (.c 0) 1 (.c 1) none), .c (.lit .i64 (0 : Int))] 100, .vec (encRow 0) [[.sli 6 (.c 0) 1 (.v x.4.length) none]] 88, .vec (encInt IntKind.u32) x.4 35, .own [.c (.lit .u32 (4294967295 : Int)), .c (.lit .u32 (0 : Int)), .c (.lit .u32 (1 : Int))] 115]))))))))))))))))))))))))) := by kernel_rfl
set_option maxRecDepth 100000 in
theorem k_r {n : Nat} {l : List Int} {c : Int} {x : Rd} {z : Int} : callF cfgM 100 14 [.ptr 4 0, .ptr 2 0] (sG n l c x z) =
 

 (.br (x.7)

 (.ret (.bl true, [.ro encLook [PUnit.unit], .own [.a (encInt IntKind.u32) n l] 35, .own [.c (.sli 1 (.c 0) 1 (.v n) (some (.v n))), .c (.int .i64 c)] 90, .own [.c (.ptr 4 0), .c (.int .i64 z)] 52, .own [.c (.int .i64 x.1), .c (.int .i64 x.2), .c (.int .i64 x.3), .c (.int .i64 x.4), .c (.int .u32 x.5), .a (encInt IntKind.u32) 32 x.6, .c (.sb x.7), .c (.int .i64 x.8)] 107]))

 (.br (x.4 == (1 : Int))

 (.need (inR .i64 ((1 : Int) + x.3))

 (.need (inR .i64 (x.1 + ((1 : Int) + x.3)))

 (.need (true)

 (.need (true)

 (.need (true)

 (.br (decide (x.1 + ((1 : Int) + x.3) < (0 : Int)))

 (.ret (.bl true, [.ro encLook [PUnit.unit], .own [.a (encInt IntKind.u32) n l] 35, .own [.c (.sli 1 (.c 0) 1 (.v n) (some (.v n))), .c (.int .i64 c)] 90, .own [.c (.ptr 4 0), .c (.int .i64 z)] 52, .own [.c (.int .i64 x.1), .c (.int .i64 x.2), .c (.int .i64 x.3), .c (.int .i64 x.4), .c (.int .u32 x.5), .a (encInt IntKind.u32) 32 x.6, .c (.sb x.7), .c (.int .i64 x.8)] 107, .own [.c (.lit .u32 (4294967295 : Int)), .c (.lit .u32 (0 : Int)), .c (.lit .u32 (0 : Int))] 115]))

 (.br (decide ((↑n : Int) ≤ x.1 + ((1 : Int) + x.3)))

 (.ret (.bl true, [.ro encLook [PUnit.unit], .own [.a (encInt IntKind.u32) n l] 35, .own [.c (.sli 1 (.c 0) 1 (.v n) (some (.v n))), .c (.int .i64 c)] 90, .own [.c (.ptr 4 0), .c (.int .i64 z)] 52, .own [.c (.int .i64 x.1), .c (.int .i64 x.2), .c (.int .i64 x.3), .c (.int .i64 x.4), .c (.int .u32 x.5), .a (encInt IntKind.u32) 32 x.6, .c (.sb x.7), .c (.int .i64 x.8)] 107, .own [.c (.lit .u32 (4294967295 : Int)), .c (.lit .u32 (0 : Int)), .c (.lit .u32 (0 : Int))] 115]))

 (.need (inR .i64 (c + (1 : Int)))

 (.need (decide ((0 : Int) ≤ x.1 + ((1 : Int) + x.3)) && decide ((x.1 + ((1 : Int) + x.3)).toNat < n))

 (.need (decide ((x.1 + ((1 : Int) + x.3)).toNat < n))

 (.need (true)

 (.need (true)

 (.need (true)

 (.br (x.4 == (0 : Int))

 (.need (true)

 (.br ((l.getD (x.1 + ((1 : Int) + x.3)).toNat (0 : Int)).tmod (2 : Int) == (0 : Int))

 (.need (inR .i64 (x.8 + (1 : Int)))

 (.ret (.sb x.7, [.ro encLook [PUnit.unit], .own [.a (encInt IntKind.u32) n l] 35, .own [.c (.sli 1 (.c 0) 1 (.v n) (some (.v n))), .c (.int .i64 (c + (1 : Int)))] 90, .own [.c (.ptr 4 0), .c (.int .i64 z)] 52, .own [.c (.int .i64 x.1), .c (.int .i64 x.2), .c (.lit .i64 (0 : Int)), .c (.lit .i64 (1 : Int)), .c (.int .u32 (l.getD (x.1 + ((1 : Int) + x.3)).toNat (0 : Int))), .a (encInt IntKind.u32) 32 x.6, .c (.sb x.7), .c (.int .i64 (x.8 + (1 : Int)))] 107, .own [.c (.lit .u32 (4294967295 : Int)), .c (.lit .u32 (0 : Int)), .c (.lit .u32 (0 : Int))] 115])))

 (.ret (.sb x.7, [.ro encLook [PUnit.unit], .own [.a (encInt IntKind.u32) n l] 35, .own [.c (.sli 1 (.c 0) 1 (.v n) (some (.v n))), .c (.int .i64 (c + (1 : Int)))] 90, .own [.c (.ptr 4 0), .c (.int .i64 z)] 52, .own [.c (.int .i64 x.1), .c (.int .i64 x.2), .c (.int .i64 x.3), .c (.int .i64 x.4), .c (.int .u32 x.5), .a (encInt IntKind.u32) 32 x.6, .c (.sb x.7), .c (.int .i64 x.8)] 107, .own [.c (.lit .u32 (4294967295 : Int)), .c (.lit .u32 (0 : Int)), .c (.lit .u32 (0 : Int))] 115]))))

 (.br (x.4 == (1 : Int))

 (.need (decide ((0 : Int) ≤ x.3) && decide (x.3.toNat < 32))

 (.need (decide (x.3.toNat < 32))
 (.eq (T.ret (SVal.int IntKind.i64 x.3) = T.ret (SVal.int IntKind.i64 x.3))

 (.need (inR .i64 (x.3 + (1 : Int)))

 (.br (x.3 + (1 : Int) == x.2)

 (.ret (.sb x.7, [.ro encLook [PUnit.unit], .own [.a (encInt IntKind.u32) n l] 35, .own [.c (.sli 1 (.c 0) 1 (.v n) (some (.v n))), .c (.int .i64 (c + (1 : Int)))] 90, .own [.c (.ptr 4 0), .c (.int .i64 z)] 52, .own [.c (.int .i64 x.1), .c (.int .i64 x.2), .c (.int .i64 (x.3 + (1 : Int))), .c (.lit .i64 (2 : Int)), .c (.int .u32 x.5), .a (encInt IntKind.u32) 32 (x.6.set x.3.toNat (l.getD (x.1 + ((1 : Int) + x.3)).toNat (0 : Int))), .c (.sb x.7), .c (.int .i64 x.8)] 107, .own [.c (.lit .u32 (4294967295 : Int)), .c (.lit .u32 (0 : Int)), .c (.lit .u32 (0 : Int))] 115]))

 (.ret (.sb x.7, [.ro encLook [PUnit.unit], .own [.a (encInt IntKind.u32) n l] 35, .own [.c (.sli 1 (.c 0) 1 (.v n) (some (.v n))), .c (.int .i64 (c + (1 : Int)))] 90, .own [.c (.ptr 4 0), .c (.int .i64 z)] 52, .own [.c (.int .i64 x.1), .c (.int .i64 x.2), .c (.int .i64 (x.3 + (1 : Int))), .c (.int .i64 x.4), .c (.int .u32 x.5), .a (encInt IntKind.u32) 32 (x.6.set x.3.toNat (l.getD (x.1 + ((1 : Int) + x.3)).toNat (0 : Int))), .c (.sb x.7), .c (.int .i64 x.8)] 107, .own [.c (.lit .u32 (4294967295 : Int)), .c (.lit .u32 (0 : Int)), .c (.lit .u32 (0 : Int))] 115])))))))

 (.br (x.4 == (2 : Int))

 (.ret (.sb (l.getD (x.1 + ((1 : Int) + x.3)).toNat (0 : Int) == x.5), [.ro encLook [PUnit.unit], .own [.a (encInt IntKind.u32) n l] 35, .own [.c (.sli 1 (.c 0) 1 (.v n) (some (.v n))), .c (.int .i64 (c + (1 : Int)))] 90, .own [.c (.ptr 4 0), .c (.int .i64 z)] 52, .own [.c (.int .i64 x.1), .c (.int .i64 x.2), .c (.int .i64 x.3), .c (.lit .i64 (0 : Int)), .c (.int .u32 x.5), .a (encInt IntKind.u32) 32 x.6, .c (.sb (l.getD (x.1 + ((1 : Int) + x.3)).toNat (0 : Int) == x.5)), .c (.int .i64 x.8)] 107, .own [.c (.lit .u32 (4294967295 : Int)), .c (.lit .u32 (0 : Int)), .c (.lit .u32 (0 : Int))] 115]))

 (.ret (.sb x.7, [.ro encLook [PUnit.unit], .own [.a (encInt IntKind.u32) n l] 35, .own [.c (.sli 1 (.c 0) 1 (.v n) (some (.v n))), .c (.int .i64 (c + (1 : Int)))] 90, .own [.c (.ptr 4 0), .c (.int .i64 z)] 52, .own [.c (.int .i64 x.1), .c (.int .i64 x.2), .c (.int .i64 x.3), .c (.int .i64 x.4), .c (.int .u32 x.5), .a (encInt IntKind.u32) 32 x.6, .c (.sb x.7), .c (.int .i64 x.8)] 107, .own [.c (.lit .u32 (4294967295 : Int)), .c (.lit .u32 (0 : Int)), .c (.lit .u32 (0 : Int))] 115]))))))))))))))))))

 (.need (true)

 (.need (true)

 (.need (true)

 (.br (decide (x.1 < (0 : Int)))

 (.ret (.bl true, [.ro encLook [PUnit.unit], .own [.a (encInt IntKind.u32) n l] 35, .own [.c (.sli 1 (.c 0) 1 (.v n) (some (.v n))), .c (.int .i64 c)] 90, .own [.c (.ptr 4 0), .c (.int .i64 z)] 52, .own [.c (.int .i64 x.1), .c (.int .i64 x.2), .c (.int .i64 x.3), .c (.int .i64 x.4), .c (.int .u32 x.5), .a (encInt IntKind.u32) 32 x.6, .c (.sb x.7), .c (.int .i64 x.8)] 107, .own [.c (.lit .u32 (4294967295 : Int)), .c (.lit .u32 (0 : Int)), .c (.lit .u32 (0 : Int))] 115]))

 (.br (decide ((↑n : Int) ≤ x.1))

 (.ret (.bl true, [.ro encLook [PUnit.unit], .own [.a (encInt IntKind.u32) n l] 35, .own [.c (.sli 1 (.c 0) 1 (.v n) (some (.v n))), .c (.int .i64 c)] 90, .own [.c (.ptr 4 0), .c (.int .i64 z)] 52, .own [.c (.int .i64 x.1), .c (.int .i64 x.2), .c (.int .i64 x.3), .c (.int .i64 x.4), .c (.int .u32 x.5), .a (encInt IntKind.u32) 32 x.6, .c (.sb x.7), .c (.int .i64 x.8)] 107, .own [.c (.lit .u32 (4294967295 : Int)), .c (.lit .u32 (0 : Int)), .c (.lit .u32 (0 : Int))] 115]))

 (.need (inR .i64 (c + (1 : Int)))

 (.need (decide ((0 : Int) ≤ x.1) && decide (x.1.toNat < n))

 (.need (decide (x.1.toNat < n))

 (.need (true)

 (.need (true)

 (.need (true)

 (.br (x.4 == (0 : Int))

 (.need (true)

 (.br ((l.getD x.1.toNat (0 : Int)).tmod (2 : Int) == (0 : Int))

 (.need (inR .i64 (x.8 + (1 : Int)))

 (.ret (.sb x.7, [.ro encLook [PUnit.unit], .own [.a (encInt IntKind.u32) n l] 35, .own [.c (.sli 1 (.c 0) 1 (.v n) (some (.v n))), .c (.int .i64 (c + (1 : Int)))] 90, .own [.c (.ptr 4 0), .c (.int .i64 z)] 52, .own [.c (.int .i64 x.1), .c (.int .i64 x.2), .c (.lit .i64 (0 : Int)), .c (.lit .i64 (1 : Int)), .c (.int .u32 (l.getD x.1.toNat (0 : Int))), .a (encInt IntKind.u32) 32 x.6, .c (.sb x.7), .c (.int .i64 (x.8 + (1 : Int)))] 107, .own [.c (.lit .u32 (4294967295 : Int)), .c (.lit .u32 (0 : Int)), .c (.lit .u32 (0 : Int))] 115])))

 (.ret (.sb x.7, [.ro encLook [PUnit.unit], .own [.a (encInt IntKind.u32) n l] 35, .own [.c (.sli 1 (.c 0) 1 (.v n) (some (.v n))), .c (.int .i64 (c + (1 : Int)))] 90, .own [.c (.ptr 4 0), .c (.int .i64 z)] 52, .own [.c (.int .i64 x.1), .c (.int .i64 x.2), .c (.int .i64 x.3), .c (.int .i64 x.4), .c (.int .u32 x.5), .a (encInt IntKind.u32) 32 x.6, .c (.sb x.7), .c (.int .i64 x.8)] 107, .own [.c (.lit .u32 (4294967295 : Int)), .c (.lit .u32 (0 : Int)), .c (.lit .u32 (0 : Int))] 115]))))

 (.br (x.4 == (1 : Int))

 (.need (decide ((0 : Int) ≤ x.3) && decide (x.3.toNat < 32))

 (.need (decide (x.3.toNat < 32))
 (.eq (T.ret (SVal.int IntKind.i64 x.3) = T.ret (SVal.int IntKind.i64 x.3))

 (.need (inR .i64 (x.3 + (1 : Int)))

 (.br (x.3 + (1 : Int) == x.2)

 (.ret (.sb x.7, [.ro encLook [PUnit.unit], .own [.a (encInt IntKind.u32) n l] 35, .own [.c (.sli 1 (.c 0) 1 (.v n) (some (.v n))), .c (.int .i64 (c + (1 : Int)))] 90, .own [.c (.ptr 4 0), .c (.int .i64 z)] 52, .own [.c (.int .i64 x.1), .c (.int .i64 x.2), .c (.int .i64 (x.3 + (1 : Int))), .c (.lit .i64 (2 : Int)), .c (.int .u32 x.5), .a (encInt IntKind.u32) 32 (x.6.set x.3.toNat (l.getD x.1.toNat (0 : Int))), .c (.sb x.7), .c (.int .i64 x.8)] 107, .own [.c (.lit .u32 (4294967295 : Int)), .c (.lit .u32 (0 : Int)), .c (.lit .u32 (0 : Int))] 115]))

 (.ret (.sb x.7, [.ro encLook [PUnit.unit], .own [.a (encInt IntKind.u32) n l] 35, .own [.c (.sli 1 (.c 0) 1 (.v n) (some (.v n))), .c (.int .i64 (c + (1 : Int)))] 90, .own [.c (.ptr 4 0), .c (.int .i64 z)] 52, .own [.c (.int .i64 x.1), .c (.int .i64 x.2), .c (.int .i64 (x.3 + (1 : Int))), .c (.int .i64 x.4), .c (.int .u32 x.5), .a (encInt IntKind.u32) 32 (x.6.set x.3.toNat (l.getD x.1.toNat (0 : Int))), .c (.sb x.7), .c (.int .i64 x.8)] 107, .own [.c (.lit .u32 (4294967295 : Int)), .c (.lit .u32 (0 : Int)), .c (.lit .u32 (0 : Int))] 115])))))))

 (.br (x.4 == (2 : Int))

 (.ret (.sb (l.getD x.1.toNat (0 : Int) == x.5), [.ro encLook [PUnit.unit], .own [.a (encInt IntKind.u32) n l] 35, .own [.c (.sli 1 (.c 0) 1 (.v n) (some (.v n))), .c (.int .i64 (c + (1 : Int)))] 90, .own [.c (.ptr 4 0), .c (.int .i64 z)] 52, .own [.c (.int .i64 x.1), .c (.int .i64 x.2), .c (.int .i64 x.3), .c (.lit .i64 (0 : Int)), .c (.int .u32 x.5), .a (encInt IntKind.u32) 32 x.6, .c (.sb (l.getD x.1.toNat (0 : Int) == x.5)), .c (.int .i64 x.8)] 107, .own [.c (.lit .u32 (4294967295 : Int)), .c (.lit .u32 (0 : Int)), .c (.lit .u32 (0 : Int))] 115]))

 (.ret (.sb x.7, [.ro encLook [PUnit.unit], .own [.a (encInt IntKind.u32) n l] 35, .own [.c (.sli 1 (.c 0) 1 (.v n) (some (.v n))), .c (.int .i64 (c + (1 : Int)))] 90, .own [.c (.ptr 4 0), .c (.int .i64 z)] 52, .own [.c (.int .i64 x.1), .c (.int .i64 x.2), .c (.int .i64 x.3), .c (.int .i64 x.4), .c (.int .u32 x.5), .a (encInt IntKind.u32) 32 x.6, .c (.sb x.7), .c (.int .i64 x.8)] 107, .own [.c (.lit .u32 (4294967295 : Int)), .c (.lit .u32 (0 : Int)), .c (.lit .u32 (0 : Int))] 115])))))))))))))))))) := by kernel_rfl
end Go.Proofs.YtdadfgeepinpbaaDoor

/- Layer 19: a writer's step. -/
namespace Go.Proofs.YtdadfgeepinpbaaDoor
open Go Go.Proofs.YtdadfgeepinpbaaDoor.Sx
set_option linter.unusedVariables false
theorem w32_mod (x : Int) : IntKind.u32.wrap x = x % 4294967296 := by
  simp [IntKind.wrap, IntKind.signed, IntKind.bits]
theorem low_u32 (x : Int) : ((low .u32 x : Nat) : Int) = x % 4294967296 := by
  have : 0 ≤ x % 4294967296 := by omega
  simp only [low, IntKind.bits]
  omega
theorem low_lt (x : Int) : low .u32 x < 4294967296 := by
  have := low_u32 x
  omega
theorem and_mask (x : Int) : bitop .and .u32 x 4294967295 = x % 4294967296 := by
  have h1 : low .u32 4294967295 = 2 ^ 32 - 1 := by decide
  have h2 := low_lt x
  simp only [bitop, h1, Nat.and_two_pow_sub_one_eq_mod, w32_mod]
  rw [Nat.mod_eq_of_lt (by omega), low_u32]
  omega
theorem and_zero (x : Int) : bitop .and .u32 x 0 = 0 := by
  have h1 : low .u32 0 = 0 := by decide
  simp only [bitop, h1, Nat.and_zero, w32_mod]
  rfl
theorem or_zero (x : Int) : bitop .or .u32 x 0 = x % 4294967296 := by
  have h1 : low .u32 0 = 0 := by decide
  simp only [bitop, h1, Nat.or_zero, w32_mod, low_u32]
  omega
theorem zero_or (x : Int) : bitop .or .u32 0 x = x % 4294967296 := by
  have h1 : low .u32 0 = 0 := by decide
  simp only [bitop, h1, Nat.zero_or, w32_mod, low_u32]
  omega
theorem raw_inc (x : Int) : IntKind.u32.wrap (bitop .or .u32 (bitop .and .u32 x 4294967295) 0 + 1) = (x + 1) % 4294967296 := by
  simp only [and_mask, or_zero, w32_mod]; omega
theorem raw_set (x v : Int) : IntKind.u32.wrap (bitop .or .u32 (bitop .and .u32 x 0) v + 0) = v % 4294967296 := by
  simp only [and_zero, zero_or, w32_mod]; omega
def U32s (l : List Int) : Prop := ∀ x ∈ l, 0 ≤ x ∧ x < 4294967296
theorem u32s_getD {l : List Int} (h : U32s l) (i : Nat) : 0 ≤ l.getD i 0 ∧ l.getD i 0 < 4294967296 := by
  rw [List.getD_eq_getElem?_getD]
  cases hi : l[i]? with
  | none => simp
  | some x => simpa using h x (List.mem_of_getElem? hi)
theorem u32s_set {l : List Int} (h : U32s l) (i : Nat) {x : Int} (hx : 0 ≤ x ∧ x < 4294967296) : U32s (l.set i x) := by
  intro y hy
  rcases List.mem_or_eq_of_mem_set hy with h1 | rfl
  · exact h y h1
  · exact hx
/-- a writer that has room -/
structure WOk (n : Nat) (l : List Int) (c : Int) (x : Wr) : Prop where
  at0 : 0 ≤ x.at'
  room : x.at' + x.V.length < n
  n1 : n ≤ 1000
  ll : l.length = n
  V : U32s x.V
  c : 0 ≤ c ∧ c ≤ 1000000
theorem sW_ren {n : Nat} {l : List Int} {c : Int} {x : Wr} {z : Int} : renSt (List.range 7) (memS n l c ++ putW 3 x z) (List.range 7) = some (memS n l c ++ putW 3 x z) := by kernel_rfl
/-- a step that stores a word -/
def wPut (x : Wr) : Wr := ⟨x.at', x.next + 1, if x.next + 1 = x.V.length then 2 else 1, x.V⟩
def lPut (x : Wr) (l : List Int) : List Int := l.set (x.at' + 1 + x.next).toNat (x.V.getD x.next.toNat 0)
def lInc (a : Int) (l : List Int) : List Int := l.set a.toNat ((l.getD a.toNat 0 + 1) % 4294967296)
set_option maxHeartbeats 1000000 in
theorem w_word {n : Nat} {l : List Int} {c : Int} {x : Wr} (h : WOk n l c x) (hp : x.phase = 1) (hn : 0 ≤ x.next ∧ x.next < x.V.length) :
    ∀ (env : Env) (w : World) (vs : List Value), GlOk cfgM.gl env → Rep env (sW n l c x) w → DenL env [.ptr 4 0, .ptr 2 0] vs → Calls cfgM.P 12 ⟨vs⟩ w (Ends1 env (sW n l c x) w (.bl false) (memS n (lPut x l) (c + 1) ++ putW 3 (wPut x) 0)) := by
  obtain ⟨at', next, phase, V⟩ := x
  obtain ⟨h1, h2, h3, h4, h5, h6⟩ := h
  simp only at h1 h2 h5 hp hn
  subst hp
  refine ends_allg (c := cfgM) cfgM_ok k_w (by kernel_rfl) rfl sW_ren rfl ?_
  have hv := u32s_getD h5 next.toNat
  have hi : (at' + 1 + next).toNat < l.length := by omega
  simp only
  simp only [Sx.getD_set_self hi, List.set_set, raw_set]
  rw [show (V.getD next.toNat 0) % 4294967296 = V.getD next.toNat 0 by omega]
  refine all_need rfl fun _ => ?_
  refine all_br (fun _ => ?_) (fun hh => by cases hh)
  refine all_needq (by simp only [inR_i64]; exact Iff.rfl) (by omega) ?_
  refine all_needq (by simp only [inR_i64]; exact Iff.rfl) (by omega) ?_
  refine all_needq (by simp only [decide_eq_true_eq, Bool.and_eq_true]; exact Iff.rfl) (by omega) ?_
  refine all_needq (by simp only [decide_eq_true_eq]; exact Iff.rfl) (by omega) ?_
  refine all_brp (by simp only [decide_eq_true_eq]; exact Iff.rfl) (fun _ => by exfalso; omega) (fun _ => ?_)
  refine all_brp (by simp only [decide_eq_true_eq]; exact Iff.rfl) (fun _ => by exfalso; omega) (fun _ => ?_)
  repeat' (first
    | refine all_needq (by simp only [inR_i64]; exact Iff.rfl) (by omega) ?_
    | refine all_needq (by simp only [decide_eq_true_eq, Bool.and_eq_true]; exact Iff.rfl) (by omega) ?_
    | refine all_needq (by simp only [decide_eq_true_eq]; exact Iff.rfl) (by omega) ?_
    | refine all_need rfl (fun _ => ?_)
    | refine all_eq trivial ?_
    | refine all_eq rfl ?_
    | refine all_brp (by simp only [beq_iff_eq]; exact Iff.rfl) (fun hq => ?_) (fun hq => ?_))
  · have e : wPut ⟨at', next, 1, V⟩ = ⟨at', next + 1, 2, V⟩ := by simp only [wPut]; rw [if_pos hq]
    rw [e]
    exact all_ret ⟨_, rfl, rfl⟩
  · have e : wPut ⟨at', next, 1, V⟩ = ⟨at', next + 1, 1, V⟩ := by simp only [wPut]; rw [if_neg hq]
    rw [e]
    exact all_ret ⟨_, rfl, rfl⟩
end Go.Proofs.YtdadfgeepinpbaaDoor

/- Layer 19: a writer's other steps; a reader's. -/
namespace Go.Proofs.YtdadfgeepinpbaaDoor
open Go Go.Proofs.YtdadfgeepinpbaaDoor.Sx
set_option linter.unusedVariables false
set_option maxHeartbeats 1000000 in
theorem w_begin {n : Nat} {l : List Int} {c : Int} {x : Wr} (h : WOk n l c x) (hp : x.phase = 0) :
    ∀ (env : Env) (w : World) (vs : List Value), GlOk cfgM.gl env → Rep env (sW n l c x) w → DenL env [.ptr 4 0, .ptr 2 0] vs → Calls cfgM.P 12 ⟨vs⟩ w (Ends1 env (sW n l c x) w (.bl false) (memS n (lInc x.at' l) (c + 1) ++ putW 3 ⟨x.at', 0, 1, x.V⟩ 0)) := by
  obtain ⟨at', next, phase, V⟩ := x
  obtain ⟨h1, h2, h3, h4, h5, h6⟩ := h
  simp only at h1 h2 h5 hp
  subst hp
  refine ends_allg (c := cfgM) cfgM_ok k_w (by kernel_rfl) rfl sW_ren rfl ?_
  have hi : at'.toNat < l.length := by omega
  simp only
  simp only [Sx.getD_set_self hi, List.set_set, raw_inc]
  refine all_need rfl fun _ => ?_
  refine all_br (fun hh => by cases hh) (fun _ => ?_)
  refine all_need rfl fun _ => ?_
  refine all_brp (by simp only [decide_eq_true_eq]; exact Iff.rfl) (fun _ => by exfalso; omega) (fun _ => ?_)
  refine all_brp (by simp only [decide_eq_true_eq]; exact Iff.rfl) (fun _ => by exfalso; omega) (fun _ => ?_)
  repeat' (first
    | refine all_needq (by simp only [inR_i64]; exact Iff.rfl) (by omega) ?_
    | refine all_needq (by simp only [decide_eq_true_eq, Bool.and_eq_true]; exact Iff.rfl) (by omega) ?_
    | refine all_needq (by simp only [decide_eq_true_eq]; exact Iff.rfl) (by omega) ?_
    | refine all_need rfl (fun _ => ?_)
    | refine all_eq trivial ?_
    | refine all_eq rfl ?_
    | refine all_br (fun hh => by cases hh) (fun _ => ?_))
  exact all_ret ⟨_, rfl, rfl⟩
set_option maxHeartbeats 1000000 in
theorem w_end {n : Nat} {l : List Int} {c : Int} {x : Wr} (h : WOk n l c x) (hp : x.phase = 2) :
    ∀ (env : Env) (w : World) (vs : List Value), GlOk cfgM.gl env → Rep env (sW n l c x) w → DenL env [.ptr 4 0, .ptr 2 0] vs → Calls cfgM.P 12 ⟨vs⟩ w (Ends1 env (sW n l c x) w (.bl true) (memS n (lInc x.at' l) (c + 1) ++ putW 3 ⟨x.at', 0, 0, x.V⟩ 1)) := by
  obtain ⟨at', next, phase, V⟩ := x
  obtain ⟨h1, h2, h3, h4, h5, h6⟩ := h
  simp only at h1 h2 h5 hp
  subst hp
  refine ends_allg (c := cfgM) cfgM_ok k_w (by kernel_rfl) rfl sW_ren rfl ?_
  have hi : at'.toNat < l.length := by omega
  simp only
  simp only [Sx.getD_set_self hi, List.set_set, raw_inc]
  refine all_need rfl fun _ => ?_
  refine all_br (fun hh => by cases hh) (fun _ => ?_)
  refine all_need rfl fun _ => ?_
  refine all_brp (by simp only [decide_eq_true_eq]; exact Iff.rfl) (fun _ => by exfalso; omega) (fun _ => ?_)
  refine all_brp (by simp only [decide_eq_true_eq]; exact Iff.rfl) (fun _ => by exfalso; omega) (fun _ => ?_)
  repeat' (first
    | refine all_needq (by simp only [inR_i64]; exact Iff.rfl) (by omega) ?_
    | refine all_needq (by simp only [decide_eq_true_eq, Bool.and_eq_true]; exact Iff.rfl) (by omega) ?_
    | refine all_needq (by simp only [decide_eq_true_eq]; exact Iff.rfl) (by omega) ?_
    | refine all_need rfl (fun _ => ?_)
    | refine all_eq trivial ?_
    | refine all_eq rfl ?_
    | refine all_br (fun _ => ?_) (fun hh => by cases hh))
  exact all_ret ⟨_, rfl, rfl⟩
/-- a reader that has room, and hasn't read -/
structure ROk (n : Nat) (l : List Int) (c : Int) (x : Rd) : Prop where
  at0 : 0 ≤ x.at'
  room : x.at' + x.n < n
  n1 : n ≤ 1000
  ll : l.length = n
  xn : 1 ≤ x.n ∧ x.n ≤ 32
  c : 0 ≤ c ∧ c ≤ 1000000
  t : 0 ≤ x.tries ∧ x.tries ≤ 1000000
  got : x.got = false
  ph : 0 ≤ x.phase ∧ x.phase ≤ 2
  nx : x.phase = 1 → 0 ≤ x.next ∧ x.next < x.n
  xl : x.l.length = 32
def rStep (x : Rd) (l : List Int) : Rd :=
  if x.phase = 0 then
    if (l.getD x.at'.toNat 0).tmod 2 = 0 then ⟨x.at', x.n, 0, 1, l.getD x.at'.toNat 0, x.l, false, x.tries + 1⟩ else x
  else if x.phase = 1 then ⟨x.at', x.n, x.next + 1, if x.next + 1 = x.n then 2 else 1, x.count, x.l.set x.next.toNat (l.getD (x.at' + (1 + x.next)).toNat 0), false, x.tries⟩
  else ⟨x.at', x.n, x.next, 0, x.count, x.l, l.getD x.at'.toNat 0 == x.count, x.tries⟩
theorem sG_ren {n : Nat} {l : List Int} {c : Int} {x : Rd} {z : Int} : renSt (List.range 5) (sG n l c x z) (List.range 5) = some (sG n l c x z) := by kernel_rfl
set_option maxHeartbeats 2000000 in
theorem r_step {n : Nat} {l : List Int} {c : Int} {x : Rd} {z : Int} (h : ROk n l c x) :
    ∀ (env : Env) (w : World) (vs : List Value), GlOk cfgM.gl env → Rep env (sG n l c x z) w → DenL env [.ptr 4 0, .ptr 2 0] vs → Calls cfgM.P 14 ⟨vs⟩ w (Ends1 env (sG n l c x z) w (.sb (rStep x l).got) (sG n l (c + 1) (rStep x l) z)) := by
  obtain ⟨at', xn, next, phase, count, xl, got, tries⟩ := x
  obtain ⟨h1, h2, h3, h4, h5, h6, h7, h8, h9, h10, h11⟩ := h
  simp only at h1 h2 h5 h7 h8 h9 h10 h11
  subst h8
  refine ends_allg (c := cfgM) cfgM_ok k_r (by kernel_rfl) rfl sG_ren rfl ?_
  refine all_br (fun hh => by cases hh) (fun _ => ?_)
  have hq : phase = 0 ∨ phase = 1 ∨ phase = 2 := by omega
  rcases hq with rfl | rfl | rfl
  · generalize hS : rStep _ l = S
    simp only [rStep, if_pos] at hS
    refine all_br (fun hh => by cases hh) (fun _ => ?_)
    repeat' (first
      | refine all_needq (by simp only [inR_i64]; exact Iff.rfl) (by omega) ?_
      | refine all_needq (by simp only [decide_eq_true_eq, Bool.and_eq_true]; exact Iff.rfl) (by omega) ?_
      | refine all_needq (by simp only [decide_eq_true_eq]; exact Iff.rfl) (by omega) ?_
      | refine all_need rfl (fun _ => ?_)
      | refine all_eq trivial ?_
      | refine all_eq rfl ?_
      | refine all_brp (by simp only [decide_eq_true_eq]; exact Iff.rfl) (fun _ => by exfalso; omega) (fun _ => ?_)
      | refine all_br (fun _ => ?_) (fun hh => by cases hh)
      | refine all_brp (by simp only [beq_iff_eq]; exact Iff.rfl) (fun hq => ?_) (fun hq => ?_))
    · rw [if_pos hq] at hS; subst hS
      exact all_ret ⟨_, rfl, rfl⟩
    · rw [if_neg hq] at hS; subst hS
      exact all_ret ⟨_, rfl, rfl⟩
  · have h10 := h10 rfl
    generalize hS : rStep _ l = S
    simp only [rStep, if_pos, if_neg (show ¬ (1 : Int) = 0 by omega)] at hS
    refine all_br (fun _ => ?_) (fun hh => by cases hh)
    repeat' (first
      | refine all_needq (by simp only [inR_i64]; exact Iff.rfl) (by omega) ?_
      | refine all_needq (by simp only [decide_eq_true_eq, Bool.and_eq_true]; exact Iff.rfl) (by omega) ?_
      | refine all_needq (by simp only [decide_eq_true_eq]; exact Iff.rfl) (by omega) ?_
      | refine all_need rfl (fun _ => ?_)
      | refine all_eq trivial ?_
      | refine all_eq rfl ?_)
    refine all_brp (by simp only [decide_eq_true_eq]; exact Iff.rfl) (fun _ => by exfalso; omega) (fun _ => ?_)
    refine all_brp (by simp only [decide_eq_true_eq]; exact Iff.rfl) (fun _ => by exfalso; omega) (fun _ => ?_)
    repeat' (first
      | refine all_needq (by simp only [inR_i64]; exact Iff.rfl) (by omega) ?_
      | refine all_needq (by simp only [decide_eq_true_eq, Bool.and_eq_true]; exact Iff.rfl) (by omega) ?_
      | refine all_needq (by simp only [decide_eq_true_eq]; exact Iff.rfl) (by omega) ?_
      | refine all_need rfl (fun _ => ?_)
      | refine all_eq trivial ?_
      | refine all_eq rfl ?_)
    refine all_br (fun hh => by cases hh) (fun _ => ?_)
    refine all_br (fun _ => ?_) (fun hh => by cases hh)
    repeat' (first
      | refine all_needq (by simp only [inR_i64]; exact Iff.rfl) (by omega) ?_
      | refine all_needq (by simp only [decide_eq_true_eq, Bool.and_eq_true]; exact Iff.rfl) (by omega) ?_
      | refine all_needq (by simp only [decide_eq_true_eq]; exact Iff.rfl) (by omega) ?_
      | refine all_need rfl (fun _ => ?_)
      | refine all_eq trivial ?_
      | refine all_eq rfl ?_)
    refine all_brp (by simp only [beq_iff_eq]; exact Iff.rfl) (fun hq => ?_) (fun hq => ?_)
    · rw [if_pos hq] at hS; subst hS
      exact all_ret ⟨_, rfl, rfl⟩
    · rw [if_neg hq] at hS; subst hS
      exact all_ret ⟨_, rfl, rfl⟩
  · generalize hS : rStep _ l = S
    simp only [rStep, if_neg (show ¬ (2 : Int) = 0 by omega), if_neg (show ¬ (2 : Int) = 1 by omega)] at hS
    refine all_br (fun hh => by cases hh) (fun _ => ?_)
    repeat' (first
      | refine all_needq (by simp only [inR_i64]; exact Iff.rfl) (by omega) ?_
      | refine all_needq (by simp only [decide_eq_true_eq, Bool.and_eq_true]; exact Iff.rfl) (by omega) ?_
      | refine all_needq (by simp only [decide_eq_true_eq]; exact Iff.rfl) (by omega) ?_
      | refine all_need rfl (fun _ => ?_)
      | refine all_eq trivial ?_
      | refine all_eq rfl ?_)
    refine all_brp (by simp only [decide_eq_true_eq]; exact Iff.rfl) (fun _ => by exfalso; omega) (fun _ => ?_)
    refine all_brp (by simp only [decide_eq_true_eq]; exact Iff.rfl) (fun _ => by exfalso; omega) (fun _ => ?_)
    repeat' (first
      | refine all_needq (by simp only [inR_i64]; exact Iff.rfl) (by omega) ?_
      | refine all_needq (by simp only [decide_eq_true_eq, Bool.and_eq_true]; exact Iff.rfl) (by omega) ?_
      | refine all_needq (by simp only [decide_eq_true_eq]; exact Iff.rfl) (by omega) ?_
      | refine all_need rfl (fun _ => ?_)
      | refine all_eq trivial ?_
      | refine all_eq rfl ?_)
    refine all_br (fun hh => by cases hh) (fun _ => ?_)
    refine all_br (fun hh => by cases hh) (fun _ => ?_)
    repeat' (first
      | refine all_needq (by simp only [inR_i64]; exact Iff.rfl) (by omega) ?_
      | refine all_needq (by simp only [decide_eq_true_eq, Bool.and_eq_true]; exact Iff.rfl) (by omega) ?_
      | refine all_needq (by simp only [decide_eq_true_eq]; exact Iff.rfl) (by omega) ?_
      | refine all_need rfl (fun _ => ?_)
      | refine all_eq trivial ?_
      | refine all_eq rfl ?_)
    refine all_br (fun _ => ?_) (fun hh => by cases hh)
    subst hS
    exact all_ret ⟨_, rfl, rfl⟩
end Go.Proofs.YtdadfgeepinpbaaDoor

/- Layer 19: unpacking a message: pieces. -/
namespace Go.Proofs.YtdadfgeepinpbaaDoor
open Go Go.Proofs.YtdadfgeepinpbaaDoor.Sx
set_option linter.unusedVariables false
noncomputable def bU : Code := Tryd.f38.body.getD .skip
noncomputable def cU : Code := restC 2 bU
noncomputable def regU : Code := lft (lft cU)
noncomputable def blkU : Code := rgt (lft cU)
noncomputable def roundU : Code := lft (lft blkU)
noncomputable def rsU : Code := restC 2 roundU
noncomputable def bbU : Code := lft (lft rsU)
noncomputable def incU : Code := rgt rsU
noncomputable def endU : Code := rgt cU
abbrev sGt (n : Nat) (l : List Int) (c : Int) (x : Rd) (z : Int) : St := memS n l c ++ [.own [.c (.ptr 4 0), .c (.int .i64 z)] 52, .own [.c (.int .i64 x.at'), .c (.int .i64 x.n), .c (.int .i64 x.next), .c (.int .i64 x.phase), .c (.int .u32 x.count), .a (encInt .u32) 32 x.l, .c (.sb true), .c (.int .i64 x.tries)] 107]
abbrev sU (n : Nat) (l : List Int) (c : Int) (x : Rd) (z : Int) (L : List Int) : St := sGt n l c x z ++ [.own [.a (encInt .u32) 32 L] 105]
abbrev sUb (n : Nat) (l : List Int) (c : Int) (x : Rd) (z : Int) (L : List Int) (m : Nat) (B : List Int) : St := sU n l c x z L ++ [.own [.a (encInt .u8) m B] 5]
abbrev vU (k : Nat) : SVal := .sli 5 (.c 2) 1 (.v k) (some (.v k))
abbrev bUv (m : Nat) : SVal := .sli 6 (.c 0) 1 (.v m) (some (.v m))
abbrev vUi (k m i : Nat) : List SVal := [vU k, bUv m, .int .i64 (m : Nat), .int .i64 (i : Nat)]
end Go.Proofs.YtdadfgeepinpbaaDoor

namespace Go.Proofs.YtdadfgeepinpbaaDoor
open Go Go.Proofs.YtdadfgeepinpbaaDoor.Sx
set_option linter.unusedVariables false
set_option maxRecDepth 100000 in
theorem u_pre {n : Nat} {l : List Int} {c : Int} {x : Rd} {z : Int} {L : List Int} {k m : Nat} : (execN cfgM 100 2 bU ([vU k, .int .i64 (m : Nat)] ++ List.replicate 30 .bad) (sU n l c x z L)).bind (canonK 6 [(0,0)] 32 [0, 5]) =
 

 (.need (decide ((0 : Int) ≤ (↑m : Int)))

 (.need (decide ((↑m : Int) * (1 : Int) ≤ (140737488355328 : Int)))

 (.need (decide ((↑m : Int) ≤ (4611686018427387904 : Int)))

 (.ret (.normal, [.sli 5 (.c 2) 1 (.v k) (some (.v k)), .sli 6 (.c 0) 1 (.v (↑m : Int).toNat) (some (.v (↑m : Int).toNat))], [.ro encLook [PUnit.unit], .own [.a (encInt IntKind.u32) n l] 35, .own [.c (.sli 1 (.c 0) 1 (.v n) (some (.v n))), .c (.int .i64 c)] 90, .own [.c (.ptr 4 0), .c (.int .i64 z)] 52, .own [.c (.int .i64 x.1), .c (.int .i64 x.2), .c (.int .i64 x.3), .c (.int .i64 x.4), .c (.int .u32 x.5), .a (encInt IntKind.u32) 32 x.6, .c (.sb true), .c (.int .i64 x.8)] 107, .own [.a (encInt IntKind.u32) 32 L] 105, .own [.a (encInt IntKind.u8) (↑m : Int).toNat (List.replicate (↑m : Int).toNat (0 : Int))] 5]))))) := by kernel_rfl
set_option maxRecDepth 100000 in
theorem u_reg {n : Nat} {l : List Int} {c : Int} {x : Rd} {z : Int} {L : List Int} {k m : Nat} {B : List Int} : (exec cfgM 100 regU (fr 32 [0, 5] [vU k, bUv m]) (sUb n l c x z L m B)).bind (canonK 7 [(0,0)] 32 [0, 5, 10, 11]) =
 

 (.ret (.normal, [.sli 5 (.c 2) 1 (.v k) (some (.v k)), .sli 6 (.c 0) 1 (.v m) (some (.v m)), .int .i64 (↑m : Int), .lit .i64 (0 : Int)], [.ro encLook [PUnit.unit], .own [.a (encInt IntKind.u32) n l] 35, .own [.c (.sli 1 (.c 0) 1 (.v n) (some (.v n))), .c (.int .i64 c)] 90, .own [.c (.ptr 4 0), .c (.int .i64 z)] 52, .own [.c (.int .i64 x.1), .c (.int .i64 x.2), .c (.int .i64 x.3), .c (.int .i64 x.4), .c (.int .u32 x.5), .a (encInt IntKind.u32) 32 x.6, .c (.sb true), .c (.int .i64 x.8)] 107, .own [.a (encInt IntKind.u32) 32 L] 105, .own [.a (encInt IntKind.u8) m B] 5])) := by kernel_rfl
set_option maxRecDepth 100000 in
theorem u_tm {n : Nat} {l : List Int} {c : Int} {x : Rd} {z : Int} {L : List Int} {k m i : Nat} {B : List Int} : (execN cfgM 100 2 roundU (fr 32 [0, 5, 10, 11] (vUi k m i)) (sUb n l c x z L m B)).bind (canonK 7 [(0,0)] 32 [0, 5, 10, 11]) =
 

 (.br (decide ((↑i : Int) < (↑m : Int)))

 (.ret (.normal, [.sli 5 (.c 2) 1 (.v k) (some (.v k)), .sli 6 (.c 0) 1 (.v m) (some (.v m)), .int .i64 (↑m : Int), .int .i64 (↑i : Int)], [.ro encLook [PUnit.unit], .own [.a (encInt IntKind.u32) n l] 35, .own [.c (.sli 1 (.c 0) 1 (.v n) (some (.v n))), .c (.int .i64 c)] 90, .own [.c (.ptr 4 0), .c (.int .i64 z)] 52, .own [.c (.int .i64 x.1), .c (.int .i64 x.2), .c (.int .i64 x.3), .c (.int .i64 x.4), .c (.int .u32 x.5), .a (encInt IntKind.u32) 32 x.6, .c (.sb true), .c (.int .i64 x.8)] 107, .own [.a (encInt IntKind.u32) 32 L] 105, .own [.a (encInt IntKind.u8) m B] 5]))

 (.ret (.exit 0, [.sli 5 (.c 2) 1 (.v k) (some (.v k)), .sli 6 (.c 0) 1 (.v m) (some (.v m)), .int .i64 (↑m : Int), .int .i64 (↑i : Int)], [.ro encLook [PUnit.unit], .own [.a (encInt IntKind.u32) n l] 35, .own [.c (.sli 1 (.c 0) 1 (.v n) (some (.v n))), .c (.int .i64 c)] 90, .own [.c (.ptr 4 0), .c (.int .i64 z)] 52, .own [.c (.int .i64 x.1), .c (.int .i64 x.2), .c (.int .i64 x.3), .c (.int .i64 x.4), .c (.int .u32 x.5), .a (encInt IntKind.u32) 32 x.6, .c (.sb true), .c (.int .i64 x.8)] 107, .own [.a (encInt IntKind.u32) 32 L] 105, .own [.a (encInt IntKind.u8) m B] 5]))) := by kernel_rfl
set_option maxRecDepth 100000 in
theorem u_bb {n : Nat} {l : List Int} {c : Int} {x : Rd} {z : Int} {L : List Int} {k m i : Nat} {B : List Int} : (exec cfgM 100 bbU (fr 32 [0, 5, 10, 11] (vUi k m i)) (sUb n l c x z L m B)).bind (canonK 7 [(0,0)] 32 [0, 5, 10, 11]) =
 

 (.need (true)

 (.need (decide ((0 : Int) ≤ IntKind.i64.wrap ((↑i : Int).tdiv (4 : Int))) && decide ((IntKind.i64.wrap ((↑i : Int).tdiv (4 : Int))).toNat < k))

 (.need (decide (2 + (IntKind.i64.wrap ((↑i : Int).tdiv (4 : Int))).toNat < 32))

 (.need (true)

 (.need (inR .i64 ((8 : Int) * (↑i : Int).tmod (4 : Int)))

 (.need (inR .i64 ((24 : Int) - (8 : Int) * (↑i : Int).tmod (4 : Int)))

 (.need (decide ((0 : Int) ≤ IntKind.u64.wrap ((24 : Int) - (8 : Int) * (↑i : Int).tmod (4 : Int))))

 (.need (decide ((0 : Int) ≤ (↑i : Int)) && decide ((↑i : Int).toNat < m))

 (.need (decide ((↑i : Int).toNat < m))

 (.ret (.normal, [.sli 5 (.c 2) 1 (.v k) (some (.v k)), .sli 6 (.c 0) 1 (.v m) (some (.v m)), .int .i64 (↑m : Int), .int .i64 (↑i : Int)], [.ro encLook [PUnit.unit], .own [.a (encInt IntKind.u32) n l] 35, .own [.c (.sli 1 (.c 0) 1 (.v n) (some (.v n))), .c (.int .i64 c)] 90, .own [.c (.ptr 4 0), .c (.int .i64 z)] 52, .own [.c (.int .i64 x.1), .c (.int .i64 x.2), .c (.int .i64 x.3), .c (.int .i64 x.4), .c (.int .u32 x.5), .a (encInt IntKind.u32) 32 x.6, .c (.sb true), .c (.int .i64 x.8)] 107, .own [.a (encInt IntKind.u32) 32 L] 105, .own [.a (encInt IntKind.u8) m (B.set (↑i : Int).toNat (IntKind.u8.wrap ((L.getD (2 + (IntKind.i64.wrap ((↑i : Int).tdiv (4 : Int))).toNat) (0 : Int)).fdiv ((2 : Int) ^ min (IntKind.u64.wrap ((24 : Int) - (8 : Int) * (↑i : Int).tmod (4 : Int))).toNat 32))))] 5]))))))))))) := by kernel_rfl
set_option maxRecDepth 100000 in
theorem u_inc {n : Nat} {l : List Int} {c : Int} {x : Rd} {z : Int} {L : List Int} {k m i : Nat} {B : List Int} : (exec cfgM 100 incU (fr 32 [0, 5, 10, 11] (vUi k m i)) (sUb n l c x z L m B)).bind (canonK 7 [(0,0)] 32 [0, 5, 10, 11]) =
 

 (.need (inR .i64 ((↑i : Int) + (1 : Int)))

 (.ret (.normal, [.sli 5 (.c 2) 1 (.v k) (some (.v k)), .sli 6 (.c 0) 1 (.v m) (some (.v m)), .int .i64 (↑m : Int), .int .i64 ((↑i : Int) + (1 : Int))], [.ro encLook [PUnit.unit], .own [.a (encInt IntKind.u32) n l] 35, .own [.c (.sli 1 (.c 0) 1 (.v n) (some (.v n))), .c (.int .i64 c)] 90, .own [.c (.ptr 4 0), .c (.int .i64 z)] 52, .own [.c (.int .i64 x.1), .c (.int .i64 x.2), .c (.int .i64 x.3), .c (.int .i64 x.4), .c (.int .u32 x.5), .a (encInt IntKind.u32) 32 x.6, .c (.sb true), .c (.int .i64 x.8)] 107, .own [.a (encInt IntKind.u32) 32 L] 105, .own [.a (encInt IntKind.u8) m B] 5]))) := by kernel_rfl
set_option maxRecDepth 100000 in
theorem u_end {n : Nat} {l : List Int} {c : Int} {x : Rd} {z : Int} {L : List Int} {k m i : Nat} {B : List Int} : (exec cfgM 100 endU (fr 32 [0, 5, 10, 11] (vUi k m i)) (sUb n l c x z L m B)).bind (canonK 6 [(0,0)] 32 [4]) =
 

 (.need (decide (0 + m ≤ B.length))

 (.need ((List.flatMap (encInt .u8).enc (List.take m (List.drop 0 B))).all isU8)

 (.ret (.ret, [.str { data := { toList := (List.flatMap (encInt .u8).enc (List.take m (List.drop 0 B))).map Sx.byteOf } }], [.ro encLook [PUnit.unit], .own [.a (encInt IntKind.u32) n l] 35, .own [.c (.sli 1 (.c 0) 1 (.v n) (some (.v n))), .c (.int .i64 c)] 90, .own [.c (.ptr 4 0), .c (.int .i64 z)] 52, .own [.c (.int .i64 x.1), .c (.int .i64 x.2), .c (.int .i64 x.3), .c (.int .i64 x.4), .c (.int .u32 x.5), .a (encInt IntKind.u32) 32 x.6, .c (.sb true), .c (.int .i64 x.8)] 107, .own [.a (encInt IntKind.u32) 32 L] 105])))) := by kernel_rfl
end Go.Proofs.YtdadfgeepinpbaaDoor

/- Layer 19: unpacking a message. -/
namespace Go.Proofs.YtdadfgeepinpbaaDoor
open Go Go.Proofs.YtdadfgeepinpbaaDoor.Sx
set_option linter.unusedVariables false
theorem bU_eq : Tryd.f38.body = some bU := by kernel_rfl
def byteU (L : List Int) (i : Nat) : Int := IntKind.u8.wrap ((L.getD (2 + i / 4) 0).fdiv ((2 : Int) ^ (24 - 8 * (i % 4))))
def unpN (L : List Int) (m : Nat) : Nat → List Int
  | 0 => List.replicate m 0
  | i + 1 => (unpN L m i).set i (byteU L i)
theorem unpN_len (L : List Int) (m : Nat) : ∀ i, (unpN L m i).length = m
  | 0 => by simp [unpN]
  | i + 1 => by simp only [unpN, List.length_set]; exact unpN_len L m i
def strU (B : List Int) : ByteArray := { data := { toList := (B.flatMap (encInt .u8).enc).map Sx.byteOf } }
theorem isU8_all (B : List Int) : (B.flatMap (encInt .u8).enc).all isU8 = true := by
  rw [List.all_eq_true]
  intro s hs
  obtain ⟨b, _, hb⟩ := List.mem_flatMap.1 hs
  rw [List.mem_singleton.1 hb]; rfl
abbrev L32 (l : List Int) : List Int := (List.range 32).map fun i => l.getD i 0
abbrev c32 (l : List Int) : List Seg := (List.range 32).map fun i => Seg.c (.int .u32 (l.getD i 0))
abbrev s40 (n : Nat) (l : List Int) (c : Int) (x : Rd) (z : Int) : St := sGt n l c x z ++ [.own (c32 x.l) 105]
theorem s40_ren {n : Nat} {l : List Int} {c : Int} {x : Rd} {z : Int} : renSt (List.range 6) (s40 n l c x z) (List.range 6) = some (s40 n l c x z) := by kernel_rfl
theorem c32_cells (l : List Int) : segCells (c32 l) = segCells [.a (encInt .u32) 32 (L32 l)] := by kernel_rfl
theorem c32_plain (l : List Int) : ∀ s ∈ c32 l, ∃ v, s = .c v := by
  intro s hs
  obtain ⟨i, _, rfl⟩ := List.mem_map.1 hs
  exact ⟨_, rfl⟩
set_option maxHeartbeats 1000000 in
theorem unpack_call {n : Nat} {l : List Int} {c : Int} {x : Rd} {z : Int} {k m : Nat} (hk : k ≤ 30) (hm : m ≤ 32) (hmk : m ≤ 4 * k) :
    ∀ (env : Env) (w : World) (vs : List Value), GlOk cfgM.gl env → Rep env (s40 n l c x z) w → DenL env [vU k, .int .i64 (m : Nat)] vs → Calls cfgM.P 38 ⟨vs⟩ w (Ends1 env (s40 n l c x z) w (.str (strU (unpN (L32 x.l) m m))) (s40 n l c x z)) := by
  intro env w vs hg hr hd
  have hb0 : env.length = 6 := hr.len
  refine AtK.begin (c := cfgM) Tryd.func38 bU_eq hg hr hd fun a0 hA0 => ?_
  have hA : AtK env [(0, 0)] ⟨w, inFoot env (s40 n l c x z)⟩ env ([vU k, .int .i64 (m : Nat)] ++ List.replicate 30 .bad) (sU n l c x z (L32 x.l)) a0 w := hA0.on fun h => h.segs 5 (l' := [.a (encInt .u32) 32 (L32 x.l)]) rfl (by intro s hs; rw [List.mem_singleton.1 hs]; rfl) (fun cs h => by rw [← c32_cells]; exact h)
  generalize hL : L32 x.l = L at hA
  refine pieceNTK2 (c := cfgM) cfgM_ok 2 [0, 5] u_pre (by omega) (by simp) hA ?_
  simp only [Int.toNat_natCast]
  refine all_needq (by simp only [decide_eq_true_eq]; exact Iff.rfl) (by omega) ?_
  refine all_needq (by simp only [decide_eq_true_eq]; exact Iff.rfl) (by omega) ?_
  refine all_needq (by simp only [decide_eq_true_eq]; exact Iff.rfl) (by omega) ?_
  refine all_ret fun env1 a1 w1 hA1 => ?_
  simp only [Ex.to, Exit.then]
  have hA4 : AtK env [(0, 0)] ⟨w, inFoot env (s40 n l c x z)⟩ env1 (fr 32 [0, 5] [vU k, bUv m]) (sUb n l c x z L m (unpN L m 0)) a1 w1 := hA1
  refine wpS (by kernel_rfl) (wpS (by kernel_rfl) ?_)
  refine pieceTK2 (c := cfgM) cfgM_ok [0, 5, 10, 11] u_reg (by omega) (by simp) hA4 ?_
  refine all_ret fun env3 a3 w3 hA3 => ?_
  simp only [Ex.to, Exit.then]
  have hA4 := hA3.on fun h => h.gvals (vUi k m 0) rfl
  refine wpB 0 (by kernel_rfl) (wpL (by kernel_rfl) (fun (i : Nat) a' w' => i ≤ m ∧ ∃ env', AtK env [(0, 0)] ⟨w, inFoot env (s40 n l c x z)⟩ env' (fr 32 [0, 5, 10, 11] (vUi k m i)) (sUb n l c x z L m (unpN L m i)) a' w') (fun (i : Nat) => m - i) (0 : Nat) ⟨Nat.zero_le _, env3, hA4⟩ ?_)
  rintro i a' w' ⟨hi, env', hA⟩
  refine (show roundU.wp _ _ _ _ from ?_)
  refine pieceNTK2 (c := cfgM) cfgM_ok 2 [0, 5, 10, 11] u_tm (by omega) (by simp) hA ?_
  refine all_brp (by simp only [decide_eq_true_eq]; exact Iff.rfl) (fun h1 => all_ret fun env1 a1 w1 hA1 => ?_) (fun h1 => all_ret fun env1 a1 w1 hA1 => ?_)
  · simp only [Ex.to, Exit.then]
    have hi' : i < m := by omega
    refine (show rsU.wp _ _ _ _ from wpS (by kernel_rfl) (wpB 1 (by kernel_rfl) ?_))
    refine (show bbU.wp _ _ _ _ from ?_)
    refine pieceTK2 (c := cfgM) cfgM_ok [0, 5, 10, 11] u_bb (by omega) (by simp) hA1 ?_
    have e1 : IntKind.i64.wrap ((i : Int).tdiv 4) = ((i / 4 : Nat) : Int) := by
      rw [Int.tdiv_eq_ediv_of_nonneg (by omega), wrap_i64 (by omega)]; omega
    have e2 : (i : Int).tmod 4 = ((i % 4 : Nat) : Int) := by
      rw [Int.tmod_eq_emod_of_nonneg (by omega)]; omega
    have e3 : IntKind.u64.wrap ((24 : Int) - (8 : Int) * ((i % 4 : Nat) : Int)) = ((24 - 8 * (i % 4) : Nat) : Int) := by
      rw [wrap_u64 (by omega)]; omega
    rw [e1, e2, e3]
    have e4 : min (24 - 8 * (i % 4)) 32 = 24 - 8 * (i % 4) := by omega
    simp only [Int.toNat_natCast, e4]
    refine all_need rfl fun _ => ?_
    refine all_needq (by simp only [decide_eq_true_eq, Bool.and_eq_true]; exact Iff.rfl) (by omega) ?_
    refine all_needq (by simp only [decide_eq_true_eq]; exact Iff.rfl) (by omega) ?_
    refine all_need rfl fun _ => ?_
    refine all_needq (by simp only [inR_i64]; exact Iff.rfl) (by omega) ?_
    refine all_needq (by simp only [inR_i64]; exact Iff.rfl) (by omega) ?_
    refine all_needq (by simp only [decide_eq_true_eq]; exact Iff.rfl) (by omega) ?_
    refine all_needq (by simp only [decide_eq_true_eq, Bool.and_eq_true]; exact Iff.rfl) (by omega) ?_
    refine all_needq (by simp only [decide_eq_true_eq]; exact Iff.rfl) (by omega) ?_
    refine all_ret fun env2 a2 w2 hA2 => ?_
    simp only [Ex.to, Exit.inBlock, Exit.then]
    refine (show incU.wp _ _ _ _ from ?_)
    have hA3 : AtK env [(0, 0)] ⟨w, inFoot env (s40 n l c x z)⟩ env2 (fr 32 [0, 5, 10, 11] (vUi k m i)) (sUb n l c x z L m (unpN L m (i + 1))) a2 w2 := hA2
    refine pieceTK2 (c := cfgM) cfgM_ok [0, 5, 10, 11] u_inc (by omega) (by simp) hA3 ?_
    refine all_needp (by simp only [inR_i64]; exact Iff.rfl) (by omega) fun _ => all_ret fun env4 a4 w4 hA4 => ?_
    exact ⟨i + 1, ⟨by omega, env4, hA4⟩, by omega⟩
  · have him : i = m := by omega
    subst him
    simp only [Ex.to, Exit.then, Exit.inBlock, if_true]
    refine (show endU.wp _ _ _ _ from ?_)
    refine pieceTK2 (c := cfgM) cfgM_ok [4] u_end (by omega) (by simp) hA1 ?_
    have hl := unpN_len L i i
    have e5 : List.take i (List.drop 0 (unpN L i i)) = unpN L i i := by rw [List.drop_zero, List.take_of_length_le (by omega)]
    rw [e5, isU8_all]
    refine all_needq (by simp only [decide_eq_true_eq]; exact Iff.rfl) (by omega) ?_
    refine all_need rfl fun _ => ?_
    refine all_ret fun env4 a4 w4 hA4 => ?_
    rw [← hL] at hA4 ⊢
    have hA5 : AtK env [(0, 0)] ⟨w, inFoot env (s40 n l c x z)⟩ env4 (fr 32 [4] [.str (strU (unpN (L32 x.l) i i))]) (s40 n l c x z) a4 w4 := hA4.on fun h => h.segs 5 (l' := c32 x.l) rfl (by intro s hs; obtain ⟨v, rfl⟩ := c32_plain _ s hs; trivial) (fun cs h => by rw [c32_cells]; exact h)
    exact hA5.out (c := cfgM) (by kernel_rfl)
end Go.Proofs.YtdadfgeepinpbaaDoor

/- Layer 19: what was read: its configuration. -/
namespace Go.Proofs.YtdadfgeepinpbaaDoor
open Go Go.Proofs.YtdadfgeepinpbaaDoor.Sx
set_option linter.unusedVariables false
noncomputable def cfgU (n : Nat) (l : List Int) (c : Int) (x : Rd) (z : Int) (k m : Nat) : Cfg := { P := Tryd.prog, ex := exI, gl := [(0, 0)], sm := fun f => match f with
  | 38 => some (smEq [vU k, .int .i64 (m : Nat)] (s40 n l c x z) (k ≤ 30 ∧ m ≤ 32 ∧ m ≤ 4 * k) (.str (strU (unpN (L32 x.l) m m))) (s40 n l c x z))
  | _ => none }
theorem cfgU_ok {n : Nat} {l : List Int} {c : Int} {x : Rd} {z : Int} {k m : Nat} : SmOk (cfgU n l c x z k m) := by
  intro f g h
  simp only [cfgU] at h
  split at h
  · simp only [Option.some.injEq] at h; subst h
    exact smEq_ok (c := cfgU n l c x z k m) fun h => unpack_call h.1 h.2.1 h.2.2
  · cases h
end Go.Proofs.YtdadfgeepinpbaaDoor

namespace Go.Proofs.YtdadfgeepinpbaaDoor
open Go Go.Proofs.YtdadfgeepinpbaaDoor.Sx
set_option linter.unusedVariables false
set_option maxRecDepth 100000 in
theorem m_call {n : Nat} {l : List Int} {c : Int} {x : Rd} {z : Int} {k m : Nat} : callF (cfgU n l c x z k m) 100 15 [.ptr 3 0] (sGt n l c x z) =
 

 (.br (false)

 (.ret (.tup [.sl [], .lit .u32 (0 : Int), .bl false], [.ro encLook [PUnit.unit], .own [.a (encInt IntKind.u32) n l] 35, .own [.c (.sli 1 (.c 0) 1 (.v n) (some (.v n))), .c (.int .i64 c)] 90, .own [.c (.ptr 4 0), .c (.int .i64 z)] 52, .own [.c (.int .i64 x.1), .c (.int .i64 x.2), .c (.int .i64 x.3), .c (.int .i64 x.4), .c (.int .u32 x.5), .a (encInt IntKind.u32) 32 x.6, .c (.sb true), .c (.int .i64 x.8)] 107]))

 (.need (decide ((0 : Int) ≤ x.2) && decide (x.2.toNat ≤ 32))

 (.need (decide ((0 : Int) ≤ x.2) && decide (x.2.toNat ≤ x.2.toNat))

 (.need (decide (0 ≤ x.2.toNat))

 (.need (decide (x.2.toNat ≤ x.2.toNat))

 (.need (decide (2 ≤ x.2.toNat))

 (.need (decide (1 < x.2.toNat))

 (.need (inR .i64 (imin (x.6.getD 1 (0 : Int)) (IntKind.u32.wrap z)))

 (.eq ([SVal.sli 5 (.c 2) 1 (.v (x.2.toNat - 2)) (some (.v (x.2.toNat - 2))), .int .i64 (imin (x.6.getD 1 (0 : Int)) (IntKind.u32.wrap z))] = [SVal.sli 5 (.c 2) 1 (.v k) (some (.v k)), .int .i64 (↑m : Int)] ∧ [Blk.ro encLook [PUnit.unit], .own [.a (encInt IntKind.u32) n l] 35, .own [.c (.sli 1 (.c 0) 1 (.v n) (some (.v n))), .c (.int .i64 c)] 90, .own [.c (.ptr 4 0), .c (.int .i64 z)] 52, .own [.c (.int .i64 x.1), .c (.int .i64 x.2), .c (.int .i64 x.3), .c (.int .i64 x.4), .c (.int .u32 x.5), .a (encInt IntKind.u32) 32 x.6, .c (.sb true), .c (.int .i64 x.8)] 107, .own [.c (.int .u32 (x.6.getD 0 (0 : Int))), .c (.int .u32 (x.6.getD 1 (0 : Int))), .c (.int .u32 (x.6.getD 2 (0 : Int))), .c (.int .u32 (x.6.getD 3 (0 : Int))), .c (.int .u32 (x.6.getD 4 (0 : Int))), .c (.int .u32 (x.6.getD 5 (0 : Int))), .c (.int .u32 (x.6.getD 6 (0 : Int))), .c (.int .u32 (x.6.getD 7 (0 : Int))), .c (.int .u32 (x.6.getD 8 (0 : Int))), .c (.int .u32 (x.6.getD 9 (0 : Int))), .c (.int .u32 (x.6.getD 10 (0 : Int))), .c (.int .u32 (x.6.getD 11 (0 : Int))), .c (.int .u32 (x.6.getD 12 (0 : Int))), .c (.int .u32 (x.6.getD 13 (0 : Int))), .c (.int .u32 (x.6.getD 14 (0 : Int))), .c (.int .u32 (x.6.getD 15 (0 : Int))), .c (.int .u32 (x.6.getD 16 (0 : Int))), .c (.int .u32 (x.6.getD 17 (0 : Int))), .c (.int .u32 (x.6.getD 18 (0 : Int))), .c (.int .u32 (x.6.getD 19 (0 : Int))), .c (.int .u32 (x.6.getD 20 (0 : Int))), .c (.int .u32 (x.6.getD 21 (0 : Int))), .c (.int .u32 (x.6.getD 22 (0 : Int))), .c (.int .u32 (x.6.getD 23 (0 : Int))), .c (.int .u32 (x.6.getD 24 (0 : Int))), .c (.int .u32 (x.6.getD 25 (0 : Int))), .c (.int .u32 (x.6.getD 26 (0 : Int))), .c (.int .u32 (x.6.getD 27 (0 : Int))), .c (.int .u32 (x.6.getD 28 (0 : Int))), .c (.int .u32 (x.6.getD 29 (0 : Int))), .c (.int .u32 (x.6.getD 30 (0 : Int))), .c (.int .u32 (x.6.getD 31 (0 : Int)))] 105] = [Blk.ro encLook [PUnit.unit], .own [.a (encInt IntKind.u32) n l] 35, .own [.c (.sli 1 (.c 0) 1 (.v n) (some (.v n))), .c (.int .i64 c)] 90, .own [.c (.ptr 4 0), .c (.int .i64 z)] 52, .own [.c (.int .i64 x.1), .c (.int .i64 x.2), .c (.int .i64 x.3), .c (.int .i64 x.4), .c (.int .u32 x.5), .a (encInt IntKind.u32) 32 x.6, .c (.sb true), .c (.int .i64 x.8)] 107, .own [.c (.int .u32 (x.6.getD 0 (0 : Int))), .c (.int .u32 (x.6.getD 1 (0 : Int))), .c (.int .u32 (x.6.getD 2 (0 : Int))), .c (.int .u32 (x.6.getD 3 (0 : Int))), .c (.int .u32 (x.6.getD 4 (0 : Int))), .c (.int .u32 (x.6.getD 5 (0 : Int))), .c (.int .u32 (x.6.getD 6 (0 : Int))), .c (.int .u32 (x.6.getD 7 (0 : Int))), .c (.int .u32 (x.6.getD 8 (0 : Int))), .c (.int .u32 (x.6.getD 9 (0 : Int))), .c (.int .u32 (x.6.getD 10 (0 : Int))), .c (.int .u32 (x.6.getD 11 (0 : Int))), .c (.int .u32 (x.6.getD 12 (0 : Int))), .c (.int .u32 (x.6.getD 13 (0 : Int))), .c (.int .u32 (x.6.getD 14 (0 : Int))), .c (.int .u32 (x.6.getD 15 (0 : Int))), .c (.int .u32 (x.6.getD 16 (0 : Int))), .c (.int .u32 (x.6.getD 17 (0 : Int))), .c (.int .u32 (x.6.getD 18 (0 : Int))), .c (.int .u32 (x.6.getD 19 (0 : Int))), .c (.int .u32 (x.6.getD 20 (0 : Int))), .c (.int .u32 (x.6.getD 21 (0 : Int))), .c (.int .u32 (x.6.getD 22 (0 : Int))), .c (.int .u32 (x.6.getD 23 (0 : Int))), .c (.int .u32 (x.6.getD 24 (0 : Int))), .c (.int .u32 (x.6.getD 25 (0 : Int))), .c (.int .u32 (x.6.getD 26 (0 : Int))), .c (.int .u32 (x.6.getD 27 (0 : Int))), .c (.int .u32 (x.6.getD 28 (0 : Int))), .c (.int .u32 (x.6.getD 29 (0 : Int))), .c (.int .u32 (x.6.getD 30 (0 : Int))), .c (.int .u32 (x.6.getD 31 (0 : Int)))] 105] ∧ k ≤ 30 ∧ m ≤ 32 ∧ m ≤ 4 * k)

 (.need (decide (0 < x.2.toNat))
 (.eq (T.ret (SVal.int IntKind.u32 (x.6.getD (1 : Nat) (0 : Int))) = T.ret (SVal.int IntKind.u32 (x.6.getD (1 : Nat) (0 : Int))))
 (.eq (T.ret (SVal.int IntKind.i64 z) = T.ret (SVal.int IntKind.i64 z))
 (.eq (T.ret (SVal.int IntKind.u32 (x.6.getD (0 : Nat) (0 : Int))) = T.ret (SVal.int IntKind.u32 (x.6.getD (0 : Nat) (0 : Int))))
 (.eq (T.ret (SVal.int IntKind.u32 (x.6.getD (0 : Nat) (0 : Int))) = T.ret (SVal.int IntKind.u32 (x.6.getD (0 : Nat) (0 : Int))))

 (.ret (.tup [.str (strU (unpN (L32 x.l) m m)), .int .u32 (x.6.getD 0 (0 : Int)), .bl true], [.ro encLook [PUnit.unit], .own [.a (encInt IntKind.u32) n l] 35, .own [.c (.sli 1 (.c 0) 1 (.v n) (some (.v n))), .c (.int .i64 c)] 90, .own [.c (.ptr 4 0), .c (.int .i64 z)] 52, .own [.c (.int .i64 x.1), .c (.int .i64 x.2), .c (.int .i64 x.3), .c (.int .i64 x.4), .c (.int .u32 x.5), .a (encInt IntKind.u32) 32 x.6, .c (.sb true), .c (.int .i64 x.8)] 107, .own [.c (.int .u32 (x.6.getD 0 (0 : Int))), .c (.int .u32 (x.6.getD 1 (0 : Int))), .c (.int .u32 (x.6.getD 2 (0 : Int))), .c (.int .u32 (x.6.getD 3 (0 : Int))), .c (.int .u32 (x.6.getD 4 (0 : Int))), .c (.int .u32 (x.6.getD 5 (0 : Int))), .c (.int .u32 (x.6.getD 6 (0 : Int))), .c (.int .u32 (x.6.getD 7 (0 : Int))), .c (.int .u32 (x.6.getD 8 (0 : Int))), .c (.int .u32 (x.6.getD 9 (0 : Int))), .c (.int .u32 (x.6.getD 10 (0 : Int))), .c (.int .u32 (x.6.getD 11 (0 : Int))), .c (.int .u32 (x.6.getD 12 (0 : Int))), .c (.int .u32 (x.6.getD 13 (0 : Int))), .c (.int .u32 (x.6.getD 14 (0 : Int))), .c (.int .u32 (x.6.getD 15 (0 : Int))), .c (.int .u32 (x.6.getD 16 (0 : Int))), .c (.int .u32 (x.6.getD 17 (0 : Int))), .c (.int .u32 (x.6.getD 18 (0 : Int))), .c (.int .u32 (x.6.getD 19 (0 : Int))), .c (.int .u32 (x.6.getD 20 (0 : Int))), .c (.int .u32 (x.6.getD 21 (0 : Int))), .c (.int .u32 (x.6.getD 22 (0 : Int))), .c (.int .u32 (x.6.getD 23 (0 : Int))), .c (.int .u32 (x.6.getD 24 (0 : Int))), .c (.int .u32 (x.6.getD 25 (0 : Int))), .c (.int .u32 (x.6.getD 26 (0 : Int))), .c (.int .u32 (x.6.getD 27 (0 : Int))), .c (.int .u32 (x.6.getD 28 (0 : Int))), .c (.int .u32 (x.6.getD 29 (0 : Int))), .c (.int .u32 (x.6.getD 30 (0 : Int))), .c (.int .u32 (x.6.getD 31 (0 : Int)))] 105])))))))))))))))) := by kernel_rfl
end Go.Proofs.YtdadfgeepinpbaaDoor

/- Layer 19: what was read is what was written. -/
namespace Go.Proofs.YtdadfgeepinpbaaDoor
open Go Go.Proofs.YtdadfgeepinpbaaDoor.Sx
set_option linter.unusedVariables false
theorem sGt_ren {n : Nat} {l : List Int} {c : Int} {x : Rd} {z : Int} : renSt (List.range 5) (sGt n l c x z) (List.range 5) = some (sGt n l c x z) := by kernel_rfl
set_option maxHeartbeats 1000000 in
theorem msg_call {n : Nat} {l : List Int} {c : Int} {x : Rd} {z : Int} {k m : Nat} (hk : x.n = (k : Int) + 2) (hk1 : 1 ≤ k ∧ k ≤ 30) (hz : 0 ≤ z ∧ z ≤ 32) (hm : imin (x.l.getD 1 0) z = (m : Int)) (hm1 : m ≤ 32 ∧ m ≤ 4 * k) :
    ∀ (env : Env) (w : World) (vs : List Value), GlOk cfgM.gl env → Rep env (sGt n l c x z) w → DenL env [.ptr 3 0] vs → Calls cfgM.P 15 ⟨vs⟩ w (Ends1 env (sGt n l c x z) w (.tup [.str (strU (unpN (L32 x.l) m m)), .int .u32 (x.l.getD 0 0), .bl true]) (sGt n l c x z)) := by
  refine ends_allg (c := cfgU n l c x z k m) cfgU_ok m_call (by kernel_rfl) rfl sGt_ren rfl ?_
  have e1 : x.n.toNat = k + 2 := by omega
  have e2 : IntKind.u32.wrap z = z := wrap_inR (by rw [inR_u32]; omega)
  rw [e1, e2, hm]
  refine all_br (fun hh => by cases hh) (fun _ => ?_)
  repeat' (first
    | refine all_needq (by simp only [inR_i64]; exact Iff.rfl) (by omega) ?_
    | refine all_needq (by simp only [decide_eq_true_eq, Bool.and_eq_true]; exact Iff.rfl) (by omega) ?_
    | refine all_needq (by simp only [decide_eq_true_eq]; exact Iff.rfl) (by omega) ?_)
  refine all_eq ⟨by rw [show k + 2 - 2 = k by omega], rfl, by omega, by omega, by omega⟩ ?_
  refine all_needq (by simp only [decide_eq_true_eq]; exact Iff.rfl) (by omega) ?_
  refine all_eq rfl (all_eq rfl (all_eq rfl (all_eq rfl ?_)))
  exact all_ret ⟨_, rfl, rfl⟩
def bt (s : ByteArray) (i : Nat) : Nat := (s.data.getD i 0).toNat
theorem bt_lt (s : ByteArray) (i : Nat) : bt s i < 256 := UInt8.toNat_lt _
def fN (s : ByteArray) (i k j : Nat) : Nat := if 4 * k + j < i then bt s (4 * k + j) else 0
theorem fN_lt (s : ByteArray) (i k j : Nat) : fN s i k j < 256 := by
  unfold fN; split
  · exact bt_lt _ _
  · omega
def wN (s : ByteArray) (i k : Nat) : Nat := fN s i k 0 * 16777216 + fN s i k 1 * 65536 + fN s i k 2 * 256 + fN s i k 3
theorem or_add {A y t : Nat} (hy : y < 2 ^ t) (hb : 2 ^ t * A + y < 4294967296) : bitop .or .u32 ((2 ^ t * A : Nat) : Int) ((y : Nat) : Int) = ((2 ^ t * A + y : Nat) : Int) := by
  have h1 : low .u32 ((2 ^ t * A : Nat) : Int) = 2 ^ t * A := by
    have := low_u32 ((2 ^ t * A : Nat) : Int); omega
  have h2 : low .u32 ((y : Nat) : Int) = y := by
    have := low_u32 ((y : Nat) : Int); omega
  simp only [bitop]
  rw [h1, h2, ← Nat.two_pow_add_eq_or_of_lt hy, w32_mod]
  omega
theorem packN_w (s : ByteArray) : ∀ i, i ≤ 32 → ∀ k, k < 8 → (packN s i).getD k 0 = ((wN s i k : Nat) : Int)
  | 0, _, k, hk => by
    have : wN s 0 k = 0 := by simp [wN, fN]
    rw [this]
    have hq : k = 0 ∨ k = 1 ∨ k = 2 ∨ k = 3 ∨ k = 4 ∨ k = 5 ∨ k = 6 ∨ k = 7 := by omega
    rcases hq with rfl | rfl | rfl | rfl | rfl | rfl | rfl | rfl <;> rfl
  | i + 1, hi, k, hk => by
    have ih := packN_w s i (by omega)
    have hl := packN_len s i
    simp only [packN]
    by_cases hki : i / 4 = k
    · subst hki
      rw [Sx.getD_set_self (by omega), ih _ (by omega)]
      have hb : byteAt s i = ((bt s i : Nat) : Int) := rfl
      have hlt := bt_lt s i
      rw [hb]
      have f : ∀ j, fN s (i + 1) (i / 4) j = if j = i % 4 then bt s i else fN s i (i / 4) j := by
        intro j
        unfold fN
        by_cases hj : j = i % 4
        · subst hj
          have e : 4 * (i / 4) + i % 4 = i := by omega
          rw [e, if_pos (by omega), if_pos rfl]
        · rw [if_neg hj]
          by_cases h2 : 4 * (i / 4) + j < i
          · rw [if_pos (by omega), if_pos h2]
          · rw [if_neg (by omega), if_neg h2]
      have g : ∀ j, i % 4 ≤ j → fN s i (i / 4) j = 0 := by
        intro j hj
        unfold fN; rw [if_neg (by omega)]
      have f0 := fN_lt s i (i / 4) 0
      have f1 := fN_lt s i (i / 4) 1
      have f2 := fN_lt s i (i / 4) 2
      have hj : i % 4 = 0 ∨ i % 4 = 1 ∨ i % 4 = 2 ∨ i % 4 = 3 := by omega
      unfold wN
      rw [f 0, f 1, f 2, f 3]
      rcases hj with hj | hj | hj | hj
      · rw [hj] at g ⊢
        rw [g 0 (by omega), g 1 (by omega), g 2 (by omega), g 3 (by omega)]
        have h1 := or_add (A := 0) (y := bt s i * 16777216) (t := 32) (by omega) (by omega)
        have e1 : u32P (((bt s i : Nat) : Int) * 2 ^ (24 - 8 * 0)) = ((bt s i * 16777216 : Nat) : Int) := by
          rw [show u32P _ = _ from w32_mod _]; omega
        rw [e1]
        simp only [Nat.mul_zero, Nat.zero_add, Nat.zero_mul, Nat.add_zero] at h1 ⊢
        simpa using h1
      · rw [hj] at g ⊢
        rw [g 1 (by omega), g 2 (by omega), g 3 (by omega)]
        have h1 := or_add (A := fN s i (i / 4) 0) (y := bt s i * 65536) (t := 24) (by omega) (by omega)
        have e1 : u32P (((bt s i : Nat) : Int) * 2 ^ (24 - 8 * 1)) = ((bt s i * 65536 : Nat) : Int) := by
          rw [show u32P _ = _ from w32_mod _]; omega
        rw [e1, show fN s i (i / 4) 0 * 16777216 + 0 * 65536 + 0 * 256 + 0 = 2 ^ 24 * fN s i (i / 4) 0 by omega, h1]
        simp
        omega
      · rw [hj] at g ⊢
        rw [g 2 (by omega), g 3 (by omega)]
        have h1 := or_add (A := fN s i (i / 4) 0 * 256 + fN s i (i / 4) 1) (y := bt s i * 256) (t := 16) (by omega) (by omega)
        have e1 : u32P (((bt s i : Nat) : Int) * 2 ^ (24 - 8 * 2)) = ((bt s i * 256 : Nat) : Int) := by
          rw [show u32P _ = _ from w32_mod _]; omega
        rw [e1, show fN s i (i / 4) 0 * 16777216 + fN s i (i / 4) 1 * 65536 + 0 * 256 + 0 = 2 ^ 16 * (fN s i (i / 4) 0 * 256 + fN s i (i / 4) 1) by omega, h1]
        simp
        omega
      · rw [hj] at g ⊢
        rw [g 3 (by omega)]
        have h1 := or_add (A := fN s i (i / 4) 0 * 65536 + fN s i (i / 4) 1 * 256 + fN s i (i / 4) 2) (y := bt s i) (t := 8) (by omega) (by omega)
        have e1 : u32P (((bt s i : Nat) : Int) * 2 ^ (24 - 8 * 3)) = ((bt s i : Nat) : Int) := by
          rw [show u32P _ = _ from w32_mod _]; omega
        rw [e1, show fN s i (i / 4) 0 * 16777216 + fN s i (i / 4) 1 * 65536 + fN s i (i / 4) 2 * 256 + 0 = 2 ^ 8 * (fN s i (i / 4) 0 * 65536 + fN s i (i / 4) 1 * 256 + fN s i (i / 4) 2) by omega, h1]
        simp
        omega
    · rw [Sx.getD_set_ne hki, ih k hk]
      have f : ∀ j, j < 4 → fN s (i + 1) k j = fN s i k j := by
        intro j hj
        unfold fN
        by_cases h2 : 4 * k + j < i
        · rw [if_pos (by omega), if_pos h2]
        · rw [if_neg (by omega), if_neg h2]
      have e : wN s (i + 1) k = wN s i k := by
        unfold wN
        rw [f 0 (by omega), f 1 (by omega), f 2 (by omega), f 3 (by omega)]
      rw [e]
end Go.Proofs.YtdadfgeepinpbaaDoor

/- Layer 19, plain: a message's words give it back. -/
namespace Go.Proofs.YtdadfgeepinpbaaDoor
open Go Go.Proofs.YtdadfgeepinpbaaDoor.Sx
set_option linter.unusedVariables false
theorem w8_mod (x : Int) : IntKind.u8.wrap x = x % 256 := by
  simp [IntKind.wrap, IntKind.signed, IntKind.bits]
theorem byteU_ok {L : List Int} {s : ByteArray} {z i : Nat} (hL : L.getD (2 + i / 4) 0 = ((wN s z (i / 4) : Nat) : Int)) (hi : i < z) : byteU L i = ((bt s i : Nat) : Int) := by
  have f0 := fN_lt s z (i / 4) 0
  have f1 := fN_lt s z (i / 4) 1
  have f2 := fN_lt s z (i / 4) 2
  have f3 := fN_lt s z (i / 4) 3
  have hs : fN s z (i / 4) (i % 4) = bt s i := by
    unfold fN
    have e : 4 * (i / 4) + i % 4 = i := by omega
    rw [e, if_pos hi]
  have hj : i % 4 = 0 ∨ i % 4 = 1 ∨ i % 4 = 2 ∨ i % 4 = 3 := by omega
  unfold byteU
  rw [hL, w8_mod]
  unfold wN
  rcases hj with hj | hj | hj | hj <;> rw [hj] at hs ⊢ <;> rw [← hs]
  · rw [show ((2 : Int) ^ (24 - 8 * 0)) = 16777216 from rfl, Int.fdiv_eq_ediv_of_nonneg _ (by omega)]; omega
  · rw [show ((2 : Int) ^ (24 - 8 * 1)) = 65536 from rfl, Int.fdiv_eq_ediv_of_nonneg _ (by omega)]; omega
  · rw [show ((2 : Int) ^ (24 - 8 * 2)) = 256 from rfl, Int.fdiv_eq_ediv_of_nonneg _ (by omega)]; omega
  · rw [show ((2 : Int) ^ (24 - 8 * 3)) = 1 from rfl, Int.fdiv_eq_ediv_of_nonneg _ (by omega)]; omega
theorem unpN_getD {L : List Int} {m : Nat} : ∀ i, i ≤ m → ∀ j, j < m → (unpN L m i).getD j 0 = if j < i then byteU L j else 0
  | 0, _, j, hj => by simp only [unpN, Nat.not_lt_zero, if_false]; exact Sx.getD_replicate ..
  | i + 1, hi, j, hj => by
    have ih := unpN_getD (L := L) (m := m) i (by omega) j hj
    have hl := unpN_len L m i
    simp only [unpN]
    by_cases hji : i = j
    · subst hji
      rw [Sx.getD_set_self (by omega), if_pos (by omega)]
    · rw [Sx.getD_set_ne hji, ih]
      by_cases h2 : j < i
      · rw [if_pos h2, if_pos (by omega)]
      · rw [if_neg h2, if_neg (by omega)]
theorem flat_u8 : ∀ B : List Int, B.flatMap (encInt .u8).enc = B.map (SVal.int .u8)
  | [] => rfl
  | b :: B => by
    rw [List.flatMap_cons, List.map_cons, flat_u8 B]; rfl
theorem str_back {s : ByteArray} {L : List Int} (h : ∀ i, i < s.size → byteU L i = ((bt s i : Nat) : Int)) : strU (unpN L s.size s.size) = s := by
  obtain ⟨⟨l⟩⟩ := s
  have hsz : (ByteArray.mk ⟨l⟩).size = l.length := rfl
  rw [hsz] at h ⊢
  have hlen := unpN_len L l.length l.length
  unfold strU
  rw [flat_u8, List.map_map]
  congr 2
  refine List.ext_getElem (by simp [hlen]) fun i h1 h2 => ?_
  rw [List.getElem_map]
  have h3 := unpN_getD (L := L) (m := l.length) l.length (Nat.le_refl _) i h2
  rw [if_pos h2, h i h2] at h3
  have h4 : (unpN L l.length l.length).getD i 0 = (unpN L l.length l.length)[i]'(by omega) := by
    rw [List.getD_eq_getElem?_getD, List.getElem?_eq_getElem (by omega)]; rfl
  rw [← h4, h3]
  have h5 : bt (ByteArray.mk ⟨l⟩) i = l[i].toNat := by
    simp [bt, h2]
  rw [h5]
  show UInt8.ofNat (((l[i].toNat : Nat) : Int)).toNat = l[i]
  rw [Int.toNat_natCast]
  exact UInt8.ofNat_toNat
end Go.Proofs.YtdadfgeepinpbaaDoor

