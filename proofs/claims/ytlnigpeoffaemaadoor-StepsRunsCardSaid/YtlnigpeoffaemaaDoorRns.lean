/- StepsRuns: runs and rounds are their picks, one by one. -/
import Derived.Test.YtlnigpeoffaemaaDoorTsk
import Derived.Test.YtlnigpeoffaemaaDoorSxC
import Derived.Test.YtlnigpeoffaemaaDoorCards
import Derived.Test.YtlnigpeoffaemaaDoorTie
import Derived.ProofKit
import Derived.LaidMore
import Derived.OpenShut
import Derived.Stop.Joined
/- StepsLose: pieces and states. -/
namespace Go.Proofs.YtlnigpeoffaemaaDoor
open Go Go.Proofs.YtlnigpeoffaemaaDoor.Sx
set_option linter.unusedVariables false
/-- a byte -/
structure U8 where
  v : Int
  h : 0 ≤ v ∧ v ≤ 255
def encU8 : Enc U8 := encOf 0 (fun x => [.int .u8 x.v]) ⟨0, by omega⟩ (fun _ => rfl) (by intro env env' x vs h; simpa [DenL, Den] using h)
/-- tasks, the last one of which may be no member of a family yet -/
def encTsN (a b o : Nat) : Enc (Bool × Option Nat) where
  tag := .other
  shut := false
  shutOk := by simp
  sz := 1
  enc x := match x with
    | (k, some i) => [.sw k (.ifc 84 (.pto a i 0)) (.ifc 74 (.pto b i 0))]
    | (k, none) => [.sw k (.ifc 84 (.ptr o 0)) (.ifc 74 (.ptr o 0))]
  dec l := match l with
    | [.ifc t (.ptr i j)] => match Nat.decEq i o, Nat.decEq j 0 with
      | .isTrue _, .isTrue _ => match Nat.decEq t 84, Nat.decEq t 74 with
        | .isTrue _, _ => some (true, none)
        | _, .isTrue _ => some (false, none)
        | _, _ => none
      | _, _ => none
    | _ => none
  dflt := (false, none)
  top := some (max (max a b) o + 1)
  topOk := by
    intro k hk m hm x
    simp only [Option.some.injEq] at hk; subst hk
    have e1 := idx_pref hm (show a < max (max a b) o + 1 by omega)
    have e2 := idx_pref hm (show b < max (max a b) o + 1 by omega)
    have e3 := idx_pref hm (show o < max (max a b) o + 1 by omega)
    match x with
    | (k, some i) => simp [renL, ren, e1, e2]
    | (k, none) => simp [renL, ren, e3]
  pos := by omega
  len x := by match x with
    | (k, some i) => rfl
    | (k, none) => rfl
  ok := by
    intro env l x vs h hd
    split at h
    · split at h
      · rename_i h1 h2 _ _
        subst h1 h2
        split at h
        · rename_i _ _ h3 _
          subst h3
          simp only [Option.some.injEq] at h; subst h
          obtain ⟨u, us, rfl, h4, h5⟩ := hd
          exact ⟨u, us, rfl, .inl ⟨rfl, h4⟩, h5⟩
        · rename_i _ _ h3 _ _
          subst h3
          simp only [Option.some.injEq] at h; subst h
          obtain ⟨u, us, rfl, h4, h5⟩ := hd
          exact ⟨u, us, rfl, .inr ⟨rfl, h4⟩, h5⟩
        · cases h
      · cases h
    · cases h
abbrev someT (ts : List (Bool × Nat)) : List (Bool × Option Nat) := ts.map fun t => (t.1, some t.2)
theorem someT_den {env : Env} {o : Nat} {ts : List (Bool × Nat)} {cs : List Value} (h : DenL env (ts.flatMap (encTs 3 4).enc) cs) : DenL env ((someT ts).flatMap (encTsN 3 4 o).enc) cs := by
  rw [List.flatMap_map]; exact h
theorem tsN_tw {env : Env} {o k : Nat} (hp : ∀ v, Den env (.ptr o 0) v → Den env (.pto 4 k 0) v) {ts : List (Bool × Nat)} {cs : List Value} (h : DenL env ((someT ts ++ [(false, none)]).flatMap (encTsN 3 4 o).enc) cs) :
    DenL env ((ts ++ [(false, k)]).flatMap (encTs 3 4).enc) cs := by
  rw [List.flatMap_append, List.flatMap_map] at h
  rw [List.flatMap_append]
  obtain ⟨us, vs, rfl, h1, h2⟩ := denL_split h
  refine denL_append h1 ?_
  obtain ⟨u, us', rfl, h3, h4⟩ := h2
  refine ⟨u, us', rfl, ?_, h4⟩
  rcases h3 with ⟨h5, _⟩ | ⟨_, w, rfl, h6⟩
  · cases h5
  · exact .inr ⟨rfl, w, rfl, hp _ h6⟩
theorem tsN_ad {env : Env} {o k : Nat} (hp : ∀ v, Den env (.ptr o 0) v → Den env (.pto 3 k 0) v) {ts : List (Bool × Nat)} {cs : List Value} (h : DenL env ((someT ts ++ [(true, none)]).flatMap (encTsN 3 4 o).enc) cs) :
    DenL env ((ts ++ [(true, k)]).flatMap (encTs 3 4).enc) cs := by
  rw [List.flatMap_append, List.flatMap_map] at h
  rw [List.flatMap_append]
  obtain ⟨us, vs, rfl, h1, h2⟩ := denL_split h
  refine denL_append h1 ?_
  obtain ⟨u, us', rfl, h3, h4⟩ := h2
  refine ⟨u, us', rfl, ?_, h4⟩
  rcases h3 with ⟨_, w, rfl, h6⟩ | ⟨h5, _⟩
  · exact .inl ⟨rfl, w, rfl, hp _ h6⟩
  · cases h5
/-- what comes in -/
structure In8 where
  times : List U8
  cap : Nat
  picks : List Int
  cap' : Nat
abbrev timesV (p : In8) (i : Nat) : SVal := .sli i (.c 0) 1 (.v p.times.length) (some (.v p.cap))
abbrev picksV (p : In8) (i : Nat) : SVal := .sli i (.c 0) 1 (.v p.picks.length) (some (.v p.cap'))
abbrev s0 (p : In8) : St := [lookB, .ro encU8 p.times, .ro (encInt .i64) p.picks]
/-- in the loop that makes tasks -/
abbrev sMk (p : In8) (xs : List Ad) (ys : List Tw) (ts : List (Bool × Nat)) : St := famS 1 [0] 0 xs ys ++ [.ro encU8 p.times, .ro (encInt .i64) p.picks, .vec (encTs 3 4) ts 44]
abbrev sMn (p : In8) (xs : List Ad) (ys : List Tw) (ts : List (Bool × Option Nat)) : St := famS 1 [0] 0 xs ys ++ [.ro encU8 p.times, .ro (encInt .i64) p.picks, .vec (encTsN 3 4 8) ts 44]
noncomputable def b6 : Code := Tryd.f6.body.getD .skip
noncomputable def c6 : Code := restC 4 b6
noncomputable def reg6 : Code := lft (lft c6)
noncomputable def blk6 : Code := rgt (lft c6)
noncomputable def round6 : Code := lft (lft blk6)
noncomputable def tm6 : Code := lft round6
noncomputable def bb6 : Code := lft (lft (rgt round6))
noncomputable def inc6 : Code := rgt (rgt round6)
noncomputable def d6 : Code := rgt c6
noncomputable def e6 : Code := restC 2 d6
noncomputable def reg6b : Code := lft (lft e6)
noncomputable def blk6b : Code := rgt (lft e6)
noncomputable def round6b : Code := lft (lft blk6b)
noncomputable def tm6b : Code := lft round6b
noncomputable def bb6b : Code := lft (lft (rgt round6b))
noncomputable def inc6b : Code := rgt (rgt round6b)
noncomputable def f6' : Code := rgt e6
abbrev n6a : List Nat := [0, 1, 5, 7, 8]
abbrev n6p : List Nat := [0, 1, 5, 7, 8, 4]
abbrev n6b : List Nat := [0, 1, 5, 7, 8, 9]
abbrev n6n : List Nat := [54, 0, 1, 5, 7, 8, 9]
abbrev v6 (p : In8) (m : Nat) (sum : Int) : List SVal := [timesV p 5, picksV p 6, .ptr 1 0, .sli 7 (.c 0) 1 (.v m) none, .int .u32 sum]
end Go.Proofs.YtlnigpeoffaemaaDoor

/- StepsLose: its configuration. -/
namespace Go.Proofs.YtlnigpeoffaemaaDoor
open Go Go.Proofs.YtlnigpeoffaemaaDoor.Sx
set_option linter.unusedVariables false
noncomputable def cfgL : Cfg := { P := Tryd.prog, ex := exI, gl := [(0, 0)], sm := fun f => match f with | 10 => some (smClosed [0] [lookB] (.bl true)) | 11 => some smNew | _ => none }
theorem cfgL_ok : SmOk cfgL := by
  intro f g h
  simp only [cfgL] at h
  split at h
  · simp only [Option.some.injEq] at h; subst h
    exact smClosedE_ok cfg0_ok awake_val ⟨new0, new1, rfl, rfl, rfl, rfl, rfl, rfl, rfl, rfl, rfl, rfl, rfl, rfl, rfl, rfl, rfl, trivial⟩ (by kernel_rfl) rfl rfl (by intro b hb e; rw [List.mem_singleton.1 hb]; rfl)
  · simp only [Option.some.injEq] at h; subst h
    exact smAny_ok cfgN_ok (by kernel_rfl) new_sel
  · cases h
end Go.Proofs.YtlnigpeoffaemaaDoor

namespace Go.Proofs.YtlnigpeoffaemaaDoor
open Go Go.Proofs.YtlnigpeoffaemaaDoor.Sx
set_option linter.unusedVariables false
set_option maxRecDepth 100000 in
theorem t6_pre {p : In8} : (execN cfgL 100 4 b6 ([timesV p 1, picksV p 2] ++ List.replicate 107 .bad) (s0 p)).bind (canonK 0 [(0,0)] 109 n6p) =
 

 (.eq (some [Blk.ro encLook [PUnit.unit]] = some [Blk.ro encLook [PUnit.unit]])

 (.br (decide ((6 : Int) < (↑p.1.length : Int)))

 (.eq (some [Blk.ro encLook [PUnit.unit]] = some [Blk.ro encLook [PUnit.unit]])

 (.ret (.ret, [.sli 1 (.c 0) 1 (.v p.1.length) (some (.v p.2)), .sli 2 (.c 0) 1 (.v p.3.length) (some (.v p.4)), .ptr 3 0, .bad, .bad, .bl true], [.ro encLook [PUnit.unit], .ro encU8 p.1, .ro (encInt IntKind.i64) p.3, .own [.c (.sli 4 (.c 0) 1 (.c 1) (some (.c 1))), .c (.lit .i64 (0 : Int))] 67, .own [.c (.lit .u32 (0 : Int))] 45])))

 (.ret (.normal, [.sli 1 (.c 0) 1 (.v p.1.length) (some (.v p.2)), .sli 2 (.c 0) 1 (.v p.3.length) (some (.v p.4)), .ptr 3 0, .sli 5 (.c 0) 1 (.c 0) (some (.c 0)), .lit .u32 (0 : Int), .bl false], [.ro encLook [PUnit.unit], .ro encU8 p.1, .ro (encInt IntKind.i64) p.3, .own [.c (.sli 4 (.c 0) 1 (.c 1) (some (.c 1))), .c (.lit .i64 (0 : Int))] 67, .own [.c (.lit .u32 (0 : Int))] 45, .own [] 44])))) := by kernel_rfl
set_option maxRecDepth 100000 in
theorem t6_reg {p : In8} {xs : List Ad} {ys : List Tw} {ts : List (Bool × Nat)} {sum : Int} : (exec cfgM 100 reg6 (fr 109 n6a (v6 p ts.length sum)) (sMk p xs ys ts)).bind (canonK 7 [(0,0)] 109 n6b) =
 

 (.ret (.normal, [.sli 5 (.c 0) 1 (.v p.1.length) (some (.v p.2)), .sli 6 (.c 0) 1 (.v p.3.length) (some (.v p.4)), .ptr 1 0, .sli 7 (.c 0) 1 (.v ts.length) none, .int .u32 sum, .lit .i64 (0 : Int)], [.ro encLook [PUnit.unit], .own [.c (.sli 2 (.c 0) 1 (.v 1) (some (.v 1))), .c (.int .i64 (0 : Int))] 67, .own [.a (encInt IntKind.u32) 1 [(0 : Int)]] 45, .many encAd xs 86, .many encTw ys 78, .ro encU8 p.1, .ro (encInt IntKind.i64) p.3, .vec (encTs 3 4) ts 44])) := by kernel_rfl
set_option maxRecDepth 100000 in
theorem t6_tm {p : In8} {xs : List Ad} {ys : List Tw} {ts : List (Bool × Nat)} {sum : Int} {i : Nat} : (exec cfgM 100 tm6 (fr 109 n6b (v6 p ts.length sum ++ [.int .i64 (i : Nat)])) (sMk p xs ys ts)).bind (canonK 7 [(0,0)] 109 n6b) =
 

 (.br (decide ((↑i : Int) < (↑p.1.length : Int)))

 (.ret (.normal, [.sli 5 (.c 0) 1 (.v p.1.length) (some (.v p.2)), .sli 6 (.c 0) 1 (.v p.3.length) (some (.v p.4)), .ptr 1 0, .sli 7 (.c 0) 1 (.v ts.length) none, .int .u32 sum, .int .i64 (↑i : Int)], [.ro encLook [PUnit.unit], .own [.c (.sli 2 (.c 0) 1 (.v 1) (some (.v 1))), .c (.int .i64 (0 : Int))] 67, .own [.a (encInt IntKind.u32) 1 [(0 : Int)]] 45, .many encAd xs 86, .many encTw ys 78, .ro encU8 p.1, .ro (encInt IntKind.i64) p.3, .vec (encTs 3 4) ts 44]))

 (.ret (.exit 0, [.sli 5 (.c 0) 1 (.v p.1.length) (some (.v p.2)), .sli 6 (.c 0) 1 (.v p.3.length) (some (.v p.4)), .ptr 1 0, .sli 7 (.c 0) 1 (.v ts.length) none, .int .u32 sum, .int .i64 (↑i : Int)], [.ro encLook [PUnit.unit], .own [.c (.sli 2 (.c 0) 1 (.v 1) (some (.v 1))), .c (.int .i64 (0 : Int))] 67, .own [.a (encInt IntKind.u32) 1 [(0 : Int)]] 45, .many encAd xs 86, .many encTw ys 78, .ro encU8 p.1, .ro (encInt IntKind.i64) p.3, .vec (encTs 3 4) ts 44]))) := by kernel_rfl
set_option maxRecDepth 100000 in
theorem t6_mk {p : In8} {xs : List Ad} {ys : List Tw} {ts : List (Bool × Option Nat)} {sum : Int} {i : Nat} : (exec cfgM 100 bb6 (fr 109 n6b (v6 p ts.length sum ++ [.int .i64 (i : Nat)])) (sMn p xs ys ts)).bind (canonK 7 [(0,0)] 109 n6n) =
 

 (.need (decide ((0 : Int) ≤ (↑i : Int)) && decide ((↑i : Int).toNat < p.1.length))

 (.need (decide ((↑i : Int).toNat < p.1.length))

 (.need (inR .u32 (p.1.getD (↑i : Int).toNat { v := (0 : Int), h := encU8._proof_2 }).v)

 (.need (true)

 (.need (inR .i64 ((p.1.getD (↑i : Int).toNat { v := (0 : Int), h := encU8._proof_2 }).v.tmod (12 : Int)))

 (.need (true)

 (.need (decide (ts.length = ts.length))

 (.need (roomy (ts.length + 1) 16)

 (.ret (.normal, [.ifc 74 (.ptr 7 0), .sli 5 (.c 0) 1 (.v p.1.length) (some (.v p.2)), .sli 6 (.c 0) 1 (.v p.3.length) (some (.v p.4)), .ptr 1 0, .sli 8 (.c 0) 1 (.v (ts.length + 1)) none, .int .u32 (IntKind.u32.wrap (sum + (p.1.getD (↑i : Int).toNat { v := (0 : Int), h := encU8._proof_2 }).v.tmod (12 : Int))), .int .i64 (↑i : Int)], [.ro encLook [PUnit.unit], .own [.c (.sli 2 (.c 0) 1 (.v 1) (some (.v 1))), .c (.int .i64 (0 : Int))] 67, .own [.a (encInt IntKind.u32) 1 [(0 : Int)]] 45, .many encAd xs 86, .many encTw ys 78, .ro encU8 p.1, .ro (encInt IntKind.i64) p.3, .own [.c (.lit .i64 (0 : Int)), .c (.int .i64 ((p.1.getD (↑i : Int).toNat { v := (0 : Int), h := encU8._proof_2 }).v.tmod (12 : Int))), .c (.bl false), .c (.lit .u32 (0 : Int)), .c (SVal.fn (Fn.func 27) [] [])] 78, .vec (encRow 0) (renRows [0, 1, 2, 3, 4, 5, 6, 8, 10] (encTsN 3 4 8) (ts ++ [(false, none)])) 44])))))))))) := by kernel_rfl
set_option maxRecDepth 100000 in
theorem t6_inc {p : In8} {xs : List Ad} {ys : List Tw} {ts : List (Bool × Nat)} {sum : Int} {i : Nat} : (exec cfgM 100 inc6 (fr 109 n6b (v6 p ts.length sum ++ [.int .i64 (i : Nat)])) (sMk p xs ys ts)).bind (canonK 7 [(0,0)] 109 n6b) =
 

 (.need (inR .i64 ((↑i : Int) + (1 : Int)))

 (.ret (.normal, [.sli 5 (.c 0) 1 (.v p.1.length) (some (.v p.2)), .sli 6 (.c 0) 1 (.v p.3.length) (some (.v p.4)), .ptr 1 0, .sli 7 (.c 0) 1 (.v ts.length) none, .int .u32 sum, .int .i64 ((↑i : Int) + (1 : Int))], [.ro encLook [PUnit.unit], .own [.c (.sli 2 (.c 0) 1 (.v 1) (some (.v 1))), .c (.int .i64 (0 : Int))] 67, .own [.a (encInt IntKind.u32) 1 [(0 : Int)]] 45, .many encAd xs 86, .many encTw ys 78, .ro encU8 p.1, .ro (encInt IntKind.i64) p.3, .vec (encTs 3 4) ts 44]))) := by kernel_rfl
set_option maxRecDepth 100000 in
theorem t6_new {p : In8} {xs : List Ad} {ys : List Tw} {ts : List (Bool × Nat)} {sum : Int} {i : Nat} : (execN cfgL 100 2 d6 (fr 109 n6b (v6 p ts.length sum ++ [.int .i64 (i : Nat)])) (sMk p xs ys ts)).bind (canonK 7 [(0,0)] 109 [0, 1, 5, 8, 11]) =
 

 (.eq (anyP cfgN 100 11 [.ptr 1 0, .sli 7 (.c 0) 1 (.v ts.length) none] [.ro encLook [PUnit.unit], .own [.c (.sli 2 (.c 0) 1 (.v 1) (some (.v 1))), .c (.int .i64 (0 : Int))] 67, .own [.a (encInt IntKind.u32) 1 [(0 : Int)]] 45, .many encAd xs 86, .many encTw ys 78, .ro encU8 p.1, .ro (encInt IntKind.i64) p.3, .vec (encTs 3 4) ts 44])

 (.need (decide (0 + ts.length ≤ ts.length))

 (.need (decide (0 + ts.length ≤ ts.length))

 (.need (roomy (List.take ts.length (List.drop 0 ts)).length 16)

 (.need (decide ((0 : Int) ≤ (↑ts.length : Int)))

 (.need (decide ((↑ts.length : Int) * (1 : Int) ≤ (140737488355328 : Int)))

 (.need (decide ((↑ts.length : Int) ≤ (4611686018427387904 : Int)))

 (.ret (.normal, [.sli 5 (.c 0) 1 (.v p.1.length) (some (.v p.2)), .sli 6 (.c 0) 1 (.v p.3.length) (some (.v p.4)), .ptr 1 0, .int .u32 sum, .ptr 7 0], [.ro encLook [PUnit.unit], .own [.c (.sli 2 (.c 0) 1 (.v 1) (some (.v 1))), .c (.int .i64 (0 : Int))] 67, .own [.a (encInt IntKind.u32) 1 [(0 : Int)]] 45, .many encAd xs 86, .many encTw ys 78, .ro encU8 p.1, .ro (encInt IntKind.i64) p.3, .own [.c (.ptr 1 0), .c (.sli 8 (.c 0) 1 (.v (List.take ts.length (List.drop 0 ts)).length) none), .c (.sli 9 (.c 0) 1 (.v (↑ts.length : Int).toNat) (some (.v (↑ts.length : Int).toNat)))] 70, .vec (encTs 3 4) (List.take ts.length (List.drop 0 ts)) 44, .own [.a encBool (↑ts.length : Int).toNat (List.replicate (↑ts.length : Int).toNat false)] 4]))))))))) := by kernel_rfl
end Go.Proofs.YtlnigpeoffaemaaDoor

/- StepsLose: the making of tasks. -/
namespace Go.Proofs.YtlnigpeoffaemaaDoor
open Go Go.Proofs.YtlnigpeoffaemaaDoor.Sx
set_option linter.unusedVariables false
def mkTw (u : U8) : Tw := ⟨0, u.v.tmod 12, false, 0, false⟩
def ysAt (p : In8) (i : Nat) : List Tw := (p.times.take i).map mkTw
def sumW (ys : List Tw) : Int := (ys.map (·.times)).sum
def tsB (i : Nat) : List (Bool × Nat) := (List.range i).map fun j => (false, j)
theorem tsB_len (i : Nat) : (tsB i).length = i := by simp [tsB]
theorem tsB_succ (i : Nat) : tsB (i + 1) = tsB i ++ [(false, i)] := by simp [tsB, List.range_succ]
theorem tmod12 (u : U8) : 0 ≤ u.v.tmod 12 ∧ u.v.tmod 12 ≤ 11 := by
  have := u.h
  rw [Int.tmod_eq_emod_of_nonneg this.1]; omega
theorem ysAt_len {p : In8} {i : Nat} (h : i ≤ p.times.length) : (ysAt p i).length = i := by simp [ysAt]; omega
theorem ysAt_succ {p : In8} {i : Nat} (h : i < p.times.length) : ysAt p (i + 1) = ysAt p i ++ [mkTw (p.times.getD i encU8.dflt)] := by
  unfold ysAt
  rw [List.take_add_one, List.map_append]
  simp [List.getD_eq_getElem?_getD, h]
theorem sumW_succ {p : In8} {i : Nat} (h : i < p.times.length) : sumW (ysAt p (i + 1)) = sumW (ysAt p i) + (p.times.getD i encU8.dflt).v.tmod 12 := by
  rw [ysAt_succ h, sumW, List.map_append, List.sum_append]
  simp [sumW, mkTw]
theorem w32_small {x : Int} (h : 0 ≤ x) (h' : x < 4294967296) : IntKind.u32.wrap x = x := wrap_inR (by rw [inR_u32]; omega)
theorem sumW_le {p : In8} : ∀ {i : Nat}, 0 ≤ sumW (ysAt p i) ∧ sumW (ysAt p i) ≤ 11 * i := by
  intro i
  have h : ∀ l : List U8, 0 ≤ ((l.map mkTw).map (·.times)).sum ∧ ((l.map mkTw).map (·.times)).sum ≤ 11 * l.length := by
    intro l
    induction l with
    | nil => simp
    | cons u l ih =>
      have := tmod12 u
      simp only [List.map_cons, List.sum_cons, mkTw, List.length_cons] at ih ⊢
      push_cast
      omega
  have := h (p.times.take i)
  have hl : (p.times.take i).length ≤ i := by simp; omega
  unfold sumW ysAt
  constructor
  · exact this.1
  · have := this.2; omega
abbrev Q6 (w0 : From) : Exit → Act → World → Prop := bodyPost Tryd.prog Tryd.f6 (Said w0)
def InvL (w0 : From) (p : In8) (i : Nat) (a : Act) (w : World) : Prop :=
  i ≤ p.times.length ∧ ∃ env, AtK [] [(0, 0)] w0 env (fr 109 n6b (v6 p i (sumW (ysAt p i)) ++ [.int .i64 (i : Nat)])) (sMk p [] (ysAt p i) (tsB i)) a w
abbrev RL (w0 : From) (p : In8) (i : Nat) : Exit → Act → World → Prop :=
  Exit.then (fun a' w' => ∃ k, InvL w0 p k a' w' ∧ p.times.length - k < p.times.length - i) (Exit.inBlock 0 (Exit.then (d6.wp Tryd.prog (Q6 w0)) (Q6 w0)))
theorem encN_ren (x : Bool × Option Nat) : renL [0, 1, 2, 3, 4, 5, 6, 8, 10] ((encTsN 3 4 8).enc x) = (encTsN 3 4 7).enc x := by
  match x with
  | (k, some i) => rfl
  | (k, none) => rfl
set_option maxHeartbeats 1000000 in
theorem roundL_ok {w0 : From} {p : In8} (h6 : p.times.length ≤ 6)
    (hd : ∀ {env : Env} {a : Act} {w : World}, AtK [] [(0, 0)] w0 env (fr 109 n6b (v6 p p.times.length (sumW (ysAt p p.times.length)) ++ [.int .i64 (p.times.length : Nat)])) (sMk p [] (ysAt p p.times.length) (tsB p.times.length)) a w → d6.wp Tryd.prog (Q6 w0) a w)
    {i : Nat} {a : Act} {w : World} (h : InvL w0 p i a w) : round6.wp Tryd.prog (RL w0 p i) a w := by
  obtain ⟨hi, env, hA⟩ := h
  refine wpS (by kernel_rfl) ?_
  have hlt := tsB_len i
  have hA' : AtK [] [(0, 0)] w0 env (fr 109 n6b (v6 p (tsB i).length (sumW (ysAt p i)) ++ [.int .i64 (i : Nat)])) (sMk p [] (ysAt p i) (tsB i)) a w := by rw [hlt]; exact hA
  refine pieceTK2 (c := cfgM) cfgM_ok n6b t6_tm (by simp) (by simp) hA' ?_
  refine all_brp (by simp only [decide_eq_true_eq]; exact Iff.rfl) (fun h1 => all_ret fun env1 a1 w1 hA1 => ?_) (fun h1 => all_ret fun env1 a1 w1 hA1 => ?_)
  · simp only [Ex.to, Exit.then]
    have hi' : i < p.times.length := by omega
    refine (show (rgt round6).wp Tryd.prog (RL w0 p i) a1 w1 from wpS (by kernel_rfl) (wpB 1 (by kernel_rfl) ?_))
    refine (show bb6.wp Tryd.prog (Exit.inBlock 1 (Exit.then (inc6.wp Tryd.prog (RL w0 p i)) (RL w0 p i))) a1 w1 from ?_)
    have hsl : (someT (tsB i)).length = (tsB i).length := by simp
    have hA2 : AtK [] [(0, 0)] w0 env1 (fr 109 n6b (v6 p (someT (tsB i)).length (sumW (ysAt p i)) ++ [.int .i64 (i : Nat)])) (sMn p [] (ysAt p i) (someT (tsB i))) a1 w1 := by
      rw [hsl]
      exact hA1.on fun h => h.typede 7 (E' := encTsN 3 4 8) (ys := someT (tsB i)) rfl (by simp) rfl (fun cs h => someT_den h)
    refine pieceTK2 (c := cfgM) cfgM_ok n6n t6_mk (by simp) (by simp) hA2 ?_
    have hs := sumW_succ hi'
    have hx := ysAt_succ hi'
    simp only [Int.toNat_natCast]
    rw [show encU8.dflt = (⟨0, by omega⟩ : U8) from rfl] at hs hx
    have hu := tmod12 (p.times.getD i ⟨0, by omega⟩)
    have hur := (p.times.getD i ⟨0, by omega⟩).h
    have hle := sumW_le (p := p) (i := i)
    refine all_needq (by simp only [decide_eq_true_eq, Bool.and_eq_true]; exact Iff.rfl) (by omega) ?_
    refine all_needq (by simp only [decide_eq_true_eq]; exact Iff.rfl) (by omega) ?_
    refine all_needq (by simp only [inR_u32]; exact Iff.rfl) (by omega) ?_
    refine all_need rfl fun _ => ?_
    refine all_needq (by simp only [inR_i64]; exact Iff.rfl) (by omega) ?_
    refine all_need rfl fun _ => ?_
    refine all_need (by simp) fun _ => ?_
    refine all_needq (by simp only [roomy_iff]; exact Iff.rfl) (by rw [hsl, hlt]; omega) ?_
    refine all_ret fun env2 a2 w2 hA3 => ?_
    rw [w32_small (by omega) (by omega), ← hs, hsl, hlt] at hA3
    have hA4 := hA3.on fun h => h.retype 8 (E := encTsN 3 4 8) rfl (encTsN 3 4 7) rfl encN_ren
    obtain ⟨env4, hA5, hj⟩ := hA4.join2 4 7 (by omega) (by simp) (E := encTw) (xs := ysAt p i) rfl rfl (mkTw (p.times.getD i ⟨0, by omega⟩)) (fun env cs h => by
      simpa [segCells, Seg.cells, encTw, encOf, mkTw, DenL, Den] using h)
    rw [ysAt_len (by omega)] at hj
    have hA6 := hA5.on fun h => h.typede 8 (E' := encTs 3 4) (ys := tsB i ++ [(false, i)]) rfl (by simp) rfl (fun cs h => tsN_tw (fun v => hj v 0) h)
    have hA7 := hA6.perm [0, 1, 2, 3, 4, 5, 6, 8] (by kernel_rfl) (by kernel_rfl) (st' := sMk p [] (ysAt p (i + 1)) (tsB (i + 1))) (vals' := .ifc 74 .bad :: (v6 p (i + 1) (sumW (ysAt p (i + 1))) ++ [SVal.int .i64 (i : Nat)])) (by rw [hx, tsB_succ]; rfl) rfl rfl
    have hA8 := hA7.on fun h => h.drop1 rfl
    simp only [Ex.to, Exit.inBlock, Exit.then]
    have hlt1 := tsB_len (i + 1)
    refine (show inc6.wp Tryd.prog (RL w0 p i) a2 w2 from ?_)
    obtain ⟨envZ, hA9⟩ : ∃ envZ, AtK [] [(0, 0)] w0 envZ (fr 109 n6b (v6 p (tsB (i + 1)).length (sumW (ysAt p (i + 1))) ++ [.int .i64 (i : Nat)])) (sMk p [] (ysAt p (i + 1)) (tsB (i + 1))) a2 w2 := ⟨_, by rw [hlt1]; exact hA8⟩
    refine pieceTK2 (c := cfgM) cfgM_ok n6b t6_inc (by simp) (by simp) hA9 ?_
    refine all_needp (by simp only [inR_i64]; exact Iff.rfl) (by omega) fun _ => all_ret fun env' a' w' hA9 => ?_
    refine ⟨i + 1, ⟨by omega, env', ?_⟩, by omega⟩
    rw [hlt1] at hA9
    exact hA9
  · have : i = p.times.length := by omega
    subst this
    simp only [Ex.to, Exit.then, Exit.inBlock, if_true]
    rw [hlt] at hA1
    exact hd hA1
end Go.Proofs.YtlnigpeoffaemaaDoor

/- StepsLose, plain: of tasks that load and store something may get lost, but not all. -/
namespace Go.Proofs.YtlnigpeoffaemaaDoor
open Go Go.Proofs.YtlnigpeoffaemaaDoor.Sx
set_option linter.unusedVariables false
theorem w32_mod (x : Int) : IntKind.u32.wrap x = x % 4294967296 := by
  simp [IntKind.wrap, IntKind.signed, IntKind.bits]
theorem low_u32 (x : Int) : ((low .u32 x : Nat) : Int) = x % 4294967296 := by
  have : 0 ≤ x % 4294967296 := by omega
  simp only [low, IntKind.bits]
  omega
theorem low_lt (x : Int) : low .u32 x < 4294967296 := by
  have := low_u32 x
  omega
theorem and_mask (x : Int) : bitop .and .u32 x 4294967295 = x % 4294967296 := by
  have h1 : low .u32 4294967295 = 2 ^ 32 - 1 := by decide
  have h2 := low_lt x
  simp only [bitop, h1, Nat.and_two_pow_sub_one_eq_mod, w32_mod]
  rw [Nat.mod_eq_of_lt (by omega), low_u32]
  omega
theorem and_zero (x : Int) : bitop .and .u32 x 0 = 0 := by
  have h1 : low .u32 0 = 0 := by decide
  simp only [bitop, h1, Nat.and_zero, w32_mod]
  rfl
theorem or_zero (x : Int) : bitop .or .u32 x 0 = x % 4294967296 := by
  have h1 : low .u32 0 = 0 := by decide
  simp only [bitop, h1, Nat.or_zero, w32_mod, low_u32]
  omega
theorem zero_or (x : Int) : bitop .or .u32 0 x = x % 4294967296 := by
  have h1 : low .u32 0 = 0 := by decide
  simp only [bitop, h1, Nat.zero_or, w32_mod, low_u32]
  omega
theorem incP_ok (x : Int) : incP x = (x + 1) % 4294967296 := by
  simp only [incP, and_mask, or_zero, w32_mod]; omega
theorem setP_ok (x v : Int) : setP x v = v % 4294967296 := by
  simp only [setP, and_zero, zero_or, w32_mod]; omega
theorem tsB_at {m i : Nat} (h : i < m) : tsAt (tsB m) i = (false, i) := by
  simp [tsAt, tsB, List.getD_eq_getElem?_getD, h]
theorem sumW_set : ∀ {ys : List Tw} {i : Nat} (h : i < ys.length) (y : Tw), sumW (ys.set i y) = sumW ys - (ys.getD i encTw.dflt).times + y.times
  | x :: ys, 0, _, y => by simp [sumW]; omega
  | x :: ys, i + 1, h, y => by
    have ih := sumW_set (ys := ys) (i := i) (by simpa using h) y
    simp only [sumW, List.set_cons_succ, List.map_cons, List.sum_cons, List.getD_cons_succ] at ih ⊢
    omega
theorem sumW_nonneg : ∀ {ys : List Tw}, (∀ i, i < ys.length → 0 ≤ (ys.getD i encTw.dflt).times) → 0 ≤ sumW ys
  | [], _ => by simp [sumW]
  | x :: ys, h => by
    have ih := sumW_nonneg (ys := ys) (fun i hi => h (i + 1) (by simpa using hi))
    have h0 := h 0 (by simp)
    simp only [sumW, List.map_cons, List.sum_cons, List.getD_cons_zero] at ih h0 ⊢
    omega
theorem sumW_zero : ∀ {ys : List Tw}, (∀ i, i < ys.length → (ys.getD i encTw.dflt).times = 0) → sumW ys = 0
  | [], _ => by simp [sumW]
  | x :: ys, h => by
    have ih := sumW_zero (ys := ys) (fun i hi => h (i + 1) (by simpa using hi))
    have h0 := h 0 (by simp)
    simp only [sumW, List.map_cons, List.sum_cons, List.getD_cons_zero] at ih h0 ⊢
    omega
/-- what holds of one task, where so many stores were made, and the word is so great -/
structure Lz (t : Tw) (d : Bool) (S w : Int) (m : Nat) : Prop where
  at' : t.at' = 0
  swap : t.swap = false
  times : 0 ≤ t.times ∧ t.times ≤ 11
  done : d = true → t.times = 0
  v : t.has = true → 1 ≤ t.times ∧ 0 ≤ t.v ∧ t.v ≤ S
  one : m = 1 → t.has = true → t.v = w
structure LInv (m : Nat) (T0 : Int) (s : Mc) : Prop where
  m6 : m ≤ 6
  ly : s.tw.length = m
  ld : s.ds.length = m
  lx : s.ad = []
  tot : T0 ≤ 66
  w : ∃ w, s.l = [w] ∧ 0 ≤ w ∧ w ≤ T0 - sumW s.tw ∧ (0 < T0 - sumW s.tw → 1 ≤ w) ∧ (m = 1 → w = T0 - sumW s.tw) ∧ ∀ i, i < m → Lz (twAt s i) (s.ds.getD i false) (T0 - sumW s.tw) w m
theorem linv_ok {m : Nat} {T0 : Int} {s : Mc} (h : LInv m T0 s) : McOk 1 m (tsB m) s := by
  obtain ⟨w, hw, _, _, _, _, hk⟩ := h.w
  refine ⟨by rw [hw]; rfl, tsB_len m, h.ld, fun i hi => ?_, fun i j hi hj e => ?_⟩
  · rw [tsB_at hi]
    exact ⟨by rw [h.ly]; exact hi, by have := (hk i hi).times; simp only; omega⟩
  · rw [tsB_at hi, tsB_at hj] at e
    exact (Prod.mk.inj e).2
/-- how many steps a task needs still -/
def remT (t : Tw) (d : Bool) : Nat := match d with
  | true => 0
  | false => if t.times < 1 then 1 else 2 * t.times.toNat - (if t.has then 1 else 0)
def remP (s : Mc) (i : Nat) : Nat := remT (twAt s i) (s.ds.getD i false)
/-- a pick of a task that isn't done -/
theorem pick_eq {m : Nat} {s : Mc} {i : Int} (hb : inP i m = true) (hd : s.ds.getD i.toNat false = false) : pickP m (tsB m) s i =
    ⟨(stepTw (twAt s i.toNat) s.l).2.1, usesTw (twAt s i.toNat) s.l s.c, s.ad, s.tw.set i.toNat (stepTw (twAt s i.toNat) s.l).1, s.ds.set i.toNat (stepTw (twAt s i.toNat) s.l).2.2⟩ := by
  have hb' := (inP_iff _ _).1 hb
  have ht : tsAt (tsB m) i.toNat = (false, i.toNat) := tsB_at (by omega)
  simp only [pickP, hb, hd, ht]
theorem pick_same {m : Nat} {s : Mc} {i : Int} (h : inP i m = false ∨ s.ds.getD i.toNat false = true) (ts : List (Bool × Nat)) : pickP m ts s i = s := by
  unfold pickP
  rcases h with h | h
  · rw [h]
  · split
    · rw [h]
    · rfl
theorem linv_pick {m : Nat} {T0 : Int} {s : Mc} (h : LInv m T0 s) (i : Int) : LInv m T0 (pickP m (tsB m) s i) ∧ ∀ j, j < m → (j = i.toNat → 0 ≤ i → remP (pickP m (tsB m) s i) j ≤ remP s j - 1) ∧ remP (pickP m (tsB m) s i) j ≤ remP s j := by
  by_cases hc : inP i m = false ∨ s.ds.getD i.toNat false = true
  · rw [pick_same hc]
    refine ⟨h, fun j hj => ⟨fun e h0 => ?_, Nat.le_refl _⟩⟩
    rcases hc with hc | hc
    · have := (not_congr (inP_iff _ _)).1 (by rw [hc]; simp)
      omega
    · subst e
      simp only [remP, hc, remT]; omega
  · have hb : inP i m = true := by
      cases hq : inP i m with
      | true => rfl
      | false => exact absurd (.inl hq) hc
    have hd : s.ds.getD i.toNat false = false := by
      cases hq : s.ds.getD i.toNat false with
      | false => rfl
      | true => exact absurd (.inr hq) hc
    have hb' := (inP_iff _ _).1 hb
    have hi : i.toNat < m := by omega
    rw [pick_eq hb hd]
    obtain ⟨h1, h2, h3, h4, h5, w, hw, w0, w1, w2, w3, hk⟩ := h
    generalize hii : i.toNat = k at *
    have hz := hk k hi
    have hT := hz.times
    have hsum0 : 0 ≤ sumW s.tw := sumW_nonneg (fun j hj => (hk j (by omega)).times.1)
    have keep : ∀ (t' : Tw) (d' : Bool) (l' : List Int) (c' : Int) (j : Nat), j ≠ k → twAt ⟨l', c', s.ad, s.tw.set k t', s.ds.set k d'⟩ j = twAt s j ∧ (s.ds.set k d').getD j false = s.ds.getD j false := by
      intro t' d' l' c' j hj
      exact ⟨Sx.getD_set_ne (fun e => hj e.symm) _ _, Sx.getD_set_ne (fun e => hj e.symm) _ _⟩
    have self : ∀ (t' : Tw) (d' : Bool) (l' : List Int) (c' : Int), twAt ⟨l', c', s.ad, s.tw.set k t', s.ds.set k d'⟩ k = t' ∧ (s.ds.set k d').getD k false = d' := by
      intro t' d' l' c'
      exact ⟨Sx.getD_set_self (by omega) _ _, Sx.getD_set_self (by omega) _ _⟩
    have hss : ∀ t' : Tw, sumW (s.tw.set k t') = sumW s.tw - (twAt s k).times + t'.times := fun t' => sumW_set (by omega) t'
    have main : ∀ (t' : Tw) (l' : List Int) (d' : Bool) (c' : Int), stepTw (twAt s k) s.l = (t', l', d') → remT t' d' ≤ remT (twAt s k) false - 1 →
        (∃ w', l' = [w'] ∧ 0 ≤ w' ∧ w' ≤ T0 - sumW (s.tw.set k t') ∧ (0 < T0 - sumW (s.tw.set k t') → 1 ≤ w') ∧ (m = 1 → w' = T0 - sumW (s.tw.set k t')) ∧ T0 - sumW s.tw ≤ T0 - sumW (s.tw.set k t') ∧ Lz t' d' (T0 - sumW (s.tw.set k t')) w' m) →
        LInv m T0 ⟨l', c', s.ad, s.tw.set k t', s.ds.set k d'⟩ ∧ ∀ j, j < m → (j = k → 0 ≤ i → remP ⟨l', c', s.ad, s.tw.set k t', s.ds.set k d'⟩ j ≤ remP s j - 1) ∧ remP ⟨l', c', s.ad, s.tw.set k t', s.ds.set k d'⟩ j ≤ remP s j := by
      intro t' l' d' c' he hrem ⟨w', e1, e2, e3, e4, e5, e6, e7⟩
      refine ⟨⟨h1, by simp [h2], by simp [h3], h4, h5, w', e1, e2, e3, e4, e5, fun j hj => ?_⟩, fun j hj => ?_⟩
      · by_cases hjk : j = k
        · subst hjk
          rw [(self t' d' l' c').1, (self t' d' l' c').2]; exact e7
        · rw [(keep t' d' l' c' j hjk).1, (keep t' d' l' c' j hjk).2]
          obtain ⟨g1, g2, g3, g4, g5, g6⟩ := hk j hj
          refine ⟨g1, g2, g3, g4, fun hh => ?_, fun hm => by exfalso; omega⟩
          have := g5 hh
          exact ⟨this.1, this.2.1, Int.le_trans this.2.2 e6⟩
      · by_cases hjk : j = k
        · subst hjk
          have er : remP ⟨l', c', s.ad, s.tw.set j t', s.ds.set j d'⟩ j = remT t' d' := by unfold remP; rw [(self t' d' l' c').1, (self t' d' l' c').2]
          have er2 : remP s j = remT (twAt s j) false := by unfold remP; rw [hd]
          rw [er, er2]
          exact ⟨fun _ _ => hrem, by omega⟩
        · have er : remP ⟨l', c', s.ad, s.tw.set k t', s.ds.set k d'⟩ j = remP s j := by unfold remP; rw [(keep t' d' l' c' j hjk).1, (keep t' d' l' c' j hjk).2]
          rw [er]
          exact ⟨fun e => absurd e hjk, Nat.le_refl _⟩
    have hin : inP 0 1 = true := by decide
    obtain ⟨g1, g2, g3, g4, g5, g6⟩ := hz
    generalize ht : twAt s k = t at *
    obtain ⟨at', times, has, v, swap⟩ := t
    simp only at g1 g2 g3 g4 g5 g6 hT hss
    subst g1 g2
    by_cases hlt : times < 1
    · have h0 : times = 0 := by omega
      subst h0
      have hst : stepTw ⟨0, 0, has, v, false⟩ s.l = (⟨0, 0, has, v, false⟩, s.l, true) := by simp [stepTw]
      rw [hst]
      refine main _ _ _ _ hst (by simp [remT]) ⟨w, hw, w0, ?_⟩
      rw [hss]
      simp only [Int.sub_zero, Int.add_zero]
      exact ⟨w1, w2, w3, Int.le_refl _, rfl, rfl, hT, fun _ => rfl, g5, g6⟩
    · have hdf : decide (times < 1) = false := decide_eq_false hlt
      cases has with
      | false =>
        have hst : stepTw ⟨0, times, false, v, false⟩ s.l = (⟨0, times, true, w, false⟩, s.l, false) := by
          simp [stepTw, hw, hin, hlt]
        rw [hst]
        refine main _ _ _ _ hst (by simp [remT, hlt]) ⟨w, hw, w0, ?_⟩
        rw [hss]
        have e : T0 - (sumW s.tw - times + times) = T0 - sumW s.tw := by omega
        simp only [e]
        exact ⟨w1, w2, w3, Int.le_refl _, rfl, rfl, hT, fun hh => (by cases hh), fun _ => ⟨by simp only; omega, w0, w1⟩, fun _ _ => rfl⟩
      | true =>
        have g5' := g5 rfl
        have hst : stepTw ⟨0, times, true, v, false⟩ s.l = (⟨0, times - 1, false, v, false⟩, [v + 1], times - 1 == 0) := by
          have : u32P (v + 1) % 4294967296 = v + 1 := by rw [show u32P (v + 1) = _ from w32_mod _]; omega
          simp [stepTw, hw, hin, hlt, setP_ok, this]
        rw [hst]
        refine main _ _ _ _ hst ?_ ⟨v + 1, rfl, by omega, ?_⟩
        · cases hq : times - 1 == 0 with
          | true => simp [remT, hlt]
          | false =>
            have : times - 1 ≠ 0 := by simpa using hq
            simp only [remT, hlt, if_false, if_true, Bool.false_eq_true]
            rw [if_neg (by omega)]
            omega
        · rw [hss]
          simp only
          have e : T0 - (sumW s.tw - times + (times - 1)) = T0 - sumW s.tw + 1 := by omega
          rw [e]
          refine ⟨by omega, fun _ => by omega, fun hm => by have := g6 hm rfl; have := w3 hm; omega, by omega, rfl, rfl, by simp only; omega, fun hh => ?_, fun hh => (by cases hh), fun _ hh => (by cases hh)⟩
          simpa using hh
end Go.Proofs.YtlnigpeoffaemaaDoor

/- StepsPlays, plain: a task and the document's go together. -/
namespace Go.Proofs.YtlnigpeoffaemaaDoor
open Go Go.Proofs.YtlnigpeoffaemaaDoor.Sx
set_option linter.unusedVariables false
/-- a machine's task, of either kind -/
def tkV (s : Mc) (t : Bool × Nat) : Tk := match t.1 with
  | true => (adAt s t.2).tk
  | false => (twAt s t.2).tk
/-- a pick, seen at its tasks -/
structure View (m : Nat) (ts : List (Bool × Nat)) (s s' : Mc) (i : Nat) : Prop where
  l : s'.l = (stepA (tkV s (tsAt ts i)) s.l).2.1
  ds : s'.ds = s.ds.set i (stepA (tkV s (tsAt ts i)) s.l).2.2
  own : tkV s' (tsAt ts i) = (stepA (tkV s (tsAt ts i)) s.l).1
  keep : ∀ j, j < m → j ≠ i → tkV s' (tsAt ts j) = tkV s (tsAt ts j)
theorem pick_view {n m : Nat} {ts : List (Bool × Nat)} {s : Mc} (h : McOk n m ts s) {i : Int} (hb : inP i m = true) (hd : s.ds.getD i.toNat false = false) : View m ts s (pickP m ts s i) i.toNat := by
  have hb' := (inP_iff _ _).1 hb
  have hi : i.toNat < m := by omega
  have hk := h.tk i.toNat hi
  have hinj : ∀ j, j < m → j ≠ i.toNat → tsAt ts j ≠ tsAt ts i.toNat := fun j hj hji e => hji (h.inj j i.toNat hj hi e)
  generalize hT : tsAt ts i.toNat = T at *
  obtain ⟨b, k⟩ := T
  cases b with
  | true =>
    simp only [tkOk] at hk
    have hp : pickP m ts s i = ⟨(stepAd (adAt s k) s.l).2.1, usesAd (adAt s k) s.l s.c, s.ad.set k (stepAd (adAt s k) s.l).1, s.tw, s.ds.set i.toNat (stepAd (adAt s k) s.l).2.2⟩ := by
      simp only [pickP, hb, hd, hT]
    rw [hp]
    have hA := stepAd_A (adAt s k) s.l
    refine ⟨?_, ?_, ?_, fun j hj hji => ?_⟩
    · simp only [hT, tkV, hA]
    · simp only [hT, tkV, hA]
    · simp only [hT, tkV, hA]
      show Ad.tk ((s.ad.set k (stepAd (adAt s k) s.l).1).getD k encAd.dflt) = _
      rw [Sx.getD_set_self hk.1]
    · have hne := hinj j hj hji
      generalize tsAt ts j = U at *
      obtain ⟨c, q⟩ := U
      cases c with
      | true =>
        have : k ≠ q := fun e => hne (by rw [e])
        show Ad.tk ((s.ad.set k _).getD q encAd.dflt) = Ad.tk (s.ad.getD q encAd.dflt)
        rw [Sx.getD_set_ne this]
      | false => rfl
  | false =>
    simp only [tkOk] at hk
    have hp : pickP m ts s i = ⟨(stepTw (twAt s k) s.l).2.1, usesTw (twAt s k) s.l s.c, s.ad, s.tw.set k (stepTw (twAt s k) s.l).1, s.ds.set i.toNat (stepTw (twAt s k) s.l).2.2⟩ := by
      simp only [pickP, hb, hd, hT]
    rw [hp]
    have hA := stepTw_A (twAt s k) s.l
    refine ⟨?_, ?_, ?_, fun j hj hji => ?_⟩
    · simp only [hT, tkV, hA]
    · simp only [hT, tkV, hA]
    · simp only [hT, tkV, hA]
      show Tw.tk ((s.tw.set k (stepTw (twAt s k) s.l).1).getD k encTw.dflt) = _
      rw [Sx.getD_set_self hk.1]
    · have hne := hinj j hj hji
      generalize tsAt ts j = U at *
      obtain ⟨c, q⟩ := U
      cases c with
      | true => rfl
      | false =>
        have : k ≠ q := fun e => hne (by rw [e])
        show Tw.tk ((s.tw.set k _).getD q encTw.dflt) = Tw.tk (s.tw.getD q encTw.dflt)
        rw [Sx.getD_set_ne this]
/-- the document's task -/
structure Rf where
  kind : Int
  at' : Int
  times : Int
  has : Bool
  v : Int
  done : Bool
def okR (r : Rf) (l : List Int) : Bool := !decide (r.times < 1) && inP r.at' l.length
/-- does it put something back -/
def putR (r : Rf) (l : List Int) : Bool := r.kind == 1 || l.getD r.at'.toNat 0 == r.v
/-- the task behind a step that is one -/
def rfP (r : Rf) (l : List Int) : Rf := match r.kind == 0 with
  | true => {r with times := r.times - 1, done := r.times - 1 == 0}
  | false => match r.has with
    | false => {r with has := true, v := l.getD r.at'.toNat 0, done := r.times == 0}
    | true => match putR r l with
      | true => {r with has := false, times := r.times - 1, done := r.times - 1 == 0}
      | false => {r with has := false, done := r.times == 0}
def rwP (r : Rf) (l : List Int) : List Int := match r.kind == 0 with
  | true => l.set r.at'.toNat (u32P (l.getD r.at'.toNat 0 + 1))
  | false => match r.has with
    | false => l
    | true => match putR r l with
      | true => l.set r.at'.toNat (u32P (r.v + 1))
      | false => l
def rStep (r : Rf) (l : List Int) : Rf × List Int := match okR r l with
  | true => (rfP r l, rwP r l)
  | false => ({r with done := true}, l)
structure Rel (t : Tk) (r : Rf) : Prop where
  kind : r.kind = t.kind
  k3 : t.kind ≤ 2
  at' : t.at' = r.at'
  times : t.times = r.times
  has : t.has = r.has
  v : t.v = r.v
  done : r.done = false
  le : t.times ≤ 20
  u32 : 0 ≤ t.v ∧ t.v < 4294967296
  add : t.kind = 0 → t.has = false
  inr : t.has = true → inP t.at' 3 = true
abbrev U32s (l : List Int) : Prop := ∀ x ∈ l, 0 ≤ x ∧ x < 4294967296
theorem u32s_getD {l : List Int} (h : U32s l) (i : Nat) : 0 ≤ l.getD i 0 ∧ l.getD i 0 < 4294967296 := by
  rw [List.getD_eq_getElem?_getD]
  cases hi : l[i]? with
  | none => simp
  | some x => simpa using h x (List.mem_of_getElem? hi)
theorem u32s_set {l : List Int} (h : U32s l) (i : Nat) {x : Int} (hx : 0 ≤ x ∧ x < 4294967296) : U32s (l.set i x) := by
  intro y hy
  rcases List.mem_or_eq_of_mem_set hy with h1 | rfl
  · exact h y h1
  · exact hx
structure Both (t : Tk) (r : Rf) (l : List Int) : Prop where
  done : (stepA t l).2.2 = (rStep r l).1.done
  words : (stepA t l).2.1 = (rStep r l).2
  u32 : U32s (rStep r l).2
  rel : (rStep r l).1.done = false → Rel (stepA t l).1 (rStep r l).1
theorem both_mk {t t' : Tk} {r r' : Rf} {l l' : List Int} {d : Bool} (hs : stepA t l = (t', l', d)) (hr : rStep r l = (r', l')) (hd : d = r'.done) (hu : U32s l') (hrel : r'.done = false → Rel t' r') : Both t r l := by
  refine ⟨?_, ?_, ?_, ?_⟩
  · rw [hs, hr]; exact hd
  · rw [hs, hr]
  · rw [hr]; exact hu
  · rw [hs, hr]; exact hrel
theorem both_step {t : Tk} {r : Rf} {l : List Int} (h : Rel t r) (hl : U32s l) (h3l : l.length = 3) : Both t r l := by
  obtain ⟨kind, at', times, has, v⟩ := t
  obtain ⟨kind2, at2, times2, has2, v2, done⟩ := r
  obtain ⟨h1, h2, h3, h4, h5, h6, h7, h8, h9, h10, h11⟩ := h
  simp only at h1 h2 h3 h4 h5 h6 h7 h8 h9 h10 h11
  subst h1 h3 h4 h5 h6 h7
  by_cases ht : times < 1
  · exact both_mk (t' := ⟨kind, at', times, has, v⟩) (r' := ⟨kind, at', times, has, v, true⟩) (l' := l) (d := true) (by simp [stepA, ht]) (by simp [rStep, okR, ht]) rfl hl (fun hh => by cases hh)
  · cases hb : inP at' l.length with
    | false =>
      have hr : rStep ⟨kind, at', times, has, v, false⟩ l = (⟨kind, at', times, has, v, true⟩, l) := by simp [rStep, okR, ht, hb]
      have hhas : has = false := by
        cases has with
        | false => rfl
        | true => have := h11 rfl; rw [h3l] at hb; rw [this] at hb; cases hb
      subst hhas
      match kind, h2 with
      | 0, _ => exact both_mk (t' := ⟨0, at', times - 1, false, v⟩) (d := true) (by simp [stepA, ht, hb]) hr rfl hl (fun hh => by cases hh)
      | 1, _ => exact both_mk (t' := ⟨1, at', times, true, 0⟩) (d := true) (by simp [stepA, ht, hb]) hr rfl hl (fun hh => by cases hh)
      | 2, _ => exact both_mk (t' := ⟨2, at', times, true, 0⟩) (d := true) (by simp [stepA, ht, hb]) hr rfl hl (fun hh => by cases hh)
    | true =>
      have hok : ∀ k : Int, okR ⟨k, at', times, has, v, false⟩ l = true := by intro k; simp [okR, ht, hb]
      have hg := u32s_getD hl at'.toNat
      have hinr : inP at' 3 = true := by rw [← h3l]; exact hb
      have t0 : (times == 0) = false := beq_eq_false_iff_ne.2 (by omega)
      have hw : ∀ x, u32P x = x % 4294967296 := w32_mod
      match kind, h2 with
      | 0, _ =>
        have := h10 rfl
        subst this
        exact both_mk (t' := ⟨0, at', times - 1, false, v⟩) (r' := ⟨0, at', times - 1, false, v, times - 1 == 0⟩) (l' := l.set at'.toNat ((l.getD at'.toNat 0 + 1) % 4294967296)) (d := times - 1 == 0)
          (by simp [-List.getD_eq_getElem?_getD, stepA, ht, hb, incP_ok]) (by simp [-List.getD_eq_getElem?_getD, rStep, hok, rfP, rwP, hw]) rfl (u32s_set hl _ (by omega))
          (fun hd => ⟨rfl, by simp, rfl, rfl, rfl, rfl, hd, by simp only; omega, h9, fun _ => rfl, fun hh => (by cases hh)⟩)
      | 1, _ =>
        cases has with
        | false =>
          exact both_mk (t' := ⟨1, at', times, true, l.getD at'.toNat 0⟩) (r' := ⟨1, at', times, true, l.getD at'.toNat 0, false⟩) (l' := l) (d := false)
            (by simp [-List.getD_eq_getElem?_getD, stepA, ht, hb]) (by simp [-List.getD_eq_getElem?_getD, rStep, hok, rfP, rwP, t0]) rfl hl
            (fun hd => ⟨rfl, by simp, rfl, rfl, rfl, rfl, rfl, h8, hg, fun hh => (by cases hh), fun _ => hinr⟩)
        | true =>
          exact both_mk (t' := ⟨1, at', times - 1, false, v⟩) (r' := ⟨1, at', times - 1, false, v, times - 1 == 0⟩) (l' := l.set at'.toNat ((v + 1) % 4294967296)) (d := times - 1 == 0)
            (by simp [-List.getD_eq_getElem?_getD, stepA, ht, hb, setP_ok, hw]) (by simp [-List.getD_eq_getElem?_getD, rStep, hok, rfP, rwP, putR, hw]) rfl (u32s_set hl _ (by omega))
            (fun hd => ⟨rfl, by simp, rfl, rfl, rfl, rfl, hd, by simp only; omega, h9, fun _ => rfl, fun hh => (by cases hh)⟩)
      | 2, _ =>
        cases has with
        | false =>
          exact both_mk (t' := ⟨2, at', times, true, l.getD at'.toNat 0⟩) (r' := ⟨2, at', times, true, l.getD at'.toNat 0, false⟩) (l' := l) (d := false)
            (by simp [-List.getD_eq_getElem?_getD, stepA, ht, hb]) (by simp [-List.getD_eq_getElem?_getD, rStep, hok, rfP, rwP, t0]) rfl hl
            (fun hd => ⟨rfl, by simp, rfl, rfl, rfl, rfl, rfl, h8, hg, fun hh => (by cases hh), fun _ => hinr⟩)
        | true =>
          cases hq : l.getD at'.toNat 0 == v with
          | true =>
            exact both_mk (t' := ⟨2, at', times - 1, false, v⟩) (r' := ⟨2, at', times - 1, false, v, times - 1 == 0⟩) (l' := l.set at'.toNat ((v + 1) % 4294967296)) (d := times - 1 == 0)
              (by simp only [stepA, ht, hb, decide_false, hq, Bool.or_true, setP_ok, hw]; simp) (by simp only [rStep, hok, rfP, rwP, putR, hq, Bool.or_true, hw]; rfl) rfl (u32s_set hl _ (by omega))
              (fun hd => ⟨rfl, by simp, rfl, rfl, rfl, rfl, hd, by simp only; omega, h9, fun _ => rfl, fun hh => (by cases hh)⟩)
          | false =>
            exact both_mk (t' := ⟨2, at', times, false, v⟩) (r' := ⟨2, at', times, false, v, false⟩) (l' := l) (d := false)
              (by simp only [stepA, ht, hb, decide_false, hq, t0]; rfl) (by simp only [rStep, hok, rfP, rwP, putR, hq, t0]; rfl) rfl hl
              (fun hd => ⟨rfl, by simp, rfl, rfl, rfl, rfl, rfl, h8, h9, fun _ => rfl, fun hh => (by cases hh)⟩)
end Go.Proofs.YtlnigpeoffaemaaDoor

/- StepsPlays: pieces and states. -/
namespace Go.Proofs.YtlnigpeoffaemaaDoor
open Go Go.Proofs.YtlnigpeoffaemaaDoor.Sx
set_option linter.unusedVariables false
/-- a task out of raw numbers -/
structure K3 where
  kind : Int
  at' : Int
  times : Int
  h : 0 ≤ kind ∧ kind ≤ 255
theorem k0_h : (0 : Int) ≤ 0 ∧ (0 : Int) ≤ 255 := by omega
def encK : Enc K3 := encOf 2 (fun k => [.int .u8 k.kind, .int .i64 k.at', .int .i64 k.times]) ⟨0, 0, 0, k0_h⟩ (fun _ => rfl) (by intro env env' x vs h; simpa [DenL, Den] using h)
def getI (k : IntKind) (s : SVal) : Option Int := match asI s with
  | some (k', x, _) => match decEq k' k with
    | .isTrue _ => some x
    | .isFalse _ => none
  | none => none
theorem getI_den {env : Env} {k : IntKind} {s : SVal} {x : Int} {v : Value} (h : getI k s = some x) (hd : Den env s v) : Den env (.int k x) v := by
  unfold getI at h
  split at h
  · rename_i k' y b h1
    split at h
    · rename_i h2 _
      subst h2
      simp only [Option.some.injEq] at h; subst h
      rw [asI_den h1 hd]; simp [Den]
    · cases h
  · cases h
theorem asB_sb {env : Env} {s : SVal} {x b : Bool} {v : Value} (h : asB s = some (x, b)) (hd : Den env s v) : Den env (.sb x) v := by
  rw [asB_den h hd]; simp [Den]
def encRf : Enc Rf where
  tag := .other
  shut := true
  sz := 6
  enc r := [.int .i64 r.kind, .int .i64 r.at', .int .i64 r.times, .sb r.has, .int .u32 r.v, .sb r.done]
  dec l := match l with
    | [a, b, c, n, t, d] => match getI .i64 a, getI .i64 b, getI .i64 c, asB n, getI .u32 t, asB d with
      | some a, some b, some c, some (n, _), some t, some (d, _) => some ⟨a, b, c, n, t, d⟩
      | _, _, _, _, _, _ => none
    | _ => none
  dflt := ⟨0, 0, 0, false, 0, false⟩
  pos := by omega
  len := fun _ => rfl
  ok := by
    intro env l x vs h hd
    split at h
    · split at h
      · rename_i h1 h2 h3 h4 h5 h6
        simp only [Option.some.injEq] at h; subst h
        obtain ⟨u1, k1, rfl, d1, u2, k2, rfl, d2, u3, k3, rfl, d3, u4, k4, rfl, d4, u5, k5, rfl, d5, u6, k6, rfl, d6, rfl⟩ := hd
        exact ⟨_, _, rfl, getI_den h1 d1, _, _, rfl, getI_den h2 d2, _, _, rfl, getI_den h3 d3, _, _, rfl, asB_sb h4 d4, _, _, rfl, getI_den h5 d5, _, _, rfl, asB_sb h6 d6, rfl⟩
      · cases h
    · cases h
  shutOk := fun _ => by intro env env' x vs h; simpa [DenL, Den] using h
/-- what comes in -/
structure InP where
  kinds : List K3
  cap : Nat
  picks : List Int
  cap' : Nat
abbrev kindsV (p : InP) (i : Nat) : SVal := .sli i (.c 0) 3 (.v p.kinds.length) (some (.v p.cap))
abbrev pickV (p : InP) (i : Nat) : SVal := .sli i (.c 0) 1 (.v p.picks.length) (some (.v p.cap'))
abbrev s0P (p : InP) : St := [lookB, .ro encK p.kinds, .ro (encInt .i64) p.picks]
noncomputable def b4 : Code := Tryd.f4.body.getD .skip
noncomputable def c4 : Code := restC 4 b4
noncomputable def reg4 : Code := lft (lft c4)
noncomputable def blk4 : Code := rgt (lft c4)
noncomputable def round4 : Code := lft (lft blk4)
noncomputable def tm4 : Code := lft round4
noncomputable def bb4 : Code := lft (lft (rgt round4))
noncomputable def inc4 : Code := rgt (rgt round4)
noncomputable def d4 : Code := rgt c4
noncomputable def e4 : Code := restC 3 d4
noncomputable def reg4b : Code := lft (lft e4)
noncomputable def blk4b : Code := rgt (lft e4)
noncomputable def round4b : Code := lft (lft blk4b)
noncomputable def tm4b : Code := lft round4b
noncomputable def bb4b : Code := lft (lft (rgt round4b))
noncomputable def inc4b : Code := rgt (rgt round4b)
noncomputable def end4 : Code := rgt e4
noncomputable def bP : Code := Tryd.f16.body.getD .skip
noncomputable def bS : Code := Tryd.f26.body.getD .skip
abbrev s4 (p : InP) (xs : List Ad) (ys : List Tw) (ts : List (Bool × Nat)) (rs : List Rf) : St :=
  famS 3 [0, 0, 0] 0 xs ys ++ [.ro encK p.kinds, .ro (encInt .i64) p.picks, .vec (encTs 3 4) ts 44, .vec encRf rs 47]
abbrev n4a : List Nat := [0, 1, 5, 7, 8]
abbrev n4p : List Nat := [0, 1, 5, 7, 8, 4]
abbrev n4b : List Nat := [0, 1, 5, 7, 8, 9]
abbrev n4c : List Nat := [0, 1, 5, 7, 8, 9, 10, 11]
abbrev v4 (p : InP) (m : Nat) : List SVal := [kindsV p 5, pickV p 6, .ptr 1 0, .sli 7 (.c 0) 1 (.v m) none, .sli 8 (.c 0) 6 (.v m) none]
abbrev rfA (r : Rf) : SVal := .agg [.int .i64 r.kind, .int .i64 r.at', .int .i64 r.times, .sb r.has, .int .u32 r.v, .sb r.done]
abbrev rfB (r : Rf) : Blk := .own [.c (.int .i64 r.kind), .c (.int .i64 r.at'), .c (.int .i64 r.times), .c (.sb r.has), .c (.int .u32 r.v), .c (.sb r.done)] 47
/-- in the second loop -/
abbrev sP (p : InP) (m : Nat) (ts : List (Bool × Nat)) (s : Mc) (rs : List Rf) (lw : List Int) : St :=
  mcS 3 m ts s ++ [.ro (encInt .i64) p.picks, .vec encRf rs 47, .vec (encInt .u32) lw 45]
abbrev n4e : List Nat := [1, 5, 8, 12, 13]
abbrev n4f : List Nat := [1, 5, 8, 12, 13, 14]
abbrev v4b (p : InP) (m n : Nat) : List SVal := [pickV p 8, .ptr 1 0, .sli 9 (.c 0) 6 (.v m) none, .ptr 5 0, .sli 10 (.c 0) 1 (.v n) none]
end Go.Proofs.YtlnigpeoffaemaaDoor

/- StepsPlays, plain: what the making of tasks leaves. -/
namespace Go.Proofs.YtlnigpeoffaemaaDoor
open Go Go.Proofs.YtlnigpeoffaemaaDoor.Sx
set_option linter.unusedVariables false
abbrev MadeT := List Ad × List Tw × List (Bool × Nat)
def cutT (x : Int) : Int := if 20 < x then 20 else x
def kd (k : K3) : Int := k.kind.tmod 3
def stepB (S : MadeT) (k : K3) : MadeT := match kd k == 0 with
  | true => (S.1 ++ [⟨k.at', cutT k.times⟩], S.2.1, S.2.2 ++ [(true, S.1.length)])
  | false => (S.1, S.2.1 ++ [⟨k.at', cutT k.times, false, 0, !(kd k == 1)⟩], S.2.2 ++ [(false, S.2.1.length)])
def mkR (k : K3) : Rf := ⟨kd k, k.at', cutT k.times, false, 0, false⟩
def made (p : InP) (i : Nat) : MadeT := (p.kinds.take i).foldl stepB ([], [], [])
def rsP (p : InP) (i : Nat) : List Rf := (p.kinds.take i).map mkR
theorem take_succK {p : InP} {i : Nat} (h : i < p.kinds.length) : p.kinds.take (i + 1) = p.kinds.take i ++ [p.kinds.getD i encK.dflt] := by
  rw [List.take_add_one]
  simp [List.getD_eq_getElem?_getD, h]
theorem made_succ {p : InP} {i : Nat} (h : i < p.kinds.length) : made p (i + 1) = stepB (made p i) (p.kinds.getD i encK.dflt) := by
  unfold made
  rw [take_succK h, List.foldl_append]; rfl
theorem rsP_succ {p : InP} {i : Nat} (h : i < p.kinds.length) : rsP p (i + 1) = rsP p i ++ [mkR (p.kinds.getD i encK.dflt)] := by
  unfold rsP
  rw [take_succK h, List.map_append]; rfl
def tkL (xs : List Ad) (ys : List Tw) (t : Bool × Nat) : Tk := match t.1 with
  | true => (xs.getD t.2 encAd.dflt).tk
  | false => (ys.getD t.2 encTw.dflt).tk
structure MadeOk (i : Nat) (S : MadeT) (rs : List Rf) : Prop where
  lt : S.2.2.length = i
  lr : rs.length = i
  tk : ∀ j, j < i → match (tsAt S.2.2 j).1 with | true => (tsAt S.2.2 j).2 < S.1.length | false => (tsAt S.2.2 j).2 < S.2.1.length
  inj : ∀ j k, j < i → k < i → tsAt S.2.2 j = tsAt S.2.2 k → j = k
  rel : ∀ j, j < i → Rel (tkL S.1 S.2.1 (tsAt S.2.2 j)) (rs.getD j encRf.dflt)
theorem getD_app_lt {α : Type} {l : List α} {x : α} {i : Nat} (h : i < l.length) (d : α) : (l ++ [x]).getD i d = l.getD i d := by
  simp [List.getD_eq_getElem?_getD, List.getElem?_append_left h]
theorem getD_app_eq {α : Type} {l : List α} {x : α} (d : α) : (l ++ [x]).getD l.length d = x := by
  simp [List.getD_eq_getElem?_getD]
theorem kd_3 (k : K3) : 0 ≤ kd k ∧ kd k ≤ 2 := by
  have := k.h
  unfold kd
  rw [Int.tmod_eq_emod_of_nonneg this.1]; omega
theorem made_ok {i : Nat} {S : MadeT} {rs : List Rf} (h : MadeOk i S rs) (k : K3) : MadeOk (i + 1) (stepB S k) (rs ++ [mkR k]) := by
  obtain ⟨h1, h2, h3, h4, h5⟩ := h
  obtain ⟨xs, ys, ts⟩ := S
  simp only at h1 h3 h4 h5
  have hk := kd_3 k
  have hcut : cutT k.times ≤ 20 := by unfold cutT; split <;> omega
  have hro : ∀ j, j < i → (rs ++ [mkR k]).getD j encRf.dflt = rs.getD j encRf.dflt := fun j hj => getD_app_lt (by omega) _
  have hrn : (rs ++ [mkR k]).getD i encRf.dflt = mkR k := by rw [← h2]; exact getD_app_eq _
  cases hq : kd k == 0 with
  | true =>
    have hq' := beq_iff_eq.1 hq
    have hS : stepB (xs, ys, ts) k = (xs ++ [⟨k.at', cutT k.times⟩], ys, ts ++ [(true, xs.length)]) := by simp only [stepB, hq]
    rw [hS]
    have hto : ∀ j, j < i → tsAt (ts ++ [(true, xs.length)]) j = tsAt ts j := fun j hj => getD_app_lt (by omega) _
    have htn : tsAt (ts ++ [(true, xs.length)]) i = (true, xs.length) := by rw [← h1]; exact getD_app_eq _
    have hvo : ∀ j, j < i → tkL (xs ++ [⟨k.at', cutT k.times⟩]) ys (tsAt ts j) = tkL xs ys (tsAt ts j) := by
      intro j hj
      have h6 := h3 j hj
      unfold tkL
      cases hb : (tsAt ts j).1 with
      | true => rw [hb] at h6; simp only at h6 ⊢; rw [getD_app_lt h6]
      | false => rfl
    refine ⟨by simp [h1], by simp [h2], fun j hj => ?_, fun j q hj hq2 e => ?_, fun j hj => ?_⟩
    · by_cases hji : j = i
      · subst hji; simp only [htn]; simp
      · have h6 := h3 j (by omega)
        simp only [hto j (by omega)]
        cases hb : (tsAt ts j).1 with
        | true => rw [hb] at h6; simp only at h6 ⊢; rw [List.length_append]; exact Nat.lt_of_lt_of_le h6 (Nat.le_add_right _ _)
        | false => rw [hb] at h6; exact h6
    · by_cases hji : j = i
      · by_cases hqi : q = i
        · omega
        · rw [hji, htn, hto q (by omega)] at e
          have h6 := h3 q (by omega)
          rw [← e] at h6
          exact absurd h6 (Nat.lt_irrefl _)
      · by_cases hqi : q = i
        · rw [hqi, htn, hto j (by omega)] at e
          have h6 := h3 j (by omega)
          rw [e] at h6
          exact absurd h6 (Nat.lt_irrefl _)
        · simp only [hto j (by omega), hto q (by omega)] at e
          exact h4 j q (by omega) (by omega) e
    · by_cases hji : j = i
      · subst hji
        simp only [htn, hrn]
        have : tkL (xs ++ [⟨k.at', cutT k.times⟩]) ys (true, xs.length) = ⟨0, k.at', cutT k.times, false, 0⟩ := by
          unfold tkL; simp only; rw [getD_app_eq]; rfl
        rw [this]
        exact ⟨hq', by simp, rfl, rfl, rfl, rfl, rfl, hcut, by simp, fun _ => rfl, fun hh => by cases hh⟩
      · simp only [hto j (by omega), hro j (by omega), hvo j (by omega)]
        exact h5 j (by omega)
  | false =>
    have hq' := beq_eq_false_iff_ne.1 hq
    have hS : stepB (xs, ys, ts) k = (xs, ys ++ [⟨k.at', cutT k.times, false, 0, !(kd k == 1)⟩], ts ++ [(false, ys.length)]) := by simp only [stepB, hq]
    rw [hS]
    have hto : ∀ j, j < i → tsAt (ts ++ [(false, ys.length)]) j = tsAt ts j := fun j hj => getD_app_lt (by omega) _
    have htn : tsAt (ts ++ [(false, ys.length)]) i = (false, ys.length) := by rw [← h1]; exact getD_app_eq _
    have hvo : ∀ j, j < i → tkL xs (ys ++ [⟨k.at', cutT k.times, false, 0, !(kd k == 1)⟩]) (tsAt ts j) = tkL xs ys (tsAt ts j) := by
      intro j hj
      have h6 := h3 j hj
      unfold tkL
      cases hb : (tsAt ts j).1 with
      | true => rfl
      | false => rw [hb] at h6; simp only at h6 ⊢; rw [getD_app_lt h6]
    refine ⟨by simp [h1], by simp [h2], fun j hj => ?_, fun j q hj hq2 e => ?_, fun j hj => ?_⟩
    · by_cases hji : j = i
      · subst hji; simp only [htn]; simp
      · have h6 := h3 j (by omega)
        simp only [hto j (by omega)]
        cases hb : (tsAt ts j).1 with
        | true => rw [hb] at h6; exact h6
        | false => rw [hb] at h6; simp only at h6 ⊢; rw [List.length_append]; exact Nat.lt_of_lt_of_le h6 (Nat.le_add_right _ _)
    · by_cases hji : j = i
      · by_cases hqi : q = i
        · omega
        · rw [hji, htn, hto q (by omega)] at e
          have h6 := h3 q (by omega)
          rw [← e] at h6
          exact absurd h6 (Nat.lt_irrefl _)
      · by_cases hqi : q = i
        · rw [hqi, htn, hto j (by omega)] at e
          have h6 := h3 j (by omega)
          rw [e] at h6
          exact absurd h6 (Nat.lt_irrefl _)
        · simp only [hto j (by omega), hto q (by omega)] at e
          exact h4 j q (by omega) (by omega) e
    · by_cases hji : j = i
      · subst hji
        simp only [htn, hrn]
        have : tkL xs (ys ++ [⟨k.at', cutT k.times, false, 0, !(kd k == 1)⟩]) (false, ys.length) = ⟨match (!(kd k == 1)) with | true => 2 | false => 1, k.at', cutT k.times, false, 0⟩ := by
          unfold tkL; simp only; rw [getD_app_eq]; rfl
        rw [this]
        cases h1' : kd k == 1 with
        | true =>
          exact ⟨beq_iff_eq.1 h1', by simp, rfl, rfl, rfl, rfl, rfl, hcut, by simp, fun _ => rfl, fun hh => by cases hh⟩
        | false =>
          have := beq_eq_false_iff_ne.1 h1'
          have h2' : kd k = 2 := by omega
          exact ⟨h2', by simp, rfl, rfl, rfl, rfl, rfl, hcut, by simp, fun _ => rfl, fun hh => by cases hh⟩
      · simp only [hto j (by omega), hro j (by omega), hvo j (by omega)]
        exact h5 j (by omega)
theorem made_all {p : InP} : ∀ i, i ≤ p.kinds.length → MadeOk i (made p i) (rsP p i)
  | 0, _ => ⟨rfl, rfl, fun j hj => by omega, fun j k hj => by omega, fun j hj => by omega⟩
  | i + 1, h => by
    rw [made_succ (by omega), rsP_succ (by omega)]
    exact made_ok (made_all i (by omega)) _
end Go.Proofs.YtlnigpeoffaemaaDoor

/- Layer 8: two machines in one memory: what they share. -/
namespace Go.Proofs.YtlnigpeoffaemaaDoor
open Go Go.Proofs.YtlnigpeoffaemaaDoor.Sx
set_option linter.unusedVariables false
abbrev swV (t : Bool × Nat) : SVal := .sw t.1 (.ifc 84 (.pto 3 t.2 0)) (.ifc 74 (.pto 4 t.2 0))
set_option linter.unusedVariables false
abbrev ifV : Bool → Nat → SVal
  | true, k => .ifc 84 (.pto 3 k 0)
  | false, k => .ifc 74 (.pto 4 k 0)
theorem anyP_all {c : Cfg} {fuel : Nat} {f : FuncId} {args : List SVal} {st : St} (h0 : ((anyTP c fuel f args st).lineB.map fun l => l.all id) = some true) (h1 : (anyTP c fuel f args st).lineP = some True) (h2 : lineSame (anyTP c fuel f args st) = swapO (lineSame (anyTP c fuel f args st))) : anyP c fuel f args st := by
  cases hq : (anyTP c fuel f args st).lineB with
  | none => rw [hq] at h0; cases h0
  | some l =>
    rw [hq] at h0
    simp only [Option.map_some, Option.some.injEq, List.all_eq_true, id_eq] at h0
    exact anyP_line hq h1 h0 trivial h2
/-- where the next task lies -/
def tNew (S : MadeT) (k : K3) : Bool × Nat := match kd k == 0 with
  | true => (true, S.1.length)
  | false => (false, S.2.1.length)
theorem fF5 : ∀ (b : Bool) {x : Int}, (x.tmod 3 == 1) = b → (match b with | true => 27 | false => 30) = (match !(x.tmod 3 == 1) with | true => 30 | false => 27) := by
  intro b x h; rw [h]; cases b <;> rfl
/-- what is the second machine's own -/
structure Yc where
  l : List Int
  c : Int
  ds : List Bool
abbrev yMc (s : Mc) (t : Yc) : Mc := ⟨t.l, t.c, s.ad, s.tw, t.ds⟩
set_option linter.unusedVariables false
theorem rows_eq {X : Type} {E E' : Enc X} {mp : List Nat} (h1 : E.sz = 1) (h2 : E'.sz = 1) (h : ∀ x, ∃ v, E'.enc x = [v] ∧ renL mp (E.enc x) = [v]) {xs : List X} {T : TypeId} : EqvB (.vec (encRow 0) (renRows mp E xs) T) (.vec E' xs T) := by
  refine .inr ⟨_, _, _, _, _, _, _, rfl, rfl, by rw [h2]; rfl, by simp [renRows], ?_⟩
  induction xs with
  | nil => rfl
  | cons x xs ih =>
    obtain ⟨v, e1, e2⟩ := h x
    simp only [renRows, List.map_cons, List.flatMap_cons] at ih ⊢
    rw [ih, e1, e2]; rfl
theorem rowsTs {mp : List Nat} (h3 : idx 3 mp 0 = some 3) (h4 : idx 4 mp 0 = some 4) {xs : List (Bool × Nat)} {T : TypeId} : EqvB (.vec (encRow 0) (renRows mp (encTs 3 4) xs) T) (.vec (encTs 3 4) xs T) :=
  rows_eq rfl rfl fun x => ⟨.sw x.1 (.ifc 84 (.pto 3 x.2 0)) (.ifc 74 (.pto 4 x.2 0)), rfl, by simp [encTs, renL, ren, h3, h4]⟩
abbrev yS (s r : Mc) : Mc := ⟨s.l, s.c, r.ad, r.tw, s.ds⟩
abbrev yT (r : Mc) : Yc := ⟨r.l, r.c, r.ds⟩
set_option linter.unusedVariables false
theorem pick_far {m : Nat} {ts : List (Bool × Nat)} {s : Mc} (i : Int) {u : Bool × Nat} (hu : u ≠ tsAt ts i.toNat) : tkV (pickP m ts s i) u = tkV s u ∧ (tkOk s u → tkOk (pickP m ts s i) u) := by
  unfold pickP
  cases inP i m with
  | false => exact ⟨rfl, id⟩
  | true =>
    cases s.ds.getD i.toNat false with
    | true => exact ⟨rfl, id⟩
    | false =>
      obtain ⟨c, k⟩ := u
      generalize tsAt ts i.toNat = T at *
      obtain ⟨b, j⟩ := T
      cases b with
      | true =>
        cases c with
        | false => exact ⟨rfl, id⟩
        | true =>
          have hjk : j ≠ k := fun e => hu (by rw [e])
          simp only [tkV, tkOk, adAt]
          rw [Sx.getD_set_ne hjk]
          exact ⟨rfl, fun h => by simpa using h⟩
      | false =>
        cases c with
        | true => exact ⟨rfl, id⟩
        | false =>
          have hjk : j ≠ k := fun e => hu (by rw [e])
          simp only [tkV, tkOk, twAt]
          rw [Sx.getD_set_ne hjk]
          exact ⟨rfl, fun h => by simpa using h⟩
theorem inP_no {k : Int} {m : Nat} (h : ¬ (0 ≤ k ∧ k < (m : Int))) : inP k m = false := by
  cases hb : inP k m with
  | false => rfl
  | true => exact absurd ((inP_iff _ _).1 hb) h
set_option linter.unusedVariables false
theorem scalar_allA (l : List Int) : (l.all fun x => ((encInt .u32).enc x).all scalar) = true := by
  rw [List.all_eq_true]; intro x _; rfl
theorem tNew_ts (S : MadeT) (k : K3) : (stepB S k).2.2 = S.2.2 ++ [tNew S k] := by
  unfold stepB tNew
  cases kd k == 0 <;> rfl
theorem rel_uniq {t t' : Tk} {r : Rf} (h : Rel t r) (h' : Rel t' r) : t = t' := by
  obtain ⟨k, a, n, b, v⟩ := t
  obtain ⟨k', a', n', b', v'⟩ := t'
  obtain ⟨h1, _, h2, h3, h4, h5, _⟩ := h
  obtain ⟨g1, _, g2, g3, g4, g5, _⟩ := h'
  simp only at h1 h2 h3 h4 h5 g1 g2 g3 g4 g5
  have : k = k' := by omega
  subst this
  rw [h2, h3, h4, h5, g2, g3, g4, g5]
end Go.Proofs.YtlnigpeoffaemaaDoor

/- Layer 8: a machine's Run over a list of its own: pieces. -/
namespace Go.Proofs.YtlnigpeoffaemaaDoor
open Go Go.Proofs.YtlnigpeoffaemaaDoor.Sx
set_option linter.unusedVariables false
noncomputable def b25r : Code := Tryd.f25.body.getD .skip
noncomputable def c25r : Code := restC 2 b25r
noncomputable def reg25r : Code := lft (lft c25r)
noncomputable def blk25r : Code := rgt (lft c25r)
noncomputable def lp25r : Code := lft (lft blk25r)
noncomputable def end25r : Code := rgt c25r
abbrev n25ra : List Nat := [0, 1, 5]
abbrev n25rb : List Nat := [0, 5, 8, 9, 10]
abbrev runSv (n m : Nat) (ts : List (Bool × Nat)) (s : Mc) (L : List Int) : St := mcS n m ts s ++ [.vec (encInt .i64) L 3]
abbrev listW (L : List Int) (i : Nat) : SVal := .sli i (.c 0) 1 (.v L.length) none
abbrev v25v (L : List Int) (c i : Int) : List SVal := [.ptr 5 0, .int .i64 c, listW L 8, .int .i64 (L.length : Nat), .int .i64 i]
def runP (m : Nat) (ts : List (Bool × Nat)) (s : Mc) (l : List Int) : Mc := l.foldl (pickP m ts) s
def runN (m : Nat) (ts : List (Bool × Nat)) : Mc → List Int → Int
  | _, [] => 0
  | s, k :: l => (if errP m s k = 0 then 1 else 0) + runN m ts (pickP m ts s k) l
theorem runN_snoc {m : Nat} {ts : List (Bool × Nat)} {k : Int} : ∀ {l : List Int} {s : Mc}, runN m ts s (l ++ [k]) = runN m ts s l + (if errP m (runP m ts s l) k = 0 then 1 else 0)
  | [], s => by simp only [List.nil_append, runN, runP, List.foldl_nil]; omega
  | x :: l, s => by
    simp only [List.cons_append, runN, runN_snoc (l := l), runP, List.foldl_cons]; omega
theorem runN_le {m : Nat} {ts : List (Bool × Nat)} : ∀ {l : List Int} {s : Mc}, 0 ≤ runN m ts s l ∧ runN m ts s l ≤ l.length
  | [], s => by simp [runN]
  | x :: l, s => by
    have := runN_le (m := m) (ts := ts) (l := l) (s := pickP m ts s x)
    simp only [runN, List.length_cons]; split <;> omega
theorem runP_snoc {m : Nat} {ts : List (Bool × Nat)} {k : Int} {l : List Int} {s : Mc} : runP m ts s (l ++ [k]) = pickP m ts (runP m ts s l) k := by simp [runP]
theorem take_succ' {L : List Int} {i : Nat} (h : i < L.length) : L.take (i + 1) = L.take i ++ [L.getD i 0] := by
  rw [List.take_add_one]; simp [List.getD_eq_getElem?_getD, h]
theorem ok_run {n m : Nat} {ts : List (Bool × Nat)} : ∀ {l : List Int} {s : Mc}, McOk n m ts s → McOk n m ts (runP m ts s l)
  | [], _, h => h
  | k :: l, _, h => ok_run (l := l) (ok_pick h k)
end Go.Proofs.YtlnigpeoffaemaaDoor

namespace Go.Proofs.YtlnigpeoffaemaaDoor
open Go Go.Proofs.YtlnigpeoffaemaaDoor.Sx
set_option linter.unusedVariables false
set_option maxRecDepth 100000 in
theorem t23v_pre {n m : Nat} {ts : List (Bool × Nat)} {s : Mc} {L : List Int} : (execN cfgM 100 2 b25r ([.ptr 5 0, listW L 8] ++ List.replicate 20 .bad) (runSv n m ts s L)).bind (canonK 9 [(0,0)] 22 n25ra) =
 

 (.ret (.normal, [.ptr 5 0, .sli 8 (.c 0) 1 (.v L.length) none, .lit .i64 (0 : Int)], [.ro encLook [PUnit.unit], .own [.c (.sli 2 (.c 0) 1 (.v n) (some (.v n))), .c (.int .i64 s.2)] 67, .own [.a (encInt IntKind.u32) n s.1] 45, .many encAd s.3 86, .many encTw s.4 78, .own [.c (.ptr 1 0), .c (.sli 6 (.c 0) 1 (.v m) none), .c (.sli 7 (.c 0) 1 (.v m) (some (.v m)))] 70, .vec (encTs 3 4) ts 44, .own [.a encBool m s.5] 4, .vec (encInt IntKind.i64) L 3])) := by kernel_rfl
set_option maxRecDepth 100000 in
theorem t23v_reg {n m : Nat} {ts : List (Bool × Nat)} {s : Mc} {L : List Int} : (exec cfgM 100 reg25r (fr 22 n25ra [.ptr 5 0, listW L 8, .lit .i64 0]) (runSv n m ts s L)).bind (canonK 9 [(0,0)] 22 n25rb) =
 

 (.ret (.normal, [.ptr 5 0, .lit .i64 (0 : Int), .sli 8 (.c 0) 1 (.v L.length) none, .int .i64 (↑L.length : Int), .lit .i64 (0 : Int)], [.ro encLook [PUnit.unit], .own [.c (.sli 2 (.c 0) 1 (.v n) (some (.v n))), .c (.int .i64 s.2)] 67, .own [.a (encInt IntKind.u32) n s.1] 45, .many encAd s.3 86, .many encTw s.4 78, .own [.c (.ptr 1 0), .c (.sli 6 (.c 0) 1 (.v m) none), .c (.sli 7 (.c 0) 1 (.v m) (some (.v m)))] 70, .vec (encTs 3 4) ts 44, .own [.a encBool m s.5] 4, .vec (encInt IntKind.i64) L 3])) := by kernel_rfl
set_option maxRecDepth 100000 in
theorem t23v_lp {n m : Nat} {ts : List (Bool × Nat)} {s : Mc} {L : List Int} {c : Int} {i : Nat} : (exec (cfgQ n m ts s) 100 lp25r (fr 22 n25rb (v25v L c (i : Nat))) (runSv n m ts s L)).bind (canonK 9 [(0,0)] 22 n25rb) =
 

 (.br (decide ((↑i : Int) < (↑L.length : Int)))

 (.need (decide ((0 : Int) ≤ (↑i : Int)) && decide ((↑i : Int).toNat < L.length))

 (.need (decide ((↑i : Int).toNat < L.length))

 (.eq ([Blk.ro encLook [PUnit.unit], .own [.c (.sli 2 (.c 0) 1 (.v n) (some (.v n))), .c (.int .i64 s.2)] 67, .own [.a (encInt IntKind.u32) n s.1] 45, .many encAd s.3 86, .many encTw s.4 78, .own [.c (.ptr 1 0), .c (.sli 6 (.c 0) 1 (.v m) none), .c (.sli 7 (.c 0) 1 (.v m) (some (.v m)))] 70, .vec (encTs 3 4) ts 44, .own [.a encBool m s.5] 4] = [Blk.ro encLook [PUnit.unit], .own [.c (.sli 2 (.c 0) 1 (.v n) (some (.v n))), .c (.int .i64 s.2)] 67, .own [.a (encInt IntKind.u32) n s.1] 45, .many encAd s.3 86, .many encTw s.4 78, .own [.c (.ptr 1 0), .c (.sli 6 (.c 0) 1 (.v m) none), .c (.sli 7 (.c 0) 1 (.v m) (some (.v m)))] 70, .vec (encTs 3 4) ts 44, .own [.a encBool m s.5] 4] ∧ McOk n m ts s)

 (.br (errP m s (L.getD (↑i : Int).toNat (0 : Int)) == (0 : Int))

 (.need (inR .i64 (c + (1 : Int)))

 (.need (inR .i64 ((↑i : Int) + (1 : Int)))

 (.ret (.normal, [.ptr 5 0, .int .i64 (c + (1 : Int)), .sli 8 (.c 0) 1 (.v L.length) none, .int .i64 (↑L.length : Int), .int .i64 ((↑i : Int) + (1 : Int))], [.ro encLook [PUnit.unit], .own [.c (.sli 2 (.c 0) 1 (.v n) (some (.v n))), .c (.int .i64 (pickP m ts s (L.getD (↑i : Int).toNat (0 : Int))).c)] 67, .own [.a (encInt IntKind.u32) n (pickP m ts s (L.getD (↑i : Int).toNat (0 : Int))).l] 45, .many encAd (pickP m ts s (L.getD (↑i : Int).toNat (0 : Int))).ad 86, .many encTw (pickP m ts s (L.getD (↑i : Int).toNat (0 : Int))).tw 78, .own [.c (.ptr 1 0), .c (.sli 6 (.c 0) 1 (.v m) none), .c (.sli 7 (.c 0) 1 (.v m) (some (.v m)))] 70, .vec (encTs 3 4) ts 44, .own [.a encBool m (pickP m ts s (L.getD (↑i : Int).toNat (0 : Int))).ds] 4, .vec (encInt IntKind.i64) L 3]))))

 (.need (inR .i64 ((↑i : Int) + (1 : Int)))

 (.ret (.normal, [.ptr 5 0, .int .i64 c, .sli 8 (.c 0) 1 (.v L.length) none, .int .i64 (↑L.length : Int), .int .i64 ((↑i : Int) + (1 : Int))], [.ro encLook [PUnit.unit], .own [.c (.sli 2 (.c 0) 1 (.v n) (some (.v n))), .c (.int .i64 (pickP m ts s (L.getD (↑i : Int).toNat (0 : Int))).c)] 67, .own [.a (encInt IntKind.u32) n (pickP m ts s (L.getD (↑i : Int).toNat (0 : Int))).l] 45, .many encAd (pickP m ts s (L.getD (↑i : Int).toNat (0 : Int))).ad 86, .many encTw (pickP m ts s (L.getD (↑i : Int).toNat (0 : Int))).tw 78, .own [.c (.ptr 1 0), .c (.sli 6 (.c 0) 1 (.v m) none), .c (.sli 7 (.c 0) 1 (.v m) (some (.v m)))] 70, .vec (encTs 3 4) ts 44, .own [.a encBool m (pickP m ts s (L.getD (↑i : Int).toNat (0 : Int))).ds] 4, .vec (encInt IntKind.i64) L 3])))))))

 (.ret (.exit 0, [.ptr 5 0, .int .i64 c, .sli 8 (.c 0) 1 (.v L.length) none, .int .i64 (↑L.length : Int), .int .i64 (↑i : Int)], [.ro encLook [PUnit.unit], .own [.c (.sli 2 (.c 0) 1 (.v n) (some (.v n))), .c (.int .i64 s.2)] 67, .own [.a (encInt IntKind.u32) n s.1] 45, .many encAd s.3 86, .many encTw s.4 78, .own [.c (.ptr 1 0), .c (.sli 6 (.c 0) 1 (.v m) none), .c (.sli 7 (.c 0) 1 (.v m) (some (.v m)))] 70, .vec (encTs 3 4) ts 44, .own [.a encBool m s.5] 4, .vec (encInt IntKind.i64) L 3]))) := by kernel_rfl
set_option maxRecDepth 100000 in
theorem t23v_end {n m : Nat} {ts : List (Bool × Nat)} {s : Mc} {L : List Int} {c : Int} {i : Nat} : (exec cfgM 100 end25r (fr 22 n25rb (v25v L c (i : Nat))) (runSv n m ts s L)).bind (canonK 9 [(0,0)] 22 [4]) =
 

 (.ret (.ret, [.int .i64 c], [.ro encLook [PUnit.unit], .own [.c (.sli 2 (.c 0) 1 (.v n) (some (.v n))), .c (.int .i64 s.2)] 67, .own [.a (encInt IntKind.u32) n s.1] 45, .many encAd s.3 86, .many encTw s.4 78, .own [.c (.ptr 1 0), .c (.sli 6 (.c 0) 1 (.v m) none), .c (.sli 7 (.c 0) 1 (.v m) (some (.v m)))] 70, .vec (encTs 3 4) ts 44, .own [.a encBool m s.5] 4, .vec (encInt IntKind.i64) L 3])) := by kernel_rfl
end Go.Proofs.YtlnigpeoffaemaaDoor

/- Layer 8: what a machine's Run over a list of its own comes to. -/
namespace Go.Proofs.YtlnigpeoffaemaaDoor
open Go Go.Proofs.YtlnigpeoffaemaaDoor.Sx
set_option linter.unusedVariables false
abbrev Q23v (env0 : Env) (n m : Nat) (ts : List (Bool × Nat)) (s : Mc) (L : List Int) (w0 : World) : Exit → Act → World → Prop := bodyPost Tryd.prog Tryd.f25 (Ends1 env0 (runSv n m ts s L) w0 (.int .i64 (runN m ts s L)) (runSv n m ts (runP m ts s L) L))
def Inv25v (env0 : Env) (n m : Nat) (ts : List (Bool × Nat)) (s : Mc) (L : List Int) (w0 : World) (i : Nat) (a : Act) (w : World) : Prop :=
  i ≤ L.length ∧ ∃ env, AtK env0 [(0, 0)] ⟨w0, inFoot env0 (runSv n m ts s L)⟩ env (fr 22 n25rb (v25v L (runN m ts s (L.take i)) (i : Nat))) (runSv n m ts (runP m ts s (L.take i)) L) a w
theorem b25r_eq : Tryd.f25.body = some b25r := by kernel_rfl
theorem run_callv {n m : Nat} {ts : List (Bool × Nat)} {s : Mc} (hs : McOk n m ts s) {L : List Int} (hL : L.length ≤ 1000000) :
    ∀ (env : Env) (w : World) (vs : List Value), GlOk cfgM.gl env → Rep env (runSv n m ts s L) w → DenL env [.ptr 5 0, listW L 8] vs → Calls cfgM.P 25 ⟨vs⟩ w (Ends1 env (runSv n m ts s L) w (.int .i64 (runN m ts s L)) (runSv n m ts (runP m ts s L) L)) := by
  intro env w vs hg hr hdv
  have hb0 : env.length = 9 := hr.len
  refine AtK.begin (c := cfgM) Tryd.func25 b25r_eq hg hr hdv fun a hA => ?_
  refine pieceNTK2 (c := cfgM) cfgM_ok 2 n25ra (t23v_pre (n := n) (m := m) (ts := ts) (s := s) (L := L)) (by omega) (by simp) hA ?_
  refine all_ret fun env1 a1 w1 hA1 => ?_
  simp only [Ex.to, Exit.then]
  refine (show c25r.wp Tryd.prog (Q23v env n m ts s L w) a1 w1 from wpS (by kernel_rfl) (wpS (by kernel_rfl) ?_))
  refine pieceTK2 (c := cfgM) cfgM_ok n25rb (t23v_reg (n := n) (m := m) (ts := ts) (s := s) (L := L)) (by omega) (by simp) hA1 ?_
  refine all_ret fun env2 a2 w2 hA2 => ?_
  simp only [Ex.to, Exit.then]
  have hA3 := hA2.on fun h => h.gvals (v25v L (runN m ts s (L.take 0)) ((0 : Nat) : Int)) rfl
  refine wpB 0 (by kernel_rfl) (wpL (by kernel_rfl) (Inv25v env n m ts s L w) (fun k => L.length - k) 0 ⟨Nat.zero_le _, env2, hA3⟩ ?_)
  rintro i a w' ⟨hk, env3, hA⟩
  have hok : McOk n m ts (runP m ts s (L.take i)) := ok_run hs
  refine (show lp25r.wp Tryd.prog _ a w' from ?_)
  refine pieceTK2 (c := cfgQ n m ts (runP m ts s (L.take i))) cfgQ_ok n25rb (t23v_lp (n := n) (m := m) (ts := ts) (s := runP m ts s (L.take i)) (L := L)) (by omega) (by simp) hA ?_
  have hle := runN_le (m := m) (ts := ts) (l := L.take i) (s := s)
  have hlt : (L.take i).length ≤ i := by simp; omega
  refine all_brp (by simp only [decide_eq_true_eq]; exact Iff.rfl) (fun h1 => ?_) (fun h1 => ?_)
  · have hk' : i < L.length := by omega
    have hN := runN_snoc (m := m) (ts := ts) (k := L.getD i 0) (l := L.take i) (s := s)
    have hP := runP_snoc (m := m) (ts := ts) (k := L.getD i 0) (l := L.take i) (s := s)
    rw [← take_succ' hk'] at hN hP
    simp only [Int.toNat_natCast]
    refine all_needq (by simp only [decide_eq_true_eq, Bool.and_eq_true]; exact Iff.rfl) (by omega) ?_
    refine all_needq (by simp only [decide_eq_true_eq]; exact Iff.rfl) (by omega) ?_
    refine all_eq ⟨by first | exact True.intro | rfl, hok⟩ ?_
    have nx : ∀ {c' : Int}, runN m ts s (L.take (i + 1)) = c' → ∀ {env' a' w''}, AtK env [(0, 0)] ⟨w, inFoot env (runSv n m ts s L)⟩ env' (fr 22 n25rb (v25v L c' ((i : Int) + 1))) (runSv n m ts (pickP m ts (runP m ts s (L.take i)) (L.getD i 0)) L) a' w'' → ∃ k', Inv25v env n m ts s L w k' a' w'' ∧ L.length - k' < L.length - i := by
      intro c' hc env' a' w'' h
      subst hc
      rw [← hP] at h
      exact ⟨i + 1, ⟨by omega, env', h⟩, by omega⟩
    refine all_brp (by simp only [beq_iff_eq]; exact Iff.rfl) (fun hb => ?_) (fun hb => ?_)
    · rw [if_pos hb] at hN
      refine all_needq (by simp only [inR_i64]; exact Iff.rfl) (by omega) ?_
      refine all_needq (by simp only [inR_i64]; exact Iff.rfl) (by omega) ?_
      exact all_ret fun _ _ _ h => nx hN h
    · rw [if_neg hb] at hN
      refine all_needq (by simp only [inR_i64]; exact Iff.rfl) (by omega) ?_
      exact all_ret fun _ _ _ h => nx (by omega) h
  · have hkm : i = L.length := by omega
    subst hkm
    refine all_ret fun env4 a4 w4 hA4 => ?_
    simp only [Ex.to, Exit.then, Exit.inBlock, if_true]
    rw [List.take_of_length_le (Nat.le_refl _)] at hA4
    refine (show end25r.wp Tryd.prog (Q23v env n m ts s L w) a4 w4 from ?_)
    refine pieceTK2 (c := cfgM) cfgM_ok [4] (t23v_end (n := n) (m := m) (ts := ts) (s := runP m ts s L) (L := L)) (by omega) (by simp) hA4 ?_
    exact all_ret fun _ _ _ h => h.out (c := cfgM) (by kernel_rfl)
end Go.Proofs.YtlnigpeoffaemaaDoor

/- StepsRuns: pieces and states. -/
namespace Go.Proofs.YtlnigpeoffaemaaDoor
open Go Go.Proofs.YtlnigpeoffaemaaDoor.Sx
set_option linter.unusedVariables false
/-- what comes in -/
structure InR where
  kinds : List K3
  cap : Nat
  picks : List Int
  cap' : Nat
  most : Int
abbrev kindsR (p : InR) (i : Nat) : SVal := .sli i (.c 0) 3 (.v p.kinds.length) (some (.v p.cap))
abbrev pickR (p : InR) (i : Nat) : SVal := .sli i (.c 0) 1 (.v p.picks.length) (some (.v p.cap'))
abbrev s0R (p : InR) : St := [lookB, .ro encK p.kinds, .ro (encInt .i64) p.picks]
noncomputable def b8 : Code := Tryd.f8.body.getD .skip
noncomputable def c8 : Code := restC 6 b8
noncomputable def reg8 : Code := lft (lft c8)
noncomputable def blk8 : Code := rgt (lft c8)
noncomputable def round8 : Code := lft (lft blk8)
noncomputable def tm8 : Code := lft round8
noncomputable def bb8 : Code := lft (lft (rgt round8))
noncomputable def inc8 : Code := rgt (rgt round8)
noncomputable def d8 : Code := rgt c8
noncomputable def e8 : Code := restC 3 d8
noncomputable def reg8b : Code := lft (lft e8)
noncomputable def blk8b : Code := rgt (lft e8)
noncomputable def round8b : Code := lft (lft blk8b)
noncomputable def tm8b : Code := lft round8b
noncomputable def bb8b : Code := lft (lft (rgt round8b))
noncomputable def inc8b : Code := rgt (rgt round8b)
noncomputable def g8 : Code := rgt e8
noncomputable def h8 : Code := restC 2 g8
noncomputable def blk8c : Code := lft h8
noncomputable def round8c : Code := lft (lft blk8c)
noncomputable def tm8c : Code := lft round8c
noncomputable def bb8c : Code := lft (rgt round8c)
noncomputable def reg8d : Code := lft (lft bb8c)
noncomputable def blk8d : Code := rgt (lft bb8c)
noncomputable def round8d : Code := lft (lft blk8d)
noncomputable def tm8d : Code := lft round8d
noncomputable def bb8d : Code := lft (lft (rgt round8d))
noncomputable def inc8d : Code := rgt (rgt round8d)
noncomputable def inc8c : Code := rgt bb8c
noncomputable def end8 : Code := rgt h8
abbrev iA (k : Nat) : SVal := .ifc 84 (.pto 3 k 0)
abbrev iT (k : Nat) : SVal := .ifc 74 (.pto 4 k 0)
/-- while tasks are made -/
abbrev s8 (p : InR) (xs : List Ad) (ys : List Tw) (ts us : List (Bool × Nat)) : St :=
  famS 2 [0, 0] 0 xs ys ++ [.own [.c (.sli 6 (.c 0) 1 (.v 2) (some (.v 2))), .c (.int .i64 0)] 67, .own [.a (encInt .u32) 2 [0, 0]] 45, .ro encK p.kinds, .ro (encInt .i64) p.picks, .vec (encTs 3 4) ts 44, .vec (encTs 3 4) us 44]
abbrev n8a : List Nat := [0, 1, 2, 7, 9, 11, 12]
abbrev n8p : List Nat := [0, 1, 2, 7, 9, 11, 12, 6]
abbrev n8b : List Nat := [0, 1, 2, 7, 9, 11, 12, 13]
abbrev n8c : List Nat := [0, 1, 2, 7, 9, 11, 12, 13, 14]
abbrev n8d : List Nat := [0, 1, 2, 7, 9, 11, 12, 13, 14, 16]
abbrev n8e : List Nat := [1, 2, 7, 9, 12, 18, 19, 20]
abbrev v8 (p : InR) (m n : Nat) : List SVal := [kindsR p 7, pickR p 8, .int .u8 p.most, .ptr 1 0, .ptr 5 0, .sli 9 (.c 0) 1 (.v m) none, .sli 10 (.c 0) 1 (.v n) none]
abbrev v8i (p : InR) (m n i : Nat) : List SVal := v8 p m n ++ [.int .i64 (i : Nat)]
end Go.Proofs.YtlnigpeoffaemaaDoor

namespace Go.Proofs.YtlnigpeoffaemaaDoor
open Go Go.Proofs.YtlnigpeoffaemaaDoor.Sx
set_option linter.unusedVariables false
set_option maxRecDepth 100000 in
theorem r_pre {p : InR} : (execN cfgL 100 6 b8 ([kindsR p 1, pickR p 2, .int .u8 p.most] ++ List.replicate 175 .bad) (s0R p)).bind (canonK 0 [(0,0)] 178 n8p) =
 

 (.br (decide ((6 : Int) < (↑p.1.length : Int)))

 (.eq (some [Blk.ro encLook [PUnit.unit]] = some [Blk.ro encLook [PUnit.unit]])

 (.ret (.ret, [.sli 1 (.c 0) 3 (.v p.1.length) (some (.v p.2)), .sli 2 (.c 0) 1 (.v p.3.length) (some (.v p.4)), .int .u8 p.5, .bad, .bad, .bad, .bad, .bl true], [.ro encLook [PUnit.unit], .ro encK p.1, .ro (encInt IntKind.i64) p.3])))

 (.br (decide ((200 : Int) < (↑p.3.length : Int)))

 (.eq (some [Blk.ro encLook [PUnit.unit]] = some [Blk.ro encLook [PUnit.unit]])

 (.ret (.ret, [.sli 1 (.c 0) 3 (.v p.1.length) (some (.v p.2)), .sli 2 (.c 0) 1 (.v p.3.length) (some (.v p.4)), .int .u8 p.5, .bad, .bad, .bad, .bad, .bl true], [.ro encLook [PUnit.unit], .ro encK p.1, .ro (encInt IntKind.i64) p.3])))

 (.eq (some [Blk.ro encLook [PUnit.unit]] = some [Blk.ro encLook [PUnit.unit]])

 (.ret (.normal, [.sli 1 (.c 0) 3 (.v p.1.length) (some (.v p.2)), .sli 2 (.c 0) 1 (.v p.3.length) (some (.v p.4)), .int .u8 p.5, .ptr 3 0, .ptr 5 0, .sli 7 (.c 0) 1 (.c 0) (some (.c 0)), .sli 8 (.c 0) 1 (.c 0) (some (.c 0)), .bl false], [.ro encLook [PUnit.unit], .ro encK p.1, .ro (encInt IntKind.i64) p.3, .own [.c (.sli 4 (.c 0) 1 (.c 2) (some (.c 2))), .c (.lit .i64 (0 : Int))] 67, .own [.c (.lit .u32 (0 : Int)), .c (.lit .u32 (0 : Int))] 45, .own [.c (.sli 6 (.c 0) 1 (.c 2) (some (.c 2))), .c (.lit .i64 (0 : Int))] 67, .own [.c (.lit .u32 (0 : Int)), .c (.lit .u32 (0 : Int))] 45, .own [] 44, .own [] 44]))))) := by kernel_rfl
set_option maxRecDepth 100000 in
theorem r_reg {p : InR} {xs : List Ad} {ys : List Tw} {ts us : List (Bool × Nat)} {m n : Nat} : (exec cfgM 100 reg8 (fr 178 n8a (v8 p m n)) (s8 p xs ys ts us)).bind (canonK 9 [(0,0)] 178 n8b) =
 

 (.ret (.normal, [.sli 7 (.c 0) 3 (.v p.1.length) (some (.v p.2)), .sli 8 (.c 0) 1 (.v p.3.length) (some (.v p.4)), .int .u8 p.5, .ptr 1 0, .ptr 5 0, .sli 9 (.c 0) 1 (.v m) none, .sli 10 (.c 0) 1 (.v n) none, .lit .i64 (0 : Int)], [.ro encLook [PUnit.unit], .own [.c (.sli 2 (.c 0) 1 (.v 2) (some (.v 2))), .c (.int .i64 (0 : Int))] 67, .own [.a (encInt IntKind.u32) 2 [(0 : Int), (0 : Int)]] 45, .many encAd xs 86, .many encTw ys 78, .own [.c (.sli 6 (.c 0) 1 (.v 2) (some (.v 2))), .c (.int .i64 (0 : Int))] 67, .own [.a (encInt IntKind.u32) 2 [(0 : Int), (0 : Int)]] 45, .ro encK p.1, .ro (encInt IntKind.i64) p.3, .vec (encTs 3 4) ts 44, .vec (encTs 3 4) us 44])) := by kernel_rfl
set_option maxRecDepth 100000 in
theorem r_tm {p : InR} {xs : List Ad} {ys : List Tw} {ts us : List (Bool × Nat)} {m n i : Nat} : (exec cfgM 100 tm8 (fr 178 n8b (v8i p m n i)) (s8 p xs ys ts us)).bind (canonK 9 [(0,0)] 178 n8b) =
 

 (.br (decide ((↑i : Int) < (↑p.1.length : Int)))

 (.ret (.normal, [.sli 7 (.c 0) 3 (.v p.1.length) (some (.v p.2)), .sli 8 (.c 0) 1 (.v p.3.length) (some (.v p.4)), .int .u8 p.5, .ptr 1 0, .ptr 5 0, .sli 9 (.c 0) 1 (.v m) none, .sli 10 (.c 0) 1 (.v n) none, .int .i64 (↑i : Int)], [.ro encLook [PUnit.unit], .own [.c (.sli 2 (.c 0) 1 (.v 2) (some (.v 2))), .c (.int .i64 (0 : Int))] 67, .own [.a (encInt IntKind.u32) 2 [(0 : Int), (0 : Int)]] 45, .many encAd xs 86, .many encTw ys 78, .own [.c (.sli 6 (.c 0) 1 (.v 2) (some (.v 2))), .c (.int .i64 (0 : Int))] 67, .own [.a (encInt IntKind.u32) 2 [(0 : Int), (0 : Int)]] 45, .ro encK p.1, .ro (encInt IntKind.i64) p.3, .vec (encTs 3 4) ts 44, .vec (encTs 3 4) us 44]))

 (.ret (.exit 0, [.sli 7 (.c 0) 3 (.v p.1.length) (some (.v p.2)), .sli 8 (.c 0) 1 (.v p.3.length) (some (.v p.4)), .int .u8 p.5, .ptr 1 0, .ptr 5 0, .sli 9 (.c 0) 1 (.v m) none, .sli 10 (.c 0) 1 (.v n) none, .int .i64 (↑i : Int)], [.ro encLook [PUnit.unit], .own [.c (.sli 2 (.c 0) 1 (.v 2) (some (.v 2))), .c (.int .i64 (0 : Int))] 67, .own [.a (encInt IntKind.u32) 2 [(0 : Int), (0 : Int)]] 45, .many encAd xs 86, .many encTw ys 78, .own [.c (.sli 6 (.c 0) 1 (.v 2) (some (.v 2))), .c (.int .i64 (0 : Int))] 67, .own [.a (encInt IntKind.u32) 2 [(0 : Int), (0 : Int)]] 45, .ro encK p.1, .ro (encInt IntKind.i64) p.3, .vec (encTs 3 4) ts 44, .vec (encTs 3 4) us 44]))) := by kernel_rfl
set_option maxRecDepth 100000 in
theorem r_mk1 {p : InR} {xs : List Ad} {ys : List Tw} {ts us : List (Bool × Nat)} {m n i : Nat} : (execN cfgM 100 1 bb8 (fr 178 n8b (v8i p m n i)) (s8 p xs ys ts us)).bind (canonK 11 [(0,0)] 178 n8c) =
 

 (.need (decide ((0 : Int) ≤ (↑i : Int)) && decide ((↑i : Int).toNat < p.1.length))

 (.need (decide ((↑i : Int).toNat < p.1.length))

 (.need (decide ((↑i : Int).toNat < p.1.length))

 (.need (decide ((↑i : Int).toNat < p.1.length))

 (.br (decide ((20 : Int) < (p.1.getD (↑i : Int).toNat { kind := (0 : Int), at' := (0 : Int), times := (0 : Int), h := k0_h }).times))

 (.need (inR .i64 (p.1.getD (↑i : Int).toNat { kind := (0 : Int), at' := (0 : Int), times := (0 : Int), h := k0_h }).kind)

 (.need (true)

 (.br ((p.1.getD (↑i : Int).toNat { kind := (0 : Int), at' := (0 : Int), times := (0 : Int), h := k0_h }).kind.tmod (3 : Int) == (0 : Int))
 (.eq (T.ret (SVal.int IntKind.i64 (p.1.getD (↑i : Int).toNat { kind := (0 : Int), at' := (0 : Int), times := (0 : Int), h := k0_h }).at') = T.ret (SVal.int IntKind.i64 (p.1.getD (↑i : Int).toNat { kind := (0 : Int), at' := (0 : Int), times := (0 : Int), h := k0_h }).at'))
 (.eq (T.ret (SVal.agg [SVal.int IntKind.i64 ((p.1.getD (↑i : Int).toNat { kind := (0 : Int), at' := (0 : Int), times := (0 : Int), h := k0_h }).kind.tmod (3 : Int)), SVal.int IntKind.i64 (p.1.getD (↑i : Int).toNat { kind := (0 : Int), at' := (0 : Int), times := (0 : Int), h := k0_h }).at', SVal.lit IntKind.i64 (20 : Int), SVal.bl false, SVal.lit IntKind.u32 (0 : Int), SVal.bl false]) = T.ret (SVal.agg [SVal.int IntKind.i64 ((p.1.getD (↑i : Int).toNat { kind := (0 : Int), at' := (0 : Int), times := (0 : Int), h := k0_h }).kind.tmod (3 : Int)), SVal.int IntKind.i64 (p.1.getD (↑i : Int).toNat { kind := (0 : Int), at' := (0 : Int), times := (0 : Int), h := k0_h }).at', SVal.lit IntKind.i64 (20 : Int), SVal.bl false, SVal.lit IntKind.u32 (0 : Int), SVal.bl false]))
 (.eq (T.ret (SVal.agg [SVal.int IntKind.i64 ((p.1.getD (↑i : Int).toNat { kind := (0 : Int), at' := (0 : Int), times := (0 : Int), h := k0_h }).kind.tmod (3 : Int)), SVal.int IntKind.i64 (p.1.getD (↑i : Int).toNat { kind := (0 : Int), at' := (0 : Int), times := (0 : Int), h := k0_h }).at', SVal.lit IntKind.i64 (20 : Int), SVal.bl false, SVal.lit IntKind.u32 (0 : Int), SVal.bl false]) = T.ret (SVal.agg [SVal.int IntKind.i64 ((p.1.getD (↑i : Int).toNat { kind := (0 : Int), at' := (0 : Int), times := (0 : Int), h := k0_h }).kind.tmod (3 : Int)), SVal.int IntKind.i64 (p.1.getD (↑i : Int).toNat { kind := (0 : Int), at' := (0 : Int), times := (0 : Int), h := k0_h }).at', SVal.lit IntKind.i64 (20 : Int), SVal.bl false, SVal.lit IntKind.u32 (0 : Int), SVal.bl false]))

 (.ret (.normal, [.sli 7 (.c 0) 3 (.v p.1.length) (some (.v p.2)), .sli 8 (.c 0) 1 (.v p.3.length) (some (.v p.4)), .int .u8 p.5, .ptr 1 0, .ptr 5 0, .sli 9 (.c 0) 1 (.v m) none, .sli 10 (.c 0) 1 (.v n) none, .int .i64 (↑i : Int), .ifc 84 (.ptr 11 0)], [.ro encLook [PUnit.unit], .own [.c (.sli 2 (.c 0) 1 (.v 2) (some (.v 2))), .c (.int .i64 (0 : Int))] 67, .own [.a (encInt IntKind.u32) 2 [(0 : Int), (0 : Int)]] 45, .many encAd xs 86, .many encTw ys 78, .own [.c (.sli 6 (.c 0) 1 (.v 2) (some (.v 2))), .c (.int .i64 (0 : Int))] 67, .own [.a (encInt IntKind.u32) 2 [(0 : Int), (0 : Int)]] 45, .ro encK p.1, .ro (encInt IntKind.i64) p.3, .vec (encTs 3 4) ts 44, .vec (encTs 3 4) us 44, .own [.c (.int .i64 (p.1.getD (↑i : Int).toNat { kind := (0 : Int), at' := (0 : Int), times := (0 : Int), h := k0_h }).at'), .c (.lit .i64 (20 : Int))] 86])))))

 (.br ((p.1.getD (↑i : Int).toNat { kind := (0 : Int), at' := (0 : Int), times := (0 : Int), h := k0_h }).kind.tmod (3 : Int) == (1 : Int))
 (.eq (T.ret (SVal.int IntKind.i64 (p.1.getD (↑i : Int).toNat { kind := (0 : Int), at' := (0 : Int), times := (0 : Int), h := k0_h }).at') = T.ret (SVal.int IntKind.i64 (p.1.getD (↑i : Int).toNat { kind := (0 : Int), at' := (0 : Int), times := (0 : Int), h := k0_h }).at'))
 (.eq (T.ret (SVal.agg [SVal.int IntKind.i64 ((p.1.getD (↑i : Int).toNat { kind := (0 : Int), at' := (0 : Int), times := (0 : Int), h := k0_h }).kind.tmod (3 : Int)), SVal.int IntKind.i64 (p.1.getD (↑i : Int).toNat { kind := (0 : Int), at' := (0 : Int), times := (0 : Int), h := k0_h }).at', SVal.lit IntKind.i64 (20 : Int), SVal.bl false, SVal.lit IntKind.u32 (0 : Int), SVal.bl false]) = T.ret (SVal.agg [SVal.int IntKind.i64 ((p.1.getD (↑i : Int).toNat { kind := (0 : Int), at' := (0 : Int), times := (0 : Int), h := k0_h }).kind.tmod (3 : Int)), SVal.int IntKind.i64 (p.1.getD (↑i : Int).toNat { kind := (0 : Int), at' := (0 : Int), times := (0 : Int), h := k0_h }).at', SVal.lit IntKind.i64 (20 : Int), SVal.bl false, SVal.lit IntKind.u32 (0 : Int), SVal.bl false]))
 (.eq (T.ret (SVal.agg [SVal.int IntKind.i64 ((p.1.getD (↑i : Int).toNat { kind := (0 : Int), at' := (0 : Int), times := (0 : Int), h := k0_h }).kind.tmod (3 : Int)), SVal.int IntKind.i64 (p.1.getD (↑i : Int).toNat { kind := (0 : Int), at' := (0 : Int), times := (0 : Int), h := k0_h }).at', SVal.lit IntKind.i64 (20 : Int), SVal.bl false, SVal.lit IntKind.u32 (0 : Int), SVal.bl false]) = T.ret (SVal.agg [SVal.int IntKind.i64 ((p.1.getD (↑i : Int).toNat { kind := (0 : Int), at' := (0 : Int), times := (0 : Int), h := k0_h }).kind.tmod (3 : Int)), SVal.int IntKind.i64 (p.1.getD (↑i : Int).toNat { kind := (0 : Int), at' := (0 : Int), times := (0 : Int), h := k0_h }).at', SVal.lit IntKind.i64 (20 : Int), SVal.bl false, SVal.lit IntKind.u32 (0 : Int), SVal.bl false]))

 (.ret (.normal, [.sli 7 (.c 0) 3 (.v p.1.length) (some (.v p.2)), .sli 8 (.c 0) 1 (.v p.3.length) (some (.v p.4)), .int .u8 p.5, .ptr 1 0, .ptr 5 0, .sli 9 (.c 0) 1 (.v m) none, .sli 10 (.c 0) 1 (.v n) none, .int .i64 (↑i : Int), .ifc 74 (.ptr 11 0)], [.ro encLook [PUnit.unit], .own [.c (.sli 2 (.c 0) 1 (.v 2) (some (.v 2))), .c (.int .i64 (0 : Int))] 67, .own [.a (encInt IntKind.u32) 2 [(0 : Int), (0 : Int)]] 45, .many encAd xs 86, .many encTw ys 78, .own [.c (.sli 6 (.c 0) 1 (.v 2) (some (.v 2))), .c (.int .i64 (0 : Int))] 67, .own [.a (encInt IntKind.u32) 2 [(0 : Int), (0 : Int)]] 45, .ro encK p.1, .ro (encInt IntKind.i64) p.3, .vec (encTs 3 4) ts 44, .vec (encTs 3 4) us 44, .own [.c (.int .i64 (p.1.getD (↑i : Int).toNat { kind := (0 : Int), at' := (0 : Int), times := (0 : Int), h := k0_h }).at'), .c (.lit .i64 (20 : Int)), .c (.bl false), .c (.lit .u32 (0 : Int)), .c (SVal.fn (Fn.func 27) [] [])] 78])))))
 (.eq (T.ret (SVal.int IntKind.i64 (p.1.getD (↑i : Int).toNat { kind := (0 : Int), at' := (0 : Int), times := (0 : Int), h := k0_h }).at') = T.ret (SVal.int IntKind.i64 (p.1.getD (↑i : Int).toNat { kind := (0 : Int), at' := (0 : Int), times := (0 : Int), h := k0_h }).at'))
 (.eq (T.ret (SVal.agg [SVal.int IntKind.i64 ((p.1.getD (↑i : Int).toNat { kind := (0 : Int), at' := (0 : Int), times := (0 : Int), h := k0_h }).kind.tmod (3 : Int)), SVal.int IntKind.i64 (p.1.getD (↑i : Int).toNat { kind := (0 : Int), at' := (0 : Int), times := (0 : Int), h := k0_h }).at', SVal.lit IntKind.i64 (20 : Int), SVal.bl false, SVal.lit IntKind.u32 (0 : Int), SVal.bl false]) = T.ret (SVal.agg [SVal.int IntKind.i64 ((p.1.getD (↑i : Int).toNat { kind := (0 : Int), at' := (0 : Int), times := (0 : Int), h := k0_h }).kind.tmod (3 : Int)), SVal.int IntKind.i64 (p.1.getD (↑i : Int).toNat { kind := (0 : Int), at' := (0 : Int), times := (0 : Int), h := k0_h }).at', SVal.lit IntKind.i64 (20 : Int), SVal.bl false, SVal.lit IntKind.u32 (0 : Int), SVal.bl false]))
 (.eq (T.ret (SVal.agg [SVal.int IntKind.i64 ((p.1.getD (↑i : Int).toNat { kind := (0 : Int), at' := (0 : Int), times := (0 : Int), h := k0_h }).kind.tmod (3 : Int)), SVal.int IntKind.i64 (p.1.getD (↑i : Int).toNat { kind := (0 : Int), at' := (0 : Int), times := (0 : Int), h := k0_h }).at', SVal.lit IntKind.i64 (20 : Int), SVal.bl false, SVal.lit IntKind.u32 (0 : Int), SVal.bl false]) = T.ret (SVal.agg [SVal.int IntKind.i64 ((p.1.getD (↑i : Int).toNat { kind := (0 : Int), at' := (0 : Int), times := (0 : Int), h := k0_h }).kind.tmod (3 : Int)), SVal.int IntKind.i64 (p.1.getD (↑i : Int).toNat { kind := (0 : Int), at' := (0 : Int), times := (0 : Int), h := k0_h }).at', SVal.lit IntKind.i64 (20 : Int), SVal.bl false, SVal.lit IntKind.u32 (0 : Int), SVal.bl false]))

 (.ret (.normal, [.sli 7 (.c 0) 3 (.v p.1.length) (some (.v p.2)), .sli 8 (.c 0) 1 (.v p.3.length) (some (.v p.4)), .int .u8 p.5, .ptr 1 0, .ptr 5 0, .sli 9 (.c 0) 1 (.v m) none, .sli 10 (.c 0) 1 (.v n) none, .int .i64 (↑i : Int), .ifc 74 (.ptr 11 0)], [.ro encLook [PUnit.unit], .own [.c (.sli 2 (.c 0) 1 (.v 2) (some (.v 2))), .c (.int .i64 (0 : Int))] 67, .own [.a (encInt IntKind.u32) 2 [(0 : Int), (0 : Int)]] 45, .many encAd xs 86, .many encTw ys 78, .own [.c (.sli 6 (.c 0) 1 (.v 2) (some (.v 2))), .c (.int .i64 (0 : Int))] 67, .own [.a (encInt IntKind.u32) 2 [(0 : Int), (0 : Int)]] 45, .ro encK p.1, .ro (encInt IntKind.i64) p.3, .vec (encTs 3 4) ts 44, .vec (encTs 3 4) us 44, .own [.c (.int .i64 (p.1.getD (↑i : Int).toNat { kind := (0 : Int), at' := (0 : Int), times := (0 : Int), h := k0_h }).at'), .c (.lit .i64 (20 : Int)), .c (.bl false), .c (.lit .u32 (0 : Int)), .c (SVal.fn (Fn.func 30) [] [])] 78])))))))))

 (.need (inR .i64 (p.1.getD (↑i : Int).toNat { kind := (0 : Int), at' := (0 : Int), times := (0 : Int), h := k0_h }).kind)

 (.need (true)

 (.br ((p.1.getD (↑i : Int).toNat { kind := (0 : Int), at' := (0 : Int), times := (0 : Int), h := k0_h }).kind.tmod (3 : Int) == (0 : Int))
 (.eq (T.ret (SVal.int IntKind.i64 (p.1.getD (↑i : Int).toNat { kind := (0 : Int), at' := (0 : Int), times := (0 : Int), h := k0_h }).at') = T.ret (SVal.int IntKind.i64 (p.1.getD (↑i : Int).toNat { kind := (0 : Int), at' := (0 : Int), times := (0 : Int), h := k0_h }).at'))
 (.eq (T.ret (SVal.int IntKind.i64 (p.1.getD (↑i : Int).toNat { kind := (0 : Int), at' := (0 : Int), times := (0 : Int), h := k0_h }).times) = T.ret (SVal.int IntKind.i64 (p.1.getD (↑i : Int).toNat { kind := (0 : Int), at' := (0 : Int), times := (0 : Int), h := k0_h }).times))
 (.eq (T.ret (SVal.agg [SVal.int IntKind.i64 ((p.1.getD (↑i : Int).toNat { kind := (0 : Int), at' := (0 : Int), times := (0 : Int), h := k0_h }).kind.tmod (3 : Int)), SVal.int IntKind.i64 (p.1.getD (↑i : Int).toNat { kind := (0 : Int), at' := (0 : Int), times := (0 : Int), h := k0_h }).at', SVal.int IntKind.i64 (p.1.getD (↑i : Int).toNat { kind := (0 : Int), at' := (0 : Int), times := (0 : Int), h := k0_h }).times, SVal.bl false, SVal.lit IntKind.u32 (0 : Int), SVal.bl false]) = T.ret (SVal.agg [SVal.int IntKind.i64 ((p.1.getD (↑i : Int).toNat { kind := (0 : Int), at' := (0 : Int), times := (0 : Int), h := k0_h }).kind.tmod (3 : Int)), SVal.int IntKind.i64 (p.1.getD (↑i : Int).toNat { kind := (0 : Int), at' := (0 : Int), times := (0 : Int), h := k0_h }).at', SVal.int IntKind.i64 (p.1.getD (↑i : Int).toNat { kind := (0 : Int), at' := (0 : Int), times := (0 : Int), h := k0_h }).times, SVal.bl false, SVal.lit IntKind.u32 (0 : Int), SVal.bl false]))
 (.eq (T.ret (SVal.agg [SVal.int IntKind.i64 ((p.1.getD (↑i : Int).toNat { kind := (0 : Int), at' := (0 : Int), times := (0 : Int), h := k0_h }).kind.tmod (3 : Int)), SVal.int IntKind.i64 (p.1.getD (↑i : Int).toNat { kind := (0 : Int), at' := (0 : Int), times := (0 : Int), h := k0_h }).at', SVal.int IntKind.i64 (p.1.getD (↑i : Int).toNat { kind := (0 : Int), at' := (0 : Int), times := (0 : Int), h := k0_h }).times, SVal.bl false, SVal.lit IntKind.u32 (0 : Int), SVal.bl false]) = T.ret (SVal.agg [SVal.int IntKind.i64 ((p.1.getD (↑i : Int).toNat { kind := (0 : Int), at' := (0 : Int), times := (0 : Int), h := k0_h }).kind.tmod (3 : Int)), SVal.int IntKind.i64 (p.1.getD (↑i : Int).toNat { kind := (0 : Int), at' := (0 : Int), times := (0 : Int), h := k0_h }).at', SVal.int IntKind.i64 (p.1.getD (↑i : Int).toNat { kind := (0 : Int), at' := (0 : Int), times := (0 : Int), h := k0_h }).times, SVal.bl false, SVal.lit IntKind.u32 (0 : Int), SVal.bl false]))

 (.ret (.normal, [.sli 7 (.c 0) 3 (.v p.1.length) (some (.v p.2)), .sli 8 (.c 0) 1 (.v p.3.length) (some (.v p.4)), .int .u8 p.5, .ptr 1 0, .ptr 5 0, .sli 9 (.c 0) 1 (.v m) none, .sli 10 (.c 0) 1 (.v n) none, .int .i64 (↑i : Int), .ifc 84 (.ptr 11 0)], [.ro encLook [PUnit.unit], .own [.c (.sli 2 (.c 0) 1 (.v 2) (some (.v 2))), .c (.int .i64 (0 : Int))] 67, .own [.a (encInt IntKind.u32) 2 [(0 : Int), (0 : Int)]] 45, .many encAd xs 86, .many encTw ys 78, .own [.c (.sli 6 (.c 0) 1 (.v 2) (some (.v 2))), .c (.int .i64 (0 : Int))] 67, .own [.a (encInt IntKind.u32) 2 [(0 : Int), (0 : Int)]] 45, .ro encK p.1, .ro (encInt IntKind.i64) p.3, .vec (encTs 3 4) ts 44, .vec (encTs 3 4) us 44, .own [.c (.int .i64 (p.1.getD (↑i : Int).toNat { kind := (0 : Int), at' := (0 : Int), times := (0 : Int), h := k0_h }).at'), .c (.int .i64 (p.1.getD (↑i : Int).toNat { kind := (0 : Int), at' := (0 : Int), times := (0 : Int), h := k0_h }).times)] 86]))))))

 (.br ((p.1.getD (↑i : Int).toNat { kind := (0 : Int), at' := (0 : Int), times := (0 : Int), h := k0_h }).kind.tmod (3 : Int) == (1 : Int))
 (.eq (T.ret (SVal.int IntKind.i64 (p.1.getD (↑i : Int).toNat { kind := (0 : Int), at' := (0 : Int), times := (0 : Int), h := k0_h }).at') = T.ret (SVal.int IntKind.i64 (p.1.getD (↑i : Int).toNat { kind := (0 : Int), at' := (0 : Int), times := (0 : Int), h := k0_h }).at'))
 (.eq (T.ret (SVal.int IntKind.i64 (p.1.getD (↑i : Int).toNat { kind := (0 : Int), at' := (0 : Int), times := (0 : Int), h := k0_h }).times) = T.ret (SVal.int IntKind.i64 (p.1.getD (↑i : Int).toNat { kind := (0 : Int), at' := (0 : Int), times := (0 : Int), h := k0_h }).times))
 (.eq (T.ret (SVal.agg [SVal.int IntKind.i64 ((p.1.getD (↑i : Int).toNat { kind := (0 : Int), at' := (0 : Int), times := (0 : Int), h := k0_h }).kind.tmod (3 : Int)), SVal.int IntKind.i64 (p.1.getD (↑i : Int).toNat { kind := (0 : Int), at' := (0 : Int), times := (0 : Int), h := k0_h }).at', SVal.int IntKind.i64 (p.1.getD (↑i : Int).toNat { kind := (0 : Int), at' := (0 : Int), times := (0 : Int), h := k0_h }).times, SVal.bl false, SVal.lit IntKind.u32 (0 : Int), SVal.bl false]) = T.ret (SVal.agg [SVal.int IntKind.i64 ((p.1.getD (↑i : Int).toNat { kind := (0 : Int), at' := (0 : Int), times := (0 : Int), h := k0_h }).kind.tmod (3 : Int)), SVal.int IntKind.i64 (p.1.getD (↑i : Int).toNat { kind := (0 : Int), at' := (0 : Int), times := (0 : Int), h := k0_h }).at', SVal.int IntKind.i64 (p.1.getD (↑i : Int).toNat { kind := (0 : Int), at' := (0 : Int), times := (0 : Int), h := k0_h }).times, SVal.bl false, SVal.lit IntKind.u32 (0 : Int), SVal.bl false]))
 (.eq (T.ret (SVal.agg [SVal.int IntKind.i64 ((p.1.getD (↑i : Int).toNat { kind := (0 : Int), at' := (0 : Int), times := (0 : Int), h := k0_h }).kind.tmod (3 : Int)), SVal.int IntKind.i64 (p.1.getD (↑i : Int).toNat { kind := (0 : Int), at' := (0 : Int), times := (0 : Int), h := k0_h }).at', SVal.int IntKind.i64 (p.1.getD (↑i : Int).toNat { kind := (0 : Int), at' := (0 : Int), times := (0 : Int), h := k0_h }).times, SVal.bl false, SVal.lit IntKind.u32 (0 : Int), SVal.bl false]) = T.ret (SVal.agg [SVal.int IntKind.i64 ((p.1.getD (↑i : Int).toNat { kind := (0 : Int), at' := (0 : Int), times := (0 : Int), h := k0_h }).kind.tmod (3 : Int)), SVal.int IntKind.i64 (p.1.getD (↑i : Int).toNat { kind := (0 : Int), at' := (0 : Int), times := (0 : Int), h := k0_h }).at', SVal.int IntKind.i64 (p.1.getD (↑i : Int).toNat { kind := (0 : Int), at' := (0 : Int), times := (0 : Int), h := k0_h }).times, SVal.bl false, SVal.lit IntKind.u32 (0 : Int), SVal.bl false]))

 (.ret (.normal, [.sli 7 (.c 0) 3 (.v p.1.length) (some (.v p.2)), .sli 8 (.c 0) 1 (.v p.3.length) (some (.v p.4)), .int .u8 p.5, .ptr 1 0, .ptr 5 0, .sli 9 (.c 0) 1 (.v m) none, .sli 10 (.c 0) 1 (.v n) none, .int .i64 (↑i : Int), .ifc 74 (.ptr 11 0)], [.ro encLook [PUnit.unit], .own [.c (.sli 2 (.c 0) 1 (.v 2) (some (.v 2))), .c (.int .i64 (0 : Int))] 67, .own [.a (encInt IntKind.u32) 2 [(0 : Int), (0 : Int)]] 45, .many encAd xs 86, .many encTw ys 78, .own [.c (.sli 6 (.c 0) 1 (.v 2) (some (.v 2))), .c (.int .i64 (0 : Int))] 67, .own [.a (encInt IntKind.u32) 2 [(0 : Int), (0 : Int)]] 45, .ro encK p.1, .ro (encInt IntKind.i64) p.3, .vec (encTs 3 4) ts 44, .vec (encTs 3 4) us 44, .own [.c (.int .i64 (p.1.getD (↑i : Int).toNat { kind := (0 : Int), at' := (0 : Int), times := (0 : Int), h := k0_h }).at'), .c (.int .i64 (p.1.getD (↑i : Int).toNat { kind := (0 : Int), at' := (0 : Int), times := (0 : Int), h := k0_h }).times), .c (.bl false), .c (.lit .u32 (0 : Int)), .c (SVal.fn (Fn.func 27) [] [])] 78]))))))
 (.eq (T.ret (SVal.int IntKind.i64 (p.1.getD (↑i : Int).toNat { kind := (0 : Int), at' := (0 : Int), times := (0 : Int), h := k0_h }).at') = T.ret (SVal.int IntKind.i64 (p.1.getD (↑i : Int).toNat { kind := (0 : Int), at' := (0 : Int), times := (0 : Int), h := k0_h }).at'))
 (.eq (T.ret (SVal.int IntKind.i64 (p.1.getD (↑i : Int).toNat { kind := (0 : Int), at' := (0 : Int), times := (0 : Int), h := k0_h }).times) = T.ret (SVal.int IntKind.i64 (p.1.getD (↑i : Int).toNat { kind := (0 : Int), at' := (0 : Int), times := (0 : Int), h := k0_h }).times))
 (.eq (T.ret (SVal.agg [SVal.int IntKind.i64 ((p.1.getD (↑i : Int).toNat { kind := (0 : Int), at' := (0 : Int), times := (0 : Int), h := k0_h }).kind.tmod (3 : Int)), SVal.int IntKind.i64 (p.1.getD (↑i : Int).toNat { kind := (0 : Int), at' := (0 : Int), times := (0 : Int), h := k0_h }).at', SVal.int IntKind.i64 (p.1.getD (↑i : Int).toNat { kind := (0 : Int), at' := (0 : Int), times := (0 : Int), h := k0_h }).times, SVal.bl false, SVal.lit IntKind.u32 (0 : Int), SVal.bl false]) = T.ret (SVal.agg [SVal.int IntKind.i64 ((p.1.getD (↑i : Int).toNat { kind := (0 : Int), at' := (0 : Int), times := (0 : Int), h := k0_h }).kind.tmod (3 : Int)), SVal.int IntKind.i64 (p.1.getD (↑i : Int).toNat { kind := (0 : Int), at' := (0 : Int), times := (0 : Int), h := k0_h }).at', SVal.int IntKind.i64 (p.1.getD (↑i : Int).toNat { kind := (0 : Int), at' := (0 : Int), times := (0 : Int), h := k0_h }).times, SVal.bl false, SVal.lit IntKind.u32 (0 : Int), SVal.bl false]))
 (.eq (T.ret (SVal.agg [SVal.int IntKind.i64 ((p.1.getD (↑i : Int).toNat { kind := (0 : Int), at' := (0 : Int), times := (0 : Int), h := k0_h }).kind.tmod (3 : Int)), SVal.int IntKind.i64 (p.1.getD (↑i : Int).toNat { kind := (0 : Int), at' := (0 : Int), times := (0 : Int), h := k0_h }).at', SVal.int IntKind.i64 (p.1.getD (↑i : Int).toNat { kind := (0 : Int), at' := (0 : Int), times := (0 : Int), h := k0_h }).times, SVal.bl false, SVal.lit IntKind.u32 (0 : Int), SVal.bl false]) = T.ret (SVal.agg [SVal.int IntKind.i64 ((p.1.getD (↑i : Int).toNat { kind := (0 : Int), at' := (0 : Int), times := (0 : Int), h := k0_h }).kind.tmod (3 : Int)), SVal.int IntKind.i64 (p.1.getD (↑i : Int).toNat { kind := (0 : Int), at' := (0 : Int), times := (0 : Int), h := k0_h }).at', SVal.int IntKind.i64 (p.1.getD (↑i : Int).toNat { kind := (0 : Int), at' := (0 : Int), times := (0 : Int), h := k0_h }).times, SVal.bl false, SVal.lit IntKind.u32 (0 : Int), SVal.bl false]))

 (.ret (.normal, [.sli 7 (.c 0) 3 (.v p.1.length) (some (.v p.2)), .sli 8 (.c 0) 1 (.v p.3.length) (some (.v p.4)), .int .u8 p.5, .ptr 1 0, .ptr 5 0, .sli 9 (.c 0) 1 (.v m) none, .sli 10 (.c 0) 1 (.v n) none, .int .i64 (↑i : Int), .ifc 74 (.ptr 11 0)], [.ro encLook [PUnit.unit], .own [.c (.sli 2 (.c 0) 1 (.v 2) (some (.v 2))), .c (.int .i64 (0 : Int))] 67, .own [.a (encInt IntKind.u32) 2 [(0 : Int), (0 : Int)]] 45, .many encAd xs 86, .many encTw ys 78, .own [.c (.sli 6 (.c 0) 1 (.v 2) (some (.v 2))), .c (.int .i64 (0 : Int))] 67, .own [.a (encInt IntKind.u32) 2 [(0 : Int), (0 : Int)]] 45, .ro encK p.1, .ro (encInt IntKind.i64) p.3, .vec (encTs 3 4) ts 44, .vec (encTs 3 4) us 44, .own [.c (.int .i64 (p.1.getD (↑i : Int).toNat { kind := (0 : Int), at' := (0 : Int), times := (0 : Int), h := k0_h }).at'), .c (.int .i64 (p.1.getD (↑i : Int).toNat { kind := (0 : Int), at' := (0 : Int), times := (0 : Int), h := k0_h }).times), .c (.bl false), .c (.lit .u32 (0 : Int)), .c (SVal.fn (Fn.func 30) [] [])] 78]))))))))))))))) := by kernel_rfl
set_option maxRecDepth 100000 in
theorem r_mk2 {p : InR} {xs : List Ad} {ys : List Tw} {ts us : List (Bool × Nat)} {m n i : Nat} {t : Bool × Nat} : (execN cfgM 100 1 (restC 1 bb8) (fr 178 n8c (v8i p m n i ++ [swV t])) (s8 p xs ys ts us)).bind (canonK 11 [(0,0)] 178 n8d) =
 

 (.need (decide ((0 : Int) ≤ (↑i : Int)) && decide ((↑i : Int).toNat < p.1.length))

 (.need (decide ((↑i : Int).toNat < p.1.length))

 (.need (decide ((↑i : Int).toNat < p.1.length))

 (.need (decide ((↑i : Int).toNat < p.1.length))

 (.br (decide ((20 : Int) < (p.1.getD (↑i : Int).toNat { kind := (0 : Int), at' := (0 : Int), times := (0 : Int), h := k0_h }).times))

 (.need (inR .i64 (p.1.getD (↑i : Int).toNat { kind := (0 : Int), at' := (0 : Int), times := (0 : Int), h := k0_h }).kind)

 (.need (true)

 (.br ((p.1.getD (↑i : Int).toNat { kind := (0 : Int), at' := (0 : Int), times := (0 : Int), h := k0_h }).kind.tmod (3 : Int) == (0 : Int))
 (.eq (T.ret (SVal.int IntKind.i64 (p.1.getD (↑i : Int).toNat { kind := (0 : Int), at' := (0 : Int), times := (0 : Int), h := k0_h }).at') = T.ret (SVal.int IntKind.i64 (p.1.getD (↑i : Int).toNat { kind := (0 : Int), at' := (0 : Int), times := (0 : Int), h := k0_h }).at'))
 (.eq (T.ret (SVal.agg [SVal.int IntKind.i64 ((p.1.getD (↑i : Int).toNat { kind := (0 : Int), at' := (0 : Int), times := (0 : Int), h := k0_h }).kind.tmod (3 : Int)), SVal.int IntKind.i64 (p.1.getD (↑i : Int).toNat { kind := (0 : Int), at' := (0 : Int), times := (0 : Int), h := k0_h }).at', SVal.lit IntKind.i64 (20 : Int), SVal.bl false, SVal.lit IntKind.u32 (0 : Int), SVal.bl false]) = T.ret (SVal.agg [SVal.int IntKind.i64 ((p.1.getD (↑i : Int).toNat { kind := (0 : Int), at' := (0 : Int), times := (0 : Int), h := k0_h }).kind.tmod (3 : Int)), SVal.int IntKind.i64 (p.1.getD (↑i : Int).toNat { kind := (0 : Int), at' := (0 : Int), times := (0 : Int), h := k0_h }).at', SVal.lit IntKind.i64 (20 : Int), SVal.bl false, SVal.lit IntKind.u32 (0 : Int), SVal.bl false]))
 (.eq (T.ret (SVal.agg [SVal.int IntKind.i64 ((p.1.getD (↑i : Int).toNat { kind := (0 : Int), at' := (0 : Int), times := (0 : Int), h := k0_h }).kind.tmod (3 : Int)), SVal.int IntKind.i64 (p.1.getD (↑i : Int).toNat { kind := (0 : Int), at' := (0 : Int), times := (0 : Int), h := k0_h }).at', SVal.lit IntKind.i64 (20 : Int), SVal.bl false, SVal.lit IntKind.u32 (0 : Int), SVal.bl false]) = T.ret (SVal.agg [SVal.int IntKind.i64 ((p.1.getD (↑i : Int).toNat { kind := (0 : Int), at' := (0 : Int), times := (0 : Int), h := k0_h }).kind.tmod (3 : Int)), SVal.int IntKind.i64 (p.1.getD (↑i : Int).toNat { kind := (0 : Int), at' := (0 : Int), times := (0 : Int), h := k0_h }).at', SVal.lit IntKind.i64 (20 : Int), SVal.bl false, SVal.lit IntKind.u32 (0 : Int), SVal.bl false]))

 (.ret (.normal, [.sli 7 (.c 0) 3 (.v p.1.length) (some (.v p.2)), .sli 8 (.c 0) 1 (.v p.3.length) (some (.v p.4)), .int .u8 p.5, .ptr 1 0, .ptr 5 0, .sli 9 (.c 0) 1 (.v m) none, .sli 10 (.c 0) 1 (.v n) none, .int .i64 (↑i : Int), .sw t.1 (.ifc 84 (.pto 3 t.2 0)) (.ifc 74 (.pto 4 t.2 0)), .ifc 84 (.ptr 11 0)], [.ro encLook [PUnit.unit], .own [.c (.sli 2 (.c 0) 1 (.v 2) (some (.v 2))), .c (.int .i64 (0 : Int))] 67, .own [.a (encInt IntKind.u32) 2 [(0 : Int), (0 : Int)]] 45, .many encAd xs 86, .many encTw ys 78, .own [.c (.sli 6 (.c 0) 1 (.v 2) (some (.v 2))), .c (.int .i64 (0 : Int))] 67, .own [.a (encInt IntKind.u32) 2 [(0 : Int), (0 : Int)]] 45, .ro encK p.1, .ro (encInt IntKind.i64) p.3, .vec (encTs 3 4) ts 44, .vec (encTs 3 4) us 44, .own [.c (.int .i64 (p.1.getD (↑i : Int).toNat { kind := (0 : Int), at' := (0 : Int), times := (0 : Int), h := k0_h }).at'), .c (.lit .i64 (20 : Int))] 86])))))

 (.br ((p.1.getD (↑i : Int).toNat { kind := (0 : Int), at' := (0 : Int), times := (0 : Int), h := k0_h }).kind.tmod (3 : Int) == (1 : Int))
 (.eq (T.ret (SVal.int IntKind.i64 (p.1.getD (↑i : Int).toNat { kind := (0 : Int), at' := (0 : Int), times := (0 : Int), h := k0_h }).at') = T.ret (SVal.int IntKind.i64 (p.1.getD (↑i : Int).toNat { kind := (0 : Int), at' := (0 : Int), times := (0 : Int), h := k0_h }).at'))
 (.eq (T.ret (SVal.agg [SVal.int IntKind.i64 ((p.1.getD (↑i : Int).toNat { kind := (0 : Int), at' := (0 : Int), times := (0 : Int), h := k0_h }).kind.tmod (3 : Int)), SVal.int IntKind.i64 (p.1.getD (↑i : Int).toNat { kind := (0 : Int), at' := (0 : Int), times := (0 : Int), h := k0_h }).at', SVal.lit IntKind.i64 (20 : Int), SVal.bl false, SVal.lit IntKind.u32 (0 : Int), SVal.bl false]) = T.ret (SVal.agg [SVal.int IntKind.i64 ((p.1.getD (↑i : Int).toNat { kind := (0 : Int), at' := (0 : Int), times := (0 : Int), h := k0_h }).kind.tmod (3 : Int)), SVal.int IntKind.i64 (p.1.getD (↑i : Int).toNat { kind := (0 : Int), at' := (0 : Int), times := (0 : Int), h := k0_h }).at', SVal.lit IntKind.i64 (20 : Int), SVal.bl false, SVal.lit IntKind.u32 (0 : Int), SVal.bl false]))
 (.eq (T.ret (SVal.agg [SVal.int IntKind.i64 ((p.1.getD (↑i : Int).toNat { kind := (0 : Int), at' := (0 : Int), times := (0 : Int), h := k0_h }).kind.tmod (3 : Int)), SVal.int IntKind.i64 (p.1.getD (↑i : Int).toNat { kind := (0 : Int), at' := (0 : Int), times := (0 : Int), h := k0_h }).at', SVal.lit IntKind.i64 (20 : Int), SVal.bl false, SVal.lit IntKind.u32 (0 : Int), SVal.bl false]) = T.ret (SVal.agg [SVal.int IntKind.i64 ((p.1.getD (↑i : Int).toNat { kind := (0 : Int), at' := (0 : Int), times := (0 : Int), h := k0_h }).kind.tmod (3 : Int)), SVal.int IntKind.i64 (p.1.getD (↑i : Int).toNat { kind := (0 : Int), at' := (0 : Int), times := (0 : Int), h := k0_h }).at', SVal.lit IntKind.i64 (20 : Int), SVal.bl false, SVal.lit IntKind.u32 (0 : Int), SVal.bl false]))

 (.ret (.normal, [.sli 7 (.c 0) 3 (.v p.1.length) (some (.v p.2)), .sli 8 (.c 0) 1 (.v p.3.length) (some (.v p.4)), .int .u8 p.5, .ptr 1 0, .ptr 5 0, .sli 9 (.c 0) 1 (.v m) none, .sli 10 (.c 0) 1 (.v n) none, .int .i64 (↑i : Int), .sw t.1 (.ifc 84 (.pto 3 t.2 0)) (.ifc 74 (.pto 4 t.2 0)), .ifc 74 (.ptr 11 0)], [.ro encLook [PUnit.unit], .own [.c (.sli 2 (.c 0) 1 (.v 2) (some (.v 2))), .c (.int .i64 (0 : Int))] 67, .own [.a (encInt IntKind.u32) 2 [(0 : Int), (0 : Int)]] 45, .many encAd xs 86, .many encTw ys 78, .own [.c (.sli 6 (.c 0) 1 (.v 2) (some (.v 2))), .c (.int .i64 (0 : Int))] 67, .own [.a (encInt IntKind.u32) 2 [(0 : Int), (0 : Int)]] 45, .ro encK p.1, .ro (encInt IntKind.i64) p.3, .vec (encTs 3 4) ts 44, .vec (encTs 3 4) us 44, .own [.c (.int .i64 (p.1.getD (↑i : Int).toNat { kind := (0 : Int), at' := (0 : Int), times := (0 : Int), h := k0_h }).at'), .c (.lit .i64 (20 : Int)), .c (.bl false), .c (.lit .u32 (0 : Int)), .c (SVal.fn (Fn.func 27) [] [])] 78])))))
 (.eq (T.ret (SVal.int IntKind.i64 (p.1.getD (↑i : Int).toNat { kind := (0 : Int), at' := (0 : Int), times := (0 : Int), h := k0_h }).at') = T.ret (SVal.int IntKind.i64 (p.1.getD (↑i : Int).toNat { kind := (0 : Int), at' := (0 : Int), times := (0 : Int), h := k0_h }).at'))
 (.eq (T.ret (SVal.agg [SVal.int IntKind.i64 ((p.1.getD (↑i : Int).toNat { kind := (0 : Int), at' := (0 : Int), times := (0 : Int), h := k0_h }).kind.tmod (3 : Int)), SVal.int IntKind.i64 (p.1.getD (↑i : Int).toNat { kind := (0 : Int), at' := (0 : Int), times := (0 : Int), h := k0_h }).at', SVal.lit IntKind.i64 (20 : Int), SVal.bl false, SVal.lit IntKind.u32 (0 : Int), SVal.bl false]) = T.ret (SVal.agg [SVal.int IntKind.i64 ((p.1.getD (↑i : Int).toNat { kind := (0 : Int), at' := (0 : Int), times := (0 : Int), h := k0_h }).kind.tmod (3 : Int)), SVal.int IntKind.i64 (p.1.getD (↑i : Int).toNat { kind := (0 : Int), at' := (0 : Int), times := (0 : Int), h := k0_h }).at', SVal.lit IntKind.i64 (20 : Int), SVal.bl false, SVal.lit IntKind.u32 (0 : Int), SVal.bl false]))
 (.eq (T.ret (SVal.agg [SVal.int IntKind.i64 ((p.1.getD (↑i : Int).toNat { kind := (0 : Int), at' := (0 : Int), times := (0 : Int), h := k0_h }).kind.tmod (3 : Int)), SVal.int IntKind.i64 (p.1.getD (↑i : Int).toNat { kind := (0 : Int), at' := (0 : Int), times := (0 : Int), h := k0_h }).at', SVal.lit IntKind.i64 (20 : Int), SVal.bl false, SVal.lit IntKind.u32 (0 : Int), SVal.bl false]) = T.ret (SVal.agg [SVal.int IntKind.i64 ((p.1.getD (↑i : Int).toNat { kind := (0 : Int), at' := (0 : Int), times := (0 : Int), h := k0_h }).kind.tmod (3 : Int)), SVal.int IntKind.i64 (p.1.getD (↑i : Int).toNat { kind := (0 : Int), at' := (0 : Int), times := (0 : Int), h := k0_h }).at', SVal.lit IntKind.i64 (20 : Int), SVal.bl false, SVal.lit IntKind.u32 (0 : Int), SVal.bl false]))

 (.ret (.normal, [.sli 7 (.c 0) 3 (.v p.1.length) (some (.v p.2)), .sli 8 (.c 0) 1 (.v p.3.length) (some (.v p.4)), .int .u8 p.5, .ptr 1 0, .ptr 5 0, .sli 9 (.c 0) 1 (.v m) none, .sli 10 (.c 0) 1 (.v n) none, .int .i64 (↑i : Int), .sw t.1 (.ifc 84 (.pto 3 t.2 0)) (.ifc 74 (.pto 4 t.2 0)), .ifc 74 (.ptr 11 0)], [.ro encLook [PUnit.unit], .own [.c (.sli 2 (.c 0) 1 (.v 2) (some (.v 2))), .c (.int .i64 (0 : Int))] 67, .own [.a (encInt IntKind.u32) 2 [(0 : Int), (0 : Int)]] 45, .many encAd xs 86, .many encTw ys 78, .own [.c (.sli 6 (.c 0) 1 (.v 2) (some (.v 2))), .c (.int .i64 (0 : Int))] 67, .own [.a (encInt IntKind.u32) 2 [(0 : Int), (0 : Int)]] 45, .ro encK p.1, .ro (encInt IntKind.i64) p.3, .vec (encTs 3 4) ts 44, .vec (encTs 3 4) us 44, .own [.c (.int .i64 (p.1.getD (↑i : Int).toNat { kind := (0 : Int), at' := (0 : Int), times := (0 : Int), h := k0_h }).at'), .c (.lit .i64 (20 : Int)), .c (.bl false), .c (.lit .u32 (0 : Int)), .c (SVal.fn (Fn.func 30) [] [])] 78])))))))))

 (.need (inR .i64 (p.1.getD (↑i : Int).toNat { kind := (0 : Int), at' := (0 : Int), times := (0 : Int), h := k0_h }).kind)

 (.need (true)

 (.br ((p.1.getD (↑i : Int).toNat { kind := (0 : Int), at' := (0 : Int), times := (0 : Int), h := k0_h }).kind.tmod (3 : Int) == (0 : Int))
 (.eq (T.ret (SVal.int IntKind.i64 (p.1.getD (↑i : Int).toNat { kind := (0 : Int), at' := (0 : Int), times := (0 : Int), h := k0_h }).at') = T.ret (SVal.int IntKind.i64 (p.1.getD (↑i : Int).toNat { kind := (0 : Int), at' := (0 : Int), times := (0 : Int), h := k0_h }).at'))
 (.eq (T.ret (SVal.int IntKind.i64 (p.1.getD (↑i : Int).toNat { kind := (0 : Int), at' := (0 : Int), times := (0 : Int), h := k0_h }).times) = T.ret (SVal.int IntKind.i64 (p.1.getD (↑i : Int).toNat { kind := (0 : Int), at' := (0 : Int), times := (0 : Int), h := k0_h }).times))
 (.eq (T.ret (SVal.agg [SVal.int IntKind.i64 ((p.1.getD (↑i : Int).toNat { kind := (0 : Int), at' := (0 : Int), times := (0 : Int), h := k0_h }).kind.tmod (3 : Int)), SVal.int IntKind.i64 (p.1.getD (↑i : Int).toNat { kind := (0 : Int), at' := (0 : Int), times := (0 : Int), h := k0_h }).at', SVal.int IntKind.i64 (p.1.getD (↑i : Int).toNat { kind := (0 : Int), at' := (0 : Int), times := (0 : Int), h := k0_h }).times, SVal.bl false, SVal.lit IntKind.u32 (0 : Int), SVal.bl false]) = T.ret (SVal.agg [SVal.int IntKind.i64 ((p.1.getD (↑i : Int).toNat { kind := (0 : Int), at' := (0 : Int), times := (0 : Int), h := k0_h }).kind.tmod (3 : Int)), SVal.int IntKind.i64 (p.1.getD (↑i : Int).toNat { kind := (0 : Int), at' := (0 : Int), times := (0 : Int), h := k0_h }).at', SVal.int IntKind.i64 (p.1.getD (↑i : Int).toNat { kind := (0 : Int), at' := (0 : Int), times := (0 : Int), h := k0_h }).times, SVal.bl false, SVal.lit IntKind.u32 (0 : Int), SVal.bl false]))
 (.eq (T.ret (SVal.agg [SVal.int IntKind.i64 ((p.1.getD (↑i : Int).toNat { kind := (0 : Int), at' := (0 : Int), times := (0 : Int), h := k0_h }).kind.tmod (3 : Int)), SVal.int IntKind.i64 (p.1.getD (↑i : Int).toNat { kind := (0 : Int), at' := (0 : Int), times := (0 : Int), h := k0_h }).at', SVal.int IntKind.i64 (p.1.getD (↑i : Int).toNat { kind := (0 : Int), at' := (0 : Int), times := (0 : Int), h := k0_h }).times, SVal.bl false, SVal.lit IntKind.u32 (0 : Int), SVal.bl false]) = T.ret (SVal.agg [SVal.int IntKind.i64 ((p.1.getD (↑i : Int).toNat { kind := (0 : Int), at' := (0 : Int), times := (0 : Int), h := k0_h }).kind.tmod (3 : Int)), SVal.int IntKind.i64 (p.1.getD (↑i : Int).toNat { kind := (0 : Int), at' := (0 : Int), times := (0 : Int), h := k0_h }).at', SVal.int IntKind.i64 (p.1.getD (↑i : Int).toNat { kind := (0 : Int), at' := (0 : Int), times := (0 : Int), h := k0_h }).times, SVal.bl false, SVal.lit IntKind.u32 (0 : Int), SVal.bl false]))

 (.ret (.normal, [.sli 7 (.c 0) 3 (.v p.1.length) (some (.v p.2)), .sli 8 (.c 0) 1 (.v p.3.length) (some (.v p.4)), .int .u8 p.5, .ptr 1 0, .ptr 5 0, .sli 9 (.c 0) 1 (.v m) none, .sli 10 (.c 0) 1 (.v n) none, .int .i64 (↑i : Int), .sw t.1 (.ifc 84 (.pto 3 t.2 0)) (.ifc 74 (.pto 4 t.2 0)), .ifc 84 (.ptr 11 0)], [.ro encLook [PUnit.unit], .own [.c (.sli 2 (.c 0) 1 (.v 2) (some (.v 2))), .c (.int .i64 (0 : Int))] 67, .own [.a (encInt IntKind.u32) 2 [(0 : Int), (0 : Int)]] 45, .many encAd xs 86, .many encTw ys 78, .own [.c (.sli 6 (.c 0) 1 (.v 2) (some (.v 2))), .c (.int .i64 (0 : Int))] 67, .own [.a (encInt IntKind.u32) 2 [(0 : Int), (0 : Int)]] 45, .ro encK p.1, .ro (encInt IntKind.i64) p.3, .vec (encTs 3 4) ts 44, .vec (encTs 3 4) us 44, .own [.c (.int .i64 (p.1.getD (↑i : Int).toNat { kind := (0 : Int), at' := (0 : Int), times := (0 : Int), h := k0_h }).at'), .c (.int .i64 (p.1.getD (↑i : Int).toNat { kind := (0 : Int), at' := (0 : Int), times := (0 : Int), h := k0_h }).times)] 86]))))))

 (.br ((p.1.getD (↑i : Int).toNat { kind := (0 : Int), at' := (0 : Int), times := (0 : Int), h := k0_h }).kind.tmod (3 : Int) == (1 : Int))
 (.eq (T.ret (SVal.int IntKind.i64 (p.1.getD (↑i : Int).toNat { kind := (0 : Int), at' := (0 : Int), times := (0 : Int), h := k0_h }).at') = T.ret (SVal.int IntKind.i64 (p.1.getD (↑i : Int).toNat { kind := (0 : Int), at' := (0 : Int), times := (0 : Int), h := k0_h }).at'))
 (.eq (T.ret (SVal.int IntKind.i64 (p.1.getD (↑i : Int).toNat { kind := (0 : Int), at' := (0 : Int), times := (0 : Int), h := k0_h }).times) = T.ret (SVal.int IntKind.i64 (p.1.getD (↑i : Int).toNat { kind := (0 : Int), at' := (0 : Int), times := (0 : Int), h := k0_h }).times))
 (.eq (T.ret (SVal.agg [SVal.int IntKind.i64 ((p.1.getD (↑i : Int).toNat { kind := (0 : Int), at' := (0 : Int), times := (0 : Int), h := k0_h }).kind.tmod (3 : Int)), SVal.int IntKind.i64 (p.1.getD (↑i : Int).toNat { kind := (0 : Int), at' := (0 : Int), times := (0 : Int), h := k0_h }).at', SVal.int IntKind.i64 (p.1.getD (↑i : Int).toNat { kind := (0 : Int), at' := (0 : Int), times := (0 : Int), h := k0_h }).times, SVal.bl false, SVal.lit IntKind.u32 (0 : Int), SVal.bl false]) = T.ret (SVal.agg [SVal.int IntKind.i64 ((p.1.getD (↑i : Int).toNat { kind := (0 : Int), at' := (0 : Int), times := (0 : Int), h := k0_h }).kind.tmod (3 : Int)), SVal.int IntKind.i64 (p.1.getD (↑i : Int).toNat { kind := (0 : Int), at' := (0 : Int), times := (0 : Int), h := k0_h }).at', SVal.int IntKind.i64 (p.1.getD (↑i : Int).toNat { kind := (0 : Int), at' := (0 : Int), times := (0 : Int), h := k0_h }).times, SVal.bl false, SVal.lit IntKind.u32 (0 : Int), SVal.bl false]))
 (.eq (T.ret (SVal.agg [SVal.int IntKind.i64 ((p.1.getD (↑i : Int).toNat { kind := (0 : Int), at' := (0 : Int), times := (0 : Int), h := k0_h }).kind.tmod (3 : Int)), SVal.int IntKind.i64 (p.1.getD (↑i : Int).toNat { kind := (0 : Int), at' := (0 : Int), times := (0 : Int), h := k0_h }).at', SVal.int IntKind.i64 (p.1.getD (↑i : Int).toNat { kind := (0 : Int), at' := (0 : Int), times := (0 : Int), h := k0_h }).times, SVal.bl false, SVal.lit IntKind.u32 (0 : Int), SVal.bl false]) = T.ret (SVal.agg [SVal.int IntKind.i64 ((p.1.getD (↑i : Int).toNat { kind := (0 : Int), at' := (0 : Int), times := (0 : Int), h := k0_h }).kind.tmod (3 : Int)), SVal.int IntKind.i64 (p.1.getD (↑i : Int).toNat { kind := (0 : Int), at' := (0 : Int), times := (0 : Int), h := k0_h }).at', SVal.int IntKind.i64 (p.1.getD (↑i : Int).toNat { kind := (0 : Int), at' := (0 : Int), times := (0 : Int), h := k0_h }).times, SVal.bl false, SVal.lit IntKind.u32 (0 : Int), SVal.bl false]))

 (.ret (.normal, [.sli 7 (.c 0) 3 (.v p.1.length) (some (.v p.2)), .sli 8 (.c 0) 1 (.v p.3.length) (some (.v p.4)), .int .u8 p.5, .ptr 1 0, .ptr 5 0, .sli 9 (.c 0) 1 (.v m) none, .sli 10 (.c 0) 1 (.v n) none, .int .i64 (↑i : Int), .sw t.1 (.ifc 84 (.pto 3 t.2 0)) (.ifc 74 (.pto 4 t.2 0)), .ifc 74 (.ptr 11 0)], [.ro encLook [PUnit.unit], .own [.c (.sli 2 (.c 0) 1 (.v 2) (some (.v 2))), .c (.int .i64 (0 : Int))] 67, .own [.a (encInt IntKind.u32) 2 [(0 : Int), (0 : Int)]] 45, .many encAd xs 86, .many encTw ys 78, .own [.c (.sli 6 (.c 0) 1 (.v 2) (some (.v 2))), .c (.int .i64 (0 : Int))] 67, .own [.a (encInt IntKind.u32) 2 [(0 : Int), (0 : Int)]] 45, .ro encK p.1, .ro (encInt IntKind.i64) p.3, .vec (encTs 3 4) ts 44, .vec (encTs 3 4) us 44, .own [.c (.int .i64 (p.1.getD (↑i : Int).toNat { kind := (0 : Int), at' := (0 : Int), times := (0 : Int), h := k0_h }).at'), .c (.int .i64 (p.1.getD (↑i : Int).toNat { kind := (0 : Int), at' := (0 : Int), times := (0 : Int), h := k0_h }).times), .c (.bl false), .c (.lit .u32 (0 : Int)), .c (SVal.fn (Fn.func 27) [] [])] 78]))))))
 (.eq (T.ret (SVal.int IntKind.i64 (p.1.getD (↑i : Int).toNat { kind := (0 : Int), at' := (0 : Int), times := (0 : Int), h := k0_h }).at') = T.ret (SVal.int IntKind.i64 (p.1.getD (↑i : Int).toNat { kind := (0 : Int), at' := (0 : Int), times := (0 : Int), h := k0_h }).at'))
 (.eq (T.ret (SVal.int IntKind.i64 (p.1.getD (↑i : Int).toNat { kind := (0 : Int), at' := (0 : Int), times := (0 : Int), h := k0_h }).times) = T.ret (SVal.int IntKind.i64 (p.1.getD (↑i : Int).toNat { kind := (0 : Int), at' := (0 : Int), times := (0 : Int), h := k0_h }).times))
 (.eq (T.ret (SVal.agg [SVal.int IntKind.i64 ((p.1.getD (↑i : Int).toNat { kind := (0 : Int), at' := (0 : Int), times := (0 : Int), h := k0_h }).kind.tmod (3 : Int)), SVal.int IntKind.i64 (p.1.getD (↑i : Int).toNat { kind := (0 : Int), at' := (0 : Int), times := (0 : Int), h := k0_h }).at', SVal.int IntKind.i64 (p.1.getD (↑i : Int).toNat { kind := (0 : Int), at' := (0 : Int), times := (0 : Int), h := k0_h }).times, SVal.bl false, SVal.lit IntKind.u32 (0 : Int), SVal.bl false]) = T.ret (SVal.agg [SVal.int IntKind.i64 ((p.1.getD (↑i : Int).toNat { kind := (0 : Int), at' := (0 : Int), times := (0 : Int), h := k0_h }).kind.tmod (3 : Int)), SVal.int IntKind.i64 (p.1.getD (↑i : Int).toNat { kind := (0 : Int), at' := (0 : Int), times := (0 : Int), h := k0_h }).at', SVal.int IntKind.i64 (p.1.getD (↑i : Int).toNat { kind := (0 : Int), at' := (0 : Int), times := (0 : Int), h := k0_h }).times, SVal.bl false, SVal.lit IntKind.u32 (0 : Int), SVal.bl false]))
 (.eq (T.ret (SVal.agg [SVal.int IntKind.i64 ((p.1.getD (↑i : Int).toNat { kind := (0 : Int), at' := (0 : Int), times := (0 : Int), h := k0_h }).kind.tmod (3 : Int)), SVal.int IntKind.i64 (p.1.getD (↑i : Int).toNat { kind := (0 : Int), at' := (0 : Int), times := (0 : Int), h := k0_h }).at', SVal.int IntKind.i64 (p.1.getD (↑i : Int).toNat { kind := (0 : Int), at' := (0 : Int), times := (0 : Int), h := k0_h }).times, SVal.bl false, SVal.lit IntKind.u32 (0 : Int), SVal.bl false]) = T.ret (SVal.agg [SVal.int IntKind.i64 ((p.1.getD (↑i : Int).toNat { kind := (0 : Int), at' := (0 : Int), times := (0 : Int), h := k0_h }).kind.tmod (3 : Int)), SVal.int IntKind.i64 (p.1.getD (↑i : Int).toNat { kind := (0 : Int), at' := (0 : Int), times := (0 : Int), h := k0_h }).at', SVal.int IntKind.i64 (p.1.getD (↑i : Int).toNat { kind := (0 : Int), at' := (0 : Int), times := (0 : Int), h := k0_h }).times, SVal.bl false, SVal.lit IntKind.u32 (0 : Int), SVal.bl false]))

 (.ret (.normal, [.sli 7 (.c 0) 3 (.v p.1.length) (some (.v p.2)), .sli 8 (.c 0) 1 (.v p.3.length) (some (.v p.4)), .int .u8 p.5, .ptr 1 0, .ptr 5 0, .sli 9 (.c 0) 1 (.v m) none, .sli 10 (.c 0) 1 (.v n) none, .int .i64 (↑i : Int), .sw t.1 (.ifc 84 (.pto 3 t.2 0)) (.ifc 74 (.pto 4 t.2 0)), .ifc 74 (.ptr 11 0)], [.ro encLook [PUnit.unit], .own [.c (.sli 2 (.c 0) 1 (.v 2) (some (.v 2))), .c (.int .i64 (0 : Int))] 67, .own [.a (encInt IntKind.u32) 2 [(0 : Int), (0 : Int)]] 45, .many encAd xs 86, .many encTw ys 78, .own [.c (.sli 6 (.c 0) 1 (.v 2) (some (.v 2))), .c (.int .i64 (0 : Int))] 67, .own [.a (encInt IntKind.u32) 2 [(0 : Int), (0 : Int)]] 45, .ro encK p.1, .ro (encInt IntKind.i64) p.3, .vec (encTs 3 4) ts 44, .vec (encTs 3 4) us 44, .own [.c (.int .i64 (p.1.getD (↑i : Int).toNat { kind := (0 : Int), at' := (0 : Int), times := (0 : Int), h := k0_h }).at'), .c (.int .i64 (p.1.getD (↑i : Int).toNat { kind := (0 : Int), at' := (0 : Int), times := (0 : Int), h := k0_h }).times), .c (.bl false), .c (.lit .u32 (0 : Int)), .c (SVal.fn (Fn.func 30) [] [])] 78]))))))))))))))) := by kernel_rfl
set_option maxRecDepth 100000 in
theorem r_app {p : InR} {xs : List Ad} {ys : List Tw} {ts us : List (Bool × Nat)} {m n i b c : Nat} : (exec cfgM 100 (restC 2 bb8) (fr 178 n8d (v8i p m n i ++ [iA b, iT c])) (s8 p xs ys ts us)).bind (canonK 9 [(0,0)] 178 n8b) =
 

 (.need (true)

 (.need (decide (m = ts.length))

 (.need (roomy (ts.length + 1) 16)

 (.need (true)

 (.need (decide (n = us.length))

 (.need (roomy (us.length + 1) 16)

 (.ret (.normal, [.sli 7 (.c 0) 3 (.v p.1.length) (some (.v p.2)), .sli 8 (.c 0) 1 (.v p.3.length) (some (.v p.4)), .int .u8 p.5, .ptr 1 0, .ptr 5 0, .sli 9 (.c 0) 1 (.v (m + 1)) none, .sli 10 (.c 0) 1 (.v (n + 1)) none, .int .i64 (↑i : Int)], [.ro encLook [PUnit.unit], .own [.c (.sli 2 (.c 0) 1 (.v 2) (some (.v 2))), .c (.int .i64 (0 : Int))] 67, .own [.a (encInt IntKind.u32) 2 [(0 : Int), (0 : Int)]] 45, .many encAd xs 86, .many encTw ys 78, .own [.c (.sli 6 (.c 0) 1 (.v 2) (some (.v 2))), .c (.int .i64 (0 : Int))] 67, .own [.a (encInt IntKind.u32) 2 [(0 : Int), (0 : Int)]] 45, .ro encK p.1, .ro (encInt IntKind.i64) p.3, .vec (encTs 3 4) (ts ++ [(true, b)]) 44, .vec (encTs 3 4) (us ++ [(false, c)]) 44])))))))) := by kernel_rfl
set_option maxRecDepth 100000 in
theorem r_inc {p : InR} {xs : List Ad} {ys : List Tw} {ts us : List (Bool × Nat)} {m n i : Nat} : (exec cfgM 100 inc8 (fr 178 n8b (v8i p m n i)) (s8 p xs ys ts us)).bind (canonK 9 [(0,0)] 178 n8b) =
 

 (.need (inR .i64 ((↑i : Int) + (1 : Int)))

 (.ret (.normal, [.sli 7 (.c 0) 3 (.v p.1.length) (some (.v p.2)), .sli 8 (.c 0) 1 (.v p.3.length) (some (.v p.4)), .int .u8 p.5, .ptr 1 0, .ptr 5 0, .sli 9 (.c 0) 1 (.v m) none, .sli 10 (.c 0) 1 (.v n) none, .int .i64 ((↑i : Int) + (1 : Int))], [.ro encLook [PUnit.unit], .own [.c (.sli 2 (.c 0) 1 (.v 2) (some (.v 2))), .c (.int .i64 (0 : Int))] 67, .own [.a (encInt IntKind.u32) 2 [(0 : Int), (0 : Int)]] 45, .many encAd xs 86, .many encTw ys 78, .own [.c (.sli 6 (.c 0) 1 (.v 2) (some (.v 2))), .c (.int .i64 (0 : Int))] 67, .own [.a (encInt IntKind.u32) 2 [(0 : Int), (0 : Int)]] 45, .ro encK p.1, .ro (encInt IntKind.i64) p.3, .vec (encTs 3 4) ts 44, .vec (encTs 3 4) us 44]))) := by kernel_rfl
set_option maxRecDepth 100000 in
theorem r_new {p : InR} {xs : List Ad} {ys : List Tw} {ts us : List (Bool × Nat)} {i : Nat} : (execN cfgL 100 3 d8 (fr 178 n8b (v8i p ts.length us.length i)) (s8 p xs ys ts us)).bind (canonK 9 [(0,0)] 178 n8e) =
 

 (.eq (anyP cfgN 100 11 [.ptr 1 0, .sli 9 (.c 0) 1 (.v ts.length) none] [.ro encLook [PUnit.unit], .own [.c (.sli 2 (.c 0) 1 (.v 2) (some (.v 2))), .c (.int .i64 (0 : Int))] 67, .own [.a (encInt IntKind.u32) 2 [(0 : Int), (0 : Int)]] 45, .many encAd xs 86, .many encTw ys 78, .own [.c (.sli 6 (.c 0) 1 (.v 2) (some (.v 2))), .c (.int .i64 (0 : Int))] 67, .own [.a (encInt IntKind.u32) 2 [(0 : Int), (0 : Int)]] 45, .ro encK p.1, .ro (encInt IntKind.i64) p.3, .vec (encTs 3 4) ts 44, .vec (encTs 3 4) us 44])

 (.need (decide (0 + ts.length ≤ ts.length))

 (.need (decide (0 + ts.length ≤ ts.length))

 (.need (roomy (List.take ts.length (List.drop 0 ts)).length 16)

 (.need (decide ((0 : Int) ≤ (↑ts.length : Int)))

 (.need (decide ((↑ts.length : Int) * (1 : Int) ≤ (140737488355328 : Int)))

 (.need (decide ((↑ts.length : Int) ≤ (4611686018427387904 : Int)))

 (.eq (anyP cfgN 100 11 [.ptr 5 0, .sli 10 (.c 0) 1 (.v us.length) none] [.ro encLook [PUnit.unit], .own [.c (.sli 2 (.c 0) 1 (.v 2) (some (.v 2))), .c (.int .i64 (0 : Int))] 67, .own [.a (encInt IntKind.u32) 2 [(0 : Int), (0 : Int)]] 45, .many encAd xs 86, .many encTw ys 78, .own [.c (.sli 6 (.c 0) 1 (.v 2) (some (.v 2))), .c (.int .i64 (0 : Int))] 67, .own [.a (encInt IntKind.u32) 2 [(0 : Int), (0 : Int)]] 45, .ro encK p.1, .ro (encInt IntKind.i64) p.3, .vec (encTs 3 4) ts 44, .vec (encTs 3 4) us 44, .gone, .vec (encTs 3 4) (List.take ts.length (List.drop 0 ts)) 44, .own [.a encBool (↑ts.length : Int).toNat (List.replicate (↑ts.length : Int).toNat false)] 4, .own [.c (.ptr 1 0), .c (.sli 12 (.c 0) 1 (.v (List.take ts.length (List.drop 0 ts)).length) none), .c (.sli 13 (.c 0) 1 (.v (↑ts.length : Int).toNat) (some (.v (↑ts.length : Int).toNat)))] 70])

 (.need (decide (0 + us.length ≤ us.length))

 (.need (decide (0 + us.length ≤ us.length))

 (.need (roomy (List.take us.length (List.drop 0 us)).length 16)

 (.need (decide ((0 : Int) ≤ (↑us.length : Int)))

 (.need (decide ((↑us.length : Int) * (1 : Int) ≤ (140737488355328 : Int)))

 (.need (decide ((↑us.length : Int) ≤ (4611686018427387904 : Int)))

 (.ret (.normal, [.sli 8 (.c 0) 1 (.v p.3.length) (some (.v p.4)), .int .u8 p.5, .ptr 1 0, .ptr 5 0, .sli 9 (.c 0) 1 (.v us.length) none, .ptr 10 0, .ptr 13 0, .lit .i64 (0 : Int)], [.ro encLook [PUnit.unit], .own [.c (.sli 2 (.c 0) 1 (.v 2) (some (.v 2))), .c (.int .i64 (0 : Int))] 67, .own [.a (encInt IntKind.u32) 2 [(0 : Int), (0 : Int)]] 45, .many encAd xs 86, .many encTw ys 78, .own [.c (.sli 6 (.c 0) 1 (.v 2) (some (.v 2))), .c (.int .i64 (0 : Int))] 67, .own [.a (encInt IntKind.u32) 2 [(0 : Int), (0 : Int)]] 45, .ro encK p.1, .ro (encInt IntKind.i64) p.3, .vec (encTs 3 4) us 44, .own [.c (.ptr 1 0), .c (.sli 11 (.c 0) 1 (.v (List.take ts.length (List.drop 0 ts)).length) none), .c (.sli 12 (.c 0) 1 (.v (↑ts.length : Int).toNat) (some (.v (↑ts.length : Int).toNat)))] 70, .vec (encTs 3 4) (List.take ts.length (List.drop 0 ts)) 44, .own [.a encBool (↑ts.length : Int).toNat (List.replicate (↑ts.length : Int).toNat false)] 4, .own [.c (.ptr 5 0), .c (.sli 14 (.c 0) 1 (.v (List.take us.length (List.drop 0 us)).length) none), .c (.sli 15 (.c 0) 1 (.v (↑us.length : Int).toNat) (some (.v (↑us.length : Int).toNat)))] 70, .vec (encTs 3 4) (List.take us.length (List.drop 0 us)) 44, .own [.a encBool (↑us.length : Int).toNat (List.replicate (↑us.length : Int).toNat false)] 4])))))))))))))))) := by kernel_rfl
end Go.Proofs.YtlnigpeoffaemaaDoor

/- StepsRuns: each of its tasks is made. -/
namespace Go.Proofs.YtlnigpeoffaemaaDoor
open Go Go.Proofs.YtlnigpeoffaemaaDoor.Sx
set_option linter.unusedVariables false
set_option maxRecDepth 100000 in
theorem r_appA {p : InR} {xs : List Ad} {ys : List Tw} {ts us : List (Bool × Nat)} {m n i b c : Nat} {b1 b2 : Bool} : (exec cfgM 100 (restC 2 bb8) (fr 178 n8d (v8i p m n i ++ [ifV b1 b, ifV b2 c])) (s8 p xs ys ts us)).bind (canonK 9 [(0,0)] 178 n8b) =
 .need (true) (.need (decide (m = ts.length)) (.need (roomy (ts.length + 1) 16) (.need (true) (.need (decide (n = us.length)) (.need (roomy (us.length + 1) 16)
 (.ret (.normal, v8i p (m + 1) (n + 1) i, s8 p xs ys (ts ++ [(b1, b)]) (us ++ [(b2, c)]))))))))  := by
  cases b1 <;> cases b2 <;> kernel_rfl
set_option maxHeartbeats 1000000 in
theorem rjoinA_a {w0 : From} {p : InR} {S : MadeT} {ta tb : List (Bool × Nat)} {m n i : Nat} {k : K3} (h0 : (kd k == 0) = true) {c : Int} (hn : cutT k.times = c) {Q : Exit → Act → World → Prop} {C : Code}
    (hk : ∀ env a w, At [(0, 0)] w0 env (fr 178 n8c (v8i p m n i ++ [swV (tNew S k)])) (s8 p (stepB S k).1 (stepB S k).2.1 ta tb) a w → C.wp Tryd.prog Q a w)
    {env : Env} {a : Act} {w : World} (h : At [(0, 0)] w0 env (fr 178 n8c (v8i p m n i ++ [.ifc 84 (.ptr 11 0)])) (s8 p S.1 S.2.1 ta tb ++ [.own [.c (.int .i64 k.at'), .c (.int .i64 c)] 86]) a w) : C.wp Tryd.prog Q a w := by
  subst hn
  obtain ⟨xs, ys, ts⟩ := S
  have hS : stepB (xs, ys, ts) k = (xs ++ [⟨k.at', cutT k.times⟩], ys, ts ++ [(true, xs.length)]) := by simp only [stepB, h0]
  have hT : tNew (xs, ys, ts) k = (true, xs.length) := by simp only [tNew, h0]
  rw [hS, hT] at hk
  have hK : AtK [] [(0, 0)] w0 env _ _ a w := ⟨h, _, rfl⟩
  obtain ⟨env3, hA3⟩ := hK.join 3 11 (by omega) (by simp) (E := encAd) (xs := xs) rfl rfl ⟨k.at', cutT k.times⟩ (fun env cs h => by
      simpa [segCells, Seg.cells, encAd, encOf, DenL, Den] using h) (v8i p m n i ++ [swV (true, xs.length)]) (fun env' hj hm => ⟨hm _, hm _, hm _, hm _, hm _, hm _, hm _, hm _, fun v h => by
      obtain ⟨u, h1, h2⟩ := h
      exact .inl ⟨rfl, u, h1, hj _ _ h2⟩, trivial⟩)
  exact hk _ a w (hA3.at'.perm [0, 1, 2, 3, 4, 5, 6, 7, 8, 9, 10] (by kernel_rfl) (by kernel_rfl) (by kernel_rfl) (by kernel_rfl))
set_option maxHeartbeats 1000000 in
theorem rjoinT_a {w0 : From} {p : InR} {S : MadeT} {ta tb : List (Bool × Nat)} {m n i : Nat} {k : K3} (h0 : (kd k == 0) = false) {f : Nat} (hf : f = match (!(kd k == 1)) with | true => 30 | false => 27) {c : Int} (hn : cutT k.times = c) {Q : Exit → Act → World → Prop} {C : Code}
    (hk : ∀ env a w, At [(0, 0)] w0 env (fr 178 n8c (v8i p m n i ++ [swV (tNew S k)])) (s8 p (stepB S k).1 (stepB S k).2.1 ta tb) a w → C.wp Tryd.prog Q a w)
    {env : Env} {a : Act} {w : World} (h : At [(0, 0)] w0 env (fr 178 n8c (v8i p m n i ++ [.ifc 74 (.ptr 11 0)])) (s8 p S.1 S.2.1 ta tb ++ [.own [.c (.int .i64 k.at'), .c (.int .i64 c), .c (.bl false), .c (.lit .u32 0), .c (.fn (.func f) [] [])] 78]) a w) : C.wp Tryd.prog Q a w := by
  subst hn
  obtain ⟨xs, ys, ts⟩ := S
  have hS : stepB (xs, ys, ts) k = (xs, ys ++ [⟨k.at', cutT k.times, false, 0, !(kd k == 1)⟩], ts ++ [(false, ys.length)]) := by simp only [stepB, h0]
  have hT : tNew (xs, ys, ts) k = (false, ys.length) := by simp only [tNew, h0]
  rw [hS, hT] at hk
  have hK : AtK [] [(0, 0)] w0 env _ _ a w := ⟨h, _, rfl⟩
  obtain ⟨env3, hA3⟩ := hK.join 4 11 (by omega) (by simp) (E := encTw) (xs := ys) rfl rfl ⟨k.at', cutT k.times, false, 0, !(kd k == 1)⟩ (fun env cs h => by
      subst hf
      cases hq : kd k == 1 <;> simpa [segCells, Seg.cells, encTw, encOf, putV, DenL, Den, hq] using h) (v8i p m n i ++ [swV (false, ys.length)]) (fun env' hj hm => ⟨hm _, hm _, hm _, hm _, hm _, hm _, hm _, hm _, fun v h => by
      obtain ⟨u, h1, h2⟩ := h
      exact .inr ⟨rfl, u, h1, hj _ _ h2⟩, trivial⟩)
  exact hk _ a w (hA3.at'.perm [0, 1, 2, 3, 4, 5, 6, 7, 8, 9, 10] (by kernel_rfl) (by kernel_rfl) (by kernel_rfl) (by kernel_rfl))
set_option maxHeartbeats 1000000 in
theorem rmk_a {w0 : From} {p : InR} {S : MadeT} {ta tb : List (Bool × Nat)} {m n i : Nat} {k : K3} (hi : i < p.kinds.length) (hke : p.kinds.getD i encK.dflt = k) {Q : Exit → Act → World → Prop}
    (hk : ∀ env a w, At [(0, 0)] w0 env (fr 178 n8c (v8i p m n i ++ [swV (tNew S k)])) (s8 p (stepB S k).1 (stepB S k).2.1 ta tb) a w → (restC 1 bb8).wp Tryd.prog Q a w)
    {env : Env} {a : Act} {w : World} (h : At [(0, 0)] w0 env (fr 178 n8b (v8i p m n i)) (s8 p S.1 S.2.1 ta tb) a w) : bb8.wp Tryd.prog Q a w := by
  have hK : AtK [] [(0, 0)] w0 env _ _ a w := ⟨h, _, rfl⟩
  refine pieceNTK2 (c := cfgM) cfgM_ok 1 n8c r_mk1 (by simp) (by simp) hK ?_
  simp only [Int.toNat_natCast]
  refine all_needq (by simp only [decide_eq_true_eq, Bool.and_eq_true]; exact Iff.rfl) (by omega) ?_
  refine all_needq (by simp only [decide_eq_true_eq]; exact Iff.rfl) (by omega) ?_
  refine all_needq (by simp only [decide_eq_true_eq]; exact Iff.rfl) (by omega) ?_
  refine all_needq (by simp only [decide_eq_true_eq]; exact Iff.rfl) (by omega) ?_
  change p.kinds.getD i ⟨0, 0, 0, k0_h⟩ = k at hke
  subst hke

  have hkk := (p.kinds.getD i ⟨0, 0, 0, k0_h⟩ : K3).h
  repeat' (first
    | refine all_needq (by simp only [inR_i64]; exact Iff.rfl) (by omega) ?_
    | refine all_need rfl (fun _ => ?_)
    | refine all_eq trivial ?_
    | refine all_eq rfl ?_
    | refine all_brp (by simp only [decide_eq_true_eq]; exact Iff.rfl) (fun _ => ?_) (fun _ => ?_)
    | refine all_br (fun _ => ?_) (fun _ => ?_))
  · rename_i c1 _ c2
    exact all_ret fun env' a' w' h => rjoinA_a c2 (c := 20) (if_pos c1) hk (h.at'.gen rfl)
  · rename_i c1 _ c2 c3
    exact all_ret fun env' a' w' h => rjoinT_a c2 (f := 27) (fF5 true c3) (c := 20) (if_pos c1) hk (h.at'.gen rfl)
  · rename_i c1 _ c2 c3
    exact all_ret fun env' a' w' h => rjoinT_a c2 (f := 30) (fF5 false c3) (c := 20) (if_pos c1) hk (h.at'.gen rfl)
  · rename_i c1 _ c2
    exact all_ret fun env' a' w' h => rjoinA_a c2 (c := (p.kinds.getD i (⟨0, 0, 0, k0_h⟩ : K3)).times) (if_neg c1) hk (h.at'.gen rfl)
  · rename_i c1 _ c2 c3
    exact all_ret fun env' a' w' h => rjoinT_a c2 (f := 27) (fF5 true c3) (c := (p.kinds.getD i (⟨0, 0, 0, k0_h⟩ : K3)).times) (if_neg c1) hk (h.at'.gen rfl)
  · rename_i c1 _ c2 c3
    exact all_ret fun env' a' w' h => rjoinT_a c2 (f := 30) (fF5 false c3) (c := (p.kinds.getD i (⟨0, 0, 0, k0_h⟩ : K3)).times) (if_neg c1) hk (h.at'.gen rfl)
set_option maxHeartbeats 1000000 in
theorem rjoinA_b {w0 : From} {p : InR} {S : MadeT} {ta tb : List (Bool × Nat)} {m n i : Nat} {k : K3} {t0 : Bool × Nat} (h0 : (kd k == 0) = true) {c : Int} (hn : cutT k.times = c) {Q : Exit → Act → World → Prop} {C : Code}
    (hk : ∀ env a w, At [(0, 0)] w0 env (fr 178 n8d (v8i p m n i ++ [swV t0, swV (tNew S k)])) (s8 p (stepB S k).1 (stepB S k).2.1 ta tb) a w → C.wp Tryd.prog Q a w)
    {env : Env} {a : Act} {w : World} (h : At [(0, 0)] w0 env (fr 178 n8d (v8i p m n i ++ [swV t0, .ifc 84 (.ptr 11 0)])) (s8 p S.1 S.2.1 ta tb ++ [.own [.c (.int .i64 k.at'), .c (.int .i64 c)] 86]) a w) : C.wp Tryd.prog Q a w := by
  subst hn
  obtain ⟨xs, ys, ts⟩ := S
  have hS : stepB (xs, ys, ts) k = (xs ++ [⟨k.at', cutT k.times⟩], ys, ts ++ [(true, xs.length)]) := by simp only [stepB, h0]
  have hT : tNew (xs, ys, ts) k = (true, xs.length) := by simp only [tNew, h0]
  rw [hS, hT] at hk
  have hK : AtK [] [(0, 0)] w0 env _ _ a w := ⟨h, _, rfl⟩
  obtain ⟨env3, hA3⟩ := hK.join 3 11 (by omega) (by simp) (E := encAd) (xs := xs) rfl rfl ⟨k.at', cutT k.times⟩ (fun env cs h => by
      simpa [segCells, Seg.cells, encAd, encOf, DenL, Den] using h) (v8i p m n i ++ [swV t0, swV (true, xs.length)]) (fun env' hj hm => ⟨hm _, hm _, hm _, hm _, hm _, hm _, hm _, hm _, hm _, fun v h => by
      obtain ⟨u, h1, h2⟩ := h
      exact .inl ⟨rfl, u, h1, hj _ _ h2⟩, trivial⟩)
  exact hk _ a w (hA3.at'.perm [0, 1, 2, 3, 4, 5, 6, 7, 8, 9, 10] (by kernel_rfl) (by kernel_rfl) (by kernel_rfl) (by kernel_rfl))
set_option maxHeartbeats 1000000 in
theorem rjoinT_b {w0 : From} {p : InR} {S : MadeT} {ta tb : List (Bool × Nat)} {m n i : Nat} {k : K3} {t0 : Bool × Nat} (h0 : (kd k == 0) = false) {f : Nat} (hf : f = match (!(kd k == 1)) with | true => 30 | false => 27) {c : Int} (hn : cutT k.times = c) {Q : Exit → Act → World → Prop} {C : Code}
    (hk : ∀ env a w, At [(0, 0)] w0 env (fr 178 n8d (v8i p m n i ++ [swV t0, swV (tNew S k)])) (s8 p (stepB S k).1 (stepB S k).2.1 ta tb) a w → C.wp Tryd.prog Q a w)
    {env : Env} {a : Act} {w : World} (h : At [(0, 0)] w0 env (fr 178 n8d (v8i p m n i ++ [swV t0, .ifc 74 (.ptr 11 0)])) (s8 p S.1 S.2.1 ta tb ++ [.own [.c (.int .i64 k.at'), .c (.int .i64 c), .c (.bl false), .c (.lit .u32 0), .c (.fn (.func f) [] [])] 78]) a w) : C.wp Tryd.prog Q a w := by
  subst hn
  obtain ⟨xs, ys, ts⟩ := S
  have hS : stepB (xs, ys, ts) k = (xs, ys ++ [⟨k.at', cutT k.times, false, 0, !(kd k == 1)⟩], ts ++ [(false, ys.length)]) := by simp only [stepB, h0]
  have hT : tNew (xs, ys, ts) k = (false, ys.length) := by simp only [tNew, h0]
  rw [hS, hT] at hk
  have hK : AtK [] [(0, 0)] w0 env _ _ a w := ⟨h, _, rfl⟩
  obtain ⟨env3, hA3⟩ := hK.join 4 11 (by omega) (by simp) (E := encTw) (xs := ys) rfl rfl ⟨k.at', cutT k.times, false, 0, !(kd k == 1)⟩ (fun env cs h => by
      subst hf
      cases hq : kd k == 1 <;> simpa [segCells, Seg.cells, encTw, encOf, putV, DenL, Den, hq] using h) (v8i p m n i ++ [swV t0, swV (false, ys.length)]) (fun env' hj hm => ⟨hm _, hm _, hm _, hm _, hm _, hm _, hm _, hm _, hm _, fun v h => by
      obtain ⟨u, h1, h2⟩ := h
      exact .inr ⟨rfl, u, h1, hj _ _ h2⟩, trivial⟩)
  exact hk _ a w (hA3.at'.perm [0, 1, 2, 3, 4, 5, 6, 7, 8, 9, 10] (by kernel_rfl) (by kernel_rfl) (by kernel_rfl) (by kernel_rfl))
set_option maxHeartbeats 1000000 in
theorem rmk_b {w0 : From} {p : InR} {S : MadeT} {ta tb : List (Bool × Nat)} {m n i : Nat} {k : K3} {t0 : Bool × Nat} (hi : i < p.kinds.length) (hke : p.kinds.getD i encK.dflt = k) {Q : Exit → Act → World → Prop}
    (hk : ∀ env a w, At [(0, 0)] w0 env (fr 178 n8d (v8i p m n i ++ [swV t0, swV (tNew S k)])) (s8 p (stepB S k).1 (stepB S k).2.1 ta tb) a w → (restC 2 bb8).wp Tryd.prog Q a w)
    {env : Env} {a : Act} {w : World} (h : At [(0, 0)] w0 env (fr 178 n8c (v8i p m n i ++ [swV t0])) (s8 p S.1 S.2.1 ta tb) a w) : (restC 1 bb8).wp Tryd.prog Q a w := by
  have hK : AtK [] [(0, 0)] w0 env _ _ a w := ⟨h, _, rfl⟩
  refine pieceNTK2 (c := cfgM) cfgM_ok 1 n8d r_mk2 (by simp) (by simp) hK ?_
  simp only [Int.toNat_natCast]
  refine all_needq (by simp only [decide_eq_true_eq, Bool.and_eq_true]; exact Iff.rfl) (by omega) ?_
  refine all_needq (by simp only [decide_eq_true_eq]; exact Iff.rfl) (by omega) ?_
  refine all_needq (by simp only [decide_eq_true_eq]; exact Iff.rfl) (by omega) ?_
  refine all_needq (by simp only [decide_eq_true_eq]; exact Iff.rfl) (by omega) ?_
  change p.kinds.getD i ⟨0, 0, 0, k0_h⟩ = k at hke
  subst hke

  have hkk := (p.kinds.getD i ⟨0, 0, 0, k0_h⟩ : K3).h
  repeat' (first
    | refine all_needq (by simp only [inR_i64]; exact Iff.rfl) (by omega) ?_
    | refine all_need rfl (fun _ => ?_)
    | refine all_eq trivial ?_
    | refine all_eq rfl ?_
    | refine all_brp (by simp only [decide_eq_true_eq]; exact Iff.rfl) (fun _ => ?_) (fun _ => ?_)
    | refine all_br (fun _ => ?_) (fun _ => ?_))
  · rename_i c1 _ c2
    exact all_ret fun env' a' w' h => rjoinA_b c2 (c := 20) (if_pos c1) hk (h.at'.gen rfl)
  · rename_i c1 _ c2 c3
    exact all_ret fun env' a' w' h => rjoinT_b c2 (f := 27) (fF5 true c3) (c := 20) (if_pos c1) hk (h.at'.gen rfl)
  · rename_i c1 _ c2 c3
    exact all_ret fun env' a' w' h => rjoinT_b c2 (f := 30) (fF5 false c3) (c := 20) (if_pos c1) hk (h.at'.gen rfl)
  · rename_i c1 _ c2
    exact all_ret fun env' a' w' h => rjoinA_b c2 (c := (p.kinds.getD i (⟨0, 0, 0, k0_h⟩ : K3)).times) (if_neg c1) hk (h.at'.gen rfl)
  · rename_i c1 _ c2 c3
    exact all_ret fun env' a' w' h => rjoinT_b c2 (f := 27) (fF5 true c3) (c := (p.kinds.getD i (⟨0, 0, 0, k0_h⟩ : K3)).times) (if_neg c1) hk (h.at'.gen rfl)
  · rename_i c1 _ c2 c3
    exact all_ret fun env' a' w' h => rjoinT_b c2 (f := 30) (fF5 false c3) (c := (p.kinds.getD i (⟨0, 0, 0, k0_h⟩ : K3)).times) (if_neg c1) hk (h.at'.gen rfl)
end Go.Proofs.YtlnigpeoffaemaaDoor

/- StepsRuns: both machines' tasks are made. -/
namespace Go.Proofs.YtlnigpeoffaemaaDoor
open Go Go.Proofs.YtlnigpeoffaemaaDoor.Sx
set_option linter.unusedVariables false
abbrev Q8 (w0 : From) : Exit → Act → World → Prop := bodyPost Tryd.prog Tryd.f8 (Said w0)
structure Twin (i : Nat) (S : MadeT) (rs : List Rf) (ta tb : List (Bool × Nat)) : Prop where
  ok : MadeOk (2 * i) S rs
  la : ta.length = i
  lb : tb.length = i
  ga : ∀ j, j < i → tsAt ta j = tsAt S.2.2 (2 * j)
  gb : ∀ j, j < i → tsAt tb j = tsAt S.2.2 (2 * j + 1)
  rr : ∀ j, j < i → rs.getD (2 * j) encRf.dflt = rs.getD (2 * j + 1) encRf.dflt
theorem tsAt_lt {l : List (Bool × Nat)} {x : Bool × Nat} {i : Nat} (h : i < l.length) : tsAt (l ++ [x]) i = tsAt l i := getD_app_lt h _
theorem tsAt_eq {l : List (Bool × Nat)} {x : Bool × Nat} {i : Nat} (h : i = l.length) : tsAt (l ++ [x]) i = x := by subst h; exact getD_app_eq _
theorem twin_step {i : Nat} {S : MadeT} {rs : List Rf} {ta tb : List (Bool × Nat)} (h : Twin i S rs ta tb) (k : K3) :
    Twin (i + 1) (stepB (stepB S k) k) (rs ++ [mkR k] ++ [mkR k]) (ta ++ [tNew S k]) (tb ++ [tNew (stepB S k) k]) := by
  have hT : (stepB (stepB S k) k).2.2 = S.2.2 ++ [tNew S k] ++ [tNew (stepB S k) k] := by rw [tNew_ts, tNew_ts]
  have hl := h.ok.lt
  have hr := h.ok.lr
  have hla := h.la
  have hlb := h.lb
  refine ⟨made_ok (made_ok h.ok k) k, by simp [hla], by simp [hlb], fun j hj => ?_, fun j hj => ?_, fun j hj => ?_⟩
  · rw [hT]
    by_cases hji : j = i
    · rw [tsAt_eq (by omega), tsAt_lt (by simp only [List.length_append, List.length_singleton]; omega), tsAt_eq (by omega)]
    · rw [tsAt_lt (by omega), tsAt_lt (by simp only [List.length_append, List.length_singleton]; omega), tsAt_lt (by omega)]
      exact h.ga j (by omega)
  · rw [hT]
    by_cases hji : j = i
    · rw [tsAt_eq (by omega), tsAt_eq (by simp only [List.length_append, List.length_singleton]; omega)]
    · rw [tsAt_lt (by omega), tsAt_lt (by simp only [List.length_append, List.length_singleton]; omega), tsAt_lt (by omega)]
      exact h.gb j (by omega)
  · have e1 : ∀ x y : Rf, j = i → (rs ++ [x] ++ [y]).getD (2 * j) encRf.dflt = x := by
      intro x y e
      have e2 : 2 * j = rs.length := by omega
      rw [getD_app_lt (by simp only [List.length_append, List.length_singleton]; omega), e2, getD_app_eq]
    have e3 : ∀ x y : Rf, j = i → (rs ++ [x] ++ [y]).getD (2 * j + 1) encRf.dflt = y := by
      intro x y e
      have e2 : 2 * j + 1 = (rs ++ [x]).length := by simp only [List.length_append, List.length_singleton]; omega
      rw [e2, getD_app_eq]
    by_cases hji : j = i
    · rw [e1 _ _ hji, e3 _ _ hji]
    · rw [getD_app_lt (by simp only [List.length_append, List.length_singleton]; omega), getD_app_lt (by omega), getD_app_lt (by simp only [List.length_append, List.length_singleton]; omega), getD_app_lt (by omega)]
      exact h.rr j (by omega)
def InvR (w0 : From) (p : InR) (i : Nat) (a : Act) (w : World) : Prop :=
  i ≤ p.kinds.length ∧ ∃ S rs ta tb, Twin i S rs ta tb ∧ ∃ env, AtK [] [(0, 0)] w0 env (fr 178 n8b (v8i p i i i)) (s8 p S.1 S.2.1 ta tb) a w
abbrev RR (w0 : From) (p : InR) (i : Nat) : Exit → Act → World → Prop :=
  Exit.then (fun a' w' => ∃ k, InvR w0 p k a' w' ∧ p.kinds.length - k < p.kinds.length - i) (Exit.inBlock 0 (Exit.then (d8.wp Tryd.prog (Q8 w0)) (Q8 w0)))
set_option maxHeartbeats 1000000 in
theorem round8_ok {w0 : From} {p : InR} (h6 : p.kinds.length ≤ 6)
    (hd : ∀ {S : MadeT} {rs : List Rf} {ta tb : List (Bool × Nat)} {env : Env} {a : Act} {w : World}, Twin p.kinds.length S rs ta tb → AtK [] [(0, 0)] w0 env (fr 178 n8b (v8i p p.kinds.length p.kinds.length p.kinds.length)) (s8 p S.1 S.2.1 ta tb) a w → d8.wp Tryd.prog (Q8 w0) a w)
    {i : Nat} {a : Act} {w : World} (h : InvR w0 p i a w) : round8.wp Tryd.prog (RR w0 p i) a w := by
  obtain ⟨hi, S, rs, ta, tb, hT, env, hA⟩ := h
  refine wpS (by kernel_rfl) ?_
  refine pieceTK2 (c := cfgM) cfgM_ok n8b r_tm (by simp) (by simp) hA ?_
  refine all_brp (by simp only [decide_eq_true_eq]; exact Iff.rfl) (fun h1 => all_ret fun env1 a1 w1 hA1 => ?_) (fun h1 => all_ret fun env1 a1 w1 hA1 => ?_)
  · simp only [Ex.to, Exit.then]
    have hi' : i < p.kinds.length := by omega
    refine (show (rgt round8).wp Tryd.prog (RR w0 p i) a1 w1 from wpS (by kernel_rfl) (wpB 1 (by kernel_rfl) ?_))
    refine (show bb8.wp Tryd.prog (Exit.inBlock 1 (Exit.then (inc8.wp Tryd.prog (RR w0 p i)) (RR w0 p i))) a1 w1 from ?_)
    refine rmk_a (S := S) hi' rfl (fun env2 a2 w2 hA2 => ?_) hA1.at'
    refine rmk_b (S := stepB S _) hi' rfl (fun env3 a3 w3 hA3 => ?_) hA2
    have hS := twin_step hT (p.kinds.getD i encK.dflt)
    have la := hT.la
    have lb := hT.lb
    generalize tNew S (p.kinds.getD i encK.dflt) = t at *
    generalize tNew (stepB S (p.kinds.getD i encK.dflt)) (p.kinds.getD i encK.dflt) = u at *
    generalize stepB (stepB S (p.kinds.getD i encK.dflt)) (p.kinds.getD i encK.dflt) = S' at *
    obtain ⟨b1, k1⟩ := t
    obtain ⟨b2, k2⟩ := u
    have hi1 : ∀ {env : Env} {b : Bool} {k : Nat} {v : Value}, Den env (swV (b, k)) v → Den env (ifV b k) v := by
      intro env b k v h
      cases b <;> simpa [Den] using h
    have hA4 := hA3.vals (v8i p i i i ++ [ifV b1 k1, ifV b2 k2]) ⟨fun _ h => h, fun _ h => h, fun _ h => h, fun _ h => h, fun _ h => h, fun _ h => h, fun _ h => h, fun _ h => h, fun _ h => hi1 h, fun _ h => hi1 h, trivial⟩
    have hK : AtK [] [(0, 0)] w0 env3 _ _ a3 w3 := ⟨hA4, _, rfl⟩
    refine pieceTK2 (c := cfgM) cfgM_ok n8b (r_appA (n := i)) (by simp) (by simp) hK ?_
    refine all_need rfl fun _ => ?_
    refine all_needq (by simp only [decide_eq_true_eq]; exact Iff.rfl) (by omega) ?_
    refine all_needq (by simp only [roomy_iff]; exact Iff.rfl) (by omega) ?_
    refine all_need rfl fun _ => ?_
    refine all_needq (by simp only [decide_eq_true_eq]; exact Iff.rfl) (by omega) ?_
    refine all_needq (by simp only [roomy_iff]; exact Iff.rfl) (by omega) ?_
    refine all_ret fun env4 a4 w4 hA5 => ?_
    simp only [Ex.to, Exit.inBlock, Exit.then]
    refine (show inc8.wp Tryd.prog (RR w0 p i) a4 w4 from ?_)
    refine pieceTK2 (c := cfgM) cfgM_ok n8b r_inc (by simp) (by simp) hA5 ?_
    refine all_needp (by simp only [inR_i64]; exact Iff.rfl) (by omega) fun _ => all_ret fun env' a' w' hA9 => ?_
    exact ⟨i + 1, ⟨by omega, S', _, _, _, hS, env', hA9⟩, by omega⟩
  · have : i = p.kinds.length := by omega
    subst this
    simp only [Ex.to, Exit.then, Exit.inBlock, if_true]
    exact hd hT hA1
end Go.Proofs.YtlnigpeoffaemaaDoor

/- StepsRuns: calls on either machine. -/
namespace Go.Proofs.YtlnigpeoffaemaaDoor
open Go Go.Proofs.YtlnigpeoffaemaaDoor.Sx
set_option linter.unusedVariables false
abbrev swR : List Nat := [0, 8, 9, 3, 4, 10, 11, 12, 1, 2, 5, 6, 7, 13, 14]
/-- both machines -/
abbrev restR (q : InR) (n : Nat) (us : List (Bool × Nat)) (t : Yc) : St := [.own [.c (.sli 9 (.c 0) 1 (.v 2) (some (.v 2))), .c (.int .i64 t.c)] 67, .own [.a (encInt .u32) 2 t.l] 45,
    .own [.c (.ptr 8 0), .c (.sli 11 (.c 0) 1 (.v n) none), .c (.sli 12 (.c 0) 1 (.v n) (some (.v n)))] 70, .vec (encTs 3 4) us 44, .own [.a encBool n t.ds] 4,
    .ro (encInt .i64) q.picks]
abbrev sR (q : InR) (m n : Nat) (ts us bs : List (Bool × Nat)) (s : Mc) (t : Yc) : St := mcS 2 m ts s ++ (restR q n us t ++ [.vec (encTs 3 4) bs 44])
abbrev sRR (q : InR) (m n : Nat) (ts us bs : List (Bool × Nat)) (s : Mc) (t : Yc) : St :=
  [lookB, .own [.c (.sli 2 (.c 0) 1 (.v 2) (some (.v 2))), .c (.int .i64 t.c)] 67, .own [.a (encInt .u32) 2 t.l] 45, .many encAd s.ad 86, .many encTw s.tw 78,
   .own [.c (.ptr 1 0), .c (.sli 6 (.c 0) 1 (.v n) none), .c (.sli 7 (.c 0) 1 (.v n) (some (.v n)))] 70, .vec (encRow 0) (renRows swR (encTs 3 4) us) 44, .own [.a encBool n t.ds] 4,
   .own [.c (.sli 9 (.c 0) 1 (.v 2) (some (.v 2))), .c (.int .i64 s.c)] 67, .own [.a (encInt .u32) 2 s.l] 45,
   .own [.c (.ptr 8 0), .c (.sli 11 (.c 0) 1 (.v m) none), .c (.sli 12 (.c 0) 1 (.v m) (some (.v m)))] 70, .vec (encRow 0) (renRows swR (encTs 3 4) ts) 44, .own [.a encBool m s.ds] 4,
   .ro (encInt .i64) q.picks, .vec (encRow 0) (renRows swR (encTs 3 4) bs) 44]
theorem sR_ren {q : InR} {m n : Nat} {ts us bs : List (Bool × Nat)} {s : Mc} {t : Yc} : renSt swR (sR q m n ts us bs s t) swR = some (sRR q m n ts us bs s t) := by kernel_rfl
theorem sR_eqv {q : InR} {m n : Nat} {ts us bs : List (Bool × Nat)} {s : Mc} {t : Yc} : EqvSt (sRR q m n ts us bs s t) (sR q n m us ts bs (yMc s t) ⟨s.l, s.c, s.ds⟩) :=
  ⟨.inl rfl, .inl rfl, .inl rfl, .inl rfl, .inl rfl, .inl rfl, rowsTs rfl rfl, .inl rfl, .inl rfl, .inl rfl, .inl rfl, rowsTs rfl rfl, .inl rfl, .inl rfl, rowsTs rfl rfl, trivial⟩
theorem pickR_x {q : InR} {m n : Nat} {ts us bs : List (Bool × Nat)} {s : Mc} {t : Yc} (hs : McOk 2 m ts s) {i : Int} (env : Env) (w : World) (vs : List Value) (hg : GlOk cfgM.gl env) (hr : Rep env (sR q m n ts us bs s t) w) (hd : DenL env [.ptr 5 0, .int .i64 i] vs) :
    Calls cfgM.P 12 ⟨vs⟩ w (Ends1 env (sR q m n ts us bs s t) w (.int .i64 (errP m s i)) (sR q m n ts us bs (pickP m ts s i) t)) :=
  frame (c := cfgM) (pick_call hs) (restR q n us t ++ [.vec (encTs 3 4) bs 44]) rfl rfl (gl_lt (by simp)) mcS_ren mcS_ro env w vs hg hr hd
theorem leftR_x {q : InR} {m n : Nat} {ts us bs : List (Bool × Nat)} {s : Mc} {t : Yc} (hs : s.ds.length = m) (hm : m ≤ 1000) (env : Env) (w : World) (vs : List Value) (hg : GlOk cfgM.gl env) (hr : Rep env (sR q m n ts us bs s t) w) (hd : DenL env [.ptr 5 0] vs) :
    Calls cfgM.P 19 ⟨vs⟩ w (Ends1 env (sR q m n ts us bs s t) w (.int .i64 (leftP s.ds)) (sR q m n ts us bs s t)) :=
  frame (c := cfgM) (left_call hs hm) (restR q n us t ++ [.vec (encTs 3 4) bs 44]) rfl rfl (gl_lt (by simp)) mcS_ren mcS_ro env w vs hg hr hd
theorem pickR_y {q : InR} {m n : Nat} {ts us bs : List (Bool × Nat)} {s : Mc} {t : Yc} (ht : McOk 2 n us (yMc s t)) {i : Int} (env : Env) (w : World) (vs : List Value) (hg : GlOk cfgM.gl env) (hr : Rep env (sR q m n ts us bs s t) w) (hd : DenL env [.ptr 10 0, .int .i64 i] vs) :
    Calls cfgM.P 12 ⟨vs⟩ w (Ends1 env (sR q m n ts us bs s t) w (.int .i64 (errP n (yMc s t) i)) (sR q m n ts us bs (yS s (pickP n us (yMc s t) i)) (yT (pickP n us (yMc s t) i)))) :=
  permCall swR swR (pickR_x (q := q) (n := m) (us := ts) (bs := bs) (t := ⟨s.l, s.c, s.ds⟩) ht) rfl rfl rfl rfl rfl (by rfl) sR_ren sR_eqv sR_ren sR_eqv rfl rfl env w vs hg hr hd
theorem leftR_y {q : InR} {m n : Nat} {ts us bs : List (Bool × Nat)} {s : Mc} {t : Yc} (ht : t.ds.length = n) (hn : n ≤ 1000) (env : Env) (w : World) (vs : List Value) (hg : GlOk cfgM.gl env) (hr : Rep env (sR q m n ts us bs s t) w) (hd : DenL env [.ptr 10 0] vs) :
    Calls cfgM.P 19 ⟨vs⟩ w (Ends1 env (sR q m n ts us bs s t) w (.int .i64 (leftP t.ds)) (sR q m n ts us bs s t)) :=
  permCall swR swR (leftR_x (q := q) (n := m) (us := ts) (bs := bs) (s := yMc s t) (t := ⟨s.l, s.c, s.ds⟩) ht hn) rfl rfl rfl rfl rfl (by rfl) sR_ren sR_eqv sR_ren sR_eqv rfl rfl env w vs hg hr hd
/-- one of two contracts, by the arguments -/
def smSel (p : List SVal → Bool) (g g' : List SVal → St → T (SVal × St)) : List SVal → St → T (SVal × St) := fun args st => match p args with | true => g args st | false => g' args st
/-- a pick or a count on the second machine -/
noncomputable def cfgYR (q : InR) (m n : Nat) (ts us bs : List (Bool × Nat)) (s : Mc) (t : Yc) (k : Int) : Cfg := { P := Tryd.prog, ex := exI, gl := [(0, 0)], sm := fun f => match f with
  | 12 => some (smEq [.ptr 10 0, .int .i64 k] (sR q m n ts us bs s t) (McOk 2 n us (yMc s t)) (.int .i64 (errP n (yMc s t) k)) (sR q m n ts us bs (yS s (pickP n us (yMc s t) k)) (yT (pickP n us (yMc s t) k))))
  | 19 => some (smEq [.ptr 10 0] (sR q m n ts us bs s t) (t.ds.length = n ∧ n ≤ 1000) (.int .i64 (leftP t.ds)) (sR q m n ts us bs s t))
  | _ => none }
theorem cfgYR_ok {q : InR} {m n : Nat} {ts us bs : List (Bool × Nat)} {s : Mc} {t : Yc} {k : Int} : SmOk (cfgYR q m n ts us bs s t k) := by
  intro f g h
  simp only [cfgYR] at h
  split at h
  · simp only [Option.some.injEq] at h; subst h
    exact smEq_ok (c := cfgYR q m n ts us bs s t k) fun h => pickR_y h
  · simp only [Option.some.injEq] at h; subst h
    exact smEq_ok (c := cfgYR q m n ts us bs s t k) fun h => leftR_y h.1 h.2
  · cases h
end Go.Proofs.YtlnigpeoffaemaaDoor

/- StepsRuns: both machines are made. -/
namespace Go.Proofs.YtlnigpeoffaemaaDoor
open Go Go.Proofs.YtlnigpeoffaemaaDoor.Sx
set_option linter.unusedVariables false
set_option maxRecDepth 100000 in
theorem newR_1 (p : InR) (xs : List Ad) (ys : List Tw) (ts us : List (Bool × Nat)) (hn : ts.length ≤ 8) : anyP cfgN 100 11 [.ptr 1 0, .sli 9 (.c 0) 1 (.v ts.length) none] (s8 p xs ys ts us) := by
  let A : List Bool := [decide (0 + ts.length ≤ ts.length), decide (0 + ts.length ≤ ts.length), roomy (List.take ts.length (List.drop 0 ts)).length 16]
  let M : List Bool := [decide (0 ≤ (ts.length : Int)), decide ((ts.length : Int) * 1 ≤ 140737488355328), decide ((ts.length : Int) ≤ 4611686018427387904)]
  have h0 : (anyTP cfgN 100 11 [.ptr 1 0, .sli 9 (.c 0) 1 (.v ts.length) none] (s8 p xs ys ts us)).lineB = some (A ++ M ++ A ++ M ++ A ++ M ++ M ++ A ++ A ++ M ++ M ++ A ++ M ++ A) := by kernel_rfl
  have h1 : (anyTP cfgN 100 11 [.ptr 1 0, .sli 9 (.c 0) 1 (.v ts.length) none] (s8 p xs ys ts us)).lineP = some True := by kernel_rfl
  have hA : ∀ b ∈ A, b = true := by
    intro b hb
    simp only [A, List.mem_cons, List.not_mem_nil, or_false] at hb
    rcases hb with rfl | rfl | rfl
    · simp
    · simp
    · rw [roomy_iff]; simp; omega
  have hM : ∀ b ∈ M, b = true := by
    intro b hb
    simp only [M, List.mem_cons, List.not_mem_nil, or_false] at hb
    rcases hb with rfl | rfl | rfl <;> simp <;> omega
  refine anyP_line h0 h1 (fun b hb => ?_) trivial (by kernel_rfl)
  simp only [List.mem_append] at hb
  rcases hb with ((((((((((((hb | hb) | hb) | hb) | hb) | hb) | hb) | hb) | hb) | hb) | hb) | hb) | hb) | hb <;> first | exact hA b hb | exact hM b hb
abbrev s8n (p : InR) (xs : List Ad) (ys : List Tw) (ts us : List (Bool × Nat)) : St := s8 p xs ys ts us ++ [.gone, .vec (encTs 3 4) ts 44, .own [.a encBool ts.length (List.replicate ts.length false)] 4, .own [.c (.ptr 1 0), .c (.sli 12 (.c 0) 1 (.v ts.length) none), .c (.sli 13 (.c 0) 1 (.v ts.length) (some (.v ts.length)))] 70]
set_option maxRecDepth 100000 in
theorem newR_2 (p : InR) (xs : List Ad) (ys : List Tw) (ts us : List (Bool × Nat)) (hn : us.length ≤ 8) : anyP cfgN 100 11 [.ptr 5 0, .sli 10 (.c 0) 1 (.v us.length) none] (s8n p xs ys ts us) := by
  let A : List Bool := [decide (0 + us.length ≤ us.length), decide (0 + us.length ≤ us.length), roomy (List.take us.length (List.drop 0 us)).length 16]
  let M : List Bool := [decide (0 ≤ (us.length : Int)), decide ((us.length : Int) * 1 ≤ 140737488355328), decide ((us.length : Int) ≤ 4611686018427387904)]
  have h0 : (anyTP cfgN 100 11 [.ptr 5 0, .sli 10 (.c 0) 1 (.v us.length) none] (s8n p xs ys ts us)).lineB = some (A ++ M ++ A ++ M ++ A ++ M ++ M ++ A ++ A ++ M ++ M ++ A ++ M ++ A) := by kernel_rfl
  have h1 : (anyTP cfgN 100 11 [.ptr 5 0, .sli 10 (.c 0) 1 (.v us.length) none] (s8n p xs ys ts us)).lineP = some True := by kernel_rfl
  have hA : ∀ b ∈ A, b = true := by
    intro b hb
    simp only [A, List.mem_cons, List.not_mem_nil, or_false] at hb
    rcases hb with rfl | rfl | rfl
    · simp
    · simp
    · rw [roomy_iff]; simp; omega
  have hM : ∀ b ∈ M, b = true := by
    intro b hb
    simp only [M, List.mem_cons, List.not_mem_nil, or_false] at hb
    rcases hb with rfl | rfl | rfl <;> simp <;> omega
  refine anyP_line h0 h1 (fun b hb => ?_) trivial (by kernel_rfl)
  simp only [List.mem_append] at hb
  rcases hb with ((((((((((((hb | hb) | hb) | hb) | hb) | hb) | hb) | hb) | hb) | hb) | hb) | hb) | hb) | hb <;> first | exact hA b hb | exact hM b hb
abbrev v8e (q : InR) (n : Nat) (c : Int) : List SVal := [pickR q 13, .int .u8 q.most, .ptr 1 0, .ptr 8 0, .sli 14 (.c 0) 1 (.v n) none, .ptr 5 0, .ptr 10 0, .int .i64 c]
set_option maxHeartbeats 1000000 in
theorem new8_ok {w0 : From} {p : InR} {xs : List Ad} {ys : List Tw} {ts us : List (Bool × Nat)} {m : Nat} (hm : m ≤ 6) (hts : ts.length = m) (hus : us.length = m) {i : Nat} {Q : Exit → Act → World → Prop}
    (hk : ∀ env a w, At [(0, 0)] w0 env (fr 178 n8e (v8e p m 0)) (sR p m m ts us us ⟨[0, 0], 0, xs, ys, List.replicate m false⟩ ⟨[0, 0], 0, List.replicate m false⟩) a w → e8.wp Tryd.prog Q a w)
    {env : Env} {a : Act} {w : World} (h : AtK [] [(0, 0)] w0 env (fr 178 n8b (v8i p m m i)) (s8 p xs ys ts us) a w) : d8.wp Tryd.prog Q a w := by
  obtain ⟨envh, hh⟩ : ∃ envh, AtK [] [(0, 0)] w0 envh (fr 178 n8b (v8i p ts.length us.length i)) (s8 p xs ys ts us) a w := ⟨env, by rw [hts, hus]; exact h⟩
  refine pieceNTK2 (c := cfgL) cfgL_ok 3 n8e r_new (by simp) (by simp) hh ?_
  refine all_eq (newR_1 p _ _ _ _ (by omega)) ?_
  have htk : List.take ts.length (List.drop 0 ts) = ts := by simp
  have htu : List.take us.length (List.drop 0 us) = us := by simp
  simp only [htk, htu, Int.toNat_natCast]
  refine all_needq (by simp only [decide_eq_true_eq, roomy_iff]; exact Iff.rfl) (by omega) ?_
  refine all_needq (by simp only [decide_eq_true_eq, roomy_iff]; exact Iff.rfl) (by omega) ?_
  refine all_needq (by simp only [decide_eq_true_eq, roomy_iff]; exact Iff.rfl) (by omega) ?_
  refine all_needq (by simp only [decide_eq_true_eq, roomy_iff]; exact Iff.rfl) (by omega) ?_
  refine all_needq (by simp only [decide_eq_true_eq, roomy_iff]; exact Iff.rfl) (by omega) ?_
  refine all_needq (by simp only [decide_eq_true_eq, roomy_iff]; exact Iff.rfl) (by omega) ?_
  refine all_eq (newR_2 p _ _ _ _ (by omega)) ?_
  repeat' (first
    | refine all_needq (by simp only [decide_eq_true_eq, roomy_iff]; exact Iff.rfl) (by omega) ?_
    | refine all_ret (fun env1 a1 w1 hA1 => ?_))
  simp only [Ex.to, Exit.then]
  rw [hts, hus] at hA1
  have hA3 := hA1.at'.perm [0, 1, 2, 3, 4, 10, 11, 12, 5, 6, 13, 14, 15, 8, 9] (by kernel_rfl) (by kernel_rfl) (st' := sR p m m ts us us ⟨[0, 0], 0, xs, ys, List.replicate m false⟩ ⟨[0, 0], 0, List.replicate m false⟩) (vals' := [pickR p 13, .int .u8 p.most, .ptr 1 0, .ptr 8 0, .sli 14 (.c 0) 1 (.v m) none, .ptr 5 0, .ptr 10 0, .lit .i64 0]) (by rfl) (by rfl)
  exact hk _ a1 w1 (hA3.gvals _ rfl)
end Go.Proofs.YtlnigpeoffaemaaDoor

/- StepsRuns: pieces behind the first loop; comparing rows. -/
namespace Go.Proofs.YtlnigpeoffaemaaDoor
open Go Go.Proofs.YtlnigpeoffaemaaDoor.Sx
set_option linter.unusedVariables false
abbrev S17 (q : InR) (m n : Nat) (ts us bs : List (Bool × Nat)) (s : Mc) (t : Yc) (l l' : List Int) : St := sR q m n ts us bs s t ++ [.own [.a (encInt .u32) 2 l] 45, .own [.a (encInt .u32) 2 l'] 45]
abbrev v17 : List SVal := [.sli 15 (.c 0) 1 (.v 2) (some (.v 2)), .sli 16 (.c 0) 1 (.v 2) (some (.v 2))]
noncomputable def b17 : Code := Tryd.f17.body.getD .skip
noncomputable def c17 : Code := restC 2 b17
noncomputable def reg17 : Code := lft (lft c17)
noncomputable def blk17 : Code := rgt (lft c17)
noncomputable def round17 : Code := lft (lft blk17)
noncomputable def tm17 : Code := lft round17
noncomputable def bb17 : Code := lft (lft (rgt round17))
noncomputable def inc17 : Code := rgt (rgt round17)
noncomputable def end17 : Code := rgt c17
abbrev n8f : List Nat := [1, 2, 7, 9, 12, 18, 19, 20, 21]
abbrev n8g : List Nat := [1, 2, 7, 9, 12, 18, 19, 20, 132]
abbrev v8f (q : InR) (n : Nat) (c : Int) (i : Nat) : List SVal := v8e q n c ++ [.int .i64 (i : Nat)]
abbrev sRn (q : InR) (m n : Nat) (ts us bs : List (Bool × Nat)) (s : Mc) (t : Yc) : St := sR q m n ts us bs s t ++ [.own [] 3, .vec (encInt .i64) q.picks 3]
def smEcho (v : SVal) : List SVal → St → T (SVal × St) := fun args st => .eq (args = [] ∧ st = []) (.ret (v, st))
noncomputable def cfgEcho : Cfg := { P := Tryd.prog, ex := exI, gl := [(0, 0)], sm := fun f => match f with
  | 25 => some (smEcho (.int .i64 0))
  | 17 => some (smEcho (.bl true))
  | _ => none }
end Go.Proofs.YtlnigpeoffaemaaDoor

namespace Go.Proofs.YtlnigpeoffaemaaDoor
open Go Go.Proofs.YtlnigpeoffaemaaDoor.Sx
set_option linter.unusedVariables false
set_option maxRecDepth 100000 in
theorem q_pre {q : InR} {m n : Nat} {ts us bs : List (Bool × Nat)} {s : Mc} {t : Yc} {l l' : List Int} : (execN cfgM 100 2 b17 (v17 ++ List.replicate 24 .bad) (S17 q m n ts us bs s t l l')).bind (canonK 17 [(0,0)] 26 [0, 1, 4]) =
 

 (.br (false)

 (.ret (.ret, [.sli 15 (.c 0) 1 (.v 2) (some (.v 2)), .sli 16 (.c 0) 1 (.v 2) (some (.v 2)), .bl false], [.ro encLook [PUnit.unit], .own [.c (.sli 2 (.c 0) 1 (.v 2) (some (.v 2))), .c (.int .i64 s.2)] 67, .own [.a (encInt IntKind.u32) 2 s.1] 45, .many encAd s.3 86, .many encTw s.4 78, .own [.c (.ptr 1 0), .c (.sli 6 (.c 0) 1 (.v m) none), .c (.sli 7 (.c 0) 1 (.v m) (some (.v m)))] 70, .vec (encTs 3 4) ts 44, .own [.a encBool m s.5] 4, .own [.c (.sli 9 (.c 0) 1 (.v 2) (some (.v 2))), .c (.int .i64 t.2)] 67, .own [.a (encInt IntKind.u32) 2 t.1] 45, .own [.c (.ptr 8 0), .c (.sli 11 (.c 0) 1 (.v n) none), .c (.sli 12 (.c 0) 1 (.v n) (some (.v n)))] 70, .vec (encTs 3 4) us 44, .own [.a encBool n t.3] 4, .ro (encInt IntKind.i64) q.3, .vec (encTs 3 4) bs 44, .own [.a (encInt IntKind.u32) 2 l] 45, .own [.a (encInt IntKind.u32) 2 l'] 45]))

 (.ret (.normal, [.sli 15 (.c 0) 1 (.v 2) (some (.v 2)), .sli 16 (.c 0) 1 (.v 2) (some (.v 2)), .bl false], [.ro encLook [PUnit.unit], .own [.c (.sli 2 (.c 0) 1 (.v 2) (some (.v 2))), .c (.int .i64 s.2)] 67, .own [.a (encInt IntKind.u32) 2 s.1] 45, .many encAd s.3 86, .many encTw s.4 78, .own [.c (.ptr 1 0), .c (.sli 6 (.c 0) 1 (.v m) none), .c (.sli 7 (.c 0) 1 (.v m) (some (.v m)))] 70, .vec (encTs 3 4) ts 44, .own [.a encBool m s.5] 4, .own [.c (.sli 9 (.c 0) 1 (.v 2) (some (.v 2))), .c (.int .i64 t.2)] 67, .own [.a (encInt IntKind.u32) 2 t.1] 45, .own [.c (.ptr 8 0), .c (.sli 11 (.c 0) 1 (.v n) none), .c (.sli 12 (.c 0) 1 (.v n) (some (.v n)))] 70, .vec (encTs 3 4) us 44, .own [.a encBool n t.3] 4, .ro (encInt IntKind.i64) q.3, .vec (encTs 3 4) bs 44, .own [.a (encInt IntKind.u32) 2 l] 45, .own [.a (encInt IntKind.u32) 2 l'] 45]))) := by kernel_rfl
set_option maxRecDepth 100000 in
theorem q_reg {q : InR} {m n : Nat} {ts us bs : List (Bool × Nat)} {s : Mc} {t : Yc} {l l' : List Int} : (exec cfgM 100 reg17 (fr 26 [0, 1] (v17)) (S17 q m n ts us bs s t l l')).bind (canonK 17 [(0,0)] 26 [0, 1, 5]) =
 

 (.ret (.normal, [.sli 15 (.c 0) 1 (.v 2) (some (.v 2)), .sli 16 (.c 0) 1 (.v 2) (some (.v 2)), .lit .i64 (0 : Int)], [.ro encLook [PUnit.unit], .own [.c (.sli 2 (.c 0) 1 (.v 2) (some (.v 2))), .c (.int .i64 s.2)] 67, .own [.a (encInt IntKind.u32) 2 s.1] 45, .many encAd s.3 86, .many encTw s.4 78, .own [.c (.ptr 1 0), .c (.sli 6 (.c 0) 1 (.v m) none), .c (.sli 7 (.c 0) 1 (.v m) (some (.v m)))] 70, .vec (encTs 3 4) ts 44, .own [.a encBool m s.5] 4, .own [.c (.sli 9 (.c 0) 1 (.v 2) (some (.v 2))), .c (.int .i64 t.2)] 67, .own [.a (encInt IntKind.u32) 2 t.1] 45, .own [.c (.ptr 8 0), .c (.sli 11 (.c 0) 1 (.v n) none), .c (.sli 12 (.c 0) 1 (.v n) (some (.v n)))] 70, .vec (encTs 3 4) us 44, .own [.a encBool n t.3] 4, .ro (encInt IntKind.i64) q.3, .vec (encTs 3 4) bs 44, .own [.a (encInt IntKind.u32) 2 l] 45, .own [.a (encInt IntKind.u32) 2 l'] 45])) := by kernel_rfl
set_option maxRecDepth 100000 in
theorem q_tm {q : InR} {m n : Nat} {ts us bs : List (Bool × Nat)} {s : Mc} {t : Yc} {l l' : List Int} {i : Nat} : (exec cfgM 100 tm17 (fr 26 [0, 1, 5] (v17 ++ [.int .i64 (i : Nat)])) (S17 q m n ts us bs s t l l')).bind (canonK 17 [(0,0)] 26 [0, 1, 5]) =
 

 (.br (decide ((↑i : Int) < (2 : Int)))

 (.ret (.normal, [.sli 15 (.c 0) 1 (.v 2) (some (.v 2)), .sli 16 (.c 0) 1 (.v 2) (some (.v 2)), .int .i64 (↑i : Int)], [.ro encLook [PUnit.unit], .own [.c (.sli 2 (.c 0) 1 (.v 2) (some (.v 2))), .c (.int .i64 s.2)] 67, .own [.a (encInt IntKind.u32) 2 s.1] 45, .many encAd s.3 86, .many encTw s.4 78, .own [.c (.ptr 1 0), .c (.sli 6 (.c 0) 1 (.v m) none), .c (.sli 7 (.c 0) 1 (.v m) (some (.v m)))] 70, .vec (encTs 3 4) ts 44, .own [.a encBool m s.5] 4, .own [.c (.sli 9 (.c 0) 1 (.v 2) (some (.v 2))), .c (.int .i64 t.2)] 67, .own [.a (encInt IntKind.u32) 2 t.1] 45, .own [.c (.ptr 8 0), .c (.sli 11 (.c 0) 1 (.v n) none), .c (.sli 12 (.c 0) 1 (.v n) (some (.v n)))] 70, .vec (encTs 3 4) us 44, .own [.a encBool n t.3] 4, .ro (encInt IntKind.i64) q.3, .vec (encTs 3 4) bs 44, .own [.a (encInt IntKind.u32) 2 l] 45, .own [.a (encInt IntKind.u32) 2 l'] 45]))

 (.ret (.exit 0, [.sli 15 (.c 0) 1 (.v 2) (some (.v 2)), .sli 16 (.c 0) 1 (.v 2) (some (.v 2)), .int .i64 (↑i : Int)], [.ro encLook [PUnit.unit], .own [.c (.sli 2 (.c 0) 1 (.v 2) (some (.v 2))), .c (.int .i64 s.2)] 67, .own [.a (encInt IntKind.u32) 2 s.1] 45, .many encAd s.3 86, .many encTw s.4 78, .own [.c (.ptr 1 0), .c (.sli 6 (.c 0) 1 (.v m) none), .c (.sli 7 (.c 0) 1 (.v m) (some (.v m)))] 70, .vec (encTs 3 4) ts 44, .own [.a encBool m s.5] 4, .own [.c (.sli 9 (.c 0) 1 (.v 2) (some (.v 2))), .c (.int .i64 t.2)] 67, .own [.a (encInt IntKind.u32) 2 t.1] 45, .own [.c (.ptr 8 0), .c (.sli 11 (.c 0) 1 (.v n) none), .c (.sli 12 (.c 0) 1 (.v n) (some (.v n)))] 70, .vec (encTs 3 4) us 44, .own [.a encBool n t.3] 4, .ro (encInt IntKind.i64) q.3, .vec (encTs 3 4) bs 44, .own [.a (encInt IntKind.u32) 2 l] 45, .own [.a (encInt IntKind.u32) 2 l'] 45]))) := by kernel_rfl
set_option maxRecDepth 100000 in
theorem q_bb {q : InR} {m n : Nat} {ts us bs : List (Bool × Nat)} {s : Mc} {t : Yc} {l l' : List Int} {i : Nat} : (exec cfgM 100 bb17 (fr 26 [0, 1, 5] (v17 ++ [.int .i64 (i : Nat)])) (S17 q m n ts us bs s t l l')).bind (canonK 17 [(0,0)] 26 [0, 1, 5, 4]) =
 

 (.need (decide ((0 : Int) ≤ (↑i : Int)) && decide ((↑i : Int).toNat < 2))

 (.need (decide ((↑i : Int).toNat < 2))

 (.need (decide ((0 : Int) ≤ (↑i : Int)) && decide ((↑i : Int).toNat < 2))

 (.need (decide ((↑i : Int).toNat < 2))

 (.br (l.getD (↑i : Int).toNat (0 : Int) != l'.getD (↑i : Int).toNat (0 : Int))

 (.ret (.ret, [.sli 15 (.c 0) 1 (.v 2) (some (.v 2)), .sli 16 (.c 0) 1 (.v 2) (some (.v 2)), .int .i64 (↑i : Int), .bl false], [.ro encLook [PUnit.unit], .own [.c (.sli 2 (.c 0) 1 (.v 2) (some (.v 2))), .c (.int .i64 s.2)] 67, .own [.a (encInt IntKind.u32) 2 s.1] 45, .many encAd s.3 86, .many encTw s.4 78, .own [.c (.ptr 1 0), .c (.sli 6 (.c 0) 1 (.v m) none), .c (.sli 7 (.c 0) 1 (.v m) (some (.v m)))] 70, .vec (encTs 3 4) ts 44, .own [.a encBool m s.5] 4, .own [.c (.sli 9 (.c 0) 1 (.v 2) (some (.v 2))), .c (.int .i64 t.2)] 67, .own [.a (encInt IntKind.u32) 2 t.1] 45, .own [.c (.ptr 8 0), .c (.sli 11 (.c 0) 1 (.v n) none), .c (.sli 12 (.c 0) 1 (.v n) (some (.v n)))] 70, .vec (encTs 3 4) us 44, .own [.a encBool n t.3] 4, .ro (encInt IntKind.i64) q.3, .vec (encTs 3 4) bs 44, .own [.a (encInt IntKind.u32) 2 l] 45, .own [.a (encInt IntKind.u32) 2 l'] 45]))

 (.ret (.normal, [.sli 15 (.c 0) 1 (.v 2) (some (.v 2)), .sli 16 (.c 0) 1 (.v 2) (some (.v 2)), .int .i64 (↑i : Int), .bad], [.ro encLook [PUnit.unit], .own [.c (.sli 2 (.c 0) 1 (.v 2) (some (.v 2))), .c (.int .i64 s.2)] 67, .own [.a (encInt IntKind.u32) 2 s.1] 45, .many encAd s.3 86, .many encTw s.4 78, .own [.c (.ptr 1 0), .c (.sli 6 (.c 0) 1 (.v m) none), .c (.sli 7 (.c 0) 1 (.v m) (some (.v m)))] 70, .vec (encTs 3 4) ts 44, .own [.a encBool m s.5] 4, .own [.c (.sli 9 (.c 0) 1 (.v 2) (some (.v 2))), .c (.int .i64 t.2)] 67, .own [.a (encInt IntKind.u32) 2 t.1] 45, .own [.c (.ptr 8 0), .c (.sli 11 (.c 0) 1 (.v n) none), .c (.sli 12 (.c 0) 1 (.v n) (some (.v n)))] 70, .vec (encTs 3 4) us 44, .own [.a encBool n t.3] 4, .ro (encInt IntKind.i64) q.3, .vec (encTs 3 4) bs 44, .own [.a (encInt IntKind.u32) 2 l] 45, .own [.a (encInt IntKind.u32) 2 l'] 45]))))))) := by kernel_rfl
set_option maxRecDepth 100000 in
theorem q_inc {q : InR} {m n : Nat} {ts us bs : List (Bool × Nat)} {s : Mc} {t : Yc} {l l' : List Int} {i : Nat} : (exec cfgM 100 inc17 (fr 26 [0, 1, 5] (v17 ++ [.int .i64 (i : Nat)])) (S17 q m n ts us bs s t l l')).bind (canonK 17 [(0,0)] 26 [0, 1, 5]) =
 

 (.need (inR .i64 ((↑i : Int) + (1 : Int)))

 (.ret (.normal, [.sli 15 (.c 0) 1 (.v 2) (some (.v 2)), .sli 16 (.c 0) 1 (.v 2) (some (.v 2)), .int .i64 ((↑i : Int) + (1 : Int))], [.ro encLook [PUnit.unit], .own [.c (.sli 2 (.c 0) 1 (.v 2) (some (.v 2))), .c (.int .i64 s.2)] 67, .own [.a (encInt IntKind.u32) 2 s.1] 45, .many encAd s.3 86, .many encTw s.4 78, .own [.c (.ptr 1 0), .c (.sli 6 (.c 0) 1 (.v m) none), .c (.sli 7 (.c 0) 1 (.v m) (some (.v m)))] 70, .vec (encTs 3 4) ts 44, .own [.a encBool m s.5] 4, .own [.c (.sli 9 (.c 0) 1 (.v 2) (some (.v 2))), .c (.int .i64 t.2)] 67, .own [.a (encInt IntKind.u32) 2 t.1] 45, .own [.c (.ptr 8 0), .c (.sli 11 (.c 0) 1 (.v n) none), .c (.sli 12 (.c 0) 1 (.v n) (some (.v n)))] 70, .vec (encTs 3 4) us 44, .own [.a encBool n t.3] 4, .ro (encInt IntKind.i64) q.3, .vec (encTs 3 4) bs 44, .own [.a (encInt IntKind.u32) 2 l] 45, .own [.a (encInt IntKind.u32) 2 l'] 45]))) := by kernel_rfl
set_option maxRecDepth 100000 in
theorem q_end {q : InR} {m n : Nat} {ts us bs : List (Bool × Nat)} {s : Mc} {t : Yc} {l l' : List Int} {i : Nat} : (exec cfgM 100 end17 (fr 26 [0, 1, 5] (v17 ++ [.int .i64 (i : Nat)])) (S17 q m n ts us bs s t l l')).bind (canonK 17 [(0,0)] 26 [4]) =
 

 (.ret (.ret, [.bl true], [.ro encLook [PUnit.unit], .own [.c (.sli 2 (.c 0) 1 (.v 2) (some (.v 2))), .c (.int .i64 s.2)] 67, .own [.a (encInt IntKind.u32) 2 s.1] 45, .many encAd s.3 86, .many encTw s.4 78, .own [.c (.ptr 1 0), .c (.sli 6 (.c 0) 1 (.v m) none), .c (.sli 7 (.c 0) 1 (.v m) (some (.v m)))] 70, .vec (encTs 3 4) ts 44, .own [.a encBool m s.5] 4, .own [.c (.sli 9 (.c 0) 1 (.v 2) (some (.v 2))), .c (.int .i64 t.2)] 67, .own [.a (encInt IntKind.u32) 2 t.1] 45, .own [.c (.ptr 8 0), .c (.sli 11 (.c 0) 1 (.v n) none), .c (.sli 12 (.c 0) 1 (.v n) (some (.v n)))] 70, .vec (encTs 3 4) us 44, .own [.a encBool n t.3] 4, .ro (encInt IntKind.i64) q.3, .vec (encTs 3 4) bs 44, .own [.a (encInt IntKind.u32) 2 l] 45, .own [.a (encInt IntKind.u32) 2 l'] 45])) := by kernel_rfl
set_option maxRecDepth 100000 in
theorem r_regb {q : InR} {m n : Nat} {ts us bs : List (Bool × Nat)} {s : Mc} {t : Yc} {c : Int} : (exec cfgM 100 reg8b (fr 178 n8e (v8e q n c)) (sR q m n ts us bs s t)).bind (canonK 15 [(0,0)] 178 n8f) =
 

 (.ret (.normal, [.sli 13 (.c 0) 1 (.v q.3.length) (some (.v q.4)), .int .u8 q.5, .ptr 1 0, .ptr 8 0, .sli 14 (.c 0) 1 (.v n) none, .ptr 5 0, .ptr 10 0, .int .i64 c, .lit .i64 (0 : Int)], [.ro encLook [PUnit.unit], .own [.c (.sli 2 (.c 0) 1 (.v 2) (some (.v 2))), .c (.int .i64 s.2)] 67, .own [.a (encInt IntKind.u32) 2 s.1] 45, .many encAd s.3 86, .many encTw s.4 78, .own [.c (.ptr 1 0), .c (.sli 6 (.c 0) 1 (.v m) none), .c (.sli 7 (.c 0) 1 (.v m) (some (.v m)))] 70, .vec (encTs 3 4) ts 44, .own [.a encBool m s.5] 4, .own [.c (.sli 9 (.c 0) 1 (.v 2) (some (.v 2))), .c (.int .i64 t.2)] 67, .own [.a (encInt IntKind.u32) 2 t.1] 45, .own [.c (.ptr 8 0), .c (.sli 11 (.c 0) 1 (.v n) none), .c (.sli 12 (.c 0) 1 (.v n) (some (.v n)))] 70, .vec (encTs 3 4) us 44, .own [.a encBool n t.3] 4, .ro (encInt IntKind.i64) q.3, .vec (encTs 3 4) bs 44])) := by kernel_rfl
set_option maxRecDepth 100000 in
theorem r_tmb {q : InR} {m n : Nat} {ts us bs : List (Bool × Nat)} {s : Mc} {t : Yc} {c : Int} {i : Nat} : (exec cfgM 100 tm8b (fr 178 n8f (v8f q n c i)) (sR q m n ts us bs s t)).bind (canonK 15 [(0,0)] 178 n8f) =
 

 (.br (decide ((↑i : Int) < (↑q.3.length : Int)))

 (.ret (.normal, [.sli 13 (.c 0) 1 (.v q.3.length) (some (.v q.4)), .int .u8 q.5, .ptr 1 0, .ptr 8 0, .sli 14 (.c 0) 1 (.v n) none, .ptr 5 0, .ptr 10 0, .int .i64 c, .int .i64 (↑i : Int)], [.ro encLook [PUnit.unit], .own [.c (.sli 2 (.c 0) 1 (.v 2) (some (.v 2))), .c (.int .i64 s.2)] 67, .own [.a (encInt IntKind.u32) 2 s.1] 45, .many encAd s.3 86, .many encTw s.4 78, .own [.c (.ptr 1 0), .c (.sli 6 (.c 0) 1 (.v m) none), .c (.sli 7 (.c 0) 1 (.v m) (some (.v m)))] 70, .vec (encTs 3 4) ts 44, .own [.a encBool m s.5] 4, .own [.c (.sli 9 (.c 0) 1 (.v 2) (some (.v 2))), .c (.int .i64 t.2)] 67, .own [.a (encInt IntKind.u32) 2 t.1] 45, .own [.c (.ptr 8 0), .c (.sli 11 (.c 0) 1 (.v n) none), .c (.sli 12 (.c 0) 1 (.v n) (some (.v n)))] 70, .vec (encTs 3 4) us 44, .own [.a encBool n t.3] 4, .ro (encInt IntKind.i64) q.3, .vec (encTs 3 4) bs 44]))

 (.ret (.exit 2, [.sli 13 (.c 0) 1 (.v q.3.length) (some (.v q.4)), .int .u8 q.5, .ptr 1 0, .ptr 8 0, .sli 14 (.c 0) 1 (.v n) none, .ptr 5 0, .ptr 10 0, .int .i64 c, .int .i64 (↑i : Int)], [.ro encLook [PUnit.unit], .own [.c (.sli 2 (.c 0) 1 (.v 2) (some (.v 2))), .c (.int .i64 s.2)] 67, .own [.a (encInt IntKind.u32) 2 s.1] 45, .many encAd s.3 86, .many encTw s.4 78, .own [.c (.ptr 1 0), .c (.sli 6 (.c 0) 1 (.v m) none), .c (.sli 7 (.c 0) 1 (.v m) (some (.v m)))] 70, .vec (encTs 3 4) ts 44, .own [.a encBool m s.5] 4, .own [.c (.sli 9 (.c 0) 1 (.v 2) (some (.v 2))), .c (.int .i64 t.2)] 67, .own [.a (encInt IntKind.u32) 2 t.1] 45, .own [.c (.ptr 8 0), .c (.sli 11 (.c 0) 1 (.v n) none), .c (.sli 12 (.c 0) 1 (.v n) (some (.v n)))] 70, .vec (encTs 3 4) us 44, .own [.a encBool n t.3] 4, .ro (encInt IntKind.i64) q.3, .vec (encTs 3 4) bs 44]))) := by kernel_rfl
set_option maxRecDepth 100000 in
theorem r_bbb {q : InR} {m n : Nat} {ts us bs : List (Bool × Nat)} {s : Mc} {t : Yc} {c : Int} {i : Nat} {k : Int} : (exec (cfgYR q m n ts us bs s t k) 100 bb8b (fr 178 n8f (v8f q n c i)) (sR q m n ts us bs s t)).bind (canonK 15 [(0,0)] 178 n8f) =
 

 (.need (decide ((0 : Int) ≤ (↑i : Int)) && decide ((↑i : Int).toNat < q.3.length))

 (.need (decide ((↑i : Int).toNat < q.3.length))

 (.eq ([SVal.ptr 10 0, .int .i64 (q.3.getD (↑i : Int).toNat (0 : Int))] = [SVal.ptr 10 0, .int .i64 k] ∧ [Blk.ro encLook [PUnit.unit], .own [.c (.sli 2 (.c 0) 1 (.v 2) (some (.v 2))), .c (.int .i64 s.2)] 67, .own [.a (encInt IntKind.u32) 2 s.1] 45, .many encAd s.3 86, .many encTw s.4 78, .own [.c (.ptr 1 0), .c (.sli 6 (.c 0) 1 (.v m) none), .c (.sli 7 (.c 0) 1 (.v m) (some (.v m)))] 70, .vec (encTs 3 4) ts 44, .own [.a encBool m s.5] 4, .own [.c (.sli 9 (.c 0) 1 (.v 2) (some (.v 2))), .c (.int .i64 t.2)] 67, .own [.a (encInt IntKind.u32) 2 t.1] 45, .own [.c (.ptr 8 0), .c (.sli 11 (.c 0) 1 (.v n) none), .c (.sli 12 (.c 0) 1 (.v n) (some (.v n)))] 70, .vec (encTs 3 4) us 44, .own [.a encBool n t.3] 4, .ro (encInt IntKind.i64) q.3, .vec (encTs 3 4) bs 44] = [Blk.ro encLook [PUnit.unit], .own [.c (.sli 2 (.c 0) 1 (.v 2) (some (.v 2))), .c (.int .i64 s.2)] 67, .own [.a (encInt IntKind.u32) 2 s.1] 45, .many encAd s.3 86, .many encTw s.4 78, .own [.c (.ptr 1 0), .c (.sli 6 (.c 0) 1 (.v m) none), .c (.sli 7 (.c 0) 1 (.v m) (some (.v m)))] 70, .vec (encTs 3 4) ts 44, .own [.a encBool m s.5] 4, .own [.c (.sli 9 (.c 0) 1 (.v 2) (some (.v 2))), .c (.int .i64 t.2)] 67, .own [.a (encInt IntKind.u32) 2 t.1] 45, .own [.c (.ptr 8 0), .c (.sli 11 (.c 0) 1 (.v n) none), .c (.sli 12 (.c 0) 1 (.v n) (some (.v n)))] 70, .vec (encTs 3 4) us 44, .own [.a encBool n t.3] 4, .ro (encInt IntKind.i64) q.3, .vec (encTs 3 4) bs 44] ∧ McOk 2 n us (yMc s t))

 (.br (errP n { l := t.1, c := t.2, ad := s.3, tw := s.4, ds := t.3 } k == (0 : Int))

 (.need (inR .i64 (c + (1 : Int)))

 (.ret (.normal, [.sli 13 (.c 0) 1 (.v q.3.length) (some (.v q.4)), .int .u8 q.5, .ptr 1 0, .ptr 8 0, .sli 14 (.c 0) 1 (.v n) none, .ptr 5 0, .ptr 10 0, .int .i64 (c + (1 : Int)), .int .i64 (↑i : Int)], [.ro encLook [PUnit.unit], .own [.c (.sli 2 (.c 0) 1 (.v 2) (some (.v 2))), .c (.int .i64 s.2)] 67, .own [.a (encInt IntKind.u32) 2 s.1] 45, .many encAd (pickP n us { l := t.1, c := t.2, ad := s.3, tw := s.4, ds := t.3 } k).ad 86, .many encTw (pickP n us { l := t.1, c := t.2, ad := s.3, tw := s.4, ds := t.3 } k).tw 78, .own [.c (.ptr 1 0), .c (.sli 6 (.c 0) 1 (.v m) none), .c (.sli 7 (.c 0) 1 (.v m) (some (.v m)))] 70, .vec (encTs 3 4) ts 44, .own [.a encBool m s.5] 4, .own [.c (.sli 9 (.c 0) 1 (.v 2) (some (.v 2))), .c (.int .i64 (pickP n us { l := t.1, c := t.2, ad := s.3, tw := s.4, ds := t.3 } k).c)] 67, .own [.a (encInt IntKind.u32) 2 (pickP n us { l := t.1, c := t.2, ad := s.3, tw := s.4, ds := t.3 } k).l] 45, .own [.c (.ptr 8 0), .c (.sli 11 (.c 0) 1 (.v n) none), .c (.sli 12 (.c 0) 1 (.v n) (some (.v n)))] 70, .vec (encTs 3 4) us 44, .own [.a encBool n (pickP n us { l := t.1, c := t.2, ad := s.3, tw := s.4, ds := t.3 } k).ds] 4, .ro (encInt IntKind.i64) q.3, .vec (encTs 3 4) bs 44])))

 (.ret (.normal, [.sli 13 (.c 0) 1 (.v q.3.length) (some (.v q.4)), .int .u8 q.5, .ptr 1 0, .ptr 8 0, .sli 14 (.c 0) 1 (.v n) none, .ptr 5 0, .ptr 10 0, .int .i64 c, .int .i64 (↑i : Int)], [.ro encLook [PUnit.unit], .own [.c (.sli 2 (.c 0) 1 (.v 2) (some (.v 2))), .c (.int .i64 s.2)] 67, .own [.a (encInt IntKind.u32) 2 s.1] 45, .many encAd (pickP n us { l := t.1, c := t.2, ad := s.3, tw := s.4, ds := t.3 } k).ad 86, .many encTw (pickP n us { l := t.1, c := t.2, ad := s.3, tw := s.4, ds := t.3 } k).tw 78, .own [.c (.ptr 1 0), .c (.sli 6 (.c 0) 1 (.v m) none), .c (.sli 7 (.c 0) 1 (.v m) (some (.v m)))] 70, .vec (encTs 3 4) ts 44, .own [.a encBool m s.5] 4, .own [.c (.sli 9 (.c 0) 1 (.v 2) (some (.v 2))), .c (.int .i64 (pickP n us { l := t.1, c := t.2, ad := s.3, tw := s.4, ds := t.3 } k).c)] 67, .own [.a (encInt IntKind.u32) 2 (pickP n us { l := t.1, c := t.2, ad := s.3, tw := s.4, ds := t.3 } k).l] 45, .own [.c (.ptr 8 0), .c (.sli 11 (.c 0) 1 (.v n) none), .c (.sli 12 (.c 0) 1 (.v n) (some (.v n)))] 70, .vec (encTs 3 4) us 44, .own [.a encBool n (pickP n us { l := t.1, c := t.2, ad := s.3, tw := s.4, ds := t.3 } k).ds] 4, .ro (encInt IntKind.i64) q.3, .vec (encTs 3 4) bs 44])))))) := by kernel_rfl
set_option maxRecDepth 100000 in
theorem r_incb {q : InR} {m n : Nat} {ts us bs : List (Bool × Nat)} {s : Mc} {t : Yc} {c : Int} {i : Nat} : (exec cfgM 100 inc8b (fr 178 n8f (v8f q n c i)) (sR q m n ts us bs s t)).bind (canonK 15 [(0,0)] 178 n8f) =
 

 (.need (inR .i64 ((↑i : Int) + (1 : Int)))

 (.ret (.normal, [.sli 13 (.c 0) 1 (.v q.3.length) (some (.v q.4)), .int .u8 q.5, .ptr 1 0, .ptr 8 0, .sli 14 (.c 0) 1 (.v n) none, .ptr 5 0, .ptr 10 0, .int .i64 c, .int .i64 ((↑i : Int) + (1 : Int))], [.ro encLook [PUnit.unit], .own [.c (.sli 2 (.c 0) 1 (.v 2) (some (.v 2))), .c (.int .i64 s.2)] 67, .own [.a (encInt IntKind.u32) 2 s.1] 45, .many encAd s.3 86, .many encTw s.4 78, .own [.c (.ptr 1 0), .c (.sli 6 (.c 0) 1 (.v m) none), .c (.sli 7 (.c 0) 1 (.v m) (some (.v m)))] 70, .vec (encTs 3 4) ts 44, .own [.a encBool m s.5] 4, .own [.c (.sli 9 (.c 0) 1 (.v 2) (some (.v 2))), .c (.int .i64 t.2)] 67, .own [.a (encInt IntKind.u32) 2 t.1] 45, .own [.c (.ptr 8 0), .c (.sli 11 (.c 0) 1 (.v n) none), .c (.sli 12 (.c 0) 1 (.v n) (some (.v n)))] 70, .vec (encTs 3 4) us 44, .own [.a encBool n t.3] 4, .ro (encInt IntKind.i64) q.3, .vec (encTs 3 4) bs 44]))) := by kernel_rfl
end Go.Proofs.YtlnigpeoffaemaaDoor

/- StepsRuns, plain: two machines of the same tasks go together; neither touches the other's. -/
namespace Go.Proofs.YtlnigpeoffaemaaDoor
open Go Go.Proofs.YtlnigpeoffaemaaDoor.Sx
set_option linter.unusedVariables false
structure VEq (m : Nat) (ts : List (Bool × Nat)) (s : Mc) (us : List (Bool × Nat)) (r : Mc) : Prop where
  l : s.l = r.l
  ds : s.ds = r.ds
  tk : ∀ j, j < m → tkV s (tsAt ts j) = tkV r (tsAt us j)
theorem veq_err {m : Nat} {ts us : List (Bool × Nat)} {s r : Mc} (h : VEq m ts s us r) (k : Int) : errP m s k = errP m r k := by
  unfold errP; rw [h.ds]
theorem veq_pick {n m : Nat} {ts us : List (Bool × Nat)} {s r : Mc} (hs : McOk n m ts s) (hr : McOk n m us r) (h : VEq m ts s us r) (k : Int) : VEq m ts (pickP m ts s k) us (pickP m us r k) := by
  by_cases hc : inP k m = false ∨ s.ds.getD k.toNat false = true
  · rw [pick_same hc, pick_same (by rw [← h.ds]; exact hc)]; exact h
  · have hb : inP k m = true := by
      cases hq : inP k m with
      | true => rfl
      | false => exact absurd (.inl hq) hc
    have hd : s.ds.getD k.toNat false = false := by
      cases hq : s.ds.getD k.toNat false with
      | false => rfl
      | true => exact absurd (.inr hq) hc
    have hk := (inP_iff _ _).1 hb
    have hV := pick_view hs hb hd
    have hW := pick_view hr hb (by rw [← h.ds]; exact hd)
    have he := h.tk k.toNat (by omega)
    refine ⟨by rw [hV.l, hW.l, he, h.l], by rw [hV.ds, hW.ds, he, h.l, h.ds], fun j hj => ?_⟩
    by_cases hjk : j = k.toNat
    · subst hjk; rw [hV.own, hW.own, he, h.l]
    · rw [hV.keep j hj hjk, hW.keep j hj hjk]; exact h.tk j hj
theorem veq_run {n m : Nat} {ts us : List (Bool × Nat)} : ∀ {L : List Int} {s r : Mc}, McOk n m ts s → McOk n m us r → VEq m ts s us r → VEq m ts (runP m ts s L) us (runP m us r L) ∧ runN m ts s L = runN m us r L
  | [], _, _, _, _, h => ⟨h, rfl⟩
  | k :: L, s, r, hs, hr, h => by
    have ih := veq_run (L := L) (ok_pick hs k) (ok_pick hr k) (veq_pick hs hr h k)
    exact ⟨ih.1, by simp only [runN]; rw [ih.2, veq_err h]⟩
theorem veq_pass {n m : Nat} {ts us : List (Bool × Nat)} {s r : Mc} (hs : McOk n m ts s) (hr : McOk n m us r) (h : VEq m ts s us r) : ∀ k, VEq m ts (passP m ts s k) us (passP m us r k)
  | 0 => h
  | k + 1 => veq_pick (ok_pass hs k) (ok_pass hr k) (veq_pass hs hr h k) _
theorem veq_end {n m : Nat} {ts us : List (Bool × Nat)} : ∀ {f : Nat} {s r : Mc}, McOk n m ts s → McOk n m us r → VEq m ts s us r → VEq m ts (endP m ts s f) us (endP m us r f) ∧ stopP m ts s f = stopP m us r f
  | 0, _, _, _, _, h => ⟨h, rfl⟩
  | f + 1, s, r, hs, hr, h => by
    have ih := veq_end (f := f) (ok_pass hs m) (ok_pass hr m) (veq_pass hs hr h m)
    simp only [endP, stopP, ← h.ds]
    split
    · exact ⟨h, rfl⟩
    · exact ⟨ih.1, by rw [ih.2]⟩
/-- tasks that stayed as they were -/
structure Far (m : Nat) (ts : List (Bool × Nat)) (r r' : Mc) : Prop where
  tk : ∀ j, j < m → tkV r' (tsAt ts j) = tkV r (tsAt ts j)
  ok : ∀ j, j < m → tkOk r (tsAt ts j) → tkOk r' (tsAt ts j)
theorem Far.refl (m : Nat) (ts : List (Bool × Nat)) (r : Mc) : Far m ts r r := ⟨fun _ _ => rfl, fun _ _ h => h⟩
theorem Far.trans {m : Nat} {ts : List (Bool × Nat)} {r r' r'' : Mc} (h : Far m ts r r') (h' : Far m ts r' r'') : Far m ts r r'' :=
  ⟨fun j hj => (h'.tk j hj).trans (h.tk j hj), fun j hj k => h'.ok j hj (h.ok j hj k)⟩
abbrev Apart (m : Nat) (ts us : List (Bool × Nat)) : Prop := ∀ i j, i < m → j < m → tsAt ts i ≠ tsAt us j
theorem far_pick {m : Nat} {ts us : List (Bool × Nat)} (ha : Apart m ts us) (r : Mc) (k : Int) : Far m ts r (pickP m us r k) := by
  by_cases hin : 0 ≤ k ∧ k < (m : Int)
  · exact ⟨fun j hj => (pick_far k (ha j k.toNat hj (by omega))).1, fun j hj => (pick_far k (ha j k.toNat hj (by omega))).2⟩
  · rw [pick_same (.inl (inP_no hin))]; exact Far.refl _ _ _
theorem far_run {m : Nat} {ts us : List (Bool × Nat)} (ha : Apart m ts us) : ∀ (L : List Int) (r : Mc), Far m ts r (runP m us r L)
  | [], r => Far.refl _ _ _
  | k :: L, r => (far_pick ha r k).trans (far_run ha L _)
theorem far_pass {m : Nat} {ts us : List (Bool × Nat)} (ha : Apart m ts us) (r : Mc) : ∀ k, Far m ts r (passP m us r k)
  | 0 => Far.refl _ _ _
  | k + 1 => (far_pass ha r k).trans (far_pick ha _ _)
theorem far_end {m : Nat} {ts us : List (Bool × Nat)} (ha : Apart m ts us) : ∀ (f : Nat) (r : Mc), Far m ts r (endP m us r f)
  | 0, r => Far.refl _ _ _
  | f + 1, r => by
    simp only [endP]
    split
    · exact Far.refl _ _ _
    · exact (far_pass ha r m).trans (far_end ha f _)
theorem apart_swap {m : Nat} {ts us : List (Bool × Nat)} (h : Apart m ts us) : Apart m us ts := fun i j hi hj e => h j i hj hi e.symm
/-- a machine whose tasks stayed as they were -/
theorem ok_far {n m : Nat} {ts : List (Bool × Nat)} {s r : Mc} (hs : McOk n m ts s) (h : Far m ts s r) : McOk n m ts (yS s r) :=
  ⟨hs.ll, hs.lt, hs.ld, fun i hi => h.ok i hi (hs.tk i hi), hs.inj⟩
theorem veq_far {m : Nat} {ts us : List (Bool × Nat)} {s r r' : Mc} (h : VEq m ts s us r) (hf : Far m ts s r') : VEq m ts (yS s r') us r :=
  ⟨h.l, h.ds, fun j hj => (hf.tk j hj).trans (h.tk j hj)⟩
theorem veq_symm {m : Nat} {ts us : List (Bool × Nat)} {s r : Mc} (h : VEq m ts s us r) : VEq m us r ts s := ⟨h.l.symm, h.ds.symm, fun j hj => (h.tk j hj).symm⟩
theorem ok_end {n m : Nat} {ts : List (Bool × Nat)} : ∀ {f : Nat} {s : Mc}, McOk n m ts s → McOk n m ts (endP m ts s f)
  | 0, _, h => h
  | f + 1, _, h => by
    simp only [endP]
    split
    · exact h
    · exact ok_end (ok_pass h m)
end Go.Proofs.YtlnigpeoffaemaaDoor

/- StepsRuns: the picks, one by one. -/
namespace Go.Proofs.YtlnigpeoffaemaaDoor
open Go Go.Proofs.YtlnigpeoffaemaaDoor.Sx
set_option linter.unusedVariables false
def InvB (w0 : From) (q : InR) (m : Nat) (ts us : List (Bool × Nat)) (s0 r0 : Mc) (i : Nat) (a : Act) (w : World) : Prop :=
  i ≤ q.picks.length ∧ ∃ env, At [(0, 0)] w0 env (fr 178 n8f (v8f q m (runN m us r0 (q.picks.take i)) i)) (sR q m m ts us us (yS s0 (runP m us r0 (q.picks.take i))) (yT (runP m us r0 (q.picks.take i)))) a w
abbrev RB (w0 : From) (q : InR) (m : Nat) (ts us : List (Bool × Nat)) (s0 r0 : Mc) (i : Nat) : Exit → Act → World → Prop :=
  Exit.then (fun a' w' => ∃ k, InvB w0 q m ts us s0 r0 k a' w' ∧ q.picks.length - k < q.picks.length - i) (Exit.inBlock 2 (Exit.then (g8.wp Tryd.prog (Q8 w0)) (Q8 w0)))
set_option maxHeartbeats 1000000 in
theorem roundB_ok {w0 : From} {q : InR} (hq : q.picks.length ≤ 200) {m : Nat} {ts us : List (Bool × Nat)} {s0 r0 : Mc} (hr0 : McOk 2 m us r0)
    (hd : ∀ {env : Env} {a : Act} {w : World}, At [(0, 0)] w0 env (fr 178 n8f (v8f q m (runN m us r0 q.picks) q.picks.length)) (sR q m m ts us us (yS s0 (runP m us r0 q.picks)) (yT (runP m us r0 q.picks))) a w → g8.wp Tryd.prog (Q8 w0) a w)
    {i : Nat} {a : Act} {w : World} (h : InvB w0 q m ts us s0 r0 i a w) : round8b.wp Tryd.prog (RB w0 q m ts us s0 r0 i) a w := by
  obtain ⟨hi, env, hA⟩ := h
  have hok : McOk 2 m us (runP m us r0 (q.picks.take i)) := ok_run hr0
  have hle := runN_le (m := m) (ts := us) (l := q.picks.take i) (s := r0)
  have hlt : (q.picks.take i).length ≤ i := by simp; omega
  refine wpS (by kernel_rfl) ?_
  refine pieceT0 (c := cfgM) cfgM_ok n8f r_tmb hA ?_
  refine all_brp (by simp only [decide_eq_true_eq]; exact Iff.rfl) (fun h1 => all_ret fun env1 a1 w1 hA1 => ?_) (fun h1 => all_ret fun env1 a1 w1 hA1 => ?_)
  · simp only [Ex.to, Exit.then]
    have hi' : i < q.picks.length := by omega
    have hN := runN_snoc (m := m) (ts := us) (k := q.picks.getD i 0) (l := q.picks.take i) (s := r0)
    have hP := runP_snoc (m := m) (ts := us) (k := q.picks.getD i 0) (l := q.picks.take i) (s := r0)
    rw [← take_succ' hi'] at hN hP
    refine (show (rgt round8b).wp Tryd.prog (RB w0 q m ts us s0 r0 i) a1 w1 from wpS (by kernel_rfl) (wpB 3 (by kernel_rfl) ?_))
    refine (show bb8b.wp Tryd.prog (Exit.inBlock 3 (Exit.then (inc8b.wp Tryd.prog (RB w0 q m ts us s0 r0 i)) (RB w0 q m ts us s0 r0 i))) a1 w1 from ?_)
    refine pieceT0 (c := cfgYR q m m ts us us (yS s0 (runP m us r0 (q.picks.take i))) (yT (runP m us r0 (q.picks.take i))) (q.picks.getD i 0)) cfgYR_ok n8f r_bbb hA1 ?_
    simp only [Int.toNat_natCast]
    refine all_needq (by simp only [decide_eq_true_eq, Bool.and_eq_true]; exact Iff.rfl) (by omega) ?_
    refine all_needq (by simp only [decide_eq_true_eq]; exact Iff.rfl) (by omega) ?_
    refine all_eq ⟨by first | exact True.intro | rfl, by first | exact True.intro | rfl, hok⟩ ?_
    have nx : ∀ {c' : Int}, runN m us r0 (q.picks.take (i + 1)) = c' → ∀ {env' a' w''}, At [(0, 0)] w0 env' (fr 178 n8f (v8f q m c' i)) (sR q m m ts us us (yS s0 (pickP m us (runP m us r0 (q.picks.take i)) (q.picks.getD i 0))) (yT (pickP m us (runP m us r0 (q.picks.take i)) (q.picks.getD i 0)))) a' w'' →
        Exit.inBlock 3 (Exit.then (inc8b.wp Tryd.prog (RB w0 q m ts us s0 r0 i)) (RB w0 q m ts us s0 r0 i)) .normal a' w'' := by
      intro c' hc env' a' w'' h
      subst hc
      rw [← hP] at h
      simp only [Exit.inBlock, Exit.then]
      refine pieceT0 (c := cfgM) cfgM_ok n8f r_incb h ?_
      refine all_needp (by simp only [inR_i64]; exact Iff.rfl) (by omega) fun _ => all_ret fun env' a' w' hA9 => ?_
      exact ⟨i + 1, ⟨by omega, env', hA9⟩, by omega⟩
    refine all_brp (by simp only [beq_iff_eq]; exact Iff.rfl) (fun hb => ?_) (fun hb => ?_)
    · have hb' : errP m (runP m us r0 (q.picks.take i)) (q.picks.getD i 0) = 0 := hb
      rw [if_pos hb'] at hN
      refine all_needq (by simp only [inR_i64]; exact Iff.rfl) (by omega) ?_
      exact all_ret fun _ _ _ h => nx hN h
    · have hb' : ¬ errP m (runP m us r0 (q.picks.take i)) (q.picks.getD i 0) = 0 := hb
      rw [if_neg hb'] at hN
      exact all_ret fun _ _ _ h => nx (by omega) h
  · have : i = q.picks.length := by omega
    subst this
    simp only [Ex.to, Exit.then, Exit.inBlock, if_true]
    rw [List.take_of_length_le (Nat.le_refl _)] at hA1
    exact hd hA1
end Go.Proofs.YtlnigpeoffaemaaDoor

/- StepsRuns: a run on the first machine, both machines there; two rows of the same words. -/
namespace Go.Proofs.YtlnigpeoffaemaaDoor
open Go Go.Proofs.YtlnigpeoffaemaaDoor.Sx
set_option linter.unusedVariables false
abbrev idR : List Nat := [0, 1, 2, 3, 4, 5, 6, 7, 16, 8, 9, 10, 11, 12, 13, 14, 15]
abbrev ivR : List Nat := [0, 1, 2, 3, 4, 5, 6, 7, 9, 10, 11, 12, 13, 14, 15, 16, 8]
abbrev restV (q : InR) (n : Nat) (us bs : List (Bool × Nat)) (t : Yc) : St := [.own [.c (.sli 10 (.c 0) 1 (.v 2) (some (.v 2))), .c (.int .i64 t.c)] 67, .own [.a (encInt .u32) 2 t.l] 45,
    .own [.c (.ptr 9 0), .c (.sli 12 (.c 0) 1 (.v n) none), .c (.sli 13 (.c 0) 1 (.v n) (some (.v n)))] 70, .vec (encTs 3 4) us 44, .own [.a encBool n t.ds] 4,
    .ro (encInt .i64) q.picks, .vec (encTs 3 4) bs 44, .gone]
abbrev sRv (q : InR) (m n : Nat) (ts us bs : List (Bool × Nat)) (s : Mc) (t : Yc) (L : List Int) : St := sR q m n ts us bs s t ++ [.gone, .vec (encInt .i64) L 3]
abbrev sVr (q : InR) (m n : Nat) (ts us bs : List (Bool × Nat)) (s : Mc) (t : Yc) (L : List Int) : St := runSv 2 m ts s L ++ restV q n us bs t
theorem sRv_ren {q : InR} {m n : Nat} {ts us bs : List (Bool × Nat)} {s : Mc} {t : Yc} {L : List Int} : renSt idR (sRv q m n ts us bs s t L) idR = some (sVr q m n ts us bs s t L) := by kernel_rfl
theorem sVr_ren {q : InR} {m n : Nat} {ts us bs : List (Bool × Nat)} {s : Mc} {t : Yc} {L : List Int} : renSt ivR (sVr q m n ts us bs s t L) ivR = some (sRv q m n ts us bs s t L) := by kernel_rfl
theorem eqv_rfl : ∀ S : St, EqvSt S S
  | [] => trivial
  | _ :: S => ⟨.inl rfl, eqv_rfl S⟩
theorem runSv_ren {m : Nat} {ts : List (Bool × Nat)} {s : Mc} {L : List Int} : renSt (List.range 9) (runSv 2 m ts s L) (List.range 9) = some (runSv 2 m ts s L) := by kernel_rfl
theorem runSv_ro {m : Nat} {ts : List (Bool × Nat)} {s s' : Mc} {L : List Int} : roSame (runSv 2 m ts s L) (runSv 2 m ts s' L) :=
  roSame_cons (.inr rfl) (roSame_cons (.inl rfl) (roSame_cons (.inl rfl) (roSame_cons (.inl rfl) (roSame_cons (.inl rfl) (roSame_cons (.inl rfl) (roSame_cons (.inl rfl) (roSame_cons (.inl rfl) (roSame_cons (.inl rfl) roSame_nil))))))))
/-- a run on the first machine -/
theorem run_x {q : InR} {m n : Nat} {ts us bs : List (Bool × Nat)} {s : Mc} {t : Yc} {L : List Int} (hs : McOk 2 m ts s) (hL : L.length ≤ 1000000) (env : Env) (w : World) (vs : List Value) (hg : GlOk cfgM.gl env) (hr : Rep env (sRv q m n ts us bs s t L) w) (hd : DenL env [.ptr 5 0, listW L 16] vs) :
    Calls cfgM.P 25 ⟨vs⟩ w (Ends1 env (sRv q m n ts us bs s t L) w (.int .i64 (runN m ts s L)) (sRv q m n ts us bs (runP m ts s L) t L)) :=
  permCall idR ivR (frame (c := cfgM) (run_callv hs hL) (restV q n us bs t) rfl rfl (gl_lt (by simp)) runSv_ren runSv_ro) rfl rfl rfl rfl rfl (by rfl) sRv_ren (eqv_rfl _) sVr_ren (eqv_rfl _) rfl rfl env w vs hg hr hd
end Go.Proofs.YtlnigpeoffaemaaDoor

/- StepsRuns: two rows of the same words are the same; what the last regions call. -/
namespace Go.Proofs.YtlnigpeoffaemaaDoor
open Go Go.Proofs.YtlnigpeoffaemaaDoor.Sx
set_option linter.unusedVariables false
theorem b17_eq : Tryd.f17.body = some b17 := by kernel_rfl
set_option maxHeartbeats 1000000 in
theorem same17 {q : InR} {m n : Nat} {ts us bs : List (Bool × Nat)} {s : Mc} {t : Yc} {l l' : List Int} (hl : l = l') : ∀ (env : Env) (w : World) (vs : List Value), GlOk cfgM.gl env → Rep env (S17 q m n ts us bs s t l l') w → DenL env v17 vs →
    Calls cfgM.P 17 ⟨vs⟩ w (Ends1 env (S17 q m n ts us bs s t l l') w (.bl true) (S17 q m n ts us bs s t l l')) := by
  subst hl
  intro env w vs hg hr hd
  have hb0 : env.length = 17 := hr.len
  refine AtK.begin (c := cfgM) Tryd.func17 b17_eq hg hr hd fun a0 hA => ?_
  refine pieceNTK2 (c := cfgM) cfgM_ok 2 [0, 1, 4] q_pre (by omega) (by simp) hA ?_
  refine all_br (fun h => by cases h) (fun _ => ?_)
  refine all_ret fun env1 a1 w1 hA1 => ?_
  simp only [Ex.to, Exit.then]
  have hA2 : AtK env [(0, 0)] ⟨w, inFoot env (S17 q m n ts us bs s t l l)⟩ env1 (fr 26 [0, 1] v17) (S17 q m n ts us bs s t l l) a1 w1 := hA1.on fun h => At.few (names := [0, 1]) (extra := [4]) (vals := v17) (ev := [.bl false]) h rfl
  refine wpS (by kernel_rfl) (wpS (by kernel_rfl) ?_)
  refine pieceTK2 (c := cfgM) cfgM_ok [0, 1, 5] q_reg (by omega) (by simp) hA2 ?_
  refine all_ret fun env3 a3 w3 hA3 => ?_
  simp only [Ex.to, Exit.then]
  have hA4 := hA3.on fun h => h.gvals (v17 ++ [.int .i64 ((0 : Nat) : Int)]) rfl
  refine wpB 0 (by kernel_rfl) (wpL (by kernel_rfl) (fun (i : Nat) a' w' => i ≤ 2 ∧ ∃ env', AtK env [(0, 0)] ⟨w, inFoot env (S17 q m n ts us bs s t l l)⟩ env' (fr 26 [0, 1, 5] (v17 ++ [SVal.int IntKind.i64 ((i : Nat) : Int)])) (S17 q m n ts us bs s t l l) a' w') (fun (i : Nat) => 2 - i) (0 : Nat) ⟨Nat.zero_le _, env3, hA4⟩ ?_)
  rintro i a' w' ⟨hi, env', hA⟩
  refine (show round17.wp _ _ _ _ from wpS (by kernel_rfl) ?_)
  refine pieceTK2 (c := cfgM) cfgM_ok [0, 1, 5] q_tm (by omega) (by simp) hA ?_
  refine all_brp (by simp only [decide_eq_true_eq]; exact Iff.rfl) (fun h1 => all_ret fun env1 a1 w1 hA1 => ?_) (fun h1 => all_ret fun env1 a1 w1 hA1 => ?_)
  · simp only [Ex.to, Exit.then]
    have hi' : i < 2 := by omega
    refine (show (rgt round17).wp _ _ _ _ from wpS (by kernel_rfl) (wpB 1 (by kernel_rfl) ?_))
    refine (show bb17.wp _ _ _ _ from ?_)
    refine pieceTK2 (c := cfgM) cfgM_ok [0, 1, 5, 4] q_bb (by omega) (by simp) hA1 ?_
    simp only [Int.toNat_natCast]
    repeat' (first
      | refine all_needq (by simp only [decide_eq_true_eq, Bool.and_eq_true]; exact Iff.rfl) (by omega) ?_
      | refine all_brp (by simp only [bne_iff_ne, ne_eq]; exact Iff.rfl) (fun h => by exfalso; first | exact h rfl | exact h trivial | (apply h; omega)) (fun _ => ?_))
    refine all_ret fun env2 a2 w2 hA2 => ?_
    simp only [Ex.to, Exit.inBlock, Exit.then]
    have hA3 : AtK env [(0, 0)] ⟨w, inFoot env (S17 q m n ts us bs s t l l)⟩ env2 (fr 26 [0, 1, 5] (v17 ++ [.int .i64 (i : Nat)])) (S17 q m n ts us bs s t l l) a2 w2 := hA2.on fun h => At.few (names := [0, 1, 5]) (extra := [4]) (vals := v17 ++ [.int .i64 (i : Nat)]) (ev := [.bad]) h rfl
    refine (show inc17.wp _ _ _ _ from ?_)
    refine pieceTK2 (c := cfgM) cfgM_ok [0, 1, 5] q_inc (by omega) (by simp) hA3 ?_
    refine all_needp (by simp only [inR_i64]; exact Iff.rfl) (by omega) fun _ => all_ret fun env4 a4 w4 hA4 => ?_
    exact ⟨i + 1, ⟨by omega, env4, hA4⟩, by omega⟩
  · simp only [Ex.to, Exit.then, Exit.inBlock, if_true]
    refine (show end17.wp _ _ _ _ from ?_)
    refine pieceTK2 (c := cfgM) cfgM_ok [4] q_end (by omega) (by simp) hA1 ?_
    exact all_ret fun env4 a4 w4 hA4 => hA4.out (c := cfgM) (by kernel_rfl)
abbrev id17 : List Nat := [0, 1, 2, 3, 4, 5, 6, 7, 8, 9, 10, 11, 12, 13, 14, 17, 18, 15, 16]
abbrev S23 (q : InR) (m n : Nat) (ts us bs : List (Bool × Nat)) (s : Mc) (t : Yc) (L l l' : List Int) : St := sRv q m n ts us bs s t L ++ [.own [.a (encInt .u32) 2 l] 45, .own [.a (encInt .u32) 2 l'] 45]
abbrev v23 : List SVal := [.sli 17 (.c 0) 1 (.v 2) (some (.v 2)), .sli 18 (.c 0) 1 (.v 2) (some (.v 2))]
abbrev S23' (q : InR) (m n : Nat) (ts us bs : List (Bool × Nat)) (s : Mc) (t : Yc) (L l l' : List Int) : St := S17 q m n ts us bs s t l l' ++ [.gone, .vec (encInt .i64) L 3]
theorem S23_ren {q : InR} {m n : Nat} {ts us bs : List (Bool × Nat)} {s : Mc} {t : Yc} {L l l' : List Int} : renSt id17 (S23 q m n ts us bs s t L l l') id17 = some (S23' q m n ts us bs s t L l l') := by kernel_rfl
theorem S23_ren' {q : InR} {m n : Nat} {ts us bs : List (Bool × Nat)} {s : Mc} {t : Yc} {L l l' : List Int} : renSt id17 (S23' q m n ts us bs s t L l l') id17 = some (S23 q m n ts us bs s t L l l') := by kernel_rfl
theorem S17_ren {q : InR} {m n : Nat} {ts us bs : List (Bool × Nat)} {s : Mc} {t : Yc} {l l' : List Int} : renSt (List.range 17) (S17 q m n ts us bs s t l l') (List.range 17) = some (S17 q m n ts us bs s t l l') := by kernel_rfl
theorem roSame_refl (S : St) : roSame S S := fun _ _ h => .inr h
theorem same23 {q : InR} {m n : Nat} {ts us bs : List (Bool × Nat)} {s : Mc} {t : Yc} {L l l' : List Int} (hl : l = l') (env : Env) (w : World) (vs : List Value) (hg : GlOk cfgM.gl env) (hr : Rep env (S23 q m n ts us bs s t L l l') w) (hd : DenL env v23 vs) :
    Calls cfgM.P 17 ⟨vs⟩ w (Ends1 env (S23 q m n ts us bs s t L l l') w (.bl true) (S23 q m n ts us bs s t L l l')) :=
  permCall id17 id17 (frame (c := cfgM) (same17 hl) [.gone, .vec (encInt .i64) L 3] rfl rfl (gl_lt (by simp)) S17_ren (roSame_refl _)) rfl rfl rfl rfl rfl (by rfl) S23_ren EqvSt.rfl' S23_ren' EqvSt.rfl' rfl rfl env w vs hg hr hd
/-- a run, and whether the words are the same -/
noncomputable def cfg23 (q : InR) (m n : Nat) (ts us bs : List (Bool × Nat)) (s : Mc) (t : Yc) (L : List Int) : Cfg := { P := Tryd.prog, ex := exI, gl := [(0, 0)], sm := fun f => match f with
  | 25 => some (smEq [.ptr 5 0, listW L 16] (sRv q m n ts us bs s t L) (McOk 2 m ts s ∧ L.length ≤ 1000000) (.int .i64 (runN m ts s L)) (sRv q m n ts us bs (runP m ts s L) t L))
  | 17 => some (smEq v23 (S23 q m n ts us bs (runP m ts s L) t L (runP m ts s L).l t.l) ((runP m ts s L).l = t.l) (.bl true) (S23 q m n ts us bs (runP m ts s L) t L (runP m ts s L).l t.l))
  | _ => none }
theorem cfg23_ok {q : InR} {m n : Nat} {ts us bs : List (Bool × Nat)} {s : Mc} {t : Yc} {L : List Int} : SmOk (cfg23 q m n ts us bs s t L) := by
  intro f g h
  simp only [cfg23] at h
  split at h
  · simp only [Option.some.injEq] at h; subst h
    exact smEq_ok (c := cfg23 q m n ts us bs s t L) fun h => run_x h.1 h.2
  · simp only [Option.some.injEq] at h; subst h
    exact smEq_ok (c := cfg23 q m n ts us bs s t L) fun h => same23 h
  · cases h
def isLit : List SVal → Bool
  | [_, .lit _ _] => true
  | _ => false
def isX : List SVal → Bool
  | [.ptr 5 0] => true
  | _ => false
/-- what the end calls: rounds, how many are left, whether the words are the same -/
noncomputable def cfg32 (q : InR) (m n : Nat) (ts us bs : List (Bool × Nat)) (s s2 : Mc) (t : Yc) : Cfg := { P := Tryd.prog, ex := exI, gl := [(0, 0)], sm := fun f => match f with
  | 21 => some (smSel isLit (smPre 8 (gRound 2 m ts s2)) (smPre 8 (gRound 2 m ts s)))
  | 19 => some (smSel isX (smPre 8 (gLeft 2 m ts s2)) (smEq [.ptr 10 0] (sR q m n ts us bs s2 t) (t.ds.length = n ∧ n ≤ 1000) (.int .i64 (leftP t.ds)) (sR q m n ts us bs s2 t)))
  | 17 => some (smEq v17 (S17 q m n ts us bs s2 t s2.l t.l) (s2.l = t.l) (.bl true) (S17 q m n ts us bs s2 t s2.l t.l))
  | _ => none }
theorem cfg32_ok {q : InR} {m n : Nat} {ts us bs : List (Bool × Nat)} {s s2 : Mc} {t : Yc} : SmOk (cfg32 q m n ts us bs s s2 t) := by
  intro f g h
  simp only [cfg32] at h
  split at h
  · simp only [Option.some.injEq] at h; subst h
    intro args st s0 st' env w vs hat hg hr hd
    unfold smSel at hat
    cases hb : isLit args with
    | true => rw [hb] at hat; exact smPre_ok (c := cfgM) (gl_lt (by omega)) gRound_ok args st s0 st' env w vs hat hg hr hd
    | false => rw [hb] at hat; exact smPre_ok (c := cfgM) (gl_lt (by omega)) gRound_ok args st s0 st' env w vs hat hg hr hd
  · simp only [Option.some.injEq] at h; subst h
    intro args st s0 st' env w vs hat hg hr hd
    unfold smSel at hat
    cases hb : isX args with
    | true => rw [hb] at hat; exact smPre_ok (c := cfgM) (gl_lt (by omega)) gLeft_ok args st s0 st' env w vs hat hg hr hd
    | false => rw [hb] at hat; exact smEq_ok (c := cfg32 q m n ts us bs s s2 t) (fun h => leftR_y h.1 h.2) args st s0 st' env w vs hat hg hr hd
  · simp only [Option.some.injEq] at h; subst h
    exact smEq_ok (c := cfg32 q m n ts us bs s s2 t) fun h => same17 h
  · cases h
abbrev n8h : List Nat := [2, 7, 9, 12, 18, 19, 22]
abbrev n8i : List Nat := [2, 7, 9, 12, 18, 19, 22, 23]
abbrev v8h (q : InR) (n : Nat) (r : Nat) : List SVal := [.int .u8 q.most, .ptr 1 0, .ptr 8 0, .sli 14 (.c 0) 1 (.v n) none, .ptr 5 0, .ptr 10 0, .int .i64 (r : Nat)]
abbrev v8j (q : InR) (n r j : Nat) : List SVal := v8h q n r ++ [.int .i64 (j : Nat)]
end Go.Proofs.YtlnigpeoffaemaaDoor

namespace Go.Proofs.YtlnigpeoffaemaaDoor
open Go Go.Proofs.YtlnigpeoffaemaaDoor.Sx
set_option linter.unusedVariables false
set_option maxRecDepth 100000 in
theorem r_23 {q : InR} {m n : Nat} {ts us bs : List (Bool × Nat)} {s : Mc} {t : Yc} {c : Int} {i : Nat} : (execN (cfg23 q m n ts us bs s t (List.take q.picks.length (List.drop 0 q.picks))) 100 1 g8 (fr 178 n8f (v8f q n c i)) (sR q m n ts us bs s t)).bind (canonK 15 [(0,0)] 178 [2, 7, 9, 12, 18, 19]) =
 

 (.need (decide (0 + q.3.length ≤ q.3.length))

 (.need (decide (0 + q.3.length ≤ q.3.length))

 (.need (roomy (List.take q.3.length (List.drop 0 q.3)).length 8)

 (.eq ([SVal.ptr 5 0, .sli 16 (.c 0) 1 (.v (List.take q.3.length (List.drop 0 q.3)).length) none] = [SVal.ptr 5 0, .sli 16 (.c 0) 1 (.v (List.take q.3.length (List.drop 0 q.3)).length) none] ∧ [Blk.ro encLook [PUnit.unit], .own [.c (.sli 2 (.c 0) 1 (.v 2) (some (.v 2))), .c (.int .i64 s.2)] 67, .own [.a (encInt IntKind.u32) 2 s.1] 45, .many encAd s.3 86, .many encTw s.4 78, .own [.c (.ptr 1 0), .c (.sli 6 (.c 0) 1 (.v m) none), .c (.sli 7 (.c 0) 1 (.v m) (some (.v m)))] 70, .vec (encTs 3 4) ts 44, .own [.a encBool m s.5] 4, .own [.c (.sli 9 (.c 0) 1 (.v 2) (some (.v 2))), .c (.int .i64 t.2)] 67, .own [.a (encInt IntKind.u32) 2 t.1] 45, .own [.c (.ptr 8 0), .c (.sli 11 (.c 0) 1 (.v n) none), .c (.sli 12 (.c 0) 1 (.v n) (some (.v n)))] 70, .vec (encTs 3 4) us 44, .own [.a encBool n t.3] 4, .ro (encInt IntKind.i64) q.3, .vec (encTs 3 4) bs 44, .gone, .vec (encInt IntKind.i64) (List.take q.3.length (List.drop 0 q.3)) 3] = [Blk.ro encLook [PUnit.unit], .own [.c (.sli 2 (.c 0) 1 (.v 2) (some (.v 2))), .c (.int .i64 s.2)] 67, .own [.a (encInt IntKind.u32) 2 s.1] 45, .many encAd s.3 86, .many encTw s.4 78, .own [.c (.ptr 1 0), .c (.sli 6 (.c 0) 1 (.v m) none), .c (.sli 7 (.c 0) 1 (.v m) (some (.v m)))] 70, .vec (encTs 3 4) ts 44, .own [.a encBool m s.5] 4, .own [.c (.sli 9 (.c 0) 1 (.v 2) (some (.v 2))), .c (.int .i64 t.2)] 67, .own [.a (encInt IntKind.u32) 2 t.1] 45, .own [.c (.ptr 8 0), .c (.sli 11 (.c 0) 1 (.v n) none), .c (.sli 12 (.c 0) 1 (.v n) (some (.v n)))] 70, .vec (encTs 3 4) us 44, .own [.a encBool n t.3] 4, .ro (encInt IntKind.i64) q.3, .vec (encTs 3 4) bs 44, .gone, .vec (encInt IntKind.i64) (List.take q.3.length (List.drop 0 q.3)) 3] ∧ McOk 2 m ts s ∧ (List.take q.3.length (List.drop 0 q.3)).length ≤ 1000000)

 (.br (runN m ts s (List.take q.picks.length (List.drop 0 q.picks)) != c)

 (.ret (.ret, [.int .u8 q.5, .ptr 1 0, .ptr 8 0, .sli 14 (.c 0) 1 (.v n) none, .ptr 5 0, .ptr 10 0], [.ro encLook [PUnit.unit], .own [.c (.sli 2 (.c 0) 1 (.v 2) (some (.v 2))), .c (.int .i64 (runP m ts s (List.take q.3.length (List.drop 0 q.3))).c)] 67, .own [.a (encInt IntKind.u32) 2 (runP m ts s (List.take q.3.length (List.drop 0 q.3))).l] 45, .many encAd (runP m ts s (List.take q.3.length (List.drop 0 q.3))).ad 86, .many encTw (runP m ts s (List.take q.3.length (List.drop 0 q.3))).tw 78, .own [.c (.ptr 1 0), .c (.sli 6 (.c 0) 1 (.v m) none), .c (.sli 7 (.c 0) 1 (.v m) (some (.v m)))] 70, .vec (encTs 3 4) ts 44, .own [.a encBool m (runP m ts s (List.take q.3.length (List.drop 0 q.3))).ds] 4, .own [.c (.sli 9 (.c 0) 1 (.v 2) (some (.v 2))), .c (.int .i64 t.2)] 67, .own [.a (encInt IntKind.u32) 2 t.1] 45, .own [.c (.ptr 8 0), .c (.sli 11 (.c 0) 1 (.v n) none), .c (.sli 12 (.c 0) 1 (.v n) (some (.v n)))] 70, .vec (encTs 3 4) us 44, .own [.a encBool n t.3] 4, .ro (encInt IntKind.i64) q.3, .vec (encTs 3 4) bs 44]))

 (.need (true)

 (.need (decide ((2 : Int) * (↑4 : Int) ≤ (140737488355328 : Int)))

 (.need (true)

 (.need (decide (2 ≤ (runP m ts s (List.take q.3.length (List.drop 0 q.3))).l.length))

 (.need (decide (2 = (List.take 2 (List.drop 0 (runP m ts s (List.take q.3.length (List.drop 0 q.3))).l)).length))

 (.need (decide (2 = (List.take 2 (List.drop 0 (runP m ts s (List.take q.3.length (List.drop 0 q.3))).l)).length * 1))

 (.need ((List.take 2 (List.drop 0 (runP m ts s (List.take q.3.length (List.drop 0 q.3))).l)).all fun x => ((encInt IntKind.u32).enc x).all scalar)

 (.need (true)

 (.need (decide ((2 : Int) * (↑4 : Int) ≤ (140737488355328 : Int)))

 (.need (true)

 (.need (decide (2 ≤ t.1.length))

 (.need (decide (2 = (List.take 2 (List.drop 0 t.1)).length))

 (.need (decide (2 = (List.take 2 (List.drop 0 t.1)).length * 1))

 (.need ((List.take 2 (List.drop 0 t.1)).all fun x => ((encInt IntKind.u32).enc x).all scalar)

 (.eq ([SVal.sli 17 (.c 0) 1 (.v 2) (some (.v 2)), .sli 18 (.c 0) 1 (.v 2) (some (.v 2))] = [SVal.sli 17 (.c 0) 1 (.v 2) (some (.v 2)), .sli 18 (.c 0) 1 (.v 2) (some (.v 2))] ∧ [Blk.ro encLook [PUnit.unit], .own [.c (.sli 2 (.c 0) 1 (.v 2) (some (.v 2))), .c (.int .i64 (runP m ts s (List.take q.3.length (List.drop 0 q.3))).c)] 67, .own [.a (encInt IntKind.u32) 2 (runP m ts s (List.take q.3.length (List.drop 0 q.3))).l] 45, .many encAd (runP m ts s (List.take q.3.length (List.drop 0 q.3))).ad 86, .many encTw (runP m ts s (List.take q.3.length (List.drop 0 q.3))).tw 78, .own [.c (.ptr 1 0), .c (.sli 6 (.c 0) 1 (.v m) none), .c (.sli 7 (.c 0) 1 (.v m) (some (.v m)))] 70, .vec (encTs 3 4) ts 44, .own [.a encBool m (runP m ts s (List.take q.3.length (List.drop 0 q.3))).ds] 4, .own [.c (.sli 9 (.c 0) 1 (.v 2) (some (.v 2))), .c (.int .i64 t.2)] 67, .own [.a (encInt IntKind.u32) 2 t.1] 45, .own [.c (.ptr 8 0), .c (.sli 11 (.c 0) 1 (.v n) none), .c (.sli 12 (.c 0) 1 (.v n) (some (.v n)))] 70, .vec (encTs 3 4) us 44, .own [.a encBool n t.3] 4, .ro (encInt IntKind.i64) q.3, .vec (encTs 3 4) bs 44, .gone, .vec (encInt IntKind.i64) (List.take q.3.length (List.drop 0 q.3)) 3, .own [.a (encInt IntKind.u32) (List.take 2 (List.drop 0 (runP m ts s (List.take q.3.length (List.drop 0 q.3))).l)).length (List.take 2 (List.drop 0 (runP m ts s (List.take q.3.length (List.drop 0 q.3))).l))] 45, .own [.a (encInt IntKind.u32) (List.take 2 (List.drop 0 t.1)).length (List.take 2 (List.drop 0 t.1))] 45] = [Blk.ro encLook [PUnit.unit], .own [.c (.sli 2 (.c 0) 1 (.v 2) (some (.v 2))), .c (.int .i64 (runP m ts s (List.take q.3.length (List.drop 0 q.3))).c)] 67, .own [.a (encInt IntKind.u32) 2 (runP m ts s (List.take q.3.length (List.drop 0 q.3))).l] 45, .many encAd (runP m ts s (List.take q.3.length (List.drop 0 q.3))).ad 86, .many encTw (runP m ts s (List.take q.3.length (List.drop 0 q.3))).tw 78, .own [.c (.ptr 1 0), .c (.sli 6 (.c 0) 1 (.v m) none), .c (.sli 7 (.c 0) 1 (.v m) (some (.v m)))] 70, .vec (encTs 3 4) ts 44, .own [.a encBool m (runP m ts s (List.take q.3.length (List.drop 0 q.3))).ds] 4, .own [.c (.sli 9 (.c 0) 1 (.v 2) (some (.v 2))), .c (.int .i64 t.2)] 67, .own [.a (encInt IntKind.u32) 2 t.1] 45, .own [.c (.ptr 8 0), .c (.sli 11 (.c 0) 1 (.v n) none), .c (.sli 12 (.c 0) 1 (.v n) (some (.v n)))] 70, .vec (encTs 3 4) us 44, .own [.a encBool n t.3] 4, .ro (encInt IntKind.i64) q.3, .vec (encTs 3 4) bs 44, .gone, .vec (encInt IntKind.i64) (List.take q.3.length (List.drop 0 q.3)) 3, .own [.a (encInt IntKind.u32) 2 (runP m ts s (List.take q.3.length (List.drop 0 q.3))).l] 45, .own [.a (encInt IntKind.u32) 2 t.1] 45] ∧ (runP m ts s (List.take q.3.length (List.drop 0 q.3))).l = t.1)

 (.ret (.normal, [.int .u8 q.5, .ptr 1 0, .ptr 8 0, .sli 14 (.c 0) 1 (.v n) none, .ptr 5 0, .ptr 10 0], [.ro encLook [PUnit.unit], .own [.c (.sli 2 (.c 0) 1 (.v 2) (some (.v 2))), .c (.int .i64 (runP m ts s (List.take q.3.length (List.drop 0 q.3))).c)] 67, .own [.a (encInt IntKind.u32) 2 (runP m ts s (List.take q.3.length (List.drop 0 q.3))).l] 45, .many encAd (runP m ts s (List.take q.3.length (List.drop 0 q.3))).ad 86, .many encTw (runP m ts s (List.take q.3.length (List.drop 0 q.3))).tw 78, .own [.c (.ptr 1 0), .c (.sli 6 (.c 0) 1 (.v m) none), .c (.sli 7 (.c 0) 1 (.v m) (some (.v m)))] 70, .vec (encTs 3 4) ts 44, .own [.a encBool m (runP m ts s (List.take q.3.length (List.drop 0 q.3))).ds] 4, .own [.c (.sli 9 (.c 0) 1 (.v 2) (some (.v 2))), .c (.int .i64 t.2)] 67, .own [.a (encInt IntKind.u32) 2 t.1] 45, .own [.c (.ptr 8 0), .c (.sli 11 (.c 0) 1 (.v n) none), .c (.sli 12 (.c 0) 1 (.v n) (some (.v n)))] 70, .vec (encTs 3 4) us 44, .own [.a encBool n t.3] 4, .ro (encInt IntKind.i64) q.3, .vec (encTs 3 4) bs 44])))))))))))))))))))))) := by kernel_rfl
set_option maxRecDepth 100000 in
theorem r_25 {q : InR} {m n : Nat} {ts us bs : List (Bool × Nat)} {s : Mc} {t : Yc} : (execN cfgM 100 1 (restC 1 g8) (fr 178 [2, 7, 9, 12, 18, 19] [.int .u8 q.most, .ptr 1 0, .ptr 8 0, .sli 14 (.c 0) 1 (.v n) none, .ptr 5 0, .ptr 10 0]) (sR q m n ts us bs s t)).bind (canonK 15 [(0,0)] 178 n8h) =
 

 (.ret (.normal, [.int .u8 q.5, .ptr 1 0, .ptr 8 0, .sli 14 (.c 0) 1 (.v n) none, .ptr 5 0, .ptr 10 0, .lit .i64 (0 : Int)], [.ro encLook [PUnit.unit], .own [.c (.sli 2 (.c 0) 1 (.v 2) (some (.v 2))), .c (.int .i64 s.2)] 67, .own [.a (encInt IntKind.u32) 2 s.1] 45, .many encAd s.3 86, .many encTw s.4 78, .own [.c (.ptr 1 0), .c (.sli 6 (.c 0) 1 (.v m) none), .c (.sli 7 (.c 0) 1 (.v m) (some (.v m)))] 70, .vec (encTs 3 4) ts 44, .own [.a encBool m s.5] 4, .own [.c (.sli 9 (.c 0) 1 (.v 2) (some (.v 2))), .c (.int .i64 t.2)] 67, .own [.a (encInt IntKind.u32) 2 t.1] 45, .own [.c (.ptr 8 0), .c (.sli 11 (.c 0) 1 (.v n) none), .c (.sli 12 (.c 0) 1 (.v n) (some (.v n)))] 70, .vec (encTs 3 4) us 44, .own [.a encBool n t.3] 4, .ro (encInt IntKind.i64) q.3, .vec (encTs 3 4) bs 44])) := by kernel_rfl
set_option maxRecDepth 100000 in
theorem r_tmc {q : InR} {m n : Nat} {ts us bs : List (Bool × Nat)} {s : Mc} {t : Yc} {r : Nat} : (exec (cfgYR q m n ts us bs s t 0) 100 tm8c (fr 178 n8h (v8h q n r)) (sR q m n ts us bs s t)).bind (canonK 15 [(0,0)] 178 n8h) =
 

 (.need (inR .i64 q.5)

 (.br (decide ((↑r : Int) < q.5))

 (.eq ([SVal.ptr 10 0] = [SVal.ptr 10 0] ∧ [Blk.ro encLook [PUnit.unit], .own [.c (.sli 2 (.c 0) 1 (.v 2) (some (.v 2))), .c (.int .i64 s.2)] 67, .own [.a (encInt IntKind.u32) 2 s.1] 45, .many encAd s.3 86, .many encTw s.4 78, .own [.c (.ptr 1 0), .c (.sli 6 (.c 0) 1 (.v m) none), .c (.sli 7 (.c 0) 1 (.v m) (some (.v m)))] 70, .vec (encTs 3 4) ts 44, .own [.a encBool m s.5] 4, .own [.c (.sli 9 (.c 0) 1 (.v 2) (some (.v 2))), .c (.int .i64 t.2)] 67, .own [.a (encInt IntKind.u32) 2 t.1] 45, .own [.c (.ptr 8 0), .c (.sli 11 (.c 0) 1 (.v n) none), .c (.sli 12 (.c 0) 1 (.v n) (some (.v n)))] 70, .vec (encTs 3 4) us 44, .own [.a encBool n t.3] 4, .ro (encInt IntKind.i64) q.3, .vec (encTs 3 4) bs 44] = [Blk.ro encLook [PUnit.unit], .own [.c (.sli 2 (.c 0) 1 (.v 2) (some (.v 2))), .c (.int .i64 s.2)] 67, .own [.a (encInt IntKind.u32) 2 s.1] 45, .many encAd s.3 86, .many encTw s.4 78, .own [.c (.ptr 1 0), .c (.sli 6 (.c 0) 1 (.v m) none), .c (.sli 7 (.c 0) 1 (.v m) (some (.v m)))] 70, .vec (encTs 3 4) ts 44, .own [.a encBool m s.5] 4, .own [.c (.sli 9 (.c 0) 1 (.v 2) (some (.v 2))), .c (.int .i64 t.2)] 67, .own [.a (encInt IntKind.u32) 2 t.1] 45, .own [.c (.ptr 8 0), .c (.sli 11 (.c 0) 1 (.v n) none), .c (.sli 12 (.c 0) 1 (.v n) (some (.v n)))] 70, .vec (encTs 3 4) us 44, .own [.a encBool n t.3] 4, .ro (encInt IntKind.i64) q.3, .vec (encTs 3 4) bs 44] ∧ t.3.length = n ∧ n ≤ 1000)

 (.br (decide ((0 : Int) < leftP t.3))

 (.ret (.normal, [.int .u8 q.5, .ptr 1 0, .ptr 8 0, .sli 14 (.c 0) 1 (.v n) none, .ptr 5 0, .ptr 10 0, .int .i64 (↑r : Int)], [.ro encLook [PUnit.unit], .own [.c (.sli 2 (.c 0) 1 (.v 2) (some (.v 2))), .c (.int .i64 s.2)] 67, .own [.a (encInt IntKind.u32) 2 s.1] 45, .many encAd s.3 86, .many encTw s.4 78, .own [.c (.ptr 1 0), .c (.sli 6 (.c 0) 1 (.v m) none), .c (.sli 7 (.c 0) 1 (.v m) (some (.v m)))] 70, .vec (encTs 3 4) ts 44, .own [.a encBool m s.5] 4, .own [.c (.sli 9 (.c 0) 1 (.v 2) (some (.v 2))), .c (.int .i64 t.2)] 67, .own [.a (encInt IntKind.u32) 2 t.1] 45, .own [.c (.ptr 8 0), .c (.sli 11 (.c 0) 1 (.v n) none), .c (.sli 12 (.c 0) 1 (.v n) (some (.v n)))] 70, .vec (encTs 3 4) us 44, .own [.a encBool n t.3] 4, .ro (encInt IntKind.i64) q.3, .vec (encTs 3 4) bs 44]))

 (.ret (.exit 4, [.int .u8 q.5, .ptr 1 0, .ptr 8 0, .sli 14 (.c 0) 1 (.v n) none, .ptr 5 0, .ptr 10 0, .int .i64 (↑r : Int)], [.ro encLook [PUnit.unit], .own [.c (.sli 2 (.c 0) 1 (.v 2) (some (.v 2))), .c (.int .i64 s.2)] 67, .own [.a (encInt IntKind.u32) 2 s.1] 45, .many encAd s.3 86, .many encTw s.4 78, .own [.c (.ptr 1 0), .c (.sli 6 (.c 0) 1 (.v m) none), .c (.sli 7 (.c 0) 1 (.v m) (some (.v m)))] 70, .vec (encTs 3 4) ts 44, .own [.a encBool m s.5] 4, .own [.c (.sli 9 (.c 0) 1 (.v 2) (some (.v 2))), .c (.int .i64 t.2)] 67, .own [.a (encInt IntKind.u32) 2 t.1] 45, .own [.c (.ptr 8 0), .c (.sli 11 (.c 0) 1 (.v n) none), .c (.sli 12 (.c 0) 1 (.v n) (some (.v n)))] 70, .vec (encTs 3 4) us 44, .own [.a encBool n t.3] 4, .ro (encInt IntKind.i64) q.3, .vec (encTs 3 4) bs 44]))))

 (.ret (.exit 4, [.int .u8 q.5, .ptr 1 0, .ptr 8 0, .sli 14 (.c 0) 1 (.v n) none, .ptr 5 0, .ptr 10 0, .int .i64 (↑r : Int)], [.ro encLook [PUnit.unit], .own [.c (.sli 2 (.c 0) 1 (.v 2) (some (.v 2))), .c (.int .i64 s.2)] 67, .own [.a (encInt IntKind.u32) 2 s.1] 45, .many encAd s.3 86, .many encTw s.4 78, .own [.c (.ptr 1 0), .c (.sli 6 (.c 0) 1 (.v m) none), .c (.sli 7 (.c 0) 1 (.v m) (some (.v m)))] 70, .vec (encTs 3 4) ts 44, .own [.a encBool m s.5] 4, .own [.c (.sli 9 (.c 0) 1 (.v 2) (some (.v 2))), .c (.int .i64 t.2)] 67, .own [.a (encInt IntKind.u32) 2 t.1] 45, .own [.c (.ptr 8 0), .c (.sli 11 (.c 0) 1 (.v n) none), .c (.sli 12 (.c 0) 1 (.v n) (some (.v n)))] 70, .vec (encTs 3 4) us 44, .own [.a encBool n t.3] 4, .ro (encInt IntKind.i64) q.3, .vec (encTs 3 4) bs 44])))) := by kernel_rfl
set_option maxRecDepth 100000 in
theorem r_regd {q : InR} {m n : Nat} {ts us bs : List (Bool × Nat)} {s : Mc} {t : Yc} {r : Nat} : (exec cfgM 100 reg8d (fr 178 n8h (v8h q n r)) (sR q m n ts us bs s t)).bind (canonK 15 [(0,0)] 178 n8i) =
 

 (.ret (.normal, [.int .u8 q.5, .ptr 1 0, .ptr 8 0, .sli 14 (.c 0) 1 (.v n) none, .ptr 5 0, .ptr 10 0, .int .i64 (↑r : Int), .lit .i64 (0 : Int)], [.ro encLook [PUnit.unit], .own [.c (.sli 2 (.c 0) 1 (.v 2) (some (.v 2))), .c (.int .i64 s.2)] 67, .own [.a (encInt IntKind.u32) 2 s.1] 45, .many encAd s.3 86, .many encTw s.4 78, .own [.c (.ptr 1 0), .c (.sli 6 (.c 0) 1 (.v m) none), .c (.sli 7 (.c 0) 1 (.v m) (some (.v m)))] 70, .vec (encTs 3 4) ts 44, .own [.a encBool m s.5] 4, .own [.c (.sli 9 (.c 0) 1 (.v 2) (some (.v 2))), .c (.int .i64 t.2)] 67, .own [.a (encInt IntKind.u32) 2 t.1] 45, .own [.c (.ptr 8 0), .c (.sli 11 (.c 0) 1 (.v n) none), .c (.sli 12 (.c 0) 1 (.v n) (some (.v n)))] 70, .vec (encTs 3 4) us 44, .own [.a encBool n t.3] 4, .ro (encInt IntKind.i64) q.3, .vec (encTs 3 4) bs 44])) := by kernel_rfl
set_option maxRecDepth 100000 in
theorem r_tmd {q : InR} {m n : Nat} {ts us bs : List (Bool × Nat)} {s : Mc} {t : Yc} {r j : Nat} : (exec cfgM 100 tm8d (fr 178 n8i (v8j q n r j)) (sR q m n ts us bs s t)).bind (canonK 15 [(0,0)] 178 n8i) =
 

 (.br (decide ((↑j : Int) < (↑n : Int)))

 (.ret (.normal, [.int .u8 q.5, .ptr 1 0, .ptr 8 0, .sli 14 (.c 0) 1 (.v n) none, .ptr 5 0, .ptr 10 0, .int .i64 (↑r : Int), .int .i64 (↑j : Int)], [.ro encLook [PUnit.unit], .own [.c (.sli 2 (.c 0) 1 (.v 2) (some (.v 2))), .c (.int .i64 s.2)] 67, .own [.a (encInt IntKind.u32) 2 s.1] 45, .many encAd s.3 86, .many encTw s.4 78, .own [.c (.ptr 1 0), .c (.sli 6 (.c 0) 1 (.v m) none), .c (.sli 7 (.c 0) 1 (.v m) (some (.v m)))] 70, .vec (encTs 3 4) ts 44, .own [.a encBool m s.5] 4, .own [.c (.sli 9 (.c 0) 1 (.v 2) (some (.v 2))), .c (.int .i64 t.2)] 67, .own [.a (encInt IntKind.u32) 2 t.1] 45, .own [.c (.ptr 8 0), .c (.sli 11 (.c 0) 1 (.v n) none), .c (.sli 12 (.c 0) 1 (.v n) (some (.v n)))] 70, .vec (encTs 3 4) us 44, .own [.a encBool n t.3] 4, .ro (encInt IntKind.i64) q.3, .vec (encTs 3 4) bs 44]))

 (.ret (.exit 6, [.int .u8 q.5, .ptr 1 0, .ptr 8 0, .sli 14 (.c 0) 1 (.v n) none, .ptr 5 0, .ptr 10 0, .int .i64 (↑r : Int), .int .i64 (↑j : Int)], [.ro encLook [PUnit.unit], .own [.c (.sli 2 (.c 0) 1 (.v 2) (some (.v 2))), .c (.int .i64 s.2)] 67, .own [.a (encInt IntKind.u32) 2 s.1] 45, .many encAd s.3 86, .many encTw s.4 78, .own [.c (.ptr 1 0), .c (.sli 6 (.c 0) 1 (.v m) none), .c (.sli 7 (.c 0) 1 (.v m) (some (.v m)))] 70, .vec (encTs 3 4) ts 44, .own [.a encBool m s.5] 4, .own [.c (.sli 9 (.c 0) 1 (.v 2) (some (.v 2))), .c (.int .i64 t.2)] 67, .own [.a (encInt IntKind.u32) 2 t.1] 45, .own [.c (.ptr 8 0), .c (.sli 11 (.c 0) 1 (.v n) none), .c (.sli 12 (.c 0) 1 (.v n) (some (.v n)))] 70, .vec (encTs 3 4) us 44, .own [.a encBool n t.3] 4, .ro (encInt IntKind.i64) q.3, .vec (encTs 3 4) bs 44]))) := by kernel_rfl
set_option maxRecDepth 100000 in
theorem r_bbd {q : InR} {m n : Nat} {ts us bs : List (Bool × Nat)} {s : Mc} {t : Yc} {r j : Nat} : (exec (cfgYR q m n ts us bs s t (j : Nat)) 100 bb8d (fr 178 n8i (v8j q n r j)) (sR q m n ts us bs s t)).bind (canonK 15 [(0,0)] 178 n8i) =
 

 (.eq ([SVal.ptr 10 0, .int .i64 (↑j : Int)] = [SVal.ptr 10 0, .int .i64 (↑j : Int)] ∧ [Blk.ro encLook [PUnit.unit], .own [.c (.sli 2 (.c 0) 1 (.v 2) (some (.v 2))), .c (.int .i64 s.2)] 67, .own [.a (encInt IntKind.u32) 2 s.1] 45, .many encAd s.3 86, .many encTw s.4 78, .own [.c (.ptr 1 0), .c (.sli 6 (.c 0) 1 (.v m) none), .c (.sli 7 (.c 0) 1 (.v m) (some (.v m)))] 70, .vec (encTs 3 4) ts 44, .own [.a encBool m s.5] 4, .own [.c (.sli 9 (.c 0) 1 (.v 2) (some (.v 2))), .c (.int .i64 t.2)] 67, .own [.a (encInt IntKind.u32) 2 t.1] 45, .own [.c (.ptr 8 0), .c (.sli 11 (.c 0) 1 (.v n) none), .c (.sli 12 (.c 0) 1 (.v n) (some (.v n)))] 70, .vec (encTs 3 4) us 44, .own [.a encBool n t.3] 4, .ro (encInt IntKind.i64) q.3, .vec (encTs 3 4) bs 44] = [Blk.ro encLook [PUnit.unit], .own [.c (.sli 2 (.c 0) 1 (.v 2) (some (.v 2))), .c (.int .i64 s.2)] 67, .own [.a (encInt IntKind.u32) 2 s.1] 45, .many encAd s.3 86, .many encTw s.4 78, .own [.c (.ptr 1 0), .c (.sli 6 (.c 0) 1 (.v m) none), .c (.sli 7 (.c 0) 1 (.v m) (some (.v m)))] 70, .vec (encTs 3 4) ts 44, .own [.a encBool m s.5] 4, .own [.c (.sli 9 (.c 0) 1 (.v 2) (some (.v 2))), .c (.int .i64 t.2)] 67, .own [.a (encInt IntKind.u32) 2 t.1] 45, .own [.c (.ptr 8 0), .c (.sli 11 (.c 0) 1 (.v n) none), .c (.sli 12 (.c 0) 1 (.v n) (some (.v n)))] 70, .vec (encTs 3 4) us 44, .own [.a encBool n t.3] 4, .ro (encInt IntKind.i64) q.3, .vec (encTs 3 4) bs 44] ∧ McOk 2 n us (yMc s t))

 (.ret (.normal, [.int .u8 q.5, .ptr 1 0, .ptr 8 0, .sli 14 (.c 0) 1 (.v n) none, .ptr 5 0, .ptr 10 0, .int .i64 (↑r : Int), .int .i64 (↑j : Int)], [.ro encLook [PUnit.unit], .own [.c (.sli 2 (.c 0) 1 (.v 2) (some (.v 2))), .c (.int .i64 s.2)] 67, .own [.a (encInt IntKind.u32) 2 s.1] 45, .many encAd (pickP n us { l := t.1, c := t.2, ad := s.3, tw := s.4, ds := t.3 } (↑j : Int)).ad 86, .many encTw (pickP n us { l := t.1, c := t.2, ad := s.3, tw := s.4, ds := t.3 } (↑j : Int)).tw 78, .own [.c (.ptr 1 0), .c (.sli 6 (.c 0) 1 (.v m) none), .c (.sli 7 (.c 0) 1 (.v m) (some (.v m)))] 70, .vec (encTs 3 4) ts 44, .own [.a encBool m s.5] 4, .own [.c (.sli 9 (.c 0) 1 (.v 2) (some (.v 2))), .c (.int .i64 (pickP n us { l := t.1, c := t.2, ad := s.3, tw := s.4, ds := t.3 } (↑j : Int)).c)] 67, .own [.a (encInt IntKind.u32) 2 (pickP n us { l := t.1, c := t.2, ad := s.3, tw := s.4, ds := t.3 } (↑j : Int)).l] 45, .own [.c (.ptr 8 0), .c (.sli 11 (.c 0) 1 (.v n) none), .c (.sli 12 (.c 0) 1 (.v n) (some (.v n)))] 70, .vec (encTs 3 4) us 44, .own [.a encBool n (pickP n us { l := t.1, c := t.2, ad := s.3, tw := s.4, ds := t.3 } (↑j : Int)).ds] 4, .ro (encInt IntKind.i64) q.3, .vec (encTs 3 4) bs 44]))) := by kernel_rfl
set_option maxRecDepth 100000 in
theorem r_incd {q : InR} {m n : Nat} {ts us bs : List (Bool × Nat)} {s : Mc} {t : Yc} {r j : Nat} : (exec cfgM 100 inc8d (fr 178 n8i (v8j q n r j)) (sR q m n ts us bs s t)).bind (canonK 15 [(0,0)] 178 n8i) =
 

 (.need (inR .i64 ((↑j : Int) + (1 : Int)))

 (.ret (.normal, [.int .u8 q.5, .ptr 1 0, .ptr 8 0, .sli 14 (.c 0) 1 (.v n) none, .ptr 5 0, .ptr 10 0, .int .i64 (↑r : Int), .int .i64 ((↑j : Int) + (1 : Int))], [.ro encLook [PUnit.unit], .own [.c (.sli 2 (.c 0) 1 (.v 2) (some (.v 2))), .c (.int .i64 s.2)] 67, .own [.a (encInt IntKind.u32) 2 s.1] 45, .many encAd s.3 86, .many encTw s.4 78, .own [.c (.ptr 1 0), .c (.sli 6 (.c 0) 1 (.v m) none), .c (.sli 7 (.c 0) 1 (.v m) (some (.v m)))] 70, .vec (encTs 3 4) ts 44, .own [.a encBool m s.5] 4, .own [.c (.sli 9 (.c 0) 1 (.v 2) (some (.v 2))), .c (.int .i64 t.2)] 67, .own [.a (encInt IntKind.u32) 2 t.1] 45, .own [.c (.ptr 8 0), .c (.sli 11 (.c 0) 1 (.v n) none), .c (.sli 12 (.c 0) 1 (.v n) (some (.v n)))] 70, .vec (encTs 3 4) us 44, .own [.a encBool n t.3] 4, .ro (encInt IntKind.i64) q.3, .vec (encTs 3 4) bs 44]))) := by kernel_rfl
set_option maxRecDepth 100000 in
theorem r_incc {q : InR} {m n : Nat} {ts us bs : List (Bool × Nat)} {s : Mc} {t : Yc} {r j : Nat} : (exec cfgM 100 inc8c (fr 178 n8i (v8j q n r j)) (sR q m n ts us bs s t)).bind (canonK 15 [(0,0)] 178 n8h) =
 

 (.need (inR .i64 ((↑r : Int) + (1 : Int)))

 (.ret (.normal, [.int .u8 q.5, .ptr 1 0, .ptr 8 0, .sli 14 (.c 0) 1 (.v n) none, .ptr 5 0, .ptr 10 0, .int .i64 ((↑r : Int) + (1 : Int))], [.ro encLook [PUnit.unit], .own [.c (.sli 2 (.c 0) 1 (.v 2) (some (.v 2))), .c (.int .i64 s.2)] 67, .own [.a (encInt IntKind.u32) 2 s.1] 45, .many encAd s.3 86, .many encTw s.4 78, .own [.c (.ptr 1 0), .c (.sli 6 (.c 0) 1 (.v m) none), .c (.sli 7 (.c 0) 1 (.v m) (some (.v m)))] 70, .vec (encTs 3 4) ts 44, .own [.a encBool m s.5] 4, .own [.c (.sli 9 (.c 0) 1 (.v 2) (some (.v 2))), .c (.int .i64 t.2)] 67, .own [.a (encInt IntKind.u32) 2 t.1] 45, .own [.c (.ptr 8 0), .c (.sli 11 (.c 0) 1 (.v n) none), .c (.sli 12 (.c 0) 1 (.v n) (some (.v n)))] 70, .vec (encTs 3 4) us 44, .own [.a encBool n t.3] 4, .ro (encInt IntKind.i64) q.3, .vec (encTs 3 4) bs 44]))) := by kernel_rfl
set_option maxRecDepth 100000 in
theorem r_end {q : InR} {m n : Nat} {ts us bs : List (Bool × Nat)} {s : Mc} {t : Yc} {r : Nat} : (exec (cfg32 q m n ts us bs s (endP m ts s q.most.toNat) t) 100 end8 (fr 178 n8h (v8h q n r)) (sR q m n ts us bs s t)).bind (canonK 15 [(0,0)] 178 [6]) =
 

 (.need (inR .i64 q.5)

 (.eq ([Blk.ro encLook [PUnit.unit], .own [.c (.sli 2 (.c 0) 1 (.v 2) (some (.v 2))), .c (.int .i64 s.2)] 67, .own [.a (encInt IntKind.u32) 2 s.1] 45, .many encAd s.3 86, .many encTw s.4 78, .own [.c (.ptr 1 0), .c (.sli 6 (.c 0) 1 (.v m) none), .c (.sli 7 (.c 0) 1 (.v m) (some (.v m)))] 70, .vec (encTs 3 4) ts 44, .own [.a encBool m s.5] 4] = [Blk.ro encLook [PUnit.unit], .own [.c (.sli 2 (.c 0) 1 (.v 2) (some (.v 2))), .c (.int .i64 s.2)] 67, .own [.a (encInt IntKind.u32) 2 s.1] 45, .many encAd s.3 86, .many encTw s.4 78, .own [.c (.ptr 1 0), .c (.sli 6 (.c 0) 1 (.v m) none), .c (.sli 7 (.c 0) 1 (.v m) (some (.v m)))] 70, .vec (encTs 3 4) ts 44, .own [.a encBool m s.5] 4] ∧ McOk 2 m ts s ∧ m ≤ 1000 ∧ q.5 ≤ (1000000 : Int))

 (.br ((↑(stopP m ts s q.5.toNat) : Int) == (↑r : Int))

 (.eq ([Blk.ro encLook [PUnit.unit], .own [.c (.sli 2 (.c 0) 1 (.v 2) (some (.v 2))), .c (.int .i64 (endP m ts s q.5.toNat).c)] 67, .own [.a (encInt IntKind.u32) 2 (endP m ts s q.5.toNat).l] 45, .many encAd (endP m ts s q.5.toNat).ad 86, .many encTw (endP m ts s q.5.toNat).tw 78, .own [.c (.ptr 1 0), .c (.sli 6 (.c 0) 1 (.v m) none), .c (.sli 7 (.c 0) 1 (.v m) (some (.v m)))] 70, .vec (encTs 3 4) ts 44, .own [.a encBool m (endP m ts s q.5.toNat).ds] 4] = [Blk.ro encLook [PUnit.unit], .own [.c (.sli 2 (.c 0) 1 (.v 2) (some (.v 2))), .c (.int .i64 (endP m ts s q.5.toNat).c)] 67, .own [.a (encInt IntKind.u32) 2 (endP m ts s q.5.toNat).l] 45, .many encAd (endP m ts s q.5.toNat).ad 86, .many encTw (endP m ts s q.5.toNat).tw 78, .own [.c (.ptr 1 0), .c (.sli 6 (.c 0) 1 (.v m) none), .c (.sli 7 (.c 0) 1 (.v m) (some (.v m)))] 70, .vec (encTs 3 4) ts 44, .own [.a encBool m (endP m ts s q.5.toNat).ds] 4] ∧ (endP m ts s q.5.toNat).ds.length = m ∧ m ≤ 1000)

 (.eq ([SVal.ptr 10 0] = [SVal.ptr 10 0] ∧ [Blk.ro encLook [PUnit.unit], .own [.c (.sli 2 (.c 0) 1 (.v 2) (some (.v 2))), .c (.int .i64 (endP m ts s q.5.toNat).c)] 67, .own [.a (encInt IntKind.u32) 2 (endP m ts s q.5.toNat).l] 45, .many encAd (endP m ts s q.5.toNat).ad 86, .many encTw (endP m ts s q.5.toNat).tw 78, .own [.c (.ptr 1 0), .c (.sli 6 (.c 0) 1 (.v m) none), .c (.sli 7 (.c 0) 1 (.v m) (some (.v m)))] 70, .vec (encTs 3 4) ts 44, .own [.a encBool m (endP m ts s q.5.toNat).ds] 4, .own [.c (.sli 9 (.c 0) 1 (.v 2) (some (.v 2))), .c (.int .i64 t.2)] 67, .own [.a (encInt IntKind.u32) 2 t.1] 45, .own [.c (.ptr 8 0), .c (.sli 11 (.c 0) 1 (.v n) none), .c (.sli 12 (.c 0) 1 (.v n) (some (.v n)))] 70, .vec (encTs 3 4) us 44, .own [.a encBool n t.3] 4, .ro (encInt IntKind.i64) q.3, .vec (encTs 3 4) bs 44] = [Blk.ro encLook [PUnit.unit], .own [.c (.sli 2 (.c 0) 1 (.v 2) (some (.v 2))), .c (.int .i64 (endP m ts s q.5.toNat).c)] 67, .own [.a (encInt IntKind.u32) 2 (endP m ts s q.5.toNat).l] 45, .many encAd (endP m ts s q.5.toNat).ad 86, .many encTw (endP m ts s q.5.toNat).tw 78, .own [.c (.ptr 1 0), .c (.sli 6 (.c 0) 1 (.v m) none), .c (.sli 7 (.c 0) 1 (.v m) (some (.v m)))] 70, .vec (encTs 3 4) ts 44, .own [.a encBool m (endP m ts s q.5.toNat).ds] 4, .own [.c (.sli 9 (.c 0) 1 (.v 2) (some (.v 2))), .c (.int .i64 t.2)] 67, .own [.a (encInt IntKind.u32) 2 t.1] 45, .own [.c (.ptr 8 0), .c (.sli 11 (.c 0) 1 (.v n) none), .c (.sli 12 (.c 0) 1 (.v n) (some (.v n)))] 70, .vec (encTs 3 4) us 44, .own [.a encBool n t.3] 4, .ro (encInt IntKind.i64) q.3, .vec (encTs 3 4) bs 44] ∧ t.3.length = n ∧ n ≤ 1000)

 (.br (leftP (endP m ts s q.5.toNat).ds == leftP t.3)

 (.need (true)

 (.need (decide ((2 : Int) * (↑4 : Int) ≤ (140737488355328 : Int)))

 (.need (true)

 (.need (decide (2 ≤ (endP m ts s q.5.toNat).l.length))

 (.need (decide (2 = (List.take 2 (List.drop 0 (endP m ts s q.5.toNat).l)).length))

 (.need (decide (2 = (List.take 2 (List.drop 0 (endP m ts s q.5.toNat).l)).length * 1))

 (.need ((List.take 2 (List.drop 0 (endP m ts s q.5.toNat).l)).all fun x => ((encInt IntKind.u32).enc x).all scalar)

 (.need (true)

 (.need (decide ((2 : Int) * (↑4 : Int) ≤ (140737488355328 : Int)))

 (.need (true)

 (.need (decide (2 ≤ t.1.length))

 (.need (decide (2 = (List.take 2 (List.drop 0 t.1)).length))

 (.need (decide (2 = (List.take 2 (List.drop 0 t.1)).length * 1))

 (.need ((List.take 2 (List.drop 0 t.1)).all fun x => ((encInt IntKind.u32).enc x).all scalar)

 (.eq ([SVal.sli 15 (.c 0) 1 (.v 2) (some (.v 2)), .sli 16 (.c 0) 1 (.v 2) (some (.v 2))] = [SVal.sli 15 (.c 0) 1 (.v 2) (some (.v 2)), .sli 16 (.c 0) 1 (.v 2) (some (.v 2))] ∧ [Blk.ro encLook [PUnit.unit], .own [.c (.sli 2 (.c 0) 1 (.v 2) (some (.v 2))), .c (.int .i64 (endP m ts s q.5.toNat).c)] 67, .own [.a (encInt IntKind.u32) 2 (endP m ts s q.5.toNat).l] 45, .many encAd (endP m ts s q.5.toNat).ad 86, .many encTw (endP m ts s q.5.toNat).tw 78, .own [.c (.ptr 1 0), .c (.sli 6 (.c 0) 1 (.v m) none), .c (.sli 7 (.c 0) 1 (.v m) (some (.v m)))] 70, .vec (encTs 3 4) ts 44, .own [.a encBool m (endP m ts s q.5.toNat).ds] 4, .own [.c (.sli 9 (.c 0) 1 (.v 2) (some (.v 2))), .c (.int .i64 t.2)] 67, .own [.a (encInt IntKind.u32) 2 t.1] 45, .own [.c (.ptr 8 0), .c (.sli 11 (.c 0) 1 (.v n) none), .c (.sli 12 (.c 0) 1 (.v n) (some (.v n)))] 70, .vec (encTs 3 4) us 44, .own [.a encBool n t.3] 4, .ro (encInt IntKind.i64) q.3, .vec (encTs 3 4) bs 44, .own [.a (encInt IntKind.u32) (List.take 2 (List.drop 0 (endP m ts s q.5.toNat).l)).length (List.take 2 (List.drop 0 (endP m ts s q.5.toNat).l))] 45, .own [.a (encInt IntKind.u32) (List.take 2 (List.drop 0 t.1)).length (List.take 2 (List.drop 0 t.1))] 45] = [Blk.ro encLook [PUnit.unit], .own [.c (.sli 2 (.c 0) 1 (.v 2) (some (.v 2))), .c (.int .i64 (endP m ts s q.5.toNat).c)] 67, .own [.a (encInt IntKind.u32) 2 (endP m ts s q.5.toNat).l] 45, .many encAd (endP m ts s q.5.toNat).ad 86, .many encTw (endP m ts s q.5.toNat).tw 78, .own [.c (.ptr 1 0), .c (.sli 6 (.c 0) 1 (.v m) none), .c (.sli 7 (.c 0) 1 (.v m) (some (.v m)))] 70, .vec (encTs 3 4) ts 44, .own [.a encBool m (endP m ts s q.5.toNat).ds] 4, .own [.c (.sli 9 (.c 0) 1 (.v 2) (some (.v 2))), .c (.int .i64 t.2)] 67, .own [.a (encInt IntKind.u32) 2 t.1] 45, .own [.c (.ptr 8 0), .c (.sli 11 (.c 0) 1 (.v n) none), .c (.sli 12 (.c 0) 1 (.v n) (some (.v n)))] 70, .vec (encTs 3 4) us 44, .own [.a encBool n t.3] 4, .ro (encInt IntKind.i64) q.3, .vec (encTs 3 4) bs 44, .own [.a (encInt IntKind.u32) 2 (endP m ts s q.5.toNat).l] 45, .own [.a (encInt IntKind.u32) 2 t.1] 45] ∧ (endP m ts s q.5.toNat).l = t.1)

 (.eq ([Blk.ro encLook [PUnit.unit], .own [.c (.sli 2 (.c 0) 1 (.v 2) (some (.v 2))), .c (.int .i64 (endP m ts s q.5.toNat).c)] 67, .own [.a (encInt IntKind.u32) 2 (endP m ts s q.5.toNat).l] 45, .many encAd (endP m ts s q.5.toNat).ad 86, .many encTw (endP m ts s q.5.toNat).tw 78, .own [.c (.ptr 1 0), .c (.sli 6 (.c 0) 1 (.v m) none), .c (.sli 7 (.c 0) 1 (.v m) (some (.v m)))] 70, .vec (encTs 3 4) ts 44, .own [.a encBool m (endP m ts s q.5.toNat).ds] 4] = [Blk.ro encLook [PUnit.unit], .own [.c (.sli 2 (.c 0) 1 (.v 2) (some (.v 2))), .c (.int .i64 (endP m ts s q.5.toNat).c)] 67, .own [.a (encInt IntKind.u32) 2 (endP m ts s q.5.toNat).l] 45, .many encAd (endP m ts s q.5.toNat).ad 86, .many encTw (endP m ts s q.5.toNat).tw 78, .own [.c (.ptr 1 0), .c (.sli 6 (.c 0) 1 (.v m) none), .c (.sli 7 (.c 0) 1 (.v m) (some (.v m)))] 70, .vec (encTs 3 4) ts 44, .own [.a encBool m (endP m ts s q.5.toNat).ds] 4] ∧ McOk 2 m ts (endP m ts s q.most.toNat) ∧ m ≤ 1000 ∧ (-1 : Int) ≤ (1000000 : Int))

 (.ret (.ret, [.sb true], [.ro encLook [PUnit.unit], .own [.c (.sli 2 (.c 0) 1 (.v 2) (some (.v 2))), .c (.int .i64 (endP m ts (endP m ts s q.5.toNat) 0).c)] 67, .own [.a (encInt IntKind.u32) 2 (endP m ts (endP m ts s q.5.toNat) 0).l] 45, .many encAd (endP m ts (endP m ts s q.5.toNat) 0).ad 86, .many encTw (endP m ts (endP m ts s q.5.toNat) 0).tw 78, .own [.c (.ptr 1 0), .c (.sli 6 (.c 0) 1 (.v m) none), .c (.sli 7 (.c 0) 1 (.v m) (some (.v m)))] 70, .vec (encTs 3 4) ts 44, .own [.a encBool m (endP m ts (endP m ts s q.5.toNat) 0).ds] 4, .own [.c (.sli 9 (.c 0) 1 (.v 2) (some (.v 2))), .c (.int .i64 t.2)] 67, .own [.a (encInt IntKind.u32) 2 t.1] 45, .own [.c (.ptr 8 0), .c (.sli 11 (.c 0) 1 (.v n) none), .c (.sli 12 (.c 0) 1 (.v n) (some (.v n)))] 70, .vec (encTs 3 4) us 44, .own [.a encBool n t.3] 4, .ro (encInt IntKind.i64) q.3, .vec (encTs 3 4) bs 44]))))))))))))))))))

 (.ret (.ret, [.bl false], [.ro encLook [PUnit.unit], .own [.c (.sli 2 (.c 0) 1 (.v 2) (some (.v 2))), .c (.int .i64 (endP m ts s q.5.toNat).c)] 67, .own [.a (encInt IntKind.u32) 2 (endP m ts s q.5.toNat).l] 45, .many encAd (endP m ts s q.5.toNat).ad 86, .many encTw (endP m ts s q.5.toNat).tw 78, .own [.c (.ptr 1 0), .c (.sli 6 (.c 0) 1 (.v m) none), .c (.sli 7 (.c 0) 1 (.v m) (some (.v m)))] 70, .vec (encTs 3 4) ts 44, .own [.a encBool m (endP m ts s q.5.toNat).ds] 4, .own [.c (.sli 9 (.c 0) 1 (.v 2) (some (.v 2))), .c (.int .i64 t.2)] 67, .own [.a (encInt IntKind.u32) 2 t.1] 45, .own [.c (.ptr 8 0), .c (.sli 11 (.c 0) 1 (.v n) none), .c (.sli 12 (.c 0) 1 (.v n) (some (.v n)))] 70, .vec (encTs 3 4) us 44, .own [.a encBool n t.3] 4, .ro (encInt IntKind.i64) q.3, .vec (encTs 3 4) bs 44])))))

 (.ret (.ret, [.bl false], [.ro encLook [PUnit.unit], .own [.c (.sli 2 (.c 0) 1 (.v 2) (some (.v 2))), .c (.int .i64 (endP m ts s q.5.toNat).c)] 67, .own [.a (encInt IntKind.u32) 2 (endP m ts s q.5.toNat).l] 45, .many encAd (endP m ts s q.5.toNat).ad 86, .many encTw (endP m ts s q.5.toNat).tw 78, .own [.c (.ptr 1 0), .c (.sli 6 (.c 0) 1 (.v m) none), .c (.sli 7 (.c 0) 1 (.v m) (some (.v m)))] 70, .vec (encTs 3 4) ts 44, .own [.a encBool m (endP m ts s q.5.toNat).ds] 4, .own [.c (.sli 9 (.c 0) 1 (.v 2) (some (.v 2))), .c (.int .i64 t.2)] 67, .own [.a (encInt IntKind.u32) 2 t.1] 45, .own [.c (.ptr 8 0), .c (.sli 11 (.c 0) 1 (.v n) none), .c (.sli 12 (.c 0) 1 (.v n) (some (.v n)))] 70, .vec (encTs 3 4) us 44, .own [.a encBool n t.3] 4, .ro (encInt IntKind.i64) q.3, .vec (encTs 3 4) bs 44]))))) := by kernel_rfl
end Go.Proofs.YtlnigpeoffaemaaDoor

/- StepsRuns: rounds, one by one; the end. -/
namespace Go.Proofs.YtlnigpeoffaemaaDoor
open Go Go.Proofs.YtlnigpeoffaemaaDoor.Sx
set_option linter.unusedVariables false
/-- behind the run: machine x's state X, machine y's Y0 -/
structure Pair2 (m : Nat) (ts us : List (Bool × Nat)) (X Y0 : Mc) : Prop where
  m6 : m ≤ 6
  okx : McOk 2 m ts X
  oky : McOk 2 m us Y0
  ap : Apart m ts us
  veq : VEq m ts X us Y0
  far : Far m ts X Y0
set_option maxHeartbeats 1000000 in
theorem end8_ok {w0 : From} {q : InR} (hq : 0 ≤ q.most ∧ q.most ≤ 255) {m : Nat} {ts us : List (Bool × Nat)} {X Y0 : Mc} (h : Pair2 m ts us X Y0) {r : Nat} (hr : r = stopP m us Y0 q.most.toNat) {Y : Mc} (hY : Y = endP m us Y0 q.most.toNat)
    {env : Env} {a : Act} {w : World} (hA : At [(0, 0)] w0 env (fr 178 n8h (v8h q m r)) (sR q m m ts us us (yS X Y) (yT Y)) a w) : end8.wp Tryd.prog (Q8 w0) a w := by
  subst hr
  have hfar : Far m ts X Y := by rw [hY]; exact h.far.trans (far_end h.ap _ _)
  have okX : McOk 2 m ts (yS X Y) := ok_far h.okx hfar
  have hv := veq_end (f := q.most.toNat) okX h.oky (veq_far h.veq hfar)
  have ok2 := ok_end (f := q.most.toNat) okX
  rw [← hY] at hv
  have okY : McOk 2 m us Y := by rw [hY]; exact ok_end h.oky
  have h6 := h.m6
  obtain ⟨⟨v1, v2, _⟩, v4⟩ := hv
  refine pieceT0 (c := cfg32 q m m ts us us (yS X Y) (endP m ts (yS X Y) q.most.toNat) (yT Y)) cfg32_ok [6] r_end hA ?_
  refine all_needq (by simp only [inR_i64]; exact Iff.rfl) (by omega) ?_
  refine all_eq ⟨rfl, okX, by omega, by omega⟩ ?_
  refine all_brp (by simp only [beq_iff_eq]; exact Iff.rfl) (fun _ => ?_) (fun hn => ?_)
  · generalize endP m ts (yS X Y) q.most.toNat = s2 at *
    have h3 : s2.l.length = 2 := ok2.ll
    have h4 : (yT Y).l.length = 2 := okY.ll
    have e3 : List.take 2 (List.drop 0 s2.l) = s2.l := by rw [List.drop_zero, List.take_of_length_le (by omega)]
    have e4 : List.take 2 (List.drop 0 (yT Y).l) = (yT Y).l := by rw [List.drop_zero, List.take_of_length_le (by omega)]
    rw [e3, e4, h3, h4, scalar_allA, scalar_allA]
    refine all_eq ⟨rfl, ok2.ld, by omega⟩ ?_
    refine all_eq ⟨by first | exact True.intro | rfl, by first | exact True.intro | rfl, okY.ld, by omega⟩ ?_
    refine all_brp (by simp only [beq_iff_eq]; exact Iff.rfl) (fun _ => ?_) (fun hn => absurd (by rw [v2]) hn)
    repeat' (first | refine all_need rfl (fun _ => ?_) | refine all_need (by decide) (fun _ => ?_))
    refine all_eq ⟨by first | exact True.intro | rfl, by first | exact True.intro | rfl, v1⟩ ?_
    refine all_eq ⟨rfl, ok2, by omega, by omega⟩ ?_
    exact all_ret fun env' a' w' hA' => (hA'.vals [.bl true] ⟨fun _ h => h, trivial⟩).said (by kernel_rfl)
  · exact absurd (by rw [v4]) hn
structure IxR where
  r : Nat
  Y : Mc
def InvC (w0 : From) (q : InR) (m : Nat) (ts us : List (Bool × Nat)) (X Y0 : Mc) (j : IxR) (a : Act) (w : World) : Prop :=
  (j.r ≤ q.most.toNat ∧ McOk 2 m us j.Y ∧ j.r + stopP m us j.Y (q.most.toNat - j.r) = stopP m us Y0 q.most.toNat ∧ endP m us j.Y (q.most.toNat - j.r) = endP m us Y0 q.most.toNat) ∧ ∃ env, At [(0, 0)] w0 env (fr 178 n8h (v8h q m j.r)) (sR q m m ts us us (yS X j.Y) (yT j.Y)) a w
abbrev RC (w0 : From) (q : InR) (m : Nat) (ts us : List (Bool × Nat)) (X Y0 : Mc) (r : Nat) : Exit → Act → World → Prop :=
  Exit.then (fun a' w' => ∃ k, InvC w0 q m ts us X Y0 k a' w' ∧ q.most.toNat - k.r < q.most.toNat - r) (Exit.inBlock 4 (Exit.then (end8.wp Tryd.prog (Q8 w0)) (Q8 w0)))
set_option maxHeartbeats 1000000 in
theorem roundC_ok {w0 : From} {q : InR} (hq : 0 ≤ q.most ∧ q.most ≤ 255) {m : Nat} {ts us : List (Bool × Nat)} {X Y0 : Mc} (h : Pair2 m ts us X Y0) {j : IxR} {a : Act} {w : World} (hI : InvC w0 q m ts us X Y0 j a w) : round8c.wp Tryd.prog (RC w0 q m ts us X Y0 j.r) a w := by
  obtain ⟨r, Y⟩ := j
  obtain ⟨⟨hr, ok, e1, e2⟩, env, hA⟩ := hI
  simp only at hr ok e1 e2 hA ⊢
  have h6 := h.m6
  have out : leftP Y.ds = 0 ∨ r = q.most.toNat → ∀ {env' : Env} {a' : Act} {w' : World}, At [(0, 0)] w0 env' (fr 178 n8h (v8h q m r)) (sR q m m ts us us (yS X Y) (yT Y)) a' w' → RC w0 q m ts us X Y0 r (.exit 4) a' w' := by
    intro hc env' a' w' h'
    simp only [RC, Exit.then, Exit.inBlock, if_true]
    have hs : stopP m us Y (q.most.toNat - r) = 0 ∧ endP m us Y (q.most.toNat - r) = Y := by
      rcases hc with hc | hc
      · cases q.most.toNat - r with
        | zero => exact ⟨rfl, rfl⟩
        | succ k => simp only [stopP, endP, if_pos hc]; exact ⟨trivial, trivial⟩
      · rw [hc, Nat.sub_self]; exact ⟨rfl, rfl⟩
    rw [hs.1] at e1
    rw [hs.2] at e2
    exact end8_ok hq h (by omega) e2 h'
  refine wpS (by kernel_rfl) ?_
  refine pieceT0 (c := cfgYR q m m ts us us (yS X Y) (yT Y) 0) cfgYR_ok n8h r_tmc hA ?_
  refine all_needq (by simp only [inR_i64]; exact Iff.rfl) (by omega) ?_
  refine all_brp (by simp only [decide_eq_true_eq]; exact Iff.rfl) (fun h1 => ?_) (fun h1 => all_ret fun _ _ _ h => out (.inr (by omega)) h)
  refine all_eq ⟨by first | exact True.intro | rfl, by first | exact True.intro | rfl, ok.ld, by omega⟩ ?_
  refine all_brp (by simp only [decide_eq_true_eq]; exact Iff.rfl) (fun h2 => all_ret fun env1 a1 w1 hA1 => ?_) (fun h2 => all_ret fun _ _ _ h => out (.inl (by
    have h3 : 0 ≤ leftP Y.ds := by unfold leftP; omega
    have h4 : ¬ 0 < leftP Y.ds := h2
    omega)) h)
  simp only [Ex.to, Exit.then]
  have h2' : 0 < leftP Y.ds := h2
  refine (show (rgt round8c).wp Tryd.prog (RC w0 q m ts us X Y0 r) a1 w1 from wpB 5 (by kernel_rfl) ?_)
  refine (show bb8c.wp Tryd.prog (Exit.inBlock 5 (RC w0 q m ts us X Y0 r)) a1 w1 from wpS (by kernel_rfl) (wpS (by kernel_rfl) ?_))
  refine pieceT0 (c := cfgM) cfgM_ok n8i r_regd hA1 (all_ret fun env2 a2 w2 hA2 => ?_)
  simp only [Ex.to, Exit.then]
  have hA3 := hA2.gvals (v8j q m r 0) rfl
  refine wpB 6 (by kernel_rfl) (wpL (by kernel_rfl) (fun (j : Nat) a' w' => j ≤ m ∧ ∃ env', At [(0, 0)] w0 env' (fr 178 n8i (v8j q m r j)) (sR q m m ts us us (yS X (passP m us Y j)) (yT (passP m us Y j))) a' w') (fun (j : Nat) => m - j) (0 : Nat) ⟨Nat.zero_le _, env2, hA3⟩ ?_)
  rintro j a' w' ⟨hj, env', hA⟩
  refine (show round8d.wp _ _ _ _ from wpS (by kernel_rfl) ?_)
  refine pieceT0 (c := cfgM) cfgM_ok n8i r_tmd hA ?_
  refine all_brp (by simp only [decide_eq_true_eq]; exact Iff.rfl) (fun h3 => all_ret fun env1 a1 w1 hA1 => ?_) (fun h3 => all_ret fun env1 a1 w1 hA1 => ?_)
  · simp only [Ex.to, Exit.then]
    have hj' : j < m := by omega
    refine (show (rgt round8d).wp _ _ _ _ from wpS (by kernel_rfl) (wpB 7 (by kernel_rfl) ?_))
    refine (show bb8d.wp _ _ _ _ from ?_)
    refine pieceT0 (c := cfgYR q m m ts us us (yS X (passP m us Y j)) (yT (passP m us Y j)) (j : Nat)) cfgYR_ok n8i r_bbd hA1 ?_
    refine all_eq ⟨by first | exact True.intro | rfl, by first | exact True.intro | rfl, ok_pass ok j⟩ ?_
    refine all_ret fun env2 a2 w2 hA2 => ?_
    simp only [Ex.to, Exit.inBlock, Exit.then]
    have hA4 : At [(0, 0)] w0 env2 (fr 178 n8i (v8j q m r j)) (sR q m m ts us us (yS X (passP m us Y (j + 1))) (yT (passP m us Y (j + 1)))) a2 w2 := hA2
    refine (show inc8d.wp _ _ _ _ from ?_)
    refine pieceT0 (c := cfgM) cfgM_ok n8i r_incd hA4 ?_
    refine all_needp (by simp only [inR_i64]; exact Iff.rfl) (by omega) fun _ => all_ret fun env4 a4 w4 hA4 => ?_
    exact ⟨j + 1, ⟨by omega, env4, hA4⟩, by omega⟩
  · have hjm : j = m := by omega
    subst hjm
    simp only [Ex.to, Exit.then, Exit.inBlock, if_true]
    refine (show inc8c.wp _ _ _ _ from ?_)
    refine pieceT0 (c := cfgM) cfgM_ok n8h r_incc hA1 ?_
    refine all_needp (by simp only [inR_i64]; exact Iff.rfl) (by omega) fun _ => all_ret fun env4 a4 w4 hA4 => ?_
    have hlt : r < q.most.toNat := by omega
    have hsub : q.most.toNat - r = (q.most.toNat - (r + 1)) + 1 := by omega
    have hne : ¬ leftP Y.ds = 0 := by omega
    refine ⟨⟨r + 1, passP j us Y j⟩, ⟨⟨by simp only; omega, ok_pass ok j, ?_, ?_⟩, env4, hA4⟩, by simp only; omega⟩
    · simp only
      rw [hsub, stopP, if_neg hne] at e1; omega
    · simp only
      rw [hsub, endP, if_neg hne] at e2; exact e2
end Go.Proofs.YtlnigpeoffaemaaDoor

/- StepsRuns: from its beginning. -/
namespace Go.Proofs.YtlnigpeoffaemaaDoor
open Go Go.Proofs.YtlnigpeoffaemaaDoor.Sx
set_option linter.unusedVariables false
set_option maxHeartbeats 1000000 in
theorem g8_ok {w0 : From} {q : InR} (hq : 0 ≤ q.most ∧ q.most ≤ 255) (hp : q.picks.length ≤ 200) {m : Nat} (h6 : m ≤ 6) {ts us : List (Bool × Nat)} {s0 : Mc} (hs : McOk 2 m ts s0) (hr : McOk 2 m us s0) (ap : Apart m ts us) (hv : VEq m ts s0 us s0)
    {env : Env} {a : Act} {w : World} (h : At [(0, 0)] w0 env (fr 178 n8f (v8f q m (runN m us s0 q.picks) q.picks.length)) (sR q m m ts us us (yS s0 (runP m us s0 q.picks)) (yT (runP m us s0 q.picks))) a w) : g8.wp Tryd.prog (Q8 w0) a w := by
  have hf1 := far_run ap q.picks s0
  have ok1 : McOk 2 m us (runP m us s0 q.picks) := ok_run hr
  have okX := ok_far hs hf1
  obtain ⟨v1, v2⟩ := veq_run (L := q.picks) okX hr (veq_far hv hf1)
  have okX2 : McOk 2 m ts (runP m ts (yS s0 (runP m us s0 q.picks)) q.picks) := ok_run okX
  have hf2 : Far m us (runP m us s0 q.picks) (runP m ts (yS s0 (runP m us s0 q.picks)) q.picks) := by
    have := far_run (apart_swap ap) q.picks (yS s0 (runP m us s0 q.picks))
    exact ⟨this.tk, this.ok⟩
  have P2 : Pair2 m ts us (runP m ts (yS s0 (runP m us s0 q.picks)) q.picks) (yS (runP m us s0 q.picks) (runP m ts (yS s0 (runP m us s0 q.picks)) q.picks)) :=
    ⟨h6, okX2, ok_far ok1 hf2, ap, veq_symm (veq_far (veq_symm v1) hf2), ⟨fun _ _ => rfl, fun _ _ h => h⟩⟩
  refine pieceNT0 (c := cfg23 q m m ts us us (yS s0 (runP m us s0 q.picks)) (yT (runP m us s0 q.picks)) (List.take q.picks.length (List.drop 0 q.picks))) cfg23_ok 1 [2, 7, 9, 12, 18, 19] r_23 h ?_
  have htk : List.take q.picks.length (List.drop 0 q.picks) = q.picks := by simp
  rw [htk]
  rw [v2]
  generalize runP m us s0 q.picks = r1 at *
  generalize runP m ts (yS s0 r1) q.picks = X2 at *
  have h3 : X2.l.length = 2 := okX2.ll
  have h4 : (yT r1).l.length = 2 := ok1.ll
  have e3 : List.take 2 (List.drop 0 X2.l) = X2.l := by rw [List.drop_zero, List.take_of_length_le (by omega)]
  have e4 : List.take 2 (List.drop 0 (yT r1).l) = (yT r1).l := by rw [List.drop_zero, List.take_of_length_le (by omega)]
  rw [e3, e4, h3, h4, scalar_allA, scalar_allA]
  refine all_needq (by simp only [decide_eq_true_eq, roomy_iff]; exact Iff.rfl) (by omega) ?_
  refine all_needq (by simp only [decide_eq_true_eq, roomy_iff]; exact Iff.rfl) (by omega) ?_
  refine all_needq (by simp only [decide_eq_true_eq, roomy_iff]; exact Iff.rfl) (by omega) ?_
  refine all_eq ⟨by first | exact True.intro | rfl, by first | exact True.intro | rfl, okX, by omega⟩ ?_
  refine all_brp (by rw [bne_iff_ne]) (fun hn => absurd rfl hn) (fun _ => ?_)
  repeat' (first | refine all_need rfl (fun _ => ?_) | refine all_need (by decide) (fun _ => ?_))
  refine all_eq ⟨by first | exact True.intro | rfl, by first | exact True.intro | rfl, v1.l⟩ ?_
  refine all_ret fun env1 a1 w1 hA1 => ?_
  simp only [Ex.to, Exit.then]
  have hA2 : At [(0, 0)] w0 env1 (fr 178 [2, 7, 9, 12, 18, 19] [.int .u8 q.most, .ptr 1 0, .ptr 8 0, .sli 14 (.c 0) 1 (.v m) none, .ptr 5 0, .ptr 10 0]) (sR q m m ts us us X2 (yT r1)) a1 w1 := hA1
  refine (show (restC 1 g8).wp Tryd.prog (Q8 w0) a1 w1 from ?_)
  refine pieceNT0 (c := cfgM) cfgM_ok 1 n8h r_25 hA2 (all_ret fun env2 a2 w2 hA3 => ?_)
  simp only [Ex.to, Exit.then]
  have hA4 : At [(0, 0)] w0 env2 (fr 178 n8h (v8h q m 0)) (sR q m m ts us us (yS X2 (yS r1 X2)) (yT (yS r1 X2))) a2 w2 := hA3.gvals _ rfl
  refine (show h8.wp Tryd.prog (Q8 w0) a2 w2 from wpS (by kernel_rfl) (wpB 4 (by kernel_rfl) (wpL (by kernel_rfl) (InvC w0 q m ts us X2 (yS r1 X2)) (fun j => q.most.toNat - j.r) ⟨0, yS r1 X2⟩ ⟨⟨Nat.zero_le _, P2.oky, by simp, by simp⟩, env2, hA4⟩ ?_)))
  intro j a w h
  exact roundC_ok hq P2 h
theorem twin_ends {m : Nat} {S : MadeT} {rs : List Rf} {ts us : List (Bool × Nat)} (h : Twin m S rs ts us) {l : List Int} (hl : l.length = 2) :
    McOk 2 m ts ⟨l, 0, S.1, S.2.1, List.replicate m false⟩ ∧ McOk 2 m us ⟨l, 0, S.1, S.2.1, List.replicate m false⟩ ∧ Apart m ts us ∧ VEq m ts ⟨l, 0, S.1, S.2.1, List.replicate m false⟩ us ⟨l, 0, S.1, S.2.1, List.replicate m false⟩ := by
  obtain ⟨⟨k1, k2, k3, k4, k5⟩, la, lb, ga, gb, rr⟩ := h
  obtain ⟨xs, ys, L⟩ := S
  simp only at k1 k3 k4 k5 ga gb ⊢
  have ok : ∀ j, j < 2 * m → tkOk ⟨l, 0, xs, ys, List.replicate m false⟩ (tsAt L j) := by
    intro j hj
    have ha := k3 j hj
    have hr := (k5 j hj).le
    unfold tkL at hr
    unfold tkOk
    cases hb : (tsAt L j).1 with
    | true =>
      rw [hb] at ha hr
      simp only at ha hr ⊢
      exact ⟨ha, Int.le_trans hr (by decide)⟩
    | false =>
      rw [hb] at ha hr
      simp only at ha hr ⊢
      exact ⟨ha, Int.le_trans hr (by decide)⟩
  refine ⟨⟨hl, la, by simp, fun i hi => by rw [ga i hi]; exact ok _ (by omega), fun i j hi hj e => ?_⟩, ⟨hl, lb, by simp, fun i hi => by rw [gb i hi]; exact ok _ (by omega), fun i j hi hj e => ?_⟩, fun i j hi hj e => ?_, ⟨rfl, rfl, fun j hj => ?_⟩⟩
  · rw [ga i hi, ga j hj] at e
    have := k4 _ _ (by omega) (by omega) e
    omega
  · rw [gb i hi, gb j hj] at e
    have := k4 _ _ (by omega) (by omega) e
    omega
  · rw [ga i hi, gb j hj] at e
    have := k4 _ _ (by omega) (by omega) e
    omega
  · have r1 := k5 (2 * j) (by omega)
    have r2 := k5 (2 * j + 1) (by omega)
    rw [← rr j hj] at r2
    have := rel_uniq r1 r2
    rw [ga j hj, gb j hj]
    exact this
set_option maxHeartbeats 1000000 in
theorem e8_ok {w0 : From} {q : InR} (hq : 0 ≤ q.most ∧ q.most ≤ 255) (hp : q.picks.length ≤ 200) {m : Nat} (h6 : m ≤ 6) {ts us : List (Bool × Nat)} {s0 : Mc} (hs : McOk 2 m ts s0) (hr : McOk 2 m us s0) (ap : Apart m ts us) (hv : VEq m ts s0 us s0)
    {env : Env} {a : Act} {w : World} (h : At [(0, 0)] w0 env (fr 178 n8e (v8e q m 0)) (sR q m m ts us us s0 (yT s0)) a w) : e8.wp Tryd.prog (Q8 w0) a w := by
  refine wpS (by kernel_rfl) (wpS (by kernel_rfl) ?_)
  refine pieceT0 (c := cfgM) cfgM_ok n8f r_regb h (all_ret fun env3 a3 w3 hA4 => ?_)
  simp only [Ex.to, Exit.then]
  have hA5 := hA4.gvals (v8f q m (runN m us s0 (q.picks.take 0)) 0) rfl
  refine wpB 2 (by kernel_rfl) (wpL (by kernel_rfl) (InvB w0 q m ts us s0 s0) (fun i => q.picks.length - i) 0 ⟨Nat.zero_le _, env3, hA5⟩ ?_)
  intro i a w h
  exact roundB_ok hp hr (fun h => g8_ok hq hp h6 hs hr ap hv h) h
theorem noFootR {e0 e1 e2 : Slot} {p : InR} (x : Nat) (h : inFoot [e0, e1, e2] (s0R p) x) : False := by
  obtain ⟨id, e, b, he, hb, hx⟩ := h
  match id with
  | 0 => simp at hb; subst hb; cases hx
  | 1 => simp at hb; subst hb; cases hx
  | 2 => simp at hb; subst hb; cases hx
  | n + 3 => simp at hb
theorem b8_eq : Tryd.f8.body = some b8 := by kernel_rfl
set_option maxHeartbeats 1000000 in
theorem stepsRuns_call {p : InR} (hq : 0 ≤ p.most ∧ p.most ≤ 255) {e0 e1 e2 : Slot} (he : e0.blk = 0 ∧ e0.off = 0) {w : World} {v v' v'' : Value} (hr : Rep [e0, e1, e2] (s0R p) w) (hv : Den [e0, e1, e2] (kindsR p 1) v) (hv' : Den [e0, e1, e2] (pickR p 2) v') (hv'' : Den [e0, e1, e2] (.int .u8 p.most) v'') :
    Calls Tryd.prog 8 ⟨[v, v', v'']⟩ w (Said ⟨w, fun _ => False⟩) := by
  refine call_begin (c := cfgL) Tryd.func8 b8_eq (args := [kindsR p 1, pickR p 2, .int .u8 p.most]) (by
    intro q hq
    rw [List.mem_singleton.1 hq]
    exact ⟨e0, rfl, he⟩) hr ⟨_, _, rfl, hv, _, _, rfl, hv', _, _, rfl, hv'', rfl⟩ (F := fun _ => False) (fun x h => noFootR x h) ?_
  intro a hA
  refine pieceNT0 (c := cfgL) cfgL_ok 6 n8p r_pre hA ?_
  refine all_brp (by simp only [decide_eq_true_eq]; exact Iff.rfl) (fun h6 => all_eq rfl (all_ret fun env1 a1 w1 hA1 => ?_)) (fun h6 => ?_)
  · exact hA1.said (by kernel_rfl)
  refine all_brp (by simp only [decide_eq_true_eq]; exact Iff.rfl) (fun hp => all_eq rfl (all_ret fun env1 a1 w1 hA1 => ?_)) (fun hp => ?_)
  · exact hA1.said (by kernel_rfl)
  refine all_eq rfl (all_ret fun env1 a1 w1 hA1 => ?_)
  simp only [Ex.to, Exit.then]
  have hA1' := At.few (names := n8a) (extra := [6]) (vals := [kindsR p 1, pickR p 2, .int .u8 p.most, .ptr 3 0, .ptr 5 0, .sli 7 (.c 0) 1 (.c 0) (some (.c 0)), .sli 8 (.c 0) 1 (.c 0) (some (.c 0))]) (ev := [.bl false]) hA1 rfl
  obtain ⟨env2, hA2⟩ := hA1'.void 7 (encInt .i64) rfl
  obtain ⟨env3, hA3⟩ := hA2.void 8 (encInt .i64) rfl
  have hA4 := hA3.many0 encAd 86
  have hA5 := hA4.many0 encTw 78
  have hA6 := hA5.perm [0, 3, 4, 11, 12, 5, 6, 1, 2, 9, 10] (by kernel_rfl) (by kernel_rfl) (st' := [lookB, .own [.c (.sli 2 (.c 0) 1 (.c 2) (some (.c 2))), .c (.lit .i64 0)] 67, .own [.c (.lit .u32 0), .c (.lit .u32 0)] 45, .many encAd [] 86, .many encTw [] 78, .own [.c (.sli 6 (.c 0) 1 (.c 2) (some (.c 2))), .c (.lit .i64 0)] 67, .own [.c (.lit .u32 0), .c (.lit .u32 0)] 45, .ro encK p.kinds, .ro (encInt .i64) p.picks, .vec (encInt .i64) [] 44, .vec (encInt .i64) [] 44]) (vals' := v8 p 0 0) (by kernel_rfl) (by kernel_rfl)
  have hA7 := hA6.typede 9 (E' := encTs 3 4) (ys := []) rfl rfl rfl (fun cs h => h)
  have hA8 := hA7.typede 10 (E' := encTs 3 4) (ys := []) rfl rfl rfl (fun cs h => h)
  have hA9 := hA8.segs 2 (l' := [.a (encInt .u32) 2 [0, 0]]) rfl (by intro s hs; rw [List.mem_singleton.1 hs]; rfl) (fun cs h => by simpa [segCells, Seg.cells, encInt, DenL, Den] using h)
  have hA9' := hA9.segs 6 (l' := [.a (encInt .u32) 2 [0, 0]]) rfl (by intro s hs; rw [List.mem_singleton.1 hs]; rfl) (fun cs h => by simpa [segCells, Seg.cells, encInt, DenL, Den] using h)
  have hA10 : AtK [] [(0, 0)] ⟨w, fun _ => False⟩ _ (fr 178 n8a (v8 p 0 0)) (s8 p [] [] [] []) a1 w1 := ⟨hA9'.gen rfl, _, rfl⟩
  refine (show c8.wp Tryd.prog (Q8 ⟨w, fun _ => False⟩) a1 w1 from wpS (by kernel_rfl) (wpS (by kernel_rfl) ?_))
  refine pieceTK2 (c := cfgM) cfgM_ok n8b r_reg (by simp) (by simp) hA10 (all_ret fun env11 a11 w11 hA11 => ?_)
  simp only [Ex.to, Exit.then]
  have hA12 := hA11.on fun h => h.gvals (v8i p 0 0 0) rfl
  have h6' : p.kinds.length ≤ 6 := by omega
  have hT0 : Twin 0 ([], [], []) [] [] [] := ⟨⟨rfl, rfl, fun j hj => by omega, fun j k hj => by omega, fun j hj => by omega⟩, rfl, rfl, fun j hj => by omega, fun j hj => by omega, fun j hj => by omega⟩
  refine wpB 0 (by kernel_rfl) (wpL (by kernel_rfl) (InvR ⟨w, fun _ => False⟩ p) (fun i => p.kinds.length - i) 0 ⟨Nat.zero_le _, _, _, _, _, hT0, env11, hA12⟩ ?_)
  intro i a w h
  refine round8_ok h6' (fun {S rs ta tb env a w} hT h => ?_) h
  obtain ⟨g1, g2, g3, g4⟩ := twin_ends hT (l := [0, 0]) rfl
  exact new8_ok h6' hT.la hT.lb (fun env a w h => e8_ok hq (by omega) h6' g1 g2 g3 g4 h) h
end Go.Proofs.YtlnigpeoffaemaaDoor

/- Layer 8: the package's variable, and how a card is closed. -/
namespace Go.Proofs.YtlnigpeoffaemaaDoor
open Go Go.Proofs.YtlnigpeoffaemaaDoor.Sx Go.ChangeShapes Go.WideShapes Go.ChangeAt Go.RowKit
set_option linter.unusedVariables false
abbrev laid1 : List (String × DataW Unit) := [("purlin/mem.look", Rows.laid_purlin_mem_look)]
theorem Tryd.own : ownKnob Tryd.prog.godebug = none := by kernel_rfl
theorem Tryd.laidOut : laidOutB Tryd.prog = true := by kernel_rfl
theorem gLook : Tryd.prog.globalNamed "purlin/mem.look" = some 0 := by kernel_rfl
theorem tLook : (Tryd.prog.globals[0]?).map (·.type) = some 81 := by kernel_rfl
/-- the door's own heap meets the condition -/
theorem door_met (os : Os) (args : Array Value) : laidMetH Tryd.prog laid1 ((World.doorLaid Tryd.prog 400 os).forCall (fun _ _ => 0) ⟨#[], args, []⟩).memory :=
  laidMetH_of_parts3 (fuel := 8) (laidMet_of_run' 8 (by kernel_rfl) (by kernel_rfl)) (by kernel_rfl) (by kernel_rfl)
set_option maxRecDepth 100000 in
/-- what the condition gives -/
theorem of_laid {W : World} (h : laidMetH Tryd.prog laid1 W) : ∃ e : Slot, (e.blk = 0 ∧ e.off = 0) ∧ Rep [e] [lookB] W := by
  rw [MakeChecks.laidMetH_plain _ _ _ (by kernel_rfl)] at h
  obtain ⟨ps, ⟨g0, t0, cs0, f0, p0, q0, hg0, ht0, hv0, hd0, _, _⟩, _, _⟩ := h
  obtain rfl := Option.some.inj (gLook.symm.trans hg0)
  obtain rfl := Option.some.inj (tLook.symm.trans ht0)
  obtain ⟨xs, m, _, hx, hlen, hxl, hf⟩ := DataW.trod_struct Tryd.underlying81 hd0
  have hC : Tryd.prog.cellsOf 81 = 3 := by kernel_rfl
  have k45 : Tryd.prog.cellsOf 45 = 1 := by kernel_rfl
  rw [hC] at hlen
  obtain ⟨l⟩ := cs0
  simp only at hlen hf
  match l, hlen with
  | [c0, c1, c2], _ =>
    match xs, hxl, hx with
    | [y0, y1, y2], _, hx =>
      have f0 : DataW.trod _ Tryd.prog W 0 _ false m 45 (([c0, c1, c2].drop 0).take (Tryd.prog.cellsOf 45)) = some y0 := hf 0 _ rfl
      have f1 : DataW.trod _ Tryd.prog W 0 _ false m 45 (([c0, c1, c2].drop 1).take (Tryd.prog.cellsOf 45)) = some y1 := hf 1 _ rfl
      have f2 : DataW.trod _ Tryd.prog W 0 _ false m 45 (([c0, c1, c2].drop 2).take (Tryd.prog.cellsOf 45)) = some y2 := hf 2 _ rfl
      rw [k45] at f0 f1 f2
      obtain ⟨a0, h0, e0, _⟩ := DataW.trod_int Tryd.underlying45 f0
      obtain ⟨a1, h1, e1, _⟩ := DataW.trod_int Tryd.underlying45 f1
      obtain ⟨a2, h2, e2, _⟩ := DataW.trod_int Tryd.underlying45 f2
      simp at h0 h1 h2
      subst h0 h1 h2 e0 e1 e2
      simp [Rows.laid_purlin_mem_look] at hx
      obtain ⟨⟨rfl, rfl, rfl⟩, _⟩ := hx
      have hc := fun i => World.var?_cell hg0 hv0 i
      have hsz : 0 < W.heap.size := by
        have := hc 0
        simp only [World.cell?] at this
        rcases Nat.eq_zero_or_pos W.heap.size with h | h
        · rw [Array.getElem?_eq_none (by omega)] at this; simp at this
        · exact h
      refine ⟨⟨0, 0, 0, []⟩, ⟨rfl, rfl⟩, rfl, ?_, ?_, ?_⟩
      · intro id sl b he hb
        match id with
        | 0 =>
          simp only [List.getElem?_cons_zero, Option.some.injEq] at he hb
          subst he hb
          refine ⟨[.int .u32 4294967295, .int .u32 0, .int .u32 0], by simp [encLook, encOf, DenL, Den], fun i hi => ?_⟩
          have := hc i
          simpa using this
        | n + 1 => simp at he
      · intro i j e f b c hij he hf' hb' hc' x hx''
        match i, j with
        | 0, 0 => exact (hij rfl).elim
        | i + 1, _ => simp at he
        | 0, j + 1 => simp at hf'
      · intro id sl b he hb x hx
        match id with
        | 0 =>
          simp only [List.getElem?_cons_zero, Option.some.injEq] at he hb
          subst he hb
          simp [Blk.supp] at hx
          omega
        | n + 1 => simp at he
theorem wf_u8 {n : Int} (h : (Lit.int .u8 n).wf = true) : 0 ≤ n ∧ n ≤ 255 := by simp [Lit.wf, IntKind.min, IntKind.max, IntKind.signed, IntKind.bits] at h; omega
theorem open_u8 {H : Type} {enc : TypeId × Value → H} {w : World} {base : Nat} {spare : Nat → Bool} {held : Bool} (n : Nat) (cs : List Value) (y : DataW H × List MemPlace) (h : DataW.trod enc Tryd.prog w base spare held n 5 cs = some y) :
    ∃ x : U8, DenL [] (encU8.enc x) cs := by
  cases n with
  | zero => simp [DataW.trod] at h
  | succ n =>
    obtain ⟨a, h0, _, hw⟩ := DataW.trod_int Tryd.underlying5 h
    subst h0
    exact ⟨⟨a, wf_u8 hw⟩, by simp [encU8, encOf, DenL, Den]⟩
theorem open_i64 {H : Type} {enc : TypeId × Value → H} {w : World} {base : Nat} {spare : Nat → Bool} {held : Bool} (n : Nat) (cs : List Value) (y : DataW H × List MemPlace) (h : DataW.trod enc Tryd.prog w base spare held n 3 cs = some y) :
    ∃ x : Int, DenL [] ((encInt .i64).enc x) cs := by
  cases n with
  | zero => simp [DataW.trod] at h
  | succ n =>
    obtain ⟨a, h0, _, hw⟩ := DataW.trod_int Tryd.underlying3 h
    subst h0
    exact ⟨a, by simp [encInt, DenL, Den]⟩
theorem wf_u32 {n : Int} (h : (Lit.int .u32 n).wf = true) : 0 ≤ n ∧ n < 4294967296 := by simp [Lit.wf, IntKind.min, IntKind.max, IntKind.signed, IntKind.bits] at h; omega
end Go.Proofs.YtlnigpeoffaemaaDoor

/- StepsRuns: its row and its card. -/
namespace Go.Proofs.YtlnigpeoffaemaaDoor
open Go Go.Proofs.YtlnigpeoffaemaaDoor.Sx Go.ChangeShapes Go.WideShapes Go.ChangeAt Go.RowKit
set_option linter.unusedVariables false
theorem open_k3 {H : Type} {enc : TypeId × Value → H} {w : World} {base : Nat} {spare : Nat → Bool} {held : Bool} (n : Nat) (cs : List Value) (y : DataW H × List MemPlace) (h : DataW.trod enc Tryd.prog w base spare held n 51 cs = some y) :
    ∃ x : K3, DenL [] (encK.enc x) cs := by
  obtain ⟨xs, m, _, _, hlen, hxl, hf⟩ := DataW.trod_struct Tryd.underlying51 h
  have hC : Tryd.prog.cellsOf 51 = 3 := by kernel_rfl
  rw [hC] at hlen
  match cs, hlen with
  | [c0, c1, c2], _ =>
    match xs, hxl with
    | [y0, y1, y2], _ =>
      have f0 : DataW.trod enc Tryd.prog w base spare held m 5 (([c0, c1, c2].drop 0).take (Tryd.prog.cellsOf 5)) = some y0 := hf 0 _ rfl
      have f1 : DataW.trod enc Tryd.prog w base spare held m 3 (([c0, c1, c2].drop 1).take (Tryd.prog.cellsOf 3)) = some y1 := hf 1 _ rfl
      have f2 : DataW.trod enc Tryd.prog w base spare held m 3 (([c0, c1, c2].drop 2).take (Tryd.prog.cellsOf 3)) = some y2 := hf 2 _ rfl
      have k0 : Tryd.prog.cellsOf 3 = 1 := by kernel_rfl
      have k5 : Tryd.prog.cellsOf 5 = 1 := by kernel_rfl
      rw [k5] at f0
      rw [k0] at f1 f2
      obtain ⟨a, h0, e0, w0⟩ := DataW.trod_int Tryd.underlying5 f0
      obtain ⟨b, h1, _⟩ := DataW.trod_int Tryd.underlying3 f1
      obtain ⟨c, h2, _⟩ := DataW.trod_int Tryd.underlying3 f2
      simp at h0 h1 h2
      subst h0 h1 h2
      exact ⟨⟨a, b, c, wf_u8 w0⟩, by simp [encK, encOf, DenL, Den]⟩
set_option maxRecDepth 100000 in
theorem stepsRuns_lifted (os : Os) (started : os.Started) (H : Type) (enc : TypeId × Value → H) :
    ReturnsInHanded {} Tryd.checked os 8 .any (fun w args => (Rows.stepsRunsSpec.pre enc Tryd.prog Tryd.f8 [] false w args ∧ laidMetH Tryd.prog laid1 w) ∧ sizedMet enc Tryd.prog Tryd.f8 (OpenSpec.ofChange Rows.stepsRunsSpec) false w args)
      (Rows.stepsRunsSpec.post enc Tryd.prog Tryd.f8 false true false false) := by
  refine returnsInHanded_of_change_and (C := Tryd.checked) (X := fun w _ => laidMetH Tryd.prog laid1 w) (fun _ _ _ hh h => h.of_heap hh) Tryd.own started (by kernel_rfl) Tryd.func8
    (ChangeSpec.witness_shaped (enc := enc) (C := Tryd.checked) (os := os) (X := fun w _ => laidMetH Tryd.prog laid1 w) false (World.doorLaid Tryd.prog 400 os) #[.slice none 0 0, .slice none 0 0, .int .u8 0] 8 rfl (World.shaped_of_RefB (by kernel_rfl) (by kernel_rfl)) (by kernel_rfl) (by kernel_rfl) (by kernel_rfl) (door_met os _)) ?_
  intro W base args ds gs before hval0 hW _ _ hL _
  have hval : ∀ (j : Nat) t v, Tryd.f8.params[j]? = some t → args[j]? = some v → Value.okWide Tryd.prog W .any base t v := hval0
  have hW' := hW
  obtain ⟨p, q, hA0, hV, rfl, hfz, hnd⟩ := hW
  have hA : DataW.TrodAll enc Tryd.prog W 0 (fun _ => true) true Tryd.f8.params.toList args.toList ds p := hA0
  rw [Tryd.params8] at hA hval
  obtain ⟨v0, v1, v2, d0, d1, d2, p0, p1, p2, rfl, rfl, rfl, h0, h1, h2⟩ := trodAll_three hA
  obtain ⟨rfl, rfl⟩ := trodVars_none hV
  obtain ⟨z, rfl, rfl, rfl, wz⟩ := open_int Tryd.underlying5 (hval 2 5 v2 rfl rfl) h2
  clear hA0 hval0
  have hlt0 : ∀ x ∈ p0, x.block < W.heap.size := fun x hx => by simpa using hW'.lt x (by simp [hx])
  have hlt1 : ∀ x ∈ p1, x.block < W.heap.size := fun x hx => by simpa using hW'.lt x (by simp [hx])
  obtain ⟨e0, he, hr0⟩ := of_laid hL
  have fin : ∀ e W', Said ⟨W, fun _ => False⟩ e W' → ∃ v, e = .returned v ∧ Rows.stepsRunsSpec.post enc Tryd.prog Tryd.f8 false true false false W #[v0, v1, .int .u8 z] v W' := by
    rintro e W' ⟨rfl, hsz, hk, hc⟩
    have hk' : ∀ x, x < W.heap.size → W'.heap[x]? = W.heap[x]? := fun x hx => hk x hx (fun h => h)
    refine ⟨_, rfl, _, _, _, [], _, [], hW', ⟨[], [], shut_bool Tryd.underlying4 true, rfl, rfl⟩, trodAll_mk3 (trod_same Tryd.laidOut (by kernel_rfl) (of_decide_eq_true (by kernel_rfl)) h0 hk' hlt0) (trod_same Tryd.laidOut (by kernel_rfl) (of_decide_eq_true (by kernel_rfl)) h1 hk' hlt1) (shut_int Tryd.underlying5 wz), rfl, keptBut_of _ hc hk', fun h => by cases h⟩
  obtain ⟨xs, cap, e1, hr1, hd1⟩ := open_sli encK Tryd.underlying41 (by kernel_rfl) open_k3 rfl (hval 0 41 v0 rfl rfl) h0
  obtain ⟨ys, cap', e2, hr2, hd2⟩ := open_sli (encInt .i64) Tryd.underlying23 (by kernel_rfl) open_i64 rfl (hval 1 23 v1 rfl rfl) h1
  obtain ⟨hr3, hn3⟩ := ro_add hr0 (by intro b hb e; rw [List.mem_singleton.1 hb]; rfl) rfl hr1
  obtain ⟨hr, _⟩ := ro_add hr3 hn3 rfl hr2
  have hv : Den ([e0, e1] ++ [e2]) (kindsR ⟨xs, cap, ys, cap', z⟩ 1) v0 := den_wide (den_add (env := [e0]) (n := 1) hd1 rfl)
  have hv' : Den ([e0, e1] ++ [e2]) (pickR ⟨xs, cap, ys, cap', z⟩ 2) v1 := den_add (env := [e0, e1]) (n := 2) hd2 rfl
  exact (stepsRuns_call (p := ⟨xs, cap, ys, cap', z⟩) (wf_u8 wz) he hr hv hv' rfl).mono fun e W' h => fin e W' h
theorem stepsRuns_row : Rows.StepsRunsSaid :=
  OpenClaim.holds_of_wide 8 Tryd.f8 rfl rfl rfl rfl rfl rfl rfl ⟨rfl, rfl, rfl, rfl, rfl⟩ rfl rfl rfl rfl rfl (by kernel_rfl) Tryd.func8 (by kernel_rfl)
    (of_decide_eq_true (by kernel_rfl)) (by unfold Func.isWrapper; first | (rw [if_pos (by decide +kernel)]; kernel_rfl) | (rw [if_neg (by decide +kernel)]; exact ⟨rfl, rfl⟩))
    (fun os started H enc _ => stepsRuns_lifted os started H enc)
theorem stepsRuns_holds : Rows.StepsRunsCardSaid :=
  Claim7.holds_tied_plain_at .later [] [.data] true _ _ stepsRuns_row (fun _ h => by cases h) (by kernel_rfl) (fun _ h => by cases h) stepsRuns_row_tie rfl ⟨rfl, rfl⟩ (by kernel_rfl) rfl
    (fun f fn hf hfn => by
      obtain rfl : f = 8 := Option.some.inj ((show Tryd.prog.funcNamed "purlin/purlinlaw08.StepsRuns" = some 8 by kernel_rfl).symm.trans hf) |>.symm
      obtain rfl : fn = Tryd.f8 := (Option.some.inj (Tryd.func8.symm.trans hfn)).symm
      exact ⟨by kernel_rfl, fun j t ht => by
        rw [Tryd.params8] at ht
        have hm : t ∈ [41, 23, 5] := by simpa using Array.mem_of_getElem? ht
        have hall : ([41, 23, 5].all fun u => !Tryd.prog.wantsStandIn u) = true := by kernel_rfl
        exact (show Tryd.prog.wantsStandIn t = false by simpa using List.all_eq_true.1 hall t hm)⟩)
    (by kernel_rfl)
end Go.Proofs.YtlnigpeoffaemaaDoor

