/- StepsLose holds for every input: of tasks that load and store something may get lost, but not all. -/
import Derived.Test.YtlnigpeoffaemaaDoorTsk
import Derived.Test.YtlnigpeoffaemaaDoorSxC
import Derived.Test.YtlnigpeoffaemaaDoorCards
import Derived.Test.YtlnigpeoffaemaaDoorTie
import Derived.ProofKit
import Derived.LaidMore
import Derived.OpenShut
import Derived.Stop.Joined
/- StepsLose: pieces and states. -/
namespace Go.Proofs.YtlnigpeoffaemaaDoor
open Go Go.Proofs.YtlnigpeoffaemaaDoor.Sx
set_option linter.unusedVariables false
/-- a byte -/
structure U8 where
  v : Int
  h : 0 ≤ v ∧ v ≤ 255
def encU8 : Enc U8 := encOf 0 (fun x => [.int .u8 x.v]) ⟨0, by omega⟩ (fun _ => rfl) (by intro env env' x vs h; simpa [DenL, Den] using h)
/-- tasks, the last one of which may be no member of a family yet -/
def encTsN (a b o : Nat) : Enc (Bool × Option Nat) where
  tag := .other
  shut := false
  shutOk := by simp
  sz := 1
  enc x := match x with
    | (k, some i) => [.sw k (.ifc 84 (.pto a i 0)) (.ifc 74 (.pto b i 0))]
    | (k, none) => [.sw k (.ifc 84 (.ptr o 0)) (.ifc 74 (.ptr o 0))]
  dec l := match l with
    | [.ifc t (.ptr i j)] => match Nat.decEq i o, Nat.decEq j 0 with
      | .isTrue _, .isTrue _ => match Nat.decEq t 84, Nat.decEq t 74 with
        | .isTrue _, _ => some (true, none)
        | _, .isTrue _ => some (false, none)
        | _, _ => none
      | _, _ => none
    | _ => none
  dflt := (false, none)
  top := some (max (max a b) o + 1)
  topOk := by
    intro k hk m hm x
    simp only [Option.some.injEq] at hk; subst hk
    have e1 := idx_pref hm (show a < max (max a b) o + 1 by omega)
    have e2 := idx_pref hm (show b < max (max a b) o + 1 by omega)
    have e3 := idx_pref hm (show o < max (max a b) o + 1 by omega)
    match x with
    | (k, some i) => simp [renL, ren, e1, e2]
    | (k, none) => simp [renL, ren, e3]
  pos := by omega
  len x := by match x with
    | (k, some i) => rfl
    | (k, none) => rfl
  ok := by
    intro env l x vs h hd
    split at h
    · split at h
      · rename_i h1 h2 _ _
        subst h1 h2
        split at h
        · rename_i _ _ h3 _
          subst h3
          simp only [Option.some.injEq] at h; subst h
          obtain ⟨u, us, rfl, h4, h5⟩ := hd
          exact ⟨u, us, rfl, .inl ⟨rfl, h4⟩, h5⟩
        · rename_i _ _ h3 _ _
          subst h3
          simp only [Option.some.injEq] at h; subst h
          obtain ⟨u, us, rfl, h4, h5⟩ := hd
          exact ⟨u, us, rfl, .inr ⟨rfl, h4⟩, h5⟩
        · cases h
      · cases h
    · cases h
abbrev someT (ts : List (Bool × Nat)) : List (Bool × Option Nat) := ts.map fun t => (t.1, some t.2)
theorem someT_den {env : Env} {o : Nat} {ts : List (Bool × Nat)} {cs : List Value} (h : DenL env (ts.flatMap (encTs 3 4).enc) cs) : DenL env ((someT ts).flatMap (encTsN 3 4 o).enc) cs := by
  rw [List.flatMap_map]; exact h
theorem tsN_tw {env : Env} {o k : Nat} (hp : ∀ v, Den env (.ptr o 0) v → Den env (.pto 4 k 0) v) {ts : List (Bool × Nat)} {cs : List Value} (h : DenL env ((someT ts ++ [(false, none)]).flatMap (encTsN 3 4 o).enc) cs) :
    DenL env ((ts ++ [(false, k)]).flatMap (encTs 3 4).enc) cs := by
  rw [List.flatMap_append, List.flatMap_map] at h
  rw [List.flatMap_append]
  obtain ⟨us, vs, rfl, h1, h2⟩ := denL_split h
  refine denL_append h1 ?_
  obtain ⟨u, us', rfl, h3, h4⟩ := h2
  refine ⟨u, us', rfl, ?_, h4⟩
  rcases h3 with ⟨h5, _⟩ | ⟨_, w, rfl, h6⟩
  · cases h5
  · exact .inr ⟨rfl, w, rfl, hp _ h6⟩
theorem tsN_ad {env : Env} {o k : Nat} (hp : ∀ v, Den env (.ptr o 0) v → Den env (.pto 3 k 0) v) {ts : List (Bool × Nat)} {cs : List Value} (h : DenL env ((someT ts ++ [(true, none)]).flatMap (encTsN 3 4 o).enc) cs) :
    DenL env ((ts ++ [(true, k)]).flatMap (encTs 3 4).enc) cs := by
  rw [List.flatMap_append, List.flatMap_map] at h
  rw [List.flatMap_append]
  obtain ⟨us, vs, rfl, h1, h2⟩ := denL_split h
  refine denL_append h1 ?_
  obtain ⟨u, us', rfl, h3, h4⟩ := h2
  refine ⟨u, us', rfl, ?_, h4⟩
  rcases h3 with ⟨_, w, rfl, h6⟩ | ⟨h5, _⟩
  · exact .inl ⟨rfl, w, rfl, hp _ h6⟩
  · cases h5
/-- what comes in -/
structure In8 where
  times : List U8
  cap : Nat
  picks : List Int
  cap' : Nat
abbrev timesV (p : In8) (i : Nat) : SVal := .sli i (.c 0) 1 (.v p.times.length) (some (.v p.cap))
abbrev picksV (p : In8) (i : Nat) : SVal := .sli i (.c 0) 1 (.v p.picks.length) (some (.v p.cap'))
abbrev s0 (p : In8) : St := [lookB, .ro encU8 p.times, .ro (encInt .i64) p.picks]
/-- in the loop that makes tasks -/
abbrev sMk (p : In8) (xs : List Ad) (ys : List Tw) (ts : List (Bool × Nat)) : St := famS 1 [0] 0 xs ys ++ [.ro encU8 p.times, .ro (encInt .i64) p.picks, .vec (encTs 3 4) ts 44]
abbrev sMn (p : In8) (xs : List Ad) (ys : List Tw) (ts : List (Bool × Option Nat)) : St := famS 1 [0] 0 xs ys ++ [.ro encU8 p.times, .ro (encInt .i64) p.picks, .vec (encTsN 3 4 8) ts 44]
noncomputable def b6 : Code := Tryd.f6.body.getD .skip
noncomputable def c6 : Code := restC 4 b6
noncomputable def reg6 : Code := lft (lft c6)
noncomputable def blk6 : Code := rgt (lft c6)
noncomputable def round6 : Code := lft (lft blk6)
noncomputable def tm6 : Code := lft round6
noncomputable def bb6 : Code := lft (lft (rgt round6))
noncomputable def inc6 : Code := rgt (rgt round6)
noncomputable def d6 : Code := rgt c6
noncomputable def e6 : Code := restC 2 d6
noncomputable def reg6b : Code := lft (lft e6)
noncomputable def blk6b : Code := rgt (lft e6)
noncomputable def round6b : Code := lft (lft blk6b)
noncomputable def tm6b : Code := lft round6b
noncomputable def bb6b : Code := lft (lft (rgt round6b))
noncomputable def inc6b : Code := rgt (rgt round6b)
noncomputable def f6' : Code := rgt e6
abbrev n6a : List Nat := [0, 1, 5, 7, 8]
abbrev n6p : List Nat := [0, 1, 5, 7, 8, 4]
abbrev n6b : List Nat := [0, 1, 5, 7, 8, 9]
abbrev n6n : List Nat := [54, 0, 1, 5, 7, 8, 9]
abbrev v6 (p : In8) (m : Nat) (sum : Int) : List SVal := [timesV p 5, picksV p 6, .ptr 1 0, .sli 7 (.c 0) 1 (.v m) none, .int .u32 sum]
end Go.Proofs.YtlnigpeoffaemaaDoor

/- StepsLose: its configuration. -/
namespace Go.Proofs.YtlnigpeoffaemaaDoor
open Go Go.Proofs.YtlnigpeoffaemaaDoor.Sx
set_option linter.unusedVariables false
noncomputable def cfgL : Cfg := { P := Tryd.prog, ex := exI, gl := [(0, 0)], sm := fun f => match f with | 10 => some (smClosed [0] [lookB] (.bl true)) | 11 => some smNew | _ => none }
theorem cfgL_ok : SmOk cfgL := by
  intro f g h
  simp only [cfgL] at h
  split at h
  · simp only [Option.some.injEq] at h; subst h
    exact smClosedE_ok cfg0_ok awake_val ⟨new0, new1, rfl, rfl, rfl, rfl, rfl, rfl, rfl, rfl, rfl, rfl, rfl, rfl, rfl, rfl, rfl, trivial⟩ (by kernel_rfl) rfl rfl (by intro b hb e; rw [List.mem_singleton.1 hb]; rfl)
  · simp only [Option.some.injEq] at h; subst h
    exact smAny_ok cfgN_ok (by kernel_rfl) new_sel
  · cases h
end Go.Proofs.YtlnigpeoffaemaaDoor

namespace Go.Proofs.YtlnigpeoffaemaaDoor
open Go Go.Proofs.YtlnigpeoffaemaaDoor.Sx
set_option linter.unusedVariables false
set_option maxRecDepth 100000 in
theorem t6_pre {p : In8} : (execN cfgL 100 4 b6 ([timesV p 1, picksV p 2] ++ List.replicate 107 .bad) (s0 p)).bind (canonK 0 [(0,0)] 109 n6p) =
 

 (.eq (some [Blk.ro encLook [PUnit.unit]] = some [Blk.ro encLook [PUnit.unit]])

 (.br (decide ((6 : Int) < (↑p.1.length : Int)))

 (.eq (some [Blk.ro encLook [PUnit.unit]] = some [Blk.ro encLook [PUnit.unit]])

 (.ret (.ret, [.sli 1 (.c 0) 1 (.v p.1.length) (some (.v p.2)), .sli 2 (.c 0) 1 (.v p.3.length) (some (.v p.4)), .ptr 3 0, .bad, .bad, .bl true], [.ro encLook [PUnit.unit], .ro encU8 p.1, .ro (encInt IntKind.i64) p.3, .own [.c (.sli 4 (.c 0) 1 (.c 1) (some (.c 1))), .c (.lit .i64 (0 : Int))] 67, .own [.c (.lit .u32 (0 : Int))] 45])))

 (.ret (.normal, [.sli 1 (.c 0) 1 (.v p.1.length) (some (.v p.2)), .sli 2 (.c 0) 1 (.v p.3.length) (some (.v p.4)), .ptr 3 0, .sli 5 (.c 0) 1 (.c 0) (some (.c 0)), .lit .u32 (0 : Int), .bl false], [.ro encLook [PUnit.unit], .ro encU8 p.1, .ro (encInt IntKind.i64) p.3, .own [.c (.sli 4 (.c 0) 1 (.c 1) (some (.c 1))), .c (.lit .i64 (0 : Int))] 67, .own [.c (.lit .u32 (0 : Int))] 45, .own [] 44])))) := by kernel_rfl
set_option maxRecDepth 100000 in
theorem t6_reg {p : In8} {xs : List Ad} {ys : List Tw} {ts : List (Bool × Nat)} {sum : Int} : (exec cfgM 100 reg6 (fr 109 n6a (v6 p ts.length sum)) (sMk p xs ys ts)).bind (canonK 7 [(0,0)] 109 n6b) =
 

 (.ret (.normal, [.sli 5 (.c 0) 1 (.v p.1.length) (some (.v p.2)), .sli 6 (.c 0) 1 (.v p.3.length) (some (.v p.4)), .ptr 1 0, .sli 7 (.c 0) 1 (.v ts.length) none, .int .u32 sum, .lit .i64 (0 : Int)], [.ro encLook [PUnit.unit], .own [.c (.sli 2 (.c 0) 1 (.v 1) (some (.v 1))), .c (.int .i64 (0 : Int))] 67, .own [.a (encInt IntKind.u32) 1 [(0 : Int)]] 45, .many encAd xs 86, .many encTw ys 78, .ro encU8 p.1, .ro (encInt IntKind.i64) p.3, .vec (encTs 3 4) ts 44])) := by kernel_rfl
set_option maxRecDepth 100000 in
theorem t6_tm {p : In8} {xs : List Ad} {ys : List Tw} {ts : List (Bool × Nat)} {sum : Int} {i : Nat} : (exec cfgM 100 tm6 (fr 109 n6b (v6 p ts.length sum ++ [.int .i64 (i : Nat)])) (sMk p xs ys ts)).bind (canonK 7 [(0,0)] 109 n6b) =
 

 (.br (decide ((↑i : Int) < (↑p.1.length : Int)))

 (.ret (.normal, [.sli 5 (.c 0) 1 (.v p.1.length) (some (.v p.2)), .sli 6 (.c 0) 1 (.v p.3.length) (some (.v p.4)), .ptr 1 0, .sli 7 (.c 0) 1 (.v ts.length) none, .int .u32 sum, .int .i64 (↑i : Int)], [.ro encLook [PUnit.unit], .own [.c (.sli 2 (.c 0) 1 (.v 1) (some (.v 1))), .c (.int .i64 (0 : Int))] 67, .own [.a (encInt IntKind.u32) 1 [(0 : Int)]] 45, .many encAd xs 86, .many encTw ys 78, .ro encU8 p.1, .ro (encInt IntKind.i64) p.3, .vec (encTs 3 4) ts 44]))

 (.ret (.exit 0, [.sli 5 (.c 0) 1 (.v p.1.length) (some (.v p.2)), .sli 6 (.c 0) 1 (.v p.3.length) (some (.v p.4)), .ptr 1 0, .sli 7 (.c 0) 1 (.v ts.length) none, .int .u32 sum, .int .i64 (↑i : Int)], [.ro encLook [PUnit.unit], .own [.c (.sli 2 (.c 0) 1 (.v 1) (some (.v 1))), .c (.int .i64 (0 : Int))] 67, .own [.a (encInt IntKind.u32) 1 [(0 : Int)]] 45, .many encAd xs 86, .many encTw ys 78, .ro encU8 p.1, .ro (encInt IntKind.i64) p.3, .vec (encTs 3 4) ts 44]))) := by kernel_rfl
set_option maxRecDepth 100000 in
theorem t6_mk {p : In8} {xs : List Ad} {ys : List Tw} {ts : List (Bool × Option Nat)} {sum : Int} {i : Nat} : (exec cfgM 100 bb6 (fr 109 n6b (v6 p ts.length sum ++ [.int .i64 (i : Nat)])) (sMn p xs ys ts)).bind (canonK 7 [(0,0)] 109 n6n) =
 

 (.need (decide ((0 : Int) ≤ (↑i : Int)) && decide ((↑i : Int).toNat < p.1.length))

 (.need (decide ((↑i : Int).toNat < p.1.length))

 (.need (inR .u32 (p.1.getD (↑i : Int).toNat { v := (0 : Int), h := encU8._proof_2 }).v)

 (.need (true)

 (.need (inR .i64 ((p.1.getD (↑i : Int).toNat { v := (0 : Int), h := encU8._proof_2 }).v.tmod (12 : Int)))

 (.need (true)

 (.need (decide (ts.length = ts.length))

 (.need (roomy (ts.length + 1) 16)

 (.ret (.normal, [.ifc 74 (.ptr 7 0), .sli 5 (.c 0) 1 (.v p.1.length) (some (.v p.2)), .sli 6 (.c 0) 1 (.v p.3.length) (some (.v p.4)), .ptr 1 0, .sli 8 (.c 0) 1 (.v (ts.length + 1)) none, .int .u32 (IntKind.u32.wrap (sum + (p.1.getD (↑i : Int).toNat { v := (0 : Int), h := encU8._proof_2 }).v.tmod (12 : Int))), .int .i64 (↑i : Int)], [.ro encLook [PUnit.unit], .own [.c (.sli 2 (.c 0) 1 (.v 1) (some (.v 1))), .c (.int .i64 (0 : Int))] 67, .own [.a (encInt IntKind.u32) 1 [(0 : Int)]] 45, .many encAd xs 86, .many encTw ys 78, .ro encU8 p.1, .ro (encInt IntKind.i64) p.3, .own [.c (.lit .i64 (0 : Int)), .c (.int .i64 ((p.1.getD (↑i : Int).toNat { v := (0 : Int), h := encU8._proof_2 }).v.tmod (12 : Int))), .c (.bl false), .c (.lit .u32 (0 : Int)), .c (SVal.fn (Fn.func 27) [] [])] 78, .vec (encRow 0) (renRows [0, 1, 2, 3, 4, 5, 6, 8, 10] (encTsN 3 4 8) (ts ++ [(false, none)])) 44])))))))))) := by kernel_rfl
set_option maxRecDepth 100000 in
theorem t6_inc {p : In8} {xs : List Ad} {ys : List Tw} {ts : List (Bool × Nat)} {sum : Int} {i : Nat} : (exec cfgM 100 inc6 (fr 109 n6b (v6 p ts.length sum ++ [.int .i64 (i : Nat)])) (sMk p xs ys ts)).bind (canonK 7 [(0,0)] 109 n6b) =
 

 (.need (inR .i64 ((↑i : Int) + (1 : Int)))

 (.ret (.normal, [.sli 5 (.c 0) 1 (.v p.1.length) (some (.v p.2)), .sli 6 (.c 0) 1 (.v p.3.length) (some (.v p.4)), .ptr 1 0, .sli 7 (.c 0) 1 (.v ts.length) none, .int .u32 sum, .int .i64 ((↑i : Int) + (1 : Int))], [.ro encLook [PUnit.unit], .own [.c (.sli 2 (.c 0) 1 (.v 1) (some (.v 1))), .c (.int .i64 (0 : Int))] 67, .own [.a (encInt IntKind.u32) 1 [(0 : Int)]] 45, .many encAd xs 86, .many encTw ys 78, .ro encU8 p.1, .ro (encInt IntKind.i64) p.3, .vec (encTs 3 4) ts 44]))) := by kernel_rfl
set_option maxRecDepth 100000 in
theorem t6_new {p : In8} {xs : List Ad} {ys : List Tw} {ts : List (Bool × Nat)} {sum : Int} {i : Nat} : (execN cfgL 100 2 d6 (fr 109 n6b (v6 p ts.length sum ++ [.int .i64 (i : Nat)])) (sMk p xs ys ts)).bind (canonK 7 [(0,0)] 109 [0, 1, 5, 8, 11]) =
 

 (.eq (anyP cfgN 100 11 [.ptr 1 0, .sli 7 (.c 0) 1 (.v ts.length) none] [.ro encLook [PUnit.unit], .own [.c (.sli 2 (.c 0) 1 (.v 1) (some (.v 1))), .c (.int .i64 (0 : Int))] 67, .own [.a (encInt IntKind.u32) 1 [(0 : Int)]] 45, .many encAd xs 86, .many encTw ys 78, .ro encU8 p.1, .ro (encInt IntKind.i64) p.3, .vec (encTs 3 4) ts 44])

 (.need (decide (0 + ts.length ≤ ts.length))

 (.need (decide (0 + ts.length ≤ ts.length))

 (.need (roomy (List.take ts.length (List.drop 0 ts)).length 16)

 (.need (decide ((0 : Int) ≤ (↑ts.length : Int)))

 (.need (decide ((↑ts.length : Int) * (1 : Int) ≤ (140737488355328 : Int)))

 (.need (decide ((↑ts.length : Int) ≤ (4611686018427387904 : Int)))

 (.ret (.normal, [.sli 5 (.c 0) 1 (.v p.1.length) (some (.v p.2)), .sli 6 (.c 0) 1 (.v p.3.length) (some (.v p.4)), .ptr 1 0, .int .u32 sum, .ptr 7 0], [.ro encLook [PUnit.unit], .own [.c (.sli 2 (.c 0) 1 (.v 1) (some (.v 1))), .c (.int .i64 (0 : Int))] 67, .own [.a (encInt IntKind.u32) 1 [(0 : Int)]] 45, .many encAd xs 86, .many encTw ys 78, .ro encU8 p.1, .ro (encInt IntKind.i64) p.3, .own [.c (.ptr 1 0), .c (.sli 8 (.c 0) 1 (.v (List.take ts.length (List.drop 0 ts)).length) none), .c (.sli 9 (.c 0) 1 (.v (↑ts.length : Int).toNat) (some (.v (↑ts.length : Int).toNat)))] 70, .vec (encTs 3 4) (List.take ts.length (List.drop 0 ts)) 44, .own [.a encBool (↑ts.length : Int).toNat (List.replicate (↑ts.length : Int).toNat false)] 4]))))))))) := by kernel_rfl
end Go.Proofs.YtlnigpeoffaemaaDoor

/- StepsLose: the making of tasks. -/
namespace Go.Proofs.YtlnigpeoffaemaaDoor
open Go Go.Proofs.YtlnigpeoffaemaaDoor.Sx
set_option linter.unusedVariables false
def mkTw (u : U8) : Tw := ⟨0, u.v.tmod 12, false, 0, false⟩
def ysAt (p : In8) (i : Nat) : List Tw := (p.times.take i).map mkTw
def sumW (ys : List Tw) : Int := (ys.map (·.times)).sum
def tsB (i : Nat) : List (Bool × Nat) := (List.range i).map fun j => (false, j)
theorem tsB_len (i : Nat) : (tsB i).length = i := by simp [tsB]
theorem tsB_succ (i : Nat) : tsB (i + 1) = tsB i ++ [(false, i)] := by simp [tsB, List.range_succ]
theorem tmod12 (u : U8) : 0 ≤ u.v.tmod 12 ∧ u.v.tmod 12 ≤ 11 := by
  have := u.h
  rw [Int.tmod_eq_emod_of_nonneg this.1]; omega
theorem ysAt_len {p : In8} {i : Nat} (h : i ≤ p.times.length) : (ysAt p i).length = i := by simp [ysAt]; omega
theorem ysAt_succ {p : In8} {i : Nat} (h : i < p.times.length) : ysAt p (i + 1) = ysAt p i ++ [mkTw (p.times.getD i encU8.dflt)] := by
  unfold ysAt
  rw [List.take_add_one, List.map_append]
  simp [List.getD_eq_getElem?_getD, h]
theorem sumW_succ {p : In8} {i : Nat} (h : i < p.times.length) : sumW (ysAt p (i + 1)) = sumW (ysAt p i) + (p.times.getD i encU8.dflt).v.tmod 12 := by
  rw [ysAt_succ h, sumW, List.map_append, List.sum_append]
  simp [sumW, mkTw]
theorem w32_small {x : Int} (h : 0 ≤ x) (h' : x < 4294967296) : IntKind.u32.wrap x = x := wrap_inR (by rw [inR_u32]; omega)
theorem sumW_le {p : In8} : ∀ {i : Nat}, 0 ≤ sumW (ysAt p i) ∧ sumW (ysAt p i) ≤ 11 * i := by
  intro i
  have h : ∀ l : List U8, 0 ≤ ((l.map mkTw).map (·.times)).sum ∧ ((l.map mkTw).map (·.times)).sum ≤ 11 * l.length := by
    intro l
    induction l with
    | nil => simp
    | cons u l ih =>
      have := tmod12 u
      simp only [List.map_cons, List.sum_cons, mkTw, List.length_cons] at ih ⊢
      push_cast
      omega
  have := h (p.times.take i)
  have hl : (p.times.take i).length ≤ i := by simp; omega
  unfold sumW ysAt
  constructor
  · exact this.1
  · have := this.2; omega
abbrev Q6 (w0 : From) : Exit → Act → World → Prop := bodyPost Tryd.prog Tryd.f6 (Said w0)
def InvL (w0 : From) (p : In8) (i : Nat) (a : Act) (w : World) : Prop :=
  i ≤ p.times.length ∧ ∃ env, AtK [] [(0, 0)] w0 env (fr 109 n6b (v6 p i (sumW (ysAt p i)) ++ [.int .i64 (i : Nat)])) (sMk p [] (ysAt p i) (tsB i)) a w
abbrev RL (w0 : From) (p : In8) (i : Nat) : Exit → Act → World → Prop :=
  Exit.then (fun a' w' => ∃ k, InvL w0 p k a' w' ∧ p.times.length - k < p.times.length - i) (Exit.inBlock 0 (Exit.then (d6.wp Tryd.prog (Q6 w0)) (Q6 w0)))
theorem encN_ren (x : Bool × Option Nat) : renL [0, 1, 2, 3, 4, 5, 6, 8, 10] ((encTsN 3 4 8).enc x) = (encTsN 3 4 7).enc x := by
  match x with
  | (k, some i) => rfl
  | (k, none) => rfl
set_option maxHeartbeats 1000000 in
theorem roundL_ok {w0 : From} {p : In8} (h6 : p.times.length ≤ 6)
    (hd : ∀ {env : Env} {a : Act} {w : World}, AtK [] [(0, 0)] w0 env (fr 109 n6b (v6 p p.times.length (sumW (ysAt p p.times.length)) ++ [.int .i64 (p.times.length : Nat)])) (sMk p [] (ysAt p p.times.length) (tsB p.times.length)) a w → d6.wp Tryd.prog (Q6 w0) a w)
    {i : Nat} {a : Act} {w : World} (h : InvL w0 p i a w) : round6.wp Tryd.prog (RL w0 p i) a w := by
  obtain ⟨hi, env, hA⟩ := h
  refine wpS (by kernel_rfl) ?_
  have hlt := tsB_len i
  have hA' : AtK [] [(0, 0)] w0 env (fr 109 n6b (v6 p (tsB i).length (sumW (ysAt p i)) ++ [.int .i64 (i : Nat)])) (sMk p [] (ysAt p i) (tsB i)) a w := by rw [hlt]; exact hA
  refine pieceTK2 (c := cfgM) cfgM_ok n6b t6_tm (by simp) (by simp) hA' ?_
  refine all_brp (by simp only [decide_eq_true_eq]; exact Iff.rfl) (fun h1 => all_ret fun env1 a1 w1 hA1 => ?_) (fun h1 => all_ret fun env1 a1 w1 hA1 => ?_)
  · simp only [Ex.to, Exit.then]
    have hi' : i < p.times.length := by omega
    refine (show (rgt round6).wp Tryd.prog (RL w0 p i) a1 w1 from wpS (by kernel_rfl) (wpB 1 (by kernel_rfl) ?_))
    refine (show bb6.wp Tryd.prog (Exit.inBlock 1 (Exit.then (inc6.wp Tryd.prog (RL w0 p i)) (RL w0 p i))) a1 w1 from ?_)
    have hsl : (someT (tsB i)).length = (tsB i).length := by simp
    have hA2 : AtK [] [(0, 0)] w0 env1 (fr 109 n6b (v6 p (someT (tsB i)).length (sumW (ysAt p i)) ++ [.int .i64 (i : Nat)])) (sMn p [] (ysAt p i) (someT (tsB i))) a1 w1 := by
      rw [hsl]
      exact hA1.on fun h => h.typede 7 (E' := encTsN 3 4 8) (ys := someT (tsB i)) rfl (by simp) rfl (fun cs h => someT_den h)
    refine pieceTK2 (c := cfgM) cfgM_ok n6n t6_mk (by simp) (by simp) hA2 ?_
    have hs := sumW_succ hi'
    have hx := ysAt_succ hi'
    simp only [Int.toNat_natCast]
    rw [show encU8.dflt = (⟨0, by omega⟩ : U8) from rfl] at hs hx
    have hu := tmod12 (p.times.getD i ⟨0, by omega⟩)
    have hur := (p.times.getD i ⟨0, by omega⟩).h
    have hle := sumW_le (p := p) (i := i)
    refine all_needq (by simp only [decide_eq_true_eq, Bool.and_eq_true]; exact Iff.rfl) (by omega) ?_
    refine all_needq (by simp only [decide_eq_true_eq]; exact Iff.rfl) (by omega) ?_
    refine all_needq (by simp only [inR_u32]; exact Iff.rfl) (by omega) ?_
    refine all_need rfl fun _ => ?_
    refine all_needq (by simp only [inR_i64]; exact Iff.rfl) (by omega) ?_
    refine all_need rfl fun _ => ?_
    refine all_need (by simp) fun _ => ?_
    refine all_needq (by simp only [roomy_iff]; exact Iff.rfl) (by rw [hsl, hlt]; omega) ?_
    refine all_ret fun env2 a2 w2 hA3 => ?_
    rw [w32_small (by omega) (by omega), ← hs, hsl, hlt] at hA3
    have hA4 := hA3.on fun h => h.retype 8 (E := encTsN 3 4 8) rfl (encTsN 3 4 7) rfl encN_ren
    obtain ⟨env4, hA5, hj⟩ := hA4.join2 4 7 (by omega) (by simp) (E := encTw) (xs := ysAt p i) rfl rfl (mkTw (p.times.getD i ⟨0, by omega⟩)) (fun env cs h => by
      simpa [segCells, Seg.cells, encTw, encOf, mkTw, DenL, Den] using h)
    rw [ysAt_len (by omega)] at hj
    have hA6 := hA5.on fun h => h.typede 8 (E' := encTs 3 4) (ys := tsB i ++ [(false, i)]) rfl (by simp) rfl (fun cs h => tsN_tw (fun v => hj v 0) h)
    have hA7 := hA6.perm [0, 1, 2, 3, 4, 5, 6, 8] (by kernel_rfl) (by kernel_rfl) (st' := sMk p [] (ysAt p (i + 1)) (tsB (i + 1))) (vals' := .ifc 74 .bad :: (v6 p (i + 1) (sumW (ysAt p (i + 1))) ++ [SVal.int .i64 (i : Nat)])) (by rw [hx, tsB_succ]; rfl) rfl rfl
    have hA8 := hA7.on fun h => h.drop1 rfl
    simp only [Ex.to, Exit.inBlock, Exit.then]
    have hlt1 := tsB_len (i + 1)
    refine (show inc6.wp Tryd.prog (RL w0 p i) a2 w2 from ?_)
    obtain ⟨envZ, hA9⟩ : ∃ envZ, AtK [] [(0, 0)] w0 envZ (fr 109 n6b (v6 p (tsB (i + 1)).length (sumW (ysAt p (i + 1))) ++ [.int .i64 (i : Nat)])) (sMk p [] (ysAt p (i + 1)) (tsB (i + 1))) a2 w2 := ⟨_, by rw [hlt1]; exact hA8⟩
    refine pieceTK2 (c := cfgM) cfgM_ok n6b t6_inc (by simp) (by simp) hA9 ?_
    refine all_needp (by simp only [inR_i64]; exact Iff.rfl) (by omega) fun _ => all_ret fun env' a' w' hA9 => ?_
    refine ⟨i + 1, ⟨by omega, env', ?_⟩, by omega⟩
    rw [hlt1] at hA9
    exact hA9
  · have : i = p.times.length := by omega
    subst this
    simp only [Ex.to, Exit.then, Exit.inBlock, if_true]
    rw [hlt] at hA1
    exact hd hA1
end Go.Proofs.YtlnigpeoffaemaaDoor

/- StepsLose: its second loop and its end: states. -/
namespace Go.Proofs.YtlnigpeoffaemaaDoor
open Go Go.Proofs.YtlnigpeoffaemaaDoor.Sx
set_option linter.unusedVariables false
abbrev sL (p : In8) (m : Nat) (ts : List (Bool × Nat)) (s : Mc) : St := mcS 1 m ts s ++ [.ro encU8 p.times, .ro (encInt .i64) p.picks]
abbrev n6c : List Nat := [0, 1, 5, 8, 11]
abbrev n6d : List Nat := [0, 1, 5, 8, 11, 12]
abbrev v6b (p : In8) (sum : Int) : List SVal := [timesV p 8, picksV p 9, .ptr 1 0, .int .u32 sum, .ptr 5 0]
end Go.Proofs.YtlnigpeoffaemaaDoor

namespace Go.Proofs.YtlnigpeoffaemaaDoor
open Go Go.Proofs.YtlnigpeoffaemaaDoor.Sx
set_option linter.unusedVariables false
set_option maxRecDepth 100000 in
theorem t6_regb {p : In8} {m : Nat} {ts : List (Bool × Nat)} {s : Mc} {sum : Int} : (exec cfgM 100 reg6b (fr 109 n6c (v6b p sum)) (sL p m ts s)).bind (canonK 10 [(0,0)] 109 n6d) =
 

 (.ret (.normal, [.sli 8 (.c 0) 1 (.v p.1.length) (some (.v p.2)), .sli 9 (.c 0) 1 (.v p.3.length) (some (.v p.4)), .ptr 1 0, .int .u32 sum, .ptr 5 0, .lit .i64 (0 : Int)], [.ro encLook [PUnit.unit], .own [.c (.sli 2 (.c 0) 1 (.v 1) (some (.v 1))), .c (.int .i64 s.2)] 67, .own [.a (encInt IntKind.u32) 1 s.1] 45, .many encAd s.3 86, .many encTw s.4 78, .own [.c (.ptr 1 0), .c (.sli 6 (.c 0) 1 (.v m) none), .c (.sli 7 (.c 0) 1 (.v m) (some (.v m)))] 70, .vec (encTs 3 4) ts 44, .own [.a encBool m s.5] 4, .ro encU8 p.1, .ro (encInt IntKind.i64) p.3])) := by kernel_rfl
set_option maxRecDepth 100000 in
theorem t6_tmb {p : In8} {m : Nat} {ts : List (Bool × Nat)} {s : Mc} {sum : Int} {i : Nat} : (exec cfgM 100 tm6b (fr 109 n6d (v6b p sum ++ [.int .i64 (i : Nat)])) (sL p m ts s)).bind (canonK 10 [(0,0)] 109 n6d) =
 

 (.br (decide ((↑i : Int) < (↑p.3.length : Int)))

 (.br (decide ((↑i : Int) < (200 : Int)))

 (.ret (.normal, [.sli 8 (.c 0) 1 (.v p.1.length) (some (.v p.2)), .sli 9 (.c 0) 1 (.v p.3.length) (some (.v p.4)), .ptr 1 0, .int .u32 sum, .ptr 5 0, .int .i64 (↑i : Int)], [.ro encLook [PUnit.unit], .own [.c (.sli 2 (.c 0) 1 (.v 1) (some (.v 1))), .c (.int .i64 s.2)] 67, .own [.a (encInt IntKind.u32) 1 s.1] 45, .many encAd s.3 86, .many encTw s.4 78, .own [.c (.ptr 1 0), .c (.sli 6 (.c 0) 1 (.v m) none), .c (.sli 7 (.c 0) 1 (.v m) (some (.v m)))] 70, .vec (encTs 3 4) ts 44, .own [.a encBool m s.5] 4, .ro encU8 p.1, .ro (encInt IntKind.i64) p.3]))

 (.ret (.exit 2, [.sli 8 (.c 0) 1 (.v p.1.length) (some (.v p.2)), .sli 9 (.c 0) 1 (.v p.3.length) (some (.v p.4)), .ptr 1 0, .int .u32 sum, .ptr 5 0, .int .i64 (↑i : Int)], [.ro encLook [PUnit.unit], .own [.c (.sli 2 (.c 0) 1 (.v 1) (some (.v 1))), .c (.int .i64 s.2)] 67, .own [.a (encInt IntKind.u32) 1 s.1] 45, .many encAd s.3 86, .many encTw s.4 78, .own [.c (.ptr 1 0), .c (.sli 6 (.c 0) 1 (.v m) none), .c (.sli 7 (.c 0) 1 (.v m) (some (.v m)))] 70, .vec (encTs 3 4) ts 44, .own [.a encBool m s.5] 4, .ro encU8 p.1, .ro (encInt IntKind.i64) p.3])))

 (.ret (.exit 2, [.sli 8 (.c 0) 1 (.v p.1.length) (some (.v p.2)), .sli 9 (.c 0) 1 (.v p.3.length) (some (.v p.4)), .ptr 1 0, .int .u32 sum, .ptr 5 0, .int .i64 (↑i : Int)], [.ro encLook [PUnit.unit], .own [.c (.sli 2 (.c 0) 1 (.v 1) (some (.v 1))), .c (.int .i64 s.2)] 67, .own [.a (encInt IntKind.u32) 1 s.1] 45, .many encAd s.3 86, .many encTw s.4 78, .own [.c (.ptr 1 0), .c (.sli 6 (.c 0) 1 (.v m) none), .c (.sli 7 (.c 0) 1 (.v m) (some (.v m)))] 70, .vec (encTs 3 4) ts 44, .own [.a encBool m s.5] 4, .ro encU8 p.1, .ro (encInt IntKind.i64) p.3]))) := by kernel_rfl
set_option maxRecDepth 100000 in
theorem t6_pickb {p : In8} {m : Nat} {ts : List (Bool × Nat)} {s : Mc} {sum : Int} {i : Nat} : (exec (cfgQ 1 m ts s) 100 bb6b (fr 109 n6d (v6b p sum ++ [.int .i64 (i : Nat)])) (sL p m ts s)).bind (canonK 10 [(0,0)] 109 n6d) =
 

 (.need (decide ((0 : Int) ≤ (↑i : Int)) && decide ((↑i : Int).toNat < p.3.length))

 (.need (decide ((↑i : Int).toNat < p.3.length))

 (.eq ([Blk.ro encLook [PUnit.unit], .own [.c (.sli 2 (.c 0) 1 (.v 1) (some (.v 1))), .c (.int .i64 s.2)] 67, .own [.a (encInt IntKind.u32) 1 s.1] 45, .many encAd s.3 86, .many encTw s.4 78, .own [.c (.ptr 1 0), .c (.sli 6 (.c 0) 1 (.v m) none), .c (.sli 7 (.c 0) 1 (.v m) (some (.v m)))] 70, .vec (encTs 3 4) ts 44, .own [.a encBool m s.5] 4] = [Blk.ro encLook [PUnit.unit], .own [.c (.sli 2 (.c 0) 1 (.v 1) (some (.v 1))), .c (.int .i64 s.2)] 67, .own [.a (encInt IntKind.u32) 1 s.1] 45, .many encAd s.3 86, .many encTw s.4 78, .own [.c (.ptr 1 0), .c (.sli 6 (.c 0) 1 (.v m) none), .c (.sli 7 (.c 0) 1 (.v m) (some (.v m)))] 70, .vec (encTs 3 4) ts 44, .own [.a encBool m s.5] 4] ∧ McOk 1 m ts s)

 (.ret (.normal, [.sli 8 (.c 0) 1 (.v p.1.length) (some (.v p.2)), .sli 9 (.c 0) 1 (.v p.3.length) (some (.v p.4)), .ptr 1 0, .int .u32 sum, .ptr 5 0, .int .i64 (↑i : Int)], [.ro encLook [PUnit.unit], .own [.c (.sli 2 (.c 0) 1 (.v 1) (some (.v 1))), .c (.int .i64 (pickP m ts s (p.3.getD (↑i : Int).toNat (0 : Int))).c)] 67, .own [.a (encInt IntKind.u32) 1 (pickP m ts s (p.3.getD (↑i : Int).toNat (0 : Int))).l] 45, .many encAd (pickP m ts s (p.3.getD (↑i : Int).toNat (0 : Int))).ad 86, .many encTw (pickP m ts s (p.3.getD (↑i : Int).toNat (0 : Int))).tw 78, .own [.c (.ptr 1 0), .c (.sli 6 (.c 0) 1 (.v m) none), .c (.sli 7 (.c 0) 1 (.v m) (some (.v m)))] 70, .vec (encTs 3 4) ts 44, .own [.a encBool m (pickP m ts s (p.3.getD (↑i : Int).toNat (0 : Int))).ds] 4, .ro encU8 p.1, .ro (encInt IntKind.i64) p.3]))))) := by kernel_rfl
set_option maxRecDepth 100000 in
theorem t6_incb {p : In8} {m : Nat} {ts : List (Bool × Nat)} {s : Mc} {sum : Int} {i : Nat} : (exec cfgM 100 inc6b (fr 109 n6d (v6b p sum ++ [.int .i64 (i : Nat)])) (sL p m ts s)).bind (canonK 10 [(0,0)] 109 n6d) =
 

 (.need (inR .i64 ((↑i : Int) + (1 : Int)))

 (.ret (.normal, [.sli 8 (.c 0) 1 (.v p.1.length) (some (.v p.2)), .sli 9 (.c 0) 1 (.v p.3.length) (some (.v p.4)), .ptr 1 0, .int .u32 sum, .ptr 5 0, .int .i64 ((↑i : Int) + (1 : Int))], [.ro encLook [PUnit.unit], .own [.c (.sli 2 (.c 0) 1 (.v 1) (some (.v 1))), .c (.int .i64 s.2)] 67, .own [.a (encInt IntKind.u32) 1 s.1] 45, .many encAd s.3 86, .many encTw s.4 78, .own [.c (.ptr 1 0), .c (.sli 6 (.c 0) 1 (.v m) none), .c (.sli 7 (.c 0) 1 (.v m) (some (.v m)))] 70, .vec (encTs 3 4) ts 44, .own [.a encBool m s.5] 4, .ro encU8 p.1, .ro (encInt IntKind.i64) p.3]))) := by kernel_rfl
set_option maxRecDepth 100000 in
theorem t6_end1 {p : In8} {m : Nat} {ts : List (Bool × Nat)} {s : Mc} {sum : Int} {i : Nat} : (execN (cfgS 1 m ts s) 100 1 f6' (fr 109 n6d (v6b p sum ++ [.int .i64 (i : Nat)])) (sL p m ts s)).bind (canonK 10 [(0,0)] 109 n6c) =
 

 (.eq ([Blk.ro encLook [PUnit.unit], .own [.c (.sli 2 (.c 0) 1 (.v 1) (some (.v 1))), .c (.int .i64 s.2)] 67, .own [.a (encInt IntKind.u32) 1 s.1] 45, .many encAd s.3 86, .many encTw s.4 78, .own [.c (.ptr 1 0), .c (.sli 6 (.c 0) 1 (.v m) none), .c (.sli 7 (.c 0) 1 (.v m) (some (.v m)))] 70, .vec (encTs 3 4) ts 44, .own [.a encBool m s.5] 4] = [Blk.ro encLook [PUnit.unit], .own [.c (.sli 2 (.c 0) 1 (.v 1) (some (.v 1))), .c (.int .i64 s.2)] 67, .own [.a (encInt IntKind.u32) 1 s.1] 45, .many encAd s.3 86, .many encTw s.4 78, .own [.c (.ptr 1 0), .c (.sli 6 (.c 0) 1 (.v m) none), .c (.sli 7 (.c 0) 1 (.v m) (some (.v m)))] 70, .vec (encTs 3 4) ts 44, .own [.a encBool m s.5] 4] ∧ McOk 1 m ts s ∧ m ≤ 1000 ∧ (500 : Int) ≤ (1000000 : Int))

 (.ret (.normal, [.sli 8 (.c 0) 1 (.v p.1.length) (some (.v p.2)), .sli 9 (.c 0) 1 (.v p.3.length) (some (.v p.4)), .ptr 1 0, .int .u32 sum, .ptr 5 0], [.ro encLook [PUnit.unit], .own [.c (.sli 2 (.c 0) 1 (.v 1) (some (.v 1))), .c (.int .i64 (endP m ts s 500).c)] 67, .own [.a (encInt IntKind.u32) 1 (endP m ts s 500).l] 45, .many encAd (endP m ts s 500).ad 86, .many encTw (endP m ts s 500).tw 78, .own [.c (.ptr 1 0), .c (.sli 6 (.c 0) 1 (.v m) none), .c (.sli 7 (.c 0) 1 (.v m) (some (.v m)))] 70, .vec (encTs 3 4) ts 44, .own [.a encBool m (endP m ts s 500).ds] 4, .ro encU8 p.1, .ro (encInt IntKind.i64) p.3]))) := by kernel_rfl
set_option maxRecDepth 100000 in
theorem t6_end2 {p : In8} {m : Nat} {ts : List (Bool × Nat)} {s : Mc} {sum : Int} : (execN (cfgQ 1 m ts s) 100 1 (restC 1 f6') (fr 109 n6c (v6b p sum)) (sL p m ts s)).bind (canonK 10 [(0,0)] 109 [0, 1, 5, 8, 11, 13]) =
 

 (.eq ([Blk.ro encLook [PUnit.unit], .own [.c (.sli 2 (.c 0) 1 (.v 1) (some (.v 1))), .c (.int .i64 s.2)] 67, .own [.a (encInt IntKind.u32) 1 s.1] 45] = [Blk.ro encLook [PUnit.unit], .own [.c (.sli 2 (.c 0) 1 (.v 1) (some (.v 1))), .c (.int .i64 s.2)] 67, .own [.a (encInt IntKind.u32) 1 s.1] 45] ∧ s.1.length = 1)

 (.br (true)

 (.ret (.normal, [.sli 8 (.c 0) 1 (.v p.1.length) (some (.v p.2)), .sli 9 (.c 0) 1 (.v p.3.length) (some (.v p.4)), .ptr 1 0, .int .u32 sum, .ptr 5 0, .int .u32 (s.1.getD 0 (0 : Int))], [.ro encLook [PUnit.unit], .own [.c (.sli 2 (.c 0) 1 (.v 1) (some (.v 1))), .c (.int .i64 (upP s.2))] 67, .own [.a (encInt IntKind.u32) 1 s.1] 45, .many encAd s.3 86, .many encTw s.4 78, .own [.c (.ptr 1 0), .c (.sli 6 (.c 0) 1 (.v m) none), .c (.sli 7 (.c 0) 1 (.v m) (some (.v m)))] 70, .vec (encTs 3 4) ts 44, .own [.a encBool m s.5] 4, .ro encU8 p.1, .ro (encInt IntKind.i64) p.3]))

 (.ret (.normal, [.sli 8 (.c 0) 1 (.v p.1.length) (some (.v p.2)), .sli 9 (.c 0) 1 (.v p.3.length) (some (.v p.4)), .ptr 1 0, .int .u32 sum, .ptr 5 0, .lit .u32 (0 : Int)], [.ro encLook [PUnit.unit], .own [.c (.sli 2 (.c 0) 1 (.v 1) (some (.v 1))), .c (.int .i64 s.2)] 67, .own [.a (encInt IntKind.u32) 1 s.1] 45, .many encAd s.3 86, .many encTw s.4 78, .own [.c (.ptr 1 0), .c (.sli 6 (.c 0) 1 (.v m) none), .c (.sli 7 (.c 0) 1 (.v m) (some (.v m)))] 70, .vec (encTs 3 4) ts 44, .own [.a encBool m s.5] 4, .ro encU8 p.1, .ro (encInt IntKind.i64) p.3])))) := by kernel_rfl
set_option maxRecDepth 100000 in
theorem t6_end3 {p : In8} {m : Nat} {ts : List (Bool × Nat)} {s : Mc} {sum v : Int} : (exec (cfgR 1 m ts s) 100 (restC 2 f6') (fr 109 [0, 1, 5, 8, 11, 13] (v6b p sum ++ [.int .u32 v])) (sL p m ts s)).bind (canonK 10 [(0,0)] 109 [4]) =
 

 (.br ((↑p.1.length : Int) == (1 : Int))

 (.br (v != sum)

 (.ret (.ret, [.bl false], [.ro encLook [PUnit.unit], .own [.c (.sli 2 (.c 0) 1 (.v 1) (some (.v 1))), .c (.int .i64 s.2)] 67, .own [.a (encInt IntKind.u32) 1 s.1] 45, .many encAd s.3 86, .many encTw s.4 78, .own [.c (.ptr 1 0), .c (.sli 6 (.c 0) 1 (.v m) none), .c (.sli 7 (.c 0) 1 (.v m) (some (.v m)))] 70, .vec (encTs 3 4) ts 44, .own [.a encBool m s.5] 4, .ro encU8 p.1, .ro (encInt IntKind.i64) p.3]))

 (.br (decide ((0 : Int) < sum))

 (.br (decide (v < (1 : Int)))

 (.ret (.ret, [.bl false], [.ro encLook [PUnit.unit], .own [.c (.sli 2 (.c 0) 1 (.v 1) (some (.v 1))), .c (.int .i64 s.2)] 67, .own [.a (encInt IntKind.u32) 1 s.1] 45, .many encAd s.3 86, .many encTw s.4 78, .own [.c (.ptr 1 0), .c (.sli 6 (.c 0) 1 (.v m) none), .c (.sli 7 (.c 0) 1 (.v m) (some (.v m)))] 70, .vec (encTs 3 4) ts 44, .own [.a encBool m s.5] 4, .ro encU8 p.1, .ro (encInt IntKind.i64) p.3]))

 (.eq ([Blk.ro encLook [PUnit.unit], .own [.c (.sli 2 (.c 0) 1 (.v 1) (some (.v 1))), .c (.int .i64 s.2)] 67, .own [.a (encInt IntKind.u32) 1 s.1] 45, .many encAd s.3 86, .many encTw s.4 78, .own [.c (.ptr 1 0), .c (.sli 6 (.c 0) 1 (.v m) none), .c (.sli 7 (.c 0) 1 (.v m) (some (.v m)))] 70, .vec (encTs 3 4) ts 44, .own [.a encBool m s.5] 4] = [Blk.ro encLook [PUnit.unit], .own [.c (.sli 2 (.c 0) 1 (.v 1) (some (.v 1))), .c (.int .i64 s.2)] 67, .own [.a (encInt IntKind.u32) 1 s.1] 45, .many encAd s.3 86, .many encTw s.4 78, .own [.c (.ptr 1 0), .c (.sli 6 (.c 0) 1 (.v m) none), .c (.sli 7 (.c 0) 1 (.v m) (some (.v m)))] 70, .vec (encTs 3 4) ts 44, .own [.a encBool m s.5] 4] ∧ s.5.length = m ∧ m ≤ 1000)

 (.br (leftP s.5 == (0 : Int))

 (.ret (.ret, [.sb (decide (v ≤ sum))], [.ro encLook [PUnit.unit], .own [.c (.sli 2 (.c 0) 1 (.v 1) (some (.v 1))), .c (.int .i64 s.2)] 67, .own [.a (encInt IntKind.u32) 1 s.1] 45, .many encAd s.3 86, .many encTw s.4 78, .own [.c (.ptr 1 0), .c (.sli 6 (.c 0) 1 (.v m) none), .c (.sli 7 (.c 0) 1 (.v m) (some (.v m)))] 70, .vec (encTs 3 4) ts 44, .own [.a encBool m s.5] 4, .ro encU8 p.1, .ro (encInt IntKind.i64) p.3]))

 (.ret (.ret, [.bl false], [.ro encLook [PUnit.unit], .own [.c (.sli 2 (.c 0) 1 (.v 1) (some (.v 1))), .c (.int .i64 s.2)] 67, .own [.a (encInt IntKind.u32) 1 s.1] 45, .many encAd s.3 86, .many encTw s.4 78, .own [.c (.ptr 1 0), .c (.sli 6 (.c 0) 1 (.v m) none), .c (.sli 7 (.c 0) 1 (.v m) (some (.v m)))] 70, .vec (encTs 3 4) ts 44, .own [.a encBool m s.5] 4, .ro encU8 p.1, .ro (encInt IntKind.i64) p.3])))))

 (.eq ([Blk.ro encLook [PUnit.unit], .own [.c (.sli 2 (.c 0) 1 (.v 1) (some (.v 1))), .c (.int .i64 s.2)] 67, .own [.a (encInt IntKind.u32) 1 s.1] 45, .many encAd s.3 86, .many encTw s.4 78, .own [.c (.ptr 1 0), .c (.sli 6 (.c 0) 1 (.v m) none), .c (.sli 7 (.c 0) 1 (.v m) (some (.v m)))] 70, .vec (encTs 3 4) ts 44, .own [.a encBool m s.5] 4] = [Blk.ro encLook [PUnit.unit], .own [.c (.sli 2 (.c 0) 1 (.v 1) (some (.v 1))), .c (.int .i64 s.2)] 67, .own [.a (encInt IntKind.u32) 1 s.1] 45, .many encAd s.3 86, .many encTw s.4 78, .own [.c (.ptr 1 0), .c (.sli 6 (.c 0) 1 (.v m) none), .c (.sli 7 (.c 0) 1 (.v m) (some (.v m)))] 70, .vec (encTs 3 4) ts 44, .own [.a encBool m s.5] 4] ∧ s.5.length = m ∧ m ≤ 1000)

 (.br (leftP s.5 == (0 : Int))

 (.ret (.ret, [.sb (decide (v ≤ sum))], [.ro encLook [PUnit.unit], .own [.c (.sli 2 (.c 0) 1 (.v 1) (some (.v 1))), .c (.int .i64 s.2)] 67, .own [.a (encInt IntKind.u32) 1 s.1] 45, .many encAd s.3 86, .many encTw s.4 78, .own [.c (.ptr 1 0), .c (.sli 6 (.c 0) 1 (.v m) none), .c (.sli 7 (.c 0) 1 (.v m) (some (.v m)))] 70, .vec (encTs 3 4) ts 44, .own [.a encBool m s.5] 4, .ro encU8 p.1, .ro (encInt IntKind.i64) p.3]))

 (.ret (.ret, [.bl false], [.ro encLook [PUnit.unit], .own [.c (.sli 2 (.c 0) 1 (.v 1) (some (.v 1))), .c (.int .i64 s.2)] 67, .own [.a (encInt IntKind.u32) 1 s.1] 45, .many encAd s.3 86, .many encTw s.4 78, .own [.c (.ptr 1 0), .c (.sli 6 (.c 0) 1 (.v m) none), .c (.sli 7 (.c 0) 1 (.v m) (some (.v m)))] 70, .vec (encTs 3 4) ts 44, .own [.a encBool m s.5] 4, .ro encU8 p.1, .ro (encInt IntKind.i64) p.3]))))))

 (.br (decide ((0 : Int) < sum))

 (.br (decide (v < (1 : Int)))

 (.ret (.ret, [.bl false], [.ro encLook [PUnit.unit], .own [.c (.sli 2 (.c 0) 1 (.v 1) (some (.v 1))), .c (.int .i64 s.2)] 67, .own [.a (encInt IntKind.u32) 1 s.1] 45, .many encAd s.3 86, .many encTw s.4 78, .own [.c (.ptr 1 0), .c (.sli 6 (.c 0) 1 (.v m) none), .c (.sli 7 (.c 0) 1 (.v m) (some (.v m)))] 70, .vec (encTs 3 4) ts 44, .own [.a encBool m s.5] 4, .ro encU8 p.1, .ro (encInt IntKind.i64) p.3]))

 (.eq ([Blk.ro encLook [PUnit.unit], .own [.c (.sli 2 (.c 0) 1 (.v 1) (some (.v 1))), .c (.int .i64 s.2)] 67, .own [.a (encInt IntKind.u32) 1 s.1] 45, .many encAd s.3 86, .many encTw s.4 78, .own [.c (.ptr 1 0), .c (.sli 6 (.c 0) 1 (.v m) none), .c (.sli 7 (.c 0) 1 (.v m) (some (.v m)))] 70, .vec (encTs 3 4) ts 44, .own [.a encBool m s.5] 4] = [Blk.ro encLook [PUnit.unit], .own [.c (.sli 2 (.c 0) 1 (.v 1) (some (.v 1))), .c (.int .i64 s.2)] 67, .own [.a (encInt IntKind.u32) 1 s.1] 45, .many encAd s.3 86, .many encTw s.4 78, .own [.c (.ptr 1 0), .c (.sli 6 (.c 0) 1 (.v m) none), .c (.sli 7 (.c 0) 1 (.v m) (some (.v m)))] 70, .vec (encTs 3 4) ts 44, .own [.a encBool m s.5] 4] ∧ s.5.length = m ∧ m ≤ 1000)

 (.br (leftP s.5 == (0 : Int))

 (.ret (.ret, [.sb (decide (v ≤ sum))], [.ro encLook [PUnit.unit], .own [.c (.sli 2 (.c 0) 1 (.v 1) (some (.v 1))), .c (.int .i64 s.2)] 67, .own [.a (encInt IntKind.u32) 1 s.1] 45, .many encAd s.3 86, .many encTw s.4 78, .own [.c (.ptr 1 0), .c (.sli 6 (.c 0) 1 (.v m) none), .c (.sli 7 (.c 0) 1 (.v m) (some (.v m)))] 70, .vec (encTs 3 4) ts 44, .own [.a encBool m s.5] 4, .ro encU8 p.1, .ro (encInt IntKind.i64) p.3]))

 (.ret (.ret, [.bl false], [.ro encLook [PUnit.unit], .own [.c (.sli 2 (.c 0) 1 (.v 1) (some (.v 1))), .c (.int .i64 s.2)] 67, .own [.a (encInt IntKind.u32) 1 s.1] 45, .many encAd s.3 86, .many encTw s.4 78, .own [.c (.ptr 1 0), .c (.sli 6 (.c 0) 1 (.v m) none), .c (.sli 7 (.c 0) 1 (.v m) (some (.v m)))] 70, .vec (encTs 3 4) ts 44, .own [.a encBool m s.5] 4, .ro encU8 p.1, .ro (encInt IntKind.i64) p.3])))))

 (.eq ([Blk.ro encLook [PUnit.unit], .own [.c (.sli 2 (.c 0) 1 (.v 1) (some (.v 1))), .c (.int .i64 s.2)] 67, .own [.a (encInt IntKind.u32) 1 s.1] 45, .many encAd s.3 86, .many encTw s.4 78, .own [.c (.ptr 1 0), .c (.sli 6 (.c 0) 1 (.v m) none), .c (.sli 7 (.c 0) 1 (.v m) (some (.v m)))] 70, .vec (encTs 3 4) ts 44, .own [.a encBool m s.5] 4] = [Blk.ro encLook [PUnit.unit], .own [.c (.sli 2 (.c 0) 1 (.v 1) (some (.v 1))), .c (.int .i64 s.2)] 67, .own [.a (encInt IntKind.u32) 1 s.1] 45, .many encAd s.3 86, .many encTw s.4 78, .own [.c (.ptr 1 0), .c (.sli 6 (.c 0) 1 (.v m) none), .c (.sli 7 (.c 0) 1 (.v m) (some (.v m)))] 70, .vec (encTs 3 4) ts 44, .own [.a encBool m s.5] 4] ∧ s.5.length = m ∧ m ≤ 1000)

 (.br (leftP s.5 == (0 : Int))

 (.ret (.ret, [.sb (decide (v ≤ sum))], [.ro encLook [PUnit.unit], .own [.c (.sli 2 (.c 0) 1 (.v 1) (some (.v 1))), .c (.int .i64 s.2)] 67, .own [.a (encInt IntKind.u32) 1 s.1] 45, .many encAd s.3 86, .many encTw s.4 78, .own [.c (.ptr 1 0), .c (.sli 6 (.c 0) 1 (.v m) none), .c (.sli 7 (.c 0) 1 (.v m) (some (.v m)))] 70, .vec (encTs 3 4) ts 44, .own [.a encBool m s.5] 4, .ro encU8 p.1, .ro (encInt IntKind.i64) p.3]))

 (.ret (.ret, [.bl false], [.ro encLook [PUnit.unit], .own [.c (.sli 2 (.c 0) 1 (.v 1) (some (.v 1))), .c (.int .i64 s.2)] 67, .own [.a (encInt IntKind.u32) 1 s.1] 45, .many encAd s.3 86, .many encTw s.4 78, .own [.c (.ptr 1 0), .c (.sli 6 (.c 0) 1 (.v m) none), .c (.sli 7 (.c 0) 1 (.v m) (some (.v m)))] 70, .vec (encTs 3 4) ts 44, .own [.a encBool m s.5] 4, .ro encU8 p.1, .ro (encInt IntKind.i64) p.3])))))) := by kernel_rfl
end Go.Proofs.YtlnigpeoffaemaaDoor

/- StepsLose, plain: of tasks that load and store something may get lost, but not all. -/
namespace Go.Proofs.YtlnigpeoffaemaaDoor
open Go Go.Proofs.YtlnigpeoffaemaaDoor.Sx
set_option linter.unusedVariables false
theorem w32_mod (x : Int) : IntKind.u32.wrap x = x % 4294967296 := by
  simp [IntKind.wrap, IntKind.signed, IntKind.bits]
theorem low_u32 (x : Int) : ((low .u32 x : Nat) : Int) = x % 4294967296 := by
  have : 0 ≤ x % 4294967296 := by omega
  simp only [low, IntKind.bits]
  omega
theorem low_lt (x : Int) : low .u32 x < 4294967296 := by
  have := low_u32 x
  omega
theorem and_mask (x : Int) : bitop .and .u32 x 4294967295 = x % 4294967296 := by
  have h1 : low .u32 4294967295 = 2 ^ 32 - 1 := by decide
  have h2 := low_lt x
  simp only [bitop, h1, Nat.and_two_pow_sub_one_eq_mod, w32_mod]
  rw [Nat.mod_eq_of_lt (by omega), low_u32]
  omega
theorem and_zero (x : Int) : bitop .and .u32 x 0 = 0 := by
  have h1 : low .u32 0 = 0 := by decide
  simp only [bitop, h1, Nat.and_zero, w32_mod]
  rfl
theorem or_zero (x : Int) : bitop .or .u32 x 0 = x % 4294967296 := by
  have h1 : low .u32 0 = 0 := by decide
  simp only [bitop, h1, Nat.or_zero, w32_mod, low_u32]
  omega
theorem zero_or (x : Int) : bitop .or .u32 0 x = x % 4294967296 := by
  have h1 : low .u32 0 = 0 := by decide
  simp only [bitop, h1, Nat.zero_or, w32_mod, low_u32]
  omega
theorem incP_ok (x : Int) : incP x = (x + 1) % 4294967296 := by
  simp only [incP, and_mask, or_zero, w32_mod]; omega
theorem setP_ok (x v : Int) : setP x v = v % 4294967296 := by
  simp only [setP, and_zero, zero_or, w32_mod]; omega
theorem tsB_at {m i : Nat} (h : i < m) : tsAt (tsB m) i = (false, i) := by
  simp [tsAt, tsB, List.getD_eq_getElem?_getD, h]
theorem sumW_set : ∀ {ys : List Tw} {i : Nat} (h : i < ys.length) (y : Tw), sumW (ys.set i y) = sumW ys - (ys.getD i encTw.dflt).times + y.times
  | x :: ys, 0, _, y => by simp [sumW]; omega
  | x :: ys, i + 1, h, y => by
    have ih := sumW_set (ys := ys) (i := i) (by simpa using h) y
    simp only [sumW, List.set_cons_succ, List.map_cons, List.sum_cons, List.getD_cons_succ] at ih ⊢
    omega
theorem sumW_nonneg : ∀ {ys : List Tw}, (∀ i, i < ys.length → 0 ≤ (ys.getD i encTw.dflt).times) → 0 ≤ sumW ys
  | [], _ => by simp [sumW]
  | x :: ys, h => by
    have ih := sumW_nonneg (ys := ys) (fun i hi => h (i + 1) (by simpa using hi))
    have h0 := h 0 (by simp)
    simp only [sumW, List.map_cons, List.sum_cons, List.getD_cons_zero] at ih h0 ⊢
    omega
theorem sumW_zero : ∀ {ys : List Tw}, (∀ i, i < ys.length → (ys.getD i encTw.dflt).times = 0) → sumW ys = 0
  | [], _ => by simp [sumW]
  | x :: ys, h => by
    have ih := sumW_zero (ys := ys) (fun i hi => h (i + 1) (by simpa using hi))
    have h0 := h 0 (by simp)
    simp only [sumW, List.map_cons, List.sum_cons, List.getD_cons_zero] at ih h0 ⊢
    omega
/-- what holds of one task, where so many stores were made, and the word is so great -/
structure Lz (t : Tw) (d : Bool) (S w : Int) (m : Nat) : Prop where
  at' : t.at' = 0
  swap : t.swap = false
  times : 0 ≤ t.times ∧ t.times ≤ 11
  done : d = true → t.times = 0
  v : t.has = true → 1 ≤ t.times ∧ 0 ≤ t.v ∧ t.v ≤ S
  one : m = 1 → t.has = true → t.v = w
structure LInv (m : Nat) (T0 : Int) (s : Mc) : Prop where
  m6 : m ≤ 6
  ly : s.tw.length = m
  ld : s.ds.length = m
  lx : s.ad = []
  tot : T0 ≤ 66
  w : ∃ w, s.l = [w] ∧ 0 ≤ w ∧ w ≤ T0 - sumW s.tw ∧ (0 < T0 - sumW s.tw → 1 ≤ w) ∧ (m = 1 → w = T0 - sumW s.tw) ∧ ∀ i, i < m → Lz (twAt s i) (s.ds.getD i false) (T0 - sumW s.tw) w m
theorem linv_ok {m : Nat} {T0 : Int} {s : Mc} (h : LInv m T0 s) : McOk 1 m (tsB m) s := by
  obtain ⟨w, hw, _, _, _, _, hk⟩ := h.w
  refine ⟨by rw [hw]; rfl, tsB_len m, h.ld, fun i hi => ?_, fun i j hi hj e => ?_⟩
  · rw [tsB_at hi]
    exact ⟨by rw [h.ly]; exact hi, by have := (hk i hi).times; simp only; omega⟩
  · rw [tsB_at hi, tsB_at hj] at e
    exact (Prod.mk.inj e).2
/-- how many steps a task needs still -/
def remT (t : Tw) (d : Bool) : Nat := match d with
  | true => 0
  | false => if t.times < 1 then 1 else 2 * t.times.toNat - (if t.has then 1 else 0)
def remP (s : Mc) (i : Nat) : Nat := remT (twAt s i) (s.ds.getD i false)
/-- a pick of a task that isn't done -/
theorem pick_eq {m : Nat} {s : Mc} {i : Int} (hb : inP i m = true) (hd : s.ds.getD i.toNat false = false) : pickP m (tsB m) s i =
    ⟨(stepTw (twAt s i.toNat) s.l).2.1, usesTw (twAt s i.toNat) s.l s.c, s.ad, s.tw.set i.toNat (stepTw (twAt s i.toNat) s.l).1, s.ds.set i.toNat (stepTw (twAt s i.toNat) s.l).2.2⟩ := by
  have hb' := (inP_iff _ _).1 hb
  have ht : tsAt (tsB m) i.toNat = (false, i.toNat) := tsB_at (by omega)
  simp only [pickP, hb, hd, ht]
theorem pick_same {m : Nat} {s : Mc} {i : Int} (h : inP i m = false ∨ s.ds.getD i.toNat false = true) (ts : List (Bool × Nat)) : pickP m ts s i = s := by
  unfold pickP
  rcases h with h | h
  · rw [h]
  · split
    · rw [h]
    · rfl
theorem linv_pick {m : Nat} {T0 : Int} {s : Mc} (h : LInv m T0 s) (i : Int) : LInv m T0 (pickP m (tsB m) s i) ∧ ∀ j, j < m → (j = i.toNat → 0 ≤ i → remP (pickP m (tsB m) s i) j ≤ remP s j - 1) ∧ remP (pickP m (tsB m) s i) j ≤ remP s j := by
  by_cases hc : inP i m = false ∨ s.ds.getD i.toNat false = true
  · rw [pick_same hc]
    refine ⟨h, fun j hj => ⟨fun e h0 => ?_, Nat.le_refl _⟩⟩
    rcases hc with hc | hc
    · have := (not_congr (inP_iff _ _)).1 (by rw [hc]; simp)
      omega
    · subst e
      simp only [remP, hc, remT]; omega
  · have hb : inP i m = true := by
      cases hq : inP i m with
      | true => rfl
      | false => exact absurd (.inl hq) hc
    have hd : s.ds.getD i.toNat false = false := by
      cases hq : s.ds.getD i.toNat false with
      | false => rfl
      | true => exact absurd (.inr hq) hc
    have hb' := (inP_iff _ _).1 hb
    have hi : i.toNat < m := by omega
    rw [pick_eq hb hd]
    obtain ⟨h1, h2, h3, h4, h5, w, hw, w0, w1, w2, w3, hk⟩ := h
    generalize hii : i.toNat = k at *
    have hz := hk k hi
    have hT := hz.times
    have hsum0 : 0 ≤ sumW s.tw := sumW_nonneg (fun j hj => (hk j (by omega)).times.1)
    have keep : ∀ (t' : Tw) (d' : Bool) (l' : List Int) (c' : Int) (j : Nat), j ≠ k → twAt ⟨l', c', s.ad, s.tw.set k t', s.ds.set k d'⟩ j = twAt s j ∧ (s.ds.set k d').getD j false = s.ds.getD j false := by
      intro t' d' l' c' j hj
      exact ⟨Sx.getD_set_ne (fun e => hj e.symm) _ _, Sx.getD_set_ne (fun e => hj e.symm) _ _⟩
    have self : ∀ (t' : Tw) (d' : Bool) (l' : List Int) (c' : Int), twAt ⟨l', c', s.ad, s.tw.set k t', s.ds.set k d'⟩ k = t' ∧ (s.ds.set k d').getD k false = d' := by
      intro t' d' l' c'
      exact ⟨Sx.getD_set_self (by omega) _ _, Sx.getD_set_self (by omega) _ _⟩
    have hss : ∀ t' : Tw, sumW (s.tw.set k t') = sumW s.tw - (twAt s k).times + t'.times := fun t' => sumW_set (by omega) t'
    have main : ∀ (t' : Tw) (l' : List Int) (d' : Bool) (c' : Int), stepTw (twAt s k) s.l = (t', l', d') → remT t' d' ≤ remT (twAt s k) false - 1 →
        (∃ w', l' = [w'] ∧ 0 ≤ w' ∧ w' ≤ T0 - sumW (s.tw.set k t') ∧ (0 < T0 - sumW (s.tw.set k t') → 1 ≤ w') ∧ (m = 1 → w' = T0 - sumW (s.tw.set k t')) ∧ T0 - sumW s.tw ≤ T0 - sumW (s.tw.set k t') ∧ Lz t' d' (T0 - sumW (s.tw.set k t')) w' m) →
        LInv m T0 ⟨l', c', s.ad, s.tw.set k t', s.ds.set k d'⟩ ∧ ∀ j, j < m → (j = k → 0 ≤ i → remP ⟨l', c', s.ad, s.tw.set k t', s.ds.set k d'⟩ j ≤ remP s j - 1) ∧ remP ⟨l', c', s.ad, s.tw.set k t', s.ds.set k d'⟩ j ≤ remP s j := by
      intro t' l' d' c' he hrem ⟨w', e1, e2, e3, e4, e5, e6, e7⟩
      refine ⟨⟨h1, by simp [h2], by simp [h3], h4, h5, w', e1, e2, e3, e4, e5, fun j hj => ?_⟩, fun j hj => ?_⟩
      · by_cases hjk : j = k
        · subst hjk
          rw [(self t' d' l' c').1, (self t' d' l' c').2]; exact e7
        · rw [(keep t' d' l' c' j hjk).1, (keep t' d' l' c' j hjk).2]
          obtain ⟨g1, g2, g3, g4, g5, g6⟩ := hk j hj
          refine ⟨g1, g2, g3, g4, fun hh => ?_, fun hm => by exfalso; omega⟩
          have := g5 hh
          exact ⟨this.1, this.2.1, Int.le_trans this.2.2 e6⟩
      · by_cases hjk : j = k
        · subst hjk
          have er : remP ⟨l', c', s.ad, s.tw.set j t', s.ds.set j d'⟩ j = remT t' d' := by unfold remP; rw [(self t' d' l' c').1, (self t' d' l' c').2]
          have er2 : remP s j = remT (twAt s j) false := by unfold remP; rw [hd]
          rw [er, er2]
          exact ⟨fun _ _ => hrem, by omega⟩
        · have er : remP ⟨l', c', s.ad, s.tw.set k t', s.ds.set k d'⟩ j = remP s j := by unfold remP; rw [(keep t' d' l' c' j hjk).1, (keep t' d' l' c' j hjk).2]
          rw [er]
          exact ⟨fun e => absurd e hjk, Nat.le_refl _⟩
    have hin : inP 0 1 = true := by decide
    obtain ⟨g1, g2, g3, g4, g5, g6⟩ := hz
    generalize ht : twAt s k = t at *
    obtain ⟨at', times, has, v, swap⟩ := t
    simp only at g1 g2 g3 g4 g5 g6 hT hss
    subst g1 g2
    by_cases hlt : times < 1
    · have h0 : times = 0 := by omega
      subst h0
      have hst : stepTw ⟨0, 0, has, v, false⟩ s.l = (⟨0, 0, has, v, false⟩, s.l, true) := by simp [stepTw]
      rw [hst]
      refine main _ _ _ _ hst (by simp [remT]) ⟨w, hw, w0, ?_⟩
      rw [hss]
      simp only [Int.sub_zero, Int.add_zero]
      exact ⟨w1, w2, w3, Int.le_refl _, rfl, rfl, hT, fun _ => rfl, g5, g6⟩
    · have hdf : decide (times < 1) = false := decide_eq_false hlt
      cases has with
      | false =>
        have hst : stepTw ⟨0, times, false, v, false⟩ s.l = (⟨0, times, true, w, false⟩, s.l, false) := by
          simp [stepTw, hw, hin, hlt]
        rw [hst]
        refine main _ _ _ _ hst (by simp [remT, hlt]) ⟨w, hw, w0, ?_⟩
        rw [hss]
        have e : T0 - (sumW s.tw - times + times) = T0 - sumW s.tw := by omega
        simp only [e]
        exact ⟨w1, w2, w3, Int.le_refl _, rfl, rfl, hT, fun hh => (by cases hh), fun _ => ⟨by simp only; omega, w0, w1⟩, fun _ _ => rfl⟩
      | true =>
        have g5' := g5 rfl
        have hst : stepTw ⟨0, times, true, v, false⟩ s.l = (⟨0, times - 1, false, v, false⟩, [v + 1], times - 1 == 0) := by
          have : u32P (v + 1) % 4294967296 = v + 1 := by rw [show u32P (v + 1) = _ from w32_mod _]; omega
          simp [stepTw, hw, hin, hlt, setP_ok, this]
        rw [hst]
        refine main _ _ _ _ hst ?_ ⟨v + 1, rfl, by omega, ?_⟩
        · cases hq : times - 1 == 0 with
          | true => simp [remT, hlt]
          | false =>
            have : times - 1 ≠ 0 := by simpa using hq
            simp only [remT, hlt, if_false, if_true, Bool.false_eq_true]
            rw [if_neg (by omega)]
            omega
        · rw [hss]
          simp only
          have e : T0 - (sumW s.tw - times + (times - 1)) = T0 - sumW s.tw + 1 := by omega
          rw [e]
          refine ⟨by omega, fun _ => by omega, fun hm => by have := g6 hm rfl; have := w3 hm; omega, by omega, rfl, rfl, by simp only; omega, fun hh => ?_, fun hh => (by cases hh), fun _ hh => (by cases hh)⟩
          simpa using hh
end Go.Proofs.YtlnigpeoffaemaaDoor

/- StepsLose, plain: rounds end. -/
namespace Go.Proofs.YtlnigpeoffaemaaDoor
open Go Go.Proofs.YtlnigpeoffaemaaDoor.Sx
set_option linter.unusedVariables false
theorem linv_pass {m : Nat} {T0 : Int} {s : Mc} (h : LInv m T0 s) : ∀ k, k ≤ m → LInv m T0 (passP m (tsB m) s k) ∧ ∀ j, j < m → (j < k → remP (passP m (tsB m) s k) j ≤ remP s j - 1) ∧ remP (passP m (tsB m) s k) j ≤ remP s j
  | 0, _ => ⟨h, fun j hj => ⟨fun hh => by omega, Nat.le_refl _⟩⟩
  | k + 1, hk => by
    obtain ⟨h1, h2⟩ := linv_pass h k (by omega)
    obtain ⟨h3, h4⟩ := linv_pick h1 ((k : Nat) : Int)
    refine ⟨h3, fun j hj => ?_⟩
    obtain ⟨a, b⟩ := h2 j hj
    obtain ⟨c, d⟩ := h4 j hj
    simp only [passP]
    refine ⟨fun hh => ?_, by omega⟩
    by_cases e : j = k
    · have := c (by simp [e]) (by omega)
      omega
    · have := a (by omega)
      omega
theorem rem_zero {t : Tw} {d : Bool} (h : remT t d = 0) : d = true := by
  cases d with
  | true => rfl
  | false =>
    simp only [remT] at h
    split at h
    · cases h
    · split at h <;> omega
theorem left_zero {ds : List Bool} (h : ∀ i, i < ds.length → ds.getD i false = true) : leftP ds = 0 := by
  have : ds.filter (fun b => !b) = [] := by
    rw [List.filter_eq_nil_iff]
    intro b hb
    obtain ⟨i, hi, rfl⟩ := List.getElem_of_mem hb
    have := h i hi
    rw [List.getD_eq_getElem?_getD, List.getElem?_eq_getElem hi] at this
    simpa using this
  simp [leftP, this]
theorem left_all {ds : List Bool} (h : leftP ds = 0) : ∀ i, i < ds.length → ds.getD i false = true := by
  intro i hi
  have h0 : ds.filter (fun b => !b) = [] := by
    rw [← List.length_eq_zero_iff]
    unfold leftP at h; omega
  rw [List.filter_eq_nil_iff] at h0
  have := h0 ds[i] (List.getElem_mem hi)
  rw [List.getD_eq_getElem?_getD, List.getElem?_eq_getElem hi]
  simpa using this
theorem linv_end {m : Nat} {T0 : Int} : ∀ (f : Nat) {s : Mc}, LInv m T0 s → (∀ j, j < m → remP s j ≤ f) → LInv m T0 (endP m (tsB m) s f) ∧ leftP (endP m (tsB m) s f).ds = 0
  | 0, s, h, hr => by
    refine ⟨h, left_zero fun i hi => ?_⟩
    have h2 : i < m := by rw [← h.ld]; exact hi
    have := hr i h2
    exact rem_zero (t := twAt s i) (d := s.ds.getD i false) (by unfold remP at this; omega)
  | f + 1, s, h, hr => by
    simp only [endP]
    split
    · exact ⟨h, by assumption⟩
    · obtain ⟨h1, h2⟩ := linv_pass h m (Nat.le_refl _)
      exact linv_end f h1 (fun j hj => by have := (h2 j hj).1 hj; have := hr j hj; omega)
theorem rem_le {m : Nat} {T0 : Int} {s : Mc} (h : LInv m T0 s) : ∀ j, j < m → remP s j ≤ 22 := by
  intro j hj
  obtain ⟨w, _, _, _, _, _, hk⟩ := h.w
  have := (hk j hj).times
  unfold remP remT
  split
  · omega
  · split <;> omega
theorem linv_law {m : Nat} {T0 : Int} {s : Mc} (h : LInv m T0 s) (hl : leftP s.ds = 0) : ∃ w, s.l = [w] ∧ 0 ≤ w ∧ w ≤ T0 ∧ (0 < T0 → 1 ≤ w) ∧ (m = 1 → w = T0) := by
  obtain ⟨w, hw, w0, w1, w2, w3, hk⟩ := h.w
  have hz : sumW s.tw = 0 := sumW_zero fun i hi => by
    have hm : i < m := by rw [← h.ly]; exact hi
    exact (hk i hm).done (left_all hl i (by rw [h.ld]; exact hm))
  rw [hz] at w1 w2 w3
  exact ⟨w, hw, w0, by omega, fun hh => w2 (by omega), fun hm => by have := w3 hm; omega⟩
theorem linv_start {p : In8} (h : p.times.length ≤ 6) (c : Int) : LInv p.times.length (sumW (ysAt p p.times.length)) ⟨[0], c, [], ysAt p p.times.length, List.replicate p.times.length false⟩ := by
  have hl := ysAt_len (p := p) (Nat.le_refl p.times.length)
  have hs := sumW_le (p := p) (i := p.times.length)
  refine ⟨h, hl, by simp, rfl, by omega, 0, rfl, by omega, by simp only; omega, fun hh => by simp only at hh; omega, fun _ => by simp only; omega, fun i hi => ?_⟩
  have ht : twAt ⟨[0], c, [], ysAt p p.times.length, List.replicate p.times.length false⟩ i = mkTw p.times[i] := by
    show (ysAt p p.times.length).getD i encTw.dflt = _
    simp [ysAt, List.getD_eq_getElem?_getD, hi]
  rw [ht, Sx.getD_replicate]
  have := tmod12 p.times[i]
  exact ⟨rfl, rfl, this, fun hh => (by cases hh), fun hh => (by cases hh), fun _ hh => (by cases hh)⟩
end Go.Proofs.YtlnigpeoffaemaaDoor

/- StepsLose: its second loop and its end. -/
namespace Go.Proofs.YtlnigpeoffaemaaDoor
open Go Go.Proofs.YtlnigpeoffaemaaDoor.Sx
set_option linter.unusedVariables false
def InvM (w0 : From) (p : In8) (sum : Int) (j : Nat × Mc) (a : Act) (w : World) : Prop :=
  j.1 ≤ 200 ∧ LInv p.times.length sum j.2 ∧ ∃ env, At [(0, 0)] w0 env (fr 109 n6d (v6b p sum ++ [.int .i64 (j.1 : Nat)])) (sL p p.times.length (tsB p.times.length) j.2) a w
abbrev RM (w0 : From) (p : In8) (sum : Int) (i : Nat) : Exit → Act → World → Prop :=
  Exit.then (fun a' w' => ∃ k, InvM w0 p sum k a' w' ∧ 200 - k.1 < 200 - i) (Exit.inBlock 2 (Exit.then (f6'.wp Tryd.prog (Q6 w0)) (Q6 w0)))
set_option maxHeartbeats 1000000 in
theorem end6_ok {w0 : From} {p : In8} {sum : Int} {i : Nat} {s : Mc} (hs : LInv p.times.length sum s) {env : Env} {a : Act} {w : World} (h : At [(0, 0)] w0 env (fr 109 n6d (v6b p sum ++ [.int .i64 (i : Nat)])) (sL p p.times.length (tsB p.times.length) s) a w) : f6'.wp Tryd.prog (Q6 w0) a w := by
  have h6 := hs.m6
  refine pieceNT0 (c := cfgS 1 p.times.length (tsB p.times.length) s) cfgS_ok 1 n6c t6_end1 h ?_
  refine all_eq ⟨rfl, linv_ok hs, by omega, by omega⟩ (all_ret fun env1 a1 w1 hA1 => ?_)
  simp only [Ex.to, Exit.then]
  obtain ⟨he, hl⟩ := linv_end 500 hs (fun j hj => by have := rem_le hs j hj; omega)
  generalize endP p.times.length (tsB p.times.length) s 500 = s1 at *
  obtain ⟨w', hw, w0', w1', w2, w3⟩ := linv_law he hl
  refine pieceNT0 (c := cfgQ 1 p.times.length (tsB p.times.length) s1) cfgQ_ok 1 [0, 1, 5, 8, 11, 13] t6_end2 hA1 ?_
  refine all_eq ⟨rfl, by rw [hw]; rfl⟩ ?_
  refine all_br (fun _ => all_ret fun env2 a2 w2' hA2 => ?_) (fun hh => by cases hh)
  simp only [Ex.to, Exit.then]
  have hg : s1.l.getD 0 0 = w' := by rw [hw]; rfl
  rw [hg] at hA2
  obtain ⟨l, c, xs, ys, ds⟩ := s1
  simp only at hw hl hA2
  have hA3 : At [(0, 0)] w0 env2 (fr 109 [0, 1, 5, 8, 11, 13] (v6b p sum ++ [.int .u32 w'])) (sL p p.times.length (tsB p.times.length) ⟨l, upP c, xs, ys, ds⟩) a2 w2' := hA2
  have hld : ds.length = p.times.length := he.ld
  refine (show (restC 2 f6').wp Tryd.prog (Q6 w0) a2 w2' from ?_)
  refine pieceT0 (c := cfgR 1 p.times.length (tsB p.times.length) ⟨l, upP c, xs, ys, ds⟩) cfgR_ok [4] t6_end3 hA3 ?_
  have hfin : ∀ {env' a' w''}, At [(0, 0)] w0 env' (fr 109 [4] [.sb (decide (w' ≤ sum))]) (sL p p.times.length (tsB p.times.length) ⟨l, upP c, xs, ys, ds⟩) a' w'' → bodyPost Tryd.prog Tryd.f6 (Said w0) .ret a' w'' := by
    intro env' a' w'' h
    rw [decide_eq_true (show w' ≤ sum by omega)] at h
    exact At.said (c := cfgM) (h.gvals [.bl true] rfl) (by kernel_rfl)
  repeat' (first
    | (refine all_brp (by simp only [beq_iff_eq, bne_iff_ne, ne_eq, decide_eq_true_eq]; exact Iff.rfl) (fun _ => ?_) (fun _ => ?_) <;> try (exfalso; omega))
    | refine all_eq ⟨rfl, hld, by omega⟩ ?_)
  all_goals exact all_ret fun env3 a3 w3' hA4 => hfin hA4
set_option maxHeartbeats 1000000 in
theorem roundM_ok {w0 : From} {p : In8} {sum : Int} {j : Nat × Mc} {a : Act} {w : World} (h : InvM w0 p sum j a w) : round6b.wp Tryd.prog (RM w0 p sum j.1) a w := by
  obtain ⟨i, s⟩ := j
  obtain ⟨hi, hs, env, hA⟩ := h
  simp only at hi hs hA ⊢
  have out : ∀ {env' : Env} {a' : Act} {w' : World}, At [(0, 0)] w0 env' (fr 109 n6d (v6b p sum ++ [.int .i64 (i : Nat)])) (sL p p.times.length (tsB p.times.length) s) a' w' → RM w0 p sum i (.exit 2) a' w' := by
    intro env' a' w' h
    simp only [RM, Exit.then, Exit.inBlock, if_true]
    exact end6_ok hs h
  refine wpS (by kernel_rfl) ?_
  refine pieceT0 (c := cfgM) cfgM_ok n6d t6_tmb hA ?_
  refine all_brp (by simp only [decide_eq_true_eq]; exact Iff.rfl) (fun h1 => ?_) (fun h1 => all_ret fun _ _ _ h => out h)
  refine all_brp (by simp only [decide_eq_true_eq]; exact Iff.rfl) (fun h2 => all_ret fun env1 a1 w1 hA1 => ?_) (fun h2 => all_ret fun _ _ _ h => out h)
  refine (show (rgt round6b).wp Tryd.prog (RM w0 p sum i) a1 w1 from wpS (by kernel_rfl) (wpB 3 (by kernel_rfl) ?_))
  refine (show bb6b.wp Tryd.prog (Exit.inBlock 3 (Exit.then (inc6b.wp Tryd.prog (RM w0 p sum i)) (RM w0 p sum i))) a1 w1 from ?_)
  refine pieceT0 (c := cfgQ 1 p.times.length (tsB p.times.length) s) cfgQ_ok n6d t6_pickb hA1 ?_
  refine all_needq (by simp only [decide_eq_true_eq, Bool.and_eq_true]; exact Iff.rfl) (by omega) ?_
  refine all_needq (by simp only [decide_eq_true_eq]; exact Iff.rfl) (by omega) ?_
  refine all_eq ⟨rfl, linv_ok hs⟩ (all_ret fun env2 a2 w2 hA2 => ?_)
  simp only [Ex.to, Exit.then, Exit.inBlock]
  have hs2 := (linv_pick hs (p.picks.getD (i : Int).toNat 0)).1
  generalize pickP p.times.length (tsB p.times.length) s (p.picks.getD (i : Int).toNat 0) = s2 at *
  refine (show inc6b.wp Tryd.prog (RM w0 p sum i) a2 w2 from ?_)
  refine pieceT0 (c := cfgM) cfgM_ok n6d t6_incb hA2 ?_
  refine all_needp (by simp only [inR_i64]; exact Iff.rfl) (by omega) fun _ => all_ret fun env' a' w' hA' => ?_
  exact ⟨(i + 1, s2), ⟨by simp only; omega, hs2, env', hA'⟩, by simp only; omega⟩
end Go.Proofs.YtlnigpeoffaemaaDoor

/- StepsLose: its call. -/
namespace Go.Proofs.YtlnigpeoffaemaaDoor
open Go Go.Proofs.YtlnigpeoffaemaaDoor.Sx
set_option linter.unusedVariables false
set_option maxRecDepth 100000 in
theorem new_s (p : In8) (xs : List Ad) (ys : List Tw) (ts : List (Bool × Nat)) (hn : ts.length ≤ 8) : anyP cfgN 100 11 [.ptr 1 0, .sli 7 (.c 0) 1 (.v ts.length) none] (sMk p xs ys ts) := by
  let A : List Bool := [decide (0 + ts.length ≤ ts.length), decide (0 + ts.length ≤ ts.length), roomy (List.take ts.length (List.drop 0 ts)).length 16]
  let M : List Bool := [decide (0 ≤ (ts.length : Int)), decide ((ts.length : Int) * 1 ≤ 140737488355328), decide ((ts.length : Int) ≤ 4611686018427387904)]
  have h0 : (anyTP cfgN 100 11 [.ptr 1 0, .sli 7 (.c 0) 1 (.v ts.length) none] (sMk p xs ys ts)).lineB = some (A ++ M ++ A ++ M ++ A ++ M ++ M ++ A ++ A ++ M ++ M ++ A ++ M ++ A) := by kernel_rfl
  have h1 : (anyTP cfgN 100 11 [.ptr 1 0, .sli 7 (.c 0) 1 (.v ts.length) none] (sMk p xs ys ts)).lineP = some True := by kernel_rfl
  have hA : ∀ b ∈ A, b = true := by
    intro b hb
    simp only [A, List.mem_cons, List.not_mem_nil, or_false] at hb
    rcases hb with rfl | rfl | rfl
    · simp
    · simp
    · rw [roomy_iff]; simp; omega
  have hM : ∀ b ∈ M, b = true := by
    intro b hb
    simp only [M, List.mem_cons, List.not_mem_nil, or_false] at hb
    rcases hb with rfl | rfl | rfl <;> simp <;> omega
  refine anyP_line h0 h1 (fun b hb => ?_) trivial (by kernel_rfl)
  simp only [List.mem_append] at hb
  rcases hb with ((((((((((((hb | hb) | hb) | hb) | hb) | hb) | hb) | hb) | hb) | hb) | hb) | hb) | hb) | hb <;> first | exact hA b hb | exact hM b hb
set_option maxHeartbeats 1000000 in
theorem d6_ok {w0 : From} {p : In8} (h6 : p.times.length ≤ 6) {env : Env} {a : Act} {w : World}
    (h : AtK [] [(0, 0)] w0 env (fr 109 n6b (v6 p p.times.length (sumW (ysAt p p.times.length)) ++ [.int .i64 (p.times.length : Nat)])) (sMk p [] (ysAt p p.times.length) (tsB p.times.length)) a w) : d6.wp Tryd.prog (Q6 w0) a w := by
  have hlt := tsB_len p.times.length
  have hst := linv_start h6 0
  have h' : AtK [] [(0, 0)] w0 env (fr 109 n6b (v6 p (tsB p.times.length).length (sumW (ysAt p p.times.length)) ++ [.int .i64 (p.times.length : Nat)])) (sMk p [] (ysAt p p.times.length) (tsB p.times.length)) a w := by rw [hlt]; exact h
  refine pieceNTK2 (c := cfgL) cfgL_ok 2 [0, 1, 5, 8, 11] t6_new (by simp) (by simp) h' ?_
  refine all_eq (new_s p _ _ _ (by omega)) ?_
  have htk : List.take (tsB p.times.length).length (List.drop 0 (tsB p.times.length)) = tsB p.times.length := by simp
  simp only [htk, Int.toNat_natCast]
  repeat' (first
    | refine all_needq (by simp only [decide_eq_true_eq, roomy_iff]; exact Iff.rfl) (by omega) ?_
    | refine all_ret (fun env1 a1 w1 hA1 => ?_))
  simp only [Ex.to, Exit.then]
  rw [hlt] at hA1
  have h2 := hA1.at'.perm [0, 1, 2, 3, 4, 7, 8, 9, 5, 6] (by kernel_rfl) (by kernel_rfl) (st' := sL p p.times.length (tsB p.times.length) ⟨[0], 0, [], ysAt p p.times.length, List.replicate p.times.length false⟩) (vals' := v6b p (sumW (ysAt p p.times.length))) (by rfl) (by rfl)
  refine (show e6.wp Tryd.prog (Q6 w0) a1 w1 from wpS (by kernel_rfl) (wpS (by kernel_rfl) ?_))
  refine pieceT0 (c := cfgM) cfgM_ok n6d t6_regb h2 (all_ret fun env3 a3 w3 hA3 => ?_)
  simp only [Ex.to, Exit.then]
  have hA4 := hA3.gvals (v6b p (sumW (ysAt p p.times.length)) ++ [SVal.int .i64 ((0 : Nat) : Int)]) rfl
  refine wpB 2 (by kernel_rfl) (wpL (by kernel_rfl) (InvM w0 p (sumW (ysAt p p.times.length))) (fun j => 200 - j.1) (0, _) ⟨by simp, hst, env3, hA4⟩ ?_)
  intro j a w h
  exact roundM_ok h
theorem noFoot3 {e0 e1 e2 : Slot} {p : In8} (x : Nat) (h : inFoot [e0, e1, e2] (s0 p) x) : False := by
  obtain ⟨id, e, b, he, hb, hx⟩ := h
  match id with
  | 0 => simp at hb; subst hb; cases hx
  | 1 => simp at hb; subst hb; cases hx
  | 2 => simp at hb; subst hb; cases hx
  | n + 3 => simp at hb
theorem b6_eq : Tryd.f6.body = some b6 := by kernel_rfl
set_option maxHeartbeats 1000000 in
theorem stepsLose_call {p : In8} {e0 e1 e2 : Slot} (he : e0.blk = 0 ∧ e0.off = 0) {w : World} {v v' : Value} (hr : Rep [e0, e1, e2] (s0 p) w) (hv : Den [e0, e1, e2] (timesV p 1) v) (hv' : Den [e0, e1, e2] (picksV p 2) v') :
    Calls Tryd.prog 6 ⟨[v, v']⟩ w (Said ⟨w, fun _ => False⟩) := by
  refine call_begin (c := cfgL) Tryd.func6 b6_eq (args := [timesV p 1, picksV p 2]) (by
    intro q hq
    rw [List.mem_singleton.1 hq]
    exact ⟨e0, rfl, he⟩) hr ⟨_, _, rfl, hv, _, _, rfl, hv', rfl⟩ (F := fun _ => False) (fun x h => noFoot3 x h) ?_
  intro a hA
  refine pieceNT0 (c := cfgL) cfgL_ok 4 n6p t6_pre hA ?_
  refine all_eq rfl ?_
  refine all_brp (by simp only [decide_eq_true_eq]; exact Iff.rfl) (fun h6 => all_eq rfl (all_ret fun env1 a1 w1 hA1 => ?_)) (fun h6 => ?_)
  · exact hA1.said (by kernel_rfl)
  refine all_ret fun env1 a1 w1 hA1 => ?_
  simp only [Ex.to, Exit.then]
  have hA1' := At.few (names := n6a) (extra := [4]) (vals := [timesV p 1, picksV p 2, .ptr 3 0, .sli 5 (.c 0) 1 (.c 0) (some (.c 0)), .lit .u32 0]) (ev := [.bl false]) hA1 rfl
  obtain ⟨env2, hA2⟩ := hA1'.void 5 (encInt .i64) rfl
  have hA3 := hA2.many0 encAd 86
  have hA4 := hA3.many0 encTw 78
  have hA5 := hA4.perm [0, 3, 4, 7, 8, 1, 2, 6] (by kernel_rfl) (by kernel_rfl) (st' := [lookB, .own [.c (.sli 2 (.c 0) 1 (.c 1) (some (.c 1))), .c (.lit .i64 0)] 67, .own [.c (.lit .u32 0)] 45, .many encAd [] 86, .many encTw [] 78, .ro encU8 p.times, .ro (encInt .i64) p.picks, .vec (encInt .i64) [] 44]) (vals' := [timesV p 5, picksV p 6, .ptr 1 0, .sli 7 (.c 0) 1 (.v 0) none, .lit .u32 0]) (by kernel_rfl) (by kernel_rfl)
  have hA6 := hA5.typede 7 (E' := encTs 3 4) (ys := []) rfl rfl rfl (fun cs h => h)
  have hA7 := hA6.segs 2 (l' := [.a (encInt .u32) 1 [0]]) rfl (by intro s hs; rw [List.mem_singleton.1 hs]; rfl) (fun cs h => by simpa [segCells, Seg.cells, encInt, DenL, Den] using h)
  have hA8 : At [(0, 0)] ⟨w, fun _ => False⟩ _ (fr 109 n6a [timesV p 5, picksV p 6, .ptr 1 0, .sli 7 (.c 0) 1 (.v 0) none, .lit .u32 0]) (sMk p [] [] []) a1 w1 := hA7.gen rfl
  have hA9 : AtK [] [(0, 0)] ⟨w, fun _ => False⟩ _ (fr 109 n6a (v6 p ([] : List (Bool × Nat)).length 0)) (sMk p [] [] []) a1 w1 := ⟨hA8.gvals (v6 p 0 0) rfl, _, rfl⟩
  refine (show c6.wp Tryd.prog (Q6 ⟨w, fun _ => False⟩) a1 w1 from wpS (by kernel_rfl) (wpS (by kernel_rfl) ?_))
  refine pieceTK2 (c := cfgM) cfgM_ok n6b t6_reg (by simp) (by simp) hA9 (all_ret fun env11 a11 w11 hA11 => ?_)
  simp only [Ex.to, Exit.then]
  have hA12 := hA11.on fun h => h.gvals (v6 p 0 (sumW (ysAt p 0)) ++ [SVal.int .i64 ((0 : Nat) : Int)]) rfl
  have h6' : p.times.length ≤ 6 := by omega
  refine wpB 0 (by kernel_rfl) (wpL (by kernel_rfl) (InvL ⟨w, fun _ => False⟩ p) (fun i => p.times.length - i) 0 ⟨Nat.zero_le _, env11, hA12⟩ ?_)
  intro i a w h
  exact roundL_ok h6' (fun h => d6_ok h6' h) h
end Go.Proofs.YtlnigpeoffaemaaDoor

/- Layer 8: the package's variable, and how a card is closed. -/
namespace Go.Proofs.YtlnigpeoffaemaaDoor
open Go Go.Proofs.YtlnigpeoffaemaaDoor.Sx Go.ChangeShapes Go.WideShapes Go.ChangeAt Go.RowKit
set_option linter.unusedVariables false
abbrev laid1 : List (String × DataW Unit) := [("purlin/mem.look", Rows.laid_purlin_mem_look)]
theorem Tryd.own : ownKnob Tryd.prog.godebug = none := by kernel_rfl
theorem Tryd.laidOut : laidOutB Tryd.prog = true := by kernel_rfl
theorem gLook : Tryd.prog.globalNamed "purlin/mem.look" = some 0 := by kernel_rfl
theorem tLook : (Tryd.prog.globals[0]?).map (·.type) = some 81 := by kernel_rfl
/-- the door's own heap meets the condition -/
theorem door_met (os : Os) (args : Array Value) : laidMetH Tryd.prog laid1 ((World.doorLaid Tryd.prog 400 os).forCall (fun _ _ => 0) ⟨#[], args, []⟩).memory :=
  laidMetH_of_parts3 (fuel := 8) (laidMet_of_run' 8 (by kernel_rfl) (by kernel_rfl)) (by kernel_rfl) (by kernel_rfl)
set_option maxRecDepth 100000 in
/-- what the condition gives -/
theorem of_laid {W : World} (h : laidMetH Tryd.prog laid1 W) : ∃ e : Slot, (e.blk = 0 ∧ e.off = 0) ∧ Rep [e] [lookB] W := by
  rw [MakeChecks.laidMetH_plain _ _ _ (by kernel_rfl)] at h
  obtain ⟨ps, ⟨g0, t0, cs0, f0, p0, q0, hg0, ht0, hv0, hd0, _, _⟩, _, _⟩ := h
  obtain rfl := Option.some.inj (gLook.symm.trans hg0)
  obtain rfl := Option.some.inj (tLook.symm.trans ht0)
  obtain ⟨xs, m, _, hx, hlen, hxl, hf⟩ := DataW.trod_struct Tryd.underlying81 hd0
  have hC : Tryd.prog.cellsOf 81 = 3 := by kernel_rfl
  have k45 : Tryd.prog.cellsOf 45 = 1 := by kernel_rfl
  rw [hC] at hlen
  obtain ⟨l⟩ := cs0
  simp only at hlen hf
  match l, hlen with
  | [c0, c1, c2], _ =>
    match xs, hxl, hx with
    | [y0, y1, y2], _, hx =>
      have f0 : DataW.trod _ Tryd.prog W 0 _ false m 45 (([c0, c1, c2].drop 0).take (Tryd.prog.cellsOf 45)) = some y0 := hf 0 _ rfl
      have f1 : DataW.trod _ Tryd.prog W 0 _ false m 45 (([c0, c1, c2].drop 1).take (Tryd.prog.cellsOf 45)) = some y1 := hf 1 _ rfl
      have f2 : DataW.trod _ Tryd.prog W 0 _ false m 45 (([c0, c1, c2].drop 2).take (Tryd.prog.cellsOf 45)) = some y2 := hf 2 _ rfl
      rw [k45] at f0 f1 f2
      obtain ⟨a0, h0, e0, _⟩ := DataW.trod_int Tryd.underlying45 f0
      obtain ⟨a1, h1, e1, _⟩ := DataW.trod_int Tryd.underlying45 f1
      obtain ⟨a2, h2, e2, _⟩ := DataW.trod_int Tryd.underlying45 f2
      simp at h0 h1 h2
      subst h0 h1 h2 e0 e1 e2
      simp [Rows.laid_purlin_mem_look] at hx
      obtain ⟨⟨rfl, rfl, rfl⟩, _⟩ := hx
      have hc := fun i => World.var?_cell hg0 hv0 i
      have hsz : 0 < W.heap.size := by
        have := hc 0
        simp only [World.cell?] at this
        rcases Nat.eq_zero_or_pos W.heap.size with h | h
        · rw [Array.getElem?_eq_none (by omega)] at this; simp at this
        · exact h
      refine ⟨⟨0, 0, 0, []⟩, ⟨rfl, rfl⟩, rfl, ?_, ?_, ?_⟩
      · intro id sl b he hb
        match id with
        | 0 =>
          simp only [List.getElem?_cons_zero, Option.some.injEq] at he hb
          subst he hb
          refine ⟨[.int .u32 4294967295, .int .u32 0, .int .u32 0], by simp [encLook, encOf, DenL, Den], fun i hi => ?_⟩
          have := hc i
          simpa using this
        | n + 1 => simp at he
      · intro i j e f b c hij he hf' hb' hc' x hx''
        match i, j with
        | 0, 0 => exact (hij rfl).elim
        | i + 1, _ => simp at he
        | 0, j + 1 => simp at hf'
      · intro id sl b he hb x hx
        match id with
        | 0 =>
          simp only [List.getElem?_cons_zero, Option.some.injEq] at he hb
          subst he hb
          simp [Blk.supp] at hx
          omega
        | n + 1 => simp at he
theorem wf_u8 {n : Int} (h : (Lit.int .u8 n).wf = true) : 0 ≤ n ∧ n ≤ 255 := by simp [Lit.wf, IntKind.min, IntKind.max, IntKind.signed, IntKind.bits] at h; omega
theorem open_u8 {H : Type} {enc : TypeId × Value → H} {w : World} {base : Nat} {spare : Nat → Bool} {held : Bool} (n : Nat) (cs : List Value) (y : DataW H × List MemPlace) (h : DataW.trod enc Tryd.prog w base spare held n 5 cs = some y) :
    ∃ x : U8, DenL [] (encU8.enc x) cs := by
  cases n with
  | zero => simp [DataW.trod] at h
  | succ n =>
    obtain ⟨a, h0, _, hw⟩ := DataW.trod_int Tryd.underlying5 h
    subst h0
    exact ⟨⟨a, wf_u8 hw⟩, by simp [encU8, encOf, DenL, Den]⟩
theorem open_i64 {H : Type} {enc : TypeId × Value → H} {w : World} {base : Nat} {spare : Nat → Bool} {held : Bool} (n : Nat) (cs : List Value) (y : DataW H × List MemPlace) (h : DataW.trod enc Tryd.prog w base spare held n 3 cs = some y) :
    ∃ x : Int, DenL [] ((encInt .i64).enc x) cs := by
  cases n with
  | zero => simp [DataW.trod] at h
  | succ n =>
    obtain ⟨a, h0, _, hw⟩ := DataW.trod_int Tryd.underlying3 h
    subst h0
    exact ⟨a, by simp [encInt, DenL, Den]⟩
theorem wf_u32 {n : Int} (h : (Lit.int .u32 n).wf = true) : 0 ≤ n ∧ n < 4294967296 := by simp [Lit.wf, IntKind.min, IntKind.max, IntKind.signed, IntKind.bits] at h; omega
end Go.Proofs.YtlnigpeoffaemaaDoor

/- StepsLose: its row and its card. -/
namespace Go.Proofs.YtlnigpeoffaemaaDoor
open Go Go.Proofs.YtlnigpeoffaemaaDoor.Sx Go.ChangeShapes Go.WideShapes Go.ChangeAt Go.RowKit
set_option linter.unusedVariables false
set_option maxRecDepth 100000 in
theorem stepsLose_lifted (os : Os) (started : os.Started) (H : Type) (enc : TypeId × Value → H) :
    ReturnsInHanded {} Tryd.checked os 6 .any (fun w args => (Rows.stepsLoseSpec.pre enc Tryd.prog Tryd.f6 [] false w args ∧ laidMetH Tryd.prog laid1 w) ∧ sizedMet enc Tryd.prog Tryd.f6 (OpenSpec.ofChange Rows.stepsLoseSpec) false w args)
      (Rows.stepsLoseSpec.post enc Tryd.prog Tryd.f6 false true false false) := by
  refine returnsInHanded_of_change_and (C := Tryd.checked) (X := fun w _ => laidMetH Tryd.prog laid1 w) (fun _ _ _ hh h => h.of_heap hh) Tryd.own started (by kernel_rfl) Tryd.func6
    (ChangeSpec.witness_shaped (enc := enc) (C := Tryd.checked) (os := os) (X := fun w _ => laidMetH Tryd.prog laid1 w) false (World.doorLaid Tryd.prog 400 os) #[.slice none 0 0, .slice none 0 0] 8 rfl (World.shaped_of_RefB (by kernel_rfl) (by kernel_rfl)) (by kernel_rfl) (by kernel_rfl) (by kernel_rfl) (door_met os _)) ?_
  intro W base args ds gs before hval0 hW _ _ hL _
  have hval : ∀ (j : Nat) t v, Tryd.f6.params[j]? = some t → args[j]? = some v → Value.okWide Tryd.prog W .any base t v := hval0
  have hW' := hW
  obtain ⟨p, q, hA0, hV, rfl, hfz, hnd⟩ := hW
  have hA : DataW.TrodAll enc Tryd.prog W 0 (fun _ => true) true Tryd.f6.params.toList args.toList ds p := hA0
  rw [Tryd.params6] at hA hval
  obtain ⟨v0, v1, d0, d1, p0, p1, rfl, rfl, rfl, h0, h1⟩ := trodAll_two hA
  obtain ⟨rfl, rfl⟩ := trodVars_none hV
  clear hA0 hval0
  have hlt0 : ∀ x ∈ p0, x.block < W.heap.size := fun x hx => by simpa using hW'.lt x (by simp [hx])
  have hlt1 : ∀ x ∈ p1, x.block < W.heap.size := fun x hx => by simpa using hW'.lt x (by simp [hx])
  obtain ⟨e0, he, hr0⟩ := of_laid hL
  have fin : ∀ e W', Said ⟨W, fun _ => False⟩ e W' → ∃ v, e = .returned v ∧ Rows.stepsLoseSpec.post enc Tryd.prog Tryd.f6 false true false false W #[v0, v1] v W' := by
    rintro e W' ⟨rfl, hsz, hk, hc⟩
    have hk' : ∀ x, x < W.heap.size → W'.heap[x]? = W.heap[x]? := fun x hx => hk x hx (fun h => h)
    refine ⟨_, rfl, _, _, _, [], _, [], hW', ⟨[], [], shut_bool Tryd.underlying4 true, rfl, rfl⟩, trodAll_mk2 (trod_same Tryd.laidOut (by kernel_rfl) (of_decide_eq_true (by kernel_rfl)) h0 hk' hlt0) (trod_same Tryd.laidOut (by kernel_rfl) (of_decide_eq_true (by kernel_rfl)) h1 hk' hlt1), rfl, keptBut_of _ hc hk', fun h => by cases h⟩
  obtain ⟨xs, cap, e1, hr1, hd1⟩ := open_sli encU8 Tryd.underlying22 (by kernel_rfl) open_u8 rfl (hval 0 22 v0 rfl rfl) h0
  obtain ⟨ys, cap', e2, hr2, hd2⟩ := open_sli (encInt .i64) Tryd.underlying23 (by kernel_rfl) open_i64 rfl (hval 1 23 v1 rfl rfl) h1
  obtain ⟨hr3, hn3⟩ := ro_add hr0 (by intro b hb e; rw [List.mem_singleton.1 hb]; rfl) rfl hr1
  obtain ⟨hr, _⟩ := ro_add hr3 hn3 rfl hr2
  have hv : Den ([e0, e1] ++ [e2]) (timesV ⟨xs, cap, ys, cap'⟩ 1) v0 := den_wide (den_add (env := [e0]) (n := 1) hd1 rfl)
  have hv' : Den ([e0, e1] ++ [e2]) (picksV ⟨xs, cap, ys, cap'⟩ 2) v1 := den_add (env := [e0, e1]) (n := 2) hd2 rfl
  exact (stepsLose_call (p := ⟨xs, cap, ys, cap'⟩) he hr hv hv').mono fun e W' h => fin e W' h
theorem stepsLose_row : Rows.StepsLoseSaid :=
  OpenClaim.holds_of_wide 6 Tryd.f6 rfl rfl rfl rfl rfl rfl rfl ⟨rfl, rfl, rfl, rfl, rfl⟩ rfl rfl rfl rfl rfl (by kernel_rfl) Tryd.func6 (by kernel_rfl)
    (of_decide_eq_true (by kernel_rfl)) (by unfold Func.isWrapper; first | (rw [if_pos (by decide +kernel)]; kernel_rfl) | (rw [if_neg (by decide +kernel)]; exact ⟨rfl, rfl⟩))
    (fun os started H enc _ => stepsLose_lifted os started H enc)
theorem stepsLose_holds : Rows.StepsLoseCardSaid :=
  Claim7.holds_tied_plain_at .later [] [.data] true _ _ stepsLose_row (fun _ h => by cases h) (by kernel_rfl) (fun _ h => by cases h) stepsLose_row_tie rfl ⟨rfl, rfl⟩ (by kernel_rfl) rfl
    (fun f fn hf hfn => by
      obtain rfl : f = 6 := Option.some.inj ((show Tryd.prog.funcNamed "purlin/purlinlaw08.StepsLose" = some 6 by kernel_rfl).symm.trans hf) |>.symm
      obtain rfl : fn = Tryd.f6 := (Option.some.inj (Tryd.func6.symm.trans hfn)).symm
      exact ⟨by kernel_rfl, fun j t ht => by
        rw [Tryd.params6] at ht
        have hm : t ∈ [22, 23] := by simpa using Array.mem_of_getElem? ht
        have hall : ([22, 23].all fun u => !Tryd.prog.wantsStandIn u) = true := by kernel_rfl
        exact (show Tryd.prog.wantsStandIn t = false by simpa using List.all_eq_true.1 hall t hm)⟩)
    (by kernel_rfl)
end Go.Proofs.YtlnigpeoffaemaaDoor

