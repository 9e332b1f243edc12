/- StepsAdd holds for every input: of tasks that add, or swap, nothing is lost. -/
import Derived.Test.YtlnigpeoffaemaaDoorTsk
import Derived.Test.YtlnigpeoffaemaaDoorSxC
import Derived.Test.YtlnigpeoffaemaaDoorCards
import Derived.Test.YtlnigpeoffaemaaDoorTie
import Derived.ProofKit
import Derived.LaidMore
import Derived.OpenShut
import Derived.Stop.Joined
/- StepsLose: pieces and states. -/
namespace Go.Proofs.YtlnigpeoffaemaaDoor
open Go Go.Proofs.YtlnigpeoffaemaaDoor.Sx
set_option linter.unusedVariables false
/-- a byte -/
structure U8 where
  v : Int
  h : 0 ≤ v ∧ v ≤ 255
def encU8 : Enc U8 := encOf 0 (fun x => [.int .u8 x.v]) ⟨0, by omega⟩ (fun _ => rfl) (by intro env env' x vs h; simpa [DenL, Den] using h)
/-- tasks, the last one of which may be no member of a family yet -/
def encTsN (a b o : Nat) : Enc (Bool × Option Nat) where
  tag := .other
  shut := false
  shutOk := by simp
  sz := 1
  enc x := match x with
    | (k, some i) => [.sw k (.ifc 84 (.pto a i 0)) (.ifc 74 (.pto b i 0))]
    | (k, none) => [.sw k (.ifc 84 (.ptr o 0)) (.ifc 74 (.ptr o 0))]
  dec l := match l with
    | [.ifc t (.ptr i j)] => match Nat.decEq i o, Nat.decEq j 0 with
      | .isTrue _, .isTrue _ => match Nat.decEq t 84, Nat.decEq t 74 with
        | .isTrue _, _ => some (true, none)
        | _, .isTrue _ => some (false, none)
        | _, _ => none
      | _, _ => none
    | _ => none
  dflt := (false, none)
  top := some (max (max a b) o + 1)
  topOk := by
    intro k hk m hm x
    simp only [Option.some.injEq] at hk; subst hk
    have e1 := idx_pref hm (show a < max (max a b) o + 1 by omega)
    have e2 := idx_pref hm (show b < max (max a b) o + 1 by omega)
    have e3 := idx_pref hm (show o < max (max a b) o + 1 by omega)
    match x with
    | (k, some i) => simp [renL, ren, e1, e2]
    | (k, none) => simp [renL, ren, e3]
  pos := by omega
  len x := by match x with
    | (k, some i) => rfl
    | (k, none) => rfl
  ok := by
    intro env l x vs h hd
    split at h
    · split at h
      · rename_i h1 h2 _ _
        subst h1 h2
        split at h
        · rename_i _ _ h3 _
          subst h3
          simp only [Option.some.injEq] at h; subst h
          obtain ⟨u, us, rfl, h4, h5⟩ := hd
          exact ⟨u, us, rfl, .inl ⟨rfl, h4⟩, h5⟩
        · rename_i _ _ h3 _ _
          subst h3
          simp only [Option.some.injEq] at h; subst h
          obtain ⟨u, us, rfl, h4, h5⟩ := hd
          exact ⟨u, us, rfl, .inr ⟨rfl, h4⟩, h5⟩
        · cases h
      · cases h
    · cases h
abbrev someT (ts : List (Bool × Nat)) : List (Bool × Option Nat) := ts.map fun t => (t.1, some t.2)
theorem someT_den {env : Env} {o : Nat} {ts : List (Bool × Nat)} {cs : List Value} (h : DenL env (ts.flatMap (encTs 3 4).enc) cs) : DenL env ((someT ts).flatMap (encTsN 3 4 o).enc) cs := by
  rw [List.flatMap_map]; exact h
theorem tsN_tw {env : Env} {o k : Nat} (hp : ∀ v, Den env (.ptr o 0) v → Den env (.pto 4 k 0) v) {ts : List (Bool × Nat)} {cs : List Value} (h : DenL env ((someT ts ++ [(false, none)]).flatMap (encTsN 3 4 o).enc) cs) :
    DenL env ((ts ++ [(false, k)]).flatMap (encTs 3 4).enc) cs := by
  rw [List.flatMap_append, List.flatMap_map] at h
  rw [List.flatMap_append]
  obtain ⟨us, vs, rfl, h1, h2⟩ := denL_split h
  refine denL_append h1 ?_
  obtain ⟨u, us', rfl, h3, h4⟩ := h2
  refine ⟨u, us', rfl, ?_, h4⟩
  rcases h3 with ⟨h5, _⟩ | ⟨_, w, rfl, h6⟩
  · cases h5
  · exact .inr ⟨rfl, w, rfl, hp _ h6⟩
theorem tsN_ad {env : Env} {o k : Nat} (hp : ∀ v, Den env (.ptr o 0) v → Den env (.pto 3 k 0) v) {ts : List (Bool × Nat)} {cs : List Value} (h : DenL env ((someT ts ++ [(true, none)]).flatMap (encTsN 3 4 o).enc) cs) :
    DenL env ((ts ++ [(true, k)]).flatMap (encTs 3 4).enc) cs := by
  rw [List.flatMap_append, List.flatMap_map] at h
  rw [List.flatMap_append]
  obtain ⟨us, vs, rfl, h1, h2⟩ := denL_split h
  refine denL_append h1 ?_
  obtain ⟨u, us', rfl, h3, h4⟩ := h2
  refine ⟨u, us', rfl, ?_, h4⟩
  rcases h3 with ⟨_, w, rfl, h6⟩ | ⟨h5, _⟩
  · exact .inl ⟨rfl, w, rfl, hp _ h6⟩
  · cases h5
/-- what comes in -/
structure In8 where
  times : List U8
  cap : Nat
  picks : List Int
  cap' : Nat
abbrev timesV (p : In8) (i : Nat) : SVal := .sli i (.c 0) 1 (.v p.times.length) (some (.v p.cap))
abbrev picksV (p : In8) (i : Nat) : SVal := .sli i (.c 0) 1 (.v p.picks.length) (some (.v p.cap'))
abbrev s0 (p : In8) : St := [lookB, .ro encU8 p.times, .ro (encInt .i64) p.picks]
/-- in the loop that makes tasks -/
abbrev sMk (p : In8) (xs : List Ad) (ys : List Tw) (ts : List (Bool × Nat)) : St := famS 1 [0] 0 xs ys ++ [.ro encU8 p.times, .ro (encInt .i64) p.picks, .vec (encTs 3 4) ts 44]
abbrev sMn (p : In8) (xs : List Ad) (ys : List Tw) (ts : List (Bool × Option Nat)) : St := famS 1 [0] 0 xs ys ++ [.ro encU8 p.times, .ro (encInt .i64) p.picks, .vec (encTsN 3 4 8) ts 44]
noncomputable def b6 : Code := Tryd.f6.body.getD .skip
noncomputable def c6 : Code := restC 4 b6
noncomputable def reg6 : Code := lft (lft c6)
noncomputable def blk6 : Code := rgt (lft c6)
noncomputable def round6 : Code := lft (lft blk6)
noncomputable def tm6 : Code := lft round6
noncomputable def bb6 : Code := lft (lft (rgt round6))
noncomputable def inc6 : Code := rgt (rgt round6)
noncomputable def d6 : Code := rgt c6
noncomputable def e6 : Code := restC 2 d6
noncomputable def reg6b : Code := lft (lft e6)
noncomputable def blk6b : Code := rgt (lft e6)
noncomputable def round6b : Code := lft (lft blk6b)
noncomputable def tm6b : Code := lft round6b
noncomputable def bb6b : Code := lft (lft (rgt round6b))
noncomputable def inc6b : Code := rgt (rgt round6b)
noncomputable def f6' : Code := rgt e6
abbrev n6a : List Nat := [0, 1, 5, 7, 8]
abbrev n6p : List Nat := [0, 1, 5, 7, 8, 4]
abbrev n6b : List Nat := [0, 1, 5, 7, 8, 9]
abbrev n6n : List Nat := [54, 0, 1, 5, 7, 8, 9]
abbrev v6 (p : In8) (m : Nat) (sum : Int) : List SVal := [timesV p 5, picksV p 6, .ptr 1 0, .sli 7 (.c 0) 1 (.v m) none, .int .u32 sum]
end Go.Proofs.YtlnigpeoffaemaaDoor

/- StepsLose: its configuration. -/
namespace Go.Proofs.YtlnigpeoffaemaaDoor
open Go Go.Proofs.YtlnigpeoffaemaaDoor.Sx
set_option linter.unusedVariables false
noncomputable def cfgL : Cfg := { P := Tryd.prog, ex := exI, gl := [(0, 0)], sm := fun f => match f with | 10 => some (smClosed [0] [lookB] (.bl true)) | 11 => some smNew | _ => none }
theorem cfgL_ok : SmOk cfgL := by
  intro f g h
  simp only [cfgL] at h
  split at h
  · simp only [Option.some.injEq] at h; subst h
    exact smClosedE_ok cfg0_ok awake_val ⟨new0, new1, rfl, rfl, rfl, rfl, rfl, rfl, rfl, rfl, rfl, rfl, rfl, rfl, rfl, rfl, rfl, trivial⟩ (by kernel_rfl) rfl rfl (by intro b hb e; rw [List.mem_singleton.1 hb]; rfl)
  · simp only [Option.some.injEq] at h; subst h
    exact smAny_ok cfgN_ok (by kernel_rfl) new_sel
  · cases h
end Go.Proofs.YtlnigpeoffaemaaDoor

namespace Go.Proofs.YtlnigpeoffaemaaDoor
open Go Go.Proofs.YtlnigpeoffaemaaDoor.Sx
set_option linter.unusedVariables false
set_option maxRecDepth 100000 in
theorem t6_pre {p : In8} : (execN cfgL 100 4 b6 ([timesV p 1, picksV p 2] ++ List.replicate 107 .bad) (s0 p)).bind (canonK 0 [(0,0)] 109 n6p) =
 

 (.eq (some [Blk.ro encLook [PUnit.unit]] = some [Blk.ro encLook [PUnit.unit]])

 (.br (decide ((6 : Int) < (↑p.1.length : Int)))

 (.eq (some [Blk.ro encLook [PUnit.unit]] = some [Blk.ro encLook [PUnit.unit]])

 (.ret (.ret, [.sli 1 (.c 0) 1 (.v p.1.length) (some (.v p.2)), .sli 2 (.c 0) 1 (.v p.3.length) (some (.v p.4)), .ptr 3 0, .bad, .bad, .bl true], [.ro encLook [PUnit.unit], .ro encU8 p.1, .ro (encInt IntKind.i64) p.3, .own [.c (.sli 4 (.c 0) 1 (.c 1) (some (.c 1))), .c (.lit .i64 (0 : Int))] 67, .own [.c (.lit .u32 (0 : Int))] 45])))

 (.ret (.normal, [.sli 1 (.c 0) 1 (.v p.1.length) (some (.v p.2)), .sli 2 (.c 0) 1 (.v p.3.length) (some (.v p.4)), .ptr 3 0, .sli 5 (.c 0) 1 (.c 0) (some (.c 0)), .lit .u32 (0 : Int), .bl false], [.ro encLook [PUnit.unit], .ro encU8 p.1, .ro (encInt IntKind.i64) p.3, .own [.c (.sli 4 (.c 0) 1 (.c 1) (some (.c 1))), .c (.lit .i64 (0 : Int))] 67, .own [.c (.lit .u32 (0 : Int))] 45, .own [] 44])))) := by kernel_rfl
set_option maxRecDepth 100000 in
theorem t6_reg {p : In8} {xs : List Ad} {ys : List Tw} {ts : List (Bool × Nat)} {sum : Int} : (exec cfgM 100 reg6 (fr 109 n6a (v6 p ts.length sum)) (sMk p xs ys ts)).bind (canonK 7 [(0,0)] 109 n6b) =
 

 (.ret (.normal, [.sli 5 (.c 0) 1 (.v p.1.length) (some (.v p.2)), .sli 6 (.c 0) 1 (.v p.3.length) (some (.v p.4)), .ptr 1 0, .sli 7 (.c 0) 1 (.v ts.length) none, .int .u32 sum, .lit .i64 (0 : Int)], [.ro encLook [PUnit.unit], .own [.c (.sli 2 (.c 0) 1 (.v 1) (some (.v 1))), .c (.int .i64 (0 : Int))] 67, .own [.a (encInt IntKind.u32) 1 [(0 : Int)]] 45, .many encAd xs 86, .many encTw ys 78, .ro encU8 p.1, .ro (encInt IntKind.i64) p.3, .vec (encTs 3 4) ts 44])) := by kernel_rfl
set_option maxRecDepth 100000 in
theorem t6_tm {p : In8} {xs : List Ad} {ys : List Tw} {ts : List (Bool × Nat)} {sum : Int} {i : Nat} : (exec cfgM 100 tm6 (fr 109 n6b (v6 p ts.length sum ++ [.int .i64 (i : Nat)])) (sMk p xs ys ts)).bind (canonK 7 [(0,0)] 109 n6b) =
 

 (.br (decide ((↑i : Int) < (↑p.1.length : Int)))

 (.ret (.normal, [.sli 5 (.c 0) 1 (.v p.1.length) (some (.v p.2)), .sli 6 (.c 0) 1 (.v p.3.length) (some (.v p.4)), .ptr 1 0, .sli 7 (.c 0) 1 (.v ts.length) none, .int .u32 sum, .int .i64 (↑i : Int)], [.ro encLook [PUnit.unit], .own [.c (.sli 2 (.c 0) 1 (.v 1) (some (.v 1))), .c (.int .i64 (0 : Int))] 67, .own [.a (encInt IntKind.u32) 1 [(0 : Int)]] 45, .many encAd xs 86, .many encTw ys 78, .ro encU8 p.1, .ro (encInt IntKind.i64) p.3, .vec (encTs 3 4) ts 44]))

 (.ret (.exit 0, [.sli 5 (.c 0) 1 (.v p.1.length) (some (.v p.2)), .sli 6 (.c 0) 1 (.v p.3.length) (some (.v p.4)), .ptr 1 0, .sli 7 (.c 0) 1 (.v ts.length) none, .int .u32 sum, .int .i64 (↑i : Int)], [.ro encLook [PUnit.unit], .own [.c (.sli 2 (.c 0) 1 (.v 1) (some (.v 1))), .c (.int .i64 (0 : Int))] 67, .own [.a (encInt IntKind.u32) 1 [(0 : Int)]] 45, .many encAd xs 86, .many encTw ys 78, .ro encU8 p.1, .ro (encInt IntKind.i64) p.3, .vec (encTs 3 4) ts 44]))) := by kernel_rfl
set_option maxRecDepth 100000 in
theorem t6_mk {p : In8} {xs : List Ad} {ys : List Tw} {ts : List (Bool × Option Nat)} {sum : Int} {i : Nat} : (exec cfgM 100 bb6 (fr 109 n6b (v6 p ts.length sum ++ [.int .i64 (i : Nat)])) (sMn p xs ys ts)).bind (canonK 7 [(0,0)] 109 n6n) =
 

 (.need (decide ((0 : Int) ≤ (↑i : Int)) && decide ((↑i : Int).toNat < p.1.length))

 (.need (decide ((↑i : Int).toNat < p.1.length))

 (.need (inR .u32 (p.1.getD (↑i : Int).toNat { v := (0 : Int), h := encU8._proof_2 }).v)

 (.need (true)

 (.need (inR .i64 ((p.1.getD (↑i : Int).toNat { v := (0 : Int), h := encU8._proof_2 }).v.tmod (12 : Int)))

 (.need (true)

 (.need (decide (ts.length = ts.length))

 (.need (roomy (ts.length + 1) 16)

 (.ret (.normal, [.ifc 74 (.ptr 7 0), .sli 5 (.c 0) 1 (.v p.1.length) (some (.v p.2)), .sli 6 (.c 0) 1 (.v p.3.length) (some (.v p.4)), .ptr 1 0, .sli 8 (.c 0) 1 (.v (ts.length + 1)) none, .int .u32 (IntKind.u32.wrap (sum + (p.1.getD (↑i : Int).toNat { v := (0 : Int), h := encU8._proof_2 }).v.tmod (12 : Int))), .int .i64 (↑i : Int)], [.ro encLook [PUnit.unit], .own [.c (.sli 2 (.c 0) 1 (.v 1) (some (.v 1))), .c (.int .i64 (0 : Int))] 67, .own [.a (encInt IntKind.u32) 1 [(0 : Int)]] 45, .many encAd xs 86, .many encTw ys 78, .ro encU8 p.1, .ro (encInt IntKind.i64) p.3, .own [.c (.lit .i64 (0 : Int)), .c (.int .i64 ((p.1.getD (↑i : Int).toNat { v := (0 : Int), h := encU8._proof_2 }).v.tmod (12 : Int))), .c (.bl false), .c (.lit .u32 (0 : Int)), .c (SVal.fn (Fn.func 27) [] [])] 78, .vec (encRow 0) (renRows [0, 1, 2, 3, 4, 5, 6, 8, 10] (encTsN 3 4 8) (ts ++ [(false, none)])) 44])))))))))) := by kernel_rfl
set_option maxRecDepth 100000 in
theorem t6_inc {p : In8} {xs : List Ad} {ys : List Tw} {ts : List (Bool × Nat)} {sum : Int} {i : Nat} : (exec cfgM 100 inc6 (fr 109 n6b (v6 p ts.length sum ++ [.int .i64 (i : Nat)])) (sMk p xs ys ts)).bind (canonK 7 [(0,0)] 109 n6b) =
 

 (.need (inR .i64 ((↑i : Int) + (1 : Int)))

 (.ret (.normal, [.sli 5 (.c 0) 1 (.v p.1.length) (some (.v p.2)), .sli 6 (.c 0) 1 (.v p.3.length) (some (.v p.4)), .ptr 1 0, .sli 7 (.c 0) 1 (.v ts.length) none, .int .u32 sum, .int .i64 ((↑i : Int) + (1 : Int))], [.ro encLook [PUnit.unit], .own [.c (.sli 2 (.c 0) 1 (.v 1) (some (.v 1))), .c (.int .i64 (0 : Int))] 67, .own [.a (encInt IntKind.u32) 1 [(0 : Int)]] 45, .many encAd xs 86, .many encTw ys 78, .ro encU8 p.1, .ro (encInt IntKind.i64) p.3, .vec (encTs 3 4) ts 44]))) := by kernel_rfl
set_option maxRecDepth 100000 in
theorem t6_new {p : In8} {xs : List Ad} {ys : List Tw} {ts : List (Bool × Nat)} {sum : Int} {i : Nat} : (execN cfgL 100 2 d6 (fr 109 n6b (v6 p ts.length sum ++ [.int .i64 (i : Nat)])) (sMk p xs ys ts)).bind (canonK 7 [(0,0)] 109 [0, 1, 5, 8, 11]) =
 

 (.eq (anyP cfgN 100 11 [.ptr 1 0, .sli 7 (.c 0) 1 (.v ts.length) none] [.ro encLook [PUnit.unit], .own [.c (.sli 2 (.c 0) 1 (.v 1) (some (.v 1))), .c (.int .i64 (0 : Int))] 67, .own [.a (encInt IntKind.u32) 1 [(0 : Int)]] 45, .many encAd xs 86, .many encTw ys 78, .ro encU8 p.1, .ro (encInt IntKind.i64) p.3, .vec (encTs 3 4) ts 44])

 (.need (decide (0 + ts.length ≤ ts.length))

 (.need (decide (0 + ts.length ≤ ts.length))

 (.need (roomy (List.take ts.length (List.drop 0 ts)).length 16)

 (.need (decide ((0 : Int) ≤ (↑ts.length : Int)))

 (.need (decide ((↑ts.length : Int) * (1 : Int) ≤ (140737488355328 : Int)))

 (.need (decide ((↑ts.length : Int) ≤ (4611686018427387904 : Int)))

 (.ret (.normal, [.sli 5 (.c 0) 1 (.v p.1.length) (some (.v p.2)), .sli 6 (.c 0) 1 (.v p.3.length) (some (.v p.4)), .ptr 1 0, .int .u32 sum, .ptr 7 0], [.ro encLook [PUnit.unit], .own [.c (.sli 2 (.c 0) 1 (.v 1) (some (.v 1))), .c (.int .i64 (0 : Int))] 67, .own [.a (encInt IntKind.u32) 1 [(0 : Int)]] 45, .many encAd xs 86, .many encTw ys 78, .ro encU8 p.1, .ro (encInt IntKind.i64) p.3, .own [.c (.ptr 1 0), .c (.sli 8 (.c 0) 1 (.v (List.take ts.length (List.drop 0 ts)).length) none), .c (.sli 9 (.c 0) 1 (.v (↑ts.length : Int).toNat) (some (.v (↑ts.length : Int).toNat)))] 70, .vec (encTs 3 4) (List.take ts.length (List.drop 0 ts)) 44, .own [.a encBool (↑ts.length : Int).toNat (List.replicate (↑ts.length : Int).toNat false)] 4]))))))))) := by kernel_rfl
end Go.Proofs.YtlnigpeoffaemaaDoor

/- StepsLose: the making of tasks. -/
namespace Go.Proofs.YtlnigpeoffaemaaDoor
open Go Go.Proofs.YtlnigpeoffaemaaDoor.Sx
set_option linter.unusedVariables false
def mkTw (u : U8) : Tw := ⟨0, u.v.tmod 12, false, 0, false⟩
def ysAt (p : In8) (i : Nat) : List Tw := (p.times.take i).map mkTw
def sumW (ys : List Tw) : Int := (ys.map (·.times)).sum
def tsB (i : Nat) : List (Bool × Nat) := (List.range i).map fun j => (false, j)
theorem tsB_len (i : Nat) : (tsB i).length = i := by simp [tsB]
theorem tsB_succ (i : Nat) : tsB (i + 1) = tsB i ++ [(false, i)] := by simp [tsB, List.range_succ]
theorem tmod12 (u : U8) : 0 ≤ u.v.tmod 12 ∧ u.v.tmod 12 ≤ 11 := by
  have := u.h
  rw [Int.tmod_eq_emod_of_nonneg this.1]; omega
theorem ysAt_len {p : In8} {i : Nat} (h : i ≤ p.times.length) : (ysAt p i).length = i := by simp [ysAt]; omega
theorem ysAt_succ {p : In8} {i : Nat} (h : i < p.times.length) : ysAt p (i + 1) = ysAt p i ++ [mkTw (p.times.getD i encU8.dflt)] := by
  unfold ysAt
  rw [List.take_add_one, List.map_append]
  simp [List.getD_eq_getElem?_getD, h]
theorem sumW_succ {p : In8} {i : Nat} (h : i < p.times.length) : sumW (ysAt p (i + 1)) = sumW (ysAt p i) + (p.times.getD i encU8.dflt).v.tmod 12 := by
  rw [ysAt_succ h, sumW, List.map_append, List.sum_append]
  simp [sumW, mkTw]
theorem w32_small {x : Int} (h : 0 ≤ x) (h' : x < 4294967296) : IntKind.u32.wrap x = x := wrap_inR (by rw [inR_u32]; omega)
theorem sumW_le {p : In8} : ∀ {i : Nat}, 0 ≤ sumW (ysAt p i) ∧ sumW (ysAt p i) ≤ 11 * i := by
  intro i
  have h : ∀ l : List U8, 0 ≤ ((l.map mkTw).map (·.times)).sum ∧ ((l.map mkTw).map (·.times)).sum ≤ 11 * l.length := by
    intro l
    induction l with
    | nil => simp
    | cons u l ih =>
      have := tmod12 u
      simp only [List.map_cons, List.sum_cons, mkTw, List.length_cons] at ih ⊢
      push_cast
      omega
  have := h (p.times.take i)
  have hl : (p.times.take i).length ≤ i := by simp; omega
  unfold sumW ysAt
  constructor
  · exact this.1
  · have := this.2; omega
abbrev Q6 (w0 : From) : Exit → Act → World → Prop := bodyPost Tryd.prog Tryd.f6 (Said w0)
def InvL (w0 : From) (p : In8) (i : Nat) (a : Act) (w : World) : Prop :=
  i ≤ p.times.length ∧ ∃ env, AtK [] [(0, 0)] w0 env (fr 109 n6b (v6 p i (sumW (ysAt p i)) ++ [.int .i64 (i : Nat)])) (sMk p [] (ysAt p i) (tsB i)) a w
abbrev RL (w0 : From) (p : In8) (i : Nat) : Exit → Act → World → Prop :=
  Exit.then (fun a' w' => ∃ k, InvL w0 p k a' w' ∧ p.times.length - k < p.times.length - i) (Exit.inBlock 0 (Exit.then (d6.wp Tryd.prog (Q6 w0)) (Q6 w0)))
theorem encN_ren (x : Bool × Option Nat) : renL [0, 1, 2, 3, 4, 5, 6, 8, 10] ((encTsN 3 4 8).enc x) = (encTsN 3 4 7).enc x := by
  match x with
  | (k, some i) => rfl
  | (k, none) => rfl
set_option maxHeartbeats 1000000 in
theorem roundL_ok {w0 : From} {p : In8} (h6 : p.times.length ≤ 6)
    (hd : ∀ {env : Env} {a : Act} {w : World}, AtK [] [(0, 0)] w0 env (fr 109 n6b (v6 p p.times.length (sumW (ysAt p p.times.length)) ++ [.int .i64 (p.times.length : Nat)])) (sMk p [] (ysAt p p.times.length) (tsB p.times.length)) a w → d6.wp Tryd.prog (Q6 w0) a w)
    {i : Nat} {a : Act} {w : World} (h : InvL w0 p i a w) : round6.wp Tryd.prog (RL w0 p i) a w := by
  obtain ⟨hi, env, hA⟩ := h
  refine wpS (by kernel_rfl) ?_
  have hlt := tsB_len i
  have hA' : AtK [] [(0, 0)] w0 env (fr 109 n6b (v6 p (tsB i).length (sumW (ysAt p i)) ++ [.int .i64 (i : Nat)])) (sMk p [] (ysAt p i) (tsB i)) a w := by rw [hlt]; exact hA
  refine pieceTK2 (c := cfgM) cfgM_ok n6b t6_tm (by simp) (by simp) hA' ?_
  refine all_brp (by simp only [decide_eq_true_eq]; exact Iff.rfl) (fun h1 => all_ret fun env1 a1 w1 hA1 => ?_) (fun h1 => all_ret fun env1 a1 w1 hA1 => ?_)
  · simp only [Ex.to, Exit.then]
    have hi' : i < p.times.length := by omega
    refine (show (rgt round6).wp Tryd.prog (RL w0 p i) a1 w1 from wpS (by kernel_rfl) (wpB 1 (by kernel_rfl) ?_))
    refine (show bb6.wp Tryd.prog (Exit.inBlock 1 (Exit.then (inc6.wp Tryd.prog (RL w0 p i)) (RL w0 p i))) a1 w1 from ?_)
    have hsl : (someT (tsB i)).length = (tsB i).length := by simp
    have hA2 : AtK [] [(0, 0)] w0 env1 (fr 109 n6b (v6 p (someT (tsB i)).length (sumW (ysAt p i)) ++ [.int .i64 (i : Nat)])) (sMn p [] (ysAt p i) (someT (tsB i))) a1 w1 := by
      rw [hsl]
      exact hA1.on fun h => h.typede 7 (E' := encTsN 3 4 8) (ys := someT (tsB i)) rfl (by simp) rfl (fun cs h => someT_den h)
    refine pieceTK2 (c := cfgM) cfgM_ok n6n t6_mk (by simp) (by simp) hA2 ?_
    have hs := sumW_succ hi'
    have hx := ysAt_succ hi'
    simp only [Int.toNat_natCast]
    rw [show encU8.dflt = (⟨0, by omega⟩ : U8) from rfl] at hs hx
    have hu := tmod12 (p.times.getD i ⟨0, by omega⟩)
    have hur := (p.times.getD i ⟨0, by omega⟩).h
    have hle := sumW_le (p := p) (i := i)
    refine all_needq (by simp only [decide_eq_true_eq, Bool.and_eq_true]; exact Iff.rfl) (by omega) ?_
    refine all_needq (by simp only [decide_eq_true_eq]; exact Iff.rfl) (by omega) ?_
    refine all_needq (by simp only [inR_u32]; exact Iff.rfl) (by omega) ?_
    refine all_need rfl fun _ => ?_
    refine all_needq (by simp only [inR_i64]; exact Iff.rfl) (by omega) ?_
    refine all_need rfl fun _ => ?_
    refine all_need (by simp) fun _ => ?_
    refine all_needq (by simp only [roomy_iff]; exact Iff.rfl) (by rw [hsl, hlt]; omega) ?_
    refine all_ret fun env2 a2 w2 hA3 => ?_
    rw [w32_small (by omega) (by omega), ← hs, hsl, hlt] at hA3
    have hA4 := hA3.on fun h => h.retype 8 (E := encTsN 3 4 8) rfl (encTsN 3 4 7) rfl encN_ren
    obtain ⟨env4, hA5, hj⟩ := hA4.join2 4 7 (by omega) (by simp) (E := encTw) (xs := ysAt p i) rfl rfl (mkTw (p.times.getD i ⟨0, by omega⟩)) (fun env cs h => by
      simpa [segCells, Seg.cells, encTw, encOf, mkTw, DenL, Den] using h)
    rw [ysAt_len (by omega)] at hj
    have hA6 := hA5.on fun h => h.typede 8 (E' := encTs 3 4) (ys := tsB i ++ [(false, i)]) rfl (by simp) rfl (fun cs h => tsN_tw (fun v => hj v 0) h)
    have hA7 := hA6.perm [0, 1, 2, 3, 4, 5, 6, 8] (by kernel_rfl) (by kernel_rfl) (st' := sMk p [] (ysAt p (i + 1)) (tsB (i + 1))) (vals' := .ifc 74 .bad :: (v6 p (i + 1) (sumW (ysAt p (i + 1))) ++ [SVal.int .i64 (i : Nat)])) (by rw [hx, tsB_succ]; rfl) rfl rfl
    have hA8 := hA7.on fun h => h.drop1 rfl
    simp only [Ex.to, Exit.inBlock, Exit.then]
    have hlt1 := tsB_len (i + 1)
    refine (show inc6.wp Tryd.prog (RL w0 p i) a2 w2 from ?_)
    obtain ⟨envZ, hA9⟩ : ∃ envZ, AtK [] [(0, 0)] w0 envZ (fr 109 n6b (v6 p (tsB (i + 1)).length (sumW (ysAt p (i + 1))) ++ [.int .i64 (i : Nat)])) (sMk p [] (ysAt p (i + 1)) (tsB (i + 1))) a2 w2 := ⟨_, by rw [hlt1]; exact hA8⟩
    refine pieceTK2 (c := cfgM) cfgM_ok n6b t6_inc (by simp) (by simp) hA9 ?_
    refine all_needp (by simp only [inR_i64]; exact Iff.rfl) (by omega) fun _ => all_ret fun env' a' w' hA9 => ?_
    refine ⟨i + 1, ⟨by omega, env', ?_⟩, by omega⟩
    rw [hlt1] at hA9
    exact hA9
  · have : i = p.times.length := by omega
    subst this
    simp only [Ex.to, Exit.then, Exit.inBlock, if_true]
    rw [hlt] at hA1
    exact hd hA1
end Go.Proofs.YtlnigpeoffaemaaDoor

/- StepsLose, plain: of tasks that load and store something may get lost, but not all. -/
namespace Go.Proofs.YtlnigpeoffaemaaDoor
open Go Go.Proofs.YtlnigpeoffaemaaDoor.Sx
set_option linter.unusedVariables false
theorem w32_mod (x : Int) : IntKind.u32.wrap x = x % 4294967296 := by
  simp [IntKind.wrap, IntKind.signed, IntKind.bits]
theorem low_u32 (x : Int) : ((low .u32 x : Nat) : Int) = x % 4294967296 := by
  have : 0 ≤ x % 4294967296 := by omega
  simp only [low, IntKind.bits]
  omega
theorem low_lt (x : Int) : low .u32 x < 4294967296 := by
  have := low_u32 x
  omega
theorem and_mask (x : Int) : bitop .and .u32 x 4294967295 = x % 4294967296 := by
  have h1 : low .u32 4294967295 = 2 ^ 32 - 1 := by decide
  have h2 := low_lt x
  simp only [bitop, h1, Nat.and_two_pow_sub_one_eq_mod, w32_mod]
  rw [Nat.mod_eq_of_lt (by omega), low_u32]
  omega
theorem and_zero (x : Int) : bitop .and .u32 x 0 = 0 := by
  have h1 : low .u32 0 = 0 := by decide
  simp only [bitop, h1, Nat.and_zero, w32_mod]
  rfl
theorem or_zero (x : Int) : bitop .or .u32 x 0 = x % 4294967296 := by
  have h1 : low .u32 0 = 0 := by decide
  simp only [bitop, h1, Nat.or_zero, w32_mod, low_u32]
  omega
theorem zero_or (x : Int) : bitop .or .u32 0 x = x % 4294967296 := by
  have h1 : low .u32 0 = 0 := by decide
  simp only [bitop, h1, Nat.zero_or, w32_mod, low_u32]
  omega
theorem incP_ok (x : Int) : incP x = (x + 1) % 4294967296 := by
  simp only [incP, and_mask, or_zero, w32_mod]; omega
theorem setP_ok (x v : Int) : setP x v = v % 4294967296 := by
  simp only [setP, and_zero, zero_or, w32_mod]; omega
theorem tsB_at {m i : Nat} (h : i < m) : tsAt (tsB m) i = (false, i) := by
  simp [tsAt, tsB, List.getD_eq_getElem?_getD, h]
theorem sumW_set : ∀ {ys : List Tw} {i : Nat} (h : i < ys.length) (y : Tw), sumW (ys.set i y) = sumW ys - (ys.getD i encTw.dflt).times + y.times
  | x :: ys, 0, _, y => by simp [sumW]; omega
  | x :: ys, i + 1, h, y => by
    have ih := sumW_set (ys := ys) (i := i) (by simpa using h) y
    simp only [sumW, List.set_cons_succ, List.map_cons, List.sum_cons, List.getD_cons_succ] at ih ⊢
    omega
theorem sumW_nonneg : ∀ {ys : List Tw}, (∀ i, i < ys.length → 0 ≤ (ys.getD i encTw.dflt).times) → 0 ≤ sumW ys
  | [], _ => by simp [sumW]
  | x :: ys, h => by
    have ih := sumW_nonneg (ys := ys) (fun i hi => h (i + 1) (by simpa using hi))
    have h0 := h 0 (by simp)
    simp only [sumW, List.map_cons, List.sum_cons, List.getD_cons_zero] at ih h0 ⊢
    omega
theorem sumW_zero : ∀ {ys : List Tw}, (∀ i, i < ys.length → (ys.getD i encTw.dflt).times = 0) → sumW ys = 0
  | [], _ => by simp [sumW]
  | x :: ys, h => by
    have ih := sumW_zero (ys := ys) (fun i hi => h (i + 1) (by simpa using hi))
    have h0 := h 0 (by simp)
    simp only [sumW, List.map_cons, List.sum_cons, List.getD_cons_zero] at ih h0 ⊢
    omega
/-- what holds of one task, where so many stores were made, and the word is so great -/
structure Lz (t : Tw) (d : Bool) (S w : Int) (m : Nat) : Prop where
  at' : t.at' = 0
  swap : t.swap = false
  times : 0 ≤ t.times ∧ t.times ≤ 11
  done : d = true → t.times = 0
  v : t.has = true → 1 ≤ t.times ∧ 0 ≤ t.v ∧ t.v ≤ S
  one : m = 1 → t.has = true → t.v = w
structure LInv (m : Nat) (T0 : Int) (s : Mc) : Prop where
  m6 : m ≤ 6
  ly : s.tw.length = m
  ld : s.ds.length = m
  lx : s.ad = []
  tot : T0 ≤ 66
  w : ∃ w, s.l = [w] ∧ 0 ≤ w ∧ w ≤ T0 - sumW s.tw ∧ (0 < T0 - sumW s.tw → 1 ≤ w) ∧ (m = 1 → w = T0 - sumW s.tw) ∧ ∀ i, i < m → Lz (twAt s i) (s.ds.getD i false) (T0 - sumW s.tw) w m
theorem linv_ok {m : Nat} {T0 : Int} {s : Mc} (h : LInv m T0 s) : McOk 1 m (tsB m) s := by
  obtain ⟨w, hw, _, _, _, _, hk⟩ := h.w
  refine ⟨by rw [hw]; rfl, tsB_len m, h.ld, fun i hi => ?_, fun i j hi hj e => ?_⟩
  · rw [tsB_at hi]
    exact ⟨by rw [h.ly]; exact hi, by have := (hk i hi).times; simp only; omega⟩
  · rw [tsB_at hi, tsB_at hj] at e
    exact (Prod.mk.inj e).2
/-- how many steps a task needs still -/
def remT (t : Tw) (d : Bool) : Nat := match d with
  | true => 0
  | false => if t.times < 1 then 1 else 2 * t.times.toNat - (if t.has then 1 else 0)
def remP (s : Mc) (i : Nat) : Nat := remT (twAt s i) (s.ds.getD i false)
/-- a pick of a task that isn't done -/
theorem pick_eq {m : Nat} {s : Mc} {i : Int} (hb : inP i m = true) (hd : s.ds.getD i.toNat false = false) : pickP m (tsB m) s i =
    ⟨(stepTw (twAt s i.toNat) s.l).2.1, usesTw (twAt s i.toNat) s.l s.c, s.ad, s.tw.set i.toNat (stepTw (twAt s i.toNat) s.l).1, s.ds.set i.toNat (stepTw (twAt s i.toNat) s.l).2.2⟩ := by
  have hb' := (inP_iff _ _).1 hb
  have ht : tsAt (tsB m) i.toNat = (false, i.toNat) := tsB_at (by omega)
  simp only [pickP, hb, hd, ht]
theorem pick_same {m : Nat} {s : Mc} {i : Int} (h : inP i m = false ∨ s.ds.getD i.toNat false = true) (ts : List (Bool × Nat)) : pickP m ts s i = s := by
  unfold pickP
  rcases h with h | h
  · rw [h]
  · split
    · rw [h]
    · rfl
theorem linv_pick {m : Nat} {T0 : Int} {s : Mc} (h : LInv m T0 s) (i : Int) : LInv m T0 (pickP m (tsB m) s i) ∧ ∀ j, j < m → (j = i.toNat → 0 ≤ i → remP (pickP m (tsB m) s i) j ≤ remP s j - 1) ∧ remP (pickP m (tsB m) s i) j ≤ remP s j := by
  by_cases hc : inP i m = false ∨ s.ds.getD i.toNat false = true
  · rw [pick_same hc]
    refine ⟨h, fun j hj => ⟨fun e h0 => ?_, Nat.le_refl _⟩⟩
    rcases hc with hc | hc
    · have := (not_congr (inP_iff _ _)).1 (by rw [hc]; simp)
      omega
    · subst e
      simp only [remP, hc, remT]; omega
  · have hb : inP i m = true := by
      cases hq : inP i m with
      | true => rfl
      | false => exact absurd (.inl hq) hc
    have hd : s.ds.getD i.toNat false = false := by
      cases hq : s.ds.getD i.toNat false with
      | false => rfl
      | true => exact absurd (.inr hq) hc
    have hb' := (inP_iff _ _).1 hb
    have hi : i.toNat < m := by omega
    rw [pick_eq hb hd]
    obtain ⟨h1, h2, h3, h4, h5, w, hw, w0, w1, w2, w3, hk⟩ := h
    generalize hii : i.toNat = k at *
    have hz := hk k hi
    have hT := hz.times
    have hsum0 : 0 ≤ sumW s.tw := sumW_nonneg (fun j hj => (hk j (by omega)).times.1)
    have keep : ∀ (t' : Tw) (d' : Bool) (l' : List Int) (c' : Int) (j : Nat), j ≠ k → twAt ⟨l', c', s.ad, s.tw.set k t', s.ds.set k d'⟩ j = twAt s j ∧ (s.ds.set k d').getD j false = s.ds.getD j false := by
      intro t' d' l' c' j hj
      exact ⟨Sx.getD_set_ne (fun e => hj e.symm) _ _, Sx.getD_set_ne (fun e => hj e.symm) _ _⟩
    have self : ∀ (t' : Tw) (d' : Bool) (l' : List Int) (c' : Int), twAt ⟨l', c', s.ad, s.tw.set k t', s.ds.set k d'⟩ k = t' ∧ (s.ds.set k d').getD k false = d' := by
      intro t' d' l' c'
      exact ⟨Sx.getD_set_self (by omega) _ _, Sx.getD_set_self (by omega) _ _⟩
    have hss : ∀ t' : Tw, sumW (s.tw.set k t') = sumW s.tw - (twAt s k).times + t'.times := fun t' => sumW_set (by omega) t'
    have main : ∀ (t' : Tw) (l' : List Int) (d' : Bool) (c' : Int), stepTw (twAt s k) s.l = (t', l', d') → remT t' d' ≤ remT (twAt s k) false - 1 →
        (∃ w', l' = [w'] ∧ 0 ≤ w' ∧ w' ≤ T0 - sumW (s.tw.set k t') ∧ (0 < T0 - sumW (s.tw.set k t') → 1 ≤ w') ∧ (m = 1 → w' = T0 - sumW (s.tw.set k t')) ∧ T0 - sumW s.tw ≤ T0 - sumW (s.tw.set k t') ∧ Lz t' d' (T0 - sumW (s.tw.set k t')) w' m) →
        LInv m T0 ⟨l', c', s.ad, s.tw.set k t', s.ds.set k d'⟩ ∧ ∀ j, j < m → (j = k → 0 ≤ i → remP ⟨l', c', s.ad, s.tw.set k t', s.ds.set k d'⟩ j ≤ remP s j - 1) ∧ remP ⟨l', c', s.ad, s.tw.set k t', s.ds.set k d'⟩ j ≤ remP s j := by
      intro t' l' d' c' he hrem ⟨w', e1, e2, e3, e4, e5, e6, e7⟩
      refine ⟨⟨h1, by simp [h2], by simp [h3], h4, h5, w', e1, e2, e3, e4, e5, fun j hj => ?_⟩, fun j hj => ?_⟩
      · by_cases hjk : j = k
        · subst hjk
          rw [(self t' d' l' c').1, (self t' d' l' c').2]; exact e7
        · rw [(keep t' d' l' c' j hjk).1, (keep t' d' l' c' j hjk).2]
          obtain ⟨g1, g2, g3, g4, g5, g6⟩ := hk j hj
          refine ⟨g1, g2, g3, g4, fun hh => ?_, fun hm => by exfalso; omega⟩
          have := g5 hh
          exact ⟨this.1, this.2.1, Int.le_trans this.2.2 e6⟩
      · by_cases hjk : j = k
        · subst hjk
          have er : remP ⟨l', c', s.ad, s.tw.set j t', s.ds.set j d'⟩ j = remT t' d' := by unfold remP; rw [(self t' d' l' c').1, (self t' d' l' c').2]
          have er2 : remP s j = remT (twAt s j) false := by unfold remP; rw [hd]
          rw [er, er2]
          exact ⟨fun _ _ => hrem, by omega⟩
        · have er : remP ⟨l', c', s.ad, s.tw.set k t', s.ds.set k d'⟩ j = remP s j := by unfold remP; rw [(keep t' d' l' c' j hjk).1, (keep t' d' l' c' j hjk).2]
          rw [er]
          exact ⟨fun e => absurd e hjk, Nat.le_refl _⟩
    have hin : inP 0 1 = true := by decide
    obtain ⟨g1, g2, g3, g4, g5, g6⟩ := hz
    generalize ht : twAt s k = t at *
    obtain ⟨at', times, has, v, swap⟩ := t
    simp only at g1 g2 g3 g4 g5 g6 hT hss
    subst g1 g2
    by_cases hlt : times < 1
    · have h0 : times = 0 := by omega
      subst h0
      have hst : stepTw ⟨0, 0, has, v, false⟩ s.l = (⟨0, 0, has, v, false⟩, s.l, true) := by simp [stepTw]
      rw [hst]
      refine main _ _ _ _ hst (by simp [remT]) ⟨w, hw, w0, ?_⟩
      rw [hss]
      simp only [Int.sub_zero, Int.add_zero]
      exact ⟨w1, w2, w3, Int.le_refl _, rfl, rfl, hT, fun _ => rfl, g5, g6⟩
    · have hdf : decide (times < 1) = false := decide_eq_false hlt
      cases has with
      | false =>
        have hst : stepTw ⟨0, times, false, v, false⟩ s.l = (⟨0, times, true, w, false⟩, s.l, false) := by
          simp [stepTw, hw, hin, hlt]
        rw [hst]
        refine main _ _ _ _ hst (by simp [remT, hlt]) ⟨w, hw, w0, ?_⟩
        rw [hss]
        have e : T0 - (sumW s.tw - times + times) = T0 - sumW s.tw := by omega
        simp only [e]
        exact ⟨w1, w2, w3, Int.le_refl _, rfl, rfl, hT, fun hh => (by cases hh), fun _ => ⟨by simp only; omega, w0, w1⟩, fun _ _ => rfl⟩
      | true =>
        have g5' := g5 rfl
        have hst : stepTw ⟨0, times, true, v, false⟩ s.l = (⟨0, times - 1, false, v, false⟩, [v + 1], times - 1 == 0) := by
          have : u32P (v + 1) % 4294967296 = v + 1 := by rw [show u32P (v + 1) = _ from w32_mod _]; omega
          simp [stepTw, hw, hin, hlt, setP_ok, this]
        rw [hst]
        refine main _ _ _ _ hst ?_ ⟨v + 1, rfl, by omega, ?_⟩
        · cases hq : times - 1 == 0 with
          | true => simp [remT, hlt]
          | false =>
            have : times - 1 ≠ 0 := by simpa using hq
            simp only [remT, hlt, if_false, if_true, Bool.false_eq_true]
            rw [if_neg (by omega)]
            omega
        · rw [hss]
          simp only
          have e : T0 - (sumW s.tw - times + (times - 1)) = T0 - sumW s.tw + 1 := by omega
          rw [e]
          refine ⟨by omega, fun _ => by omega, fun hm => by have := g6 hm rfl; have := w3 hm; omega, by omega, rfl, rfl, by simp only; omega, fun hh => ?_, fun hh => (by cases hh), fun _ hh => (by cases hh)⟩
          simpa using hh
end Go.Proofs.YtlnigpeoffaemaaDoor

/- StepsLose, plain: rounds end. -/
namespace Go.Proofs.YtlnigpeoffaemaaDoor
open Go Go.Proofs.YtlnigpeoffaemaaDoor.Sx
set_option linter.unusedVariables false
theorem linv_pass {m : Nat} {T0 : Int} {s : Mc} (h : LInv m T0 s) : ∀ k, k ≤ m → LInv m T0 (passP m (tsB m) s k) ∧ ∀ j, j < m → (j < k → remP (passP m (tsB m) s k) j ≤ remP s j - 1) ∧ remP (passP m (tsB m) s k) j ≤ remP s j
  | 0, _ => ⟨h, fun j hj => ⟨fun hh => by omega, Nat.le_refl _⟩⟩
  | k + 1, hk => by
    obtain ⟨h1, h2⟩ := linv_pass h k (by omega)
    obtain ⟨h3, h4⟩ := linv_pick h1 ((k : Nat) : Int)
    refine ⟨h3, fun j hj => ?_⟩
    obtain ⟨a, b⟩ := h2 j hj
    obtain ⟨c, d⟩ := h4 j hj
    simp only [passP]
    refine ⟨fun hh => ?_, by omega⟩
    by_cases e : j = k
    · have := c (by simp [e]) (by omega)
      omega
    · have := a (by omega)
      omega
theorem rem_zero {t : Tw} {d : Bool} (h : remT t d = 0) : d = true := by
  cases d with
  | true => rfl
  | false =>
    simp only [remT] at h
    split at h
    · cases h
    · split at h <;> omega
theorem left_zero {ds : List Bool} (h : ∀ i, i < ds.length → ds.getD i false = true) : leftP ds = 0 := by
  have : ds.filter (fun b => !b) = [] := by
    rw [List.filter_eq_nil_iff]
    intro b hb
    obtain ⟨i, hi, rfl⟩ := List.getElem_of_mem hb
    have := h i hi
    rw [List.getD_eq_getElem?_getD, List.getElem?_eq_getElem hi] at this
    simpa using this
  simp [leftP, this]
theorem left_all {ds : List Bool} (h : leftP ds = 0) : ∀ i, i < ds.length → ds.getD i false = true := by
  intro i hi
  have h0 : ds.filter (fun b => !b) = [] := by
    rw [← List.length_eq_zero_iff]
    unfold leftP at h; omega
  rw [List.filter_eq_nil_iff] at h0
  have := h0 ds[i] (List.getElem_mem hi)
  rw [List.getD_eq_getElem?_getD, List.getElem?_eq_getElem hi]
  simpa using this
theorem linv_end {m : Nat} {T0 : Int} : ∀ (f : Nat) {s : Mc}, LInv m T0 s → (∀ j, j < m → remP s j ≤ f) → LInv m T0 (endP m (tsB m) s f) ∧ leftP (endP m (tsB m) s f).ds = 0
  | 0, s, h, hr => by
    refine ⟨h, left_zero fun i hi => ?_⟩
    have h2 : i < m := by rw [← h.ld]; exact hi
    have := hr i h2
    exact rem_zero (t := twAt s i) (d := s.ds.getD i false) (by unfold remP at this; omega)
  | f + 1, s, h, hr => by
    simp only [endP]
    split
    · exact ⟨h, by assumption⟩
    · obtain ⟨h1, h2⟩ := linv_pass h m (Nat.le_refl _)
      exact linv_end f h1 (fun j hj => by have := (h2 j hj).1 hj; have := hr j hj; omega)
theorem rem_le {m : Nat} {T0 : Int} {s : Mc} (h : LInv m T0 s) : ∀ j, j < m → remP s j ≤ 22 := by
  intro j hj
  obtain ⟨w, _, _, _, _, _, hk⟩ := h.w
  have := (hk j hj).times
  unfold remP remT
  split
  · omega
  · split <;> omega
theorem linv_law {m : Nat} {T0 : Int} {s : Mc} (h : LInv m T0 s) (hl : leftP s.ds = 0) : ∃ w, s.l = [w] ∧ 0 ≤ w ∧ w ≤ T0 ∧ (0 < T0 → 1 ≤ w) ∧ (m = 1 → w = T0) := by
  obtain ⟨w, hw, w0, w1, w2, w3, hk⟩ := h.w
  have hz : sumW s.tw = 0 := sumW_zero fun i hi => by
    have hm : i < m := by rw [← h.ly]; exact hi
    exact (hk i hm).done (left_all hl i (by rw [h.ld]; exact hm))
  rw [hz] at w1 w2 w3
  exact ⟨w, hw, w0, by omega, fun hh => w2 (by omega), fun hm => by have := w3 hm; omega⟩
theorem linv_start {p : In8} (h : p.times.length ≤ 6) (c : Int) : LInv p.times.length (sumW (ysAt p p.times.length)) ⟨[0], c, [], ysAt p p.times.length, List.replicate p.times.length false⟩ := by
  have hl := ysAt_len (p := p) (Nat.le_refl p.times.length)
  have hs := sumW_le (p := p) (i := p.times.length)
  refine ⟨h, hl, by simp, rfl, by omega, 0, rfl, by omega, by simp only; omega, fun hh => by simp only at hh; omega, fun _ => by simp only; omega, fun i hi => ?_⟩
  have ht : twAt ⟨[0], c, [], ysAt p p.times.length, List.replicate p.times.length false⟩ i = mkTw p.times[i] := by
    show (ysAt p p.times.length).getD i encTw.dflt = _
    simp [ysAt, List.getD_eq_getElem?_getD, hi]
  rw [ht, Sx.getD_replicate]
  have := tmod12 p.times[i]
  exact ⟨rfl, rfl, this, fun hh => (by cases hh), fun hh => (by cases hh), fun _ hh => (by cases hh)⟩
end Go.Proofs.YtlnigpeoffaemaaDoor

/- StepsAdd, plain: of tasks that swap nothing is lost. -/
namespace Go.Proofs.YtlnigpeoffaemaaDoor
open Go Go.Proofs.YtlnigpeoffaemaaDoor.Sx
set_option linter.unusedVariables false
structure Sz (t : Tw) (d : Bool) : Prop where
  at' : t.at' = 0
  swap : t.swap = true
  times : 0 ≤ t.times ∧ t.times ≤ 11
  done : d = true → t.times = 0
  v : t.has = true → 1 ≤ t.times ∧ 0 ≤ t.v ∧ t.v ≤ 66
structure SInv (m : Nat) (T0 : Int) (s : Mc) : Prop where
  m6 : m ≤ 6
  ly : s.tw.length = m
  ld : s.ds.length = m
  lx : s.ad = []
  tot : T0 ≤ 66
  le : sumW s.tw ≤ T0
  w : s.l = [T0 - sumW s.tw]
  tk : ∀ i, i < m → Sz (twAt s i) (s.ds.getD i false)
theorem sinv_sum {m : Nat} {T0 : Int} {s : Mc} (h : SInv m T0 s) : 0 ≤ sumW s.tw :=
  sumW_nonneg (fun j hj => (h.tk j (by rw [← h.ly]; exact hj)).times.1)
theorem sinv_ok {m : Nat} {T0 : Int} {s : Mc} (h : SInv m T0 s) : McOk 1 m (tsB m) s := by
  refine ⟨by rw [h.w]; rfl, tsB_len m, h.ld, fun i hi => ?_, fun i j hi hj e => ?_⟩
  · rw [tsB_at hi]
    exact ⟨by rw [h.ly]; exact hi, by have := (h.tk i hi).times; simp only; omega⟩
  · rw [tsB_at hi, tsB_at hj] at e
    exact (Prod.mk.inj e).2
/-- how far a task is from a swap that succeeds -/
def lvl (t : Tw) (w : Int) : Nat := match t.has with
  | true => if t.v = w then 0 else 2
  | false => 1
def wOf (T0 : Int) (s : Mc) : Int := T0 - sumW s.tw
/-- nobody who isn't done has nothing to do -/
def Zero (m : Nat) (s : Mc) : Prop := ∀ i, i < m → s.ds.getD i false = false → 1 ≤ (twAt s i).times
structure SPick (m : Nat) (T0 : Int) (s s' : Mc) (i : Int) : Prop where
  inv : SInv m T0 s'
  sum : sumW s'.tw ≤ sumW s.tw
  zero : Zero m s → Zero m s'
  keep : ∀ j, j < m → j ≠ i.toNat → twAt s' j = twAt s j ∧ s'.ds.getD j false = s.ds.getD j false
  stay : ∀ j, j < m → s.ds.getD j false = true → s'.ds.getD j false = true
  own : ∀ k, k < m → i = (k : Nat) → s.ds.getD k false = false → (s'.ds.getD k false = true ∨ 1 ≤ (twAt s' k).times) ∧ (1 ≤ (twAt s k).times → sumW s'.tw = sumW s.tw → s'.ds.getD k false = false ∧ lvl (twAt s' k) (wOf T0 s') + 1 ≤ lvl (twAt s k) (wOf T0 s))
theorem spick {m : Nat} {T0 : Int} {s : Mc} (h : SInv m T0 s) (i : Int) : SPick m T0 s (pickP m (tsB m) s i) i := by
  by_cases hc : inP i m = false ∨ s.ds.getD i.toNat false = true
  · rw [pick_same hc]
    refine ⟨h, Int.le_refl _, id, fun j hj _ => ⟨rfl, rfl⟩, fun _ _ hh => hh, fun k hk e hd => ?_⟩
    subst e
    rcases hc with hc | hc
    · have := (not_congr (inP_iff _ _)).1 (by rw [hc]; simp)
      omega
    · simp only [Int.toNat_natCast] at hc
      rw [hd] at hc; cases hc
  · have hb : inP i m = true := by
      cases hq : inP i m with
      | true => rfl
      | false => exact absurd (.inl hq) hc
    have hd : s.ds.getD i.toNat false = false := by
      cases hq : s.ds.getD i.toNat false with
      | false => rfl
      | true => exact absurd (.inr hq) hc
    have hb' := (inP_iff _ _).1 hb
    have hi : i.toNat < m := by omega
    rw [pick_eq hb hd]
    have hsum0 := sinv_sum h
    obtain ⟨h1, h2, h3, h4, h5, hle, hw, hk⟩ := h
    generalize hii : i.toNat = k at *
    have hz := hk k hi
    have hT := hz.times
    have keep : ∀ (t' : Tw) (d' : Bool) (l' : List Int) (c' : Int) (j : Nat), j ≠ k → twAt ⟨l', c', s.ad, s.tw.set k t', s.ds.set k d'⟩ j = twAt s j ∧ (s.ds.set k d').getD j false = s.ds.getD j false := by
      intro t' d' l' c' j hj
      exact ⟨Sx.getD_set_ne (fun e => hj e.symm) _ _, Sx.getD_set_ne (fun e => hj e.symm) _ _⟩
    have self : ∀ (t' : Tw) (d' : Bool) (l' : List Int) (c' : Int), twAt ⟨l', c', s.ad, s.tw.set k t', s.ds.set k d'⟩ k = t' ∧ (s.ds.set k d').getD k false = d' := by
      intro t' d' l' c'
      exact ⟨Sx.getD_set_self (by omega) _ _, Sx.getD_set_self (by omega) _ _⟩
    have hss : ∀ t' : Tw, sumW (s.tw.set k t') = sumW s.tw - (twAt s k).times + t'.times := fun t' => sumW_set (by omega) t'
    have main : ∀ (t' : Tw) (l' : List Int) (d' : Bool) (c' : Int), stepTw (twAt s k) s.l = (t', l', d') → l' = [T0 - sumW (s.tw.set k t')] → t'.times ≤ (twAt s k).times → Sz t' d' → (d' = true ∨ 1 ≤ t'.times) →
        (1 ≤ (twAt s k).times → t'.times = (twAt s k).times → d' = false ∧ lvl t' (T0 - sumW (s.tw.set k t')) + 1 ≤ lvl (twAt s k) (T0 - sumW s.tw)) →
        SPick m T0 s ⟨l', c', s.ad, s.tw.set k t', s.ds.set k d'⟩ i := by
      intro t' l' d' c' he e1 e2 e3 e4 e5
      refine ⟨⟨h1, by simp [h2], by simp [h3], h4, h5, (by show sumW (s.tw.set k t') ≤ T0; rw [hss]; omega), e1, fun j hj => ?_⟩, ?_, fun hzz j hj hjd => ?_, fun j hj hjk => ?_, fun j hj hjd => ?_, fun k' hk' e hd' => ?_⟩
      · by_cases hjk : j = k
        · subst hjk
          rw [(self t' d' l' c').1, (self t' d' l' c').2]; exact e3
        · rw [(keep t' d' l' c' j hjk).1, (keep t' d' l' c' j hjk).2]
          exact hk j hj
      · show sumW (s.tw.set k t') ≤ sumW s.tw
        rw [hss]; omega
      · by_cases hjk : j = k
        · subst hjk
          rw [(self t' d' l' c').1]
          rw [(self t' d' l' c').2] at hjd
          rcases e4 with e4 | e4
          · rw [e4] at hjd; cases hjd
          · exact e4
        · rw [(keep t' d' l' c' j hjk).1]
          rw [(keep t' d' l' c' j hjk).2] at hjd
          exact hzz j hj hjd
      · exact keep t' d' l' c' j (by rw [← hii]; exact hjk)
      · have hjk : j ≠ k := fun e => by rw [e, hd] at hjd; cases hjd
        rw [(keep t' d' l' c' j hjk).2]; exact hjd
      · have : k' = k := by rw [← hii, e]; simp
        subst this
        rw [(self t' d' l' c').1, (self t' d' l' c').2]
        refine ⟨e4, fun h1' hs => ?_⟩
        have hs' : sumW (s.tw.set k' t') = sumW s.tw := hs
        rw [hss] at hs'
        exact e5 h1' (by omega)
    have hin : inP 0 1 = true := by decide
    obtain ⟨g1, g2, g3, g4, g5⟩ := hz
    generalize ht : twAt s k = t at *
    obtain ⟨at', times, has, v, swap⟩ := t
    simp only at g1 g2 g3 g4 g5 hT hss
    subst g1 g2
    by_cases hlt : times < 1
    · have h0 : times = 0 := by omega
      subst h0
      have hst : stepTw ⟨0, 0, has, v, true⟩ s.l = (⟨0, 0, has, v, true⟩, s.l, true) := by simp [stepTw]
      rw [hst]
      refine main _ _ _ _ hst (by rw [hss, hw]; simp) (Int.le_refl _) ⟨rfl, rfl, hT, fun _ => rfl, g5⟩ (.inl rfl) (fun hh => by simp only at hh; omega)
    · cases has with
      | false =>
        have hst : stepTw ⟨0, times, false, v, true⟩ s.l = (⟨0, times, true, T0 - sumW s.tw, true⟩, s.l, false) := by
          simp [stepTw, hw, hin, hlt]
        rw [hst]
        have e : T0 - sumW (s.tw.set k ⟨0, times, true, T0 - sumW s.tw, true⟩) = T0 - sumW s.tw := by rw [hss]; simp only; omega
        refine main _ _ _ _ hst (by rw [e, hw]) (Int.le_refl _) ⟨rfl, rfl, hT, fun hh => (by cases hh), fun _ => ⟨by simp only; omega, ?_⟩⟩ (.inr (by simp only; omega)) (fun _ _ => ⟨rfl, ?_⟩)
        · simp only; omega
        · rw [e]
          simp [lvl]
      | true =>
        have g5' := g5 rfl
        cases hq : (T0 - sumW s.tw) == v with
        | true =>
          have hq' := beq_iff_eq.1 hq
          have hst : stepTw ⟨0, times, true, v, true⟩ s.l = (⟨0, times - 1, false, v, true⟩, [v + 1], times - 1 == 0) := by
            have : u32P (v + 1) % 4294967296 = v + 1 := by rw [show u32P (v + 1) = _ from w32_mod _]; omega
            simp only [stepTw, hw, hin, hlt, decide_false, List.length_singleton, Int.toNat_zero, List.getD_cons_zero, hq, Bool.not_true, Bool.false_or, List.set_cons_zero, setP_ok, this]
          rw [hst]
          refine main _ _ _ _ hst (by rw [hss]; simp only; congr 1; omega) (by simp only; omega) ⟨rfl, rfl, by simp only; omega, fun hh => by simpa using hh, fun hh => (by cases hh)⟩ ?_ (fun _ hh => by simp only at hh; omega)
          by_cases h1' : times - 1 = 0
          · left; simpa using h1'
          · right; simp only; omega
        | false =>
          have hq' := beq_eq_false_iff_ne.1 hq
          have hst : stepTw ⟨0, times, true, v, true⟩ s.l = (⟨0, times, false, v, true⟩, s.l, false) := by
            have : (times == 0) = false := beq_eq_false_iff_ne.2 (by omega)
            simp only [stepTw, hw, hin, hlt, decide_false, List.length_singleton, Int.toNat_zero, List.getD_cons_zero, hq, Bool.not_true, Bool.false_or, this]
          rw [hst]
          have e : T0 - sumW (s.tw.set k ⟨0, times, false, v, true⟩) = T0 - sumW s.tw := by rw [hss]; simp only; omega
          refine main _ _ _ _ hst (by rw [e, hw]) (Int.le_refl _) ⟨rfl, rfl, hT, fun hh => (by cases hh), fun hh => (by cases hh)⟩ (.inr (by simp only; omega)) (fun _ _ => ⟨rfl, ?_⟩)
          rw [e]
          have : ¬ v = T0 - sumW s.tw := fun e => hq' e.symm
          simp [lvl, this]
theorem spass {m : Nat} {T0 : Int} {s : Mc} (h : SInv m T0 s) : ∀ k, k ≤ m → SInv m T0 (passP m (tsB m) s k) ∧ sumW (passP m (tsB m) s k).tw ≤ sumW s.tw ∧ (Zero m s → Zero m (passP m (tsB m) s k)) ∧
    (∀ j, j < m → (k ≤ j → twAt (passP m (tsB m) s k) j = twAt s j ∧ (passP m (tsB m) s k).ds.getD j false = s.ds.getD j false) ∧
      (j < k → (passP m (tsB m) s k).ds.getD j false = true ∨ 1 ≤ (twAt (passP m (tsB m) s k) j).times) ∧
      (j < k → s.ds.getD j false = false → 1 ≤ (twAt s j).times → sumW (passP m (tsB m) s k).tw = sumW s.tw → (passP m (tsB m) s k).ds.getD j false = false ∧ lvl (twAt (passP m (tsB m) s k) j) (wOf T0 s) + 1 ≤ lvl (twAt s j) (wOf T0 s)))
  | 0, _ => ⟨h, Int.le_refl _, id, fun j hj => ⟨fun _ => ⟨rfl, rfl⟩, fun hh => by omega, fun hh => by omega⟩⟩
  | k + 1, hk => by
    obtain ⟨h1, h2, h3, h4⟩ := spass h k (by omega)
    have hp := spick h1 ((k : Nat) : Int)
    show SInv m T0 (pickP m (tsB m) (passP m (tsB m) s k) (k : Nat)) ∧ _
    have hgoal : passP m (tsB m) s (k + 1) = pickP m (tsB m) (passP m (tsB m) s k) (k : Nat) := rfl
    rw [hgoal]
    generalize pickP m (tsB m) (passP m (tsB m) s k) (k : Nat) = s2 at *
    generalize passP m (tsB m) s k = s1 at *
    refine ⟨hp.inv, Int.le_trans hp.sum h2, fun hz => hp.zero (h3 hz), fun j hj => ?_⟩
    obtain ⟨a1, a2, a3⟩ := h4 j hj
    by_cases hjk : j = k
    · subst hjk
      obtain ⟨b1, b2⟩ := a1 (Nat.le_refl _)
      refine ⟨fun hh => by omega, fun _ => ?_, fun _ hd ht hs => ?_⟩
      · cases hd : s1.ds.getD j false with
        | true =>
          exact .inl (hp.stay j hj hd)
        | false => exact (hp.own j hj rfl hd).1
      · have hs1 : sumW s1.tw = sumW s.tw := by have := hp.sum; omega
        have := (hp.own j hj rfl (by rw [b2]; exact hd)).2 (by rw [b1]; exact ht) (by omega)
        have e1 : wOf T0 s2 = wOf T0 s := by unfold wOf; rw [hs]
        have e2 : wOf T0 s1 = wOf T0 s := by unfold wOf; rw [hs1]
        rw [e1, e2, b1] at this
        exact this
    · obtain ⟨c1, c2⟩ := hp.keep j hj (by simpa using hjk)
      refine ⟨fun hh => ?_, fun hh => ?_, fun hh hd ht hs => ?_⟩
      · rw [c1, c2]; exact a1 (by omega)
      · rw [c1, c2]; exact a2 (by omega)
      · rw [c1, c2]
        exact a3 (by omega) hd ht (by have := hp.sum; omega)
theorem left_some {ds : List Bool} (h : leftP ds ≠ 0) : ∃ i, i < ds.length ∧ ds.getD i false = false := by
  by_cases hc : ∃ i, i < ds.length ∧ ds.getD i false = false
  · exact hc
  · exfalso
    refine h (left_zero fun i hi => ?_)
    cases hq : ds.getD i false with
    | true => rfl
    | false => exact absurd ⟨i, hi, hq⟩ hc
theorem lvl_le (t : Tw) (w : Int) : lvl t w ≤ 2 := by unfold lvl; repeat' split
                                                      all_goals omega
theorem send {m : Nat} {T0 : Int} : ∀ (f : Nat) {s : Mc}, SInv m T0 s → Zero m s → (leftP s.ds = 0 ∨ ∃ j, j < m ∧ s.ds.getD j false = false ∧ 3 * (sumW s.tw).toNat + lvl (twAt s j) (wOf T0 s) < f) →
    SInv m T0 (endP m (tsB m) s f) ∧ leftP (endP m (tsB m) s f).ds = 0
  | 0, s, h, hz, hf => by
    rcases hf with hf | ⟨j, _, _, hf⟩
    · exact ⟨h, hf⟩
    · omega
  | f + 1, s, h, hz, hf => by
    simp only [endP]
    split
    · exact ⟨h, by assumption⟩
    · rename_i hl
      rcases hf with hf | ⟨j, hj, hd, hf⟩
      · exact absurd hf hl
      · obtain ⟨h1, h2, h3, h4⟩ := spass h m (Nat.le_refl _)
        have hs1 := sinv_sum h1
        refine send f h1 (h3 hz) ?_
        by_cases hc : sumW (passP m (tsB m) s m).tw = sumW s.tw
        · have := (h4 j hj).2.2 hj hd (hz j hj hd) hc
          have e1 : wOf T0 (passP m (tsB m) s m) = wOf T0 s := by unfold wOf; rw [hc]
          right
          exact ⟨j, hj, this.1, by rw [e1, hc]; omega⟩
        · by_cases hl2 : leftP (passP m (tsB m) s m).ds = 0
          · exact .inl hl2
          · obtain ⟨k, hk, hkd⟩ := left_some hl2
            right
            refine ⟨k, by rw [← h1.ld]; exact hk, hkd, ?_⟩
            have := lvl_le (twAt (passP m (tsB m) s m) k) (wOf T0 (passP m (tsB m) s m))
            omega
theorem endP_succ {m : Nat} {ts : List (Bool × Nat)} {s : Mc} (f : Nat) : endP m ts s (f + 1) = if leftP s.ds = 0 then s else endP m ts (passP m ts s m) f := rfl
theorem send_all {m : Nat} {T0 : Int} {s : Mc} (h : SInv m T0 s) : SInv m T0 (endP m (tsB m) s 500) ∧ leftP (endP m (tsB m) s 500).ds = 0 := by
  rw [show (500 : Nat) = 499 + 1 from rfl, endP_succ]
  split
  · exact ⟨h, by assumption⟩
  · obtain ⟨h1, h2, h3, h4⟩ := spass h m (Nat.le_refl _)
    have hs1 := sinv_sum h1
    have hz : Zero m (passP m (tsB m) s m) := fun j hj hd => by
      rcases (h4 j hj).2.1 hj with hh | hh
      · rw [hd] at hh; cases hh
      · exact hh
    refine send 499 h1 hz ?_
    by_cases hl2 : leftP (passP m (tsB m) s m).ds = 0
    · exact .inl hl2
    · obtain ⟨k, hk, hkd⟩ := left_some hl2
      right
      refine ⟨k, by rw [← h1.ld]; exact hk, hkd, ?_⟩
      have := lvl_le (twAt (passP m (tsB m) s m) k) (wOf T0 (passP m (tsB m) s m))
      have := h1.le; have := h1.tot
      omega
theorem sinv_law {m : Nat} {T0 : Int} {s : Mc} (h : SInv m T0 s) : ∃ w, s.l = [w] ∧ 0 ≤ w ∧ w ≤ T0 ∧ (leftP s.ds = 0 → w = T0) := by
  have h0 := sinv_sum h
  refine ⟨_, h.w, by have := h.le; omega, by omega, fun hl => ?_⟩
  have hz : sumW s.tw = 0 := sumW_zero fun i hi => by
    have hm : i < m := by rw [← h.ly]; exact hi
    exact (h.tk i hm).done (left_all hl i (by rw [h.ld]; exact hm))
  omega
end Go.Proofs.YtlnigpeoffaemaaDoor

/- StepsAdd, plain: of tasks that add nothing is lost; a law's machine. -/
namespace Go.Proofs.YtlnigpeoffaemaaDoor
open Go Go.Proofs.YtlnigpeoffaemaaDoor.Sx
set_option linter.unusedVariables false
def tsA (i : Nat) : List (Bool × Nat) := (List.range i).map fun j => (true, j)
theorem tsA_len (i : Nat) : (tsA i).length = i := by simp [tsA]
theorem tsA_succ (i : Nat) : tsA (i + 1) = tsA i ++ [(true, i)] := by simp [tsA, List.range_succ]
theorem tsA_at {m i : Nat} (h : i < m) : tsAt (tsA m) i = (true, i) := by
  simp [tsAt, tsA, List.getD_eq_getElem?_getD, h]
def sumA (xs : List Ad) : Int := (xs.map (·.times)).sum
theorem sumA_set : ∀ {ys : List Ad} {i : Nat} (h : i < ys.length) (y : Ad), sumA (ys.set i y) = sumA ys - (ys.getD i encAd.dflt).times + y.times
  | x :: ys, 0, _, y => by simp [sumA]; omega
  | x :: ys, i + 1, h, y => by
    have ih := sumA_set (ys := ys) (i := i) (by simpa using h) y
    simp only [sumA, List.set_cons_succ, List.map_cons, List.sum_cons, List.getD_cons_succ] at ih ⊢
    omega
theorem sumA_nonneg : ∀ {ys : List Ad}, (∀ i, i < ys.length → 0 ≤ (ys.getD i encAd.dflt).times) → 0 ≤ sumA ys
  | [], _ => by simp [sumA]
  | x :: ys, h => by
    have ih := sumA_nonneg (ys := ys) (fun i hi => h (i + 1) (by simpa using hi))
    have h0 := h 0 (by simp)
    simp only [sumA, List.map_cons, List.sum_cons, List.getD_cons_zero] at ih h0 ⊢
    omega
theorem sumA_zero : ∀ {ys : List Ad}, (∀ i, i < ys.length → (ys.getD i encAd.dflt).times = 0) → sumA ys = 0
  | [], _ => by simp [sumA]
  | x :: ys, h => by
    have ih := sumA_zero (ys := ys) (fun i hi => h (i + 1) (by simpa using hi))
    have h0 := h 0 (by simp)
    simp only [sumA, List.map_cons, List.sum_cons, List.getD_cons_zero] at ih h0 ⊢
    omega
structure Az (t : Ad) (d : Bool) : Prop where
  at' : t.at' = 0
  times : 0 ≤ t.times ∧ t.times ≤ 11
  done : d = true → t.times = 0
structure AInv (m : Nat) (T0 : Int) (s : Mc) : Prop where
  m6 : m ≤ 6
  ly : s.ad.length = m
  ld : s.ds.length = m
  lx : s.tw = []
  tot : T0 ≤ 66
  le : sumA s.ad ≤ T0
  w : s.l = [T0 - sumA s.ad]
  tk : ∀ i, i < m → Az (adAt s i) (s.ds.getD i false)
theorem ainv_sum {m : Nat} {T0 : Int} {s : Mc} (h : AInv m T0 s) : 0 ≤ sumA s.ad :=
  sumA_nonneg (fun j hj => (h.tk j (by rw [← h.ly]; exact hj)).times.1)
theorem ainv_ok {m : Nat} {T0 : Int} {s : Mc} (h : AInv m T0 s) : McOk 1 m (tsA m) s := by
  refine ⟨by rw [h.w]; rfl, tsA_len m, h.ld, fun i hi => ?_, fun i j hi hj e => ?_⟩
  · rw [tsA_at hi]
    exact ⟨by rw [h.ly]; exact hi, by have := (h.tk i hi).times; simp only; omega⟩
  · rw [tsA_at hi, tsA_at hj] at e
    exact (Prod.mk.inj e).2
def remA (t : Ad) (d : Bool) : Nat := match d with
  | true => 0
  | false => if t.times < 1 then 1 else t.times.toNat
def remPA (s : Mc) (i : Nat) : Nat := remA (adAt s i) (s.ds.getD i false)
theorem pick_eqA {m : Nat} {s : Mc} {i : Int} (hb : inP i m = true) (hd : s.ds.getD i.toNat false = false) : pickP m (tsA m) s i =
    ⟨(stepAd (adAt s i.toNat) s.l).2.1, usesAd (adAt s i.toNat) s.l s.c, s.ad.set i.toNat (stepAd (adAt s i.toNat) s.l).1, s.tw, s.ds.set i.toNat (stepAd (adAt s i.toNat) s.l).2.2⟩ := by
  have hb' := (inP_iff _ _).1 hb
  have ht : tsAt (tsA m) i.toNat = (true, i.toNat) := tsA_at (by omega)
  simp only [pickP, hb, hd, ht]
theorem ainv_pick {m : Nat} {T0 : Int} {s : Mc} (h : AInv m T0 s) (i : Int) : AInv m T0 (pickP m (tsA m) s i) ∧ ∀ j, j < m → (j = i.toNat → 0 ≤ i → remPA (pickP m (tsA m) s i) j ≤ remPA s j - 1) ∧ remPA (pickP m (tsA m) s i) j ≤ remPA s j := by
  by_cases hc : inP i m = false ∨ s.ds.getD i.toNat false = true
  · rw [pick_same hc]
    refine ⟨h, fun j hj => ⟨fun e h0 => ?_, Nat.le_refl _⟩⟩
    rcases hc with hc | hc
    · have := (not_congr (inP_iff _ _)).1 (by rw [hc]; simp)
      omega
    · subst e
      simp only [remPA, hc, remA]; omega
  · have hb : inP i m = true := by
      cases hq : inP i m with
      | true => rfl
      | false => exact absurd (.inl hq) hc
    have hd : s.ds.getD i.toNat false = false := by
      cases hq : s.ds.getD i.toNat false with
      | false => rfl
      | true => exact absurd (.inr hq) hc
    have hb' := (inP_iff _ _).1 hb
    have hi : i.toNat < m := by omega
    rw [pick_eqA hb hd]
    have hsum0 := ainv_sum h
    obtain ⟨h1, h2, h3, h4, h5, hle, hw, hk⟩ := h
    generalize hii : i.toNat = k at *
    have hz := hk k hi
    have keep : ∀ (t' : Ad) (d' : Bool) (l' : List Int) (c' : Int) (j : Nat), j ≠ k → adAt ⟨l', c', s.ad.set k t', s.tw, s.ds.set k d'⟩ j = adAt s j ∧ (s.ds.set k d').getD j false = s.ds.getD j false := by
      intro t' d' l' c' j hj
      exact ⟨Sx.getD_set_ne (fun e => hj e.symm) _ _, Sx.getD_set_ne (fun e => hj e.symm) _ _⟩
    have self : ∀ (t' : Ad) (d' : Bool) (l' : List Int) (c' : Int), adAt ⟨l', c', s.ad.set k t', s.tw, s.ds.set k d'⟩ k = t' ∧ (s.ds.set k d').getD k false = d' := by
      intro t' d' l' c'
      exact ⟨Sx.getD_set_self (by omega) _ _, Sx.getD_set_self (by omega) _ _⟩
    have hss : ∀ t' : Ad, sumA (s.ad.set k t') = sumA s.ad - (adAt s k).times + t'.times := fun t' => sumA_set (by omega) t'
    have main : ∀ (t' : Ad) (l' : List Int) (d' : Bool) (c' : Int), stepAd (adAt s k) s.l = (t', l', d') → remA t' d' ≤ remA (adAt s k) false - 1 → l' = [T0 - sumA (s.ad.set k t')] → t'.times ≤ (adAt s k).times → Az t' d' →
        AInv m T0 ⟨l', c', s.ad.set k t', s.tw, s.ds.set k d'⟩ ∧ ∀ j, j < m → (j = k → 0 ≤ i → remPA ⟨l', c', s.ad.set k t', s.tw, s.ds.set k d'⟩ j ≤ remPA s j - 1) ∧ remPA ⟨l', c', s.ad.set k t', s.tw, s.ds.set k d'⟩ j ≤ remPA s j := by
      intro t' l' d' c' he hrem e1 e2 e3
      refine ⟨⟨h1, by simp [h2], by simp [h3], h4, h5, (by show sumA (s.ad.set k t') ≤ T0; rw [hss]; omega), e1, fun j hj => ?_⟩, fun j hj => ?_⟩
      · by_cases hjk : j = k
        · subst hjk
          rw [(self t' d' l' c').1, (self t' d' l' c').2]; exact e3
        · rw [(keep t' d' l' c' j hjk).1, (keep t' d' l' c' j hjk).2]
          exact hk j hj
      · by_cases hjk : j = k
        · subst hjk
          have er : remPA ⟨l', c', s.ad.set j t', s.tw, s.ds.set j d'⟩ j = remA t' d' := by unfold remPA; rw [(self t' d' l' c').1, (self t' d' l' c').2]
          have er2 : remPA s j = remA (adAt s j) false := by unfold remPA; rw [hd]
          rw [er, er2]
          exact ⟨fun _ _ => hrem, by omega⟩
        · have er : remPA ⟨l', c', s.ad.set k t', s.tw, s.ds.set k d'⟩ j = remPA s j := by unfold remPA; rw [(keep t' d' l' c' j hjk).1, (keep t' d' l' c' j hjk).2]
          rw [er]
          exact ⟨fun e => absurd e hjk, Nat.le_refl _⟩
    have hin : inP 0 1 = true := by decide
    obtain ⟨g1, g3, g4⟩ := hz
    generalize ht : adAt s k = t at *
    obtain ⟨at', times⟩ := t
    simp only at g1 g3 g4 hss
    subst g1
    by_cases hlt : times < 1
    · have h0 : times = 0 := by omega
      subst h0
      have hst : stepAd ⟨0, 0⟩ s.l = (⟨0, 0⟩, s.l, true) := by simp [stepAd]
      rw [hst]
      exact main _ _ _ _ hst (by simp [remA]) (by rw [hss, hw]; simp) (Int.le_refl _) ⟨rfl, g3, fun _ => rfl⟩
    · have hst : stepAd ⟨0, times⟩ s.l = (⟨0, times - 1⟩, [T0 - sumA s.ad + 1], times - 1 == 0) := by
        have : (T0 - sumA s.ad + 1) % 4294967296 = T0 - sumA s.ad + 1 := by omega
        simp only [stepAd, hw, hin, hlt, decide_false, List.length_singleton, Int.toNat_zero, List.getD_cons_zero, List.set_cons_zero, incP_ok, this]
      rw [hst]
      refine main _ _ _ _ hst ?_ (by rw [hss]; simp only; congr 1; omega) (by simp only; omega) ⟨rfl, by simp only; omega, fun hh => by simpa using hh⟩
      cases hq : times - 1 == 0 with
      | true => simp only [remA]; omega
      | false =>
        have : times - 1 ≠ 0 := by simpa using hq
        simp only [remA, hlt, if_false]
        rw [if_neg (by omega)]
        omega
theorem ainv_pass {m : Nat} {T0 : Int} {s : Mc} (h : AInv m T0 s) : ∀ k, k ≤ m → AInv m T0 (passP m (tsA m) s k) ∧ ∀ j, j < m → (j < k → remPA (passP m (tsA m) s k) j ≤ remPA s j - 1) ∧ remPA (passP m (tsA m) s k) j ≤ remPA s j
  | 0, _ => ⟨h, fun j hj => ⟨fun hh => by omega, Nat.le_refl _⟩⟩
  | k + 1, hk => by
    obtain ⟨h1, h2⟩ := ainv_pass h k (by omega)
    obtain ⟨h3, h4⟩ := ainv_pick h1 ((k : Nat) : Int)
    refine ⟨h3, fun j hj => ?_⟩
    obtain ⟨a, b⟩ := h2 j hj
    obtain ⟨c, d⟩ := h4 j hj
    simp only [passP]
    refine ⟨fun hh => ?_, by omega⟩
    by_cases e : j = k
    · have := c (by simp [e]) (by omega)
      omega
    · have := a (by omega)
      omega
theorem remA_zero {t : Ad} {d : Bool} (h : remA t d = 0) : d = true := by
  cases d with
  | true => rfl
  | false =>
    simp only [remA] at h
    split at h
    · cases h
    · omega
theorem ainv_end {m : Nat} {T0 : Int} : ∀ (f : Nat) {s : Mc}, AInv m T0 s → (∀ j, j < m → remPA s j ≤ f) → AInv m T0 (endP m (tsA m) s f) ∧ leftP (endP m (tsA m) s f).ds = 0
  | 0, s, h, hr => by
    refine ⟨h, left_zero fun i hi => ?_⟩
    have h2 : i < m := by rw [← h.ld]; exact hi
    have := hr i h2
    exact remA_zero (t := adAt s i) (d := s.ds.getD i false) (by unfold remPA at this; omega)
  | f + 1, s, h, hr => by
    rw [endP_succ]
    split
    · exact ⟨h, by assumption⟩
    · obtain ⟨h1, h2⟩ := ainv_pass h m (Nat.le_refl _)
      exact ainv_end f h1 (fun j hj => by have := (h2 j hj).1 hj; have := hr j hj; omega)
theorem ainv_law {m : Nat} {T0 : Int} {s : Mc} (h : AInv m T0 s) : ∃ w, s.l = [w] ∧ 0 ≤ w ∧ w ≤ T0 ∧ (leftP s.ds = 0 → w = T0) := by
  have h0 := ainv_sum h
  refine ⟨_, h.w, by have := h.le; omega, by omega, fun hl => ?_⟩
  have hz : sumA s.ad = 0 := sumA_zero fun i hi => by
    have hm : i < m := by rw [← h.ly]; exact hi
    exact (h.tk i hm).done (left_all hl i (by rw [h.ld]; exact hm))
  omega
/-- what the law asks of its machine -/
structure Law7 (m : Nat) (T0 : Int) (ts : List (Bool × Nat)) (I : Mc → Prop) : Prop where
  m6 : m ≤ 6
  ok : ∀ s, I s → McOk 1 m ts s
  pick : ∀ s i, I s → I (pickP m ts s i)
  word : ∀ s, I s → ∃ w, s.l = [w] ∧ 0 ≤ w ∧ w ≤ T0 ∧ (leftP s.ds = 0 → w = T0)
  uses : ∀ s c, I s → I {s with c := c}
  ends : ∀ s, I s → I (endP m ts s 500) ∧ leftP (endP m ts s 500).ds = 0
theorem law_swap {m : Nat} {T0 : Int} (h6 : m ≤ 6) : Law7 m T0 (tsB m) (SInv m T0) :=
  ⟨h6, fun _ h => sinv_ok h, fun _ i h => (spick h i).inv, fun _ h => sinv_law h, fun s c h => ⟨h.m6, h.ly, h.ld, h.lx, h.tot, h.le, h.w, h.tk⟩, fun _ h => send_all h⟩
theorem law_add {m : Nat} {T0 : Int} (h6 : m ≤ 6) : Law7 m T0 (tsA m) (AInv m T0) :=
  ⟨h6, fun _ h => ainv_ok h, fun _ i h => (ainv_pick h i).1, fun _ h => ainv_law h, fun s c h => ⟨h.m6, h.ly, h.ld, h.lx, h.tot, h.le, h.w, h.tk⟩, fun s h => ainv_end 500 h (fun j hj => by
    have := (h.tk j hj).times
    unfold remPA remA
    split
    · omega
    · split <;> omega)⟩
end Go.Proofs.YtlnigpeoffaemaaDoor

/- StepsAdd: pieces and states. -/
namespace Go.Proofs.YtlnigpeoffaemaaDoor
open Go Go.Proofs.YtlnigpeoffaemaaDoor.Sx
set_option linter.unusedVariables false
noncomputable def b7 : Code := Tryd.f7.body.getD .skip
noncomputable def c7 : Code := restC 4 b7
noncomputable def reg7 : Code := lft (lft c7)
noncomputable def blk7 : Code := rgt (lft c7)
noncomputable def round7 : Code := lft (lft blk7)
noncomputable def tm7 : Code := lft round7
noncomputable def bb7 : Code := lft (lft (rgt round7))
noncomputable def inc7 : Code := rgt (rgt round7)
noncomputable def d7 : Code := rgt c7
noncomputable def e7 : Code := restC 2 d7
noncomputable def reg7b : Code := lft (lft e7)
noncomputable def blk7b : Code := rgt (lft e7)
noncomputable def round7b : Code := lft (lft blk7b)
noncomputable def tm7b : Code := lft round7b
noncomputable def bb7b : Code := lft (lft (rgt round7b))
noncomputable def inc7b : Code := rgt (rgt round7b)
noncomputable def f7' : Code := rgt e7
abbrev n7a : List Nat := [0, 2, 7, 9, 10, 1]
abbrev n7p : List Nat := [0, 2, 7, 9, 10, 1, 6]
abbrev n7b : List Nat := [0, 2, 7, 9, 10, 1, 11]
abbrev n7n : List Nat := [59, 64, 0, 2, 7, 9, 10, 1, 11]
abbrev v7 (p : In8) (m : Nat) (sum : Int) (b : SVal) : List SVal := [timesV p 5, picksV p 6, .ptr 1 0, .sli 7 (.c 0) 1 (.v m) none, .int .u32 sum, b]
abbrev sL (p : In8) (m : Nat) (ts : List (Bool × Nat)) (s : Mc) : St := mcS 1 m ts s ++ [.ro encU8 p.times, .ro (encInt .i64) p.picks]
abbrev n7c : List Nat := [0, 2, 7, 10, 13]
abbrev n7d : List Nat := [0, 2, 7, 10, 13, 14]
abbrev n7e : List Nat := [0, 2, 7, 10, 13, 14, 15]
abbrev v7b (p : In8) (sum : Int) : List SVal := [timesV p 8, picksV p 9, .ptr 1 0, .int .u32 sum, .ptr 5 0]
end Go.Proofs.YtlnigpeoffaemaaDoor

namespace Go.Proofs.YtlnigpeoffaemaaDoor
open Go Go.Proofs.YtlnigpeoffaemaaDoor.Sx
set_option linter.unusedVariables false
set_option maxRecDepth 100000 in
theorem t7_pre {p : In8} {b : Bool} : (execN cfgL 100 4 b7 ([timesV p 1, .sb b, picksV p 2] ++ List.replicate 118 .bad) (s0 p)).bind (canonK 0 [(0,0)] 121 n7p) =
 

 (.eq (some [Blk.ro encLook [PUnit.unit]] = some [Blk.ro encLook [PUnit.unit]])

 (.br (decide ((6 : Int) < (↑p.1.length : Int)))

 (.eq (some [Blk.ro encLook [PUnit.unit]] = some [Blk.ro encLook [PUnit.unit]])

 (.ret (.ret, [.sli 1 (.c 0) 1 (.v p.1.length) (some (.v p.2)), .sli 2 (.c 0) 1 (.v p.3.length) (some (.v p.4)), .ptr 3 0, .bad, .bad, .sb b, .bl true], [.ro encLook [PUnit.unit], .ro encU8 p.1, .ro (encInt IntKind.i64) p.3, .own [.c (.sli 4 (.c 0) 1 (.c 1) (some (.c 1))), .c (.lit .i64 (0 : Int))] 67, .own [.c (.lit .u32 (0 : Int))] 45])))

 (.ret (.normal, [.sli 1 (.c 0) 1 (.v p.1.length) (some (.v p.2)), .sli 2 (.c 0) 1 (.v p.3.length) (some (.v p.4)), .ptr 3 0, .sli 5 (.c 0) 1 (.c 0) (some (.c 0)), .lit .u32 (0 : Int), .sb b, .bl false], [.ro encLook [PUnit.unit], .ro encU8 p.1, .ro (encInt IntKind.i64) p.3, .own [.c (.sli 4 (.c 0) 1 (.c 1) (some (.c 1))), .c (.lit .i64 (0 : Int))] 67, .own [.c (.lit .u32 (0 : Int))] 45, .own [] 44])))) := by kernel_rfl
set_option maxRecDepth 100000 in
theorem t7_reg {p : In8} {xs : List Ad} {ys : List Tw} {ts : List (Bool × Nat)} {sum : Int} {b : Bool} : (exec cfgM 100 reg7 (fr 121 n7a (v7 p ts.length sum (.sb b))) (sMk p xs ys ts)).bind (canonK 7 [(0,0)] 121 n7b) =
 

 (.ret (.normal, [.sli 5 (.c 0) 1 (.v p.1.length) (some (.v p.2)), .sli 6 (.c 0) 1 (.v p.3.length) (some (.v p.4)), .ptr 1 0, .sli 7 (.c 0) 1 (.v ts.length) none, .int .u32 sum, .sb b, .lit .i64 (0 : Int)], [.ro encLook [PUnit.unit], .own [.c (.sli 2 (.c 0) 1 (.v 1) (some (.v 1))), .c (.int .i64 (0 : Int))] 67, .own [.a (encInt IntKind.u32) 1 [(0 : Int)]] 45, .many encAd xs 86, .many encTw ys 78, .ro encU8 p.1, .ro (encInt IntKind.i64) p.3, .vec (encTs 3 4) ts 44])) := by kernel_rfl
set_option maxRecDepth 100000 in
theorem t7_tm {p : In8} {xs : List Ad} {ys : List Tw} {ts : List (Bool × Nat)} {sum : Int} {b : Bool} {i : Nat} : (exec cfgM 100 tm7 (fr 121 n7b (v7 p ts.length sum (.sb b) ++ [.int .i64 (i : Nat)])) (sMk p xs ys ts)).bind (canonK 7 [(0,0)] 121 n7b) =
 

 (.br (decide ((↑i : Int) < (↑p.1.length : Int)))

 (.ret (.normal, [.sli 5 (.c 0) 1 (.v p.1.length) (some (.v p.2)), .sli 6 (.c 0) 1 (.v p.3.length) (some (.v p.4)), .ptr 1 0, .sli 7 (.c 0) 1 (.v ts.length) none, .int .u32 sum, .sb b, .int .i64 (↑i : Int)], [.ro encLook [PUnit.unit], .own [.c (.sli 2 (.c 0) 1 (.v 1) (some (.v 1))), .c (.int .i64 (0 : Int))] 67, .own [.a (encInt IntKind.u32) 1 [(0 : Int)]] 45, .many encAd xs 86, .many encTw ys 78, .ro encU8 p.1, .ro (encInt IntKind.i64) p.3, .vec (encTs 3 4) ts 44]))

 (.ret (.exit 0, [.sli 5 (.c 0) 1 (.v p.1.length) (some (.v p.2)), .sli 6 (.c 0) 1 (.v p.3.length) (some (.v p.4)), .ptr 1 0, .sli 7 (.c 0) 1 (.v ts.length) none, .int .u32 sum, .sb b, .int .i64 (↑i : Int)], [.ro encLook [PUnit.unit], .own [.c (.sli 2 (.c 0) 1 (.v 1) (some (.v 1))), .c (.int .i64 (0 : Int))] 67, .own [.a (encInt IntKind.u32) 1 [(0 : Int)]] 45, .many encAd xs 86, .many encTw ys 78, .ro encU8 p.1, .ro (encInt IntKind.i64) p.3, .vec (encTs 3 4) ts 44]))) := by kernel_rfl
set_option maxRecDepth 100000 in
theorem t7_mkS {p : In8} {xs : List Ad} {ys : List Tw} {ts : List (Bool × Option Nat)} {sum : Int} {i : Nat} : (exec cfgM 100 bb7 (fr 121 n7b (v7 p ts.length sum (.bl true) ++ [.int .i64 (i : Nat)])) (sMn p xs ys ts)).bind (canonK 7 [(0,0)] 121 n7n) =
 

 (.need (decide ((0 : Int) ≤ (↑i : Int)) && decide ((↑i : Int).toNat < p.1.length))

 (.need (decide ((↑i : Int).toNat < p.1.length))

 (.need (inR .i64 (p.1.getD (↑i : Int).toNat { v := (0 : Int), h := encU8._proof_2 }).v)

 (.need (true)

 (.need (true)

 (.need (decide (ts.length = ts.length))

 (.need (roomy (ts.length + 1) 16)

 (.ret (.normal, [.ifc 74 (.ptr 7 0), .bad, .sli 5 (.c 0) 1 (.v p.1.length) (some (.v p.2)), .sli 6 (.c 0) 1 (.v p.3.length) (some (.v p.4)), .ptr 1 0, .sli 8 (.c 0) 1 (.v (ts.length + 1)) none, .int .u32 (IntKind.u32.wrap (sum + IntKind.u32.wrap ((p.1.getD (↑i : Int).toNat { v := (0 : Int), h := encU8._proof_2 }).v.tmod (12 : Int)))), .bl true, .int .i64 (↑i : Int)], [.ro encLook [PUnit.unit], .own [.c (.sli 2 (.c 0) 1 (.v 1) (some (.v 1))), .c (.int .i64 (0 : Int))] 67, .own [.a (encInt IntKind.u32) 1 [(0 : Int)]] 45, .many encAd xs 86, .many encTw ys 78, .ro encU8 p.1, .ro (encInt IntKind.i64) p.3, .own [.c (.lit .i64 (0 : Int)), .c (.int .i64 ((p.1.getD (↑i : Int).toNat { v := (0 : Int), h := encU8._proof_2 }).v.tmod (12 : Int))), .c (.bl false), .c (.lit .u32 (0 : Int)), .c (SVal.fn (Fn.func 30) [] [])] 78, .vec (encRow 0) (renRows [0, 1, 2, 3, 4, 5, 6, 8, 10] (encTsN 3 4 8) (ts ++ [(false, none)])) 44]))))))))) := by kernel_rfl
set_option maxRecDepth 100000 in
theorem t7_mkA {p : In8} {xs : List Ad} {ys : List Tw} {ts : List (Bool × Option Nat)} {sum : Int} {i : Nat} : (exec cfgM 100 bb7 (fr 121 n7b (v7 p ts.length sum (.bl false) ++ [.int .i64 (i : Nat)])) (sMn p xs ys ts)).bind (canonK 7 [(0,0)] 121 n7n) =
 

 (.need (decide ((0 : Int) ≤ (↑i : Int)) && decide ((↑i : Int).toNat < p.1.length))

 (.need (decide ((↑i : Int).toNat < p.1.length))

 (.need (inR .i64 (p.1.getD (↑i : Int).toNat { v := (0 : Int), h := encU8._proof_2 }).v)

 (.need (true)

 (.need (true)

 (.need (decide (ts.length = ts.length))

 (.need (roomy (ts.length + 1) 16)

 (.ret (.normal, [.bad, .ifc 84 (.ptr 7 0), .sli 5 (.c 0) 1 (.v p.1.length) (some (.v p.2)), .sli 6 (.c 0) 1 (.v p.3.length) (some (.v p.4)), .ptr 1 0, .sli 8 (.c 0) 1 (.v (ts.length + 1)) none, .int .u32 (IntKind.u32.wrap (sum + IntKind.u32.wrap ((p.1.getD (↑i : Int).toNat { v := (0 : Int), h := encU8._proof_2 }).v.tmod (12 : Int)))), .bl false, .int .i64 (↑i : Int)], [.ro encLook [PUnit.unit], .own [.c (.sli 2 (.c 0) 1 (.v 1) (some (.v 1))), .c (.int .i64 (0 : Int))] 67, .own [.a (encInt IntKind.u32) 1 [(0 : Int)]] 45, .many encAd xs 86, .many encTw ys 78, .ro encU8 p.1, .ro (encInt IntKind.i64) p.3, .own [.c (.lit .i64 (0 : Int)), .c (.int .i64 ((p.1.getD (↑i : Int).toNat { v := (0 : Int), h := encU8._proof_2 }).v.tmod (12 : Int)))] 86, .vec (encRow 0) (renRows [0, 1, 2, 3, 4, 5, 6, 8, 10] (encTsN 3 4 8) (ts ++ [(true, none)])) 44]))))))))) := by kernel_rfl
set_option maxRecDepth 100000 in
theorem t7_inc {p : In8} {xs : List Ad} {ys : List Tw} {ts : List (Bool × Nat)} {sum : Int} {b : Bool} {i : Nat} : (exec cfgM 100 inc7 (fr 121 n7b (v7 p ts.length sum (.sb b) ++ [.int .i64 (i : Nat)])) (sMk p xs ys ts)).bind (canonK 7 [(0,0)] 121 n7b) =
 

 (.need (inR .i64 ((↑i : Int) + (1 : Int)))

 (.ret (.normal, [.sli 5 (.c 0) 1 (.v p.1.length) (some (.v p.2)), .sli 6 (.c 0) 1 (.v p.3.length) (some (.v p.4)), .ptr 1 0, .sli 7 (.c 0) 1 (.v ts.length) none, .int .u32 sum, .sb b, .int .i64 ((↑i : Int) + (1 : Int))], [.ro encLook [PUnit.unit], .own [.c (.sli 2 (.c 0) 1 (.v 1) (some (.v 1))), .c (.int .i64 (0 : Int))] 67, .own [.a (encInt IntKind.u32) 1 [(0 : Int)]] 45, .many encAd xs 86, .many encTw ys 78, .ro encU8 p.1, .ro (encInt IntKind.i64) p.3, .vec (encTs 3 4) ts 44]))) := by kernel_rfl
set_option maxRecDepth 100000 in
theorem t7_new {p : In8} {xs : List Ad} {ys : List Tw} {ts : List (Bool × Nat)} {sum : Int} {b : Bool} {i : Nat} : (execN cfgL 100 2 d7 (fr 121 n7b (v7 p ts.length sum (.sb b) ++ [.int .i64 (i : Nat)])) (sMk p xs ys ts)).bind (canonK 7 [(0,0)] 121 n7c) =
 

 (.eq (anyP cfgN 100 11 [.ptr 1 0, .sli 7 (.c 0) 1 (.v ts.length) none] [.ro encLook [PUnit.unit], .own [.c (.sli 2 (.c 0) 1 (.v 1) (some (.v 1))), .c (.int .i64 (0 : Int))] 67, .own [.a (encInt IntKind.u32) 1 [(0 : Int)]] 45, .many encAd xs 86, .many encTw ys 78, .ro encU8 p.1, .ro (encInt IntKind.i64) p.3, .vec (encTs 3 4) ts 44])

 (.need (decide (0 + ts.length ≤ ts.length))

 (.need (decide (0 + ts.length ≤ ts.length))

 (.need (roomy (List.take ts.length (List.drop 0 ts)).length 16)

 (.need (decide ((0 : Int) ≤ (↑ts.length : Int)))

 (.need (decide ((↑ts.length : Int) * (1 : Int) ≤ (140737488355328 : Int)))

 (.need (decide ((↑ts.length : Int) ≤ (4611686018427387904 : Int)))

 (.ret (.normal, [.sli 5 (.c 0) 1 (.v p.1.length) (some (.v p.2)), .sli 6 (.c 0) 1 (.v p.3.length) (some (.v p.4)), .ptr 1 0, .int .u32 sum, .ptr 7 0], [.ro encLook [PUnit.unit], .own [.c (.sli 2 (.c 0) 1 (.v 1) (some (.v 1))), .c (.int .i64 (0 : Int))] 67, .own [.a (encInt IntKind.u32) 1 [(0 : Int)]] 45, .many encAd xs 86, .many encTw ys 78, .ro encU8 p.1, .ro (encInt IntKind.i64) p.3, .own [.c (.ptr 1 0), .c (.sli 8 (.c 0) 1 (.v (List.take ts.length (List.drop 0 ts)).length) none), .c (.sli 9 (.c 0) 1 (.v (↑ts.length : Int).toNat) (some (.v (↑ts.length : Int).toNat)))] 70, .vec (encTs 3 4) (List.take ts.length (List.drop 0 ts)) 44, .own [.a encBool (↑ts.length : Int).toNat (List.replicate (↑ts.length : Int).toNat false)] 4]))))))))) := by kernel_rfl
set_option maxRecDepth 100000 in
theorem t7_regb {p : In8} {m : Nat} {ts : List (Bool × Nat)} {s : Mc} {sum : Int} : (exec cfgM 100 reg7b (fr 121 n7c (v7b p sum)) (sL p m ts s)).bind (canonK 10 [(0,0)] 121 n7d) =
 

 (.ret (.normal, [.sli 8 (.c 0) 1 (.v p.1.length) (some (.v p.2)), .sli 9 (.c 0) 1 (.v p.3.length) (some (.v p.4)), .ptr 1 0, .int .u32 sum, .ptr 5 0, .lit .i64 (0 : Int)], [.ro encLook [PUnit.unit], .own [.c (.sli 2 (.c 0) 1 (.v 1) (some (.v 1))), .c (.int .i64 s.2)] 67, .own [.a (encInt IntKind.u32) 1 s.1] 45, .many encAd s.3 86, .many encTw s.4 78, .own [.c (.ptr 1 0), .c (.sli 6 (.c 0) 1 (.v m) none), .c (.sli 7 (.c 0) 1 (.v m) (some (.v m)))] 70, .vec (encTs 3 4) ts 44, .own [.a encBool m s.5] 4, .ro encU8 p.1, .ro (encInt IntKind.i64) p.3])) := by kernel_rfl
set_option maxRecDepth 100000 in
theorem t7_tmb {p : In8} {m : Nat} {ts : List (Bool × Nat)} {s : Mc} {sum : Int} {i : Nat} : (exec cfgM 100 tm7b (fr 121 n7d (v7b p sum ++ [.int .i64 (i : Nat)])) (sL p m ts s)).bind (canonK 10 [(0,0)] 121 n7d) =
 

 (.br (decide ((↑i : Int) < (↑p.3.length : Int)))

 (.br (decide ((↑i : Int) < (200 : Int)))

 (.ret (.normal, [.sli 8 (.c 0) 1 (.v p.1.length) (some (.v p.2)), .sli 9 (.c 0) 1 (.v p.3.length) (some (.v p.4)), .ptr 1 0, .int .u32 sum, .ptr 5 0, .int .i64 (↑i : Int)], [.ro encLook [PUnit.unit], .own [.c (.sli 2 (.c 0) 1 (.v 1) (some (.v 1))), .c (.int .i64 s.2)] 67, .own [.a (encInt IntKind.u32) 1 s.1] 45, .many encAd s.3 86, .many encTw s.4 78, .own [.c (.ptr 1 0), .c (.sli 6 (.c 0) 1 (.v m) none), .c (.sli 7 (.c 0) 1 (.v m) (some (.v m)))] 70, .vec (encTs 3 4) ts 44, .own [.a encBool m s.5] 4, .ro encU8 p.1, .ro (encInt IntKind.i64) p.3]))

 (.ret (.exit 2, [.sli 8 (.c 0) 1 (.v p.1.length) (some (.v p.2)), .sli 9 (.c 0) 1 (.v p.3.length) (some (.v p.4)), .ptr 1 0, .int .u32 sum, .ptr 5 0, .int .i64 (↑i : Int)], [.ro encLook [PUnit.unit], .own [.c (.sli 2 (.c 0) 1 (.v 1) (some (.v 1))), .c (.int .i64 s.2)] 67, .own [.a (encInt IntKind.u32) 1 s.1] 45, .many encAd s.3 86, .many encTw s.4 78, .own [.c (.ptr 1 0), .c (.sli 6 (.c 0) 1 (.v m) none), .c (.sli 7 (.c 0) 1 (.v m) (some (.v m)))] 70, .vec (encTs 3 4) ts 44, .own [.a encBool m s.5] 4, .ro encU8 p.1, .ro (encInt IntKind.i64) p.3])))

 (.ret (.exit 2, [.sli 8 (.c 0) 1 (.v p.1.length) (some (.v p.2)), .sli 9 (.c 0) 1 (.v p.3.length) (some (.v p.4)), .ptr 1 0, .int .u32 sum, .ptr 5 0, .int .i64 (↑i : Int)], [.ro encLook [PUnit.unit], .own [.c (.sli 2 (.c 0) 1 (.v 1) (some (.v 1))), .c (.int .i64 s.2)] 67, .own [.a (encInt IntKind.u32) 1 s.1] 45, .many encAd s.3 86, .many encTw s.4 78, .own [.c (.ptr 1 0), .c (.sli 6 (.c 0) 1 (.v m) none), .c (.sli 7 (.c 0) 1 (.v m) (some (.v m)))] 70, .vec (encTs 3 4) ts 44, .own [.a encBool m s.5] 4, .ro encU8 p.1, .ro (encInt IntKind.i64) p.3]))) := by kernel_rfl
set_option maxRecDepth 100000 in
theorem t7_pick {p : In8} {m : Nat} {ts : List (Bool × Nat)} {s : Mc} {sum : Int} {i : Nat} : (execN (cfgQ 1 m ts s) 100 1 bb7b (fr 121 n7d (v7b p sum ++ [.int .i64 (i : Nat)])) (sL p m ts s)).bind (canonK 10 [(0,0)] 121 n7d) =
 

 (.need (decide ((0 : Int) ≤ (↑i : Int)) && decide ((↑i : Int).toNat < p.3.length))

 (.need (decide ((↑i : Int).toNat < p.3.length))

 (.eq ([Blk.ro encLook [PUnit.unit], .own [.c (.sli 2 (.c 0) 1 (.v 1) (some (.v 1))), .c (.int .i64 s.2)] 67, .own [.a (encInt IntKind.u32) 1 s.1] 45, .many encAd s.3 86, .many encTw s.4 78, .own [.c (.ptr 1 0), .c (.sli 6 (.c 0) 1 (.v m) none), .c (.sli 7 (.c 0) 1 (.v m) (some (.v m)))] 70, .vec (encTs 3 4) ts 44, .own [.a encBool m s.5] 4] = [Blk.ro encLook [PUnit.unit], .own [.c (.sli 2 (.c 0) 1 (.v 1) (some (.v 1))), .c (.int .i64 s.2)] 67, .own [.a (encInt IntKind.u32) 1 s.1] 45, .many encAd s.3 86, .many encTw s.4 78, .own [.c (.ptr 1 0), .c (.sli 6 (.c 0) 1 (.v m) none), .c (.sli 7 (.c 0) 1 (.v m) (some (.v m)))] 70, .vec (encTs 3 4) ts 44, .own [.a encBool m s.5] 4] ∧ McOk 1 m ts s)

 (.ret (.normal, [.sli 8 (.c 0) 1 (.v p.1.length) (some (.v p.2)), .sli 9 (.c 0) 1 (.v p.3.length) (some (.v p.4)), .ptr 1 0, .int .u32 sum, .ptr 5 0, .int .i64 (↑i : Int)], [.ro encLook [PUnit.unit], .own [.c (.sli 2 (.c 0) 1 (.v 1) (some (.v 1))), .c (.int .i64 (pickP m ts s (p.3.getD (↑i : Int).toNat (0 : Int))).c)] 67, .own [.a (encInt IntKind.u32) 1 (pickP m ts s (p.3.getD (↑i : Int).toNat (0 : Int))).l] 45, .many encAd (pickP m ts s (p.3.getD (↑i : Int).toNat (0 : Int))).ad 86, .many encTw (pickP m ts s (p.3.getD (↑i : Int).toNat (0 : Int))).tw 78, .own [.c (.ptr 1 0), .c (.sli 6 (.c 0) 1 (.v m) none), .c (.sli 7 (.c 0) 1 (.v m) (some (.v m)))] 70, .vec (encTs 3 4) ts 44, .own [.a encBool m (pickP m ts s (p.3.getD (↑i : Int).toNat (0 : Int))).ds] 4, .ro encU8 p.1, .ro (encInt IntKind.i64) p.3]))))) := by kernel_rfl
set_option maxRecDepth 100000 in
theorem t7_load {p : In8} {m : Nat} {ts : List (Bool × Nat)} {s : Mc} {sum : Int} {i : Nat} : (execN (cfgQ 1 m ts s) 100 1 (restC 1 bb7b) (fr 121 n7d (v7b p sum ++ [.int .i64 (i : Nat)])) (sL p m ts s)).bind (canonK 10 [(0,0)] 121 n7e) =
 

 (.eq ([Blk.ro encLook [PUnit.unit], .own [.c (.sli 2 (.c 0) 1 (.v 1) (some (.v 1))), .c (.int .i64 s.2)] 67, .own [.a (encInt IntKind.u32) 1 s.1] 45] = [Blk.ro encLook [PUnit.unit], .own [.c (.sli 2 (.c 0) 1 (.v 1) (some (.v 1))), .c (.int .i64 s.2)] 67, .own [.a (encInt IntKind.u32) 1 s.1] 45] ∧ s.1.length = 1)

 (.br (true)

 (.ret (.normal, [.sli 8 (.c 0) 1 (.v p.1.length) (some (.v p.2)), .sli 9 (.c 0) 1 (.v p.3.length) (some (.v p.4)), .ptr 1 0, .int .u32 sum, .ptr 5 0, .int .i64 (↑i : Int), .int .u32 (s.1.getD 0 (0 : Int))], [.ro encLook [PUnit.unit], .own [.c (.sli 2 (.c 0) 1 (.v 1) (some (.v 1))), .c (.int .i64 (upP s.2))] 67, .own [.a (encInt IntKind.u32) 1 s.1] 45, .many encAd s.3 86, .many encTw s.4 78, .own [.c (.ptr 1 0), .c (.sli 6 (.c 0) 1 (.v m) none), .c (.sli 7 (.c 0) 1 (.v m) (some (.v m)))] 70, .vec (encTs 3 4) ts 44, .own [.a encBool m s.5] 4, .ro encU8 p.1, .ro (encInt IntKind.i64) p.3]))

 (.ret (.normal, [.sli 8 (.c 0) 1 (.v p.1.length) (some (.v p.2)), .sli 9 (.c 0) 1 (.v p.3.length) (some (.v p.4)), .ptr 1 0, .int .u32 sum, .ptr 5 0, .int .i64 (↑i : Int), .lit .u32 (0 : Int)], [.ro encLook [PUnit.unit], .own [.c (.sli 2 (.c 0) 1 (.v 1) (some (.v 1))), .c (.int .i64 s.2)] 67, .own [.a (encInt IntKind.u32) 1 s.1] 45, .many encAd s.3 86, .many encTw s.4 78, .own [.c (.ptr 1 0), .c (.sli 6 (.c 0) 1 (.v m) none), .c (.sli 7 (.c 0) 1 (.v m) (some (.v m)))] 70, .vec (encTs 3 4) ts 44, .own [.a encBool m s.5] 4, .ro encU8 p.1, .ro (encInt IntKind.i64) p.3])))) := by kernel_rfl
set_option maxRecDepth 100000 in
theorem t7_chk {p : In8} {m : Nat} {ts : List (Bool × Nat)} {s : Mc} {sum v : Int} {i : Nat} : (exec (cfgR 1 m ts s) 100 (restC 2 bb7b) (fr 121 n7e (v7b p sum ++ [.int .i64 (i : Nat), .int .u32 v])) (sL p m ts s)).bind (canonK 10 [(0,0)] 121 n7d) =
 

 (.br (decide (sum < v))

 (.ret (.ret, [.sli 8 (.c 0) 1 (.v p.1.length) (some (.v p.2)), .sli 9 (.c 0) 1 (.v p.3.length) (some (.v p.4)), .ptr 1 0, .int .u32 sum, .ptr 5 0, .int .i64 (↑i : Int)], [.ro encLook [PUnit.unit], .own [.c (.sli 2 (.c 0) 1 (.v 1) (some (.v 1))), .c (.int .i64 s.2)] 67, .own [.a (encInt IntKind.u32) 1 s.1] 45, .many encAd s.3 86, .many encTw s.4 78, .own [.c (.ptr 1 0), .c (.sli 6 (.c 0) 1 (.v m) none), .c (.sli 7 (.c 0) 1 (.v m) (some (.v m)))] 70, .vec (encTs 3 4) ts 44, .own [.a encBool m s.5] 4, .ro encU8 p.1, .ro (encInt IntKind.i64) p.3]))

 (.eq ([Blk.ro encLook [PUnit.unit], .own [.c (.sli 2 (.c 0) 1 (.v 1) (some (.v 1))), .c (.int .i64 s.2)] 67, .own [.a (encInt IntKind.u32) 1 s.1] 45, .many encAd s.3 86, .many encTw s.4 78, .own [.c (.ptr 1 0), .c (.sli 6 (.c 0) 1 (.v m) none), .c (.sli 7 (.c 0) 1 (.v m) (some (.v m)))] 70, .vec (encTs 3 4) ts 44, .own [.a encBool m s.5] 4] = [Blk.ro encLook [PUnit.unit], .own [.c (.sli 2 (.c 0) 1 (.v 1) (some (.v 1))), .c (.int .i64 s.2)] 67, .own [.a (encInt IntKind.u32) 1 s.1] 45, .many encAd s.3 86, .many encTw s.4 78, .own [.c (.ptr 1 0), .c (.sli 6 (.c 0) 1 (.v m) none), .c (.sli 7 (.c 0) 1 (.v m) (some (.v m)))] 70, .vec (encTs 3 4) ts 44, .own [.a encBool m s.5] 4] ∧ s.5.length = m ∧ m ≤ 1000)

 (.br (leftP s.5 == (0 : Int))

 (.br (v != sum)

 (.ret (.ret, [.sli 8 (.c 0) 1 (.v p.1.length) (some (.v p.2)), .sli 9 (.c 0) 1 (.v p.3.length) (some (.v p.4)), .ptr 1 0, .int .u32 sum, .ptr 5 0, .int .i64 (↑i : Int)], [.ro encLook [PUnit.unit], .own [.c (.sli 2 (.c 0) 1 (.v 1) (some (.v 1))), .c (.int .i64 s.2)] 67, .own [.a (encInt IntKind.u32) 1 s.1] 45, .many encAd s.3 86, .many encTw s.4 78, .own [.c (.ptr 1 0), .c (.sli 6 (.c 0) 1 (.v m) none), .c (.sli 7 (.c 0) 1 (.v m) (some (.v m)))] 70, .vec (encTs 3 4) ts 44, .own [.a encBool m s.5] 4, .ro encU8 p.1, .ro (encInt IntKind.i64) p.3]))

 (.ret (.normal, [.sli 8 (.c 0) 1 (.v p.1.length) (some (.v p.2)), .sli 9 (.c 0) 1 (.v p.3.length) (some (.v p.4)), .ptr 1 0, .int .u32 sum, .ptr 5 0, .int .i64 (↑i : Int)], [.ro encLook [PUnit.unit], .own [.c (.sli 2 (.c 0) 1 (.v 1) (some (.v 1))), .c (.int .i64 s.2)] 67, .own [.a (encInt IntKind.u32) 1 s.1] 45, .many encAd s.3 86, .many encTw s.4 78, .own [.c (.ptr 1 0), .c (.sli 6 (.c 0) 1 (.v m) none), .c (.sli 7 (.c 0) 1 (.v m) (some (.v m)))] 70, .vec (encTs 3 4) ts 44, .own [.a encBool m s.5] 4, .ro encU8 p.1, .ro (encInt IntKind.i64) p.3])))

 (.ret (.normal, [.sli 8 (.c 0) 1 (.v p.1.length) (some (.v p.2)), .sli 9 (.c 0) 1 (.v p.3.length) (some (.v p.4)), .ptr 1 0, .int .u32 sum, .ptr 5 0, .int .i64 (↑i : Int)], [.ro encLook [PUnit.unit], .own [.c (.sli 2 (.c 0) 1 (.v 1) (some (.v 1))), .c (.int .i64 s.2)] 67, .own [.a (encInt IntKind.u32) 1 s.1] 45, .many encAd s.3 86, .many encTw s.4 78, .own [.c (.ptr 1 0), .c (.sli 6 (.c 0) 1 (.v m) none), .c (.sli 7 (.c 0) 1 (.v m) (some (.v m)))] 70, .vec (encTs 3 4) ts 44, .own [.a encBool m s.5] 4, .ro encU8 p.1, .ro (encInt IntKind.i64) p.3]))))) := by kernel_rfl
set_option maxRecDepth 100000 in
theorem t7_incb {p : In8} {m : Nat} {ts : List (Bool × Nat)} {s : Mc} {sum : Int} {i : Nat} : (exec cfgM 100 inc7b (fr 121 n7d (v7b p sum ++ [.int .i64 (i : Nat)])) (sL p m ts s)).bind (canonK 10 [(0,0)] 121 n7d) =
 

 (.need (inR .i64 ((↑i : Int) + (1 : Int)))

 (.ret (.normal, [.sli 8 (.c 0) 1 (.v p.1.length) (some (.v p.2)), .sli 9 (.c 0) 1 (.v p.3.length) (some (.v p.4)), .ptr 1 0, .int .u32 sum, .ptr 5 0, .int .i64 ((↑i : Int) + (1 : Int))], [.ro encLook [PUnit.unit], .own [.c (.sli 2 (.c 0) 1 (.v 1) (some (.v 1))), .c (.int .i64 s.2)] 67, .own [.a (encInt IntKind.u32) 1 s.1] 45, .many encAd s.3 86, .many encTw s.4 78, .own [.c (.ptr 1 0), .c (.sli 6 (.c 0) 1 (.v m) none), .c (.sli 7 (.c 0) 1 (.v m) (some (.v m)))] 70, .vec (encTs 3 4) ts 44, .own [.a encBool m s.5] 4, .ro encU8 p.1, .ro (encInt IntKind.i64) p.3]))) := by kernel_rfl
set_option maxRecDepth 100000 in
theorem t7_end1 {p : In8} {m : Nat} {ts : List (Bool × Nat)} {s : Mc} {sum : Int} {i : Nat} : (execN (cfgS 1 m ts s) 100 1 f7' (fr 121 n7d (v7b p sum ++ [.int .i64 (i : Nat)])) (sL p m ts s)).bind (canonK 10 [(0,0)] 121 n7c) =
 

 (.eq ([Blk.ro encLook [PUnit.unit], .own [.c (.sli 2 (.c 0) 1 (.v 1) (some (.v 1))), .c (.int .i64 s.2)] 67, .own [.a (encInt IntKind.u32) 1 s.1] 45, .many encAd s.3 86, .many encTw s.4 78, .own [.c (.ptr 1 0), .c (.sli 6 (.c 0) 1 (.v m) none), .c (.sli 7 (.c 0) 1 (.v m) (some (.v m)))] 70, .vec (encTs 3 4) ts 44, .own [.a encBool m s.5] 4] = [Blk.ro encLook [PUnit.unit], .own [.c (.sli 2 (.c 0) 1 (.v 1) (some (.v 1))), .c (.int .i64 s.2)] 67, .own [.a (encInt IntKind.u32) 1 s.1] 45, .many encAd s.3 86, .many encTw s.4 78, .own [.c (.ptr 1 0), .c (.sli 6 (.c 0) 1 (.v m) none), .c (.sli 7 (.c 0) 1 (.v m) (some (.v m)))] 70, .vec (encTs 3 4) ts 44, .own [.a encBool m s.5] 4] ∧ McOk 1 m ts s ∧ m ≤ 1000 ∧ (500 : Int) ≤ (1000000 : Int))

 (.ret (.normal, [.sli 8 (.c 0) 1 (.v p.1.length) (some (.v p.2)), .sli 9 (.c 0) 1 (.v p.3.length) (some (.v p.4)), .ptr 1 0, .int .u32 sum, .ptr 5 0], [.ro encLook [PUnit.unit], .own [.c (.sli 2 (.c 0) 1 (.v 1) (some (.v 1))), .c (.int .i64 (endP m ts s 500).c)] 67, .own [.a (encInt IntKind.u32) 1 (endP m ts s 500).l] 45, .many encAd (endP m ts s 500).ad 86, .many encTw (endP m ts s 500).tw 78, .own [.c (.ptr 1 0), .c (.sli 6 (.c 0) 1 (.v m) none), .c (.sli 7 (.c 0) 1 (.v m) (some (.v m)))] 70, .vec (encTs 3 4) ts 44, .own [.a encBool m (endP m ts s 500).ds] 4, .ro encU8 p.1, .ro (encInt IntKind.i64) p.3]))) := by kernel_rfl
set_option maxRecDepth 100000 in
theorem t7_end2 {p : In8} {m : Nat} {ts : List (Bool × Nat)} {s : Mc} {sum : Int} : (execN (cfgQ 1 m ts s) 100 1 (restC 1 f7') (fr 121 n7c (v7b p sum)) (sL p m ts s)).bind (canonK 10 [(0,0)] 121 [0, 2, 7, 10, 13, 17]) =
 

 (.eq ([Blk.ro encLook [PUnit.unit], .own [.c (.sli 2 (.c 0) 1 (.v 1) (some (.v 1))), .c (.int .i64 s.2)] 67, .own [.a (encInt IntKind.u32) 1 s.1] 45] = [Blk.ro encLook [PUnit.unit], .own [.c (.sli 2 (.c 0) 1 (.v 1) (some (.v 1))), .c (.int .i64 s.2)] 67, .own [.a (encInt IntKind.u32) 1 s.1] 45] ∧ s.1.length = 1)

 (.br (true)

 (.ret (.normal, [.sli 8 (.c 0) 1 (.v p.1.length) (some (.v p.2)), .sli 9 (.c 0) 1 (.v p.3.length) (some (.v p.4)), .ptr 1 0, .int .u32 sum, .ptr 5 0, .int .u32 (s.1.getD 0 (0 : Int))], [.ro encLook [PUnit.unit], .own [.c (.sli 2 (.c 0) 1 (.v 1) (some (.v 1))), .c (.int .i64 (upP s.2))] 67, .own [.a (encInt IntKind.u32) 1 s.1] 45, .many encAd s.3 86, .many encTw s.4 78, .own [.c (.ptr 1 0), .c (.sli 6 (.c 0) 1 (.v m) none), .c (.sli 7 (.c 0) 1 (.v m) (some (.v m)))] 70, .vec (encTs 3 4) ts 44, .own [.a encBool m s.5] 4, .ro encU8 p.1, .ro (encInt IntKind.i64) p.3]))

 (.ret (.normal, [.sli 8 (.c 0) 1 (.v p.1.length) (some (.v p.2)), .sli 9 (.c 0) 1 (.v p.3.length) (some (.v p.4)), .ptr 1 0, .int .u32 sum, .ptr 5 0, .lit .u32 (0 : Int)], [.ro encLook [PUnit.unit], .own [.c (.sli 2 (.c 0) 1 (.v 1) (some (.v 1))), .c (.int .i64 s.2)] 67, .own [.a (encInt IntKind.u32) 1 s.1] 45, .many encAd s.3 86, .many encTw s.4 78, .own [.c (.ptr 1 0), .c (.sli 6 (.c 0) 1 (.v m) none), .c (.sli 7 (.c 0) 1 (.v m) (some (.v m)))] 70, .vec (encTs 3 4) ts 44, .own [.a encBool m s.5] 4, .ro encU8 p.1, .ro (encInt IntKind.i64) p.3])))) := by kernel_rfl
set_option maxRecDepth 100000 in
theorem t7_end3 {p : In8} {m : Nat} {ts : List (Bool × Nat)} {s : Mc} {sum v : Int} : (exec (cfgR 1 m ts s) 100 (restC 2 f7') (fr 121 [0, 2, 7, 10, 13, 17] (v7b p sum ++ [.int .u32 v])) (sL p m ts s)).bind (canonK 10 [(0,0)] 121 [6]) =
 

 (.eq ([Blk.ro encLook [PUnit.unit], .own [.c (.sli 2 (.c 0) 1 (.v 1) (some (.v 1))), .c (.int .i64 s.2)] 67, .own [.a (encInt IntKind.u32) 1 s.1] 45, .many encAd s.3 86, .many encTw s.4 78, .own [.c (.ptr 1 0), .c (.sli 6 (.c 0) 1 (.v m) none), .c (.sli 7 (.c 0) 1 (.v m) (some (.v m)))] 70, .vec (encTs 3 4) ts 44, .own [.a encBool m s.5] 4] = [Blk.ro encLook [PUnit.unit], .own [.c (.sli 2 (.c 0) 1 (.v 1) (some (.v 1))), .c (.int .i64 s.2)] 67, .own [.a (encInt IntKind.u32) 1 s.1] 45, .many encAd s.3 86, .many encTw s.4 78, .own [.c (.ptr 1 0), .c (.sli 6 (.c 0) 1 (.v m) none), .c (.sli 7 (.c 0) 1 (.v m) (some (.v m)))] 70, .vec (encTs 3 4) ts 44, .own [.a encBool m s.5] 4] ∧ s.5.length = m ∧ m ≤ 1000)

 (.br (leftP s.5 == (0 : Int))

 (.ret (.ret, [.sb (v == sum)], [.ro encLook [PUnit.unit], .own [.c (.sli 2 (.c 0) 1 (.v 1) (some (.v 1))), .c (.int .i64 s.2)] 67, .own [.a (encInt IntKind.u32) 1 s.1] 45, .many encAd s.3 86, .many encTw s.4 78, .own [.c (.ptr 1 0), .c (.sli 6 (.c 0) 1 (.v m) none), .c (.sli 7 (.c 0) 1 (.v m) (some (.v m)))] 70, .vec (encTs 3 4) ts 44, .own [.a encBool m s.5] 4, .ro encU8 p.1, .ro (encInt IntKind.i64) p.3]))

 (.ret (.ret, [.bl false], [.ro encLook [PUnit.unit], .own [.c (.sli 2 (.c 0) 1 (.v 1) (some (.v 1))), .c (.int .i64 s.2)] 67, .own [.a (encInt IntKind.u32) 1 s.1] 45, .many encAd s.3 86, .many encTw s.4 78, .own [.c (.ptr 1 0), .c (.sli 6 (.c 0) 1 (.v m) none), .c (.sli 7 (.c 0) 1 (.v m) (some (.v m)))] 70, .vec (encTs 3 4) ts 44, .own [.a encBool m s.5] 4, .ro encU8 p.1, .ro (encInt IntKind.i64) p.3])))) := by kernel_rfl
end Go.Proofs.YtlnigpeoffaemaaDoor

/- StepsAdd: the making of tasks. -/
namespace Go.Proofs.YtlnigpeoffaemaaDoor
open Go Go.Proofs.YtlnigpeoffaemaaDoor.Sx
set_option linter.unusedVariables false
def mkSw (u : U8) : Tw := ⟨0, u.v.tmod 12, false, 0, true⟩
def mkAd (u : U8) : Ad := ⟨0, u.v.tmod 12⟩
def xsG (p : In8) (b : Bool) (i : Nat) : List Ad := match b with | true => [] | false => (p.times.take i).map mkAd
def ysG (p : In8) (b : Bool) (i : Nat) : List Tw := match b with | true => (p.times.take i).map mkSw | false => []
def tsG (b : Bool) (i : Nat) : List (Bool × Nat) := match b with | true => tsB i | false => tsA i
def sumT (p : In8) (i : Nat) : Int := ((p.times.take i).map fun u => u.v.tmod 12).sum
theorem tsG_len (b : Bool) (i : Nat) : (tsG b i).length = i := by cases b <;> simp [tsG, tsA_len, tsB_len]
theorem sumT_succ {p : In8} {i : Nat} (h : i < p.times.length) : sumT p (i + 1) = sumT p i + (p.times.getD i encU8.dflt).v.tmod 12 := by
  unfold sumT
  rw [List.take_add_one, List.map_append, List.sum_append]
  simp [List.getD_eq_getElem?_getD, h]
theorem take_succ {p : In8} {i : Nat} (h : i < p.times.length) : p.times.take (i + 1) = p.times.take i ++ [p.times.getD i encU8.dflt] := by
  rw [List.take_add_one]
  simp [List.getD_eq_getElem?_getD, h]
theorem sumT_le {p : In8} : ∀ {i : Nat}, 0 ≤ sumT p i ∧ sumT p i ≤ 11 * i := by
  intro i
  have h : ∀ l : List U8, 0 ≤ (l.map fun u => u.v.tmod 12).sum ∧ (l.map fun u => u.v.tmod 12).sum ≤ 11 * l.length := by
    intro l
    induction l with
    | nil => simp
    | cons u l ih =>
      have := tmod12 u
      simp only [List.map_cons, List.sum_cons, List.length_cons] at ih ⊢
      push_cast
      omega
  have := h (p.times.take i)
  have hl : (p.times.take i).length ≤ i := by simp; omega
  unfold sumT
  constructor
  · exact this.1
  · have := this.2; omega
theorem sumT_W (p : In8) (i : Nat) : sumW (ysG p true i) = sumT p i := by
  simp [sumW, ysG, sumT, mkSw, Function.comp_def]
theorem sumT_A (p : In8) (i : Nat) : sumA (xsG p false i) = sumT p i := by
  simp [sumA, xsG, sumT, mkAd, Function.comp_def]
abbrev Q7 (w0 : From) : Exit → Act → World → Prop := bodyPost Tryd.prog Tryd.f7 (Said w0)
def InvK (w0 : From) (p : In8) (b : Bool) (i : Nat) (a : Act) (w : World) : Prop :=
  i ≤ p.times.length ∧ ∃ env, AtK [] [(0, 0)] w0 env (fr 121 n7b (v7 p i (sumT p i) (.sb b) ++ [.int .i64 (i : Nat)])) (sMk p (xsG p b i) (ysG p b i) (tsG b i)) a w
abbrev RK (w0 : From) (p : In8) (b : Bool) (i : Nat) : Exit → Act → World → Prop :=
  Exit.then (fun a' w' => ∃ k, InvK w0 p b k a' w' ∧ p.times.length - k < p.times.length - i) (Exit.inBlock 0 (Exit.then (d7.wp Tryd.prog (Q7 w0)) (Q7 w0)))
theorem incK_ok {w0 : From} {p : In8} {b : Bool} (h6 : p.times.length ≤ 6) {i : Nat} (hi : i < p.times.length) {env : Env} {a : Act} {w : World}
    (h : AtK [] [(0, 0)] w0 env (fr 121 n7b (v7 p (i + 1) (sumT p (i + 1)) (.sb b) ++ [.int .i64 (i : Nat)])) (sMk p (xsG p b (i + 1)) (ysG p b (i + 1)) (tsG b (i + 1))) a w) : inc7.wp Tryd.prog (RK w0 p b i) a w := by
  have hlt := tsG_len b (i + 1)
  have h' : AtK [] [(0, 0)] w0 env (fr 121 n7b (v7 p (tsG b (i + 1)).length (sumT p (i + 1)) (.sb b) ++ [.int .i64 (i : Nat)])) (sMk p (xsG p b (i + 1)) (ysG p b (i + 1)) (tsG b (i + 1))) a w := by rw [hlt]; exact h
  refine pieceTK2 (c := cfgM) cfgM_ok n7b t7_inc (by simp) (by simp) h' ?_
  refine all_needp (by simp only [inR_i64]; exact Iff.rfl) (by omega) fun _ => all_ret fun env' a' w' hA9 => ?_
  refine ⟨i + 1, ⟨by omega, env', ?_⟩, by omega⟩
  rw [hlt] at hA9
  exact hA9
set_option maxHeartbeats 1000000 in
theorem roundK_ok {w0 : From} {p : In8} {b : Bool} (h6 : p.times.length ≤ 6)
    (hd : ∀ {env : Env} {a : Act} {w : World}, AtK [] [(0, 0)] w0 env (fr 121 n7b (v7 p p.times.length (sumT p p.times.length) (.sb b) ++ [.int .i64 (p.times.length : Nat)])) (sMk p (xsG p b p.times.length) (ysG p b p.times.length) (tsG b p.times.length)) a w → d7.wp Tryd.prog (Q7 w0) a w)
    {i : Nat} {a : Act} {w : World} (h : InvK w0 p b i a w) : round7.wp Tryd.prog (RK w0 p b i) a w := by
  obtain ⟨hi, env, hA⟩ := h
  refine wpS (by kernel_rfl) ?_
  have hlt := tsG_len b i
  have hA' : AtK [] [(0, 0)] w0 env (fr 121 n7b (v7 p (tsG b i).length (sumT p i) (.sb b) ++ [.int .i64 (i : Nat)])) (sMk p (xsG p b i) (ysG p b i) (tsG b i)) a w := by rw [hlt]; exact hA
  refine pieceTK2 (c := cfgM) cfgM_ok n7b t7_tm (by simp) (by simp) hA' ?_
  refine all_brp (by simp only [decide_eq_true_eq]; exact Iff.rfl) (fun h1 => all_ret fun env1 a1 w1 hA1 => ?_) (fun h1 => all_ret fun env1 a1 w1 hA1 => ?_)
  · simp only [Ex.to, Exit.then]
    have hi' : i < p.times.length := by omega
    refine (show (rgt round7).wp Tryd.prog (RK w0 p b i) a1 w1 from wpS (by kernel_rfl) (wpB 1 (by kernel_rfl) ?_))
    refine (show bb7.wp Tryd.prog (Exit.inBlock 1 (Exit.then (inc7.wp Tryd.prog (RK w0 p b i)) (RK w0 p b i))) a1 w1 from ?_)
    have hsl : (someT (tsG b i)).length = (tsG b i).length := by simp
    have hs := sumT_succ hi'
    have hx := take_succ hi'
    rw [show encU8.dflt = (⟨0, by omega⟩ : U8) from rfl] at hs hx
    have hu := tmod12 (p.times.getD i ⟨0, by omega⟩)
    have hur := (p.times.getD i ⟨0, by omega⟩).h
    have hle := sumT_le (p := p) (i := i)
    cases b with
    | true =>
      have hA2 : AtK [] [(0, 0)] w0 env1 (fr 121 n7b (v7 p (someT (tsG true i)).length (sumT p i) (.bl true) ++ [.int .i64 (i : Nat)])) (sMn p (xsG p true i) (ysG p true i) (someT (tsG true i))) a1 w1 := by
        rw [hsl]
        exact (hA1.on fun h => h.typede 7 (E' := encTsN 3 4 8) (ys := someT (tsG true i)) rfl (by simp) rfl (fun cs h => someT_den h)).on fun h => h.gvals _ rfl
      refine pieceTK2 (c := cfgM) cfgM_ok n7n t7_mkS (by simp) (by simp) hA2 ?_
      simp only [Int.toNat_natCast]
      refine all_needq (by simp only [decide_eq_true_eq, Bool.and_eq_true]; exact Iff.rfl) (by omega) ?_
      refine all_needq (by simp only [decide_eq_true_eq]; exact Iff.rfl) (by omega) ?_
      refine all_needq (by simp only [inR_i64]; exact Iff.rfl) (by omega) ?_
      refine all_need rfl fun _ => all_need rfl fun _ => ?_
      refine all_need (by simp) fun _ => ?_
      refine all_needq (by simp only [roomy_iff]; exact Iff.rfl) (by rw [hsl, hlt]; omega) ?_
      refine all_ret fun env2 a2 w2 hA3 => ?_
      rw [w32_small (x := (p.times.getD i ⟨0, by omega⟩).v.tmod 12) (by omega) (by omega), w32_small (by omega) (by omega), ← hs, hsl, hlt] at hA3
      have hA4 := hA3.on fun h => h.retype 8 (E := encTsN 3 4 8) rfl (encTsN 3 4 7) rfl encN_ren
      obtain ⟨env4, hA5, hj⟩ := hA4.join2 4 7 (by omega) (by simp) (E := encTw) (xs := ysG p true i) rfl rfl (mkSw (p.times.getD i ⟨0, by omega⟩)) (fun env cs h => by
        simpa [segCells, Seg.cells, encTw, encOf, mkSw, DenL, Den] using h)
      have hyl : (ysG p true i).length = i := by simp [ysG]; omega
      rw [hyl] at hj
      have hA6 := hA5.on fun h => h.typede 8 (E' := encTs 3 4) (ys := tsB i ++ [(false, i)]) rfl (by simp [tsG]) rfl (fun cs h => tsN_tw (fun v => hj v 0) h)
      have hyx : ysG p true (i + 1) = ysG p true i ++ [mkSw (p.times.getD i ⟨0, by omega⟩)] := by simp only [ysG, hx, List.map_append, List.map_cons, List.map_nil]
      have hA7 := hA6.perm [0, 1, 2, 3, 4, 5, 6, 8] (by kernel_rfl) (by kernel_rfl) (st' := sMk p (xsG p true (i + 1)) (ysG p true (i + 1)) (tsG true (i + 1))) (vals' := .ifc 74 .bad :: .bad :: (v7 p (i + 1) (sumT p (i + 1)) (.bl true) ++ [SVal.int .i64 (i : Nat)])) (by rw [hyx]; simp only [tsG, tsB_succ]; rfl) rfl rfl
      have hA8 := (hA7.on fun h => (h.drop1 rfl).drop1 rfl).on fun h => h.gvals (v7 p (i + 1) (sumT p (i + 1)) (.sb true) ++ [SVal.int .i64 (i : Nat)]) rfl
      simp only [Ex.to, Exit.inBlock, Exit.then]
      exact incK_ok h6 hi' hA8
    | false =>
      have hA2 : AtK [] [(0, 0)] w0 env1 (fr 121 n7b (v7 p (someT (tsG false i)).length (sumT p i) (.bl false) ++ [.int .i64 (i : Nat)])) (sMn p (xsG p false i) (ysG p false i) (someT (tsG false i))) a1 w1 := by
        rw [hsl]
        exact (hA1.on fun h => h.typede 7 (E' := encTsN 3 4 8) (ys := someT (tsG false i)) rfl (by simp) rfl (fun cs h => someT_den h)).on fun h => h.gvals _ rfl
      refine pieceTK2 (c := cfgM) cfgM_ok n7n t7_mkA (by simp) (by simp) hA2 ?_
      simp only [Int.toNat_natCast]
      refine all_needq (by simp only [decide_eq_true_eq, Bool.and_eq_true]; exact Iff.rfl) (by omega) ?_
      refine all_needq (by simp only [decide_eq_true_eq]; exact Iff.rfl) (by omega) ?_
      refine all_needq (by simp only [inR_i64]; exact Iff.rfl) (by omega) ?_
      refine all_need rfl fun _ => all_need rfl fun _ => ?_
      refine all_need (by simp) fun _ => ?_
      refine all_needq (by simp only [roomy_iff]; exact Iff.rfl) (by rw [hsl, hlt]; omega) ?_
      refine all_ret fun env2 a2 w2 hA3 => ?_
      rw [w32_small (x := (p.times.getD i ⟨0, by omega⟩).v.tmod 12) (by omega) (by omega), w32_small (by omega) (by omega), ← hs, hsl, hlt] at hA3
      have hA4 := hA3.on fun h => h.retype 8 (E := encTsN 3 4 8) rfl (encTsN 3 4 7) rfl encN_ren
      obtain ⟨env4, hA5, hj⟩ := hA4.join2 3 7 (by omega) (by simp) (E := encAd) (xs := xsG p false i) rfl rfl (mkAd (p.times.getD i ⟨0, by omega⟩)) (fun env cs h => by
        simpa [segCells, Seg.cells, encAd, encOf, mkAd, DenL, Den] using h)
      have hyl : (xsG p false i).length = i := by simp [xsG]; omega
      rw [hyl] at hj
      have hA6 := hA5.on fun h => h.typede 8 (E' := encTs 3 4) (ys := tsA i ++ [(true, i)]) rfl (by simp [tsG]) rfl (fun cs h => tsN_ad (fun v => hj v 0) h)
      have hyx : xsG p false (i + 1) = xsG p false i ++ [mkAd (p.times.getD i ⟨0, by omega⟩)] := by simp only [xsG, hx, List.map_append, List.map_cons, List.map_nil]
      have hA7 := hA6.perm [0, 1, 2, 3, 4, 5, 6, 8] (by kernel_rfl) (by kernel_rfl) (st' := sMk p (xsG p false (i + 1)) (ysG p false (i + 1)) (tsG false (i + 1))) (vals' := .bad :: .ifc 84 .bad :: (v7 p (i + 1) (sumT p (i + 1)) (.bl false) ++ [SVal.int .i64 (i : Nat)])) (by rw [hyx]; simp only [tsG, tsA_succ]; rfl) rfl rfl
      have hA8 := (hA7.on fun h => (h.drop1 rfl).drop1 rfl).on fun h => h.gvals (v7 p (i + 1) (sumT p (i + 1)) (.sb false) ++ [SVal.int .i64 (i : Nat)]) rfl
      simp only [Ex.to, Exit.inBlock, Exit.then]
      exact incK_ok h6 hi' hA8
  · have : i = p.times.length := by omega
    subst this
    simp only [Ex.to, Exit.then, Exit.inBlock, if_true]
    rw [hlt] at hA1
    exact hd hA1
end Go.Proofs.YtlnigpeoffaemaaDoor

/- StepsAdd: its second loop and its end. -/
namespace Go.Proofs.YtlnigpeoffaemaaDoor
open Go Go.Proofs.YtlnigpeoffaemaaDoor.Sx
set_option linter.unusedVariables false
def InvM (I : Mc → Prop) (w0 : From) (p : In8) (m : Nat) (ts : List (Bool × Nat)) (sum : Int) (j : Nat × Mc) (a : Act) (w : World) : Prop :=
  j.1 ≤ 200 ∧ I j.2 ∧ ∃ env, At [(0, 0)] w0 env (fr 121 n7d (v7b p sum ++ [.int .i64 (j.1 : Nat)])) (sL p m ts j.2) a w
abbrev RM (I : Mc → Prop) (w0 : From) (p : In8) (m : Nat) (ts : List (Bool × Nat)) (sum : Int) (i : Nat) : Exit → Act → World → Prop :=
  Exit.then (fun a' w' => ∃ k, InvM I w0 p m ts sum k a' w' ∧ 200 - k.1 < 200 - i) (Exit.inBlock 2 (Exit.then (f7'.wp Tryd.prog (Q7 w0)) (Q7 w0)))
set_option maxHeartbeats 1000000 in
theorem end7_ok {I : Mc → Prop} {w0 : From} {p : In8} {m : Nat} {ts : List (Bool × Nat)} {sum : Int} (L : Law7 m sum ts I) {i : Nat} {s : Mc} (hs : I s) {env : Env} {a : Act} {w : World} (h : At [(0, 0)] w0 env (fr 121 n7d (v7b p sum ++ [.int .i64 (i : Nat)])) (sL p m ts s) a w) : f7'.wp Tryd.prog (Q7 w0) a w := by
  have h6 := L.m6
  refine pieceNT0 (c := cfgS 1 m ts s) cfgS_ok 1 n7c t7_end1 h ?_
  refine all_eq ⟨rfl, L.ok s hs, by omega, by omega⟩ (all_ret fun env1 a1 w1 hA1 => ?_)
  simp only [Ex.to, Exit.then]
  obtain ⟨he, hl⟩ := L.ends s hs
  generalize endP m ts s 500 = s1 at *
  obtain ⟨w', hw, w0', w1', w2⟩ := L.word s1 he
  have hwe := w2 hl
  refine pieceNT0 (c := cfgQ 1 m ts s1) cfgQ_ok 1 [0, 2, 7, 10, 13, 17] t7_end2 hA1 ?_
  refine all_eq ⟨rfl, by rw [hw]; rfl⟩ ?_
  refine all_br (fun _ => all_ret fun env2 a2 w2' hA2 => ?_) (fun hh => by cases hh)
  simp only [Ex.to, Exit.then]
  have hg : s1.l.getD 0 0 = w' := by rw [hw]; rfl
  rw [hg] at hA2
  obtain ⟨l, c, xs, ys, ds⟩ := s1
  simp only at hw hl hA2
  have hA3 : At [(0, 0)] w0 env2 (fr 121 [0, 2, 7, 10, 13, 17] (v7b p sum ++ [.int .u32 w'])) (sL p m ts ⟨l, upP c, xs, ys, ds⟩) a2 w2' := hA2
  have hld : ds.length = m := (L.ok _ he).ld
  refine (show (restC 2 f7').wp Tryd.prog (Q7 w0) a2 w2' from ?_)
  refine pieceT0 (c := cfgR 1 m ts ⟨l, upP c, xs, ys, ds⟩) cfgR_ok [6] t7_end3 hA3 ?_
  refine all_eq ⟨rfl, hld, by omega⟩ ?_
  refine all_brp (by simp only [beq_iff_eq]; exact Iff.rfl) (fun _ => ?_) (fun hh => by exact absurd hl hh)
  refine all_ret fun env3 a3 w3' hA4 => ?_
  have hA5 : At [(0, 0)] w0 env3 (fr 121 [6] [.sb (w' == sum)]) (sL p m ts ⟨l, upP c, xs, ys, ds⟩) a3 w3' := hA4
  rw [beq_iff_eq.2 hwe] at hA5
  exact At.said (c := cfgM) (hA5.gvals [.bl true] rfl) (by kernel_rfl)
set_option maxHeartbeats 1000000 in
theorem roundM_ok {I : Mc → Prop} {w0 : From} {p : In8} {m : Nat} {ts : List (Bool × Nat)} {sum : Int} (L : Law7 m sum ts I) {j : Nat × Mc} {a : Act} {w : World} (h : InvM I w0 p m ts sum j a w) : round7b.wp Tryd.prog (RM I w0 p m ts sum j.1) a w := by
  obtain ⟨i, s⟩ := j
  obtain ⟨hi, hs, env, hA⟩ := h
  have h6 := L.m6
  simp only at hi hs hA ⊢
  have out : ∀ {env' : Env} {a' : Act} {w' : World}, At [(0, 0)] w0 env' (fr 121 n7d (v7b p sum ++ [.int .i64 (i : Nat)])) (sL p m ts s) a' w' → RM I w0 p m ts sum i (.exit 2) a' w' := by
    intro env' a' w' h
    simp only [RM, Exit.then, Exit.inBlock, if_true]
    exact end7_ok L hs h
  refine wpS (by kernel_rfl) ?_
  refine pieceT0 (c := cfgM) cfgM_ok n7d t7_tmb hA ?_
  refine all_brp (by simp only [decide_eq_true_eq]; exact Iff.rfl) (fun h1 => ?_) (fun h1 => all_ret fun _ _ _ h => out h)
  refine all_brp (by simp only [decide_eq_true_eq]; exact Iff.rfl) (fun h2 => all_ret fun env1 a1 w1 hA1 => ?_) (fun h2 => all_ret fun _ _ _ h => out h)
  refine (show (rgt round7b).wp Tryd.prog (RM I w0 p m ts sum i) a1 w1 from wpS (by kernel_rfl) (wpB 3 (by kernel_rfl) ?_))
  refine (show bb7b.wp Tryd.prog (Exit.inBlock 3 (Exit.then (inc7b.wp Tryd.prog (RM I w0 p m ts sum i)) (RM I w0 p m ts sum i))) a1 w1 from ?_)
  refine pieceNT0 (c := cfgQ 1 m ts s) cfgQ_ok 1 n7d t7_pick hA1 ?_
  refine all_needq (by simp only [decide_eq_true_eq, Bool.and_eq_true]; exact Iff.rfl) (by omega) ?_
  refine all_needq (by simp only [decide_eq_true_eq]; exact Iff.rfl) (by omega) ?_
  refine all_eq ⟨rfl, L.ok s hs⟩ (all_ret fun env2 a2 w2 hA2 => ?_)
  simp only [Ex.to, Exit.then]
  have hs2 := L.pick s (p.picks.getD (i : Int).toNat 0) hs
  generalize pickP m ts s (p.picks.getD (i : Int).toNat 0) = s2 at *
  obtain ⟨w', hw, w0', w1', w2'⟩ := L.word s2 hs2
  refine pieceNT0 (c := cfgQ 1 m ts s2) cfgQ_ok 1 n7e t7_load hA2 ?_
  refine all_eq ⟨rfl, by rw [hw]; rfl⟩ ?_
  refine all_br (fun _ => all_ret fun env3 a3 w3 hA3 => ?_) (fun hh => by cases hh)
  simp only [Ex.to, Exit.then]
  have hg : s2.l.getD 0 0 = w' := by rw [hw]; rfl
  rw [hg] at hA3
  have hs3 := L.uses s2 (upP s2.c) hs2
  obtain ⟨l, c, xs, ys, ds⟩ := s2
  simp only at hw hA3 hs3 w2'
  have hA4 : At [(0, 0)] w0 env3 (fr 121 n7e (v7b p sum ++ [.int .i64 (i : Nat), .int .u32 w'])) (sL p m ts ⟨l, upP c, xs, ys, ds⟩) a3 w3 := hA3
  have hld : ds.length = m := (L.ok _ hs3).ld
  refine (show (restC 2 bb7b).wp Tryd.prog _ a3 w3 from ?_)
  refine pieceT0 (c := cfgR 1 m ts ⟨l, upP c, xs, ys, ds⟩) cfgR_ok n7d t7_chk hA4 ?_
  have fin : ∀ {env' a' w''}, At [(0, 0)] w0 env' (fr 121 n7d (v7b p sum ++ [.int .i64 (i : Nat)])) (sL p m ts ⟨l, upP c, xs, ys, ds⟩) a' w'' → inc7b.wp Tryd.prog (RM I w0 p m ts sum i) a' w'' := by
    intro env' a' w'' h
    refine pieceT0 (c := cfgM) cfgM_ok n7d t7_incb h ?_
    refine all_needp (by simp only [inR_i64]; exact Iff.rfl) (by omega) fun _ => all_ret fun env' a' w' hA' => ?_
    exact ⟨(i + 1, _), ⟨by simp only; omega, hs3, env', hA'⟩, by simp only; omega⟩
  refine all_brp (by simp only [decide_eq_true_eq]; exact Iff.rfl) (fun hh => by exfalso; omega) (fun _ => ?_)
  refine all_eq ⟨rfl, hld, by omega⟩ ?_
  refine all_brp (by simp only [beq_iff_eq]; exact Iff.rfl) (fun hl => ?_) (fun _ => all_ret fun env4 a4 w4 hA5 => ?_)
  · refine all_brp (by simp only [bne_iff_ne, ne_eq]; exact Iff.rfl) (fun hh => by exact absurd (w2' hl) hh) (fun _ => all_ret fun env4 a4 w4 hA5 => ?_)
    simp only [Ex.to, Exit.inBlock, Exit.then]
    exact fin hA5
  · simp only [Ex.to, Exit.inBlock, Exit.then]
    exact fin hA5
end Go.Proofs.YtlnigpeoffaemaaDoor

/- StepsAdd: its call. -/
namespace Go.Proofs.YtlnigpeoffaemaaDoor
open Go Go.Proofs.YtlnigpeoffaemaaDoor.Sx
set_option linter.unusedVariables false
set_option maxRecDepth 100000 in
theorem new_s (p : In8) (xs : List Ad) (ys : List Tw) (ts : List (Bool × Nat)) (hn : ts.length ≤ 8) : anyP cfgN 100 11 [.ptr 1 0, .sli 7 (.c 0) 1 (.v ts.length) none] (sMk p xs ys ts) := by
  let A : List Bool := [decide (0 + ts.length ≤ ts.length), decide (0 + ts.length ≤ ts.length), roomy (List.take ts.length (List.drop 0 ts)).length 16]
  let M : List Bool := [decide (0 ≤ (ts.length : Int)), decide ((ts.length : Int) * 1 ≤ 140737488355328), decide ((ts.length : Int) ≤ 4611686018427387904)]
  have h0 : (anyTP cfgN 100 11 [.ptr 1 0, .sli 7 (.c 0) 1 (.v ts.length) none] (sMk p xs ys ts)).lineB = some (A ++ M ++ A ++ M ++ A ++ M ++ M ++ A ++ A ++ M ++ M ++ A ++ M ++ A) := by kernel_rfl
  have h1 : (anyTP cfgN 100 11 [.ptr 1 0, .sli 7 (.c 0) 1 (.v ts.length) none] (sMk p xs ys ts)).lineP = some True := by kernel_rfl
  have hA : ∀ b ∈ A, b = true := by
    intro b hb
    simp only [A, List.mem_cons, List.not_mem_nil, or_false] at hb
    rcases hb with rfl | rfl | rfl
    · simp
    · simp
    · rw [roomy_iff]; simp; omega
  have hM : ∀ b ∈ M, b = true := by
    intro b hb
    simp only [M, List.mem_cons, List.not_mem_nil, or_false] at hb
    rcases hb with rfl | rfl | rfl <;> simp <;> omega
  refine anyP_line h0 h1 (fun b hb => ?_) trivial (by kernel_rfl)
  simp only [List.mem_append] at hb
  rcases hb with ((((((((((((hb | hb) | hb) | hb) | hb) | hb) | hb) | hb) | hb) | hb) | hb) | hb) | hb) | hb <;> first | exact hA b hb | exact hM b hb
def InvG (b : Bool) (m : Nat) (T0 : Int) : Mc → Prop := match b with | true => SInv m T0 | false => AInv m T0
theorem law_G (b : Bool) {m : Nat} {T0 : Int} (h6 : m ≤ 6) : Law7 m T0 (tsG b m) (InvG b m T0) := match b with
  | true => law_swap h6
  | false => law_add h6
theorem startG {p : In8} (h : p.times.length ≤ 6) (b : Bool) : InvG b p.times.length (sumT p p.times.length) ⟨[0], 0, xsG p b p.times.length, ysG p b p.times.length, List.replicate p.times.length false⟩ := by
  have hs := sumT_le (p := p) (i := p.times.length)
  cases b with
  | true =>
    have hw := sumT_W p p.times.length
    refine ⟨h, by simp [ysG], by simp, rfl, by omega, by simp only; omega, by simp only; rw [hw]; simp, fun i hi => ?_⟩
    have ht : twAt ⟨[0], 0, xsG p true p.times.length, ysG p true p.times.length, List.replicate p.times.length false⟩ i = mkSw p.times[i] := by
      show (ysG p true p.times.length).getD i encTw.dflt = _
      simp [ysG, List.getD_eq_getElem?_getD, hi]
    rw [ht, Sx.getD_replicate]
    exact ⟨rfl, rfl, tmod12 p.times[i], fun hh => (by cases hh), fun hh => (by cases hh)⟩
  | false =>
    have hw := sumT_A p p.times.length
    refine ⟨h, by simp [xsG], by simp, rfl, by omega, by simp only; omega, by simp only; rw [hw]; simp, fun i hi => ?_⟩
    have ht : adAt ⟨[0], 0, xsG p false p.times.length, ysG p false p.times.length, List.replicate p.times.length false⟩ i = mkAd p.times[i] := by
      show (xsG p false p.times.length).getD i encAd.dflt = _
      simp [xsG, List.getD_eq_getElem?_getD, hi]
    rw [ht, Sx.getD_replicate]
    exact ⟨rfl, tmod12 p.times[i], fun hh => (by cases hh)⟩
set_option maxHeartbeats 1000000 in
theorem d7_ok {w0 : From} {p : In8} {b : Bool} (h6 : p.times.length ≤ 6) {env : Env} {a : Act} {w : World}
    (h : AtK [] [(0, 0)] w0 env (fr 121 n7b (v7 p p.times.length (sumT p p.times.length) (.sb b) ++ [.int .i64 (p.times.length : Nat)])) (sMk p (xsG p b p.times.length) (ysG p b p.times.length) (tsG b p.times.length)) a w) : d7.wp Tryd.prog (Q7 w0) a w := by
  have hlt := tsG_len b p.times.length
  have hst := startG h6 b
  have h' : AtK [] [(0, 0)] w0 env (fr 121 n7b (v7 p (tsG b p.times.length).length (sumT p p.times.length) (.sb b) ++ [.int .i64 (p.times.length : Nat)])) (sMk p (xsG p b p.times.length) (ysG p b p.times.length) (tsG b p.times.length)) a w := by rw [hlt]; exact h
  refine pieceNTK2 (c := cfgL) cfgL_ok 2 n7c t7_new (by simp) (by simp) h' ?_
  refine all_eq (new_s p _ _ _ (by omega)) ?_
  have htk : List.take (tsG b p.times.length).length (List.drop 0 (tsG b p.times.length)) = tsG b p.times.length := by simp
  simp only [htk, Int.toNat_natCast]
  repeat' (first
    | refine all_needq (by simp only [decide_eq_true_eq, roomy_iff]; exact Iff.rfl) (by omega) ?_
    | refine all_ret (fun env1 a1 w1 hA1 => ?_))
  simp only [Ex.to, Exit.then]
  rw [hlt] at hA1
  have h2 := hA1.at'.perm [0, 1, 2, 3, 4, 7, 8, 9, 5, 6] (by kernel_rfl) (by kernel_rfl) (st' := sL p p.times.length (tsG b p.times.length) ⟨[0], 0, xsG p b p.times.length, ysG p b p.times.length, List.replicate p.times.length false⟩) (vals' := v7b p (sumT p p.times.length)) (by rfl) (by rfl)
  refine (show e7.wp Tryd.prog (Q7 w0) a1 w1 from wpS (by kernel_rfl) (wpS (by kernel_rfl) ?_))
  refine pieceT0 (c := cfgM) cfgM_ok n7d t7_regb h2 (all_ret fun env3 a3 w3 hA3 => ?_)
  simp only [Ex.to, Exit.then]
  have hA4 := hA3.gvals (v7b p (sumT p p.times.length) ++ [SVal.int .i64 ((0 : Nat) : Int)]) rfl
  refine wpB 2 (by kernel_rfl) (wpL (by kernel_rfl) (InvM (InvG b p.times.length (sumT p p.times.length)) w0 p p.times.length (tsG b p.times.length) (sumT p p.times.length)) (fun j => 200 - j.1) (0, _) ⟨by simp, hst, env3, hA4⟩ ?_)
  intro j a w h
  exact roundM_ok (law_G b h6) h
theorem noFoot3 {e0 e1 e2 : Slot} {p : In8} (x : Nat) (h : inFoot [e0, e1, e2] (s0 p) x) : False := by
  obtain ⟨id, e, b, he, hb, hx⟩ := h
  match id with
  | 0 => simp at hb; subst hb; cases hx
  | 1 => simp at hb; subst hb; cases hx
  | 2 => simp at hb; subst hb; cases hx
  | n + 3 => simp at hb
theorem b7_eq : Tryd.f7.body = some b7 := by kernel_rfl
set_option maxHeartbeats 1000000 in
theorem stepsAdd_call {p : In8} {b : Bool} {e0 e1 e2 : Slot} (he : e0.blk = 0 ∧ e0.off = 0) {w : World} {v v' : Value} (hr : Rep [e0, e1, e2] (s0 p) w) (hv : Den [e0, e1, e2] (timesV p 1) v) (hv' : Den [e0, e1, e2] (picksV p 2) v') :
    Calls Tryd.prog 7 ⟨[v, .bool b, v']⟩ w (Said ⟨w, fun _ => False⟩) := by
  refine call_begin (c := cfgL) Tryd.func7 b7_eq (args := [timesV p 1, .sb b, picksV p 2]) (by
    intro q hq
    rw [List.mem_singleton.1 hq]
    exact ⟨e0, rfl, he⟩) hr ⟨_, _, rfl, hv, _, _, rfl, rfl, _, _, rfl, hv', rfl⟩ (F := fun _ => False) (fun x h => noFoot3 x h) ?_
  intro a hA
  refine pieceNT0 (c := cfgL) cfgL_ok 4 n7p t7_pre hA ?_
  refine all_eq rfl ?_
  refine all_brp (by simp only [decide_eq_true_eq]; exact Iff.rfl) (fun h6 => all_eq rfl (all_ret fun env1 a1 w1 hA1 => ?_)) (fun h6 => ?_)
  · exact hA1.said (by kernel_rfl)
  refine all_ret fun env1 a1 w1 hA1 => ?_
  simp only [Ex.to, Exit.then]
  have hA1' := At.few (names := n7a) (extra := [6]) (vals := [timesV p 1, picksV p 2, .ptr 3 0, .sli 5 (.c 0) 1 (.c 0) (some (.c 0)), .lit .u32 0, .sb b]) (ev := [.bl false]) hA1 rfl
  obtain ⟨env2, hA2⟩ := hA1'.void 5 (encInt .i64) rfl
  have hA3 := hA2.many0 encAd 86
  have hA4 := hA3.many0 encTw 78
  have hA5 := hA4.perm [0, 3, 4, 7, 8, 1, 2, 6] (by kernel_rfl) (by kernel_rfl) (st' := [lookB, .own [.c (.sli 2 (.c 0) 1 (.c 1) (some (.c 1))), .c (.lit .i64 0)] 67, .own [.c (.lit .u32 0)] 45, .many encAd [] 86, .many encTw [] 78, .ro encU8 p.times, .ro (encInt .i64) p.picks, .vec (encInt .i64) [] 44]) (vals' := [timesV p 5, picksV p 6, .ptr 1 0, .sli 7 (.c 0) 1 (.v 0) none, .lit .u32 0, .sb b]) (by kernel_rfl) (by kernel_rfl)
  have hA6 := hA5.typede 7 (E' := encTs 3 4) (ys := []) rfl rfl rfl (fun cs h => h)
  have hA7 := hA6.segs 2 (l' := [.a (encInt .u32) 1 [0]]) rfl (by intro s hs; rw [List.mem_singleton.1 hs]; rfl) (fun cs h => by simpa [segCells, Seg.cells, encInt, DenL, Den] using h)
  have hA8 : At [(0, 0)] ⟨w, fun _ => False⟩ _ (fr 121 n7a [timesV p 5, picksV p 6, .ptr 1 0, .sli 7 (.c 0) 1 (.v 0) none, .lit .u32 0, .sb b]) (sMk p [] [] []) a1 w1 := hA7.gen rfl
  have hA9 : AtK [] [(0, 0)] ⟨w, fun _ => False⟩ _ (fr 121 n7a (v7 p ([] : List (Bool × Nat)).length 0 (.sb b))) (sMk p [] [] []) a1 w1 := ⟨hA8.gvals (v7 p 0 0 (.sb b)) rfl, _, rfl⟩
  refine (show c7.wp Tryd.prog (Q7 ⟨w, fun _ => False⟩) a1 w1 from wpS (by kernel_rfl) (wpS (by kernel_rfl) ?_))
  refine pieceTK2 (c := cfgM) cfgM_ok n7b t7_reg (by simp) (by simp) hA9 (all_ret fun env11 a11 w11 hA11 => ?_)
  simp only [Ex.to, Exit.then]
  have hA12 := hA11.on fun h => h.gvals (v7 p 0 (sumT p 0) (.sb b) ++ [SVal.int .i64 ((0 : Nat) : Int)]) rfl
  have h6' : p.times.length ≤ 6 := by omega
  have hx0 : xsG p b 0 = [] ∧ ysG p b 0 = [] ∧ tsG b 0 = [] := by cases b <;> exact ⟨rfl, rfl, rfl⟩
  refine wpB 0 (by kernel_rfl) (wpL (by kernel_rfl) (InvK ⟨w, fun _ => False⟩ p b) (fun i => p.times.length - i) 0 ⟨Nat.zero_le _, env11, by rw [hx0.1, hx0.2.1, hx0.2.2]; exact hA12⟩ ?_)
  intro i a w h
  exact roundK_ok h6' (fun h => d7_ok h6' h) h
end Go.Proofs.YtlnigpeoffaemaaDoor

/- Layer 8: the package's variable, and how a card is closed. -/
namespace Go.Proofs.YtlnigpeoffaemaaDoor
open Go Go.Proofs.YtlnigpeoffaemaaDoor.Sx Go.ChangeShapes Go.WideShapes Go.ChangeAt Go.RowKit
set_option linter.unusedVariables false
abbrev laid1 : List (String × DataW Unit) := [("purlin/mem.look", Rows.laid_purlin_mem_look)]
theorem Tryd.own : ownKnob Tryd.prog.godebug = none := by kernel_rfl
theorem Tryd.laidOut : laidOutB Tryd.prog = true := by kernel_rfl
theorem gLook : Tryd.prog.globalNamed "purlin/mem.look" = some 0 := by kernel_rfl
theorem tLook : (Tryd.prog.globals[0]?).map (·.type) = some 81 := by kernel_rfl
/-- the door's own heap meets the condition -/
theorem door_met (os : Os) (args : Array Value) : laidMetH Tryd.prog laid1 ((World.doorLaid Tryd.prog 400 os).forCall (fun _ _ => 0) ⟨#[], args, []⟩).memory :=
  laidMetH_of_parts3 (fuel := 8) (laidMet_of_run' 8 (by kernel_rfl) (by kernel_rfl)) (by kernel_rfl) (by kernel_rfl)
set_option maxRecDepth 100000 in
/-- what the condition gives -/
theorem of_laid {W : World} (h : laidMetH Tryd.prog laid1 W) : ∃ e : Slot, (e.blk = 0 ∧ e.off = 0) ∧ Rep [e] [lookB] W := by
  rw [MakeChecks.laidMetH_plain _ _ _ (by kernel_rfl)] at h
  obtain ⟨ps, ⟨g0, t0, cs0, f0, p0, q0, hg0, ht0, hv0, hd0, _, _⟩, _, _⟩ := h
  obtain rfl := Option.some.inj (gLook.symm.trans hg0)
  obtain rfl := Option.some.inj (tLook.symm.trans ht0)
  obtain ⟨xs, m, _, hx, hlen, hxl, hf⟩ := DataW.trod_struct Tryd.underlying81 hd0
  have hC : Tryd.prog.cellsOf 81 = 3 := by kernel_rfl
  have k45 : Tryd.prog.cellsOf 45 = 1 := by kernel_rfl
  rw [hC] at hlen
  obtain ⟨l⟩ := cs0
  simp only at hlen hf
  match l, hlen with
  | [c0, c1, c2], _ =>
    match xs, hxl, hx with
    | [y0, y1, y2], _, hx =>
      have f0 : DataW.trod _ Tryd.prog W 0 _ false m 45 (([c0, c1, c2].drop 0).take (Tryd.prog.cellsOf 45)) = some y0 := hf 0 _ rfl
      have f1 : DataW.trod _ Tryd.prog W 0 _ false m 45 (([c0, c1, c2].drop 1).take (Tryd.prog.cellsOf 45)) = some y1 := hf 1 _ rfl
      have f2 : DataW.trod _ Tryd.prog W 0 _ false m 45 (([c0, c1, c2].drop 2).take (Tryd.prog.cellsOf 45)) = some y2 := hf 2 _ rfl
      rw [k45] at f0 f1 f2
      obtain ⟨a0, h0, e0, _⟩ := DataW.trod_int Tryd.underlying45 f0
      obtain ⟨a1, h1, e1, _⟩ := DataW.trod_int Tryd.underlying45 f1
      obtain ⟨a2, h2, e2, _⟩ := DataW.trod_int Tryd.underlying45 f2
      simp at h0 h1 h2
      subst h0 h1 h2 e0 e1 e2
      simp [Rows.laid_purlin_mem_look] at hx
      obtain ⟨⟨rfl, rfl, rfl⟩, _⟩ := hx
      have hc := fun i => World.var?_cell hg0 hv0 i
      have hsz : 0 < W.heap.size := by
        have := hc 0
        simp only [World.cell?] at this
        rcases Nat.eq_zero_or_pos W.heap.size with h | h
        · rw [Array.getElem?_eq_none (by omega)] at this; simp at this
        · exact h
      refine ⟨⟨0, 0, 0, []⟩, ⟨rfl, rfl⟩, rfl, ?_, ?_, ?_⟩
      · intro id sl b he hb
        match id with
        | 0 =>
          simp only [List.getElem?_cons_zero, Option.some.injEq] at he hb
          subst he hb
          refine ⟨[.int .u32 4294967295, .int .u32 0, .int .u32 0], by simp [encLook, encOf, DenL, Den], fun i hi => ?_⟩
          have := hc i
          simpa using this
        | n + 1 => simp at he
      · intro i j e f b c hij he hf' hb' hc' x hx''
        match i, j with
        | 0, 0 => exact (hij rfl).elim
        | i + 1, _ => simp at he
        | 0, j + 1 => simp at hf'
      · intro id sl b he hb x hx
        match id with
        | 0 =>
          simp only [List.getElem?_cons_zero, Option.some.injEq] at he hb
          subst he hb
          simp [Blk.supp] at hx
          omega
        | n + 1 => simp at he
theorem wf_u8 {n : Int} (h : (Lit.int .u8 n).wf = true) : 0 ≤ n ∧ n ≤ 255 := by simp [Lit.wf, IntKind.min, IntKind.max, IntKind.signed, IntKind.bits] at h; omega
theorem open_u8 {H : Type} {enc : TypeId × Value → H} {w : World} {base : Nat} {spare : Nat → Bool} {held : Bool} (n : Nat) (cs : List Value) (y : DataW H × List MemPlace) (h : DataW.trod enc Tryd.prog w base spare held n 5 cs = some y) :
    ∃ x : U8, DenL [] (encU8.enc x) cs := by
  cases n with
  | zero => simp [DataW.trod] at h
  | succ n =>
    obtain ⟨a, h0, _, hw⟩ := DataW.trod_int Tryd.underlying5 h
    subst h0
    exact ⟨⟨a, wf_u8 hw⟩, by simp [encU8, encOf, DenL, Den]⟩
theorem open_i64 {H : Type} {enc : TypeId × Value → H} {w : World} {base : Nat} {spare : Nat → Bool} {held : Bool} (n : Nat) (cs : List Value) (y : DataW H × List MemPlace) (h : DataW.trod enc Tryd.prog w base spare held n 3 cs = some y) :
    ∃ x : Int, DenL [] ((encInt .i64).enc x) cs := by
  cases n with
  | zero => simp [DataW.trod] at h
  | succ n =>
    obtain ⟨a, h0, _, hw⟩ := DataW.trod_int Tryd.underlying3 h
    subst h0
    exact ⟨a, by simp [encInt, DenL, Den]⟩
theorem wf_u32 {n : Int} (h : (Lit.int .u32 n).wf = true) : 0 ≤ n ∧ n < 4294967296 := by simp [Lit.wf, IntKind.min, IntKind.max, IntKind.signed, IntKind.bits] at h; omega
end Go.Proofs.YtlnigpeoffaemaaDoor

/- StepsAdd: its row and its card. -/
namespace Go.Proofs.YtlnigpeoffaemaaDoor
open Go Go.Proofs.YtlnigpeoffaemaaDoor.Sx Go.ChangeShapes Go.WideShapes Go.ChangeAt Go.RowKit
set_option linter.unusedVariables false
theorem open_b {H : Type} {enc : TypeId × Value → H} {W : World} {r : Reach} {b0 base : Nat} {spare : Nat → Bool} {held : Bool} {v : Value} {d : DataW H} {ps : List MemPlace} (hval : Value.okWide Tryd.prog W r b0 4 v) (hd : DataW.Trod enc Tryd.prog W base spare held 4 v d ps) :
    ∃ b, v = .bool b := by
  obtain ⟨b, h, _⟩ := Go.RowKit.open_bool Tryd.underlying4 hval hd
  exact ⟨b, h⟩
set_option maxRecDepth 100000 in
theorem stepsAdd_lifted (os : Os) (started : os.Started) (H : Type) (enc : TypeId × Value → H) :
    ReturnsInHanded {} Tryd.checked os 7 .any (fun w args => (Rows.stepsAddSpec.pre enc Tryd.prog Tryd.f7 [] false w args ∧ laidMetH Tryd.prog laid1 w) ∧ sizedMet enc Tryd.prog Tryd.f7 (OpenSpec.ofChange Rows.stepsAddSpec) false w args)
      (Rows.stepsAddSpec.post enc Tryd.prog Tryd.f7 false true false false) := by
  refine returnsInHanded_of_change_and (C := Tryd.checked) (X := fun w _ => laidMetH Tryd.prog laid1 w) (fun _ _ _ hh h => h.of_heap hh) Tryd.own started (by kernel_rfl) Tryd.func7
    (ChangeSpec.witness_shaped (enc := enc) (C := Tryd.checked) (os := os) (X := fun w _ => laidMetH Tryd.prog laid1 w) false (World.doorLaid Tryd.prog 400 os) #[.slice none 0 0, .bool false, .slice none 0 0] 8 rfl (World.shaped_of_RefB (by kernel_rfl) (by kernel_rfl)) (by kernel_rfl) (by kernel_rfl) (by kernel_rfl) (door_met os _)) ?_
  intro W base args ds gs before hval0 hW _ _ hL _
  have hval : ∀ (j : Nat) t v, Tryd.f7.params[j]? = some t → args[j]? = some v → Value.okWide Tryd.prog W .any base t v := hval0
  have hW' := hW
  obtain ⟨p, q, hA0, hV, rfl, hfz, hnd⟩ := hW
  have hA : DataW.TrodAll enc Tryd.prog W 0 (fun _ => true) true Tryd.f7.params.toList args.toList ds p := hA0
  rw [Tryd.params7] at hA hval
  obtain ⟨v0, v1, v2, d0, d1, d2, p0, p1, p2, rfl, rfl, rfl, h0, h1, h2⟩ := trodAll_three hA
  obtain ⟨rfl, rfl⟩ := trodVars_none hV
  obtain ⟨f, rfl⟩ := open_b (hval 1 4 v1 rfl rfl) h1
  clear hA0 hval0
  have hlt0 : ∀ x ∈ p0, x.block < W.heap.size := fun x hx => by simpa using hW'.lt x (by simp [hx])
  have hlt1 : ∀ x ∈ p1, x.block < W.heap.size := fun x hx => by simpa using hW'.lt x (by simp [hx])
  have hlt2 : ∀ x ∈ p2, x.block < W.heap.size := fun x hx => by simpa using hW'.lt x (by simp [hx])
  obtain ⟨e0, he, hr0⟩ := of_laid hL
  have fin : ∀ e W', Said ⟨W, fun _ => False⟩ e W' → ∃ v, e = .returned v ∧ Rows.stepsAddSpec.post enc Tryd.prog Tryd.f7 false true false false W #[v0, .bool f, v2] v W' := by
    rintro e W' ⟨rfl, hsz, hk, hc⟩
    have hk' : ∀ x, x < W.heap.size → W'.heap[x]? = W.heap[x]? := fun x hx => hk x hx (fun h => h)
    refine ⟨_, rfl, _, _, _, [], _, [], hW', ⟨[], [], shut_bool Tryd.underlying4 true, rfl, rfl⟩, trodAll_mk3 (trod_same Tryd.laidOut (by kernel_rfl) (of_decide_eq_true (by kernel_rfl)) h0 hk' hlt0) (trod_same Tryd.laidOut (by kernel_rfl) (of_decide_eq_true (by kernel_rfl)) h1 hk' hlt1) (trod_same Tryd.laidOut (by kernel_rfl) (of_decide_eq_true (by kernel_rfl)) h2 hk' hlt2), rfl, keptBut_of _ hc hk', fun h => by cases h⟩
  obtain ⟨xs, cap, e1, hr1, hd1⟩ := open_sli encU8 Tryd.underlying22 (by kernel_rfl) open_u8 rfl (hval 0 22 v0 rfl rfl) h0
  obtain ⟨ys, cap', e2, hr2, hd2⟩ := open_sli (encInt .i64) Tryd.underlying23 (by kernel_rfl) open_i64 rfl (hval 2 23 v2 rfl rfl) h2
  obtain ⟨hr3, hn3⟩ := ro_add hr0 (by intro b hb e; rw [List.mem_singleton.1 hb]; rfl) rfl hr1
  obtain ⟨hr, _⟩ := ro_add hr3 hn3 rfl hr2
  have hv : Den ([e0, e1] ++ [e2]) (timesV ⟨xs, cap, ys, cap'⟩ 1) v0 := den_wide (den_add (env := [e0]) (n := 1) hd1 rfl)
  have hv' : Den ([e0, e1] ++ [e2]) (picksV ⟨xs, cap, ys, cap'⟩ 2) v2 := den_add (env := [e0, e1]) (n := 2) hd2 rfl
  exact (stepsAdd_call (p := ⟨xs, cap, ys, cap'⟩) (b := f) he hr hv hv').mono fun e W' h => fin e W' h
theorem stepsAdd_row : Rows.StepsAddSaid :=
  OpenClaim.holds_of_wide 7 Tryd.f7 rfl rfl rfl rfl rfl rfl rfl ⟨rfl, rfl, rfl, rfl, rfl⟩ rfl rfl rfl rfl rfl (by kernel_rfl) Tryd.func7 (by kernel_rfl)
    (of_decide_eq_true (by kernel_rfl)) (by unfold Func.isWrapper; first | (rw [if_pos (by decide +kernel)]; kernel_rfl) | (rw [if_neg (by decide +kernel)]; exact ⟨rfl, rfl⟩))
    (fun os started H enc _ => stepsAdd_lifted os started H enc)
theorem stepsAdd_holds : Rows.StepsAddCardSaid :=
  Claim7.holds_tied_plain_at .later [] [.data] true _ _ stepsAdd_row (fun _ h => by cases h) (by kernel_rfl) (fun _ h => by cases h) stepsAdd_row_tie rfl ⟨rfl, rfl⟩ (by kernel_rfl) rfl
    (fun f fn hf hfn => by
      obtain rfl : f = 7 := Option.some.inj ((show Tryd.prog.funcNamed "purlin/purlinlaw08.StepsAdd" = some 7 by kernel_rfl).symm.trans hf) |>.symm
      obtain rfl : fn = Tryd.f7 := (Option.some.inj (Tryd.func7.symm.trans hfn)).symm
      exact ⟨by kernel_rfl, fun j t ht => by
        rw [Tryd.params7] at ht
        have hm : t ∈ [22, 4, 23] := by simpa using Array.mem_of_getElem? ht
        have hall : ([22, 4, 23].all fun u => !Tryd.prog.wantsStandIn u) = true := by kernel_rfl
        exact (show Tryd.prog.wantsStandIn t = false by simpa using List.all_eq_true.1 hall t hm)⟩)
    (by kernel_rfl)
end Go.Proofs.YtlnigpeoffaemaaDoor

