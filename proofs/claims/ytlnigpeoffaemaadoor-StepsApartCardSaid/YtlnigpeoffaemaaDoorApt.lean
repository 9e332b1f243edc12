/- StepsApart: a task changes no word but its own, and what it does to that hangs on nobody who works on others. -/
import Derived.Test.YtlnigpeoffaemaaDoorTsk
import Derived.Test.YtlnigpeoffaemaaDoorSxC
import Derived.Test.YtlnigpeoffaemaaDoorCards
import Derived.Test.YtlnigpeoffaemaaDoorTie
import Derived.ProofKit
import Derived.LaidMore
import Derived.OpenShut
import Derived.Stop.Joined
/- StepsLose: pieces and states. -/
namespace Go.Proofs.YtlnigpeoffaemaaDoor
open Go Go.Proofs.YtlnigpeoffaemaaDoor.Sx
set_option linter.unusedVariables false
/-- a byte -/
structure U8 where
  v : Int
  h : 0 ≤ v ∧ v ≤ 255
def encU8 : Enc U8 := encOf 0 (fun x => [.int .u8 x.v]) ⟨0, by omega⟩ (fun _ => rfl) (by intro env env' x vs h; simpa [DenL, Den] using h)
/-- tasks, the last one of which may be no member of a family yet -/
def encTsN (a b o : Nat) : Enc (Bool × Option Nat) where
  tag := .other
  shut := false
  shutOk := by simp
  sz := 1
  enc x := match x with
    | (k, some i) => [.sw k (.ifc 84 (.pto a i 0)) (.ifc 74 (.pto b i 0))]
    | (k, none) => [.sw k (.ifc 84 (.ptr o 0)) (.ifc 74 (.ptr o 0))]
  dec l := match l with
    | [.ifc t (.ptr i j)] => match Nat.decEq i o, Nat.decEq j 0 with
      | .isTrue _, .isTrue _ => match Nat.decEq t 84, Nat.decEq t 74 with
        | .isTrue _, _ => some (true, none)
        | _, .isTrue _ => some (false, none)
        | _, _ => none
      | _, _ => none
    | _ => none
  dflt := (false, none)
  top := some (max (max a b) o + 1)
  topOk := by
    intro k hk m hm x
    simp only [Option.some.injEq] at hk; subst hk
    have e1 := idx_pref hm (show a < max (max a b) o + 1 by omega)
    have e2 := idx_pref hm (show b < max (max a b) o + 1 by omega)
    have e3 := idx_pref hm (show o < max (max a b) o + 1 by omega)
    match x with
    | (k, some i) => simp [renL, ren, e1, e2]
    | (k, none) => simp [renL, ren, e3]
  pos := by omega
  len x := by match x with
    | (k, some i) => rfl
    | (k, none) => rfl
  ok := by
    intro env l x vs h hd
    split at h
    · split at h
      · rename_i h1 h2 _ _
        subst h1 h2
        split at h
        · rename_i _ _ h3 _
          subst h3
          simp only [Option.some.injEq] at h; subst h
          obtain ⟨u, us, rfl, h4, h5⟩ := hd
          exact ⟨u, us, rfl, .inl ⟨rfl, h4⟩, h5⟩
        · rename_i _ _ h3 _ _
          subst h3
          simp only [Option.some.injEq] at h; subst h
          obtain ⟨u, us, rfl, h4, h5⟩ := hd
          exact ⟨u, us, rfl, .inr ⟨rfl, h4⟩, h5⟩
        · cases h
      · cases h
    · cases h
abbrev someT (ts : List (Bool × Nat)) : List (Bool × Option Nat) := ts.map fun t => (t.1, some t.2)
theorem someT_den {env : Env} {o : Nat} {ts : List (Bool × Nat)} {cs : List Value} (h : DenL env (ts.flatMap (encTs 3 4).enc) cs) : DenL env ((someT ts).flatMap (encTsN 3 4 o).enc) cs := by
  rw [List.flatMap_map]; exact h
theorem tsN_tw {env : Env} {o k : Nat} (hp : ∀ v, Den env (.ptr o 0) v → Den env (.pto 4 k 0) v) {ts : List (Bool × Nat)} {cs : List Value} (h : DenL env ((someT ts ++ [(false, none)]).flatMap (encTsN 3 4 o).enc) cs) :
    DenL env ((ts ++ [(false, k)]).flatMap (encTs 3 4).enc) cs := by
  rw [List.flatMap_append, List.flatMap_map] at h
  rw [List.flatMap_append]
  obtain ⟨us, vs, rfl, h1, h2⟩ := denL_split h
  refine denL_append h1 ?_
  obtain ⟨u, us', rfl, h3, h4⟩ := h2
  refine ⟨u, us', rfl, ?_, h4⟩
  rcases h3 with ⟨h5, _⟩ | ⟨_, w, rfl, h6⟩
  · cases h5
  · exact .inr ⟨rfl, w, rfl, hp _ h6⟩
theorem tsN_ad {env : Env} {o k : Nat} (hp : ∀ v, Den env (.ptr o 0) v → Den env (.pto 3 k 0) v) {ts : List (Bool × Nat)} {cs : List Value} (h : DenL env ((someT ts ++ [(true, none)]).flatMap (encTsN 3 4 o).enc) cs) :
    DenL env ((ts ++ [(true, k)]).flatMap (encTs 3 4).enc) cs := by
  rw [List.flatMap_append, List.flatMap_map] at h
  rw [List.flatMap_append]
  obtain ⟨us, vs, rfl, h1, h2⟩ := denL_split h
  refine denL_append h1 ?_
  obtain ⟨u, us', rfl, h3, h4⟩ := h2
  refine ⟨u, us', rfl, ?_, h4⟩
  rcases h3 with ⟨_, w, rfl, h6⟩ | ⟨h5, _⟩
  · exact .inl ⟨rfl, w, rfl, hp _ h6⟩
  · cases h5
/-- what comes in -/
structure In8 where
  times : List U8
  cap : Nat
  picks : List Int
  cap' : Nat
abbrev timesV (p : In8) (i : Nat) : SVal := .sli i (.c 0) 1 (.v p.times.length) (some (.v p.cap))
abbrev picksV (p : In8) (i : Nat) : SVal := .sli i (.c 0) 1 (.v p.picks.length) (some (.v p.cap'))
abbrev s0 (p : In8) : St := [lookB, .ro encU8 p.times, .ro (encInt .i64) p.picks]
/-- in the loop that makes tasks -/
abbrev sMk (p : In8) (xs : List Ad) (ys : List Tw) (ts : List (Bool × Nat)) : St := famS 1 [0] 0 xs ys ++ [.ro encU8 p.times, .ro (encInt .i64) p.picks, .vec (encTs 3 4) ts 44]
abbrev sMn (p : In8) (xs : List Ad) (ys : List Tw) (ts : List (Bool × Option Nat)) : St := famS 1 [0] 0 xs ys ++ [.ro encU8 p.times, .ro (encInt .i64) p.picks, .vec (encTsN 3 4 8) ts 44]
noncomputable def b6 : Code := Tryd.f6.body.getD .skip
noncomputable def c6 : Code := restC 4 b6
noncomputable def reg6 : Code := lft (lft c6)
noncomputable def blk6 : Code := rgt (lft c6)
noncomputable def round6 : Code := lft (lft blk6)
noncomputable def tm6 : Code := lft round6
noncomputable def bb6 : Code := lft (lft (rgt round6))
noncomputable def inc6 : Code := rgt (rgt round6)
noncomputable def d6 : Code := rgt c6
noncomputable def e6 : Code := restC 2 d6
noncomputable def reg6b : Code := lft (lft e6)
noncomputable def blk6b : Code := rgt (lft e6)
noncomputable def round6b : Code := lft (lft blk6b)
noncomputable def tm6b : Code := lft round6b
noncomputable def bb6b : Code := lft (lft (rgt round6b))
noncomputable def inc6b : Code := rgt (rgt round6b)
noncomputable def f6' : Code := rgt e6
abbrev n6a : List Nat := [0, 1, 5, 7, 8]
abbrev n6p : List Nat := [0, 1, 5, 7, 8, 4]
abbrev n6b : List Nat := [0, 1, 5, 7, 8, 9]
abbrev n6n : List Nat := [54, 0, 1, 5, 7, 8, 9]
abbrev v6 (p : In8) (m : Nat) (sum : Int) : List SVal := [timesV p 5, picksV p 6, .ptr 1 0, .sli 7 (.c 0) 1 (.v m) none, .int .u32 sum]
end Go.Proofs.YtlnigpeoffaemaaDoor

/- StepsLose: its configuration. -/
namespace Go.Proofs.YtlnigpeoffaemaaDoor
open Go Go.Proofs.YtlnigpeoffaemaaDoor.Sx
set_option linter.unusedVariables false
noncomputable def cfgL : Cfg := { P := Tryd.prog, ex := exI, gl := [(0, 0)], sm := fun f => match f with | 10 => some (smClosed [0] [lookB] (.bl true)) | 11 => some smNew | _ => none }
theorem cfgL_ok : SmOk cfgL := by
  intro f g h
  simp only [cfgL] at h
  split at h
  · simp only [Option.some.injEq] at h; subst h
    exact smClosedE_ok cfg0_ok awake_val ⟨new0, new1, rfl, rfl, rfl, rfl, rfl, rfl, rfl, rfl, rfl, rfl, rfl, rfl, rfl, rfl, rfl, trivial⟩ (by kernel_rfl) rfl rfl (by intro b hb e; rw [List.mem_singleton.1 hb]; rfl)
  · simp only [Option.some.injEq] at h; subst h
    exact smAny_ok cfgN_ok (by kernel_rfl) new_sel
  · cases h
end Go.Proofs.YtlnigpeoffaemaaDoor

namespace Go.Proofs.YtlnigpeoffaemaaDoor
open Go Go.Proofs.YtlnigpeoffaemaaDoor.Sx
set_option linter.unusedVariables false
set_option maxRecDepth 100000 in
theorem t6_pre {p : In8} : (execN cfgL 100 4 b6 ([timesV p 1, picksV p 2] ++ List.replicate 107 .bad) (s0 p)).bind (canonK 0 [(0,0)] 109 n6p) =
 

 (.eq (some [Blk.ro encLook [PUnit.unit]] = some [Blk.ro encLook [PUnit.unit]])

 (.br (decide ((6 : Int) < (↑p.1.length : Int)))

 (.eq (some [Blk.ro encLook [PUnit.unit]] = some [Blk.ro encLook [PUnit.unit]])

 (.ret (.ret, [.sli 1 (.c 0) 1 (.v p.1.length) (some (.v p.2)), .sli 2 (.c 0) 1 (.v p.3.length) (some (.v p.4)), .ptr 3 0, .bad, .bad, .bl true], [.ro encLook [PUnit.unit], .ro encU8 p.1, .ro (encInt IntKind.i64) p.3, .own [.c (.sli 4 (.c 0) 1 (.c 1) (some (.c 1))), .c (.lit .i64 (0 : Int))] 67, .own [.c (.lit .u32 (0 : Int))] 45])))

 (.ret (.normal, [.sli 1 (.c 0) 1 (.v p.1.length) (some (.v p.2)), .sli 2 (.c 0) 1 (.v p.3.length) (some (.v p.4)), .ptr 3 0, .sli 5 (.c 0) 1 (.c 0) (some (.c 0)), .lit .u32 (0 : Int), .bl false], [.ro encLook [PUnit.unit], .ro encU8 p.1, .ro (encInt IntKind.i64) p.3, .own [.c (.sli 4 (.c 0) 1 (.c 1) (some (.c 1))), .c (.lit .i64 (0 : Int))] 67, .own [.c (.lit .u32 (0 : Int))] 45, .own [] 44])))) := by kernel_rfl
set_option maxRecDepth 100000 in
theorem t6_reg {p : In8} {xs : List Ad} {ys : List Tw} {ts : List (Bool × Nat)} {sum : Int} : (exec cfgM 100 reg6 (fr 109 n6a (v6 p ts.length sum)) (sMk p xs ys ts)).bind (canonK 7 [(0,0)] 109 n6b) =
 

 (.ret (.normal, [.sli 5 (.c 0) 1 (.v p.1.length) (some (.v p.2)), .sli 6 (.c 0) 1 (.v p.3.length) (some (.v p.4)), .ptr 1 0, .sli 7 (.c 0) 1 (.v ts.length) none, .int .u32 sum, .lit .i64 (0 : Int)], [.ro encLook [PUnit.unit], .own [.c (.sli 2 (.c 0) 1 (.v 1) (some (.v 1))), .c (.int .i64 (0 : Int))] 67, .own [.a (encInt IntKind.u32) 1 [(0 : Int)]] 45, .many encAd xs 86, .many encTw ys 78, .ro encU8 p.1, .ro (encInt IntKind.i64) p.3, .vec (encTs 3 4) ts 44])) := by kernel_rfl
set_option maxRecDepth 100000 in
theorem t6_tm {p : In8} {xs : List Ad} {ys : List Tw} {ts : List (Bool × Nat)} {sum : Int} {i : Nat} : (exec cfgM 100 tm6 (fr 109 n6b (v6 p ts.length sum ++ [.int .i64 (i : Nat)])) (sMk p xs ys ts)).bind (canonK 7 [(0,0)] 109 n6b) =
 

 (.br (decide ((↑i : Int) < (↑p.1.length : Int)))

 (.ret (.normal, [.sli 5 (.c 0) 1 (.v p.1.length) (some (.v p.2)), .sli 6 (.c 0) 1 (.v p.3.length) (some (.v p.4)), .ptr 1 0, .sli 7 (.c 0) 1 (.v ts.length) none, .int .u32 sum, .int .i64 (↑i : Int)], [.ro encLook [PUnit.unit], .own [.c (.sli 2 (.c 0) 1 (.v 1) (some (.v 1))), .c (.int .i64 (0 : Int))] 67, .own [.a (encInt IntKind.u32) 1 [(0 : Int)]] 45, .many encAd xs 86, .many encTw ys 78, .ro encU8 p.1, .ro (encInt IntKind.i64) p.3, .vec (encTs 3 4) ts 44]))

 (.ret (.exit 0, [.sli 5 (.c 0) 1 (.v p.1.length) (some (.v p.2)), .sli 6 (.c 0) 1 (.v p.3.length) (some (.v p.4)), .ptr 1 0, .sli 7 (.c 0) 1 (.v ts.length) none, .int .u32 sum, .int .i64 (↑i : Int)], [.ro encLook [PUnit.unit], .own [.c (.sli 2 (.c 0) 1 (.v 1) (some (.v 1))), .c (.int .i64 (0 : Int))] 67, .own [.a (encInt IntKind.u32) 1 [(0 : Int)]] 45, .many encAd xs 86, .many encTw ys 78, .ro encU8 p.1, .ro (encInt IntKind.i64) p.3, .vec (encTs 3 4) ts 44]))) := by kernel_rfl
set_option maxRecDepth 100000 in
theorem t6_mk {p : In8} {xs : List Ad} {ys : List Tw} {ts : List (Bool × Option Nat)} {sum : Int} {i : Nat} : (exec cfgM 100 bb6 (fr 109 n6b (v6 p ts.length sum ++ [.int .i64 (i : Nat)])) (sMn p xs ys ts)).bind (canonK 7 [(0,0)] 109 n6n) =
 

 (.need (decide ((0 : Int) ≤ (↑i : Int)) && decide ((↑i : Int).toNat < p.1.length))

 (.need (decide ((↑i : Int).toNat < p.1.length))

 (.need (inR .u32 (p.1.getD (↑i : Int).toNat { v := (0 : Int), h := encU8._proof_2 }).v)

 (.need (true)

 (.need (inR .i64 ((p.1.getD (↑i : Int).toNat { v := (0 : Int), h := encU8._proof_2 }).v.tmod (12 : Int)))

 (.need (true)

 (.need (decide (ts.length = ts.length))

 (.need (roomy (ts.length + 1) 16)

 (.ret (.normal, [.ifc 74 (.ptr 7 0), .sli 5 (.c 0) 1 (.v p.1.length) (some (.v p.2)), .sli 6 (.c 0) 1 (.v p.3.length) (some (.v p.4)), .ptr 1 0, .sli 8 (.c 0) 1 (.v (ts.length + 1)) none, .int .u32 (IntKind.u32.wrap (sum + (p.1.getD (↑i : Int).toNat { v := (0 : Int), h := encU8._proof_2 }).v.tmod (12 : Int))), .int .i64 (↑i : Int)], [.ro encLook [PUnit.unit], .own [.c (.sli 2 (.c 0) 1 (.v 1) (some (.v 1))), .c (.int .i64 (0 : Int))] 67, .own [.a (encInt IntKind.u32) 1 [(0 : Int)]] 45, .many encAd xs 86, .many encTw ys 78, .ro encU8 p.1, .ro (encInt IntKind.i64) p.3, .own [.c (.lit .i64 (0 : Int)), .c (.int .i64 ((p.1.getD (↑i : Int).toNat { v := (0 : Int), h := encU8._proof_2 }).v.tmod (12 : Int))), .c (.bl false), .c (.lit .u32 (0 : Int)), .c (SVal.fn (Fn.func 27) [] [])] 78, .vec (encRow 0) (renRows [0, 1, 2, 3, 4, 5, 6, 8, 10] (encTsN 3 4 8) (ts ++ [(false, none)])) 44])))))))))) := by kernel_rfl
set_option maxRecDepth 100000 in
theorem t6_inc {p : In8} {xs : List Ad} {ys : List Tw} {ts : List (Bool × Nat)} {sum : Int} {i : Nat} : (exec cfgM 100 inc6 (fr 109 n6b (v6 p ts.length sum ++ [.int .i64 (i : Nat)])) (sMk p xs ys ts)).bind (canonK 7 [(0,0)] 109 n6b) =
 

 (.need (inR .i64 ((↑i : Int) + (1 : Int)))

 (.ret (.normal, [.sli 5 (.c 0) 1 (.v p.1.length) (some (.v p.2)), .sli 6 (.c 0) 1 (.v p.3.length) (some (.v p.4)), .ptr 1 0, .sli 7 (.c 0) 1 (.v ts.length) none, .int .u32 sum, .int .i64 ((↑i : Int) + (1 : Int))], [.ro encLook [PUnit.unit], .own [.c (.sli 2 (.c 0) 1 (.v 1) (some (.v 1))), .c (.int .i64 (0 : Int))] 67, .own [.a (encInt IntKind.u32) 1 [(0 : Int)]] 45, .many encAd xs 86, .many encTw ys 78, .ro encU8 p.1, .ro (encInt IntKind.i64) p.3, .vec (encTs 3 4) ts 44]))) := by kernel_rfl
set_option maxRecDepth 100000 in
theorem t6_new {p : In8} {xs : List Ad} {ys : List Tw} {ts : List (Bool × Nat)} {sum : Int} {i : Nat} : (execN cfgL 100 2 d6 (fr 109 n6b (v6 p ts.length sum ++ [.int .i64 (i : Nat)])) (sMk p xs ys ts)).bind (canonK 7 [(0,0)] 109 [0, 1, 5, 8, 11]) =
 

 (.eq (anyP cfgN 100 11 [.ptr 1 0, .sli 7 (.c 0) 1 (.v ts.length) none] [.ro encLook [PUnit.unit], .own [.c (.sli 2 (.c 0) 1 (.v 1) (some (.v 1))), .c (.int .i64 (0 : Int))] 67, .own [.a (encInt IntKind.u32) 1 [(0 : Int)]] 45, .many encAd xs 86, .many encTw ys 78, .ro encU8 p.1, .ro (encInt IntKind.i64) p.3, .vec (encTs 3 4) ts 44])

 (.need (decide (0 + ts.length ≤ ts.length))

 (.need (decide (0 + ts.length ≤ ts.length))

 (.need (roomy (List.take ts.length (List.drop 0 ts)).length 16)

 (.need (decide ((0 : Int) ≤ (↑ts.length : Int)))

 (.need (decide ((↑ts.length : Int) * (1 : Int) ≤ (140737488355328 : Int)))

 (.need (decide ((↑ts.length : Int) ≤ (4611686018427387904 : Int)))

 (.ret (.normal, [.sli 5 (.c 0) 1 (.v p.1.length) (some (.v p.2)), .sli 6 (.c 0) 1 (.v p.3.length) (some (.v p.4)), .ptr 1 0, .int .u32 sum, .ptr 7 0], [.ro encLook [PUnit.unit], .own [.c (.sli 2 (.c 0) 1 (.v 1) (some (.v 1))), .c (.int .i64 (0 : Int))] 67, .own [.a (encInt IntKind.u32) 1 [(0 : Int)]] 45, .many encAd xs 86, .many encTw ys 78, .ro encU8 p.1, .ro (encInt IntKind.i64) p.3, .own [.c (.ptr 1 0), .c (.sli 8 (.c 0) 1 (.v (List.take ts.length (List.drop 0 ts)).length) none), .c (.sli 9 (.c 0) 1 (.v (↑ts.length : Int).toNat) (some (.v (↑ts.length : Int).toNat)))] 70, .vec (encTs 3 4) (List.take ts.length (List.drop 0 ts)) 44, .own [.a encBool (↑ts.length : Int).toNat (List.replicate (↑ts.length : Int).toNat false)] 4]))))))))) := by kernel_rfl
end Go.Proofs.YtlnigpeoffaemaaDoor

/- StepsLose: the making of tasks. -/
namespace Go.Proofs.YtlnigpeoffaemaaDoor
open Go Go.Proofs.YtlnigpeoffaemaaDoor.Sx
set_option linter.unusedVariables false
def mkTw (u : U8) : Tw := ⟨0, u.v.tmod 12, false, 0, false⟩
def ysAt (p : In8) (i : Nat) : List Tw := (p.times.take i).map mkTw
def sumW (ys : List Tw) : Int := (ys.map (·.times)).sum
def tsB (i : Nat) : List (Bool × Nat) := (List.range i).map fun j => (false, j)
theorem tsB_len (i : Nat) : (tsB i).length = i := by simp [tsB]
theorem tsB_succ (i : Nat) : tsB (i + 1) = tsB i ++ [(false, i)] := by simp [tsB, List.range_succ]
theorem tmod12 (u : U8) : 0 ≤ u.v.tmod 12 ∧ u.v.tmod 12 ≤ 11 := by
  have := u.h
  rw [Int.tmod_eq_emod_of_nonneg this.1]; omega
theorem ysAt_len {p : In8} {i : Nat} (h : i ≤ p.times.length) : (ysAt p i).length = i := by simp [ysAt]; omega
theorem ysAt_succ {p : In8} {i : Nat} (h : i < p.times.length) : ysAt p (i + 1) = ysAt p i ++ [mkTw (p.times.getD i encU8.dflt)] := by
  unfold ysAt
  rw [List.take_add_one, List.map_append]
  simp [List.getD_eq_getElem?_getD, h]
theorem sumW_succ {p : In8} {i : Nat} (h : i < p.times.length) : sumW (ysAt p (i + 1)) = sumW (ysAt p i) + (p.times.getD i encU8.dflt).v.tmod 12 := by
  rw [ysAt_succ h, sumW, List.map_append, List.sum_append]
  simp [sumW, mkTw]
theorem w32_small {x : Int} (h : 0 ≤ x) (h' : x < 4294967296) : IntKind.u32.wrap x = x := wrap_inR (by rw [inR_u32]; omega)
theorem sumW_le {p : In8} : ∀ {i : Nat}, 0 ≤ sumW (ysAt p i) ∧ sumW (ysAt p i) ≤ 11 * i := by
  intro i
  have h : ∀ l : List U8, 0 ≤ ((l.map mkTw).map (·.times)).sum ∧ ((l.map mkTw).map (·.times)).sum ≤ 11 * l.length := by
    intro l
    induction l with
    | nil => simp
    | cons u l ih =>
      have := tmod12 u
      simp only [List.map_cons, List.sum_cons, mkTw, List.length_cons] at ih ⊢
      push_cast
      omega
  have := h (p.times.take i)
  have hl : (p.times.take i).length ≤ i := by simp; omega
  unfold sumW ysAt
  constructor
  · exact this.1
  · have := this.2; omega
abbrev Q6 (w0 : From) : Exit → Act → World → Prop := bodyPost Tryd.prog Tryd.f6 (Said w0)
def InvL (w0 : From) (p : In8) (i : Nat) (a : Act) (w : World) : Prop :=
  i ≤ p.times.length ∧ ∃ env, AtK [] [(0, 0)] w0 env (fr 109 n6b (v6 p i (sumW (ysAt p i)) ++ [.int .i64 (i : Nat)])) (sMk p [] (ysAt p i) (tsB i)) a w
abbrev RL (w0 : From) (p : In8) (i : Nat) : Exit → Act → World → Prop :=
  Exit.then (fun a' w' => ∃ k, InvL w0 p k a' w' ∧ p.times.length - k < p.times.length - i) (Exit.inBlock 0 (Exit.then (d6.wp Tryd.prog (Q6 w0)) (Q6 w0)))
theorem encN_ren (x : Bool × Option Nat) : renL [0, 1, 2, 3, 4, 5, 6, 8, 10] ((encTsN 3 4 8).enc x) = (encTsN 3 4 7).enc x := by
  match x with
  | (k, some i) => rfl
  | (k, none) => rfl
set_option maxHeartbeats 1000000 in
theorem roundL_ok {w0 : From} {p : In8} (h6 : p.times.length ≤ 6)
    (hd : ∀ {env : Env} {a : Act} {w : World}, AtK [] [(0, 0)] w0 env (fr 109 n6b (v6 p p.times.length (sumW (ysAt p p.times.length)) ++ [.int .i64 (p.times.length : Nat)])) (sMk p [] (ysAt p p.times.length) (tsB p.times.length)) a w → d6.wp Tryd.prog (Q6 w0) a w)
    {i : Nat} {a : Act} {w : World} (h : InvL w0 p i a w) : round6.wp Tryd.prog (RL w0 p i) a w := by
  obtain ⟨hi, env, hA⟩ := h
  refine wpS (by kernel_rfl) ?_
  have hlt := tsB_len i
  have hA' : AtK [] [(0, 0)] w0 env (fr 109 n6b (v6 p (tsB i).length (sumW (ysAt p i)) ++ [.int .i64 (i : Nat)])) (sMk p [] (ysAt p i) (tsB i)) a w := by rw [hlt]; exact hA
  refine pieceTK2 (c := cfgM) cfgM_ok n6b t6_tm (by simp) (by simp) hA' ?_
  refine all_brp (by simp only [decide_eq_true_eq]; exact Iff.rfl) (fun h1 => all_ret fun env1 a1 w1 hA1 => ?_) (fun h1 => all_ret fun env1 a1 w1 hA1 => ?_)
  · simp only [Ex.to, Exit.then]
    have hi' : i < p.times.length := by omega
    refine (show (rgt round6).wp Tryd.prog (RL w0 p i) a1 w1 from wpS (by kernel_rfl) (wpB 1 (by kernel_rfl) ?_))
    refine (show bb6.wp Tryd.prog (Exit.inBlock 1 (Exit.then (inc6.wp Tryd.prog (RL w0 p i)) (RL w0 p i))) a1 w1 from ?_)
    have hsl : (someT (tsB i)).length = (tsB i).length := by simp
    have hA2 : AtK [] [(0, 0)] w0 env1 (fr 109 n6b (v6 p (someT (tsB i)).length (sumW (ysAt p i)) ++ [.int .i64 (i : Nat)])) (sMn p [] (ysAt p i) (someT (tsB i))) a1 w1 := by
      rw [hsl]
      exact hA1.on fun h => h.typede 7 (E' := encTsN 3 4 8) (ys := someT (tsB i)) rfl (by simp) rfl (fun cs h => someT_den h)
    refine pieceTK2 (c := cfgM) cfgM_ok n6n t6_mk (by simp) (by simp) hA2 ?_
    have hs := sumW_succ hi'
    have hx := ysAt_succ hi'
    simp only [Int.toNat_natCast]
    rw [show encU8.dflt = (⟨0, by omega⟩ : U8) from rfl] at hs hx
    have hu := tmod12 (p.times.getD i ⟨0, by omega⟩)
    have hur := (p.times.getD i ⟨0, by omega⟩).h
    have hle := sumW_le (p := p) (i := i)
    refine all_needq (by simp only [decide_eq_true_eq, Bool.and_eq_true]; exact Iff.rfl) (by omega) ?_
    refine all_needq (by simp only [decide_eq_true_eq]; exact Iff.rfl) (by omega) ?_
    refine all_needq (by simp only [inR_u32]; exact Iff.rfl) (by omega) ?_
    refine all_need rfl fun _ => ?_
    refine all_needq (by simp only [inR_i64]; exact Iff.rfl) (by omega) ?_
    refine all_need rfl fun _ => ?_
    refine all_need (by simp) fun _ => ?_
    refine all_needq (by simp only [roomy_iff]; exact Iff.rfl) (by rw [hsl, hlt]; omega) ?_
    refine all_ret fun env2 a2 w2 hA3 => ?_
    rw [w32_small (by omega) (by omega), ← hs, hsl, hlt] at hA3
    have hA4 := hA3.on fun h => h.retype 8 (E := encTsN 3 4 8) rfl (encTsN 3 4 7) rfl encN_ren
    obtain ⟨env4, hA5, hj⟩ := hA4.join2 4 7 (by omega) (by simp) (E := encTw) (xs := ysAt p i) rfl rfl (mkTw (p.times.getD i ⟨0, by omega⟩)) (fun env cs h => by
      simpa [segCells, Seg.cells, encTw, encOf, mkTw, DenL, Den] using h)
    rw [ysAt_len (by omega)] at hj
    have hA6 := hA5.on fun h => h.typede 8 (E' := encTs 3 4) (ys := tsB i ++ [(false, i)]) rfl (by simp) rfl (fun cs h => tsN_tw (fun v => hj v 0) h)
    have hA7 := hA6.perm [0, 1, 2, 3, 4, 5, 6, 8] (by kernel_rfl) (by kernel_rfl) (st' := sMk p [] (ysAt p (i + 1)) (tsB (i + 1))) (vals' := .ifc 74 .bad :: (v6 p (i + 1) (sumW (ysAt p (i + 1))) ++ [SVal.int .i64 (i : Nat)])) (by rw [hx, tsB_succ]; rfl) rfl rfl
    have hA8 := hA7.on fun h => h.drop1 rfl
    simp only [Ex.to, Exit.inBlock, Exit.then]
    have hlt1 := tsB_len (i + 1)
    refine (show inc6.wp Tryd.prog (RL w0 p i) a2 w2 from ?_)
    obtain ⟨envZ, hA9⟩ : ∃ envZ, AtK [] [(0, 0)] w0 envZ (fr 109 n6b (v6 p (tsB (i + 1)).length (sumW (ysAt p (i + 1))) ++ [.int .i64 (i : Nat)])) (sMk p [] (ysAt p (i + 1)) (tsB (i + 1))) a2 w2 := ⟨_, by rw [hlt1]; exact hA8⟩
    refine pieceTK2 (c := cfgM) cfgM_ok n6b t6_inc (by simp) (by simp) hA9 ?_
    refine all_needp (by simp only [inR_i64]; exact Iff.rfl) (by omega) fun _ => all_ret fun env' a' w' hA9 => ?_
    refine ⟨i + 1, ⟨by omega, env', ?_⟩, by omega⟩
    rw [hlt1] at hA9
    exact hA9
  · have : i = p.times.length := by omega
    subst this
    simp only [Ex.to, Exit.then, Exit.inBlock, if_true]
    rw [hlt] at hA1
    exact hd hA1
end Go.Proofs.YtlnigpeoffaemaaDoor

/- StepsLose, plain: of tasks that load and store something may get lost, but not all. -/
namespace Go.Proofs.YtlnigpeoffaemaaDoor
open Go Go.Proofs.YtlnigpeoffaemaaDoor.Sx
set_option linter.unusedVariables false
theorem w32_mod (x : Int) : IntKind.u32.wrap x = x % 4294967296 := by
  simp [IntKind.wrap, IntKind.signed, IntKind.bits]
theorem low_u32 (x : Int) : ((low .u32 x : Nat) : Int) = x % 4294967296 := by
  have : 0 ≤ x % 4294967296 := by omega
  simp only [low, IntKind.bits]
  omega
theorem low_lt (x : Int) : low .u32 x < 4294967296 := by
  have := low_u32 x
  omega
theorem and_mask (x : Int) : bitop .and .u32 x 4294967295 = x % 4294967296 := by
  have h1 : low .u32 4294967295 = 2 ^ 32 - 1 := by decide
  have h2 := low_lt x
  simp only [bitop, h1, Nat.and_two_pow_sub_one_eq_mod, w32_mod]
  rw [Nat.mod_eq_of_lt (by omega), low_u32]
  omega
theorem and_zero (x : Int) : bitop .and .u32 x 0 = 0 := by
  have h1 : low .u32 0 = 0 := by decide
  simp only [bitop, h1, Nat.and_zero, w32_mod]
  rfl
theorem or_zero (x : Int) : bitop .or .u32 x 0 = x % 4294967296 := by
  have h1 : low .u32 0 = 0 := by decide
  simp only [bitop, h1, Nat.or_zero, w32_mod, low_u32]
  omega
theorem zero_or (x : Int) : bitop .or .u32 0 x = x % 4294967296 := by
  have h1 : low .u32 0 = 0 := by decide
  simp only [bitop, h1, Nat.zero_or, w32_mod, low_u32]
  omega
theorem incP_ok (x : Int) : incP x = (x + 1) % 4294967296 := by
  simp only [incP, and_mask, or_zero, w32_mod]; omega
theorem setP_ok (x v : Int) : setP x v = v % 4294967296 := by
  simp only [setP, and_zero, zero_or, w32_mod]; omega
theorem tsB_at {m i : Nat} (h : i < m) : tsAt (tsB m) i = (false, i) := by
  simp [tsAt, tsB, List.getD_eq_getElem?_getD, h]
theorem sumW_set : ∀ {ys : List Tw} {i : Nat} (h : i < ys.length) (y : Tw), sumW (ys.set i y) = sumW ys - (ys.getD i encTw.dflt).times + y.times
  | x :: ys, 0, _, y => by simp [sumW]; omega
  | x :: ys, i + 1, h, y => by
    have ih := sumW_set (ys := ys) (i := i) (by simpa using h) y
    simp only [sumW, List.set_cons_succ, List.map_cons, List.sum_cons, List.getD_cons_succ] at ih ⊢
    omega
theorem sumW_nonneg : ∀ {ys : List Tw}, (∀ i, i < ys.length → 0 ≤ (ys.getD i encTw.dflt).times) → 0 ≤ sumW ys
  | [], _ => by simp [sumW]
  | x :: ys, h => by
    have ih := sumW_nonneg (ys := ys) (fun i hi => h (i + 1) (by simpa using hi))
    have h0 := h 0 (by simp)
    simp only [sumW, List.map_cons, List.sum_cons, List.getD_cons_zero] at ih h0 ⊢
    omega
theorem sumW_zero : ∀ {ys : List Tw}, (∀ i, i < ys.length → (ys.getD i encTw.dflt).times = 0) → sumW ys = 0
  | [], _ => by simp [sumW]
  | x :: ys, h => by
    have ih := sumW_zero (ys := ys) (fun i hi => h (i + 1) (by simpa using hi))
    have h0 := h 0 (by simp)
    simp only [sumW, List.map_cons, List.sum_cons, List.getD_cons_zero] at ih h0 ⊢
    omega
/-- what holds of one task, where so many stores were made, and the word is so great -/
structure Lz (t : Tw) (d : Bool) (S w : Int) (m : Nat) : Prop where
  at' : t.at' = 0
  swap : t.swap = false
  times : 0 ≤ t.times ∧ t.times ≤ 11
  done : d = true → t.times = 0
  v : t.has = true → 1 ≤ t.times ∧ 0 ≤ t.v ∧ t.v ≤ S
  one : m = 1 → t.has = true → t.v = w
structure LInv (m : Nat) (T0 : Int) (s : Mc) : Prop where
  m6 : m ≤ 6
  ly : s.tw.length = m
  ld : s.ds.length = m
  lx : s.ad = []
  tot : T0 ≤ 66
  w : ∃ w, s.l = [w] ∧ 0 ≤ w ∧ w ≤ T0 - sumW s.tw ∧ (0 < T0 - sumW s.tw → 1 ≤ w) ∧ (m = 1 → w = T0 - sumW s.tw) ∧ ∀ i, i < m → Lz (twAt s i) (s.ds.getD i false) (T0 - sumW s.tw) w m
theorem linv_ok {m : Nat} {T0 : Int} {s : Mc} (h : LInv m T0 s) : McOk 1 m (tsB m) s := by
  obtain ⟨w, hw, _, _, _, _, hk⟩ := h.w
  refine ⟨by rw [hw]; rfl, tsB_len m, h.ld, fun i hi => ?_, fun i j hi hj e => ?_⟩
  · rw [tsB_at hi]
    exact ⟨by rw [h.ly]; exact hi, by have := (hk i hi).times; simp only; omega⟩
  · rw [tsB_at hi, tsB_at hj] at e
    exact (Prod.mk.inj e).2
/-- how many steps a task needs still -/
def remT (t : Tw) (d : Bool) : Nat := match d with
  | true => 0
  | false => if t.times < 1 then 1 else 2 * t.times.toNat - (if t.has then 1 else 0)
def remP (s : Mc) (i : Nat) : Nat := remT (twAt s i) (s.ds.getD i false)
/-- a pick of a task that isn't done -/
theorem pick_eq {m : Nat} {s : Mc} {i : Int} (hb : inP i m = true) (hd : s.ds.getD i.toNat false = false) : pickP m (tsB m) s i =
    ⟨(stepTw (twAt s i.toNat) s.l).2.1, usesTw (twAt s i.toNat) s.l s.c, s.ad, s.tw.set i.toNat (stepTw (twAt s i.toNat) s.l).1, s.ds.set i.toNat (stepTw (twAt s i.toNat) s.l).2.2⟩ := by
  have hb' := (inP_iff _ _).1 hb
  have ht : tsAt (tsB m) i.toNat = (false, i.toNat) := tsB_at (by omega)
  simp only [pickP, hb, hd, ht]
theorem pick_same {m : Nat} {s : Mc} {i : Int} (h : inP i m = false ∨ s.ds.getD i.toNat false = true) (ts : List (Bool × Nat)) : pickP m ts s i = s := by
  unfold pickP
  rcases h with h | h
  · rw [h]
  · split
    · rw [h]
    · rfl
theorem linv_pick {m : Nat} {T0 : Int} {s : Mc} (h : LInv m T0 s) (i : Int) : LInv m T0 (pickP m (tsB m) s i) ∧ ∀ j, j < m → (j = i.toNat → 0 ≤ i → remP (pickP m (tsB m) s i) j ≤ remP s j - 1) ∧ remP (pickP m (tsB m) s i) j ≤ remP s j := by
  by_cases hc : inP i m = false ∨ s.ds.getD i.toNat false = true
  · rw [pick_same hc]
    refine ⟨h, fun j hj => ⟨fun e h0 => ?_, Nat.le_refl _⟩⟩
    rcases hc with hc | hc
    · have := (not_congr (inP_iff _ _)).1 (by rw [hc]; simp)
      omega
    · subst e
      simp only [remP, hc, remT]; omega
  · have hb : inP i m = true := by
      cases hq : inP i m with
      | true => rfl
      | false => exact absurd (.inl hq) hc
    have hd : s.ds.getD i.toNat false = false := by
      cases hq : s.ds.getD i.toNat false with
      | false => rfl
      | true => exact absurd (.inr hq) hc
    have hb' := (inP_iff _ _).1 hb
    have hi : i.toNat < m := by omega
    rw [pick_eq hb hd]
    obtain ⟨h1, h2, h3, h4, h5, w, hw, w0, w1, w2, w3, hk⟩ := h
    generalize hii : i.toNat = k at *
    have hz := hk k hi
    have hT := hz.times
    have hsum0 : 0 ≤ sumW s.tw := sumW_nonneg (fun j hj => (hk j (by omega)).times.1)
    have keep : ∀ (t' : Tw) (d' : Bool) (l' : List Int) (c' : Int) (j : Nat), j ≠ k → twAt ⟨l', c', s.ad, s.tw.set k t', s.ds.set k d'⟩ j = twAt s j ∧ (s.ds.set k d').getD j false = s.ds.getD j false := by
      intro t' d' l' c' j hj
      exact ⟨Sx.getD_set_ne (fun e => hj e.symm) _ _, Sx.getD_set_ne (fun e => hj e.symm) _ _⟩
    have self : ∀ (t' : Tw) (d' : Bool) (l' : List Int) (c' : Int), twAt ⟨l', c', s.ad, s.tw.set k t', s.ds.set k d'⟩ k = t' ∧ (s.ds.set k d').getD k false = d' := by
      intro t' d' l' c'
      exact ⟨Sx.getD_set_self (by omega) _ _, Sx.getD_set_self (by omega) _ _⟩
    have hss : ∀ t' : Tw, sumW (s.tw.set k t') = sumW s.tw - (twAt s k).times + t'.times := fun t' => sumW_set (by omega) t'
    have main : ∀ (t' : Tw) (l' : List Int) (d' : Bool) (c' : Int), stepTw (twAt s k) s.l = (t', l', d') → remT t' d' ≤ remT (twAt s k) false - 1 →
        (∃ w', l' = [w'] ∧ 0 ≤ w' ∧ w' ≤ T0 - sumW (s.tw.set k t') ∧ (0 < T0 - sumW (s.tw.set k t') → 1 ≤ w') ∧ (m = 1 → w' = T0 - sumW (s.tw.set k t')) ∧ T0 - sumW s.tw ≤ T0 - sumW (s.tw.set k t') ∧ Lz t' d' (T0 - sumW (s.tw.set k t')) w' m) →
        LInv m T0 ⟨l', c', s.ad, s.tw.set k t', s.ds.set k d'⟩ ∧ ∀ j, j < m → (j = k → 0 ≤ i → remP ⟨l', c', s.ad, s.tw.set k t', s.ds.set k d'⟩ j ≤ remP s j - 1) ∧ remP ⟨l', c', s.ad, s.tw.set k t', s.ds.set k d'⟩ j ≤ remP s j := by
      intro t' l' d' c' he hrem ⟨w', e1, e2, e3, e4, e5, e6, e7⟩
      refine ⟨⟨h1, by simp [h2], by simp [h3], h4, h5, w', e1, e2, e3, e4, e5, fun j hj => ?_⟩, fun j hj => ?_⟩
      · by_cases hjk : j = k
        · subst hjk
          rw [(self t' d' l' c').1, (self t' d' l' c').2]; exact e7
        · rw [(keep t' d' l' c' j hjk).1, (keep t' d' l' c' j hjk).2]
          obtain ⟨g1, g2, g3, g4, g5, g6⟩ := hk j hj
          refine ⟨g1, g2, g3, g4, fun hh => ?_, fun hm => by exfalso; omega⟩
          have := g5 hh
          exact ⟨this.1, this.2.1, Int.le_trans this.2.2 e6⟩
      · by_cases hjk : j = k
        · subst hjk
          have er : remP ⟨l', c', s.ad, s.tw.set j t', s.ds.set j d'⟩ j = remT t' d' := by unfold remP; rw [(self t' d' l' c').1, (self t' d' l' c').2]
          have er2 : remP s j = remT (twAt s j) false := by unfold remP; rw [hd]
          rw [er, er2]
          exact ⟨fun _ _ => hrem, by omega⟩
        · have er : remP ⟨l', c', s.ad, s.tw.set k t', s.ds.set k d'⟩ j = remP s j := by unfold remP; rw [(keep t' d' l' c' j hjk).1, (keep t' d' l' c' j hjk).2]
          rw [er]
          exact ⟨fun e => absurd e hjk, Nat.le_refl _⟩
    have hin : inP 0 1 = true := by decide
    obtain ⟨g1, g2, g3, g4, g5, g6⟩ := hz
    generalize ht : twAt s k = t at *
    obtain ⟨at', times, has, v, swap⟩ := t
    simp only at g1 g2 g3 g4 g5 g6 hT hss
    subst g1 g2
    by_cases hlt : times < 1
    · have h0 : times = 0 := by omega
      subst h0
      have hst : stepTw ⟨0, 0, has, v, false⟩ s.l = (⟨0, 0, has, v, false⟩, s.l, true) := by simp [stepTw]
      rw [hst]
      refine main _ _ _ _ hst (by simp [remT]) ⟨w, hw, w0, ?_⟩
      rw [hss]
      simp only [Int.sub_zero, Int.add_zero]
      exact ⟨w1, w2, w3, Int.le_refl _, rfl, rfl, hT, fun _ => rfl, g5, g6⟩
    · have hdf : decide (times < 1) = false := decide_eq_false hlt
      cases has with
      | false =>
        have hst : stepTw ⟨0, times, false, v, false⟩ s.l = (⟨0, times, true, w, false⟩, s.l, false) := by
          simp [stepTw, hw, hin, hlt]
        rw [hst]
        refine main _ _ _ _ hst (by simp [remT, hlt]) ⟨w, hw, w0, ?_⟩
        rw [hss]
        have e : T0 - (sumW s.tw - times + times) = T0 - sumW s.tw := by omega
        simp only [e]
        exact ⟨w1, w2, w3, Int.le_refl _, rfl, rfl, hT, fun hh => (by cases hh), fun _ => ⟨by simp only; omega, w0, w1⟩, fun _ _ => rfl⟩
      | true =>
        have g5' := g5 rfl
        have hst : stepTw ⟨0, times, true, v, false⟩ s.l = (⟨0, times - 1, false, v, false⟩, [v + 1], times - 1 == 0) := by
          have : u32P (v + 1) % 4294967296 = v + 1 := by rw [show u32P (v + 1) = _ from w32_mod _]; omega
          simp [stepTw, hw, hin, hlt, setP_ok, this]
        rw [hst]
        refine main _ _ _ _ hst ?_ ⟨v + 1, rfl, by omega, ?_⟩
        · cases hq : times - 1 == 0 with
          | true => simp [remT, hlt]
          | false =>
            have : times - 1 ≠ 0 := by simpa using hq
            simp only [remT, hlt, if_false, if_true, Bool.false_eq_true]
            rw [if_neg (by omega)]
            omega
        · rw [hss]
          simp only
          have e : T0 - (sumW s.tw - times + (times - 1)) = T0 - sumW s.tw + 1 := by omega
          rw [e]
          refine ⟨by omega, fun _ => by omega, fun hm => by have := g6 hm rfl; have := w3 hm; omega, by omega, rfl, rfl, by simp only; omega, fun hh => ?_, fun hh => (by cases hh), fun _ hh => (by cases hh)⟩
          simpa using hh
end Go.Proofs.YtlnigpeoffaemaaDoor

/- StepsPlays, plain: a task and the document's go together. -/
namespace Go.Proofs.YtlnigpeoffaemaaDoor
open Go Go.Proofs.YtlnigpeoffaemaaDoor.Sx
set_option linter.unusedVariables false
/-- a machine's task, of either kind -/
def tkV (s : Mc) (t : Bool × Nat) : Tk := match t.1 with
  | true => (adAt s t.2).tk
  | false => (twAt s t.2).tk
/-- a pick, seen at its tasks -/
structure View (m : Nat) (ts : List (Bool × Nat)) (s s' : Mc) (i : Nat) : Prop where
  l : s'.l = (stepA (tkV s (tsAt ts i)) s.l).2.1
  ds : s'.ds = s.ds.set i (stepA (tkV s (tsAt ts i)) s.l).2.2
  own : tkV s' (tsAt ts i) = (stepA (tkV s (tsAt ts i)) s.l).1
  keep : ∀ j, j < m → j ≠ i → tkV s' (tsAt ts j) = tkV s (tsAt ts j)
theorem pick_view {n m : Nat} {ts : List (Bool × Nat)} {s : Mc} (h : McOk n m ts s) {i : Int} (hb : inP i m = true) (hd : s.ds.getD i.toNat false = false) : View m ts s (pickP m ts s i) i.toNat := by
  have hb' := (inP_iff _ _).1 hb
  have hi : i.toNat < m := by omega
  have hk := h.tk i.toNat hi
  have hinj : ∀ j, j < m → j ≠ i.toNat → tsAt ts j ≠ tsAt ts i.toNat := fun j hj hji e => hji (h.inj j i.toNat hj hi e)
  generalize hT : tsAt ts i.toNat = T at *
  obtain ⟨b, k⟩ := T
  cases b with
  | true =>
    simp only [tkOk] at hk
    have hp : pickP m ts s i = ⟨(stepAd (adAt s k) s.l).2.1, usesAd (adAt s k) s.l s.c, s.ad.set k (stepAd (adAt s k) s.l).1, s.tw, s.ds.set i.toNat (stepAd (adAt s k) s.l).2.2⟩ := by
      simp only [pickP, hb, hd, hT]
    rw [hp]
    have hA := stepAd_A (adAt s k) s.l
    refine ⟨?_, ?_, ?_, fun j hj hji => ?_⟩
    · simp only [hT, tkV, hA]
    · simp only [hT, tkV, hA]
    · simp only [hT, tkV, hA]
      show Ad.tk ((s.ad.set k (stepAd (adAt s k) s.l).1).getD k encAd.dflt) = _
      rw [Sx.getD_set_self hk.1]
    · have hne := hinj j hj hji
      generalize tsAt ts j = U at *
      obtain ⟨c, q⟩ := U
      cases c with
      | true =>
        have : k ≠ q := fun e => hne (by rw [e])
        show Ad.tk ((s.ad.set k _).getD q encAd.dflt) = Ad.tk (s.ad.getD q encAd.dflt)
        rw [Sx.getD_set_ne this]
      | false => rfl
  | false =>
    simp only [tkOk] at hk
    have hp : pickP m ts s i = ⟨(stepTw (twAt s k) s.l).2.1, usesTw (twAt s k) s.l s.c, s.ad, s.tw.set k (stepTw (twAt s k) s.l).1, s.ds.set i.toNat (stepTw (twAt s k) s.l).2.2⟩ := by
      simp only [pickP, hb, hd, hT]
    rw [hp]
    have hA := stepTw_A (twAt s k) s.l
    refine ⟨?_, ?_, ?_, fun j hj hji => ?_⟩
    · simp only [hT, tkV, hA]
    · simp only [hT, tkV, hA]
    · simp only [hT, tkV, hA]
      show Tw.tk ((s.tw.set k (stepTw (twAt s k) s.l).1).getD k encTw.dflt) = _
      rw [Sx.getD_set_self hk.1]
    · have hne := hinj j hj hji
      generalize tsAt ts j = U at *
      obtain ⟨c, q⟩ := U
      cases c with
      | true => rfl
      | false =>
        have : k ≠ q := fun e => hne (by rw [e])
        show Tw.tk ((s.tw.set k _).getD q encTw.dflt) = Tw.tk (s.tw.getD q encTw.dflt)
        rw [Sx.getD_set_ne this]
/-- the document's task -/
structure Rf where
  kind : Int
  at' : Int
  times : Int
  has : Bool
  v : Int
  done : Bool
def okR (r : Rf) (l : List Int) : Bool := !decide (r.times < 1) && inP r.at' l.length
/-- does it put something back -/
def putR (r : Rf) (l : List Int) : Bool := r.kind == 1 || l.getD r.at'.toNat 0 == r.v
/-- the task behind a step that is one -/
def rfP (r : Rf) (l : List Int) : Rf := match r.kind == 0 with
  | true => {r with times := r.times - 1, done := r.times - 1 == 0}
  | false => match r.has with
    | false => {r with has := true, v := l.getD r.at'.toNat 0, done := r.times == 0}
    | true => match putR r l with
      | true => {r with has := false, times := r.times - 1, done := r.times - 1 == 0}
      | false => {r with has := false, done := r.times == 0}
def rwP (r : Rf) (l : List Int) : List Int := match r.kind == 0 with
  | true => l.set r.at'.toNat (u32P (l.getD r.at'.toNat 0 + 1))
  | false => match r.has with
    | false => l
    | true => match putR r l with
      | true => l.set r.at'.toNat (u32P (r.v + 1))
      | false => l
def rStep (r : Rf) (l : List Int) : Rf × List Int := match okR r l with
  | true => (rfP r l, rwP r l)
  | false => ({r with done := true}, l)
structure Rel (t : Tk) (r : Rf) : Prop where
  kind : r.kind = t.kind
  k3 : t.kind ≤ 2
  at' : t.at' = r.at'
  times : t.times = r.times
  has : t.has = r.has
  v : t.v = r.v
  done : r.done = false
  le : t.times ≤ 20
  u32 : 0 ≤ t.v ∧ t.v < 4294967296
  add : t.kind = 0 → t.has = false
  inr : t.has = true → inP t.at' 3 = true
abbrev U32s (l : List Int) : Prop := ∀ x ∈ l, 0 ≤ x ∧ x < 4294967296
theorem u32s_getD {l : List Int} (h : U32s l) (i : Nat) : 0 ≤ l.getD i 0 ∧ l.getD i 0 < 4294967296 := by
  rw [List.getD_eq_getElem?_getD]
  cases hi : l[i]? with
  | none => simp
  | some x => simpa using h x (List.mem_of_getElem? hi)
theorem u32s_set {l : List Int} (h : U32s l) (i : Nat) {x : Int} (hx : 0 ≤ x ∧ x < 4294967296) : U32s (l.set i x) := by
  intro y hy
  rcases List.mem_or_eq_of_mem_set hy with h1 | rfl
  · exact h y h1
  · exact hx
structure Both (t : Tk) (r : Rf) (l : List Int) : Prop where
  done : (stepA t l).2.2 = (rStep r l).1.done
  words : (stepA t l).2.1 = (rStep r l).2
  u32 : U32s (rStep r l).2
  rel : (rStep r l).1.done = false → Rel (stepA t l).1 (rStep r l).1
theorem both_mk {t t' : Tk} {r r' : Rf} {l l' : List Int} {d : Bool} (hs : stepA t l = (t', l', d)) (hr : rStep r l = (r', l')) (hd : d = r'.done) (hu : U32s l') (hrel : r'.done = false → Rel t' r') : Both t r l := by
  refine ⟨?_, ?_, ?_, ?_⟩
  · rw [hs, hr]; exact hd
  · rw [hs, hr]
  · rw [hr]; exact hu
  · rw [hs, hr]; exact hrel
theorem both_step {t : Tk} {r : Rf} {l : List Int} (h : Rel t r) (hl : U32s l) (h3l : l.length = 3) : Both t r l := by
  obtain ⟨kind, at', times, has, v⟩ := t
  obtain ⟨kind2, at2, times2, has2, v2, done⟩ := r
  obtain ⟨h1, h2, h3, h4, h5, h6, h7, h8, h9, h10, h11⟩ := h
  simp only at h1 h2 h3 h4 h5 h6 h7 h8 h9 h10 h11
  subst h1 h3 h4 h5 h6 h7
  by_cases ht : times < 1
  · exact both_mk (t' := ⟨kind, at', times, has, v⟩) (r' := ⟨kind, at', times, has, v, true⟩) (l' := l) (d := true) (by simp [stepA, ht]) (by simp [rStep, okR, ht]) rfl hl (fun hh => by cases hh)
  · cases hb : inP at' l.length with
    | false =>
      have hr : rStep ⟨kind, at', times, has, v, false⟩ l = (⟨kind, at', times, has, v, true⟩, l) := by simp [rStep, okR, ht, hb]
      have hhas : has = false := by
        cases has with
        | false => rfl
        | true => have := h11 rfl; rw [h3l] at hb; rw [this] at hb; cases hb
      subst hhas
      match kind, h2 with
      | 0, _ => exact both_mk (t' := ⟨0, at', times - 1, false, v⟩) (d := true) (by simp [stepA, ht, hb]) hr rfl hl (fun hh => by cases hh)
      | 1, _ => exact both_mk (t' := ⟨1, at', times, true, 0⟩) (d := true) (by simp [stepA, ht, hb]) hr rfl hl (fun hh => by cases hh)
      | 2, _ => exact both_mk (t' := ⟨2, at', times, true, 0⟩) (d := true) (by simp [stepA, ht, hb]) hr rfl hl (fun hh => by cases hh)
    | true =>
      have hok : ∀ k : Int, okR ⟨k, at', times, has, v, false⟩ l = true := by intro k; simp [okR, ht, hb]
      have hg := u32s_getD hl at'.toNat
      have hinr : inP at' 3 = true := by rw [← h3l]; exact hb
      have t0 : (times == 0) = false := beq_eq_false_iff_ne.2 (by omega)
      have hw : ∀ x, u32P x = x % 4294967296 := w32_mod
      match kind, h2 with
      | 0, _ =>
        have := h10 rfl
        subst this
        exact both_mk (t' := ⟨0, at', times - 1, false, v⟩) (r' := ⟨0, at', times - 1, false, v, times - 1 == 0⟩) (l' := l.set at'.toNat ((l.getD at'.toNat 0 + 1) % 4294967296)) (d := times - 1 == 0)
          (by simp [-List.getD_eq_getElem?_getD, stepA, ht, hb, incP_ok]) (by simp [-List.getD_eq_getElem?_getD, rStep, hok, rfP, rwP, hw]) rfl (u32s_set hl _ (by omega))
          (fun hd => ⟨rfl, by simp, rfl, rfl, rfl, rfl, hd, by simp only; omega, h9, fun _ => rfl, fun hh => (by cases hh)⟩)
      | 1, _ =>
        cases has with
        | false =>
          exact both_mk (t' := ⟨1, at', times, true, l.getD at'.toNat 0⟩) (r' := ⟨1, at', times, true, l.getD at'.toNat 0, false⟩) (l' := l) (d := false)
            (by simp [-List.getD_eq_getElem?_getD, stepA, ht, hb]) (by simp [-List.getD_eq_getElem?_getD, rStep, hok, rfP, rwP, t0]) rfl hl
            (fun hd => ⟨rfl, by simp, rfl, rfl, rfl, rfl, rfl, h8, hg, fun hh => (by cases hh), fun _ => hinr⟩)
        | true =>
          exact both_mk (t' := ⟨1, at', times - 1, false, v⟩) (r' := ⟨1, at', times - 1, false, v, times - 1 == 0⟩) (l' := l.set at'.toNat ((v + 1) % 4294967296)) (d := times - 1 == 0)
            (by simp [-List.getD_eq_getElem?_getD, stepA, ht, hb, setP_ok, hw]) (by simp [-List.getD_eq_getElem?_getD, rStep, hok, rfP, rwP, putR, hw]) rfl (u32s_set hl _ (by omega))
            (fun hd => ⟨rfl, by simp, rfl, rfl, rfl, rfl, hd, by simp only; omega, h9, fun _ => rfl, fun hh => (by cases hh)⟩)
      | 2, _ =>
        cases has with
        | false =>
          exact both_mk (t' := ⟨2, at', times, true, l.getD at'.toNat 0⟩) (r' := ⟨2, at', times, true, l.getD at'.toNat 0, false⟩) (l' := l) (d := false)
            (by simp [-List.getD_eq_getElem?_getD, stepA, ht, hb]) (by simp [-List.getD_eq_getElem?_getD, rStep, hok, rfP, rwP, t0]) rfl hl
            (fun hd => ⟨rfl, by simp, rfl, rfl, rfl, rfl, rfl, h8, hg, fun hh => (by cases hh), fun _ => hinr⟩)
        | true =>
          cases hq : l.getD at'.toNat 0 == v with
          | true =>
            exact both_mk (t' := ⟨2, at', times - 1, false, v⟩) (r' := ⟨2, at', times - 1, false, v, times - 1 == 0⟩) (l' := l.set at'.toNat ((v + 1) % 4294967296)) (d := times - 1 == 0)
              (by simp only [stepA, ht, hb, decide_false, hq, Bool.or_true, setP_ok, hw]; simp) (by simp only [rStep, hok, rfP, rwP, putR, hq, Bool.or_true, hw]; rfl) rfl (u32s_set hl _ (by omega))
              (fun hd => ⟨rfl, by simp, rfl, rfl, rfl, rfl, hd, by simp only; omega, h9, fun _ => rfl, fun hh => (by cases hh)⟩)
          | false =>
            exact both_mk (t' := ⟨2, at', times, false, v⟩) (r' := ⟨2, at', times, false, v, false⟩) (l' := l) (d := false)
              (by simp only [stepA, ht, hb, decide_false, hq, t0]; rfl) (by simp only [rStep, hok, rfP, rwP, putR, hq, t0]; rfl) rfl hl
              (fun hd => ⟨rfl, by simp, rfl, rfl, rfl, rfl, rfl, h8, h9, fun _ => rfl, fun hh => (by cases hh)⟩)
end Go.Proofs.YtlnigpeoffaemaaDoor

/- StepsPlays: pieces and states. -/
namespace Go.Proofs.YtlnigpeoffaemaaDoor
open Go Go.Proofs.YtlnigpeoffaemaaDoor.Sx
set_option linter.unusedVariables false
/-- a task out of raw numbers -/
structure K3 where
  kind : Int
  at' : Int
  times : Int
  h : 0 ≤ kind ∧ kind ≤ 255
theorem k0_h : (0 : Int) ≤ 0 ∧ (0 : Int) ≤ 255 := by omega
def encK : Enc K3 := encOf 2 (fun k => [.int .u8 k.kind, .int .i64 k.at', .int .i64 k.times]) ⟨0, 0, 0, k0_h⟩ (fun _ => rfl) (by intro env env' x vs h; simpa [DenL, Den] using h)
def getI (k : IntKind) (s : SVal) : Option Int := match asI s with
  | some (k', x, _) => match decEq k' k with
    | .isTrue _ => some x
    | .isFalse _ => none
  | none => none
theorem getI_den {env : Env} {k : IntKind} {s : SVal} {x : Int} {v : Value} (h : getI k s = some x) (hd : Den env s v) : Den env (.int k x) v := by
  unfold getI at h
  split at h
  · rename_i k' y b h1
    split at h
    · rename_i h2 _
      subst h2
      simp only [Option.some.injEq] at h; subst h
      rw [asI_den h1 hd]; simp [Den]
    · cases h
  · cases h
theorem asB_sb {env : Env} {s : SVal} {x b : Bool} {v : Value} (h : asB s = some (x, b)) (hd : Den env s v) : Den env (.sb x) v := by
  rw [asB_den h hd]; simp [Den]
def encRf : Enc Rf where
  tag := .other
  shut := true
  sz := 6
  enc r := [.int .i64 r.kind, .int .i64 r.at', .int .i64 r.times, .sb r.has, .int .u32 r.v, .sb r.done]
  dec l := match l with
    | [a, b, c, n, t, d] => match getI .i64 a, getI .i64 b, getI .i64 c, asB n, getI .u32 t, asB d with
      | some a, some b, some c, some (n, _), some t, some (d, _) => some ⟨a, b, c, n, t, d⟩
      | _, _, _, _, _, _ => none
    | _ => none
  dflt := ⟨0, 0, 0, false, 0, false⟩
  pos := by omega
  len := fun _ => rfl
  ok := by
    intro env l x vs h hd
    split at h
    · split at h
      · rename_i h1 h2 h3 h4 h5 h6
        simp only [Option.some.injEq] at h; subst h
        obtain ⟨u1, k1, rfl, d1, u2, k2, rfl, d2, u3, k3, rfl, d3, u4, k4, rfl, d4, u5, k5, rfl, d5, u6, k6, rfl, d6, rfl⟩ := hd
        exact ⟨_, _, rfl, getI_den h1 d1, _, _, rfl, getI_den h2 d2, _, _, rfl, getI_den h3 d3, _, _, rfl, asB_sb h4 d4, _, _, rfl, getI_den h5 d5, _, _, rfl, asB_sb h6 d6, rfl⟩
      · cases h
    · cases h
  shutOk := fun _ => by intro env env' x vs h; simpa [DenL, Den] using h
/-- what comes in -/
structure InP where
  kinds : List K3
  cap : Nat
  picks : List Int
  cap' : Nat
abbrev kindsV (p : InP) (i : Nat) : SVal := .sli i (.c 0) 3 (.v p.kinds.length) (some (.v p.cap))
abbrev pickV (p : InP) (i : Nat) : SVal := .sli i (.c 0) 1 (.v p.picks.length) (some (.v p.cap'))
abbrev s0P (p : InP) : St := [lookB, .ro encK p.kinds, .ro (encInt .i64) p.picks]
noncomputable def b4 : Code := Tryd.f4.body.getD .skip
noncomputable def c4 : Code := restC 4 b4
noncomputable def reg4 : Code := lft (lft c4)
noncomputable def blk4 : Code := rgt (lft c4)
noncomputable def round4 : Code := lft (lft blk4)
noncomputable def tm4 : Code := lft round4
noncomputable def bb4 : Code := lft (lft (rgt round4))
noncomputable def inc4 : Code := rgt (rgt round4)
noncomputable def d4 : Code := rgt c4
noncomputable def e4 : Code := restC 3 d4
noncomputable def reg4b : Code := lft (lft e4)
noncomputable def blk4b : Code := rgt (lft e4)
noncomputable def round4b : Code := lft (lft blk4b)
noncomputable def tm4b : Code := lft round4b
noncomputable def bb4b : Code := lft (lft (rgt round4b))
noncomputable def inc4b : Code := rgt (rgt round4b)
noncomputable def end4 : Code := rgt e4
noncomputable def bP : Code := Tryd.f16.body.getD .skip
noncomputable def bS : Code := Tryd.f26.body.getD .skip
abbrev s4 (p : InP) (xs : List Ad) (ys : List Tw) (ts : List (Bool × Nat)) (rs : List Rf) : St :=
  famS 3 [0, 0, 0] 0 xs ys ++ [.ro encK p.kinds, .ro (encInt .i64) p.picks, .vec (encTs 3 4) ts 44, .vec encRf rs 47]
abbrev n4a : List Nat := [0, 1, 5, 7, 8]
abbrev n4p : List Nat := [0, 1, 5, 7, 8, 4]
abbrev n4b : List Nat := [0, 1, 5, 7, 8, 9]
abbrev n4c : List Nat := [0, 1, 5, 7, 8, 9, 10, 11]
abbrev v4 (p : InP) (m : Nat) : List SVal := [kindsV p 5, pickV p 6, .ptr 1 0, .sli 7 (.c 0) 1 (.v m) none, .sli 8 (.c 0) 6 (.v m) none]
abbrev rfA (r : Rf) : SVal := .agg [.int .i64 r.kind, .int .i64 r.at', .int .i64 r.times, .sb r.has, .int .u32 r.v, .sb r.done]
abbrev rfB (r : Rf) : Blk := .own [.c (.int .i64 r.kind), .c (.int .i64 r.at'), .c (.int .i64 r.times), .c (.sb r.has), .c (.int .u32 r.v), .c (.sb r.done)] 47
/-- in the second loop -/
abbrev sP (p : InP) (m : Nat) (ts : List (Bool × Nat)) (s : Mc) (rs : List Rf) (lw : List Int) : St :=
  mcS 3 m ts s ++ [.ro (encInt .i64) p.picks, .vec encRf rs 47, .vec (encInt .u32) lw 45]
abbrev n4e : List Nat := [1, 5, 8, 12, 13]
abbrev n4f : List Nat := [1, 5, 8, 12, 13, 14]
abbrev v4b (p : InP) (m n : Nat) : List SVal := [pickV p 8, .ptr 1 0, .sli 9 (.c 0) 6 (.v m) none, .ptr 5 0, .sli 10 (.c 0) 1 (.v n) none]
end Go.Proofs.YtlnigpeoffaemaaDoor

/- StepsPlays, plain: what the making of tasks leaves. -/
namespace Go.Proofs.YtlnigpeoffaemaaDoor
open Go Go.Proofs.YtlnigpeoffaemaaDoor.Sx
set_option linter.unusedVariables false
abbrev MadeT := List Ad × List Tw × List (Bool × Nat)
def cutT (x : Int) : Int := if 20 < x then 20 else x
def kd (k : K3) : Int := k.kind.tmod 3
def stepB (S : MadeT) (k : K3) : MadeT := match kd k == 0 with
  | true => (S.1 ++ [⟨k.at', cutT k.times⟩], S.2.1, S.2.2 ++ [(true, S.1.length)])
  | false => (S.1, S.2.1 ++ [⟨k.at', cutT k.times, false, 0, !(kd k == 1)⟩], S.2.2 ++ [(false, S.2.1.length)])
def mkR (k : K3) : Rf := ⟨kd k, k.at', cutT k.times, false, 0, false⟩
def made (p : InP) (i : Nat) : MadeT := (p.kinds.take i).foldl stepB ([], [], [])
def rsP (p : InP) (i : Nat) : List Rf := (p.kinds.take i).map mkR
theorem take_succK {p : InP} {i : Nat} (h : i < p.kinds.length) : p.kinds.take (i + 1) = p.kinds.take i ++ [p.kinds.getD i encK.dflt] := by
  rw [List.take_add_one]
  simp [List.getD_eq_getElem?_getD, h]
theorem made_succ {p : InP} {i : Nat} (h : i < p.kinds.length) : made p (i + 1) = stepB (made p i) (p.kinds.getD i encK.dflt) := by
  unfold made
  rw [take_succK h, List.foldl_append]; rfl
theorem rsP_succ {p : InP} {i : Nat} (h : i < p.kinds.length) : rsP p (i + 1) = rsP p i ++ [mkR (p.kinds.getD i encK.dflt)] := by
  unfold rsP
  rw [take_succK h, List.map_append]; rfl
def tkL (xs : List Ad) (ys : List Tw) (t : Bool × Nat) : Tk := match t.1 with
  | true => (xs.getD t.2 encAd.dflt).tk
  | false => (ys.getD t.2 encTw.dflt).tk
structure MadeOk (i : Nat) (S : MadeT) (rs : List Rf) : Prop where
  lt : S.2.2.length = i
  lr : rs.length = i
  tk : ∀ j, j < i → match (tsAt S.2.2 j).1 with | true => (tsAt S.2.2 j).2 < S.1.length | false => (tsAt S.2.2 j).2 < S.2.1.length
  inj : ∀ j k, j < i → k < i → tsAt S.2.2 j = tsAt S.2.2 k → j = k
  rel : ∀ j, j < i → Rel (tkL S.1 S.2.1 (tsAt S.2.2 j)) (rs.getD j encRf.dflt)
theorem getD_app_lt {α : Type} {l : List α} {x : α} {i : Nat} (h : i < l.length) (d : α) : (l ++ [x]).getD i d = l.getD i d := by
  simp [List.getD_eq_getElem?_getD, List.getElem?_append_left h]
theorem getD_app_eq {α : Type} {l : List α} {x : α} (d : α) : (l ++ [x]).getD l.length d = x := by
  simp [List.getD_eq_getElem?_getD]
theorem kd_3 (k : K3) : 0 ≤ kd k ∧ kd k ≤ 2 := by
  have := k.h
  unfold kd
  rw [Int.tmod_eq_emod_of_nonneg this.1]; omega
theorem made_ok {i : Nat} {S : MadeT} {rs : List Rf} (h : MadeOk i S rs) (k : K3) : MadeOk (i + 1) (stepB S k) (rs ++ [mkR k]) := by
  obtain ⟨h1, h2, h3, h4, h5⟩ := h
  obtain ⟨xs, ys, ts⟩ := S
  simp only at h1 h3 h4 h5
  have hk := kd_3 k
  have hcut : cutT k.times ≤ 20 := by unfold cutT; split <;> omega
  have hro : ∀ j, j < i → (rs ++ [mkR k]).getD j encRf.dflt = rs.getD j encRf.dflt := fun j hj => getD_app_lt (by omega) _
  have hrn : (rs ++ [mkR k]).getD i encRf.dflt = mkR k := by rw [← h2]; exact getD_app_eq _
  cases hq : kd k == 0 with
  | true =>
    have hq' := beq_iff_eq.1 hq
    have hS : stepB (xs, ys, ts) k = (xs ++ [⟨k.at', cutT k.times⟩], ys, ts ++ [(true, xs.length)]) := by simp only [stepB, hq]
    rw [hS]
    have hto : ∀ j, j < i → tsAt (ts ++ [(true, xs.length)]) j = tsAt ts j := fun j hj => getD_app_lt (by omega) _
    have htn : tsAt (ts ++ [(true, xs.length)]) i = (true, xs.length) := by rw [← h1]; exact getD_app_eq _
    have hvo : ∀ j, j < i → tkL (xs ++ [⟨k.at', cutT k.times⟩]) ys (tsAt ts j) = tkL xs ys (tsAt ts j) := by
      intro j hj
      have h6 := h3 j hj
      unfold tkL
      cases hb : (tsAt ts j).1 with
      | true => rw [hb] at h6; simp only at h6 ⊢; rw [getD_app_lt h6]
      | false => rfl
    refine ⟨by simp [h1], by simp [h2], fun j hj => ?_, fun j q hj hq2 e => ?_, fun j hj => ?_⟩
    · by_cases hji : j = i
      · subst hji; simp only [htn]; simp
      · have h6 := h3 j (by omega)
        simp only [hto j (by omega)]
        cases hb : (tsAt ts j).1 with
        | true => rw [hb] at h6; simp only at h6 ⊢; rw [List.length_append]; exact Nat.lt_of_lt_of_le h6 (Nat.le_add_right _ _)
        | false => rw [hb] at h6; exact h6
    · by_cases hji : j = i
      · by_cases hqi : q = i
        · omega
        · rw [hji, htn, hto q (by omega)] at e
          have h6 := h3 q (by omega)
          rw [← e] at h6
          exact absurd h6 (Nat.lt_irrefl _)
      · by_cases hqi : q = i
        · rw [hqi, htn, hto j (by omega)] at e
          have h6 := h3 j (by omega)
          rw [e] at h6
          exact absurd h6 (Nat.lt_irrefl _)
        · simp only [hto j (by omega), hto q (by omega)] at e
          exact h4 j q (by omega) (by omega) e
    · by_cases hji : j = i
      · subst hji
        simp only [htn, hrn]
        have : tkL (xs ++ [⟨k.at', cutT k.times⟩]) ys (true, xs.length) = ⟨0, k.at', cutT k.times, false, 0⟩ := by
          unfold tkL; simp only; rw [getD_app_eq]; rfl
        rw [this]
        exact ⟨hq', by simp, rfl, rfl, rfl, rfl, rfl, hcut, by simp, fun _ => rfl, fun hh => by cases hh⟩
      · simp only [hto j (by omega), hro j (by omega), hvo j (by omega)]
        exact h5 j (by omega)
  | false =>
    have hq' := beq_eq_false_iff_ne.1 hq
    have hS : stepB (xs, ys, ts) k = (xs, ys ++ [⟨k.at', cutT k.times, false, 0, !(kd k == 1)⟩], ts ++ [(false, ys.length)]) := by simp only [stepB, hq]
    rw [hS]
    have hto : ∀ j, j < i → tsAt (ts ++ [(false, ys.length)]) j = tsAt ts j := fun j hj => getD_app_lt (by omega) _
    have htn : tsAt (ts ++ [(false, ys.length)]) i = (false, ys.length) := by rw [← h1]; exact getD_app_eq _
    have hvo : ∀ j, j < i → tkL xs (ys ++ [⟨k.at', cutT k.times, false, 0, !(kd k == 1)⟩]) (tsAt ts j) = tkL xs ys (tsAt ts j) := by
      intro j hj
      have h6 := h3 j hj
      unfold tkL
      cases hb : (tsAt ts j).1 with
      | true => rfl
      | false => rw [hb] at h6; simp only at h6 ⊢; rw [getD_app_lt h6]
    refine ⟨by simp [h1], by simp [h2], fun j hj => ?_, fun j q hj hq2 e => ?_, fun j hj => ?_⟩
    · by_cases hji : j = i
      · subst hji; simp only [htn]; simp
      · have h6 := h3 j (by omega)
        simp only [hto j (by omega)]
        cases hb : (tsAt ts j).1 with
        | true => rw [hb] at h6; exact h6
        | false => rw [hb] at h6; simp only at h6 ⊢; rw [List.length_append]; exact Nat.lt_of_lt_of_le h6 (Nat.le_add_right _ _)
    · by_cases hji : j = i
      · by_cases hqi : q = i
        · omega
        · rw [hji, htn, hto q (by omega)] at e
          have h6 := h3 q (by omega)
          rw [← e] at h6
          exact absurd h6 (Nat.lt_irrefl _)
      · by_cases hqi : q = i
        · rw [hqi, htn, hto j (by omega)] at e
          have h6 := h3 j (by omega)
          rw [e] at h6
          exact absurd h6 (Nat.lt_irrefl _)
        · simp only [hto j (by omega), hto q (by omega)] at e
          exact h4 j q (by omega) (by omega) e
    · by_cases hji : j = i
      · subst hji
        simp only [htn, hrn]
        have : tkL xs (ys ++ [⟨k.at', cutT k.times, false, 0, !(kd k == 1)⟩]) (false, ys.length) = ⟨match (!(kd k == 1)) with | true => 2 | false => 1, k.at', cutT k.times, false, 0⟩ := by
          unfold tkL; simp only; rw [getD_app_eq]; rfl
        rw [this]
        cases h1' : kd k == 1 with
        | true =>
          exact ⟨beq_iff_eq.1 h1', by simp, rfl, rfl, rfl, rfl, rfl, hcut, by simp, fun _ => rfl, fun hh => by cases hh⟩
        | false =>
          have := beq_eq_false_iff_ne.1 h1'
          have h2' : kd k = 2 := by omega
          exact ⟨h2', by simp, rfl, rfl, rfl, rfl, rfl, hcut, by simp, fun _ => rfl, fun hh => by cases hh⟩
      · simp only [hto j (by omega), hro j (by omega), hvo j (by omega)]
        exact h5 j (by omega)
theorem made_all {p : InP} : ∀ i, i ≤ p.kinds.length → MadeOk i (made p i) (rsP p i)
  | 0, _ => ⟨rfl, rfl, fun j hj => by omega, fun j k hj => by omega, fun j hj => by omega⟩
  | i + 1, h => by
    rw [made_succ (by omega), rsP_succ (by omega)]
    exact made_ok (made_all i (by omega)) _
end Go.Proofs.YtlnigpeoffaemaaDoor

/- StepsApart: pieces and states. -/
namespace Go.Proofs.YtlnigpeoffaemaaDoor
open Go Go.Proofs.YtlnigpeoffaemaaDoor.Sx
set_option linter.unusedVariables false
structure InA where
  a : K3
  b : K3
  picks : List Int
  cap : Nat
abbrev kA (k : K3) : SVal := .agg [.int .u8 k.kind, .int .i64 k.at', .int .i64 k.times]
abbrev kB (k : K3) : Blk := .own [.c (.int .u8 k.kind), .c (.int .i64 k.at'), .c (.int .i64 k.times)] 51
abbrev pickA (q : InA) (i : Nat) : SVal := .sli i (.c 0) 1 (.v q.picks.length) (some (.v q.cap))
abbrev s0A (q : InA) : St := [lookB, .ro (encInt .i64) q.picks]
noncomputable def b5 : Code := Tryd.f5.body.getD .skip
abbrev swV (t : Bool × Nat) : SVal := .sw t.1 (.ifc 84 (.pto 3 t.2 0)) (.ifc 74 (.pto 4 t.2 0))
abbrev iA (k : Nat) : SVal := .ifc 84 (.pto 3 k 0)
abbrev iT (k : Nat) : SVal := .ifc 74 (.pto 4 k 0)
/-- while tasks are made -/
abbrev sMa (q : InA) (xs : List Ad) (ys : List Tw) : St := famS 3 [0, 0, 0] 0 xs ys ++ [.own [.c (.sli 6 (.c 0) 1 (.v 3) (some (.v 3))), .c (.int .i64 0)] 67, .own [.a (encInt .u32) 3 [0, 0, 0]] 45, kB q.a, kB q.b, .ro (encInt .i64) q.picks]
abbrev n5p : List Nat := [2, 3, 4, 7, 9, 6]
abbrev n5a : List Nat := [2, 3, 4, 7, 9]
abbrev n5b : List Nat := [2, 3, 4, 7, 9, 11]
abbrev n5c : List Nat := [2, 3, 4, 7, 9, 11, 13]
abbrev n5d : List Nat := [2, 3, 4, 7, 9, 11, 13, 15]
abbrev n5e : List Nat := [2, 3, 4, 7, 9, 17, 18]
abbrev v5a (q : InA) : List SVal := [pickA q 9, .ptr 7 0, .ptr 8 0, .ptr 1 0, .ptr 5 0]
end Go.Proofs.YtlnigpeoffaemaaDoor

namespace Go.Proofs.YtlnigpeoffaemaaDoor
open Go Go.Proofs.YtlnigpeoffaemaaDoor.Sx
set_option linter.unusedVariables false
set_option maxRecDepth 100000 in
theorem z_pre {q : InA} : (execN cfgL 100 4 b5 ([kA q.a, kA q.b, pickA q 1] ++ List.replicate 180 .bad) (s0A q)).bind (canonK 0 [(0,0)] 183 n5p) =
 

 (.eq (some [Blk.ro encLook [PUnit.unit]] = some [Blk.ro encLook [PUnit.unit]])

 (.br (q.a.2 == q.b.2)

 (.eq (some [Blk.ro encLook [PUnit.unit]] = some [Blk.ro encLook [PUnit.unit]])

 (.ret (.ret, [.sli 1 (.c 0) 1 (.v q.3.length) (some (.v q.4)), .ptr 2 0, .ptr 3 0, .ptr 4 0, .ptr 6 0, .bl true], [.ro encLook [PUnit.unit], .ro (encInt IntKind.i64) q.3, .own [.c (.int .u8 q.a.1), .c (.int .i64 q.a.2), .c (.int .i64 q.a.3)] 51, .own [.c (.int .u8 q.b.1), .c (.int .i64 q.b.2), .c (.int .i64 q.b.3)] 51, .own [.c (.sli 5 (.c 0) 1 (.c 3) (some (.c 3))), .c (.lit .i64 (0 : Int))] 67, .own [.c (.lit .u32 (0 : Int)), .c (.lit .u32 (0 : Int)), .c (.lit .u32 (0 : Int))] 45, .own [.c (.sli 7 (.c 0) 1 (.c 3) (some (.c 3))), .c (.lit .i64 (0 : Int))] 67, .own [.c (.lit .u32 (0 : Int)), .c (.lit .u32 (0 : Int)), .c (.lit .u32 (0 : Int))] 45])))

 (.ret (.normal, [.sli 1 (.c 0) 1 (.v q.3.length) (some (.v q.4)), .ptr 2 0, .ptr 3 0, .ptr 4 0, .ptr 6 0, .bl false], [.ro encLook [PUnit.unit], .ro (encInt IntKind.i64) q.3, .own [.c (.int .u8 q.a.1), .c (.int .i64 q.a.2), .c (.int .i64 q.a.3)] 51, .own [.c (.int .u8 q.b.1), .c (.int .i64 q.b.2), .c (.int .i64 q.b.3)] 51, .own [.c (.sli 5 (.c 0) 1 (.c 3) (some (.c 3))), .c (.lit .i64 (0 : Int))] 67, .own [.c (.lit .u32 (0 : Int)), .c (.lit .u32 (0 : Int)), .c (.lit .u32 (0 : Int))] 45, .own [.c (.sli 7 (.c 0) 1 (.c 3) (some (.c 3))), .c (.lit .i64 (0 : Int))] 67, .own [.c (.lit .u32 (0 : Int)), .c (.lit .u32 (0 : Int)), .c (.lit .u32 (0 : Int))] 45])))) := by kernel_rfl
set_option maxRecDepth 100000 in
theorem z_mka {q : InA} {xs : List Ad} {ys : List Tw} : (execN cfgM 100 1 (restC 4 b5) (fr 183 n5a (v5a q)) (sMa q xs ys)).bind (canonK 10 [(0,0)] 183 n5b) =
 

 (.br (decide ((20 : Int) < q.a.3))

 (.need (inR .i64 q.a.1)

 (.need (true)

 (.br (q.a.1.tmod (3 : Int) == (0 : Int))
 (.eq (T.ret (SVal.int IntKind.i64 q.a.2) = T.ret (SVal.int IntKind.i64 q.a.2))
 (.eq (T.ret (SVal.agg [SVal.int IntKind.i64 (q.a.1.tmod (3 : Int)), SVal.int IntKind.i64 q.a.2, SVal.lit IntKind.i64 (20 : Int), SVal.bl false, SVal.lit IntKind.u32 (0 : Int), SVal.bl false]) = T.ret (SVal.agg [SVal.int IntKind.i64 (q.a.1.tmod (3 : Int)), SVal.int IntKind.i64 q.a.2, SVal.lit IntKind.i64 (20 : Int), SVal.bl false, SVal.lit IntKind.u32 (0 : Int), SVal.bl false]))
 (.eq (T.ret (SVal.agg [SVal.int IntKind.i64 (q.a.1.tmod (3 : Int)), SVal.int IntKind.i64 q.a.2, SVal.lit IntKind.i64 (20 : Int), SVal.bl false, SVal.lit IntKind.u32 (0 : Int), SVal.bl false]) = T.ret (SVal.agg [SVal.int IntKind.i64 (q.a.1.tmod (3 : Int)), SVal.int IntKind.i64 q.a.2, SVal.lit IntKind.i64 (20 : Int), SVal.bl false, SVal.lit IntKind.u32 (0 : Int), SVal.bl false]))

 (.ret (.normal, [.sli 9 (.c 0) 1 (.v q.3.length) (some (.v q.4)), .ptr 7 0, .ptr 8 0, .ptr 1 0, .ptr 5 0, .ifc 84 (.ptr 10 0)], [.ro encLook [PUnit.unit], .own [.c (.sli 2 (.c 0) 1 (.v 3) (some (.v 3))), .c (.int .i64 (0 : Int))] 67, .own [.a (encInt IntKind.u32) 3 [(0 : Int), (0 : Int), (0 : Int)]] 45, .many encAd xs 86, .many encTw ys 78, .own [.c (.sli 6 (.c 0) 1 (.v 3) (some (.v 3))), .c (.int .i64 (0 : Int))] 67, .own [.a (encInt IntKind.u32) 3 [(0 : Int), (0 : Int), (0 : Int)]] 45, .own [.c (.int .u8 q.a.1), .c (.int .i64 q.a.2), .c (.int .i64 q.a.3)] 51, .own [.c (.int .u8 q.b.1), .c (.int .i64 q.b.2), .c (.int .i64 q.b.3)] 51, .ro (encInt IntKind.i64) q.3, .own [.c (.int .i64 q.a.2), .c (.lit .i64 (20 : Int))] 86])))))

 (.br (q.a.1.tmod (3 : Int) == (1 : Int))
 (.eq (T.ret (SVal.int IntKind.i64 q.a.2) = T.ret (SVal.int IntKind.i64 q.a.2))
 (.eq (T.ret (SVal.agg [SVal.int IntKind.i64 (q.a.1.tmod (3 : Int)), SVal.int IntKind.i64 q.a.2, SVal.lit IntKind.i64 (20 : Int), SVal.bl false, SVal.lit IntKind.u32 (0 : Int), SVal.bl false]) = T.ret (SVal.agg [SVal.int IntKind.i64 (q.a.1.tmod (3 : Int)), SVal.int IntKind.i64 q.a.2, SVal.lit IntKind.i64 (20 : Int), SVal.bl false, SVal.lit IntKind.u32 (0 : Int), SVal.bl false]))
 (.eq (T.ret (SVal.agg [SVal.int IntKind.i64 (q.a.1.tmod (3 : Int)), SVal.int IntKind.i64 q.a.2, SVal.lit IntKind.i64 (20 : Int), SVal.bl false, SVal.lit IntKind.u32 (0 : Int), SVal.bl false]) = T.ret (SVal.agg [SVal.int IntKind.i64 (q.a.1.tmod (3 : Int)), SVal.int IntKind.i64 q.a.2, SVal.lit IntKind.i64 (20 : Int), SVal.bl false, SVal.lit IntKind.u32 (0 : Int), SVal.bl false]))

 (.ret (.normal, [.sli 9 (.c 0) 1 (.v q.3.length) (some (.v q.4)), .ptr 7 0, .ptr 8 0, .ptr 1 0, .ptr 5 0, .ifc 74 (.ptr 10 0)], [.ro encLook [PUnit.unit], .own [.c (.sli 2 (.c 0) 1 (.v 3) (some (.v 3))), .c (.int .i64 (0 : Int))] 67, .own [.a (encInt IntKind.u32) 3 [(0 : Int), (0 : Int), (0 : Int)]] 45, .many encAd xs 86, .many encTw ys 78, .own [.c (.sli 6 (.c 0) 1 (.v 3) (some (.v 3))), .c (.int .i64 (0 : Int))] 67, .own [.a (encInt IntKind.u32) 3 [(0 : Int), (0 : Int), (0 : Int)]] 45, .own [.c (.int .u8 q.a.1), .c (.int .i64 q.a.2), .c (.int .i64 q.a.3)] 51, .own [.c (.int .u8 q.b.1), .c (.int .i64 q.b.2), .c (.int .i64 q.b.3)] 51, .ro (encInt IntKind.i64) q.3, .own [.c (.int .i64 q.a.2), .c (.lit .i64 (20 : Int)), .c (.bl false), .c (.lit .u32 (0 : Int)), .c (SVal.fn (Fn.func 27) [] [])] 78])))))
 (.eq (T.ret (SVal.int IntKind.i64 q.a.2) = T.ret (SVal.int IntKind.i64 q.a.2))
 (.eq (T.ret (SVal.agg [SVal.int IntKind.i64 (q.a.1.tmod (3 : Int)), SVal.int IntKind.i64 q.a.2, SVal.lit IntKind.i64 (20 : Int), SVal.bl false, SVal.lit IntKind.u32 (0 : Int), SVal.bl false]) = T.ret (SVal.agg [SVal.int IntKind.i64 (q.a.1.tmod (3 : Int)), SVal.int IntKind.i64 q.a.2, SVal.lit IntKind.i64 (20 : Int), SVal.bl false, SVal.lit IntKind.u32 (0 : Int), SVal.bl false]))
 (.eq (T.ret (SVal.agg [SVal.int IntKind.i64 (q.a.1.tmod (3 : Int)), SVal.int IntKind.i64 q.a.2, SVal.lit IntKind.i64 (20 : Int), SVal.bl false, SVal.lit IntKind.u32 (0 : Int), SVal.bl false]) = T.ret (SVal.agg [SVal.int IntKind.i64 (q.a.1.tmod (3 : Int)), SVal.int IntKind.i64 q.a.2, SVal.lit IntKind.i64 (20 : Int), SVal.bl false, SVal.lit IntKind.u32 (0 : Int), SVal.bl false]))

 (.ret (.normal, [.sli 9 (.c 0) 1 (.v q.3.length) (some (.v q.4)), .ptr 7 0, .ptr 8 0, .ptr 1 0, .ptr 5 0, .ifc 74 (.ptr 10 0)], [.ro encLook [PUnit.unit], .own [.c (.sli 2 (.c 0) 1 (.v 3) (some (.v 3))), .c (.int .i64 (0 : Int))] 67, .own [.a (encInt IntKind.u32) 3 [(0 : Int), (0 : Int), (0 : Int)]] 45, .many encAd xs 86, .many encTw ys 78, .own [.c (.sli 6 (.c 0) 1 (.v 3) (some (.v 3))), .c (.int .i64 (0 : Int))] 67, .own [.a (encInt IntKind.u32) 3 [(0 : Int), (0 : Int), (0 : Int)]] 45, .own [.c (.int .u8 q.a.1), .c (.int .i64 q.a.2), .c (.int .i64 q.a.3)] 51, .own [.c (.int .u8 q.b.1), .c (.int .i64 q.b.2), .c (.int .i64 q.b.3)] 51, .ro (encInt IntKind.i64) q.3, .own [.c (.int .i64 q.a.2), .c (.lit .i64 (20 : Int)), .c (.bl false), .c (.lit .u32 (0 : Int)), .c (SVal.fn (Fn.func 30) [] [])] 78])))))))))

 (.need (inR .i64 q.a.1)

 (.need (true)

 (.br (q.a.1.tmod (3 : Int) == (0 : Int))
 (.eq (T.ret (SVal.int IntKind.i64 q.a.2) = T.ret (SVal.int IntKind.i64 q.a.2))
 (.eq (T.ret (SVal.int IntKind.i64 q.a.3) = T.ret (SVal.int IntKind.i64 q.a.3))
 (.eq (T.ret (SVal.agg [SVal.int IntKind.i64 (q.a.1.tmod (3 : Int)), SVal.int IntKind.i64 q.a.2, SVal.int IntKind.i64 q.a.3, SVal.bl false, SVal.lit IntKind.u32 (0 : Int), SVal.bl false]) = T.ret (SVal.agg [SVal.int IntKind.i64 (q.a.1.tmod (3 : Int)), SVal.int IntKind.i64 q.a.2, SVal.int IntKind.i64 q.a.3, SVal.bl false, SVal.lit IntKind.u32 (0 : Int), SVal.bl false]))
 (.eq (T.ret (SVal.agg [SVal.int IntKind.i64 (q.a.1.tmod (3 : Int)), SVal.int IntKind.i64 q.a.2, SVal.int IntKind.i64 q.a.3, SVal.bl false, SVal.lit IntKind.u32 (0 : Int), SVal.bl false]) = T.ret (SVal.agg [SVal.int IntKind.i64 (q.a.1.tmod (3 : Int)), SVal.int IntKind.i64 q.a.2, SVal.int IntKind.i64 q.a.3, SVal.bl false, SVal.lit IntKind.u32 (0 : Int), SVal.bl false]))

 (.ret (.normal, [.sli 9 (.c 0) 1 (.v q.3.length) (some (.v q.4)), .ptr 7 0, .ptr 8 0, .ptr 1 0, .ptr 5 0, .ifc 84 (.ptr 10 0)], [.ro encLook [PUnit.unit], .own [.c (.sli 2 (.c 0) 1 (.v 3) (some (.v 3))), .c (.int .i64 (0 : Int))] 67, .own [.a (encInt IntKind.u32) 3 [(0 : Int), (0 : Int), (0 : Int)]] 45, .many encAd xs 86, .many encTw ys 78, .own [.c (.sli 6 (.c 0) 1 (.v 3) (some (.v 3))), .c (.int .i64 (0 : Int))] 67, .own [.a (encInt IntKind.u32) 3 [(0 : Int), (0 : Int), (0 : Int)]] 45, .own [.c (.int .u8 q.a.1), .c (.int .i64 q.a.2), .c (.int .i64 q.a.3)] 51, .own [.c (.int .u8 q.b.1), .c (.int .i64 q.b.2), .c (.int .i64 q.b.3)] 51, .ro (encInt IntKind.i64) q.3, .own [.c (.int .i64 q.a.2), .c (.int .i64 q.a.3)] 86]))))))

 (.br (q.a.1.tmod (3 : Int) == (1 : Int))
 (.eq (T.ret (SVal.int IntKind.i64 q.a.2) = T.ret (SVal.int IntKind.i64 q.a.2))
 (.eq (T.ret (SVal.int IntKind.i64 q.a.3) = T.ret (SVal.int IntKind.i64 q.a.3))
 (.eq (T.ret (SVal.agg [SVal.int IntKind.i64 (q.a.1.tmod (3 : Int)), SVal.int IntKind.i64 q.a.2, SVal.int IntKind.i64 q.a.3, SVal.bl false, SVal.lit IntKind.u32 (0 : Int), SVal.bl false]) = T.ret (SVal.agg [SVal.int IntKind.i64 (q.a.1.tmod (3 : Int)), SVal.int IntKind.i64 q.a.2, SVal.int IntKind.i64 q.a.3, SVal.bl false, SVal.lit IntKind.u32 (0 : Int), SVal.bl false]))
 (.eq (T.ret (SVal.agg [SVal.int IntKind.i64 (q.a.1.tmod (3 : Int)), SVal.int IntKind.i64 q.a.2, SVal.int IntKind.i64 q.a.3, SVal.bl false, SVal.lit IntKind.u32 (0 : Int), SVal.bl false]) = T.ret (SVal.agg [SVal.int IntKind.i64 (q.a.1.tmod (3 : Int)), SVal.int IntKind.i64 q.a.2, SVal.int IntKind.i64 q.a.3, SVal.bl false, SVal.lit IntKind.u32 (0 : Int), SVal.bl false]))

 (.ret (.normal, [.sli 9 (.c 0) 1 (.v q.3.length) (some (.v q.4)), .ptr 7 0, .ptr 8 0, .ptr 1 0, .ptr 5 0, .ifc 74 (.ptr 10 0)], [.ro encLook [PUnit.unit], .own [.c (.sli 2 (.c 0) 1 (.v 3) (some (.v 3))), .c (.int .i64 (0 : Int))] 67, .own [.a (encInt IntKind.u32) 3 [(0 : Int), (0 : Int), (0 : Int)]] 45, .many encAd xs 86, .many encTw ys 78, .own [.c (.sli 6 (.c 0) 1 (.v 3) (some (.v 3))), .c (.int .i64 (0 : Int))] 67, .own [.a (encInt IntKind.u32) 3 [(0 : Int), (0 : Int), (0 : Int)]] 45, .own [.c (.int .u8 q.a.1), .c (.int .i64 q.a.2), .c (.int .i64 q.a.3)] 51, .own [.c (.int .u8 q.b.1), .c (.int .i64 q.b.2), .c (.int .i64 q.b.3)] 51, .ro (encInt IntKind.i64) q.3, .own [.c (.int .i64 q.a.2), .c (.int .i64 q.a.3), .c (.bl false), .c (.lit .u32 (0 : Int)), .c (SVal.fn (Fn.func 27) [] [])] 78]))))))
 (.eq (T.ret (SVal.int IntKind.i64 q.a.2) = T.ret (SVal.int IntKind.i64 q.a.2))
 (.eq (T.ret (SVal.int IntKind.i64 q.a.3) = T.ret (SVal.int IntKind.i64 q.a.3))
 (.eq (T.ret (SVal.agg [SVal.int IntKind.i64 (q.a.1.tmod (3 : Int)), SVal.int IntKind.i64 q.a.2, SVal.int IntKind.i64 q.a.3, SVal.bl false, SVal.lit IntKind.u32 (0 : Int), SVal.bl false]) = T.ret (SVal.agg [SVal.int IntKind.i64 (q.a.1.tmod (3 : Int)), SVal.int IntKind.i64 q.a.2, SVal.int IntKind.i64 q.a.3, SVal.bl false, SVal.lit IntKind.u32 (0 : Int), SVal.bl false]))
 (.eq (T.ret (SVal.agg [SVal.int IntKind.i64 (q.a.1.tmod (3 : Int)), SVal.int IntKind.i64 q.a.2, SVal.int IntKind.i64 q.a.3, SVal.bl false, SVal.lit IntKind.u32 (0 : Int), SVal.bl false]) = T.ret (SVal.agg [SVal.int IntKind.i64 (q.a.1.tmod (3 : Int)), SVal.int IntKind.i64 q.a.2, SVal.int IntKind.i64 q.a.3, SVal.bl false, SVal.lit IntKind.u32 (0 : Int), SVal.bl false]))

 (.ret (.normal, [.sli 9 (.c 0) 1 (.v q.3.length) (some (.v q.4)), .ptr 7 0, .ptr 8 0, .ptr 1 0, .ptr 5 0, .ifc 74 (.ptr 10 0)], [.ro encLook [PUnit.unit], .own [.c (.sli 2 (.c 0) 1 (.v 3) (some (.v 3))), .c (.int .i64 (0 : Int))] 67, .own [.a (encInt IntKind.u32) 3 [(0 : Int), (0 : Int), (0 : Int)]] 45, .many encAd xs 86, .many encTw ys 78, .own [.c (.sli 6 (.c 0) 1 (.v 3) (some (.v 3))), .c (.int .i64 (0 : Int))] 67, .own [.a (encInt IntKind.u32) 3 [(0 : Int), (0 : Int), (0 : Int)]] 45, .own [.c (.int .u8 q.a.1), .c (.int .i64 q.a.2), .c (.int .i64 q.a.3)] 51, .own [.c (.int .u8 q.b.1), .c (.int .i64 q.b.2), .c (.int .i64 q.b.3)] 51, .ro (encInt IntKind.i64) q.3, .own [.c (.int .i64 q.a.2), .c (.int .i64 q.a.3), .c (.bl false), .c (.lit .u32 (0 : Int)), .c (SVal.fn (Fn.func 30) [] [])] 78]))))))))))) := by kernel_rfl
set_option maxRecDepth 100000 in
theorem z_mkb {q : InA} {xs : List Ad} {ys : List Tw} {t0 : Bool × Nat} : (execN cfgM 100 1 (restC 5 b5) (fr 183 n5b (v5a q ++ [swV t0])) (sMa q xs ys)).bind (canonK 10 [(0,0)] 183 n5c) =
 

 (.br (decide ((20 : Int) < q.b.3))

 (.need (inR .i64 q.b.1)

 (.need (true)

 (.br (q.b.1.tmod (3 : Int) == (0 : Int))
 (.eq (T.ret (SVal.int IntKind.i64 q.b.2) = T.ret (SVal.int IntKind.i64 q.b.2))
 (.eq (T.ret (SVal.agg [SVal.int IntKind.i64 (q.b.1.tmod (3 : Int)), SVal.int IntKind.i64 q.b.2, SVal.lit IntKind.i64 (20 : Int), SVal.bl false, SVal.lit IntKind.u32 (0 : Int), SVal.bl false]) = T.ret (SVal.agg [SVal.int IntKind.i64 (q.b.1.tmod (3 : Int)), SVal.int IntKind.i64 q.b.2, SVal.lit IntKind.i64 (20 : Int), SVal.bl false, SVal.lit IntKind.u32 (0 : Int), SVal.bl false]))
 (.eq (T.ret (SVal.agg [SVal.int IntKind.i64 (q.b.1.tmod (3 : Int)), SVal.int IntKind.i64 q.b.2, SVal.lit IntKind.i64 (20 : Int), SVal.bl false, SVal.lit IntKind.u32 (0 : Int), SVal.bl false]) = T.ret (SVal.agg [SVal.int IntKind.i64 (q.b.1.tmod (3 : Int)), SVal.int IntKind.i64 q.b.2, SVal.lit IntKind.i64 (20 : Int), SVal.bl false, SVal.lit IntKind.u32 (0 : Int), SVal.bl false]))

 (.ret (.normal, [.sli 9 (.c 0) 1 (.v q.3.length) (some (.v q.4)), .ptr 7 0, .ptr 8 0, .ptr 1 0, .ptr 5 0, .sw t0.1 (.ifc 84 (.pto 3 t0.2 0)) (.ifc 74 (.pto 4 t0.2 0)), .ifc 84 (.ptr 10 0)], [.ro encLook [PUnit.unit], .own [.c (.sli 2 (.c 0) 1 (.v 3) (some (.v 3))), .c (.int .i64 (0 : Int))] 67, .own [.a (encInt IntKind.u32) 3 [(0 : Int), (0 : Int), (0 : Int)]] 45, .many encAd xs 86, .many encTw ys 78, .own [.c (.sli 6 (.c 0) 1 (.v 3) (some (.v 3))), .c (.int .i64 (0 : Int))] 67, .own [.a (encInt IntKind.u32) 3 [(0 : Int), (0 : Int), (0 : Int)]] 45, .own [.c (.int .u8 q.a.1), .c (.int .i64 q.a.2), .c (.int .i64 q.a.3)] 51, .own [.c (.int .u8 q.b.1), .c (.int .i64 q.b.2), .c (.int .i64 q.b.3)] 51, .ro (encInt IntKind.i64) q.3, .own [.c (.int .i64 q.b.2), .c (.lit .i64 (20 : Int))] 86])))))

 (.br (q.b.1.tmod (3 : Int) == (1 : Int))
 (.eq (T.ret (SVal.int IntKind.i64 q.b.2) = T.ret (SVal.int IntKind.i64 q.b.2))
 (.eq (T.ret (SVal.agg [SVal.int IntKind.i64 (q.b.1.tmod (3 : Int)), SVal.int IntKind.i64 q.b.2, SVal.lit IntKind.i64 (20 : Int), SVal.bl false, SVal.lit IntKind.u32 (0 : Int), SVal.bl false]) = T.ret (SVal.agg [SVal.int IntKind.i64 (q.b.1.tmod (3 : Int)), SVal.int IntKind.i64 q.b.2, SVal.lit IntKind.i64 (20 : Int), SVal.bl false, SVal.lit IntKind.u32 (0 : Int), SVal.bl false]))
 (.eq (T.ret (SVal.agg [SVal.int IntKind.i64 (q.b.1.tmod (3 : Int)), SVal.int IntKind.i64 q.b.2, SVal.lit IntKind.i64 (20 : Int), SVal.bl false, SVal.lit IntKind.u32 (0 : Int), SVal.bl false]) = T.ret (SVal.agg [SVal.int IntKind.i64 (q.b.1.tmod (3 : Int)), SVal.int IntKind.i64 q.b.2, SVal.lit IntKind.i64 (20 : Int), SVal.bl false, SVal.lit IntKind.u32 (0 : Int), SVal.bl false]))

 (.ret (.normal, [.sli 9 (.c 0) 1 (.v q.3.length) (some (.v q.4)), .ptr 7 0, .ptr 8 0, .ptr 1 0, .ptr 5 0, .sw t0.1 (.ifc 84 (.pto 3 t0.2 0)) (.ifc 74 (.pto 4 t0.2 0)), .ifc 74 (.ptr 10 0)], [.ro encLook [PUnit.unit], .own [.c (.sli 2 (.c 0) 1 (.v 3) (some (.v 3))), .c (.int .i64 (0 : Int))] 67, .own [.a (encInt IntKind.u32) 3 [(0 : Int), (0 : Int), (0 : Int)]] 45, .many encAd xs 86, .many encTw ys 78, .own [.c (.sli 6 (.c 0) 1 (.v 3) (some (.v 3))), .c (.int .i64 (0 : Int))] 67, .own [.a (encInt IntKind.u32) 3 [(0 : Int), (0 : Int), (0 : Int)]] 45, .own [.c (.int .u8 q.a.1), .c (.int .i64 q.a.2), .c (.int .i64 q.a.3)] 51, .own [.c (.int .u8 q.b.1), .c (.int .i64 q.b.2), .c (.int .i64 q.b.3)] 51, .ro (encInt IntKind.i64) q.3, .own [.c (.int .i64 q.b.2), .c (.lit .i64 (20 : Int)), .c (.bl false), .c (.lit .u32 (0 : Int)), .c (SVal.fn (Fn.func 27) [] [])] 78])))))
 (.eq (T.ret (SVal.int IntKind.i64 q.b.2) = T.ret (SVal.int IntKind.i64 q.b.2))
 (.eq (T.ret (SVal.agg [SVal.int IntKind.i64 (q.b.1.tmod (3 : Int)), SVal.int IntKind.i64 q.b.2, SVal.lit IntKind.i64 (20 : Int), SVal.bl false, SVal.lit IntKind.u32 (0 : Int), SVal.bl false]) = T.ret (SVal.agg [SVal.int IntKind.i64 (q.b.1.tmod (3 : Int)), SVal.int IntKind.i64 q.b.2, SVal.lit IntKind.i64 (20 : Int), SVal.bl false, SVal.lit IntKind.u32 (0 : Int), SVal.bl false]))
 (.eq (T.ret (SVal.agg [SVal.int IntKind.i64 (q.b.1.tmod (3 : Int)), SVal.int IntKind.i64 q.b.2, SVal.lit IntKind.i64 (20 : Int), SVal.bl false, SVal.lit IntKind.u32 (0 : Int), SVal.bl false]) = T.ret (SVal.agg [SVal.int IntKind.i64 (q.b.1.tmod (3 : Int)), SVal.int IntKind.i64 q.b.2, SVal.lit IntKind.i64 (20 : Int), SVal.bl false, SVal.lit IntKind.u32 (0 : Int), SVal.bl false]))

 (.ret (.normal, [.sli 9 (.c 0) 1 (.v q.3.length) (some (.v q.4)), .ptr 7 0, .ptr 8 0, .ptr 1 0, .ptr 5 0, .sw t0.1 (.ifc 84 (.pto 3 t0.2 0)) (.ifc 74 (.pto 4 t0.2 0)), .ifc 74 (.ptr 10 0)], [.ro encLook [PUnit.unit], .own [.c (.sli 2 (.c 0) 1 (.v 3) (some (.v 3))), .c (.int .i64 (0 : Int))] 67, .own [.a (encInt IntKind.u32) 3 [(0 : Int), (0 : Int), (0 : Int)]] 45, .many encAd xs 86, .many encTw ys 78, .own [.c (.sli 6 (.c 0) 1 (.v 3) (some (.v 3))), .c (.int .i64 (0 : Int))] 67, .own [.a (encInt IntKind.u32) 3 [(0 : Int), (0 : Int), (0 : Int)]] 45, .own [.c (.int .u8 q.a.1), .c (.int .i64 q.a.2), .c (.int .i64 q.a.3)] 51, .own [.c (.int .u8 q.b.1), .c (.int .i64 q.b.2), .c (.int .i64 q.b.3)] 51, .ro (encInt IntKind.i64) q.3, .own [.c (.int .i64 q.b.2), .c (.lit .i64 (20 : Int)), .c (.bl false), .c (.lit .u32 (0 : Int)), .c (SVal.fn (Fn.func 30) [] [])] 78])))))))))

 (.need (inR .i64 q.b.1)

 (.need (true)

 (.br (q.b.1.tmod (3 : Int) == (0 : Int))
 (.eq (T.ret (SVal.int IntKind.i64 q.b.2) = T.ret (SVal.int IntKind.i64 q.b.2))
 (.eq (T.ret (SVal.int IntKind.i64 q.b.3) = T.ret (SVal.int IntKind.i64 q.b.3))
 (.eq (T.ret (SVal.agg [SVal.int IntKind.i64 (q.b.1.tmod (3 : Int)), SVal.int IntKind.i64 q.b.2, SVal.int IntKind.i64 q.b.3, SVal.bl false, SVal.lit IntKind.u32 (0 : Int), SVal.bl false]) = T.ret (SVal.agg [SVal.int IntKind.i64 (q.b.1.tmod (3 : Int)), SVal.int IntKind.i64 q.b.2, SVal.int IntKind.i64 q.b.3, SVal.bl false, SVal.lit IntKind.u32 (0 : Int), SVal.bl false]))
 (.eq (T.ret (SVal.agg [SVal.int IntKind.i64 (q.b.1.tmod (3 : Int)), SVal.int IntKind.i64 q.b.2, SVal.int IntKind.i64 q.b.3, SVal.bl false, SVal.lit IntKind.u32 (0 : Int), SVal.bl false]) = T.ret (SVal.agg [SVal.int IntKind.i64 (q.b.1.tmod (3 : Int)), SVal.int IntKind.i64 q.b.2, SVal.int IntKind.i64 q.b.3, SVal.bl false, SVal.lit IntKind.u32 (0 : Int), SVal.bl false]))

 (.ret (.normal, [.sli 9 (.c 0) 1 (.v q.3.length) (some (.v q.4)), .ptr 7 0, .ptr 8 0, .ptr 1 0, .ptr 5 0, .sw t0.1 (.ifc 84 (.pto 3 t0.2 0)) (.ifc 74 (.pto 4 t0.2 0)), .ifc 84 (.ptr 10 0)], [.ro encLook [PUnit.unit], .own [.c (.sli 2 (.c 0) 1 (.v 3) (some (.v 3))), .c (.int .i64 (0 : Int))] 67, .own [.a (encInt IntKind.u32) 3 [(0 : Int), (0 : Int), (0 : Int)]] 45, .many encAd xs 86, .many encTw ys 78, .own [.c (.sli 6 (.c 0) 1 (.v 3) (some (.v 3))), .c (.int .i64 (0 : Int))] 67, .own [.a (encInt IntKind.u32) 3 [(0 : Int), (0 : Int), (0 : Int)]] 45, .own [.c (.int .u8 q.a.1), .c (.int .i64 q.a.2), .c (.int .i64 q.a.3)] 51, .own [.c (.int .u8 q.b.1), .c (.int .i64 q.b.2), .c (.int .i64 q.b.3)] 51, .ro (encInt IntKind.i64) q.3, .own [.c (.int .i64 q.b.2), .c (.int .i64 q.b.3)] 86]))))))

 (.br (q.b.1.tmod (3 : Int) == (1 : Int))
 (.eq (T.ret (SVal.int IntKind.i64 q.b.2) = T.ret (SVal.int IntKind.i64 q.b.2))
 (.eq (T.ret (SVal.int IntKind.i64 q.b.3) = T.ret (SVal.int IntKind.i64 q.b.3))
 (.eq (T.ret (SVal.agg [SVal.int IntKind.i64 (q.b.1.tmod (3 : Int)), SVal.int IntKind.i64 q.b.2, SVal.int IntKind.i64 q.b.3, SVal.bl false, SVal.lit IntKind.u32 (0 : Int), SVal.bl false]) = T.ret (SVal.agg [SVal.int IntKind.i64 (q.b.1.tmod (3 : Int)), SVal.int IntKind.i64 q.b.2, SVal.int IntKind.i64 q.b.3, SVal.bl false, SVal.lit IntKind.u32 (0 : Int), SVal.bl false]))
 (.eq (T.ret (SVal.agg [SVal.int IntKind.i64 (q.b.1.tmod (3 : Int)), SVal.int IntKind.i64 q.b.2, SVal.int IntKind.i64 q.b.3, SVal.bl false, SVal.lit IntKind.u32 (0 : Int), SVal.bl false]) = T.ret (SVal.agg [SVal.int IntKind.i64 (q.b.1.tmod (3 : Int)), SVal.int IntKind.i64 q.b.2, SVal.int IntKind.i64 q.b.3, SVal.bl false, SVal.lit IntKind.u32 (0 : Int), SVal.bl false]))

 (.ret (.normal, [.sli 9 (.c 0) 1 (.v q.3.length) (some (.v q.4)), .ptr 7 0, .ptr 8 0, .ptr 1 0, .ptr 5 0, .sw t0.1 (.ifc 84 (.pto 3 t0.2 0)) (.ifc 74 (.pto 4 t0.2 0)), .ifc 74 (.ptr 10 0)], [.ro encLook [PUnit.unit], .own [.c (.sli 2 (.c 0) 1 (.v 3) (some (.v 3))), .c (.int .i64 (0 : Int))] 67, .own [.a (encInt IntKind.u32) 3 [(0 : Int), (0 : Int), (0 : Int)]] 45, .many encAd xs 86, .many encTw ys 78, .own [.c (.sli 6 (.c 0) 1 (.v 3) (some (.v 3))), .c (.int .i64 (0 : Int))] 67, .own [.a (encInt IntKind.u32) 3 [(0 : Int), (0 : Int), (0 : Int)]] 45, .own [.c (.int .u8 q.a.1), .c (.int .i64 q.a.2), .c (.int .i64 q.a.3)] 51, .own [.c (.int .u8 q.b.1), .c (.int .i64 q.b.2), .c (.int .i64 q.b.3)] 51, .ro (encInt IntKind.i64) q.3, .own [.c (.int .i64 q.b.2), .c (.int .i64 q.b.3), .c (.bl false), .c (.lit .u32 (0 : Int)), .c (SVal.fn (Fn.func 27) [] [])] 78]))))))
 (.eq (T.ret (SVal.int IntKind.i64 q.b.2) = T.ret (SVal.int IntKind.i64 q.b.2))
 (.eq (T.ret (SVal.int IntKind.i64 q.b.3) = T.ret (SVal.int IntKind.i64 q.b.3))
 (.eq (T.ret (SVal.agg [SVal.int IntKind.i64 (q.b.1.tmod (3 : Int)), SVal.int IntKind.i64 q.b.2, SVal.int IntKind.i64 q.b.3, SVal.bl false, SVal.lit IntKind.u32 (0 : Int), SVal.bl false]) = T.ret (SVal.agg [SVal.int IntKind.i64 (q.b.1.tmod (3 : Int)), SVal.int IntKind.i64 q.b.2, SVal.int IntKind.i64 q.b.3, SVal.bl false, SVal.lit IntKind.u32 (0 : Int), SVal.bl false]))
 (.eq (T.ret (SVal.agg [SVal.int IntKind.i64 (q.b.1.tmod (3 : Int)), SVal.int IntKind.i64 q.b.2, SVal.int IntKind.i64 q.b.3, SVal.bl false, SVal.lit IntKind.u32 (0 : Int), SVal.bl false]) = T.ret (SVal.agg [SVal.int IntKind.i64 (q.b.1.tmod (3 : Int)), SVal.int IntKind.i64 q.b.2, SVal.int IntKind.i64 q.b.3, SVal.bl false, SVal.lit IntKind.u32 (0 : Int), SVal.bl false]))

 (.ret (.normal, [.sli 9 (.c 0) 1 (.v q.3.length) (some (.v q.4)), .ptr 7 0, .ptr 8 0, .ptr 1 0, .ptr 5 0, .sw t0.1 (.ifc 84 (.pto 3 t0.2 0)) (.ifc 74 (.pto 4 t0.2 0)), .ifc 74 (.ptr 10 0)], [.ro encLook [PUnit.unit], .own [.c (.sli 2 (.c 0) 1 (.v 3) (some (.v 3))), .c (.int .i64 (0 : Int))] 67, .own [.a (encInt IntKind.u32) 3 [(0 : Int), (0 : Int), (0 : Int)]] 45, .many encAd xs 86, .many encTw ys 78, .own [.c (.sli 6 (.c 0) 1 (.v 3) (some (.v 3))), .c (.int .i64 (0 : Int))] 67, .own [.a (encInt IntKind.u32) 3 [(0 : Int), (0 : Int), (0 : Int)]] 45, .own [.c (.int .u8 q.a.1), .c (.int .i64 q.a.2), .c (.int .i64 q.a.3)] 51, .own [.c (.int .u8 q.b.1), .c (.int .i64 q.b.2), .c (.int .i64 q.b.3)] 51, .ro (encInt IntKind.i64) q.3, .own [.c (.int .i64 q.b.2), .c (.int .i64 q.b.3), .c (.bl false), .c (.lit .u32 (0 : Int)), .c (SVal.fn (Fn.func 30) [] [])] 78]))))))))))) := by kernel_rfl
set_option maxRecDepth 100000 in
theorem z_mkc {q : InA} {xs : List Ad} {ys : List Tw} {t0 t1 : Bool × Nat} : (execN cfgM 100 1 (restC 6 b5) (fr 183 n5c (v5a q ++ [swV t0, swV t1])) (sMa q xs ys)).bind (canonK 10 [(0,0)] 183 n5d) =
 

 (.br (decide ((20 : Int) < q.a.3))

 (.need (inR .i64 q.a.1)

 (.need (true)

 (.br (q.a.1.tmod (3 : Int) == (0 : Int))
 (.eq (T.ret (SVal.int IntKind.i64 q.a.2) = T.ret (SVal.int IntKind.i64 q.a.2))
 (.eq (T.ret (SVal.agg [SVal.int IntKind.i64 (q.a.1.tmod (3 : Int)), SVal.int IntKind.i64 q.a.2, SVal.lit IntKind.i64 (20 : Int), SVal.bl false, SVal.lit IntKind.u32 (0 : Int), SVal.bl false]) = T.ret (SVal.agg [SVal.int IntKind.i64 (q.a.1.tmod (3 : Int)), SVal.int IntKind.i64 q.a.2, SVal.lit IntKind.i64 (20 : Int), SVal.bl false, SVal.lit IntKind.u32 (0 : Int), SVal.bl false]))
 (.eq (T.ret (SVal.agg [SVal.int IntKind.i64 (q.a.1.tmod (3 : Int)), SVal.int IntKind.i64 q.a.2, SVal.lit IntKind.i64 (20 : Int), SVal.bl false, SVal.lit IntKind.u32 (0 : Int), SVal.bl false]) = T.ret (SVal.agg [SVal.int IntKind.i64 (q.a.1.tmod (3 : Int)), SVal.int IntKind.i64 q.a.2, SVal.lit IntKind.i64 (20 : Int), SVal.bl false, SVal.lit IntKind.u32 (0 : Int), SVal.bl false]))

 (.ret (.normal, [.sli 9 (.c 0) 1 (.v q.3.length) (some (.v q.4)), .ptr 7 0, .ptr 8 0, .ptr 1 0, .ptr 5 0, .sw t0.1 (.ifc 84 (.pto 3 t0.2 0)) (.ifc 74 (.pto 4 t0.2 0)), .sw t1.1 (.ifc 84 (.pto 3 t1.2 0)) (.ifc 74 (.pto 4 t1.2 0)), .ifc 84 (.ptr 10 0)], [.ro encLook [PUnit.unit], .own [.c (.sli 2 (.c 0) 1 (.v 3) (some (.v 3))), .c (.int .i64 (0 : Int))] 67, .own [.a (encInt IntKind.u32) 3 [(0 : Int), (0 : Int), (0 : Int)]] 45, .many encAd xs 86, .many encTw ys 78, .own [.c (.sli 6 (.c 0) 1 (.v 3) (some (.v 3))), .c (.int .i64 (0 : Int))] 67, .own [.a (encInt IntKind.u32) 3 [(0 : Int), (0 : Int), (0 : Int)]] 45, .own [.c (.int .u8 q.a.1), .c (.int .i64 q.a.2), .c (.int .i64 q.a.3)] 51, .own [.c (.int .u8 q.b.1), .c (.int .i64 q.b.2), .c (.int .i64 q.b.3)] 51, .ro (encInt IntKind.i64) q.3, .own [.c (.int .i64 q.a.2), .c (.lit .i64 (20 : Int))] 86])))))

 (.br (q.a.1.tmod (3 : Int) == (1 : Int))
 (.eq (T.ret (SVal.int IntKind.i64 q.a.2) = T.ret (SVal.int IntKind.i64 q.a.2))
 (.eq (T.ret (SVal.agg [SVal.int IntKind.i64 (q.a.1.tmod (3 : Int)), SVal.int IntKind.i64 q.a.2, SVal.lit IntKind.i64 (20 : Int), SVal.bl false, SVal.lit IntKind.u32 (0 : Int), SVal.bl false]) = T.ret (SVal.agg [SVal.int IntKind.i64 (q.a.1.tmod (3 : Int)), SVal.int IntKind.i64 q.a.2, SVal.lit IntKind.i64 (20 : Int), SVal.bl false, SVal.lit IntKind.u32 (0 : Int), SVal.bl false]))
 (.eq (T.ret (SVal.agg [SVal.int IntKind.i64 (q.a.1.tmod (3 : Int)), SVal.int IntKind.i64 q.a.2, SVal.lit IntKind.i64 (20 : Int), SVal.bl false, SVal.lit IntKind.u32 (0 : Int), SVal.bl false]) = T.ret (SVal.agg [SVal.int IntKind.i64 (q.a.1.tmod (3 : Int)), SVal.int IntKind.i64 q.a.2, SVal.lit IntKind.i64 (20 : Int), SVal.bl false, SVal.lit IntKind.u32 (0 : Int), SVal.bl false]))

 (.ret (.normal, [.sli 9 (.c 0) 1 (.v q.3.length) (some (.v q.4)), .ptr 7 0, .ptr 8 0, .ptr 1 0, .ptr 5 0, .sw t0.1 (.ifc 84 (.pto 3 t0.2 0)) (.ifc 74 (.pto 4 t0.2 0)), .sw t1.1 (.ifc 84 (.pto 3 t1.2 0)) (.ifc 74 (.pto 4 t1.2 0)), .ifc 74 (.ptr 10 0)], [.ro encLook [PUnit.unit], .own [.c (.sli 2 (.c 0) 1 (.v 3) (some (.v 3))), .c (.int .i64 (0 : Int))] 67, .own [.a (encInt IntKind.u32) 3 [(0 : Int), (0 : Int), (0 : Int)]] 45, .many encAd xs 86, .many encTw ys 78, .own [.c (.sli 6 (.c 0) 1 (.v 3) (some (.v 3))), .c (.int .i64 (0 : Int))] 67, .own [.a (encInt IntKind.u32) 3 [(0 : Int), (0 : Int), (0 : Int)]] 45, .own [.c (.int .u8 q.a.1), .c (.int .i64 q.a.2), .c (.int .i64 q.a.3)] 51, .own [.c (.int .u8 q.b.1), .c (.int .i64 q.b.2), .c (.int .i64 q.b.3)] 51, .ro (encInt IntKind.i64) q.3, .own [.c (.int .i64 q.a.2), .c (.lit .i64 (20 : Int)), .c (.bl false), .c (.lit .u32 (0 : Int)), .c (SVal.fn (Fn.func 27) [] [])] 78])))))
 (.eq (T.ret (SVal.int IntKind.i64 q.a.2) = T.ret (SVal.int IntKind.i64 q.a.2))
 (.eq (T.ret (SVal.agg [SVal.int IntKind.i64 (q.a.1.tmod (3 : Int)), SVal.int IntKind.i64 q.a.2, SVal.lit IntKind.i64 (20 : Int), SVal.bl false, SVal.lit IntKind.u32 (0 : Int), SVal.bl false]) = T.ret (SVal.agg [SVal.int IntKind.i64 (q.a.1.tmod (3 : Int)), SVal.int IntKind.i64 q.a.2, SVal.lit IntKind.i64 (20 : Int), SVal.bl false, SVal.lit IntKind.u32 (0 : Int), SVal.bl false]))
 (.eq (T.ret (SVal.agg [SVal.int IntKind.i64 (q.a.1.tmod (3 : Int)), SVal.int IntKind.i64 q.a.2, SVal.lit IntKind.i64 (20 : Int), SVal.bl false, SVal.lit IntKind.u32 (0 : Int), SVal.bl false]) = T.ret (SVal.agg [SVal.int IntKind.i64 (q.a.1.tmod (3 : Int)), SVal.int IntKind.i64 q.a.2, SVal.lit IntKind.i64 (20 : Int), SVal.bl false, SVal.lit IntKind.u32 (0 : Int), SVal.bl false]))

 (.ret (.normal, [.sli 9 (.c 0) 1 (.v q.3.length) (some (.v q.4)), .ptr 7 0, .ptr 8 0, .ptr 1 0, .ptr 5 0, .sw t0.1 (.ifc 84 (.pto 3 t0.2 0)) (.ifc 74 (.pto 4 t0.2 0)), .sw t1.1 (.ifc 84 (.pto 3 t1.2 0)) (.ifc 74 (.pto 4 t1.2 0)), .ifc 74 (.ptr 10 0)], [.ro encLook [PUnit.unit], .own [.c (.sli 2 (.c 0) 1 (.v 3) (some (.v 3))), .c (.int .i64 (0 : Int))] 67, .own [.a (encInt IntKind.u32) 3 [(0 : Int), (0 : Int), (0 : Int)]] 45, .many encAd xs 86, .many encTw ys 78, .own [.c (.sli 6 (.c 0) 1 (.v 3) (some (.v 3))), .c (.int .i64 (0 : Int))] 67, .own [.a (encInt IntKind.u32) 3 [(0 : Int), (0 : Int), (0 : Int)]] 45, .own [.c (.int .u8 q.a.1), .c (.int .i64 q.a.2), .c (.int .i64 q.a.3)] 51, .own [.c (.int .u8 q.b.1), .c (.int .i64 q.b.2), .c (.int .i64 q.b.3)] 51, .ro (encInt IntKind.i64) q.3, .own [.c (.int .i64 q.a.2), .c (.lit .i64 (20 : Int)), .c (.bl false), .c (.lit .u32 (0 : Int)), .c (SVal.fn (Fn.func 30) [] [])] 78])))))))))

 (.need (inR .i64 q.a.1)

 (.need (true)

 (.br (q.a.1.tmod (3 : Int) == (0 : Int))
 (.eq (T.ret (SVal.int IntKind.i64 q.a.2) = T.ret (SVal.int IntKind.i64 q.a.2))
 (.eq (T.ret (SVal.int IntKind.i64 q.a.3) = T.ret (SVal.int IntKind.i64 q.a.3))
 (.eq (T.ret (SVal.agg [SVal.int IntKind.i64 (q.a.1.tmod (3 : Int)), SVal.int IntKind.i64 q.a.2, SVal.int IntKind.i64 q.a.3, SVal.bl false, SVal.lit IntKind.u32 (0 : Int), SVal.bl false]) = T.ret (SVal.agg [SVal.int IntKind.i64 (q.a.1.tmod (3 : Int)), SVal.int IntKind.i64 q.a.2, SVal.int IntKind.i64 q.a.3, SVal.bl false, SVal.lit IntKind.u32 (0 : Int), SVal.bl false]))
 (.eq (T.ret (SVal.agg [SVal.int IntKind.i64 (q.a.1.tmod (3 : Int)), SVal.int IntKind.i64 q.a.2, SVal.int IntKind.i64 q.a.3, SVal.bl false, SVal.lit IntKind.u32 (0 : Int), SVal.bl false]) = T.ret (SVal.agg [SVal.int IntKind.i64 (q.a.1.tmod (3 : Int)), SVal.int IntKind.i64 q.a.2, SVal.int IntKind.i64 q.a.3, SVal.bl false, SVal.lit IntKind.u32 (0 : Int), SVal.bl false]))

 (.ret (.normal, [.sli 9 (.c 0) 1 (.v q.3.length) (some (.v q.4)), .ptr 7 0, .ptr 8 0, .ptr 1 0, .ptr 5 0, .sw t0.1 (.ifc 84 (.pto 3 t0.2 0)) (.ifc 74 (.pto 4 t0.2 0)), .sw t1.1 (.ifc 84 (.pto 3 t1.2 0)) (.ifc 74 (.pto 4 t1.2 0)), .ifc 84 (.ptr 10 0)], [.ro encLook [PUnit.unit], .own [.c (.sli 2 (.c 0) 1 (.v 3) (some (.v 3))), .c (.int .i64 (0 : Int))] 67, .own [.a (encInt IntKind.u32) 3 [(0 : Int), (0 : Int), (0 : Int)]] 45, .many encAd xs 86, .many encTw ys 78, .own [.c (.sli 6 (.c 0) 1 (.v 3) (some (.v 3))), .c (.int .i64 (0 : Int))] 67, .own [.a (encInt IntKind.u32) 3 [(0 : Int), (0 : Int), (0 : Int)]] 45, .own [.c (.int .u8 q.a.1), .c (.int .i64 q.a.2), .c (.int .i64 q.a.3)] 51, .own [.c (.int .u8 q.b.1), .c (.int .i64 q.b.2), .c (.int .i64 q.b.3)] 51, .ro (encInt IntKind.i64) q.3, .own [.c (.int .i64 q.a.2), .c (.int .i64 q.a.3)] 86]))))))

 (.br (q.a.1.tmod (3 : Int) == (1 : Int))
 (.eq (T.ret (SVal.int IntKind.i64 q.a.2) = T.ret (SVal.int IntKind.i64 q.a.2))
 (.eq (T.ret (SVal.int IntKind.i64 q.a.3) = T.ret (SVal.int IntKind.i64 q.a.3))
 (.eq (T.ret (SVal.agg [SVal.int IntKind.i64 (q.a.1.tmod (3 : Int)), SVal.int IntKind.i64 q.a.2, SVal.int IntKind.i64 q.a.3, SVal.bl false, SVal.lit IntKind.u32 (0 : Int), SVal.bl false]) = T.ret (SVal.agg [SVal.int IntKind.i64 (q.a.1.tmod (3 : Int)), SVal.int IntKind.i64 q.a.2, SVal.int IntKind.i64 q.a.3, SVal.bl false, SVal.lit IntKind.u32 (0 : Int), SVal.bl false]))
 (.eq (T.ret (SVal.agg [SVal.int IntKind.i64 (q.a.1.tmod (3 : Int)), SVal.int IntKind.i64 q.a.2, SVal.int IntKind.i64 q.a.3, SVal.bl false, SVal.lit IntKind.u32 (0 : Int), SVal.bl false]) = T.ret (SVal.agg [SVal.int IntKind.i64 (q.a.1.tmod (3 : Int)), SVal.int IntKind.i64 q.a.2, SVal.int IntKind.i64 q.a.3, SVal.bl false, SVal.lit IntKind.u32 (0 : Int), SVal.bl false]))

 (.ret (.normal, [.sli 9 (.c 0) 1 (.v q.3.length) (some (.v q.4)), .ptr 7 0, .ptr 8 0, .ptr 1 0, .ptr 5 0, .sw t0.1 (.ifc 84 (.pto 3 t0.2 0)) (.ifc 74 (.pto 4 t0.2 0)), .sw t1.1 (.ifc 84 (.pto 3 t1.2 0)) (.ifc 74 (.pto 4 t1.2 0)), .ifc 74 (.ptr 10 0)], [.ro encLook [PUnit.unit], .own [.c (.sli 2 (.c 0) 1 (.v 3) (some (.v 3))), .c (.int .i64 (0 : Int))] 67, .own [.a (encInt IntKind.u32) 3 [(0 : Int), (0 : Int), (0 : Int)]] 45, .many encAd xs 86, .many encTw ys 78, .own [.c (.sli 6 (.c 0) 1 (.v 3) (some (.v 3))), .c (.int .i64 (0 : Int))] 67, .own [.a (encInt IntKind.u32) 3 [(0 : Int), (0 : Int), (0 : Int)]] 45, .own [.c (.int .u8 q.a.1), .c (.int .i64 q.a.2), .c (.int .i64 q.a.3)] 51, .own [.c (.int .u8 q.b.1), .c (.int .i64 q.b.2), .c (.int .i64 q.b.3)] 51, .ro (encInt IntKind.i64) q.3, .own [.c (.int .i64 q.a.2), .c (.int .i64 q.a.3), .c (.bl false), .c (.lit .u32 (0 : Int)), .c (SVal.fn (Fn.func 27) [] [])] 78]))))))
 (.eq (T.ret (SVal.int IntKind.i64 q.a.2) = T.ret (SVal.int IntKind.i64 q.a.2))
 (.eq (T.ret (SVal.int IntKind.i64 q.a.3) = T.ret (SVal.int IntKind.i64 q.a.3))
 (.eq (T.ret (SVal.agg [SVal.int IntKind.i64 (q.a.1.tmod (3 : Int)), SVal.int IntKind.i64 q.a.2, SVal.int IntKind.i64 q.a.3, SVal.bl false, SVal.lit IntKind.u32 (0 : Int), SVal.bl false]) = T.ret (SVal.agg [SVal.int IntKind.i64 (q.a.1.tmod (3 : Int)), SVal.int IntKind.i64 q.a.2, SVal.int IntKind.i64 q.a.3, SVal.bl false, SVal.lit IntKind.u32 (0 : Int), SVal.bl false]))
 (.eq (T.ret (SVal.agg [SVal.int IntKind.i64 (q.a.1.tmod (3 : Int)), SVal.int IntKind.i64 q.a.2, SVal.int IntKind.i64 q.a.3, SVal.bl false, SVal.lit IntKind.u32 (0 : Int), SVal.bl false]) = T.ret (SVal.agg [SVal.int IntKind.i64 (q.a.1.tmod (3 : Int)), SVal.int IntKind.i64 q.a.2, SVal.int IntKind.i64 q.a.3, SVal.bl false, SVal.lit IntKind.u32 (0 : Int), SVal.bl false]))

 (.ret (.normal, [.sli 9 (.c 0) 1 (.v q.3.length) (some (.v q.4)), .ptr 7 0, .ptr 8 0, .ptr 1 0, .ptr 5 0, .sw t0.1 (.ifc 84 (.pto 3 t0.2 0)) (.ifc 74 (.pto 4 t0.2 0)), .sw t1.1 (.ifc 84 (.pto 3 t1.2 0)) (.ifc 74 (.pto 4 t1.2 0)), .ifc 74 (.ptr 10 0)], [.ro encLook [PUnit.unit], .own [.c (.sli 2 (.c 0) 1 (.v 3) (some (.v 3))), .c (.int .i64 (0 : Int))] 67, .own [.a (encInt IntKind.u32) 3 [(0 : Int), (0 : Int), (0 : Int)]] 45, .many encAd xs 86, .many encTw ys 78, .own [.c (.sli 6 (.c 0) 1 (.v 3) (some (.v 3))), .c (.int .i64 (0 : Int))] 67, .own [.a (encInt IntKind.u32) 3 [(0 : Int), (0 : Int), (0 : Int)]] 45, .own [.c (.int .u8 q.a.1), .c (.int .i64 q.a.2), .c (.int .i64 q.a.3)] 51, .own [.c (.int .u8 q.b.1), .c (.int .i64 q.b.2), .c (.int .i64 q.b.3)] 51, .ro (encInt IntKind.i64) q.3, .own [.c (.int .i64 q.a.2), .c (.int .i64 q.a.3), .c (.bl false), .c (.lit .u32 (0 : Int)), .c (SVal.fn (Fn.func 30) [] [])] 78]))))))))))) := by kernel_rfl
end Go.Proofs.YtlnigpeoffaemaaDoor

/- StepsApart: each of its tasks is made. -/
namespace Go.Proofs.YtlnigpeoffaemaaDoor
open Go Go.Proofs.YtlnigpeoffaemaaDoor.Sx
set_option linter.unusedVariables false
abbrev Q5 (w0 : From) : Exit → Act → World → Prop := bodyPost Tryd.prog Tryd.f5 (Said w0)
/-- where the next task lies -/
def tNew (S : MadeT) (k : K3) : Bool × Nat := match kd k == 0 with
  | true => (true, S.1.length)
  | false => (false, S.2.1.length)
theorem fF5 : ∀ (b : Bool) {x : Int}, (x.tmod 3 == 1) = b → (match b with | true => 27 | false => 30) = (match !(x.tmod 3 == 1) with | true => 30 | false => 27) := by
  intro b x h; rw [h]; cases b <;> rfl
set_option maxHeartbeats 1000000 in
theorem joinA_a {w0 : From} {q : InA} {S : MadeT} (h0 : (kd q.a == 0) = true) {n : Int} (hn : cutT q.a.times = n) {Q : Exit → Act → World → Prop} {C : Code}
    (hk : ∀ env a w, At [(0, 0)] w0 env (fr 183 n5b (v5a q ++ [swV (tNew S q.a)])) (sMa q (stepB S q.a).1 (stepB S q.a).2.1) a w → C.wp Tryd.prog Q a w)
    {env : Env} {a : Act} {w : World} (h : At [(0, 0)] w0 env (fr 183 n5b (v5a q ++ [.ifc 84 (.ptr 10 0)])) (sMa q S.1 S.2.1 ++ [.own [.c (.int .i64 q.a.at'), .c (.int .i64 n)] 86]) a w) : C.wp Tryd.prog Q a w := by
  subst hn
  obtain ⟨xs, ys, ts⟩ := S
  have hS : stepB (xs, ys, ts) q.a = (xs ++ [⟨q.a.at', cutT q.a.times⟩], ys, ts ++ [(true, xs.length)]) := by simp only [stepB, h0]
  have hT : tNew (xs, ys, ts) q.a = (true, xs.length) := by simp only [tNew, h0]
  rw [hS, hT] at hk
  have hK : AtK [] [(0, 0)] w0 env _ _ a w := ⟨h, _, rfl⟩
  obtain ⟨env3, hA3⟩ := hK.join 3 10 (by omega) (by simp) (E := encAd) (xs := xs) rfl rfl ⟨q.a.at', cutT q.a.times⟩ (fun env cs h => by
      simpa [segCells, Seg.cells, encAd, encOf, DenL, Den] using h) (v5a q ++ [swV (true, xs.length)]) (fun env' hj hm => ⟨hm _, hm _, hm _, hm _, hm _, fun v h => by
      obtain ⟨u, h1, h2⟩ := h
      exact .inl ⟨rfl, u, h1, hj _ _ h2⟩, trivial⟩)
  exact hk _ a w (hA3.at'.perm [0, 1, 2, 3, 4, 5, 6, 7, 8, 9] (by kernel_rfl) (by kernel_rfl) (by kernel_rfl) (by kernel_rfl))
set_option maxHeartbeats 1000000 in
theorem joinT_a {w0 : From} {q : InA} {S : MadeT} (h0 : (kd q.a == 0) = false) {f : Nat} (hf : f = match (!(kd q.a == 1)) with | true => 30 | false => 27) {n : Int} (hn : cutT q.a.times = n) {Q : Exit → Act → World → Prop} {C : Code}
    (hk : ∀ env a w, At [(0, 0)] w0 env (fr 183 n5b (v5a q ++ [swV (tNew S q.a)])) (sMa q (stepB S q.a).1 (stepB S q.a).2.1) a w → C.wp Tryd.prog Q a w)
    {env : Env} {a : Act} {w : World} (h : At [(0, 0)] w0 env (fr 183 n5b (v5a q ++ [.ifc 74 (.ptr 10 0)])) (sMa q S.1 S.2.1 ++ [.own [.c (.int .i64 q.a.at'), .c (.int .i64 n), .c (.bl false), .c (.lit .u32 0), .c (.fn (.func f) [] [])] 78]) a w) : C.wp Tryd.prog Q a w := by
  subst hn
  obtain ⟨xs, ys, ts⟩ := S
  have hS : stepB (xs, ys, ts) q.a = (xs, ys ++ [⟨q.a.at', cutT q.a.times, false, 0, !(kd q.a == 1)⟩], ts ++ [(false, ys.length)]) := by simp only [stepB, h0]
  have hT : tNew (xs, ys, ts) q.a = (false, ys.length) := by simp only [tNew, h0]
  rw [hS, hT] at hk
  have hK : AtK [] [(0, 0)] w0 env _ _ a w := ⟨h, _, rfl⟩
  obtain ⟨env3, hA3⟩ := hK.join 4 10 (by omega) (by simp) (E := encTw) (xs := ys) rfl rfl ⟨q.a.at', cutT q.a.times, false, 0, !(kd q.a == 1)⟩ (fun env cs h => by
      subst hf
      cases hq : kd q.a == 1 <;> simpa [segCells, Seg.cells, encTw, encOf, putV, DenL, Den, hq] using h) (v5a q ++ [swV (false, ys.length)]) (fun env' hj hm => ⟨hm _, hm _, hm _, hm _, hm _, fun v h => by
      obtain ⟨u, h1, h2⟩ := h
      exact .inr ⟨rfl, u, h1, hj _ _ h2⟩, trivial⟩)
  exact hk _ a w (hA3.at'.perm [0, 1, 2, 3, 4, 5, 6, 7, 8, 9] (by kernel_rfl) (by kernel_rfl) (by kernel_rfl) (by kernel_rfl))
set_option maxHeartbeats 1000000 in
theorem mk_a {w0 : From} {q : InA} {S : MadeT} {Q : Exit → Act → World → Prop}
    (hk : ∀ env a w, At [(0, 0)] w0 env (fr 183 n5b (v5a q ++ [swV (tNew S q.a)])) (sMa q (stepB S q.a).1 (stepB S q.a).2.1) a w → (restC 5 b5).wp Tryd.prog Q a w)
    {env : Env} {a : Act} {w : World} (h : At [(0, 0)] w0 env (fr 183 n5a (v5a q)) (sMa q S.1 S.2.1) a w) : (restC 4 b5).wp Tryd.prog Q a w := by
  have hK : AtK [] [(0, 0)] w0 env _ _ a w := ⟨h, _, rfl⟩
  refine pieceNTK2 (c := cfgM) cfgM_ok 1 n5b z_mka (by simp) (by simp) hK ?_
  have hkk := q.a.h
  repeat' (first
    | refine all_needq (by simp only [inR_i64]; exact Iff.rfl) (by omega) ?_
    | refine all_need rfl (fun _ => ?_)
    | refine all_eq trivial ?_
    | refine all_eq rfl ?_
    | refine all_brp (by simp only [decide_eq_true_eq]; exact Iff.rfl) (fun _ => ?_) (fun _ => ?_)
    | refine all_br (fun _ => ?_) (fun _ => ?_))
  · rename_i c1 _ c2
    exact all_ret fun env' a' w' h => joinA_a c2 (n := 20) (if_pos c1) hk (h.at'.gen rfl)
  · rename_i c1 _ c2 c3
    exact all_ret fun env' a' w' h => joinT_a c2 (f := 27) (fF5 true c3) (n := 20) (if_pos c1) hk (h.at'.gen rfl)
  · rename_i c1 _ c2 c3
    exact all_ret fun env' a' w' h => joinT_a c2 (f := 30) (fF5 false c3) (n := 20) (if_pos c1) hk (h.at'.gen rfl)
  · rename_i c1 _ c2
    exact all_ret fun env' a' w' h => joinA_a c2 (n := q.a.times) (if_neg c1) hk (h.at'.gen rfl)
  · rename_i c1 _ c2 c3
    exact all_ret fun env' a' w' h => joinT_a c2 (f := 27) (fF5 true c3) (n := q.a.times) (if_neg c1) hk (h.at'.gen rfl)
  · rename_i c1 _ c2 c3
    exact all_ret fun env' a' w' h => joinT_a c2 (f := 30) (fF5 false c3) (n := q.a.times) (if_neg c1) hk (h.at'.gen rfl)
set_option maxHeartbeats 1000000 in
theorem joinA_b {w0 : From} {q : InA} {S : MadeT} {t0 : Bool × Nat} (h0 : (kd q.b == 0) = true) {n : Int} (hn : cutT q.b.times = n) {Q : Exit → Act → World → Prop} {C : Code}
    (hk : ∀ env a w, At [(0, 0)] w0 env (fr 183 n5c (v5a q ++ [swV t0, swV (tNew S q.b)])) (sMa q (stepB S q.b).1 (stepB S q.b).2.1) a w → C.wp Tryd.prog Q a w)
    {env : Env} {a : Act} {w : World} (h : At [(0, 0)] w0 env (fr 183 n5c (v5a q ++ [swV t0, .ifc 84 (.ptr 10 0)])) (sMa q S.1 S.2.1 ++ [.own [.c (.int .i64 q.b.at'), .c (.int .i64 n)] 86]) a w) : C.wp Tryd.prog Q a w := by
  subst hn
  obtain ⟨xs, ys, ts⟩ := S
  have hS : stepB (xs, ys, ts) q.b = (xs ++ [⟨q.b.at', cutT q.b.times⟩], ys, ts ++ [(true, xs.length)]) := by simp only [stepB, h0]
  have hT : tNew (xs, ys, ts) q.b = (true, xs.length) := by simp only [tNew, h0]
  rw [hS, hT] at hk
  have hK : AtK [] [(0, 0)] w0 env _ _ a w := ⟨h, _, rfl⟩
  obtain ⟨env3, hA3⟩ := hK.join 3 10 (by omega) (by simp) (E := encAd) (xs := xs) rfl rfl ⟨q.b.at', cutT q.b.times⟩ (fun env cs h => by
      simpa [segCells, Seg.cells, encAd, encOf, DenL, Den] using h) (v5a q ++ [swV t0, swV (true, xs.length)]) (fun env' hj hm => ⟨hm _, hm _, hm _, hm _, hm _, hm _, fun v h => by
      obtain ⟨u, h1, h2⟩ := h
      exact .inl ⟨rfl, u, h1, hj _ _ h2⟩, trivial⟩)
  exact hk _ a w (hA3.at'.perm [0, 1, 2, 3, 4, 5, 6, 7, 8, 9] (by kernel_rfl) (by kernel_rfl) (by kernel_rfl) (by kernel_rfl))
set_option maxHeartbeats 1000000 in
theorem joinT_b {w0 : From} {q : InA} {S : MadeT} {t0 : Bool × Nat} (h0 : (kd q.b == 0) = false) {f : Nat} (hf : f = match (!(kd q.b == 1)) with | true => 30 | false => 27) {n : Int} (hn : cutT q.b.times = n) {Q : Exit → Act → World → Prop} {C : Code}
    (hk : ∀ env a w, At [(0, 0)] w0 env (fr 183 n5c (v5a q ++ [swV t0, swV (tNew S q.b)])) (sMa q (stepB S q.b).1 (stepB S q.b).2.1) a w → C.wp Tryd.prog Q a w)
    {env : Env} {a : Act} {w : World} (h : At [(0, 0)] w0 env (fr 183 n5c (v5a q ++ [swV t0, .ifc 74 (.ptr 10 0)])) (sMa q S.1 S.2.1 ++ [.own [.c (.int .i64 q.b.at'), .c (.int .i64 n), .c (.bl false), .c (.lit .u32 0), .c (.fn (.func f) [] [])] 78]) a w) : C.wp Tryd.prog Q a w := by
  subst hn
  obtain ⟨xs, ys, ts⟩ := S
  have hS : stepB (xs, ys, ts) q.b = (xs, ys ++ [⟨q.b.at', cutT q.b.times, false, 0, !(kd q.b == 1)⟩], ts ++ [(false, ys.length)]) := by simp only [stepB, h0]
  have hT : tNew (xs, ys, ts) q.b = (false, ys.length) := by simp only [tNew, h0]
  rw [hS, hT] at hk
  have hK : AtK [] [(0, 0)] w0 env _ _ a w := ⟨h, _, rfl⟩
  obtain ⟨env3, hA3⟩ := hK.join 4 10 (by omega) (by simp) (E := encTw) (xs := ys) rfl rfl ⟨q.b.at', cutT q.b.times, false, 0, !(kd q.b == 1)⟩ (fun env cs h => by
      subst hf
      cases hq : kd q.b == 1 <;> simpa [segCells, Seg.cells, encTw, encOf, putV, DenL, Den, hq] using h) (v5a q ++ [swV t0, swV (false, ys.length)]) (fun env' hj hm => ⟨hm _, hm _, hm _, hm _, hm _, hm _, fun v h => by
      obtain ⟨u, h1, h2⟩ := h
      exact .inr ⟨rfl, u, h1, hj _ _ h2⟩, trivial⟩)
  exact hk _ a w (hA3.at'.perm [0, 1, 2, 3, 4, 5, 6, 7, 8, 9] (by kernel_rfl) (by kernel_rfl) (by kernel_rfl) (by kernel_rfl))
set_option maxHeartbeats 1000000 in
theorem mk_b {w0 : From} {q : InA} {S : MadeT} {t0 : Bool × Nat} {Q : Exit → Act → World → Prop}
    (hk : ∀ env a w, At [(0, 0)] w0 env (fr 183 n5c (v5a q ++ [swV t0, swV (tNew S q.b)])) (sMa q (stepB S q.b).1 (stepB S q.b).2.1) a w → (restC 6 b5).wp Tryd.prog Q a w)
    {env : Env} {a : Act} {w : World} (h : At [(0, 0)] w0 env (fr 183 n5b (v5a q ++ [swV t0])) (sMa q S.1 S.2.1) a w) : (restC 5 b5).wp Tryd.prog Q a w := by
  have hK : AtK [] [(0, 0)] w0 env _ _ a w := ⟨h, _, rfl⟩
  refine pieceNTK2 (c := cfgM) cfgM_ok 1 n5c z_mkb (by simp) (by simp) hK ?_
  have hkk := q.b.h
  repeat' (first
    | refine all_needq (by simp only [inR_i64]; exact Iff.rfl) (by omega) ?_
    | refine all_need rfl (fun _ => ?_)
    | refine all_eq trivial ?_
    | refine all_eq rfl ?_
    | refine all_brp (by simp only [decide_eq_true_eq]; exact Iff.rfl) (fun _ => ?_) (fun _ => ?_)
    | refine all_br (fun _ => ?_) (fun _ => ?_))
  · rename_i c1 _ c2
    exact all_ret fun env' a' w' h => joinA_b c2 (n := 20) (if_pos c1) hk (h.at'.gen rfl)
  · rename_i c1 _ c2 c3
    exact all_ret fun env' a' w' h => joinT_b c2 (f := 27) (fF5 true c3) (n := 20) (if_pos c1) hk (h.at'.gen rfl)
  · rename_i c1 _ c2 c3
    exact all_ret fun env' a' w' h => joinT_b c2 (f := 30) (fF5 false c3) (n := 20) (if_pos c1) hk (h.at'.gen rfl)
  · rename_i c1 _ c2
    exact all_ret fun env' a' w' h => joinA_b c2 (n := q.b.times) (if_neg c1) hk (h.at'.gen rfl)
  · rename_i c1 _ c2 c3
    exact all_ret fun env' a' w' h => joinT_b c2 (f := 27) (fF5 true c3) (n := q.b.times) (if_neg c1) hk (h.at'.gen rfl)
  · rename_i c1 _ c2 c3
    exact all_ret fun env' a' w' h => joinT_b c2 (f := 30) (fF5 false c3) (n := q.b.times) (if_neg c1) hk (h.at'.gen rfl)
set_option maxHeartbeats 1000000 in
theorem joinA_c {w0 : From} {q : InA} {S : MadeT} {t0 t1 : Bool × Nat} (h0 : (kd q.a == 0) = true) {n : Int} (hn : cutT q.a.times = n) {Q : Exit → Act → World → Prop} {C : Code}
    (hk : ∀ env a w, At [(0, 0)] w0 env (fr 183 n5d (v5a q ++ [swV t0, swV t1, swV (tNew S q.a)])) (sMa q (stepB S q.a).1 (stepB S q.a).2.1) a w → C.wp Tryd.prog Q a w)
    {env : Env} {a : Act} {w : World} (h : At [(0, 0)] w0 env (fr 183 n5d (v5a q ++ [swV t0, swV t1, .ifc 84 (.ptr 10 0)])) (sMa q S.1 S.2.1 ++ [.own [.c (.int .i64 q.a.at'), .c (.int .i64 n)] 86]) a w) : C.wp Tryd.prog Q a w := by
  subst hn
  obtain ⟨xs, ys, ts⟩ := S
  have hS : stepB (xs, ys, ts) q.a = (xs ++ [⟨q.a.at', cutT q.a.times⟩], ys, ts ++ [(true, xs.length)]) := by simp only [stepB, h0]
  have hT : tNew (xs, ys, ts) q.a = (true, xs.length) := by simp only [tNew, h0]
  rw [hS, hT] at hk
  have hK : AtK [] [(0, 0)] w0 env _ _ a w := ⟨h, _, rfl⟩
  obtain ⟨env3, hA3⟩ := hK.join 3 10 (by omega) (by simp) (E := encAd) (xs := xs) rfl rfl ⟨q.a.at', cutT q.a.times⟩ (fun env cs h => by
      simpa [segCells, Seg.cells, encAd, encOf, DenL, Den] using h) (v5a q ++ [swV t0, swV t1, swV (true, xs.length)]) (fun env' hj hm => ⟨hm _, hm _, hm _, hm _, hm _, hm _, hm _, fun v h => by
      obtain ⟨u, h1, h2⟩ := h
      exact .inl ⟨rfl, u, h1, hj _ _ h2⟩, trivial⟩)
  exact hk _ a w (hA3.at'.perm [0, 1, 2, 3, 4, 5, 6, 7, 8, 9] (by kernel_rfl) (by kernel_rfl) (by kernel_rfl) (by kernel_rfl))
set_option maxHeartbeats 1000000 in
theorem joinT_c {w0 : From} {q : InA} {S : MadeT} {t0 t1 : Bool × Nat} (h0 : (kd q.a == 0) = false) {f : Nat} (hf : f = match (!(kd q.a == 1)) with | true => 30 | false => 27) {n : Int} (hn : cutT q.a.times = n) {Q : Exit → Act → World → Prop} {C : Code}
    (hk : ∀ env a w, At [(0, 0)] w0 env (fr 183 n5d (v5a q ++ [swV t0, swV t1, swV (tNew S q.a)])) (sMa q (stepB S q.a).1 (stepB S q.a).2.1) a w → C.wp Tryd.prog Q a w)
    {env : Env} {a : Act} {w : World} (h : At [(0, 0)] w0 env (fr 183 n5d (v5a q ++ [swV t0, swV t1, .ifc 74 (.ptr 10 0)])) (sMa q S.1 S.2.1 ++ [.own [.c (.int .i64 q.a.at'), .c (.int .i64 n), .c (.bl false), .c (.lit .u32 0), .c (.fn (.func f) [] [])] 78]) a w) : C.wp Tryd.prog Q a w := by
  subst hn
  obtain ⟨xs, ys, ts⟩ := S
  have hS : stepB (xs, ys, ts) q.a = (xs, ys ++ [⟨q.a.at', cutT q.a.times, false, 0, !(kd q.a == 1)⟩], ts ++ [(false, ys.length)]) := by simp only [stepB, h0]
  have hT : tNew (xs, ys, ts) q.a = (false, ys.length) := by simp only [tNew, h0]
  rw [hS, hT] at hk
  have hK : AtK [] [(0, 0)] w0 env _ _ a w := ⟨h, _, rfl⟩
  obtain ⟨env3, hA3⟩ := hK.join 4 10 (by omega) (by simp) (E := encTw) (xs := ys) rfl rfl ⟨q.a.at', cutT q.a.times, false, 0, !(kd q.a == 1)⟩ (fun env cs h => by
      subst hf
      cases hq : kd q.a == 1 <;> simpa [segCells, Seg.cells, encTw, encOf, putV, DenL, Den, hq] using h) (v5a q ++ [swV t0, swV t1, swV (false, ys.length)]) (fun env' hj hm => ⟨hm _, hm _, hm _, hm _, hm _, hm _, hm _, fun v h => by
      obtain ⟨u, h1, h2⟩ := h
      exact .inr ⟨rfl, u, h1, hj _ _ h2⟩, trivial⟩)
  exact hk _ a w (hA3.at'.perm [0, 1, 2, 3, 4, 5, 6, 7, 8, 9] (by kernel_rfl) (by kernel_rfl) (by kernel_rfl) (by kernel_rfl))
set_option maxHeartbeats 1000000 in
theorem mk_c {w0 : From} {q : InA} {S : MadeT} {t0 t1 : Bool × Nat} {Q : Exit → Act → World → Prop}
    (hk : ∀ env a w, At [(0, 0)] w0 env (fr 183 n5d (v5a q ++ [swV t0, swV t1, swV (tNew S q.a)])) (sMa q (stepB S q.a).1 (stepB S q.a).2.1) a w → (restC 7 b5).wp Tryd.prog Q a w)
    {env : Env} {a : Act} {w : World} (h : At [(0, 0)] w0 env (fr 183 n5c (v5a q ++ [swV t0, swV t1])) (sMa q S.1 S.2.1) a w) : (restC 6 b5).wp Tryd.prog Q a w := by
  have hK : AtK [] [(0, 0)] w0 env _ _ a w := ⟨h, _, rfl⟩
  refine pieceNTK2 (c := cfgM) cfgM_ok 1 n5d z_mkc (by simp) (by simp) hK ?_
  have hkk := q.a.h
  repeat' (first
    | refine all_needq (by simp only [inR_i64]; exact Iff.rfl) (by omega) ?_
    | refine all_need rfl (fun _ => ?_)
    | refine all_eq trivial ?_
    | refine all_eq rfl ?_
    | refine all_brp (by simp only [decide_eq_true_eq]; exact Iff.rfl) (fun _ => ?_) (fun _ => ?_)
    | refine all_br (fun _ => ?_) (fun _ => ?_))
  · rename_i c1 _ c2
    exact all_ret fun env' a' w' h => joinA_c c2 (n := 20) (if_pos c1) hk (h.at'.gen rfl)
  · rename_i c1 _ c2 c3
    exact all_ret fun env' a' w' h => joinT_c c2 (f := 27) (fF5 true c3) (n := 20) (if_pos c1) hk (h.at'.gen rfl)
  · rename_i c1 _ c2 c3
    exact all_ret fun env' a' w' h => joinT_c c2 (f := 30) (fF5 false c3) (n := 20) (if_pos c1) hk (h.at'.gen rfl)
  · rename_i c1 _ c2
    exact all_ret fun env' a' w' h => joinA_c c2 (n := q.a.times) (if_neg c1) hk (h.at'.gen rfl)
  · rename_i c1 _ c2 c3
    exact all_ret fun env' a' w' h => joinT_c c2 (f := 27) (fF5 true c3) (n := q.a.times) (if_neg c1) hk (h.at'.gen rfl)
  · rename_i c1 _ c2 c3
    exact all_ret fun env' a' w' h => joinT_c c2 (f := 30) (fF5 false c3) (n := q.a.times) (if_neg c1) hk (h.at'.gen rfl)
end Go.Proofs.YtlnigpeoffaemaaDoor

/- StepsApart: two machines are made. -/
namespace Go.Proofs.YtlnigpeoffaemaaDoor
open Go Go.Proofs.YtlnigpeoffaemaaDoor.Sx
set_option linter.unusedVariables false
abbrev ifV : Bool → Nat → SVal
  | true, k => .ifc 84 (.pto 3 k 0)
  | false, k => .ifc 74 (.pto 4 k 0)
set_option maxRecDepth 100000 in
theorem z_new {q : InA} {xs : List Ad} {ys : List Tw} {b0 b1 b2 : Bool} {k0 k1 k2 : Nat} : (execN cfgL 100 2 (restC 7 b5) (fr 183 n5d (v5a q ++ [ifV b0 k0, ifV b1 k1, ifV b2 k2])) (sMa q xs ys)).bind (canonK 10 [(0,0)] 183 n5e) =
 

 (.eq (anyP cfgN 100 11 [.ptr 1 0, .sli 10 (.c 0) 1 (.c 2) (some (.c 2))] [.ro encLook [PUnit.unit], .own [.c (.sli 2 (.c 0) 1 (.v 3) (some (.v 3))), .c (.int .i64 (0 : Int))] 67, .own [.a (encInt IntKind.u32) 3 [(0 : Int), (0 : Int), (0 : Int)]] 45, .many encAd xs 86, .many encTw ys 78, .own [.c (.sli 6 (.c 0) 1 (.v 3) (some (.v 3))), .c (.int .i64 (0 : Int))] 67, .own [.a (encInt IntKind.u32) 3 [(0 : Int), (0 : Int), (0 : Int)]] 45, .own [.c (.int .u8 q.a.1), .c (.int .i64 q.a.2), .c (.int .i64 q.a.3)] 51, .own [.c (.int .u8 q.b.1), .c (.int .i64 q.b.2), .c (.int .i64 q.b.3)] 51, .ro (encInt IntKind.i64) q.3, .own [.c (ifV b0 k0), .c (ifV b1 k1)] 44])

 (.need (true)

 (.need (roomy 2 16)

 (.eq (anyP cfgN 100 11 [.ptr 5 0, .sli 15 (.c 0) 1 (.c 1) (some (.c 1))] [.ro encLook [PUnit.unit], .own [.c (.sli 2 (.c 0) 1 (.v 3) (some (.v 3))), .c (.int .i64 (0 : Int))] 67, .own [.a (encInt IntKind.u32) 3 [(0 : Int), (0 : Int), (0 : Int)]] 45, .many encAd xs 86, .many encTw ys 78, .own [.c (.sli 6 (.c 0) 1 (.v 3) (some (.v 3))), .c (.int .i64 (0 : Int))] 67, .own [.a (encInt IntKind.u32) 3 [(0 : Int), (0 : Int), (0 : Int)]] 45, .own [.c (.int .u8 q.a.1), .c (.int .i64 q.a.2), .c (.int .i64 q.a.3)] 51, .own [.c (.int .u8 q.b.1), .c (.int .i64 q.b.2), .c (.int .i64 q.b.3)] 51, .ro (encInt IntKind.i64) q.3, .own [.c (ifV b0 k0), .c (ifV b1 k1)] 44, .gone, .vec (encRow 0) [[ifV b0 k0], [ifV b1 k1]] 44, .own [.c (.bl false), .c (.bl false)] 4, .own [.c (.ptr 1 0), .c (.sli 12 (.c 0) 1 (.c 2) none), .c (.sli 13 (.c 0) 1 (.c 2) (some (.c 2)))] 70, .own [.c (ifV b2 k2)] 44])

 (.need (true)

 (.need (roomy 1 16)

 (.ret (.normal, [.sli 9 (.c 0) 1 (.v q.3.length) (some (.v q.4)), .ptr 7 0, .ptr 8 0, .ptr 1 0, .ptr 5 0, .ptr 10 0, .ptr 13 0], [.ro encLook [PUnit.unit], .own [.c (.sli 2 (.c 0) 1 (.v 3) (some (.v 3))), .c (.int .i64 (0 : Int))] 67, .own [.a (encInt IntKind.u32) 3 [(0 : Int), (0 : Int), (0 : Int)]] 45, .many encAd xs 86, .many encTw ys 78, .own [.c (.sli 6 (.c 0) 1 (.v 3) (some (.v 3))), .c (.int .i64 (0 : Int))] 67, .own [.a (encInt IntKind.u32) 3 [(0 : Int), (0 : Int), (0 : Int)]] 45, .own [.c (.int .u8 q.a.1), .c (.int .i64 q.a.2), .c (.int .i64 q.a.3)] 51, .own [.c (.int .u8 q.b.1), .c (.int .i64 q.b.2), .c (.int .i64 q.b.3)] 51, .ro (encInt IntKind.i64) q.3, .own [.c (.ptr 1 0), .c (.sli 11 (.c 0) 1 (.c 2) none), .c (.sli 12 (.c 0) 1 (.c 2) (some (.c 2)))] 70, .vec (encRow 0) (renRows [0, 1, 2, 3, 4, 5, 6, 7, 8, 9, 14, 12, 13, 19, 17, 18] (encRow 0) [[ifV b0 k0], [ifV b1 k1]]) 44, .own [.c (.bl false), .c (.bl false)] 4, .own [.c (.ptr 5 0), .c (.sli 14 (.c 0) 1 (.c 1) none), .c (.sli 15 (.c 0) 1 (.c 1) (some (.c 1)))] 70, .vec (encRow 0) (renRows [0, 1, 2, 3, 4, 5, 6, 7, 8, 9, 14, 12, 13, 19, 17, 18] (encRow 0) [[ifV b2 k2]]) 44, .own [.c (.bl false)] 4])))))))) := by cases b0 <;> cases b1 <;> cases b2 <;> kernel_rfl
theorem anyP_all {c : Cfg} {fuel : Nat} {f : FuncId} {args : List SVal} {st : St} (h0 : ((anyTP c fuel f args st).lineB.map fun l => l.all id) = some true) (h1 : (anyTP c fuel f args st).lineP = some True) (h2 : lineSame (anyTP c fuel f args st) = swapO (lineSame (anyTP c fuel f args st))) : anyP c fuel f args st := by
  cases hq : (anyTP c fuel f args st).lineB with
  | none => rw [hq] at h0; cases h0
  | some l =>
    rw [hq] at h0
    simp only [Option.map_some, Option.some.injEq, List.all_eq_true, id_eq] at h0
    exact anyP_line hq h1 h0 trivial h2
set_option maxRecDepth 100000 in
theorem new_x {q : InA} {xs : List Ad} {ys : List Tw} {b0 b1 : Bool} {k0 k1 : Nat} : anyP cfgN 100 11 [.ptr 1 0, .sli 10 (.c 0) 1 (.c 2) (some (.c 2))] (sMa q xs ys ++ [.own [.c (ifV b0 k0), .c (ifV b1 k1)] 44]) := by
  cases b0 <;> cases b1 <;> exact anyP_all (by kernel_rfl) (by kernel_rfl) (by kernel_rfl)
set_option maxRecDepth 100000 in
theorem new_y {q : InA} {xs : List Ad} {ys : List Tw} {b0 b1 b2 : Bool} {k0 k1 k2 : Nat} : anyP cfgN 100 11 [.ptr 5 0, .sli 15 (.c 0) 1 (.c 1) (some (.c 1))] (sMa q xs ys ++ [.own [.c (ifV b0 k0), .c (ifV b1 k1)] 44, .gone, .vec (encRow 0) [[ifV b0 k0], [ifV b1 k1]] 44, .own [.c (.bl false), .c (.bl false)] 4, .own [.c (.ptr 1 0), .c (.sli 12 (.c 0) 1 (.c 2) none), .c (.sli 13 (.c 0) 1 (.c 2) (some (.c 2)))] 70, .own [.c (ifV b2 k2)] 44]) := by
  cases b0 <;> cases b1 <;> cases b2 <;> exact anyP_all (by kernel_rfl) (by kernel_rfl) (by kernel_rfl)
/-- what is the second machine's own -/
structure Yc where
  l : List Int
  c : Int
  ds : List Bool
abbrev yMc (s : Mc) (t : Yc) : Mc := ⟨t.l, t.c, s.ad, s.tw, t.ds⟩
/-- both machines -/
abbrev sA (q : InA) (m n : Nat) (ts us : List (Bool × Nat)) (s : Mc) (t : Yc) : St :=
  mcS 3 m ts s ++ [.own [.c (.sli 9 (.c 0) 1 (.v 3) (some (.v 3))), .c (.int .i64 t.c)] 67, .own [.a (encInt .u32) 3 t.l] 45,
    .own [.c (.ptr 8 0), .c (.sli 11 (.c 0) 1 (.v n) none), .c (.sli 12 (.c 0) 1 (.v n) (some (.v n)))] 70, .vec (encTs 3 4) us 44, .own [.a encBool n t.ds] 4,
    .ro (encInt .i64) q.picks, kB q.a, kB q.b]
abbrev v5e (q : InA) : List SVal := [pickA q 13, .ptr 14 0, .ptr 15 0, .ptr 1 0, .ptr 8 0, .ptr 5 0, .ptr 10 0]
set_option maxHeartbeats 2000000 in
theorem new5_ok {w0 : From} {q : InA} {xs : List Ad} {ys : List Tw} {t0 t1 t2 : Bool × Nat} {Q : Exit → Act → World → Prop}
    (hk : ∀ env a w, At [(0, 0)] w0 env (fr 183 n5e (v5e q)) (sA q 2 1 [t0, t1] [t2] ⟨[0, 0, 0], 0, xs, ys, [false, false]⟩ ⟨[0, 0, 0], 0, [false]⟩) a w → (restC 9 b5).wp Tryd.prog Q a w)
    {env : Env} {a : Act} {w : World} (h : At [(0, 0)] w0 env (fr 183 n5d (v5a q ++ [swV t0, swV t1, swV t2])) (sMa q xs ys) a w) : (restC 7 b5).wp Tryd.prog Q a w := by
  obtain ⟨b0, k0⟩ := t0
  obtain ⟨b1, k1⟩ := t1
  obtain ⟨b2, k2⟩ := t2
  have hi : ∀ {env : Env} {b : Bool} {k : Nat} {v : Value}, Den env (swV (b, k)) v → Den env (ifV b k) v := by
    intro env b k v h
    cases b <;> simpa [Den] using h
  have h1 := h.vals (v5a q ++ [ifV b0 k0, ifV b1 k1, ifV b2 k2]) ⟨fun _ h => h, fun _ h => h, fun _ h => h, fun _ h => h, fun _ h => h, fun _ h => hi h, fun _ h => hi h, fun _ h => hi h, trivial⟩
  have hK : AtK [] [(0, 0)] w0 env _ _ a w := ⟨h1, _, rfl⟩
  refine pieceNTK2 (c := cfgL) cfgL_ok 2 n5e z_new (by simp) (by simp) hK ?_
  refine all_eq new_x (all_need rfl fun _ => all_need (by kernel_rfl) fun _ => all_eq new_y (all_need rfl fun _ => all_need (by kernel_rfl) fun _ => all_ret fun env1 a1 w1 hA1 => ?_))
  simp only [Ex.to, Exit.then]
  refine (show (restC 9 b5).wp Tryd.prog Q a1 w1 from ?_)
  have hj : ∀ {env : Env} {b : Bool} {k : Nat} {v : Value}, Den env (ifV b k) v → Den env (swV (b, k)) v := by
    intro env b k v h
    cases b <;> simpa [Den] using h
  have h2 := hA1.at'.typede 11 (E' := encTs 3 4) (ys := [(b0, k0), (b1, k1)]) rfl rfl rfl (fun cs h => by
    have h' : DenL env1 [ifV b0 k0, ifV b1 k1] cs := by cases b0 <;> cases b1 <;> exact h
    obtain ⟨v, vs, rfl, hv, v', vs', rfl, hv', rfl⟩ := h'
    exact ⟨v, _, rfl, hj hv, v', _, rfl, hj hv', rfl⟩)
  have h3 := h2.typede 14 (E' := encTs 3 4) (ys := [(b2, k2)]) rfl rfl rfl (fun cs h => by
    have h' : DenL env1 [ifV b2 k2] cs := by cases b2 <;> exact h
    obtain ⟨v, vs, rfl, hv, rfl⟩ := h'
    exact ⟨v, _, rfl, hj hv, rfl⟩)
  have h4 := h3.segs 12 (l' := [.a encBool 2 [false, false]]) rfl (by intro s hs; rw [List.mem_singleton.1 hs]; rfl) (fun cs h => by simpa [segCells, Seg.cells, encBool, encOf, DenL, Den] using h)
  have h5 := h4.segs 15 (l' := [.a encBool 1 [false]]) rfl (by intro s hs; rw [List.mem_singleton.1 hs]; rfl) (fun cs h => by simpa [segCells, Seg.cells, encBool, encOf, DenL, Den] using h)
  have h6 := h5.perm [0, 1, 2, 3, 4, 10, 11, 12, 5, 6, 13, 14, 15, 9, 7, 8] (by kernel_rfl) (by kernel_rfl) (by rfl) (by rfl)

  exact hk _ a1 w1 (h6.gen rfl)
end Go.Proofs.YtlnigpeoffaemaaDoor

/- StepsApart: calls on either machine; the pieces of a round. -/
namespace Go.Proofs.YtlnigpeoffaemaaDoor
open Go Go.Proofs.YtlnigpeoffaemaaDoor.Sx
set_option linter.unusedVariables false
theorem rows_eq {X : Type} {E E' : Enc X} {mp : List Nat} (h1 : E.sz = 1) (h2 : E'.sz = 1) (h : ∀ x, ∃ v, E'.enc x = [v] ∧ renL mp (E.enc x) = [v]) {xs : List X} {T : TypeId} : EqvB (.vec (encRow 0) (renRows mp E xs) T) (.vec E' xs T) := by
  refine .inr ⟨_, _, _, _, _, _, _, rfl, rfl, by rw [h2]; rfl, by simp [renRows], ?_⟩
  induction xs with
  | nil => rfl
  | cons x xs ih =>
    obtain ⟨v, e1, e2⟩ := h x
    simp only [renRows, List.map_cons, List.flatMap_cons] at ih ⊢
    rw [ih, e1, e2]; rfl
theorem rowsTs {mp : List Nat} (h3 : idx 3 mp 0 = some 3) (h4 : idx 4 mp 0 = some 4) {xs : List (Bool × Nat)} {T : TypeId} : EqvB (.vec (encRow 0) (renRows mp (encTs 3 4) xs) T) (.vec (encTs 3 4) xs T) :=
  rows_eq rfl rfl fun x => ⟨.sw x.1 (.ifc 84 (.pto 3 x.2 0)) (.ifc 74 (.pto 4 x.2 0)), rfl, by simp [encTs, renL, ren, h3, h4]⟩
abbrev swA : List Nat := [0, 8, 9, 3, 4, 10, 11, 12, 1, 2, 5, 6, 7, 13, 14, 15]
abbrev restA (q : InA) (n : Nat) (us : List (Bool × Nat)) (t : Yc) : St := [.own [.c (.sli 9 (.c 0) 1 (.v 3) (some (.v 3))), .c (.int .i64 t.c)] 67, .own [.a (encInt .u32) 3 t.l] 45,
    .own [.c (.ptr 8 0), .c (.sli 11 (.c 0) 1 (.v n) none), .c (.sli 12 (.c 0) 1 (.v n) (some (.v n)))] 70, .vec (encTs 3 4) us 44, .own [.a encBool n t.ds] 4,
    .ro (encInt .i64) q.picks, kB q.a, kB q.b]
abbrev sAR (q : InA) (m n : Nat) (ts us : List (Bool × Nat)) (s : Mc) (t : Yc) : St :=
  [lookB, .own [.c (.sli 2 (.c 0) 1 (.v 3) (some (.v 3))), .c (.int .i64 t.c)] 67, .own [.a (encInt .u32) 3 t.l] 45, .many encAd s.ad 86, .many encTw s.tw 78,
   .own [.c (.ptr 1 0), .c (.sli 6 (.c 0) 1 (.v n) none), .c (.sli 7 (.c 0) 1 (.v n) (some (.v n)))] 70, .vec (encRow 0) (renRows swA (encTs 3 4) us) 44, .own [.a encBool n t.ds] 4,
   .own [.c (.sli 9 (.c 0) 1 (.v 3) (some (.v 3))), .c (.int .i64 s.c)] 67, .own [.a (encInt .u32) 3 s.l] 45,
   .own [.c (.ptr 8 0), .c (.sli 11 (.c 0) 1 (.v m) none), .c (.sli 12 (.c 0) 1 (.v m) (some (.v m)))] 70, .vec (encRow 0) (renRows swA (encTs 3 4) ts) 44, .own [.a encBool m s.ds] 4,
   .ro (encInt .i64) q.picks, kB q.a, kB q.b]
theorem sA_ren {q : InA} {m n : Nat} {ts us : List (Bool × Nat)} {s : Mc} {t : Yc} : renSt swA (sA q m n ts us s t) swA = some (sAR q m n ts us s t) := by kernel_rfl
theorem sA_eqv {q : InA} {m n : Nat} {ts us : List (Bool × Nat)} {s : Mc} {t : Yc} : EqvSt (sAR q m n ts us s t) (sA q n m us ts (yMc s t) ⟨s.l, s.c, s.ds⟩) :=
  ⟨.inl rfl, .inl rfl, .inl rfl, .inl rfl, .inl rfl, .inl rfl, rowsTs rfl rfl, .inl rfl, .inl rfl, .inl rfl, .inl rfl, rowsTs rfl rfl, .inl rfl, .inl rfl, .inl rfl, .inl rfl, trivial⟩
theorem pick_x {q : InA} {m n : Nat} {ts us : List (Bool × Nat)} {s : Mc} {t : Yc} (hs : McOk 3 m ts s) {i : Int} (env : Env) (w : World) (vs : List Value) (hg : GlOk cfgM.gl env) (hr : Rep env (sA q m n ts us s t) w) (hd : DenL env [.ptr 5 0, .int .i64 i] vs) :
    Calls cfgM.P 12 ⟨vs⟩ w (Ends1 env (sA q m n ts us s t) w (.int .i64 (errP m s i)) (sA q m n ts us (pickP m ts s i) t)) :=
  frame (c := cfgM) (pick_call hs) (restA q n us t) rfl rfl (gl_lt (by simp)) mcS_ren mcS_ro env w vs hg hr hd
abbrev yS (s r : Mc) : Mc := ⟨s.l, s.c, r.ad, r.tw, s.ds⟩
abbrev yT (r : Mc) : Yc := ⟨r.l, r.c, r.ds⟩
theorem pick_y {q : InA} {m n : Nat} {ts us : List (Bool × Nat)} {s : Mc} {t : Yc} (ht : McOk 3 n us (yMc s t)) {i : Int} (env : Env) (w : World) (vs : List Value) (hg : GlOk cfgM.gl env) (hr : Rep env (sA q m n ts us s t) w) (hd : DenL env [.ptr 10 0, .int .i64 i] vs) :
    Calls cfgM.P 12 ⟨vs⟩ w (Ends1 env (sA q m n ts us s t) w (.int .i64 (errP n (yMc s t) i)) (sA q m n ts us (yS s (pickP n us (yMc s t) i)) (yT (pickP n us (yMc s t) i)))) :=
  permCall swA swA (pick_x (q := q) (n := m) (us := ts) (t := ⟨s.l, s.c, s.ds⟩) ht) rfl rfl rfl rfl rfl (by rfl) sA_ren sA_eqv sA_ren sA_eqv rfl rfl env w vs hg hr hd
/-- a pick of the first task, on the second machine -/
noncomputable def cfgY (q : InA) (m n : Nat) (ts us : List (Bool × Nat)) (s : Mc) (t : Yc) : Cfg := { P := Tryd.prog, ex := exI, gl := [(0, 0)], sm := fun f => match f with
  | 12 => some (smEq [.ptr 10 0, .lit .i64 0] (sA q m n ts us s t) (McOk 3 n us (yMc s t)) (.int .i64 (errP n (yMc s t) 0)) (sA q m n ts us (yS s (pickP n us (yMc s t) 0)) (yT (pickP n us (yMc s t) 0))))
  | _ => none }
theorem cfgY_ok {q : InA} {m n : Nat} {ts us : List (Bool × Nat)} {s : Mc} {t : Yc} : SmOk (cfgY q m n ts us s t) := by
  intro f g h
  simp only [cfgY] at h
  split at h
  · simp only [Option.some.injEq] at h; subst h
    exact smEq_ok (c := cfgY q m n ts us s t) fun h => pick_y h
  · cases h
noncomputable def c5 : Code := restC 9 b5
noncomputable def reg5 : Code := lft (lft c5)
noncomputable def blk5 : Code := rgt (lft c5)
noncomputable def round5 : Code := lft (lft blk5)
noncomputable def tm5 : Code := lft round5
noncomputable def bb5 : Code := lft (lft (rgt round5))
noncomputable def inc5 : Code := rgt (rgt round5)
noncomputable def end5 : Code := rgt c5
noncomputable def h5 : Code := restC 3 bb5
noncomputable def regJ : Code := lft (lft h5)
noncomputable def blkJ : Code := rgt (lft h5)
noncomputable def roundJ : Code := lft (lft blkJ)
noncomputable def tmJ : Code := lft roundJ
noncomputable def bbJ : Code := lft (lft (rgt roundJ))
noncomputable def incJ : Code := rgt (rgt roundJ)
noncomputable def finJ : Code := rgt h5
abbrev n5f : List Nat := [2, 3, 4, 7, 9, 17, 18, 19]
abbrev n5g : List Nat := [2, 3, 4, 7, 9, 17, 18, 19, 20]
abbrev n5h : List Nat := [2, 3, 4, 7, 9, 17, 18, 19, 21, 22]
abbrev n5i : List Nat := [2, 3, 4, 7, 9, 17, 18, 19, 21, 22, 23]
abbrev v5f (q : InA) (i : Nat) : List SVal := v5e q ++ [.int .i64 (i : Nat)]
abbrev v5h (q : InA) (i : Nat) : List SVal := v5f q i ++ [.sli 16 (.c 0) 1 (.v 3) (some (.v 3)), .sli 17 (.c 0) 1 (.v 3) (some (.v 3))]
abbrev sAw (q : InA) (m n : Nat) (ts us : List (Bool × Nat)) (s : Mc) (t : Yc) : St := sA q m n ts us s t ++ [.own [.a (encInt .u32) 3 s.l] 45, .own [.a (encInt .u32) 3 t.l] 45]
end Go.Proofs.YtlnigpeoffaemaaDoor

namespace Go.Proofs.YtlnigpeoffaemaaDoor
open Go Go.Proofs.YtlnigpeoffaemaaDoor.Sx
set_option linter.unusedVariables false
set_option maxRecDepth 100000 in
theorem w_reg {q : InA} {m n : Nat} {ts us : List (Bool × Nat)} {s : Mc} {t : Yc} : (exec cfgM 100 reg5 (fr 183 n5e (v5e q)) (sA q m n ts us s t)).bind (canonK 16 [(0,0)] 183 n5f) =
 

 (.ret (.normal, [.sli 13 (.c 0) 1 (.v q.3.length) (some (.v q.4)), .ptr 14 0, .ptr 15 0, .ptr 1 0, .ptr 8 0, .ptr 5 0, .ptr 10 0, .lit .i64 (0 : Int)], [.ro encLook [PUnit.unit], .own [.c (.sli 2 (.c 0) 1 (.v 3) (some (.v 3))), .c (.int .i64 s.2)] 67, .own [.a (encInt IntKind.u32) 3 s.1] 45, .many encAd s.3 86, .many encTw s.4 78, .own [.c (.ptr 1 0), .c (.sli 6 (.c 0) 1 (.v m) none), .c (.sli 7 (.c 0) 1 (.v m) (some (.v m)))] 70, .vec (encTs 3 4) ts 44, .own [.a encBool m s.5] 4, .own [.c (.sli 9 (.c 0) 1 (.v 3) (some (.v 3))), .c (.int .i64 t.2)] 67, .own [.a (encInt IntKind.u32) 3 t.1] 45, .own [.c (.ptr 8 0), .c (.sli 11 (.c 0) 1 (.v n) none), .c (.sli 12 (.c 0) 1 (.v n) (some (.v n)))] 70, .vec (encTs 3 4) us 44, .own [.a encBool n t.3] 4, .ro (encInt IntKind.i64) q.3, .own [.c (.int .u8 q.a.1), .c (.int .i64 q.a.2), .c (.int .i64 q.a.3)] 51, .own [.c (.int .u8 q.b.1), .c (.int .i64 q.b.2), .c (.int .i64 q.b.3)] 51])) := by kernel_rfl
set_option maxRecDepth 100000 in
theorem w_tm {q : InA} {m n : Nat} {ts us : List (Bool × Nat)} {s : Mc} {t : Yc} {i : Nat} : (exec cfgM 100 tm5 (fr 183 n5f (v5f q i)) (sA q m n ts us s t)).bind (canonK 16 [(0,0)] 183 n5f) =
 

 (.br (decide ((↑i : Int) < (↑q.3.length : Int)))

 (.br (decide ((↑i : Int) < (100 : Int)))

 (.ret (.normal, [.sli 13 (.c 0) 1 (.v q.3.length) (some (.v q.4)), .ptr 14 0, .ptr 15 0, .ptr 1 0, .ptr 8 0, .ptr 5 0, .ptr 10 0, .int .i64 (↑i : Int)], [.ro encLook [PUnit.unit], .own [.c (.sli 2 (.c 0) 1 (.v 3) (some (.v 3))), .c (.int .i64 s.2)] 67, .own [.a (encInt IntKind.u32) 3 s.1] 45, .many encAd s.3 86, .many encTw s.4 78, .own [.c (.ptr 1 0), .c (.sli 6 (.c 0) 1 (.v m) none), .c (.sli 7 (.c 0) 1 (.v m) (some (.v m)))] 70, .vec (encTs 3 4) ts 44, .own [.a encBool m s.5] 4, .own [.c (.sli 9 (.c 0) 1 (.v 3) (some (.v 3))), .c (.int .i64 t.2)] 67, .own [.a (encInt IntKind.u32) 3 t.1] 45, .own [.c (.ptr 8 0), .c (.sli 11 (.c 0) 1 (.v n) none), .c (.sli 12 (.c 0) 1 (.v n) (some (.v n)))] 70, .vec (encTs 3 4) us 44, .own [.a encBool n t.3] 4, .ro (encInt IntKind.i64) q.3, .own [.c (.int .u8 q.a.1), .c (.int .i64 q.a.2), .c (.int .i64 q.a.3)] 51, .own [.c (.int .u8 q.b.1), .c (.int .i64 q.b.2), .c (.int .i64 q.b.3)] 51]))

 (.ret (.exit 0, [.sli 13 (.c 0) 1 (.v q.3.length) (some (.v q.4)), .ptr 14 0, .ptr 15 0, .ptr 1 0, .ptr 8 0, .ptr 5 0, .ptr 10 0, .int .i64 (↑i : Int)], [.ro encLook [PUnit.unit], .own [.c (.sli 2 (.c 0) 1 (.v 3) (some (.v 3))), .c (.int .i64 s.2)] 67, .own [.a (encInt IntKind.u32) 3 s.1] 45, .many encAd s.3 86, .many encTw s.4 78, .own [.c (.ptr 1 0), .c (.sli 6 (.c 0) 1 (.v m) none), .c (.sli 7 (.c 0) 1 (.v m) (some (.v m)))] 70, .vec (encTs 3 4) ts 44, .own [.a encBool m s.5] 4, .own [.c (.sli 9 (.c 0) 1 (.v 3) (some (.v 3))), .c (.int .i64 t.2)] 67, .own [.a (encInt IntKind.u32) 3 t.1] 45, .own [.c (.ptr 8 0), .c (.sli 11 (.c 0) 1 (.v n) none), .c (.sli 12 (.c 0) 1 (.v n) (some (.v n)))] 70, .vec (encTs 3 4) us 44, .own [.a encBool n t.3] 4, .ro (encInt IntKind.i64) q.3, .own [.c (.int .u8 q.a.1), .c (.int .i64 q.a.2), .c (.int .i64 q.a.3)] 51, .own [.c (.int .u8 q.b.1), .c (.int .i64 q.b.2), .c (.int .i64 q.b.3)] 51])))

 (.ret (.exit 0, [.sli 13 (.c 0) 1 (.v q.3.length) (some (.v q.4)), .ptr 14 0, .ptr 15 0, .ptr 1 0, .ptr 8 0, .ptr 5 0, .ptr 10 0, .int .i64 (↑i : Int)], [.ro encLook [PUnit.unit], .own [.c (.sli 2 (.c 0) 1 (.v 3) (some (.v 3))), .c (.int .i64 s.2)] 67, .own [.a (encInt IntKind.u32) 3 s.1] 45, .many encAd s.3 86, .many encTw s.4 78, .own [.c (.ptr 1 0), .c (.sli 6 (.c 0) 1 (.v m) none), .c (.sli 7 (.c 0) 1 (.v m) (some (.v m)))] 70, .vec (encTs 3 4) ts 44, .own [.a encBool m s.5] 4, .own [.c (.sli 9 (.c 0) 1 (.v 3) (some (.v 3))), .c (.int .i64 t.2)] 67, .own [.a (encInt IntKind.u32) 3 t.1] 45, .own [.c (.ptr 8 0), .c (.sli 11 (.c 0) 1 (.v n) none), .c (.sli 12 (.c 0) 1 (.v n) (some (.v n)))] 70, .vec (encTs 3 4) us 44, .own [.a encBool n t.3] 4, .ro (encInt IntKind.i64) q.3, .own [.c (.int .u8 q.a.1), .c (.int .i64 q.a.2), .c (.int .i64 q.a.3)] 51, .own [.c (.int .u8 q.b.1), .c (.int .i64 q.b.2), .c (.int .i64 q.b.3)] 51]))) := by kernel_rfl
set_option maxRecDepth 100000 in
theorem w_px {q : InA} {m n : Nat} {ts us : List (Bool × Nat)} {s : Mc} {t : Yc} {i : Nat} : (execN (cfgQ 3 m ts s) 100 1 bb5 (fr 183 n5f (v5f q i)) (sA q m n ts us s t)).bind (canonK 16 [(0,0)] 183 n5g) =
 

 (.need (decide ((0 : Int) ≤ (↑i : Int)) && decide ((↑i : Int).toNat < q.3.length))

 (.need (decide ((↑i : Int).toNat < q.3.length))

 (.eq ([Blk.ro encLook [PUnit.unit], .own [.c (.sli 2 (.c 0) 1 (.v 3) (some (.v 3))), .c (.int .i64 s.2)] 67, .own [.a (encInt IntKind.u32) 3 s.1] 45, .many encAd s.3 86, .many encTw s.4 78, .own [.c (.ptr 1 0), .c (.sli 6 (.c 0) 1 (.v m) none), .c (.sli 7 (.c 0) 1 (.v m) (some (.v m)))] 70, .vec (encTs 3 4) ts 44, .own [.a encBool m s.5] 4] = [Blk.ro encLook [PUnit.unit], .own [.c (.sli 2 (.c 0) 1 (.v 3) (some (.v 3))), .c (.int .i64 s.2)] 67, .own [.a (encInt IntKind.u32) 3 s.1] 45, .many encAd s.3 86, .many encTw s.4 78, .own [.c (.ptr 1 0), .c (.sli 6 (.c 0) 1 (.v m) none), .c (.sli 7 (.c 0) 1 (.v m) (some (.v m)))] 70, .vec (encTs 3 4) ts 44, .own [.a encBool m s.5] 4] ∧ McOk 3 m ts s)

 (.ret (.normal, [.sli 13 (.c 0) 1 (.v q.3.length) (some (.v q.4)), .ptr 14 0, .ptr 15 0, .ptr 1 0, .ptr 8 0, .ptr 5 0, .ptr 10 0, .int .i64 (↑i : Int), .int .i64 (errP m s (q.3.getD (↑i : Int).toNat (0 : Int)))], [.ro encLook [PUnit.unit], .own [.c (.sli 2 (.c 0) 1 (.v 3) (some (.v 3))), .c (.int .i64 (pickP m ts s (q.3.getD (↑i : Int).toNat (0 : Int))).c)] 67, .own [.a (encInt IntKind.u32) 3 (pickP m ts s (q.3.getD (↑i : Int).toNat (0 : Int))).l] 45, .many encAd (pickP m ts s (q.3.getD (↑i : Int).toNat (0 : Int))).ad 86, .many encTw (pickP m ts s (q.3.getD (↑i : Int).toNat (0 : Int))).tw 78, .own [.c (.ptr 1 0), .c (.sli 6 (.c 0) 1 (.v m) none), .c (.sli 7 (.c 0) 1 (.v m) (some (.v m)))] 70, .vec (encTs 3 4) ts 44, .own [.a encBool m (pickP m ts s (q.3.getD (↑i : Int).toNat (0 : Int))).ds] 4, .own [.c (.sli 9 (.c 0) 1 (.v 3) (some (.v 3))), .c (.int .i64 t.2)] 67, .own [.a (encInt IntKind.u32) 3 t.1] 45, .own [.c (.ptr 8 0), .c (.sli 11 (.c 0) 1 (.v n) none), .c (.sli 12 (.c 0) 1 (.v n) (some (.v n)))] 70, .vec (encTs 3 4) us 44, .own [.a encBool n t.3] 4, .ro (encInt IntKind.i64) q.3, .own [.c (.int .u8 q.a.1), .c (.int .i64 q.a.2), .c (.int .i64 q.a.3)] 51, .own [.c (.int .u8 q.b.1), .c (.int .i64 q.b.2), .c (.int .i64 q.b.3)] 51]))))) := by kernel_rfl
set_option maxRecDepth 100000 in
theorem w_py {q : InA} {m n : Nat} {ts us : List (Bool × Nat)} {s : Mc} {t : Yc} {i : Nat} {g : Int} : (execN (cfgY q m n ts us s t) 100 1 (restC 1 bb5) (fr 183 n5g (v5f q i ++ [.int .i64 g])) (sA q m n ts us s t)).bind (canonK 16 [(0,0)] 183 n5f) =
 

 (.need (decide ((0 : Int) ≤ (↑i : Int)) && decide ((↑i : Int).toNat < q.3.length))

 (.need (decide ((↑i : Int).toNat < q.3.length))

 (.br (q.3.getD (↑i : Int).toNat (0 : Int) == (0 : Int))

 (.eq ([SVal.ptr 10 0, .lit .i64 (0 : Int)] = [SVal.ptr 10 0, .lit .i64 (0 : Int)] ∧ [Blk.ro encLook [PUnit.unit], .own [.c (.sli 2 (.c 0) 1 (.v 3) (some (.v 3))), .c (.int .i64 s.2)] 67, .own [.a (encInt IntKind.u32) 3 s.1] 45, .many encAd s.3 86, .many encTw s.4 78, .own [.c (.ptr 1 0), .c (.sli 6 (.c 0) 1 (.v m) none), .c (.sli 7 (.c 0) 1 (.v m) (some (.v m)))] 70, .vec (encTs 3 4) ts 44, .own [.a encBool m s.5] 4, .own [.c (.sli 9 (.c 0) 1 (.v 3) (some (.v 3))), .c (.int .i64 t.2)] 67, .own [.a (encInt IntKind.u32) 3 t.1] 45, .own [.c (.ptr 8 0), .c (.sli 11 (.c 0) 1 (.v n) none), .c (.sli 12 (.c 0) 1 (.v n) (some (.v n)))] 70, .vec (encTs 3 4) us 44, .own [.a encBool n t.3] 4, .ro (encInt IntKind.i64) q.3, .own [.c (.int .u8 q.a.1), .c (.int .i64 q.a.2), .c (.int .i64 q.a.3)] 51, .own [.c (.int .u8 q.b.1), .c (.int .i64 q.b.2), .c (.int .i64 q.b.3)] 51] = [Blk.ro encLook [PUnit.unit], .own [.c (.sli 2 (.c 0) 1 (.v 3) (some (.v 3))), .c (.int .i64 s.2)] 67, .own [.a (encInt IntKind.u32) 3 s.1] 45, .many encAd s.3 86, .many encTw s.4 78, .own [.c (.ptr 1 0), .c (.sli 6 (.c 0) 1 (.v m) none), .c (.sli 7 (.c 0) 1 (.v m) (some (.v m)))] 70, .vec (encTs 3 4) ts 44, .own [.a encBool m s.5] 4, .own [.c (.sli 9 (.c 0) 1 (.v 3) (some (.v 3))), .c (.int .i64 t.2)] 67, .own [.a (encInt IntKind.u32) 3 t.1] 45, .own [.c (.ptr 8 0), .c (.sli 11 (.c 0) 1 (.v n) none), .c (.sli 12 (.c 0) 1 (.v n) (some (.v n)))] 70, .vec (encTs 3 4) us 44, .own [.a encBool n t.3] 4, .ro (encInt IntKind.i64) q.3, .own [.c (.int .u8 q.a.1), .c (.int .i64 q.a.2), .c (.int .i64 q.a.3)] 51, .own [.c (.int .u8 q.b.1), .c (.int .i64 q.b.2), .c (.int .i64 q.b.3)] 51] ∧ McOk 3 n us (yMc s t))

 (.br (errP n { l := t.1, c := t.2, ad := s.3, tw := s.4, ds := t.3 } (0 : Int) != g)

 (.ret (.ret, [.sli 13 (.c 0) 1 (.v q.3.length) (some (.v q.4)), .ptr 14 0, .ptr 15 0, .ptr 1 0, .ptr 8 0, .ptr 5 0, .ptr 10 0, .int .i64 (↑i : Int)], [.ro encLook [PUnit.unit], .own [.c (.sli 2 (.c 0) 1 (.v 3) (some (.v 3))), .c (.int .i64 s.2)] 67, .own [.a (encInt IntKind.u32) 3 s.1] 45, .many encAd (pickP n us { l := t.1, c := t.2, ad := s.3, tw := s.4, ds := t.3 } (0 : Int)).ad 86, .many encTw (pickP n us { l := t.1, c := t.2, ad := s.3, tw := s.4, ds := t.3 } (0 : Int)).tw 78, .own [.c (.ptr 1 0), .c (.sli 6 (.c 0) 1 (.v m) none), .c (.sli 7 (.c 0) 1 (.v m) (some (.v m)))] 70, .vec (encTs 3 4) ts 44, .own [.a encBool m s.5] 4, .own [.c (.sli 9 (.c 0) 1 (.v 3) (some (.v 3))), .c (.int .i64 (pickP n us { l := t.1, c := t.2, ad := s.3, tw := s.4, ds := t.3 } (0 : Int)).c)] 67, .own [.a (encInt IntKind.u32) 3 (pickP n us { l := t.1, c := t.2, ad := s.3, tw := s.4, ds := t.3 } (0 : Int)).l] 45, .own [.c (.ptr 8 0), .c (.sli 11 (.c 0) 1 (.v n) none), .c (.sli 12 (.c 0) 1 (.v n) (some (.v n)))] 70, .vec (encTs 3 4) us 44, .own [.a encBool n (pickP n us { l := t.1, c := t.2, ad := s.3, tw := s.4, ds := t.3 } (0 : Int)).ds] 4, .ro (encInt IntKind.i64) q.3, .own [.c (.int .u8 q.a.1), .c (.int .i64 q.a.2), .c (.int .i64 q.a.3)] 51, .own [.c (.int .u8 q.b.1), .c (.int .i64 q.b.2), .c (.int .i64 q.b.3)] 51]))

 (.ret (.normal, [.sli 13 (.c 0) 1 (.v q.3.length) (some (.v q.4)), .ptr 14 0, .ptr 15 0, .ptr 1 0, .ptr 8 0, .ptr 5 0, .ptr 10 0, .int .i64 (↑i : Int)], [.ro encLook [PUnit.unit], .own [.c (.sli 2 (.c 0) 1 (.v 3) (some (.v 3))), .c (.int .i64 s.2)] 67, .own [.a (encInt IntKind.u32) 3 s.1] 45, .many encAd (pickP n us { l := t.1, c := t.2, ad := s.3, tw := s.4, ds := t.3 } (0 : Int)).ad 86, .many encTw (pickP n us { l := t.1, c := t.2, ad := s.3, tw := s.4, ds := t.3 } (0 : Int)).tw 78, .own [.c (.ptr 1 0), .c (.sli 6 (.c 0) 1 (.v m) none), .c (.sli 7 (.c 0) 1 (.v m) (some (.v m)))] 70, .vec (encTs 3 4) ts 44, .own [.a encBool m s.5] 4, .own [.c (.sli 9 (.c 0) 1 (.v 3) (some (.v 3))), .c (.int .i64 (pickP n us { l := t.1, c := t.2, ad := s.3, tw := s.4, ds := t.3 } (0 : Int)).c)] 67, .own [.a (encInt IntKind.u32) 3 (pickP n us { l := t.1, c := t.2, ad := s.3, tw := s.4, ds := t.3 } (0 : Int)).l] 45, .own [.c (.ptr 8 0), .c (.sli 11 (.c 0) 1 (.v n) none), .c (.sli 12 (.c 0) 1 (.v n) (some (.v n)))] 70, .vec (encTs 3 4) us 44, .own [.a encBool n (pickP n us { l := t.1, c := t.2, ad := s.3, tw := s.4, ds := t.3 } (0 : Int)).ds] 4, .ro (encInt IntKind.i64) q.3, .own [.c (.int .u8 q.a.1), .c (.int .i64 q.a.2), .c (.int .i64 q.a.3)] 51, .own [.c (.int .u8 q.b.1), .c (.int .i64 q.b.2), .c (.int .i64 q.b.3)] 51]))))

 (.ret (.normal, [.sli 13 (.c 0) 1 (.v q.3.length) (some (.v q.4)), .ptr 14 0, .ptr 15 0, .ptr 1 0, .ptr 8 0, .ptr 5 0, .ptr 10 0, .int .i64 (↑i : Int)], [.ro encLook [PUnit.unit], .own [.c (.sli 2 (.c 0) 1 (.v 3) (some (.v 3))), .c (.int .i64 s.2)] 67, .own [.a (encInt IntKind.u32) 3 s.1] 45, .many encAd s.3 86, .many encTw s.4 78, .own [.c (.ptr 1 0), .c (.sli 6 (.c 0) 1 (.v m) none), .c (.sli 7 (.c 0) 1 (.v m) (some (.v m)))] 70, .vec (encTs 3 4) ts 44, .own [.a encBool m s.5] 4, .own [.c (.sli 9 (.c 0) 1 (.v 3) (some (.v 3))), .c (.int .i64 t.2)] 67, .own [.a (encInt IntKind.u32) 3 t.1] 45, .own [.c (.ptr 8 0), .c (.sli 11 (.c 0) 1 (.v n) none), .c (.sli 12 (.c 0) 1 (.v n) (some (.v n)))] 70, .vec (encTs 3 4) us 44, .own [.a encBool n t.3] 4, .ro (encInt IntKind.i64) q.3, .own [.c (.int .u8 q.a.1), .c (.int .i64 q.a.2), .c (.int .i64 q.a.3)] 51, .own [.c (.int .u8 q.b.1), .c (.int .i64 q.b.2), .c (.int .i64 q.b.3)] 51]))))) := by kernel_rfl
set_option maxRecDepth 100000 in
theorem w_words {q : InA} {m n : Nat} {ts us : List (Bool × Nat)} {s : Mc} {t : Yc} {i : Nat} : (execN cfgM 100 1 (restC 2 bb5) (fr 183 n5f (v5f q i)) (sA q m n ts us s t)).bind (canonK 16 [(0,0)] 183 n5h) =
 

 (.need (true)

 (.need (true)

 (.need (true)

 (.need (decide (3 ≤ s.1.length))

 (.need (decide (3 = (List.take 3 (List.drop 0 s.1)).length))

 (.need (decide (3 = (List.take 3 (List.drop 0 s.1)).length * 1))

 (.need ((List.take 3 (List.drop 0 s.1)).all fun x => ((encInt IntKind.u32).enc x).all scalar)

 (.need (true)

 (.need (true)

 (.need (true)

 (.need (decide (3 ≤ t.1.length))

 (.need (decide (3 = (List.take 3 (List.drop 0 t.1)).length))

 (.need (decide (3 = (List.take 3 (List.drop 0 t.1)).length * 1))

 (.need ((List.take 3 (List.drop 0 t.1)).all fun x => ((encInt IntKind.u32).enc x).all scalar)

 (.ret (.normal, [.sli 13 (.c 0) 1 (.v q.3.length) (some (.v q.4)), .ptr 14 0, .ptr 15 0, .ptr 1 0, .ptr 8 0, .ptr 5 0, .ptr 10 0, .int .i64 (↑i : Int), .sli 16 (.c 0) 1 (.v 3) (some (.v 3)), .sli 17 (.c 0) 1 (.v 3) (some (.v 3))], [.ro encLook [PUnit.unit], .own [.c (.sli 2 (.c 0) 1 (.v 3) (some (.v 3))), .c (.int .i64 s.2)] 67, .own [.a (encInt IntKind.u32) 3 s.1] 45, .many encAd s.3 86, .many encTw s.4 78, .own [.c (.ptr 1 0), .c (.sli 6 (.c 0) 1 (.v m) none), .c (.sli 7 (.c 0) 1 (.v m) (some (.v m)))] 70, .vec (encTs 3 4) ts 44, .own [.a encBool m s.5] 4, .own [.c (.sli 9 (.c 0) 1 (.v 3) (some (.v 3))), .c (.int .i64 t.2)] 67, .own [.a (encInt IntKind.u32) 3 t.1] 45, .own [.c (.ptr 8 0), .c (.sli 11 (.c 0) 1 (.v n) none), .c (.sli 12 (.c 0) 1 (.v n) (some (.v n)))] 70, .vec (encTs 3 4) us 44, .own [.a encBool n t.3] 4, .ro (encInt IntKind.i64) q.3, .own [.c (.int .u8 q.a.1), .c (.int .i64 q.a.2), .c (.int .i64 q.a.3)] 51, .own [.c (.int .u8 q.b.1), .c (.int .i64 q.b.2), .c (.int .i64 q.b.3)] 51, .own [.a (encInt IntKind.u32) (List.take 3 (List.drop 0 s.1)).length (List.take 3 (List.drop 0 s.1))] 45, .own [.a (encInt IntKind.u32) (List.take 3 (List.drop 0 t.1)).length (List.take 3 (List.drop 0 t.1))] 45])))))))))))))))) := by kernel_rfl
set_option maxRecDepth 100000 in
theorem w_regJ {q : InA} {m n : Nat} {ts us : List (Bool × Nat)} {s : Mc} {t : Yc} {i : Nat} : (exec cfgM 100 regJ (fr 183 n5h (v5h q i)) (sAw q m n ts us s t)).bind (canonK 18 [(0,0)] 183 n5i) =
 

 (.ret (.normal, [.sli 13 (.c 0) 1 (.v q.3.length) (some (.v q.4)), .ptr 14 0, .ptr 15 0, .ptr 1 0, .ptr 8 0, .ptr 5 0, .ptr 10 0, .int .i64 (↑i : Int), .sli 16 (.c 0) 1 (.v 3) (some (.v 3)), .sli 17 (.c 0) 1 (.v 3) (some (.v 3)), .lit .i64 (0 : Int)], [.ro encLook [PUnit.unit], .own [.c (.sli 2 (.c 0) 1 (.v 3) (some (.v 3))), .c (.int .i64 s.2)] 67, .own [.a (encInt IntKind.u32) 3 s.1] 45, .many encAd s.3 86, .many encTw s.4 78, .own [.c (.ptr 1 0), .c (.sli 6 (.c 0) 1 (.v m) none), .c (.sli 7 (.c 0) 1 (.v m) (some (.v m)))] 70, .vec (encTs 3 4) ts 44, .own [.a encBool m s.5] 4, .own [.c (.sli 9 (.c 0) 1 (.v 3) (some (.v 3))), .c (.int .i64 t.2)] 67, .own [.a (encInt IntKind.u32) 3 t.1] 45, .own [.c (.ptr 8 0), .c (.sli 11 (.c 0) 1 (.v n) none), .c (.sli 12 (.c 0) 1 (.v n) (some (.v n)))] 70, .vec (encTs 3 4) us 44, .own [.a encBool n t.3] 4, .ro (encInt IntKind.i64) q.3, .own [.c (.int .u8 q.a.1), .c (.int .i64 q.a.2), .c (.int .i64 q.a.3)] 51, .own [.c (.int .u8 q.b.1), .c (.int .i64 q.b.2), .c (.int .i64 q.b.3)] 51, .own [.a (encInt IntKind.u32) 3 s.1] 45, .own [.a (encInt IntKind.u32) 3 t.1] 45])) := by kernel_rfl
set_option maxRecDepth 100000 in
theorem w_tmJ {q : InA} {m n : Nat} {ts us : List (Bool × Nat)} {s : Mc} {t : Yc} {i j : Nat} : (exec cfgM 100 tmJ (fr 183 n5i (v5h q i ++ [.int .i64 (j : Nat)])) (sAw q m n ts us s t)).bind (canonK 18 [(0,0)] 183 n5i) =
 

 (.br (decide ((↑j : Int) < (3 : Int)))

 (.br (decide ((↑j : Int) < (3 : Int)))

 (.ret (.normal, [.sli 13 (.c 0) 1 (.v q.3.length) (some (.v q.4)), .ptr 14 0, .ptr 15 0, .ptr 1 0, .ptr 8 0, .ptr 5 0, .ptr 10 0, .int .i64 (↑i : Int), .sli 16 (.c 0) 1 (.v 3) (some (.v 3)), .sli 17 (.c 0) 1 (.v 3) (some (.v 3)), .int .i64 (↑j : Int)], [.ro encLook [PUnit.unit], .own [.c (.sli 2 (.c 0) 1 (.v 3) (some (.v 3))), .c (.int .i64 s.2)] 67, .own [.a (encInt IntKind.u32) 3 s.1] 45, .many encAd s.3 86, .many encTw s.4 78, .own [.c (.ptr 1 0), .c (.sli 6 (.c 0) 1 (.v m) none), .c (.sli 7 (.c 0) 1 (.v m) (some (.v m)))] 70, .vec (encTs 3 4) ts 44, .own [.a encBool m s.5] 4, .own [.c (.sli 9 (.c 0) 1 (.v 3) (some (.v 3))), .c (.int .i64 t.2)] 67, .own [.a (encInt IntKind.u32) 3 t.1] 45, .own [.c (.ptr 8 0), .c (.sli 11 (.c 0) 1 (.v n) none), .c (.sli 12 (.c 0) 1 (.v n) (some (.v n)))] 70, .vec (encTs 3 4) us 44, .own [.a encBool n t.3] 4, .ro (encInt IntKind.i64) q.3, .own [.c (.int .u8 q.a.1), .c (.int .i64 q.a.2), .c (.int .i64 q.a.3)] 51, .own [.c (.int .u8 q.b.1), .c (.int .i64 q.b.2), .c (.int .i64 q.b.3)] 51, .own [.a (encInt IntKind.u32) 3 s.1] 45, .own [.a (encInt IntKind.u32) 3 t.1] 45]))

 (.ret (.exit 2, [.sli 13 (.c 0) 1 (.v q.3.length) (some (.v q.4)), .ptr 14 0, .ptr 15 0, .ptr 1 0, .ptr 8 0, .ptr 5 0, .ptr 10 0, .int .i64 (↑i : Int), .sli 16 (.c 0) 1 (.v 3) (some (.v 3)), .sli 17 (.c 0) 1 (.v 3) (some (.v 3)), .int .i64 (↑j : Int)], [.ro encLook [PUnit.unit], .own [.c (.sli 2 (.c 0) 1 (.v 3) (some (.v 3))), .c (.int .i64 s.2)] 67, .own [.a (encInt IntKind.u32) 3 s.1] 45, .many encAd s.3 86, .many encTw s.4 78, .own [.c (.ptr 1 0), .c (.sli 6 (.c 0) 1 (.v m) none), .c (.sli 7 (.c 0) 1 (.v m) (some (.v m)))] 70, .vec (encTs 3 4) ts 44, .own [.a encBool m s.5] 4, .own [.c (.sli 9 (.c 0) 1 (.v 3) (some (.v 3))), .c (.int .i64 t.2)] 67, .own [.a (encInt IntKind.u32) 3 t.1] 45, .own [.c (.ptr 8 0), .c (.sli 11 (.c 0) 1 (.v n) none), .c (.sli 12 (.c 0) 1 (.v n) (some (.v n)))] 70, .vec (encTs 3 4) us 44, .own [.a encBool n t.3] 4, .ro (encInt IntKind.i64) q.3, .own [.c (.int .u8 q.a.1), .c (.int .i64 q.a.2), .c (.int .i64 q.a.3)] 51, .own [.c (.int .u8 q.b.1), .c (.int .i64 q.b.2), .c (.int .i64 q.b.3)] 51, .own [.a (encInt IntKind.u32) 3 s.1] 45, .own [.a (encInt IntKind.u32) 3 t.1] 45])))

 (.ret (.exit 2, [.sli 13 (.c 0) 1 (.v q.3.length) (some (.v q.4)), .ptr 14 0, .ptr 15 0, .ptr 1 0, .ptr 8 0, .ptr 5 0, .ptr 10 0, .int .i64 (↑i : Int), .sli 16 (.c 0) 1 (.v 3) (some (.v 3)), .sli 17 (.c 0) 1 (.v 3) (some (.v 3)), .int .i64 (↑j : Int)], [.ro encLook [PUnit.unit], .own [.c (.sli 2 (.c 0) 1 (.v 3) (some (.v 3))), .c (.int .i64 s.2)] 67, .own [.a (encInt IntKind.u32) 3 s.1] 45, .many encAd s.3 86, .many encTw s.4 78, .own [.c (.ptr 1 0), .c (.sli 6 (.c 0) 1 (.v m) none), .c (.sli 7 (.c 0) 1 (.v m) (some (.v m)))] 70, .vec (encTs 3 4) ts 44, .own [.a encBool m s.5] 4, .own [.c (.sli 9 (.c 0) 1 (.v 3) (some (.v 3))), .c (.int .i64 t.2)] 67, .own [.a (encInt IntKind.u32) 3 t.1] 45, .own [.c (.ptr 8 0), .c (.sli 11 (.c 0) 1 (.v n) none), .c (.sli 12 (.c 0) 1 (.v n) (some (.v n)))] 70, .vec (encTs 3 4) us 44, .own [.a encBool n t.3] 4, .ro (encInt IntKind.i64) q.3, .own [.c (.int .u8 q.a.1), .c (.int .i64 q.a.2), .c (.int .i64 q.a.3)] 51, .own [.c (.int .u8 q.b.1), .c (.int .i64 q.b.2), .c (.int .i64 q.b.3)] 51, .own [.a (encInt IntKind.u32) 3 s.1] 45, .own [.a (encInt IntKind.u32) 3 t.1] 45]))) := by kernel_rfl
set_option maxRecDepth 100000 in
theorem w_bbJ {q : InA} {m n : Nat} {ts us : List (Bool × Nat)} {s : Mc} {t : Yc} {i j : Nat} : (exec cfgM 100 bbJ (fr 183 n5i (v5h q i ++ [.int .i64 (j : Nat)])) (sAw q m n ts us s t)).bind (canonK 18 [(0,0)] 183 n5i) =
 

 (.br ((↑j : Int) == q.a.2)

 (.need (decide ((0 : Int) ≤ (↑j : Int)) && decide ((↑j : Int).toNat < 3))

 (.need (decide ((↑j : Int).toNat < 3))

 (.need (decide ((0 : Int) ≤ (↑j : Int)) && decide ((↑j : Int).toNat < 3))

 (.need (decide ((↑j : Int).toNat < 3))

 (.br (s.1.getD (↑j : Int).toNat (0 : Int) != t.1.getD (↑j : Int).toNat (0 : Int))

 (.ret (.ret, [.sli 13 (.c 0) 1 (.v q.3.length) (some (.v q.4)), .ptr 14 0, .ptr 15 0, .ptr 1 0, .ptr 8 0, .ptr 5 0, .ptr 10 0, .int .i64 (↑i : Int), .sli 16 (.c 0) 1 (.v 3) (some (.v 3)), .sli 17 (.c 0) 1 (.v 3) (some (.v 3)), .int .i64 (↑j : Int)], [.ro encLook [PUnit.unit], .own [.c (.sli 2 (.c 0) 1 (.v 3) (some (.v 3))), .c (.int .i64 s.2)] 67, .own [.a (encInt IntKind.u32) 3 s.1] 45, .many encAd s.3 86, .many encTw s.4 78, .own [.c (.ptr 1 0), .c (.sli 6 (.c 0) 1 (.v m) none), .c (.sli 7 (.c 0) 1 (.v m) (some (.v m)))] 70, .vec (encTs 3 4) ts 44, .own [.a encBool m s.5] 4, .own [.c (.sli 9 (.c 0) 1 (.v 3) (some (.v 3))), .c (.int .i64 t.2)] 67, .own [.a (encInt IntKind.u32) 3 t.1] 45, .own [.c (.ptr 8 0), .c (.sli 11 (.c 0) 1 (.v n) none), .c (.sli 12 (.c 0) 1 (.v n) (some (.v n)))] 70, .vec (encTs 3 4) us 44, .own [.a encBool n t.3] 4, .ro (encInt IntKind.i64) q.3, .own [.c (.int .u8 q.a.1), .c (.int .i64 q.a.2), .c (.int .i64 q.a.3)] 51, .own [.c (.int .u8 q.b.1), .c (.int .i64 q.b.2), .c (.int .i64 q.b.3)] 51, .own [.a (encInt IntKind.u32) 3 s.1] 45, .own [.a (encInt IntKind.u32) 3 t.1] 45]))

 (.br ((↑j : Int) != q.a.2)

 (.br ((↑j : Int) != q.b.2)

 (.need (decide ((0 : Int) ≤ (↑j : Int)) && decide ((↑j : Int).toNat < 3))

 (.need (decide ((↑j : Int).toNat < 3))

 (.br (s.1.getD (↑j : Int).toNat (0 : Int) != (0 : Int))

 (.ret (.ret, [.sli 13 (.c 0) 1 (.v q.3.length) (some (.v q.4)), .ptr 14 0, .ptr 15 0, .ptr 1 0, .ptr 8 0, .ptr 5 0, .ptr 10 0, .int .i64 (↑i : Int), .sli 16 (.c 0) 1 (.v 3) (some (.v 3)), .sli 17 (.c 0) 1 (.v 3) (some (.v 3)), .int .i64 (↑j : Int)], [.ro encLook [PUnit.unit], .own [.c (.sli 2 (.c 0) 1 (.v 3) (some (.v 3))), .c (.int .i64 s.2)] 67, .own [.a (encInt IntKind.u32) 3 s.1] 45, .many encAd s.3 86, .many encTw s.4 78, .own [.c (.ptr 1 0), .c (.sli 6 (.c 0) 1 (.v m) none), .c (.sli 7 (.c 0) 1 (.v m) (some (.v m)))] 70, .vec (encTs 3 4) ts 44, .own [.a encBool m s.5] 4, .own [.c (.sli 9 (.c 0) 1 (.v 3) (some (.v 3))), .c (.int .i64 t.2)] 67, .own [.a (encInt IntKind.u32) 3 t.1] 45, .own [.c (.ptr 8 0), .c (.sli 11 (.c 0) 1 (.v n) none), .c (.sli 12 (.c 0) 1 (.v n) (some (.v n)))] 70, .vec (encTs 3 4) us 44, .own [.a encBool n t.3] 4, .ro (encInt IntKind.i64) q.3, .own [.c (.int .u8 q.a.1), .c (.int .i64 q.a.2), .c (.int .i64 q.a.3)] 51, .own [.c (.int .u8 q.b.1), .c (.int .i64 q.b.2), .c (.int .i64 q.b.3)] 51, .own [.a (encInt IntKind.u32) 3 s.1] 45, .own [.a (encInt IntKind.u32) 3 t.1] 45]))

 (.br ((↑j : Int) != q.a.2)

 (.need (decide ((0 : Int) ≤ (↑j : Int)) && decide ((↑j : Int).toNat < 3))

 (.need (decide ((↑j : Int).toNat < 3))

 (.br (t.1.getD (↑j : Int).toNat (0 : Int) != (0 : Int))

 (.ret (.ret, [.sli 13 (.c 0) 1 (.v q.3.length) (some (.v q.4)), .ptr 14 0, .ptr 15 0, .ptr 1 0, .ptr 8 0, .ptr 5 0, .ptr 10 0, .int .i64 (↑i : Int), .sli 16 (.c 0) 1 (.v 3) (some (.v 3)), .sli 17 (.c 0) 1 (.v 3) (some (.v 3)), .int .i64 (↑j : Int)], [.ro encLook [PUnit.unit], .own [.c (.sli 2 (.c 0) 1 (.v 3) (some (.v 3))), .c (.int .i64 s.2)] 67, .own [.a (encInt IntKind.u32) 3 s.1] 45, .many encAd s.3 86, .many encTw s.4 78, .own [.c (.ptr 1 0), .c (.sli 6 (.c 0) 1 (.v m) none), .c (.sli 7 (.c 0) 1 (.v m) (some (.v m)))] 70, .vec (encTs 3 4) ts 44, .own [.a encBool m s.5] 4, .own [.c (.sli 9 (.c 0) 1 (.v 3) (some (.v 3))), .c (.int .i64 t.2)] 67, .own [.a (encInt IntKind.u32) 3 t.1] 45, .own [.c (.ptr 8 0), .c (.sli 11 (.c 0) 1 (.v n) none), .c (.sli 12 (.c 0) 1 (.v n) (some (.v n)))] 70, .vec (encTs 3 4) us 44, .own [.a encBool n t.3] 4, .ro (encInt IntKind.i64) q.3, .own [.c (.int .u8 q.a.1), .c (.int .i64 q.a.2), .c (.int .i64 q.a.3)] 51, .own [.c (.int .u8 q.b.1), .c (.int .i64 q.b.2), .c (.int .i64 q.b.3)] 51, .own [.a (encInt IntKind.u32) 3 s.1] 45, .own [.a (encInt IntKind.u32) 3 t.1] 45]))

 (.ret (.normal, [.sli 13 (.c 0) 1 (.v q.3.length) (some (.v q.4)), .ptr 14 0, .ptr 15 0, .ptr 1 0, .ptr 8 0, .ptr 5 0, .ptr 10 0, .int .i64 (↑i : Int), .sli 16 (.c 0) 1 (.v 3) (some (.v 3)), .sli 17 (.c 0) 1 (.v 3) (some (.v 3)), .int .i64 (↑j : Int)], [.ro encLook [PUnit.unit], .own [.c (.sli 2 (.c 0) 1 (.v 3) (some (.v 3))), .c (.int .i64 s.2)] 67, .own [.a (encInt IntKind.u32) 3 s.1] 45, .many encAd s.3 86, .many encTw s.4 78, .own [.c (.ptr 1 0), .c (.sli 6 (.c 0) 1 (.v m) none), .c (.sli 7 (.c 0) 1 (.v m) (some (.v m)))] 70, .vec (encTs 3 4) ts 44, .own [.a encBool m s.5] 4, .own [.c (.sli 9 (.c 0) 1 (.v 3) (some (.v 3))), .c (.int .i64 t.2)] 67, .own [.a (encInt IntKind.u32) 3 t.1] 45, .own [.c (.ptr 8 0), .c (.sli 11 (.c 0) 1 (.v n) none), .c (.sli 12 (.c 0) 1 (.v n) (some (.v n)))] 70, .vec (encTs 3 4) us 44, .own [.a encBool n t.3] 4, .ro (encInt IntKind.i64) q.3, .own [.c (.int .u8 q.a.1), .c (.int .i64 q.a.2), .c (.int .i64 q.a.3)] 51, .own [.c (.int .u8 q.b.1), .c (.int .i64 q.b.2), .c (.int .i64 q.b.3)] 51, .own [.a (encInt IntKind.u32) 3 s.1] 45, .own [.a (encInt IntKind.u32) 3 t.1] 45])))))

 (.ret (.normal, [.sli 13 (.c 0) 1 (.v q.3.length) (some (.v q.4)), .ptr 14 0, .ptr 15 0, .ptr 1 0, .ptr 8 0, .ptr 5 0, .ptr 10 0, .int .i64 (↑i : Int), .sli 16 (.c 0) 1 (.v 3) (some (.v 3)), .sli 17 (.c 0) 1 (.v 3) (some (.v 3)), .int .i64 (↑j : Int)], [.ro encLook [PUnit.unit], .own [.c (.sli 2 (.c 0) 1 (.v 3) (some (.v 3))), .c (.int .i64 s.2)] 67, .own [.a (encInt IntKind.u32) 3 s.1] 45, .many encAd s.3 86, .many encTw s.4 78, .own [.c (.ptr 1 0), .c (.sli 6 (.c 0) 1 (.v m) none), .c (.sli 7 (.c 0) 1 (.v m) (some (.v m)))] 70, .vec (encTs 3 4) ts 44, .own [.a encBool m s.5] 4, .own [.c (.sli 9 (.c 0) 1 (.v 3) (some (.v 3))), .c (.int .i64 t.2)] 67, .own [.a (encInt IntKind.u32) 3 t.1] 45, .own [.c (.ptr 8 0), .c (.sli 11 (.c 0) 1 (.v n) none), .c (.sli 12 (.c 0) 1 (.v n) (some (.v n)))] 70, .vec (encTs 3 4) us 44, .own [.a encBool n t.3] 4, .ro (encInt IntKind.i64) q.3, .own [.c (.int .u8 q.a.1), .c (.int .i64 q.a.2), .c (.int .i64 q.a.3)] 51, .own [.c (.int .u8 q.b.1), .c (.int .i64 q.b.2), .c (.int .i64 q.b.3)] 51, .own [.a (encInt IntKind.u32) 3 s.1] 45, .own [.a (encInt IntKind.u32) 3 t.1] 45]))))))

 (.br ((↑j : Int) != q.a.2)

 (.need (decide ((0 : Int) ≤ (↑j : Int)) && decide ((↑j : Int).toNat < 3))

 (.need (decide ((↑j : Int).toNat < 3))

 (.br (t.1.getD (↑j : Int).toNat (0 : Int) != (0 : Int))

 (.ret (.ret, [.sli 13 (.c 0) 1 (.v q.3.length) (some (.v q.4)), .ptr 14 0, .ptr 15 0, .ptr 1 0, .ptr 8 0, .ptr 5 0, .ptr 10 0, .int .i64 (↑i : Int), .sli 16 (.c 0) 1 (.v 3) (some (.v 3)), .sli 17 (.c 0) 1 (.v 3) (some (.v 3)), .int .i64 (↑j : Int)], [.ro encLook [PUnit.unit], .own [.c (.sli 2 (.c 0) 1 (.v 3) (some (.v 3))), .c (.int .i64 s.2)] 67, .own [.a (encInt IntKind.u32) 3 s.1] 45, .many encAd s.3 86, .many encTw s.4 78, .own [.c (.ptr 1 0), .c (.sli 6 (.c 0) 1 (.v m) none), .c (.sli 7 (.c 0) 1 (.v m) (some (.v m)))] 70, .vec (encTs 3 4) ts 44, .own [.a encBool m s.5] 4, .own [.c (.sli 9 (.c 0) 1 (.v 3) (some (.v 3))), .c (.int .i64 t.2)] 67, .own [.a (encInt IntKind.u32) 3 t.1] 45, .own [.c (.ptr 8 0), .c (.sli 11 (.c 0) 1 (.v n) none), .c (.sli 12 (.c 0) 1 (.v n) (some (.v n)))] 70, .vec (encTs 3 4) us 44, .own [.a encBool n t.3] 4, .ro (encInt IntKind.i64) q.3, .own [.c (.int .u8 q.a.1), .c (.int .i64 q.a.2), .c (.int .i64 q.a.3)] 51, .own [.c (.int .u8 q.b.1), .c (.int .i64 q.b.2), .c (.int .i64 q.b.3)] 51, .own [.a (encInt IntKind.u32) 3 s.1] 45, .own [.a (encInt IntKind.u32) 3 t.1] 45]))

 (.ret (.normal, [.sli 13 (.c 0) 1 (.v q.3.length) (some (.v q.4)), .ptr 14 0, .ptr 15 0, .ptr 1 0, .ptr 8 0, .ptr 5 0, .ptr 10 0, .int .i64 (↑i : Int), .sli 16 (.c 0) 1 (.v 3) (some (.v 3)), .sli 17 (.c 0) 1 (.v 3) (some (.v 3)), .int .i64 (↑j : Int)], [.ro encLook [PUnit.unit], .own [.c (.sli 2 (.c 0) 1 (.v 3) (some (.v 3))), .c (.int .i64 s.2)] 67, .own [.a (encInt IntKind.u32) 3 s.1] 45, .many encAd s.3 86, .many encTw s.4 78, .own [.c (.ptr 1 0), .c (.sli 6 (.c 0) 1 (.v m) none), .c (.sli 7 (.c 0) 1 (.v m) (some (.v m)))] 70, .vec (encTs 3 4) ts 44, .own [.a encBool m s.5] 4, .own [.c (.sli 9 (.c 0) 1 (.v 3) (some (.v 3))), .c (.int .i64 t.2)] 67, .own [.a (encInt IntKind.u32) 3 t.1] 45, .own [.c (.ptr 8 0), .c (.sli 11 (.c 0) 1 (.v n) none), .c (.sli 12 (.c 0) 1 (.v n) (some (.v n)))] 70, .vec (encTs 3 4) us 44, .own [.a encBool n t.3] 4, .ro (encInt IntKind.i64) q.3, .own [.c (.int .u8 q.a.1), .c (.int .i64 q.a.2), .c (.int .i64 q.a.3)] 51, .own [.c (.int .u8 q.b.1), .c (.int .i64 q.b.2), .c (.int .i64 q.b.3)] 51, .own [.a (encInt IntKind.u32) 3 s.1] 45, .own [.a (encInt IntKind.u32) 3 t.1] 45])))))

 (.ret (.normal, [.sli 13 (.c 0) 1 (.v q.3.length) (some (.v q.4)), .ptr 14 0, .ptr 15 0, .ptr 1 0, .ptr 8 0, .ptr 5 0, .ptr 10 0, .int .i64 (↑i : Int), .sli 16 (.c 0) 1 (.v 3) (some (.v 3)), .sli 17 (.c 0) 1 (.v 3) (some (.v 3)), .int .i64 (↑j : Int)], [.ro encLook [PUnit.unit], .own [.c (.sli 2 (.c 0) 1 (.v 3) (some (.v 3))), .c (.int .i64 s.2)] 67, .own [.a (encInt IntKind.u32) 3 s.1] 45, .many encAd s.3 86, .many encTw s.4 78, .own [.c (.ptr 1 0), .c (.sli 6 (.c 0) 1 (.v m) none), .c (.sli 7 (.c 0) 1 (.v m) (some (.v m)))] 70, .vec (encTs 3 4) ts 44, .own [.a encBool m s.5] 4, .own [.c (.sli 9 (.c 0) 1 (.v 3) (some (.v 3))), .c (.int .i64 t.2)] 67, .own [.a (encInt IntKind.u32) 3 t.1] 45, .own [.c (.ptr 8 0), .c (.sli 11 (.c 0) 1 (.v n) none), .c (.sli 12 (.c 0) 1 (.v n) (some (.v n)))] 70, .vec (encTs 3 4) us 44, .own [.a encBool n t.3] 4, .ro (encInt IntKind.i64) q.3, .own [.c (.int .u8 q.a.1), .c (.int .i64 q.a.2), .c (.int .i64 q.a.3)] 51, .own [.c (.int .u8 q.b.1), .c (.int .i64 q.b.2), .c (.int .i64 q.b.3)] 51, .own [.a (encInt IntKind.u32) 3 s.1] 45, .own [.a (encInt IntKind.u32) 3 t.1] 45]))))

 (.br ((↑j : Int) != q.a.2)

 (.need (decide ((0 : Int) ≤ (↑j : Int)) && decide ((↑j : Int).toNat < 3))

 (.need (decide ((↑j : Int).toNat < 3))

 (.br (t.1.getD (↑j : Int).toNat (0 : Int) != (0 : Int))

 (.ret (.ret, [.sli 13 (.c 0) 1 (.v q.3.length) (some (.v q.4)), .ptr 14 0, .ptr 15 0, .ptr 1 0, .ptr 8 0, .ptr 5 0, .ptr 10 0, .int .i64 (↑i : Int), .sli 16 (.c 0) 1 (.v 3) (some (.v 3)), .sli 17 (.c 0) 1 (.v 3) (some (.v 3)), .int .i64 (↑j : Int)], [.ro encLook [PUnit.unit], .own [.c (.sli 2 (.c 0) 1 (.v 3) (some (.v 3))), .c (.int .i64 s.2)] 67, .own [.a (encInt IntKind.u32) 3 s.1] 45, .many encAd s.3 86, .many encTw s.4 78, .own [.c (.ptr 1 0), .c (.sli 6 (.c 0) 1 (.v m) none), .c (.sli 7 (.c 0) 1 (.v m) (some (.v m)))] 70, .vec (encTs 3 4) ts 44, .own [.a encBool m s.5] 4, .own [.c (.sli 9 (.c 0) 1 (.v 3) (some (.v 3))), .c (.int .i64 t.2)] 67, .own [.a (encInt IntKind.u32) 3 t.1] 45, .own [.c (.ptr 8 0), .c (.sli 11 (.c 0) 1 (.v n) none), .c (.sli 12 (.c 0) 1 (.v n) (some (.v n)))] 70, .vec (encTs 3 4) us 44, .own [.a encBool n t.3] 4, .ro (encInt IntKind.i64) q.3, .own [.c (.int .u8 q.a.1), .c (.int .i64 q.a.2), .c (.int .i64 q.a.3)] 51, .own [.c (.int .u8 q.b.1), .c (.int .i64 q.b.2), .c (.int .i64 q.b.3)] 51, .own [.a (encInt IntKind.u32) 3 s.1] 45, .own [.a (encInt IntKind.u32) 3 t.1] 45]))

 (.ret (.normal, [.sli 13 (.c 0) 1 (.v q.3.length) (some (.v q.4)), .ptr 14 0, .ptr 15 0, .ptr 1 0, .ptr 8 0, .ptr 5 0, .ptr 10 0, .int .i64 (↑i : Int), .sli 16 (.c 0) 1 (.v 3) (some (.v 3)), .sli 17 (.c 0) 1 (.v 3) (some (.v 3)), .int .i64 (↑j : Int)], [.ro encLook [PUnit.unit], .own [.c (.sli 2 (.c 0) 1 (.v 3) (some (.v 3))), .c (.int .i64 s.2)] 67, .own [.a (encInt IntKind.u32) 3 s.1] 45, .many encAd s.3 86, .many encTw s.4 78, .own [.c (.ptr 1 0), .c (.sli 6 (.c 0) 1 (.v m) none), .c (.sli 7 (.c 0) 1 (.v m) (some (.v m)))] 70, .vec (encTs 3 4) ts 44, .own [.a encBool m s.5] 4, .own [.c (.sli 9 (.c 0) 1 (.v 3) (some (.v 3))), .c (.int .i64 t.2)] 67, .own [.a (encInt IntKind.u32) 3 t.1] 45, .own [.c (.ptr 8 0), .c (.sli 11 (.c 0) 1 (.v n) none), .c (.sli 12 (.c 0) 1 (.v n) (some (.v n)))] 70, .vec (encTs 3 4) us 44, .own [.a encBool n t.3] 4, .ro (encInt IntKind.i64) q.3, .own [.c (.int .u8 q.a.1), .c (.int .i64 q.a.2), .c (.int .i64 q.a.3)] 51, .own [.c (.int .u8 q.b.1), .c (.int .i64 q.b.2), .c (.int .i64 q.b.3)] 51, .own [.a (encInt IntKind.u32) 3 s.1] 45, .own [.a (encInt IntKind.u32) 3 t.1] 45])))))

 (.ret (.normal, [.sli 13 (.c 0) 1 (.v q.3.length) (some (.v q.4)), .ptr 14 0, .ptr 15 0, .ptr 1 0, .ptr 8 0, .ptr 5 0, .ptr 10 0, .int .i64 (↑i : Int), .sli 16 (.c 0) 1 (.v 3) (some (.v 3)), .sli 17 (.c 0) 1 (.v 3) (some (.v 3)), .int .i64 (↑j : Int)], [.ro encLook [PUnit.unit], .own [.c (.sli 2 (.c 0) 1 (.v 3) (some (.v 3))), .c (.int .i64 s.2)] 67, .own [.a (encInt IntKind.u32) 3 s.1] 45, .many encAd s.3 86, .many encTw s.4 78, .own [.c (.ptr 1 0), .c (.sli 6 (.c 0) 1 (.v m) none), .c (.sli 7 (.c 0) 1 (.v m) (some (.v m)))] 70, .vec (encTs 3 4) ts 44, .own [.a encBool m s.5] 4, .own [.c (.sli 9 (.c 0) 1 (.v 3) (some (.v 3))), .c (.int .i64 t.2)] 67, .own [.a (encInt IntKind.u32) 3 t.1] 45, .own [.c (.ptr 8 0), .c (.sli 11 (.c 0) 1 (.v n) none), .c (.sli 12 (.c 0) 1 (.v n) (some (.v n)))] 70, .vec (encTs 3 4) us 44, .own [.a encBool n t.3] 4, .ro (encInt IntKind.i64) q.3, .own [.c (.int .u8 q.a.1), .c (.int .i64 q.a.2), .c (.int .i64 q.a.3)] 51, .own [.c (.int .u8 q.b.1), .c (.int .i64 q.b.2), .c (.int .i64 q.b.3)] 51, .own [.a (encInt IntKind.u32) 3 s.1] 45, .own [.a (encInt IntKind.u32) 3 t.1] 45])))))))))

 (.br ((↑j : Int) != q.a.2)

 (.br ((↑j : Int) != q.b.2)

 (.need (decide ((0 : Int) ≤ (↑j : Int)) && decide ((↑j : Int).toNat < 3))

 (.need (decide ((↑j : Int).toNat < 3))

 (.br (s.1.getD (↑j : Int).toNat (0 : Int) != (0 : Int))

 (.ret (.ret, [.sli 13 (.c 0) 1 (.v q.3.length) (some (.v q.4)), .ptr 14 0, .ptr 15 0, .ptr 1 0, .ptr 8 0, .ptr 5 0, .ptr 10 0, .int .i64 (↑i : Int), .sli 16 (.c 0) 1 (.v 3) (some (.v 3)), .sli 17 (.c 0) 1 (.v 3) (some (.v 3)), .int .i64 (↑j : Int)], [.ro encLook [PUnit.unit], .own [.c (.sli 2 (.c 0) 1 (.v 3) (some (.v 3))), .c (.int .i64 s.2)] 67, .own [.a (encInt IntKind.u32) 3 s.1] 45, .many encAd s.3 86, .many encTw s.4 78, .own [.c (.ptr 1 0), .c (.sli 6 (.c 0) 1 (.v m) none), .c (.sli 7 (.c 0) 1 (.v m) (some (.v m)))] 70, .vec (encTs 3 4) ts 44, .own [.a encBool m s.5] 4, .own [.c (.sli 9 (.c 0) 1 (.v 3) (some (.v 3))), .c (.int .i64 t.2)] 67, .own [.a (encInt IntKind.u32) 3 t.1] 45, .own [.c (.ptr 8 0), .c (.sli 11 (.c 0) 1 (.v n) none), .c (.sli 12 (.c 0) 1 (.v n) (some (.v n)))] 70, .vec (encTs 3 4) us 44, .own [.a encBool n t.3] 4, .ro (encInt IntKind.i64) q.3, .own [.c (.int .u8 q.a.1), .c (.int .i64 q.a.2), .c (.int .i64 q.a.3)] 51, .own [.c (.int .u8 q.b.1), .c (.int .i64 q.b.2), .c (.int .i64 q.b.3)] 51, .own [.a (encInt IntKind.u32) 3 s.1] 45, .own [.a (encInt IntKind.u32) 3 t.1] 45]))

 (.br ((↑j : Int) != q.a.2)

 (.need (decide ((0 : Int) ≤ (↑j : Int)) && decide ((↑j : Int).toNat < 3))

 (.need (decide ((↑j : Int).toNat < 3))

 (.br (t.1.getD (↑j : Int).toNat (0 : Int) != (0 : Int))

 (.ret (.ret, [.sli 13 (.c 0) 1 (.v q.3.length) (some (.v q.4)), .ptr 14 0, .ptr 15 0, .ptr 1 0, .ptr 8 0, .ptr 5 0, .ptr 10 0, .int .i64 (↑i : Int), .sli 16 (.c 0) 1 (.v 3) (some (.v 3)), .sli 17 (.c 0) 1 (.v 3) (some (.v 3)), .int .i64 (↑j : Int)], [.ro encLook [PUnit.unit], .own [.c (.sli 2 (.c 0) 1 (.v 3) (some (.v 3))), .c (.int .i64 s.2)] 67, .own [.a (encInt IntKind.u32) 3 s.1] 45, .many encAd s.3 86, .many encTw s.4 78, .own [.c (.ptr 1 0), .c (.sli 6 (.c 0) 1 (.v m) none), .c (.sli 7 (.c 0) 1 (.v m) (some (.v m)))] 70, .vec (encTs 3 4) ts 44, .own [.a encBool m s.5] 4, .own [.c (.sli 9 (.c 0) 1 (.v 3) (some (.v 3))), .c (.int .i64 t.2)] 67, .own [.a (encInt IntKind.u32) 3 t.1] 45, .own [.c (.ptr 8 0), .c (.sli 11 (.c 0) 1 (.v n) none), .c (.sli 12 (.c 0) 1 (.v n) (some (.v n)))] 70, .vec (encTs 3 4) us 44, .own [.a encBool n t.3] 4, .ro (encInt IntKind.i64) q.3, .own [.c (.int .u8 q.a.1), .c (.int .i64 q.a.2), .c (.int .i64 q.a.3)] 51, .own [.c (.int .u8 q.b.1), .c (.int .i64 q.b.2), .c (.int .i64 q.b.3)] 51, .own [.a (encInt IntKind.u32) 3 s.1] 45, .own [.a (encInt IntKind.u32) 3 t.1] 45]))

 (.ret (.normal, [.sli 13 (.c 0) 1 (.v q.3.length) (some (.v q.4)), .ptr 14 0, .ptr 15 0, .ptr 1 0, .ptr 8 0, .ptr 5 0, .ptr 10 0, .int .i64 (↑i : Int), .sli 16 (.c 0) 1 (.v 3) (some (.v 3)), .sli 17 (.c 0) 1 (.v 3) (some (.v 3)), .int .i64 (↑j : Int)], [.ro encLook [PUnit.unit], .own [.c (.sli 2 (.c 0) 1 (.v 3) (some (.v 3))), .c (.int .i64 s.2)] 67, .own [.a (encInt IntKind.u32) 3 s.1] 45, .many encAd s.3 86, .many encTw s.4 78, .own [.c (.ptr 1 0), .c (.sli 6 (.c 0) 1 (.v m) none), .c (.sli 7 (.c 0) 1 (.v m) (some (.v m)))] 70, .vec (encTs 3 4) ts 44, .own [.a encBool m s.5] 4, .own [.c (.sli 9 (.c 0) 1 (.v 3) (some (.v 3))), .c (.int .i64 t.2)] 67, .own [.a (encInt IntKind.u32) 3 t.1] 45, .own [.c (.ptr 8 0), .c (.sli 11 (.c 0) 1 (.v n) none), .c (.sli 12 (.c 0) 1 (.v n) (some (.v n)))] 70, .vec (encTs 3 4) us 44, .own [.a encBool n t.3] 4, .ro (encInt IntKind.i64) q.3, .own [.c (.int .u8 q.a.1), .c (.int .i64 q.a.2), .c (.int .i64 q.a.3)] 51, .own [.c (.int .u8 q.b.1), .c (.int .i64 q.b.2), .c (.int .i64 q.b.3)] 51, .own [.a (encInt IntKind.u32) 3 s.1] 45, .own [.a (encInt IntKind.u32) 3 t.1] 45])))))

 (.ret (.normal, [.sli 13 (.c 0) 1 (.v q.3.length) (some (.v q.4)), .ptr 14 0, .ptr 15 0, .ptr 1 0, .ptr 8 0, .ptr 5 0, .ptr 10 0, .int .i64 (↑i : Int), .sli 16 (.c 0) 1 (.v 3) (some (.v 3)), .sli 17 (.c 0) 1 (.v 3) (some (.v 3)), .int .i64 (↑j : Int)], [.ro encLook [PUnit.unit], .own [.c (.sli 2 (.c 0) 1 (.v 3) (some (.v 3))), .c (.int .i64 s.2)] 67, .own [.a (encInt IntKind.u32) 3 s.1] 45, .many encAd s.3 86, .many encTw s.4 78, .own [.c (.ptr 1 0), .c (.sli 6 (.c 0) 1 (.v m) none), .c (.sli 7 (.c 0) 1 (.v m) (some (.v m)))] 70, .vec (encTs 3 4) ts 44, .own [.a encBool m s.5] 4, .own [.c (.sli 9 (.c 0) 1 (.v 3) (some (.v 3))), .c (.int .i64 t.2)] 67, .own [.a (encInt IntKind.u32) 3 t.1] 45, .own [.c (.ptr 8 0), .c (.sli 11 (.c 0) 1 (.v n) none), .c (.sli 12 (.c 0) 1 (.v n) (some (.v n)))] 70, .vec (encTs 3 4) us 44, .own [.a encBool n t.3] 4, .ro (encInt IntKind.i64) q.3, .own [.c (.int .u8 q.a.1), .c (.int .i64 q.a.2), .c (.int .i64 q.a.3)] 51, .own [.c (.int .u8 q.b.1), .c (.int .i64 q.b.2), .c (.int .i64 q.b.3)] 51, .own [.a (encInt IntKind.u32) 3 s.1] 45, .own [.a (encInt IntKind.u32) 3 t.1] 45]))))))

 (.br ((↑j : Int) != q.a.2)

 (.need (decide ((0 : Int) ≤ (↑j : Int)) && decide ((↑j : Int).toNat < 3))

 (.need (decide ((↑j : Int).toNat < 3))

 (.br (t.1.getD (↑j : Int).toNat (0 : Int) != (0 : Int))

 (.ret (.ret, [.sli 13 (.c 0) 1 (.v q.3.length) (some (.v q.4)), .ptr 14 0, .ptr 15 0, .ptr 1 0, .ptr 8 0, .ptr 5 0, .ptr 10 0, .int .i64 (↑i : Int), .sli 16 (.c 0) 1 (.v 3) (some (.v 3)), .sli 17 (.c 0) 1 (.v 3) (some (.v 3)), .int .i64 (↑j : Int)], [.ro encLook [PUnit.unit], .own [.c (.sli 2 (.c 0) 1 (.v 3) (some (.v 3))), .c (.int .i64 s.2)] 67, .own [.a (encInt IntKind.u32) 3 s.1] 45, .many encAd s.3 86, .many encTw s.4 78, .own [.c (.ptr 1 0), .c (.sli 6 (.c 0) 1 (.v m) none), .c (.sli 7 (.c 0) 1 (.v m) (some (.v m)))] 70, .vec (encTs 3 4) ts 44, .own [.a encBool m s.5] 4, .own [.c (.sli 9 (.c 0) 1 (.v 3) (some (.v 3))), .c (.int .i64 t.2)] 67, .own [.a (encInt IntKind.u32) 3 t.1] 45, .own [.c (.ptr 8 0), .c (.sli 11 (.c 0) 1 (.v n) none), .c (.sli 12 (.c 0) 1 (.v n) (some (.v n)))] 70, .vec (encTs 3 4) us 44, .own [.a encBool n t.3] 4, .ro (encInt IntKind.i64) q.3, .own [.c (.int .u8 q.a.1), .c (.int .i64 q.a.2), .c (.int .i64 q.a.3)] 51, .own [.c (.int .u8 q.b.1), .c (.int .i64 q.b.2), .c (.int .i64 q.b.3)] 51, .own [.a (encInt IntKind.u32) 3 s.1] 45, .own [.a (encInt IntKind.u32) 3 t.1] 45]))

 (.ret (.normal, [.sli 13 (.c 0) 1 (.v q.3.length) (some (.v q.4)), .ptr 14 0, .ptr 15 0, .ptr 1 0, .ptr 8 0, .ptr 5 0, .ptr 10 0, .int .i64 (↑i : Int), .sli 16 (.c 0) 1 (.v 3) (some (.v 3)), .sli 17 (.c 0) 1 (.v 3) (some (.v 3)), .int .i64 (↑j : Int)], [.ro encLook [PUnit.unit], .own [.c (.sli 2 (.c 0) 1 (.v 3) (some (.v 3))), .c (.int .i64 s.2)] 67, .own [.a (encInt IntKind.u32) 3 s.1] 45, .many encAd s.3 86, .many encTw s.4 78, .own [.c (.ptr 1 0), .c (.sli 6 (.c 0) 1 (.v m) none), .c (.sli 7 (.c 0) 1 (.v m) (some (.v m)))] 70, .vec (encTs 3 4) ts 44, .own [.a encBool m s.5] 4, .own [.c (.sli 9 (.c 0) 1 (.v 3) (some (.v 3))), .c (.int .i64 t.2)] 67, .own [.a (encInt IntKind.u32) 3 t.1] 45, .own [.c (.ptr 8 0), .c (.sli 11 (.c 0) 1 (.v n) none), .c (.sli 12 (.c 0) 1 (.v n) (some (.v n)))] 70, .vec (encTs 3 4) us 44, .own [.a encBool n t.3] 4, .ro (encInt IntKind.i64) q.3, .own [.c (.int .u8 q.a.1), .c (.int .i64 q.a.2), .c (.int .i64 q.a.3)] 51, .own [.c (.int .u8 q.b.1), .c (.int .i64 q.b.2), .c (.int .i64 q.b.3)] 51, .own [.a (encInt IntKind.u32) 3 s.1] 45, .own [.a (encInt IntKind.u32) 3 t.1] 45])))))

 (.ret (.normal, [.sli 13 (.c 0) 1 (.v q.3.length) (some (.v q.4)), .ptr 14 0, .ptr 15 0, .ptr 1 0, .ptr 8 0, .ptr 5 0, .ptr 10 0, .int .i64 (↑i : Int), .sli 16 (.c 0) 1 (.v 3) (some (.v 3)), .sli 17 (.c 0) 1 (.v 3) (some (.v 3)), .int .i64 (↑j : Int)], [.ro encLook [PUnit.unit], .own [.c (.sli 2 (.c 0) 1 (.v 3) (some (.v 3))), .c (.int .i64 s.2)] 67, .own [.a (encInt IntKind.u32) 3 s.1] 45, .many encAd s.3 86, .many encTw s.4 78, .own [.c (.ptr 1 0), .c (.sli 6 (.c 0) 1 (.v m) none), .c (.sli 7 (.c 0) 1 (.v m) (some (.v m)))] 70, .vec (encTs 3 4) ts 44, .own [.a encBool m s.5] 4, .own [.c (.sli 9 (.c 0) 1 (.v 3) (some (.v 3))), .c (.int .i64 t.2)] 67, .own [.a (encInt IntKind.u32) 3 t.1] 45, .own [.c (.ptr 8 0), .c (.sli 11 (.c 0) 1 (.v n) none), .c (.sli 12 (.c 0) 1 (.v n) (some (.v n)))] 70, .vec (encTs 3 4) us 44, .own [.a encBool n t.3] 4, .ro (encInt IntKind.i64) q.3, .own [.c (.int .u8 q.a.1), .c (.int .i64 q.a.2), .c (.int .i64 q.a.3)] 51, .own [.c (.int .u8 q.b.1), .c (.int .i64 q.b.2), .c (.int .i64 q.b.3)] 51, .own [.a (encInt IntKind.u32) 3 s.1] 45, .own [.a (encInt IntKind.u32) 3 t.1] 45]))))

 (.br ((↑j : Int) != q.a.2)

 (.need (decide ((0 : Int) ≤ (↑j : Int)) && decide ((↑j : Int).toNat < 3))

 (.need (decide ((↑j : Int).toNat < 3))

 (.br (t.1.getD (↑j : Int).toNat (0 : Int) != (0 : Int))

 (.ret (.ret, [.sli 13 (.c 0) 1 (.v q.3.length) (some (.v q.4)), .ptr 14 0, .ptr 15 0, .ptr 1 0, .ptr 8 0, .ptr 5 0, .ptr 10 0, .int .i64 (↑i : Int), .sli 16 (.c 0) 1 (.v 3) (some (.v 3)), .sli 17 (.c 0) 1 (.v 3) (some (.v 3)), .int .i64 (↑j : Int)], [.ro encLook [PUnit.unit], .own [.c (.sli 2 (.c 0) 1 (.v 3) (some (.v 3))), .c (.int .i64 s.2)] 67, .own [.a (encInt IntKind.u32) 3 s.1] 45, .many encAd s.3 86, .many encTw s.4 78, .own [.c (.ptr 1 0), .c (.sli 6 (.c 0) 1 (.v m) none), .c (.sli 7 (.c 0) 1 (.v m) (some (.v m)))] 70, .vec (encTs 3 4) ts 44, .own [.a encBool m s.5] 4, .own [.c (.sli 9 (.c 0) 1 (.v 3) (some (.v 3))), .c (.int .i64 t.2)] 67, .own [.a (encInt IntKind.u32) 3 t.1] 45, .own [.c (.ptr 8 0), .c (.sli 11 (.c 0) 1 (.v n) none), .c (.sli 12 (.c 0) 1 (.v n) (some (.v n)))] 70, .vec (encTs 3 4) us 44, .own [.a encBool n t.3] 4, .ro (encInt IntKind.i64) q.3, .own [.c (.int .u8 q.a.1), .c (.int .i64 q.a.2), .c (.int .i64 q.a.3)] 51, .own [.c (.int .u8 q.b.1), .c (.int .i64 q.b.2), .c (.int .i64 q.b.3)] 51, .own [.a (encInt IntKind.u32) 3 s.1] 45, .own [.a (encInt IntKind.u32) 3 t.1] 45]))

 (.ret (.normal, [.sli 13 (.c 0) 1 (.v q.3.length) (some (.v q.4)), .ptr 14 0, .ptr 15 0, .ptr 1 0, .ptr 8 0, .ptr 5 0, .ptr 10 0, .int .i64 (↑i : Int), .sli 16 (.c 0) 1 (.v 3) (some (.v 3)), .sli 17 (.c 0) 1 (.v 3) (some (.v 3)), .int .i64 (↑j : Int)], [.ro encLook [PUnit.unit], .own [.c (.sli 2 (.c 0) 1 (.v 3) (some (.v 3))), .c (.int .i64 s.2)] 67, .own [.a (encInt IntKind.u32) 3 s.1] 45, .many encAd s.3 86, .many encTw s.4 78, .own [.c (.ptr 1 0), .c (.sli 6 (.c 0) 1 (.v m) none), .c (.sli 7 (.c 0) 1 (.v m) (some (.v m)))] 70, .vec (encTs 3 4) ts 44, .own [.a encBool m s.5] 4, .own [.c (.sli 9 (.c 0) 1 (.v 3) (some (.v 3))), .c (.int .i64 t.2)] 67, .own [.a (encInt IntKind.u32) 3 t.1] 45, .own [.c (.ptr 8 0), .c (.sli 11 (.c 0) 1 (.v n) none), .c (.sli 12 (.c 0) 1 (.v n) (some (.v n)))] 70, .vec (encTs 3 4) us 44, .own [.a encBool n t.3] 4, .ro (encInt IntKind.i64) q.3, .own [.c (.int .u8 q.a.1), .c (.int .i64 q.a.2), .c (.int .i64 q.a.3)] 51, .own [.c (.int .u8 q.b.1), .c (.int .i64 q.b.2), .c (.int .i64 q.b.3)] 51, .own [.a (encInt IntKind.u32) 3 s.1] 45, .own [.a (encInt IntKind.u32) 3 t.1] 45])))))

 (.ret (.normal, [.sli 13 (.c 0) 1 (.v q.3.length) (some (.v q.4)), .ptr 14 0, .ptr 15 0, .ptr 1 0, .ptr 8 0, .ptr 5 0, .ptr 10 0, .int .i64 (↑i : Int), .sli 16 (.c 0) 1 (.v 3) (some (.v 3)), .sli 17 (.c 0) 1 (.v 3) (some (.v 3)), .int .i64 (↑j : Int)], [.ro encLook [PUnit.unit], .own [.c (.sli 2 (.c 0) 1 (.v 3) (some (.v 3))), .c (.int .i64 s.2)] 67, .own [.a (encInt IntKind.u32) 3 s.1] 45, .many encAd s.3 86, .many encTw s.4 78, .own [.c (.ptr 1 0), .c (.sli 6 (.c 0) 1 (.v m) none), .c (.sli 7 (.c 0) 1 (.v m) (some (.v m)))] 70, .vec (encTs 3 4) ts 44, .own [.a encBool m s.5] 4, .own [.c (.sli 9 (.c 0) 1 (.v 3) (some (.v 3))), .c (.int .i64 t.2)] 67, .own [.a (encInt IntKind.u32) 3 t.1] 45, .own [.c (.ptr 8 0), .c (.sli 11 (.c 0) 1 (.v n) none), .c (.sli 12 (.c 0) 1 (.v n) (some (.v n)))] 70, .vec (encTs 3 4) us 44, .own [.a encBool n t.3] 4, .ro (encInt IntKind.i64) q.3, .own [.c (.int .u8 q.a.1), .c (.int .i64 q.a.2), .c (.int .i64 q.a.3)] 51, .own [.c (.int .u8 q.b.1), .c (.int .i64 q.b.2), .c (.int .i64 q.b.3)] 51, .own [.a (encInt IntKind.u32) 3 s.1] 45, .own [.a (encInt IntKind.u32) 3 t.1] 45]))))) := by kernel_rfl
set_option maxRecDepth 100000 in
theorem w_incJ {q : InA} {m n : Nat} {ts us : List (Bool × Nat)} {s : Mc} {t : Yc} {i j : Nat} : (exec cfgM 100 incJ (fr 183 n5i (v5h q i ++ [.int .i64 (j : Nat)])) (sAw q m n ts us s t)).bind (canonK 18 [(0,0)] 183 n5i) =
 

 (.need (inR .i64 ((↑j : Int) + (1 : Int)))

 (.ret (.normal, [.sli 13 (.c 0) 1 (.v q.3.length) (some (.v q.4)), .ptr 14 0, .ptr 15 0, .ptr 1 0, .ptr 8 0, .ptr 5 0, .ptr 10 0, .int .i64 (↑i : Int), .sli 16 (.c 0) 1 (.v 3) (some (.v 3)), .sli 17 (.c 0) 1 (.v 3) (some (.v 3)), .int .i64 ((↑j : Int) + (1 : Int))], [.ro encLook [PUnit.unit], .own [.c (.sli 2 (.c 0) 1 (.v 3) (some (.v 3))), .c (.int .i64 s.2)] 67, .own [.a (encInt IntKind.u32) 3 s.1] 45, .many encAd s.3 86, .many encTw s.4 78, .own [.c (.ptr 1 0), .c (.sli 6 (.c 0) 1 (.v m) none), .c (.sli 7 (.c 0) 1 (.v m) (some (.v m)))] 70, .vec (encTs 3 4) ts 44, .own [.a encBool m s.5] 4, .own [.c (.sli 9 (.c 0) 1 (.v 3) (some (.v 3))), .c (.int .i64 t.2)] 67, .own [.a (encInt IntKind.u32) 3 t.1] 45, .own [.c (.ptr 8 0), .c (.sli 11 (.c 0) 1 (.v n) none), .c (.sli 12 (.c 0) 1 (.v n) (some (.v n)))] 70, .vec (encTs 3 4) us 44, .own [.a encBool n t.3] 4, .ro (encInt IntKind.i64) q.3, .own [.c (.int .u8 q.a.1), .c (.int .i64 q.a.2), .c (.int .i64 q.a.3)] 51, .own [.c (.int .u8 q.b.1), .c (.int .i64 q.b.2), .c (.int .i64 q.b.3)] 51, .own [.a (encInt IntKind.u32) 3 s.1] 45, .own [.a (encInt IntKind.u32) 3 t.1] 45]))) := by kernel_rfl
set_option maxRecDepth 100000 in
theorem w_finJ {q : InA} {ts us : List (Bool × Nat)} {s : Mc} {t : Yc} {i j : Nat} : (exec cfgM 100 finJ (fr 183 n5i (v5h q i ++ [.int .i64 (j : Nat)])) (sAw q 2 1 ts us s t)).bind (canonK 16 [(0,0)] 183 n5f) =
 

 (.br (true)

 (.need (true)

 (.br (true)

 (.need (true)

 (.br (!s.5.getD 0 false == t.3.getD 0 false)

 (.ret (.ret, [.sli 13 (.c 0) 1 (.v q.3.length) (some (.v q.4)), .ptr 14 0, .ptr 15 0, .ptr 1 0, .ptr 8 0, .ptr 5 0, .ptr 10 0, .int .i64 (↑i : Int)], [.ro encLook [PUnit.unit], .own [.c (.sli 2 (.c 0) 1 (.v 3) (some (.v 3))), .c (.int .i64 s.2)] 67, .own [.a (encInt IntKind.u32) 3 s.1] 45, .many encAd s.3 86, .many encTw s.4 78, .own [.c (.ptr 1 0), .c (.sli 6 (.c 0) 1 (.v 2) none), .c (.sli 7 (.c 0) 1 (.v 2) (some (.v 2)))] 70, .vec (encTs 3 4) ts 44, .own [.a encBool 2 s.5] 4, .own [.c (.sli 9 (.c 0) 1 (.v 3) (some (.v 3))), .c (.int .i64 t.2)] 67, .own [.a (encInt IntKind.u32) 3 t.1] 45, .own [.c (.ptr 8 0), .c (.sli 11 (.c 0) 1 (.v 1) none), .c (.sli 12 (.c 0) 1 (.v 1) (some (.v 1)))] 70, .vec (encTs 3 4) us 44, .own [.a encBool 1 t.3] 4, .ro (encInt IntKind.i64) q.3, .own [.c (.int .u8 q.a.1), .c (.int .i64 q.a.2), .c (.int .i64 q.a.3)] 51, .own [.c (.int .u8 q.b.1), .c (.int .i64 q.b.2), .c (.int .i64 q.b.3)] 51]))

 (.ret (.normal, [.sli 13 (.c 0) 1 (.v q.3.length) (some (.v q.4)), .ptr 14 0, .ptr 15 0, .ptr 1 0, .ptr 8 0, .ptr 5 0, .ptr 10 0, .int .i64 (↑i : Int)], [.ro encLook [PUnit.unit], .own [.c (.sli 2 (.c 0) 1 (.v 3) (some (.v 3))), .c (.int .i64 s.2)] 67, .own [.a (encInt IntKind.u32) 3 s.1] 45, .many encAd s.3 86, .many encTw s.4 78, .own [.c (.ptr 1 0), .c (.sli 6 (.c 0) 1 (.v 2) none), .c (.sli 7 (.c 0) 1 (.v 2) (some (.v 2)))] 70, .vec (encTs 3 4) ts 44, .own [.a encBool 2 s.5] 4, .own [.c (.sli 9 (.c 0) 1 (.v 3) (some (.v 3))), .c (.int .i64 t.2)] 67, .own [.a (encInt IntKind.u32) 3 t.1] 45, .own [.c (.ptr 8 0), .c (.sli 11 (.c 0) 1 (.v 1) none), .c (.sli 12 (.c 0) 1 (.v 1) (some (.v 1)))] 70, .vec (encTs 3 4) us 44, .own [.a encBool 1 t.3] 4, .ro (encInt IntKind.i64) q.3, .own [.c (.int .u8 q.a.1), .c (.int .i64 q.a.2), .c (.int .i64 q.a.3)] 51, .own [.c (.int .u8 q.b.1), .c (.int .i64 q.b.2), .c (.int .i64 q.b.3)] 51]))))

 (.br (!s.5.getD 0 false == false)

 (.ret (.ret, [.sli 13 (.c 0) 1 (.v q.3.length) (some (.v q.4)), .ptr 14 0, .ptr 15 0, .ptr 1 0, .ptr 8 0, .ptr 5 0, .ptr 10 0, .int .i64 (↑i : Int)], [.ro encLook [PUnit.unit], .own [.c (.sli 2 (.c 0) 1 (.v 3) (some (.v 3))), .c (.int .i64 s.2)] 67, .own [.a (encInt IntKind.u32) 3 s.1] 45, .many encAd s.3 86, .many encTw s.4 78, .own [.c (.ptr 1 0), .c (.sli 6 (.c 0) 1 (.v 2) none), .c (.sli 7 (.c 0) 1 (.v 2) (some (.v 2)))] 70, .vec (encTs 3 4) ts 44, .own [.a encBool 2 s.5] 4, .own [.c (.sli 9 (.c 0) 1 (.v 3) (some (.v 3))), .c (.int .i64 t.2)] 67, .own [.a (encInt IntKind.u32) 3 t.1] 45, .own [.c (.ptr 8 0), .c (.sli 11 (.c 0) 1 (.v 1) none), .c (.sli 12 (.c 0) 1 (.v 1) (some (.v 1)))] 70, .vec (encTs 3 4) us 44, .own [.a encBool 1 t.3] 4, .ro (encInt IntKind.i64) q.3, .own [.c (.int .u8 q.a.1), .c (.int .i64 q.a.2), .c (.int .i64 q.a.3)] 51, .own [.c (.int .u8 q.b.1), .c (.int .i64 q.b.2), .c (.int .i64 q.b.3)] 51]))

 (.ret (.normal, [.sli 13 (.c 0) 1 (.v q.3.length) (some (.v q.4)), .ptr 14 0, .ptr 15 0, .ptr 1 0, .ptr 8 0, .ptr 5 0, .ptr 10 0, .int .i64 (↑i : Int)], [.ro encLook [PUnit.unit], .own [.c (.sli 2 (.c 0) 1 (.v 3) (some (.v 3))), .c (.int .i64 s.2)] 67, .own [.a (encInt IntKind.u32) 3 s.1] 45, .many encAd s.3 86, .many encTw s.4 78, .own [.c (.ptr 1 0), .c (.sli 6 (.c 0) 1 (.v 2) none), .c (.sli 7 (.c 0) 1 (.v 2) (some (.v 2)))] 70, .vec (encTs 3 4) ts 44, .own [.a encBool 2 s.5] 4, .own [.c (.sli 9 (.c 0) 1 (.v 3) (some (.v 3))), .c (.int .i64 t.2)] 67, .own [.a (encInt IntKind.u32) 3 t.1] 45, .own [.c (.ptr 8 0), .c (.sli 11 (.c 0) 1 (.v 1) none), .c (.sli 12 (.c 0) 1 (.v 1) (some (.v 1)))] 70, .vec (encTs 3 4) us 44, .own [.a encBool 1 t.3] 4, .ro (encInt IntKind.i64) q.3, .own [.c (.int .u8 q.a.1), .c (.int .i64 q.a.2), .c (.int .i64 q.a.3)] 51, .own [.c (.int .u8 q.b.1), .c (.int .i64 q.b.2), .c (.int .i64 q.b.3)] 51])))))

 (.br (true)

 (.need (true)

 (.br (!false == t.3.getD 0 false)

 (.ret (.ret, [.sli 13 (.c 0) 1 (.v q.3.length) (some (.v q.4)), .ptr 14 0, .ptr 15 0, .ptr 1 0, .ptr 8 0, .ptr 5 0, .ptr 10 0, .int .i64 (↑i : Int)], [.ro encLook [PUnit.unit], .own [.c (.sli 2 (.c 0) 1 (.v 3) (some (.v 3))), .c (.int .i64 s.2)] 67, .own [.a (encInt IntKind.u32) 3 s.1] 45, .many encAd s.3 86, .many encTw s.4 78, .own [.c (.ptr 1 0), .c (.sli 6 (.c 0) 1 (.v 2) none), .c (.sli 7 (.c 0) 1 (.v 2) (some (.v 2)))] 70, .vec (encTs 3 4) ts 44, .own [.a encBool 2 s.5] 4, .own [.c (.sli 9 (.c 0) 1 (.v 3) (some (.v 3))), .c (.int .i64 t.2)] 67, .own [.a (encInt IntKind.u32) 3 t.1] 45, .own [.c (.ptr 8 0), .c (.sli 11 (.c 0) 1 (.v 1) none), .c (.sli 12 (.c 0) 1 (.v 1) (some (.v 1)))] 70, .vec (encTs 3 4) us 44, .own [.a encBool 1 t.3] 4, .ro (encInt IntKind.i64) q.3, .own [.c (.int .u8 q.a.1), .c (.int .i64 q.a.2), .c (.int .i64 q.a.3)] 51, .own [.c (.int .u8 q.b.1), .c (.int .i64 q.b.2), .c (.int .i64 q.b.3)] 51]))

 (.ret (.normal, [.sli 13 (.c 0) 1 (.v q.3.length) (some (.v q.4)), .ptr 14 0, .ptr 15 0, .ptr 1 0, .ptr 8 0, .ptr 5 0, .ptr 10 0, .int .i64 (↑i : Int)], [.ro encLook [PUnit.unit], .own [.c (.sli 2 (.c 0) 1 (.v 3) (some (.v 3))), .c (.int .i64 s.2)] 67, .own [.a (encInt IntKind.u32) 3 s.1] 45, .many encAd s.3 86, .many encTw s.4 78, .own [.c (.ptr 1 0), .c (.sli 6 (.c 0) 1 (.v 2) none), .c (.sli 7 (.c 0) 1 (.v 2) (some (.v 2)))] 70, .vec (encTs 3 4) ts 44, .own [.a encBool 2 s.5] 4, .own [.c (.sli 9 (.c 0) 1 (.v 3) (some (.v 3))), .c (.int .i64 t.2)] 67, .own [.a (encInt IntKind.u32) 3 t.1] 45, .own [.c (.ptr 8 0), .c (.sli 11 (.c 0) 1 (.v 1) none), .c (.sli 12 (.c 0) 1 (.v 1) (some (.v 1)))] 70, .vec (encTs 3 4) us 44, .own [.a encBool 1 t.3] 4, .ro (encInt IntKind.i64) q.3, .own [.c (.int .u8 q.a.1), .c (.int .i64 q.a.2), .c (.int .i64 q.a.3)] 51, .own [.c (.int .u8 q.b.1), .c (.int .i64 q.b.2), .c (.int .i64 q.b.3)] 51]))))

 (.ret (.normal, [.sli 13 (.c 0) 1 (.v q.3.length) (some (.v q.4)), .ptr 14 0, .ptr 15 0, .ptr 1 0, .ptr 8 0, .ptr 5 0, .ptr 10 0, .int .i64 (↑i : Int)], [.ro encLook [PUnit.unit], .own [.c (.sli 2 (.c 0) 1 (.v 3) (some (.v 3))), .c (.int .i64 s.2)] 67, .own [.a (encInt IntKind.u32) 3 s.1] 45, .many encAd s.3 86, .many encTw s.4 78, .own [.c (.ptr 1 0), .c (.sli 6 (.c 0) 1 (.v 2) none), .c (.sli 7 (.c 0) 1 (.v 2) (some (.v 2)))] 70, .vec (encTs 3 4) ts 44, .own [.a encBool 2 s.5] 4, .own [.c (.sli 9 (.c 0) 1 (.v 3) (some (.v 3))), .c (.int .i64 t.2)] 67, .own [.a (encInt IntKind.u32) 3 t.1] 45, .own [.c (.ptr 8 0), .c (.sli 11 (.c 0) 1 (.v 1) none), .c (.sli 12 (.c 0) 1 (.v 1) (some (.v 1)))] 70, .vec (encTs 3 4) us 44, .own [.a encBool 1 t.3] 4, .ro (encInt IntKind.i64) q.3, .own [.c (.int .u8 q.a.1), .c (.int .i64 q.a.2), .c (.int .i64 q.a.3)] 51, .own [.c (.int .u8 q.b.1), .c (.int .i64 q.b.2), .c (.int .i64 q.b.3)] 51])))) := by kernel_rfl
set_option maxRecDepth 100000 in
theorem w_inc {q : InA} {m n : Nat} {ts us : List (Bool × Nat)} {s : Mc} {t : Yc} {i : Nat} : (exec cfgM 100 inc5 (fr 183 n5f (v5f q i)) (sA q m n ts us s t)).bind (canonK 16 [(0,0)] 183 n5f) =
 

 (.need (inR .i64 ((↑i : Int) + (1 : Int)))

 (.ret (.normal, [.sli 13 (.c 0) 1 (.v q.3.length) (some (.v q.4)), .ptr 14 0, .ptr 15 0, .ptr 1 0, .ptr 8 0, .ptr 5 0, .ptr 10 0, .int .i64 ((↑i : Int) + (1 : Int))], [.ro encLook [PUnit.unit], .own [.c (.sli 2 (.c 0) 1 (.v 3) (some (.v 3))), .c (.int .i64 s.2)] 67, .own [.a (encInt IntKind.u32) 3 s.1] 45, .many encAd s.3 86, .many encTw s.4 78, .own [.c (.ptr 1 0), .c (.sli 6 (.c 0) 1 (.v m) none), .c (.sli 7 (.c 0) 1 (.v m) (some (.v m)))] 70, .vec (encTs 3 4) ts 44, .own [.a encBool m s.5] 4, .own [.c (.sli 9 (.c 0) 1 (.v 3) (some (.v 3))), .c (.int .i64 t.2)] 67, .own [.a (encInt IntKind.u32) 3 t.1] 45, .own [.c (.ptr 8 0), .c (.sli 11 (.c 0) 1 (.v n) none), .c (.sli 12 (.c 0) 1 (.v n) (some (.v n)))] 70, .vec (encTs 3 4) us 44, .own [.a encBool n t.3] 4, .ro (encInt IntKind.i64) q.3, .own [.c (.int .u8 q.a.1), .c (.int .i64 q.a.2), .c (.int .i64 q.a.3)] 51, .own [.c (.int .u8 q.b.1), .c (.int .i64 q.b.2), .c (.int .i64 q.b.3)] 51]))) := by kernel_rfl
set_option maxRecDepth 100000 in
theorem w_end {q : InA} {m n : Nat} {ts us : List (Bool × Nat)} {s : Mc} {t : Yc} {i : Nat} : (exec cfgM 100 end5 (fr 183 n5f (v5f q i)) (sA q m n ts us s t)).bind (canonK 16 [(0,0)] 183 [6]) =
 

 (.ret (.ret, [.bl true], [.ro encLook [PUnit.unit], .own [.c (.sli 2 (.c 0) 1 (.v 3) (some (.v 3))), .c (.int .i64 s.2)] 67, .own [.a (encInt IntKind.u32) 3 s.1] 45, .many encAd s.3 86, .many encTw s.4 78, .own [.c (.ptr 1 0), .c (.sli 6 (.c 0) 1 (.v m) none), .c (.sli 7 (.c 0) 1 (.v m) (some (.v m)))] 70, .vec (encTs 3 4) ts 44, .own [.a encBool m s.5] 4, .own [.c (.sli 9 (.c 0) 1 (.v 3) (some (.v 3))), .c (.int .i64 t.2)] 67, .own [.a (encInt IntKind.u32) 3 t.1] 45, .own [.c (.ptr 8 0), .c (.sli 11 (.c 0) 1 (.v n) none), .c (.sli 12 (.c 0) 1 (.v n) (some (.v n)))] 70, .vec (encTs 3 4) us 44, .own [.a encBool n t.3] 4, .ro (encInt IntKind.i64) q.3, .own [.c (.int .u8 q.a.1), .c (.int .i64 q.a.2), .c (.int .i64 q.a.3)] 51, .own [.c (.int .u8 q.b.1), .c (.int .i64 q.b.2), .c (.int .i64 q.b.3)] 51])) := by kernel_rfl
end Go.Proofs.YtlnigpeoffaemaaDoor

/- StepsApart, plain: a task works on its word alone. -/
namespace Go.Proofs.YtlnigpeoffaemaaDoor
open Go Go.Proofs.YtlnigpeoffaemaaDoor.Sx
set_option linter.unusedVariables false
theorem getD_set (l : List Int) (i j : Nat) (x : Int) : (l.set i x).getD j 0 = if i = j ∧ j < l.length then x else l.getD j 0 := by
  by_cases h : i = j
  · subst h
    by_cases h2 : i < l.length
    · rw [if_pos ⟨rfl, h2⟩, Sx.getD_set_self h2]
    · rw [if_neg (fun hh => h2 hh.2)]
      simp [List.getD_eq_getElem?_getD, h2]
  · rw [if_neg (fun hh => h hh.1), Sx.getD_set_ne h]
/-- a step changes no word but its own -/
theorem stepA_far {t : Tk} {l : List Int} {j : Nat} (h : (j : Int) ≠ t.at') (h3 : inP t.at' l.length = true ∨ True) : (stepA t l).2.1.getD j 0 = l.getD j 0 := by
  have hs : inP t.at' l.length = true → ∀ x, (l.set t.at'.toNat x).getD j 0 = l.getD j 0 := by
    intro hi x
    have := (inP_iff _ _).1 hi
    rw [Sx.getD_set_ne (by omega)]
  unfold stepA
  repeat' split
  all_goals first | rfl | (rename_i hi; exact hs hi _) | (rename_i hi _; exact hs hi _) | (rename_i hi _ _; exact hs hi _) | (rename_i hi _ _ _; exact hs hi _)
theorem stepA_at (t : Tk) (l : List Int) : (stepA t l).1.at' = t.at' := by
  unfold stepA
  repeat' split
  all_goals rfl
theorem stepA_len (t : Tk) (l : List Int) : (stepA t l).2.1.length = l.length := by
  unfold stepA
  repeat' split
  all_goals simp
/-- and hangs on no other -/
theorem stepA_loc {t : Tk} {l l' : List Int} (h : l.length = l'.length) (hw : 0 ≤ t.at' → l.getD t.at'.toNat 0 = l'.getD t.at'.toNat 0) :
    (stepA t l).1 = (stepA t l').1 ∧ (stepA t l).2.2 = (stepA t l').2.2 ∧ (0 ≤ t.at' → (stepA t l).2.1.getD t.at'.toNat 0 = (stepA t l').2.1.getD t.at'.toNat 0) := by
  by_cases h0 : 0 ≤ t.at'
  · have hw := hw h0
    unfold stepA
    rw [h, hw]
    have hs : inP t.at' l'.length = true → ∀ x, (l.set t.at'.toNat x).getD t.at'.toNat 0 = (l'.set t.at'.toNat x).getD t.at'.toNat 0 := by
      intro hi x
      have := (inP_iff _ _).1 hi
      rw [Sx.getD_set_self (by omega), Sx.getD_set_self (by omega)]
    repeat' split
    all_goals first | exact ⟨rfl, rfl, fun _ => hw⟩ | (rename_i hi; exact ⟨rfl, rfl, fun _ => hs hi _⟩) | (rename_i hi _; exact ⟨rfl, rfl, fun _ => hs hi _⟩) | (rename_i hi _ _; exact ⟨rfl, rfl, fun _ => hs hi _⟩) | (rename_i hi _ _ _; exact ⟨rfl, rfl, fun _ => hs hi _⟩)
  · have hi : ∀ n, inP t.at' n = false := by
      intro n
      cases hb : inP t.at' n with
      | false => rfl
      | true => exact absurd ((inP_iff _ _).1 hb).1 h0
    unfold stepA
    simp only [hi]
    repeat' split
    all_goals exact ⟨rfl, rfl, fun hh => absurd hh h0⟩
end Go.Proofs.YtlnigpeoffaemaaDoor

/- StepsApart, plain: both machines go together. -/
namespace Go.Proofs.YtlnigpeoffaemaaDoor
open Go Go.Proofs.YtlnigpeoffaemaaDoor.Sx
set_option linter.unusedVariables false
theorem pick_far {m : Nat} {ts : List (Bool × Nat)} {s : Mc} (i : Int) {u : Bool × Nat} (hu : u ≠ tsAt ts i.toNat) : tkV (pickP m ts s i) u = tkV s u ∧ (tkOk s u → tkOk (pickP m ts s i) u) := by
  unfold pickP
  cases inP i m with
  | false => exact ⟨rfl, id⟩
  | true =>
    cases s.ds.getD i.toNat false with
    | true => exact ⟨rfl, id⟩
    | false =>
      obtain ⟨c, k⟩ := u
      generalize tsAt ts i.toNat = T at *
      obtain ⟨b, j⟩ := T
      cases b with
      | true =>
        cases c with
        | false => exact ⟨rfl, id⟩
        | true =>
          have hjk : j ≠ k := fun e => hu (by rw [e])
          simp only [tkV, tkOk, adAt]
          rw [Sx.getD_set_ne hjk]
          exact ⟨rfl, fun h => by simpa using h⟩
      | false =>
        cases c with
        | true => exact ⟨rfl, id⟩
        | false =>
          have hjk : j ≠ k := fun e => hu (by rw [e])
          simp only [tkV, tkOk, twAt]
          rw [Sx.getD_set_ne hjk]
          exact ⟨rfl, fun h => by simpa using h⟩
theorem inP_no {k : Int} {m : Nat} (h : ¬ (0 ≤ k ∧ k < (m : Int))) : inP k m = false := by
  cases hb : inP k m with
  | false => rfl
  | true => exact absurd ((inP_iff _ _).1 hb) h
structure Apt (q : InA) (t0 t1 t2 : Bool × Nat) (s : Mc) (t : Yc) : Prop where
  okx : McOk 3 2 [t0, t1] s
  oky : McOk 3 1 [t2] (yMc s t)
  n0 : t2 ≠ t0
  n1 : t2 ≠ t1
  n2 : t1 ≠ t0
  same : tkV s t2 = tkV s t0
  atA : (tkV s t0).at' = q.a.at'
  atB : (tkV s t1).at' = q.b.at'
  ds : s.ds.getD 0 false = t.ds.getD 0 false
  wA : 0 ≤ q.a.at' → s.l.getD q.a.at'.toNat 0 = t.l.getD q.a.at'.toNat 0
  wz : ∀ j : Nat, (j : Int) ≠ q.a.at' → ((j : Int) ≠ q.b.at' → s.l.getD j 0 = 0) ∧ t.l.getD j 0 = 0
theorem apt_far {q : InA} {t0 t1 t2 : Bool × Nat} {s : Mc} {t : Yc} (h : Apt q t0 t1 t2 s t) (hab : q.a.at' ≠ q.b.at') {k : Int} (hk : k ≠ 0) : Apt q t0 t1 t2 (pickP 2 [t0, t1] s k) t := by
  have stay : pickP 2 [t0, t1] s k = s → Apt q t0 t1 t2 (pickP 2 [t0, t1] s k) t := fun e => by rw [e]; exact h
  by_cases hin : 0 ≤ k ∧ k < ((2 : Nat) : Int)
  · have hk1 : k = 1 := by omega
    subst hk1
    cases hd : s.ds.getD 1 false with
    | true => exact stay (pick_same (.inr hd) _)
    | false =>
      have hV := pick_view h.okx (i := 1) rfl hd
      have hts : tsAt [t0, t1] (1 : Int).toNat = t1 := rfl
      have f2 := pick_far (m := 2) (ts := [t0, t1]) (s := s) 1 (u := t2) h.n1
      have f0 := pick_far (m := 2) (ts := [t0, t1]) (s := s) 1 (u := t0) (fun e => h.n2 e.symm)
      have hok := ok_pick h.okx 1
      have hl := hV.l
      have hds := hV.ds
      have how := hV.own
      rw [hts] at hl hds how
      generalize pickP 2 [t0, t1] s 1 = s1 at *
      refine ⟨hok, ⟨h.oky.ll, h.oky.lt, h.oky.ld, fun i hi => ?_, h.oky.inj⟩, h.n0, h.n1, h.n2, by rw [f2.1, f0.1]; exact h.same, by rw [f0.1]; exact h.atA, by rw [how, stepA_at]; exact h.atB, ?_, ?_, fun j hj => ⟨fun hj2 => ?_, (h.wz j hj).2⟩⟩
      · have : i = 0 := by omega
        subst this
        exact f2.2 (h.oky.tk 0 (by omega))
      · rw [hds, Sx.getD_set_ne (by decide)]; exact h.ds
      · intro h0
        rw [hl, stepA_far (by rw [h.atB]; omega) (.inr trivial)]; exact h.wA h0
      · rw [hl, stepA_far (by rw [h.atB]; exact hj2) (.inr trivial)]; exact (h.wz j hj).1 hj2
  · exact stay (pick_same (.inl (inP_no hin)) _)
theorem apt_own {q : InA} {t0 t1 t2 : Bool × Nat} {s : Mc} {t : Yc} (h : Apt q t0 t1 t2 s t) (hab : q.a.at' ≠ q.b.at') :
    errP 1 (yMc (pickP 2 [t0, t1] s 0) t) 0 = errP 2 s 0 ∧ McOk 3 1 [t2] (yMc (pickP 2 [t0, t1] s 0) t) ∧
    Apt q t0 t1 t2 (yS (pickP 2 [t0, t1] s 0) (pickP 1 [t2] (yMc (pickP 2 [t0, t1] s 0) t) 0)) (yT (pickP 1 [t2] (yMc (pickP 2 [t0, t1] s 0) t) 0)) := by
  have he : errP 1 (yMc (pickP 2 [t0, t1] s 0) t) 0 = errP 2 s 0 := by
    have := h.ds
    simp only [errP, show inP 0 1 = true from rfl, show inP 0 2 = true from rfl, show (0 : Int).toNat = 0 from rfl]
    rw [this]
  refine ⟨he, ?_⟩
  cases hd : s.ds.getD 0 false with
  | true =>
    have e1 : pickP 2 [t0, t1] s 0 = s := pick_same (.inr hd) _
    have e2 : pickP 1 [t2] (yMc s t) 0 = yMc s t := pick_same (.inr (h.ds.symm.trans hd)) _
    rw [e1, e2]
    exact ⟨h.oky, h⟩
  | false =>
    have hV := pick_view h.okx (i := 0) rfl hd
    have hts : tsAt [t0, t1] (0 : Int).toNat = t0 := rfl
    have f2 := pick_far (m := 2) (ts := [t0, t1]) (s := s) 0 (u := t2) h.n0
    have f1 := pick_far (m := 2) (ts := [t0, t1]) (s := s) 0 (u := t1) h.n2
    have hok := ok_pick h.okx 0
    have hl := hV.l
    have hds := hV.ds
    have how := hV.own
    rw [hts] at hl hds how
    generalize pickP 2 [t0, t1] s 0 = s1 at *
    have oky1 : McOk 3 1 [t2] (yMc s1 t) := ⟨h.oky.ll, h.oky.lt, h.oky.ld, fun i hi => by
      have : i = 0 := by omega
      subst this
      exact f2.2 (h.oky.tk 0 (by omega)), h.oky.inj⟩
    have hdt : (yMc s1 t).ds.getD (0 : Int).toNat false = false := h.ds.symm.trans hd
    have hW := pick_view oky1 (i := 0) rfl hdt
    have hus : tsAt [t2] (0 : Int).toNat = t2 := rfl
    have g0 := pick_far (m := 1) (ts := [t2]) (s := yMc s1 t) 0 (u := t0) (fun e => h.n0 e.symm)
    have g1 := pick_far (m := 1) (ts := [t2]) (s := yMc s1 t) 0 (u := t1) (fun e => h.n1 e.symm)
    have hokr := ok_pick oky1 0
    have kl := hW.l
    have kds := hW.ds
    have kow := hW.own
    rw [hus] at kl kds kow
    generalize pickP 1 [t2] (yMc s1 t) 0 = r at *
    have e2 : tkV (yMc s1 t) t2 = tkV s t0 := by
      rw [show tkV (yMc s1 t) t2 = tkV s1 t2 from rfl, f2.1, h.same]
    rw [e2] at kl kds kow
    have hll : s.l.length = t.l.length := by rw [h.okx.ll]; exact h.oky.ll.symm
    obtain ⟨l1, l2, l3⟩ := stepA_loc (t := tkV s t0) (l := s.l) (l' := t.l) hll (by rw [h.atA]; exact h.wA)
    have v0 : tkV (yS s1 r) t0 = (stepA (tkV s t0) s.l).1 := by
      rw [show tkV (yS s1 r) t0 = tkV r t0 from rfl, g0.1]; exact how
    have v1 : tkV (yS s1 r) t1 = tkV s t1 := by
      rw [show tkV (yS s1 r) t1 = tkV r t1 from rfl, g1.1, ← f1.1]; rfl
    have v2 : tkV (yS s1 r) t2 = (stepA (tkV s t0) t.l).1 := kow
    have hds0 : 0 < s.ds.length := by rw [h.okx.ld]; omega
    have hdt0 : 0 < t.ds.length := by rw [show t.ds.length = 1 from h.oky.ld]; omega
    refine ⟨oky1, ⟨hok.ll, hok.lt, hok.ld, fun i hi => ?_, hok.inj⟩, hokr, h.n0, h.n1, h.n2, by rw [v2, v0, l1], by rw [v0, stepA_at]; exact h.atA, by rw [v1]; exact h.atB, ?_, ?_, fun j hj => ⟨fun hj2 => ?_, ?_⟩⟩
    · match i, hi with
      | 0, _ => exact g0.2 (hok.tk 0 (by omega))
      | 1, _ => exact g1.2 (hok.tk 1 (by omega))
    · show s1.ds.getD 0 false = r.ds.getD 0 false
      rw [hds, kds, show (0 : Int).toNat = 0 from rfl, Sx.getD_set_self hds0, show (yMc s1 t).ds = t.ds from rfl, Sx.getD_set_self hdt0]
      exact l2
    · intro h0
      show s1.l.getD _ 0 = r.l.getD _ 0
      rw [hl, kl, ← h.atA]
      exact l3 (by rw [h.atA]; exact h0)
    · show s1.l.getD j 0 = 0
      rw [hl, stepA_far (by rw [h.atA]; exact hj) (.inr trivial)]; exact (h.wz j hj).1 hj2
    · show r.l.getD j 0 = 0
      rw [kl, show (yMc s1 t).l = t.l from rfl, stepA_far (by rw [h.atA]; exact hj) (.inr trivial)]; exact (h.wz j hj).2
end Go.Proofs.YtlnigpeoffaemaaDoor

/- StepsApart: its rounds. -/
namespace Go.Proofs.YtlnigpeoffaemaaDoor
open Go Go.Proofs.YtlnigpeoffaemaaDoor.Sx
set_option linter.unusedVariables false
structure IxA where
  i : Nat
  s : Mc
  t : Yc
def InvA (w0 : From) (q : InA) (t0 t1 t2 : Bool × Nat) (j : IxA) (a : Act) (w : World) : Prop :=
  j.i ≤ 100 ∧ Apt q t0 t1 t2 j.s j.t ∧ ∃ env, At [(0, 0)] w0 env (fr 183 n5f (v5f q j.i)) (sA q 2 1 [t0, t1] [t2] j.s j.t) a w
abbrev RA (w0 : From) (q : InA) (t0 t1 t2 : Bool × Nat) (i : Nat) : Exit → Act → World → Prop :=
  Exit.then (fun a' w' => ∃ k, InvA w0 q t0 t1 t2 k a' w' ∧ 100 - k.i < 100 - i) (Exit.inBlock 0 (Exit.then (end5.wp Tryd.prog (Q5 w0)) (Q5 w0)))
abbrev KA (w0 : From) (q : InA) (t0 t1 t2 : Bool × Nat) (i : Nat) : Exit → Act → World → Prop :=
  Exit.inBlock 1 (Exit.then (inc5.wp Tryd.prog (RA w0 q t0 t1 t2 i)) (RA w0 q t0 t1 t2 i))
theorem end5_ok {w0 : From} {q : InA} {ts us : List (Bool × Nat)} {s : Mc} {t : Yc} {i : Nat} {env : Env} {a : Act} {w : World} (h : At [(0, 0)] w0 env (fr 183 n5f (v5f q i)) (sA q 2 1 ts us s t) a w) : end5.wp Tryd.prog (Q5 w0) a w :=
  pieceT0 (c := cfgM) cfgM_ok [6] w_end h (all_ret fun env' a' w' hA' => hA'.said (by kernel_rfl))
theorem inc5_ok {w0 : From} {q : InA} {t0 t1 t2 : Bool × Nat} {s : Mc} {t : Yc} {i : Nat} (hi : i < 100) (hp : Apt q t0 t1 t2 s t) {env : Env} {a : Act} {w : World} (h : At [(0, 0)] w0 env (fr 183 n5f (v5f q i)) (sA q 2 1 [t0, t1] [t2] s t) a w) : inc5.wp Tryd.prog (RA w0 q t0 t1 t2 i) a w := by
  refine pieceT0 (c := cfgM) cfgM_ok n5f w_inc h ?_
  refine all_needp (by simp only [inR_i64]; exact Iff.rfl) (by omega) fun _ => all_ret fun env' a' w' hA' => ?_
  exact ⟨⟨i + 1, s, t⟩, ⟨by simp only; omega, hp, env', hA'⟩, by simp only; omega⟩
theorem finJ_ok {w0 : From} {q : InA} {t0 t1 t2 : Bool × Nat} {s : Mc} {t : Yc} {i j : Nat} (hi : i < 100) (hp : Apt q t0 t1 t2 s t) {env : Env} {a : Act} {w : World} (h : At [(0, 0)] w0 env (fr 183 n5i (v5h q i ++ [.int .i64 (j : Nat)])) (sAw q 2 1 [t0, t1] [t2] s t) a w) : finJ.wp Tryd.prog (KA w0 q t0 t1 t2 i) a w := by
  refine pieceT0 (c := cfgM) cfgM_ok n5f w_finJ h ?_
  have hd := hp.ds
  refine all_br (fun _ => ?_) (fun hh => by cases hh)
  refine all_need rfl fun _ => all_br (fun _ => ?_) (fun hh => by cases hh)
  refine all_need rfl fun _ => all_br (fun hh => ?_) (fun _ => ?_)
  · rw [hd] at hh
    exfalso
    cases hq : t.ds.getD 0 false <;> rw [hq] at hh <;> simp at hh
  · refine all_ret fun env' a' w' h' => ?_
    simp only [Ex.to, KA, Exit.inBlock, Exit.then]
    exact inc5_ok hi hp h'
set_option maxHeartbeats 1000000 in
theorem loopJ_ok {w0 : From} {q : InA} {t0 t1 t2 : Bool × Nat} {s : Mc} {t : Yc} {i : Nat} (hi : i < 100) (hp : Apt q t0 t1 t2 s t) {env : Env} {a : Act} {w : World} (h : At [(0, 0)] w0 env (fr 183 n5h (v5h q i)) (sAw q 2 1 [t0, t1] [t2] s t) a w) : h5.wp Tryd.prog (KA w0 q t0 t1 t2 i) a w := by
  refine wpS (by kernel_rfl) (wpS (by kernel_rfl) ?_)
  refine pieceT0 (c := cfgM) cfgM_ok n5i w_regJ h (all_ret fun env1 a1 w1 hA1 => ?_)
  simp only [Ex.to, Exit.then]
  have hA2 := hA1.gvals (v5h q i ++ [.int .i64 ((0 : Nat) : Int)]) rfl
  refine wpB 2 (by kernel_rfl) (wpL (by kernel_rfl) (fun (j : Nat) a' w' => j ≤ 3 ∧ ∃ env', At [(0, 0)] w0 env' (fr 183 n5i (v5h q i ++ [SVal.int .i64 ((j : Nat) : Int)])) (sAw q 2 1 [t0, t1] [t2] s t) a' w') (fun (j : Nat) => 3 - j) (0 : Nat) ⟨Nat.zero_le _, env1, hA2⟩ ?_)
  rintro j a' w' ⟨hj, env', hA⟩
  refine (show roundJ.wp _ _ _ _ from wpS (by kernel_rfl) ?_)
  refine pieceT0 (c := cfgM) cfgM_ok n5i w_tmJ hA ?_
  have out : ∀ {env' : Env} {a' : Act} {w' : World}, At [(0, 0)] w0 env' (fr 183 n5i (v5h q i ++ [SVal.int .i64 ((j : Nat) : Int)])) (sAw q 2 1 [t0, t1] [t2] s t) a' w' →
      (Exit.then (fun a' w' => ∃ k, (k ≤ 3 ∧ ∃ env', At [(0, 0)] w0 env' (fr 183 n5i (v5h q i ++ [SVal.int .i64 ((k : Nat) : Int)])) (sAw q 2 1 [t0, t1] [t2] s t) a' w') ∧ 3 - k < 3 - j) (Exit.inBlock 2 (Exit.then (finJ.wp Tryd.prog (KA w0 q t0 t1 t2 i)) (KA w0 q t0 t1 t2 i)))) (.exit 2) a' w' := by
    intro env' a' w' h'
    simp only [Exit.then, Exit.inBlock, if_true]
    exact finJ_ok hi hp h'
  refine all_brp (by simp only [decide_eq_true_eq]; exact Iff.rfl) (fun h1 => ?_) (fun h1 => all_ret fun _ _ _ h => out h)
  refine all_brp (by simp only [decide_eq_true_eq]; exact Iff.rfl) (fun h2 => all_ret fun env1 a1 w1 hA1 => ?_) (fun h2 => all_ret fun _ _ _ h => out h)
  simp only [Ex.to, Exit.then]
  have hj' : j < 3 := by omega
  refine (show (rgt roundJ).wp _ _ _ _ from wpS (by kernel_rfl) (wpB 3 (by kernel_rfl) ?_))
  refine (show bbJ.wp _ _ _ _ from ?_)
  refine pieceT0 (c := cfgM) cfgM_ok n5i w_bbJ hA1 ?_
  simp only [Int.toNat_natCast]
  have fin : ∀ {env' : Env} {a' : Act} {w' : World}, At [(0, 0)] w0 env' (fr 183 n5i (v5h q i ++ [SVal.int .i64 ((j : Nat) : Int)])) (sAw q 2 1 [t0, t1] [t2] s t) a' w' →
      Exit.inBlock 3 (Exit.then (incJ.wp Tryd.prog (Exit.then (fun a' w' => ∃ k, (k ≤ 3 ∧ ∃ env', At [(0, 0)] w0 env' (fr 183 n5i (v5h q i ++ [SVal.int .i64 ((k : Nat) : Int)])) (sAw q 2 1 [t0, t1] [t2] s t) a' w') ∧ 3 - k < 3 - j) (Exit.inBlock 2 (Exit.then (finJ.wp Tryd.prog (KA w0 q t0 t1 t2 i)) (KA w0 q t0 t1 t2 i)))))
        (Exit.then (fun a' w' => ∃ k, (k ≤ 3 ∧ ∃ env', At [(0, 0)] w0 env' (fr 183 n5i (v5h q i ++ [SVal.int .i64 ((k : Nat) : Int)])) (sAw q 2 1 [t0, t1] [t2] s t) a' w') ∧ 3 - k < 3 - j) (Exit.inBlock 2 (Exit.then (finJ.wp Tryd.prog (KA w0 q t0 t1 t2 i)) (KA w0 q t0 t1 t2 i))))) .normal a' w' := by
    intro env' a' w' h'
    simp only [Exit.inBlock, Exit.then]
    refine pieceT0 (c := cfgM) cfgM_ok n5i w_incJ h' ?_
    refine all_needp (by simp only [inR_i64]; exact Iff.rfl) (by omega) fun _ => all_ret fun env'' a'' w'' hA' => ?_
    exact ⟨j + 1, ⟨by omega, env'', hA'⟩, by omega⟩
  have f1 : (j : Int) = q.a.at' → s.l.getD j 0 = t.l.getD j 0 := by
    intro e
    have := hp.wA (by omega)
    rw [← e, Int.toNat_natCast] at this
    exact this
  have f2 := hp.wz j
  generalize s.l.getD j 0 = sv at *
  generalize t.l.getD j 0 = tv at *
  repeat' (first
    | refine all_needq (by simp only [decide_eq_true_eq, Bool.and_eq_true]; exact Iff.rfl) (by omega) ?_
    | refine all_eq trivial ?_
    | refine all_eq rfl ?_
    | refine all_brp (by simp only [beq_iff_eq]; exact Iff.rfl) (fun _ => ?_) (fun _ => ?_)
    | refine all_brp (by rw [bne_iff_ne]) (fun _ => ?_) (fun _ => ?_)
    | exact all_ret fun env' a' w' h => fin h
    | (exfalso; omega))
end Go.Proofs.YtlnigpeoffaemaaDoor

/- StepsApart: its call. -/
namespace Go.Proofs.YtlnigpeoffaemaaDoor
open Go Go.Proofs.YtlnigpeoffaemaaDoor.Sx
set_option linter.unusedVariables false
theorem scalar_allA (l : List Int) : (l.all fun x => ((encInt .u32).enc x).all scalar) = true := by
  rw [List.all_eq_true]; intro x _; rfl
set_option maxHeartbeats 1000000 in
theorem words5_ok {w0 : From} {q : InA} {t0 t1 t2 : Bool × Nat} {s : Mc} {t : Yc} {i : Nat} (hi : i < 100) (hp : Apt q t0 t1 t2 s t) {env : Env} {a : Act} {w : World} (h : At [(0, 0)] w0 env (fr 183 n5f (v5f q i)) (sA q 2 1 [t0, t1] [t2] s t) a w) : (restC 2 bb5).wp Tryd.prog (KA w0 q t0 t1 t2 i) a w := by
  have h3 : s.l.length = 3 := hp.okx.ll
  have h4 : t.l.length = 3 := hp.oky.ll
  refine pieceNT0 (c := cfgM) cfgM_ok 1 n5h w_words h ?_
  have e3 : List.take 3 (List.drop 0 s.l) = s.l := by rw [List.drop_zero, List.take_of_length_le (by omega)]
  have e4 : List.take 3 (List.drop 0 t.l) = t.l := by rw [List.drop_zero, List.take_of_length_le (by omega)]
  rw [e3, e4, h3, h4, scalar_allA, scalar_allA]
  repeat' (first | refine all_need rfl (fun _ => ?_) | refine all_need (by decide) (fun _ => ?_))
  refine all_ret fun env1 a1 w1 hA1 => ?_
  simp only [Ex.to, Exit.then]
  exact (show h5.wp Tryd.prog (KA w0 q t0 t1 t2 i) a1 w1 from loopJ_ok hi hp hA1)
set_option maxHeartbeats 1000000 in
theorem round5_ok {w0 : From} {q : InA} (hab : q.a.at' ≠ q.b.at') {t0 t1 t2 : Bool × Nat} {j : IxA} {a : Act} {w : World} (h : InvA w0 q t0 t1 t2 j a w) : round5.wp Tryd.prog (RA w0 q t0 t1 t2 j.i) a w := by
  obtain ⟨i, s, t⟩ := j
  obtain ⟨hi, hp, env, hA⟩ := h
  simp only at hi hp hA ⊢
  have out : ∀ {env' : Env} {a' : Act} {w' : World}, At [(0, 0)] w0 env' (fr 183 n5f (v5f q i)) (sA q 2 1 [t0, t1] [t2] s t) a' w' → RA w0 q t0 t1 t2 i (.exit 0) a' w' := by
    intro env' a' w' h
    simp only [RA, Exit.then, Exit.inBlock, if_true]
    exact end5_ok h
  refine wpS (by kernel_rfl) ?_
  refine pieceT0 (c := cfgM) cfgM_ok n5f w_tm hA ?_
  refine all_brp (by simp only [decide_eq_true_eq]; exact Iff.rfl) (fun h1 => ?_) (fun h1 => all_ret fun _ _ _ h => out h)
  refine all_brp (by simp only [decide_eq_true_eq]; exact Iff.rfl) (fun h2 => all_ret fun env1 a1 w1 hA1 => ?_) (fun h2 => all_ret fun _ _ _ h => out h)
  have hi2 : i < 100 := by omega
  have hip : i < q.picks.length := by omega
  refine (show (rgt round5).wp Tryd.prog (RA w0 q t0 t1 t2 i) a1 w1 from wpS (by kernel_rfl) (wpB 1 (by kernel_rfl) ?_))
  refine (show bb5.wp Tryd.prog (KA w0 q t0 t1 t2 i) a1 w1 from ?_)
  refine pieceNT0 (c := cfgQ 3 2 [t0, t1] s) cfgQ_ok 1 n5g w_px hA1 ?_
  refine all_needq (by simp only [decide_eq_true_eq, Bool.and_eq_true]; exact Iff.rfl) (by simp only [Int.toNat_natCast]; omega) ?_
  refine all_needq (by simp only [decide_eq_true_eq]; exact Iff.rfl) (by simp only [Int.toNat_natCast]; omega) ?_
  refine all_eq ⟨rfl, hp.okx⟩ (all_ret fun env2 a2 w2 hA2 => ?_)
  simp only [Ex.to, Exit.then]
  have hA3 : At [(0, 0)] w0 env2 (fr 183 n5g (v5f q i ++ [.int .i64 (errP 2 s (q.picks.getD i 0))])) (sA q 2 1 [t0, t1] [t2] (pickP 2 [t0, t1] s (q.picks.getD i 0)) t) a2 w2 := hA2
  refine (show (restC 1 bb5).wp Tryd.prog (KA w0 q t0 t1 t2 i) a2 w2 from ?_)
  refine pieceNT0 (c := cfgY q 2 1 [t0, t1] [t2] (pickP 2 [t0, t1] s (q.picks.getD i 0)) t) cfgY_ok 1 n5f w_py hA3 ?_
  simp only [Int.toNat_natCast]
  refine all_needq (by simp only [decide_eq_true_eq, Bool.and_eq_true]; exact Iff.rfl) (by omega) ?_
  refine all_needq (by simp only [decide_eq_true_eq]; exact Iff.rfl) (by omega) ?_
  generalize q.picks.getD i 0 = k at *
  refine all_brp (by simp only [beq_iff_eq]; exact Iff.rfl) (fun hk => ?_) (fun hk => ?_)
  · subst hk
    obtain ⟨g1, g2, g3⟩ := apt_own hp hab
    refine all_eq ⟨trivial, trivial, g2⟩ ?_
    refine all_brp (by rw [bne_iff_ne]) (fun hh => absurd g1 hh) (fun _ => all_ret fun env3 a3 w3 hA4 => ?_)
    simp only [Ex.to, Exit.then]
    exact (show (restC 2 bb5).wp Tryd.prog (KA w0 q t0 t1 t2 i) a3 w3 from words5_ok hi2 g3 hA4)
  · refine all_ret fun env3 a3 w3 hA4 => ?_
    simp only [Ex.to, Exit.then]
    exact (show (restC 2 bb5).wp Tryd.prog (KA w0 q t0 t1 t2 i) a3 w3 from words5_ok hi2 (apt_far hp hab hk) hA4)
/-! the start -/
theorem tNew_ts (S : MadeT) (k : K3) : (stepB S k).2.2 = S.2.2 ++ [tNew S k] := by
  unfold stepB tNew
  cases kd k == 0 <;> rfl
theorem rel_uniq {t t' : Tk} {r : Rf} (h : Rel t r) (h' : Rel t' r) : t = t' := by
  obtain ⟨k, a, n, b, v⟩ := t
  obtain ⟨k', a', n', b', v'⟩ := t'
  obtain ⟨h1, _, h2, h3, h4, h5, _⟩ := h
  obtain ⟨g1, _, g2, g3, g4, g5, _⟩ := h'
  simp only at h1 h2 h3 h4 h5 g1 g2 g3 g4 g5
  have : k = k' := by omega
  subst this
  rw [h2, h3, h4, h5, g2, g3, g4, g5]
abbrev S1 (q : InA) : MadeT := stepB ([], [], []) q.a
abbrev S2 (q : InA) : MadeT := stepB (S1 q) q.b
abbrev S3 (q : InA) : MadeT := stepB (S2 q) q.a
theorem apt_start (q : InA) : Apt q (tNew ([], [], []) q.a) (tNew (S1 q) q.b) (tNew (S2 q) q.a) ⟨[0, 0, 0], 0, (S3 q).1, (S3 q).2.1, [false, false]⟩ ⟨[0, 0, 0], 0, [false]⟩ := by
  have h0 : MadeOk 0 ([], [], []) [] := ⟨rfl, rfl, fun j hj => by omega, fun j k hj => by omega, fun j hj => by omega⟩
  have h3 := made_ok (made_ok (made_ok h0 q.a) q.b) q.a
  have hts : (S3 q).2.2 = [tNew ([], [], []) q.a, tNew (S1 q) q.b, tNew (S2 q) q.a] := by
    rw [tNew_ts, tNew_ts, tNew_ts]; rfl
  change MadeOk 3 (S3 q) _ at h3
  generalize tNew ([], [], []) q.a = t0 at *
  generalize tNew (S1 q) q.b = t1 at *
  generalize tNew (S2 q) q.a = t2 at *
  generalize S3 q = S at *
  obtain ⟨xs, ys, ts⟩ := S
  simp only at hts
  subst hts
  obtain ⟨_, _, k3, k4, k5⟩ := h3
  have inj : ∀ j k, j < 3 → k < 3 → j ≠ k → tsAt [t0, t1, t2] j ≠ tsAt [t0, t1, t2] k := fun j k hj hk hjk e => hjk (k4 j k hj hk e)
  have r0 := k5 0 (by omega)
  have r1 := k5 1 (by omega)
  have r2 := k5 2 (by omega)
  have ok : ∀ j, j < 3 → tkOk ⟨[0, 0, 0], 0, xs, ys, [false, false]⟩ (tsAt [t0, t1, t2] j) := by
    intro j hj
    have ha := k3 j hj
    have hr := (k5 j hj).le
    unfold tkL at hr
    unfold tkOk
    cases hb : (tsAt [t0, t1, t2] j).1 with
    | true =>
      rw [hb] at ha hr
      simp only at ha hr ⊢
      exact ⟨ha, Int.le_trans hr (by decide)⟩
    | false =>
      rw [hb] at ha hr
      simp only at ha hr ⊢
      exact ⟨ha, Int.le_trans hr (by decide)⟩
  refine ⟨⟨rfl, rfl, rfl, fun i hi => ?_, fun i j hi hj e => ?_⟩, ⟨rfl, rfl, rfl, fun i hi => ?_, fun i j hi hj e => by omega⟩, inj 2 0 (by omega) (by omega) (by omega), inj 2 1 (by omega) (by omega) (by omega), inj 1 0 (by omega) (by omega) (by omega), rel_uniq r2 r0, r0.at', r1.at', rfl, fun _ => rfl, fun j _ => ?_⟩
  · match i, hi with
    | 0, _ => exact ok 0 (by omega)
    | 1, _ => exact ok 1 (by omega)
  · match i, hi, j, hj with
    | 0, _, 0, _ => rfl
    | 1, _, 1, _ => rfl
    | 0, _, 1, _ => exact absurd e (inj 0 1 (by omega) (by omega) (by omega))
    | 1, _, 0, _ => exact absurd e (inj 1 0 (by omega) (by omega) (by omega))
  · match i, hi with
    | 0, _ => exact ok 2 (by omega)
  · have hz : ([0, 0, 0] : List Int).getD j 0 = 0 := by
      match j with
      | 0 => rfl
      | 1 => rfl
      | 2 => rfl
      | n + 3 => rfl
    exact ⟨fun _ => hz, hz⟩
end Go.Proofs.YtlnigpeoffaemaaDoor

/- StepsApart: from its beginning. -/
namespace Go.Proofs.YtlnigpeoffaemaaDoor
open Go Go.Proofs.YtlnigpeoffaemaaDoor.Sx
set_option linter.unusedVariables false
set_option maxHeartbeats 1000000 in
theorem c5_ok {w0 : From} {q : InA} (hab : q.a.at' ≠ q.b.at') {env : Env} {a : Act} {w : World}
    (h : At [(0, 0)] w0 env (fr 183 n5e (v5e q)) (sA q 2 1 [tNew ([], [], []) q.a, tNew (S1 q) q.b] [tNew (S2 q) q.a] ⟨[0, 0, 0], 0, (S3 q).1, (S3 q).2.1, [false, false]⟩ ⟨[0, 0, 0], 0, [false]⟩) a w) : c5.wp Tryd.prog (Q5 w0) a w := by
  have hst := apt_start q
  refine wpS (by kernel_rfl) (wpS (by kernel_rfl) ?_)
  refine pieceT0 (c := cfgM) cfgM_ok n5f w_reg h (all_ret fun env3 a3 w3 hA4 => ?_)
  simp only [Ex.to, Exit.then]
  have hA5 := hA4.gvals (v5f q 0) rfl
  refine wpB 0 (by kernel_rfl) (wpL (by kernel_rfl) (InvA w0 q (tNew ([], [], []) q.a) (tNew (S1 q) q.b) (tNew (S2 q) q.a)) (fun j => 100 - j.i) ⟨0, _, _⟩ ⟨by simp, hst, env3, hA5⟩ ?_)
  intro j a w h
  exact round5_ok hab h
theorem noFootA {e0 e1 : Slot} {q : InA} (x : Nat) (h : inFoot [e0, e1] (s0A q) x) : False := by
  obtain ⟨id, e, b, he, hb, hx⟩ := h
  match id with
  | 0 => simp at hb; subst hb; cases hx
  | 1 => simp at hb; subst hb; cases hx
  | n + 2 => simp at hb
theorem b5_eq : Tryd.f5.body = some b5 := by kernel_rfl
set_option maxHeartbeats 1000000 in
theorem stepsApart_call {q : InA} {e0 e1 : Slot} (he : e0.blk = 0 ∧ e0.off = 0) {w : World} {v0 v1 v2 : Value} (hr : Rep [e0, e1] (s0A q) w) (h0 : Den [e0, e1] (kA q.a) v0) (h1 : Den [e0, e1] (kA q.b) v1) (h2 : Den [e0, e1] (pickA q 1) v2) :
    Calls Tryd.prog 5 ⟨[v0, v1, v2]⟩ w (Said ⟨w, fun _ => False⟩) := by
  refine call_begin (c := cfgL) Tryd.func5 b5_eq (args := [kA q.a, kA q.b, pickA q 1]) (by
    intro q hq
    rw [List.mem_singleton.1 hq]
    exact ⟨e0, rfl, he⟩) hr ⟨_, _, rfl, h0, _, _, rfl, h1, _, _, rfl, h2, rfl⟩ (F := fun _ => False) (fun x h => noFootA x h) ?_
  intro a hA
  refine pieceNT0 (c := cfgL) cfgL_ok 4 n5p z_pre hA ?_
  refine all_eq rfl ?_
  refine all_brp (by simp only [beq_iff_eq]; exact Iff.rfl) (fun hab => all_eq rfl (all_ret fun env1 a1 w1 hA1 => ?_)) (fun hab => ?_)
  · exact hA1.said (by kernel_rfl)
  refine all_ret fun env1 a1 w1 hA1 => ?_
  simp only [Ex.to, Exit.then]
  have hA2 := At.few (names := n5a) (extra := [6]) (vals := [pickA q 1, .ptr 2 0, .ptr 3 0, .ptr 4 0, .ptr 6 0]) (ev := [.bl false]) hA1 rfl
  have hA3 := (hA2.many0 encAd 86).many0 encTw 78
  have hA4 := hA3.perm [0, 4, 5, 8, 9, 6, 7, 2, 3, 1] (by kernel_rfl) (by kernel_rfl) (st' := [lookB, .own [.c (.sli 2 (.c 0) 1 (.c 3) (some (.c 3))), .c (.lit .i64 0)] 67, .own [.c (.lit .u32 0), .c (.lit .u32 0), .c (.lit .u32 0)] 45, .many encAd [] 86, .many encTw [] 78, .own [.c (.sli 6 (.c 0) 1 (.c 3) (some (.c 3))), .c (.lit .i64 0)] 67, .own [.c (.lit .u32 0), .c (.lit .u32 0), .c (.lit .u32 0)] 45, kB q.a, kB q.b, .ro (encInt .i64) q.picks]) (vals' := v5a q) (by kernel_rfl) (by kernel_rfl)
  have hA5 := hA4.segs 2 (l' := [.a (encInt .u32) 3 [0, 0, 0]]) rfl (by intro s hs; rw [List.mem_singleton.1 hs]; rfl) (fun cs h => by simpa [segCells, Seg.cells, encInt, DenL, Den] using h)
  have hA6 := hA5.segs 6 (l' := [.a (encInt .u32) 3 [0, 0, 0]]) rfl (by intro s hs; rw [List.mem_singleton.1 hs]; rfl) (fun cs h => by simpa [segCells, Seg.cells, encInt, DenL, Den] using h)
  have hA7 : At [(0, 0)] ⟨w, fun _ => False⟩ _ (fr 183 n5a (v5a q)) (sMa q [] []) a1 w1 := hA6.gen rfl
  refine (show (restC 4 b5).wp Tryd.prog (Q5 ⟨w, fun _ => False⟩) a1 w1 from ?_)
  refine mk_a (S := ([], [], [])) (fun env a w hB => ?_) hA7
  refine mk_b (S := S1 q) (fun env a w hC => ?_) hB
  refine mk_c (S := S2 q) (fun env a w hD => ?_) hC
  refine new5_ok (fun env a w hE => ?_) hD
  exact (show c5.wp Tryd.prog (Q5 ⟨_, fun _ => False⟩) a w from c5_ok hab hE)
end Go.Proofs.YtlnigpeoffaemaaDoor

/- Layer 8: the package's variable, and how a card is closed. -/
namespace Go.Proofs.YtlnigpeoffaemaaDoor
open Go Go.Proofs.YtlnigpeoffaemaaDoor.Sx Go.ChangeShapes Go.WideShapes Go.ChangeAt Go.RowKit
set_option linter.unusedVariables false
abbrev laid1 : List (String × DataW Unit) := [("purlin/mem.look", Rows.laid_purlin_mem_look)]
theorem Tryd.own : ownKnob Tryd.prog.godebug = none := by kernel_rfl
theorem Tryd.laidOut : laidOutB Tryd.prog = true := by kernel_rfl
theorem gLook : Tryd.prog.globalNamed "purlin/mem.look" = some 0 := by kernel_rfl
theorem tLook : (Tryd.prog.globals[0]?).map (·.type) = some 81 := by kernel_rfl
/-- the door's own heap meets the condition -/
theorem door_met (os : Os) (args : Array Value) : laidMetH Tryd.prog laid1 ((World.doorLaid Tryd.prog 400 os).forCall (fun _ _ => 0) ⟨#[], args, []⟩).memory :=
  laidMetH_of_parts3 (fuel := 8) (laidMet_of_run' 8 (by kernel_rfl) (by kernel_rfl)) (by kernel_rfl) (by kernel_rfl)
set_option maxRecDepth 100000 in
/-- what the condition gives -/
theorem of_laid {W : World} (h : laidMetH Tryd.prog laid1 W) : ∃ e : Slot, (e.blk = 0 ∧ e.off = 0) ∧ Rep [e] [lookB] W := by
  rw [MakeChecks.laidMetH_plain _ _ _ (by kernel_rfl)] at h
  obtain ⟨ps, ⟨g0, t0, cs0, f0, p0, q0, hg0, ht0, hv0, hd0, _, _⟩, _, _⟩ := h
  obtain rfl := Option.some.inj (gLook.symm.trans hg0)
  obtain rfl := Option.some.inj (tLook.symm.trans ht0)
  obtain ⟨xs, m, _, hx, hlen, hxl, hf⟩ := DataW.trod_struct Tryd.underlying81 hd0
  have hC : Tryd.prog.cellsOf 81 = 3 := by kernel_rfl
  have k45 : Tryd.prog.cellsOf 45 = 1 := by kernel_rfl
  rw [hC] at hlen
  obtain ⟨l⟩ := cs0
  simp only at hlen hf
  match l, hlen with
  | [c0, c1, c2], _ =>
    match xs, hxl, hx with
    | [y0, y1, y2], _, hx =>
      have f0 : DataW.trod _ Tryd.prog W 0 _ false m 45 (([c0, c1, c2].drop 0).take (Tryd.prog.cellsOf 45)) = some y0 := hf 0 _ rfl
      have f1 : DataW.trod _ Tryd.prog W 0 _ false m 45 (([c0, c1, c2].drop 1).take (Tryd.prog.cellsOf 45)) = some y1 := hf 1 _ rfl
      have f2 : DataW.trod _ Tryd.prog W 0 _ false m 45 (([c0, c1, c2].drop 2).take (Tryd.prog.cellsOf 45)) = some y2 := hf 2 _ rfl
      rw [k45] at f0 f1 f2
      obtain ⟨a0, h0, e0, _⟩ := DataW.trod_int Tryd.underlying45 f0
      obtain ⟨a1, h1, e1, _⟩ := DataW.trod_int Tryd.underlying45 f1
      obtain ⟨a2, h2, e2, _⟩ := DataW.trod_int Tryd.underlying45 f2
      simp at h0 h1 h2
      subst h0 h1 h2 e0 e1 e2
      simp [Rows.laid_purlin_mem_look] at hx
      obtain ⟨⟨rfl, rfl, rfl⟩, _⟩ := hx
      have hc := fun i => World.var?_cell hg0 hv0 i
      have hsz : 0 < W.heap.size := by
        have := hc 0
        simp only [World.cell?] at this
        rcases Nat.eq_zero_or_pos W.heap.size with h | h
        · rw [Array.getElem?_eq_none (by omega)] at this; simp at this
        · exact h
      refine ⟨⟨0, 0, 0, []⟩, ⟨rfl, rfl⟩, rfl, ?_, ?_, ?_⟩
      · intro id sl b he hb
        match id with
        | 0 =>
          simp only [List.getElem?_cons_zero, Option.some.injEq] at he hb
          subst he hb
          refine ⟨[.int .u32 4294967295, .int .u32 0, .int .u32 0], by simp [encLook, encOf, DenL, Den], fun i hi => ?_⟩
          have := hc i
          simpa using this
        | n + 1 => simp at he
      · intro i j e f b c hij he hf' hb' hc' x hx''
        match i, j with
        | 0, 0 => exact (hij rfl).elim
        | i + 1, _ => simp at he
        | 0, j + 1 => simp at hf'
      · intro id sl b he hb x hx
        match id with
        | 0 =>
          simp only [List.getElem?_cons_zero, Option.some.injEq] at he hb
          subst he hb
          simp [Blk.supp] at hx
          omega
        | n + 1 => simp at he
theorem wf_u8 {n : Int} (h : (Lit.int .u8 n).wf = true) : 0 ≤ n ∧ n ≤ 255 := by simp [Lit.wf, IntKind.min, IntKind.max, IntKind.signed, IntKind.bits] at h; omega
theorem open_u8 {H : Type} {enc : TypeId × Value → H} {w : World} {base : Nat} {spare : Nat → Bool} {held : Bool} (n : Nat) (cs : List Value) (y : DataW H × List MemPlace) (h : DataW.trod enc Tryd.prog w base spare held n 5 cs = some y) :
    ∃ x : U8, DenL [] (encU8.enc x) cs := by
  cases n with
  | zero => simp [DataW.trod] at h
  | succ n =>
    obtain ⟨a, h0, _, hw⟩ := DataW.trod_int Tryd.underlying5 h
    subst h0
    exact ⟨⟨a, wf_u8 hw⟩, by simp [encU8, encOf, DenL, Den]⟩
theorem open_i64 {H : Type} {enc : TypeId × Value → H} {w : World} {base : Nat} {spare : Nat → Bool} {held : Bool} (n : Nat) (cs : List Value) (y : DataW H × List MemPlace) (h : DataW.trod enc Tryd.prog w base spare held n 3 cs = some y) :
    ∃ x : Int, DenL [] ((encInt .i64).enc x) cs := by
  cases n with
  | zero => simp [DataW.trod] at h
  | succ n =>
    obtain ⟨a, h0, _, hw⟩ := DataW.trod_int Tryd.underlying3 h
    subst h0
    exact ⟨a, by simp [encInt, DenL, Den]⟩
theorem wf_u32 {n : Int} (h : (Lit.int .u32 n).wf = true) : 0 ≤ n ∧ n < 4294967296 := by simp [Lit.wf, IntKind.min, IntKind.max, IntKind.signed, IntKind.bits] at h; omega
end Go.Proofs.YtlnigpeoffaemaaDoor

/- StepsApart: its row and its card. -/
namespace Go.Proofs.YtlnigpeoffaemaaDoor
open Go Go.Proofs.YtlnigpeoffaemaaDoor.Sx Go.ChangeShapes Go.WideShapes Go.ChangeAt Go.RowKit
set_option linter.unusedVariables false
abbrev kV (k : K3) : Value := .agg #[.int .u8 k.kind, .int .i64 k.at', .int .i64 k.times]
theorem den_kind {env : Env} (k : K3) : Den env (kA k) (kV k) := ⟨_, rfl, _, _, rfl, rfl, _, _, rfl, rfl, _, _, rfl, rfl, rfl⟩
theorem open_kind {H : Type} {enc : TypeId × Value → H} {W W0 : World} {r : Reach} {b0 base : Nat} {spare : Nat → Bool} {held : Bool} {v : Value} {d : DataW H} {ps : List MemPlace} (hval : Value.okWide Tryd.prog W0 r b0 51 v) (hd : DataW.Trod enc Tryd.prog W base spare held 51 v d ps) :
    ∃ k : K3, v = kV k := by
  have hv : ∃ cs, v = .agg cs := by
    simp only [Value.okWide, Tryd.underlying51] at hval
    obtain ⟨cs, e, _⟩ := hval
    exact ⟨cs, e⟩
  obtain ⟨cs, rfl⟩ := hv
  obtain ⟨fuel, h⟩ := hd
  obtain ⟨xs, m, _, _, hlen, hxl, hf⟩ := DataW.trod_struct Tryd.underlying51 h
  have hC : Tryd.prog.cellsOf 51 = 3 := by kernel_rfl
  rw [hC] at hlen
  obtain ⟨l⟩ := cs
  simp only [Value.cells] at hlen hf
  match l, hlen with
  | [c0, c1, c2], _ =>
    match xs, hxl with
    | [y0, y1, y2], _ =>
      have f0 : DataW.trod enc Tryd.prog W base spare held m 5 (([c0, c1, c2].drop 0).take (Tryd.prog.cellsOf 5)) = some y0 := hf 0 _ rfl
      have f1 : DataW.trod enc Tryd.prog W base spare held m 3 (([c0, c1, c2].drop 1).take (Tryd.prog.cellsOf 3)) = some y1 := hf 1 _ rfl
      have f2 : DataW.trod enc Tryd.prog W base spare held m 3 (([c0, c1, c2].drop 2).take (Tryd.prog.cellsOf 3)) = some y2 := hf 2 _ rfl
      have k0 : Tryd.prog.cellsOf 3 = 1 := by kernel_rfl
      have k5 : Tryd.prog.cellsOf 5 = 1 := by kernel_rfl
      rw [k5] at f0
      rw [k0] at f1 f2
      obtain ⟨a, h0, e0, w0⟩ := DataW.trod_int Tryd.underlying5 f0
      obtain ⟨b, h1, _⟩ := DataW.trod_int Tryd.underlying3 f1
      obtain ⟨c, h2, _⟩ := DataW.trod_int Tryd.underlying3 f2
      simp at h0 h1 h2
      subst h0 h1 h2
      exact ⟨⟨a, b, c, wf_u8 w0⟩, rfl⟩
set_option maxRecDepth 100000 in
theorem stepsApart_lifted (os : Os) (started : os.Started) (H : Type) (enc : TypeId × Value → H) :
    ReturnsInHanded {} Tryd.checked os 5 .any (fun w args => (Rows.stepsApartSpec.pre enc Tryd.prog Tryd.f5 [] false w args ∧ laidMetH Tryd.prog laid1 w) ∧ sizedMet enc Tryd.prog Tryd.f5 (OpenSpec.ofChange Rows.stepsApartSpec) false w args)
      (Rows.stepsApartSpec.post enc Tryd.prog Tryd.f5 false true false false) := by
  refine returnsInHanded_of_change_and (C := Tryd.checked) (X := fun w _ => laidMetH Tryd.prog laid1 w) (fun _ _ _ hh h => h.of_heap hh) Tryd.own started (by kernel_rfl) Tryd.func5
    (ChangeSpec.witness_shaped (enc := enc) (C := Tryd.checked) (os := os) (X := fun w _ => laidMetH Tryd.prog laid1 w) false (World.doorLaid Tryd.prog 400 os) #[.agg #[.int .u8 0, .int .i64 0, .int .i64 0], .agg #[.int .u8 0, .int .i64 0, .int .i64 0], .slice none 0 0] 8 rfl (World.shaped_of_RefB (by kernel_rfl) (by kernel_rfl)) (by kernel_rfl) (by kernel_rfl) (by kernel_rfl) (door_met os _)) ?_
  intro W base args ds gs before hval0 hW _ _ hL _
  have hval : ∀ (j : Nat) t v, Tryd.f5.params[j]? = some t → args[j]? = some v → Value.okWide Tryd.prog W .any base t v := hval0
  have hW' := hW
  obtain ⟨p, q, hA0, hV, rfl, hfz, hnd⟩ := hW
  have hA : DataW.TrodAll enc Tryd.prog W 0 (fun _ => true) true Tryd.f5.params.toList args.toList ds p := hA0
  rw [Tryd.params5] at hA hval
  obtain ⟨v0, v1, v2, d0, d1, d2, p0, p1, p2, rfl, rfl, rfl, h0, h1, h2⟩ := trodAll_three hA
  obtain ⟨rfl, rfl⟩ := trodVars_none hV
  obtain ⟨ka, rfl⟩ := open_kind (hval 0 51 v0 rfl rfl) h0
  obtain ⟨kb, rfl⟩ := open_kind (hval 1 51 v1 rfl rfl) h1
  clear hA0 hval0
  have hlt0 : ∀ x ∈ p0, x.block < W.heap.size := fun x hx => by simpa using hW'.lt x (by simp [hx])
  have hlt1 : ∀ x ∈ p1, x.block < W.heap.size := fun x hx => by simpa using hW'.lt x (by simp [hx])
  have hlt2 : ∀ x ∈ p2, x.block < W.heap.size := fun x hx => by simpa using hW'.lt x (by simp [hx])
  obtain ⟨e0, he, hr0⟩ := of_laid hL
  have fin : ∀ e W', Said ⟨W, fun _ => False⟩ e W' → ∃ v, e = .returned v ∧ Rows.stepsApartSpec.post enc Tryd.prog Tryd.f5 false true false false W #[kV ka, kV kb, v2] v W' := by
    rintro e W' ⟨rfl, hsz, hk, hc⟩
    have hk' : ∀ x, x < W.heap.size → W'.heap[x]? = W.heap[x]? := fun x hx => hk x hx (fun h => h)
    refine ⟨_, rfl, _, _, _, [], _, [], hW', ⟨[], [], shut_bool Tryd.underlying4 true, rfl, rfl⟩, trodAll_mk3 (trod_same Tryd.laidOut (by kernel_rfl) (of_decide_eq_true (by kernel_rfl)) h0 hk' hlt0) (trod_same Tryd.laidOut (by kernel_rfl) (of_decide_eq_true (by kernel_rfl)) h1 hk' hlt1) (trod_same Tryd.laidOut (by kernel_rfl) (of_decide_eq_true (by kernel_rfl)) h2 hk' hlt2), rfl, keptBut_of _ hc hk', fun h => by cases h⟩
  obtain ⟨ys, cap, e1, hr1, hd1⟩ := open_sli (encInt .i64) Tryd.underlying23 (by kernel_rfl) open_i64 rfl (hval 2 23 v2 rfl rfl) h2
  obtain ⟨hr, _⟩ := ro_add hr0 (by intro b hb e; rw [List.mem_singleton.1 hb]; rfl) rfl hr1
  have hv : Den ([e0] ++ [e1]) (pickA ⟨ka, kb, ys, cap⟩ 1) v2 := den_add (env := [e0]) (n := 1) hd1 rfl
  exact (stepsApart_call (q := ⟨ka, kb, ys, cap⟩) he hr (den_kind ka) (den_kind kb) hv).mono fun e W' h => fin e W' h
theorem stepsApart_row : Rows.StepsApartSaid :=
  OpenClaim.holds_of_wide 5 Tryd.f5 rfl rfl rfl rfl rfl rfl rfl ⟨rfl, rfl, rfl, rfl, rfl⟩ rfl rfl rfl rfl rfl (by kernel_rfl) Tryd.func5 (by kernel_rfl)
    (of_decide_eq_true (by kernel_rfl)) (by unfold Func.isWrapper; first | (rw [if_pos (by decide +kernel)]; kernel_rfl) | (rw [if_neg (by decide +kernel)]; exact ⟨rfl, rfl⟩))
    (fun os started H enc _ => stepsApart_lifted os started H enc)
theorem stepsApart_holds : Rows.StepsApartCardSaid :=
  Claim7.holds_tied_plain_at .later [] [.data] true _ _ stepsApart_row (fun _ h => by cases h) (by kernel_rfl) (fun _ h => by cases h) stepsApart_row_tie rfl ⟨rfl, rfl⟩ (by kernel_rfl) rfl
    (fun f fn hf hfn => by
      obtain rfl : f = 5 := Option.some.inj ((show Tryd.prog.funcNamed "purlin/purlinlaw08.StepsApart" = some 5 by kernel_rfl).symm.trans hf) |>.symm
      obtain rfl : fn = Tryd.f5 := (Option.some.inj (Tryd.func5.symm.trans hfn)).symm
      exact ⟨by kernel_rfl, fun j t ht => by
        rw [Tryd.params5] at ht
        have hm : t ∈ [51, 51, 23] := by simpa using Array.mem_of_getElem? ht
        have hall : ([51, 51, 23].all fun u => !Tryd.prog.wantsStandIn u) = true := by kernel_rfl
        exact (show Tryd.prog.wantsStandIn t = false by simpa using List.all_eq_true.1 hall t hm)⟩)
    (by kernel_rfl)
end Go.Proofs.YtlnigpeoffaemaaDoor

