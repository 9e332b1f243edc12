/- StepsPlays: whatever tasks are picked in whatever order, the words and who is done are the document's. -/
import Derived.Test.YtlnigpeoffaemaaDoorTsk
import Derived.Test.YtlnigpeoffaemaaDoorSxC
import Derived.Test.YtlnigpeoffaemaaDoorCards
import Derived.Test.YtlnigpeoffaemaaDoorTie
import Derived.ProofKit
import Derived.LaidMore
import Derived.OpenShut
import Derived.Stop.Joined
/- StepsLose: pieces and states. -/
namespace Go.Proofs.YtlnigpeoffaemaaDoor
open Go Go.Proofs.YtlnigpeoffaemaaDoor.Sx
set_option linter.unusedVariables false
/-- a byte -/
structure U8 where
  v : Int
  h : 0 ≤ v ∧ v ≤ 255
def encU8 : Enc U8 := encOf 0 (fun x => [.int .u8 x.v]) ⟨0, by omega⟩ (fun _ => rfl) (by intro env env' x vs h; simpa [DenL, Den] using h)
/-- tasks, the last one of which may be no member of a family yet -/
def encTsN (a b o : Nat) : Enc (Bool × Option Nat) where
  tag := .other
  shut := false
  shutOk := by simp
  sz := 1
  enc x := match x with
    | (k, some i) => [.sw k (.ifc 84 (.pto a i 0)) (.ifc 74 (.pto b i 0))]
    | (k, none) => [.sw k (.ifc 84 (.ptr o 0)) (.ifc 74 (.ptr o 0))]
  dec l := match l with
    | [.ifc t (.ptr i j)] => match Nat.decEq i o, Nat.decEq j 0 with
      | .isTrue _, .isTrue _ => match Nat.decEq t 84, Nat.decEq t 74 with
        | .isTrue _, _ => some (true, none)
        | _, .isTrue _ => some (false, none)
        | _, _ => none
      | _, _ => none
    | _ => none
  dflt := (false, none)
  top := some (max (max a b) o + 1)
  topOk := by
    intro k hk m hm x
    simp only [Option.some.injEq] at hk; subst hk
    have e1 := idx_pref hm (show a < max (max a b) o + 1 by omega)
    have e2 := idx_pref hm (show b < max (max a b) o + 1 by omega)
    have e3 := idx_pref hm (show o < max (max a b) o + 1 by omega)
    match x with
    | (k, some i) => simp [renL, ren, e1, e2]
    | (k, none) => simp [renL, ren, e3]
  pos := by omega
  len x := by match x with
    | (k, some i) => rfl
    | (k, none) => rfl
  ok := by
    intro env l x vs h hd
    split at h
    · split at h
      · rename_i h1 h2 _ _
        subst h1 h2
        split at h
        · rename_i _ _ h3 _
          subst h3
          simp only [Option.some.injEq] at h; subst h
          obtain ⟨u, us, rfl, h4, h5⟩ := hd
          exact ⟨u, us, rfl, .inl ⟨rfl, h4⟩, h5⟩
        · rename_i _ _ h3 _ _
          subst h3
          simp only [Option.some.injEq] at h; subst h
          obtain ⟨u, us, rfl, h4, h5⟩ := hd
          exact ⟨u, us, rfl, .inr ⟨rfl, h4⟩, h5⟩
        · cases h
      · cases h
    · cases h
abbrev someT (ts : List (Bool × Nat)) : List (Bool × Option Nat) := ts.map fun t => (t.1, some t.2)
theorem someT_den {env : Env} {o : Nat} {ts : List (Bool × Nat)} {cs : List Value} (h : DenL env (ts.flatMap (encTs 3 4).enc) cs) : DenL env ((someT ts).flatMap (encTsN 3 4 o).enc) cs := by
  rw [List.flatMap_map]; exact h
theorem tsN_tw {env : Env} {o k : Nat} (hp : ∀ v, Den env (.ptr o 0) v → Den env (.pto 4 k 0) v) {ts : List (Bool × Nat)} {cs : List Value} (h : DenL env ((someT ts ++ [(false, none)]).flatMap (encTsN 3 4 o).enc) cs) :
    DenL env ((ts ++ [(false, k)]).flatMap (encTs 3 4).enc) cs := by
  rw [List.flatMap_append, List.flatMap_map] at h
  rw [List.flatMap_append]
  obtain ⟨us, vs, rfl, h1, h2⟩ := denL_split h
  refine denL_append h1 ?_
  obtain ⟨u, us', rfl, h3, h4⟩ := h2
  refine ⟨u, us', rfl, ?_, h4⟩
  rcases h3 with ⟨h5, _⟩ | ⟨_, w, rfl, h6⟩
  · cases h5
  · exact .inr ⟨rfl, w, rfl, hp _ h6⟩
theorem tsN_ad {env : Env} {o k : Nat} (hp : ∀ v, Den env (.ptr o 0) v → Den env (.pto 3 k 0) v) {ts : List (Bool × Nat)} {cs : List Value} (h : DenL env ((someT ts ++ [(true, none)]).flatMap (encTsN 3 4 o).enc) cs) :
    DenL env ((ts ++ [(true, k)]).flatMap (encTs 3 4).enc) cs := by
  rw [List.flatMap_append, List.flatMap_map] at h
  rw [List.flatMap_append]
  obtain ⟨us, vs, rfl, h1, h2⟩ := denL_split h
  refine denL_append h1 ?_
  obtain ⟨u, us', rfl, h3, h4⟩ := h2
  refine ⟨u, us', rfl, ?_, h4⟩
  rcases h3 with ⟨_, w, rfl, h6⟩ | ⟨h5, _⟩
  · exact .inl ⟨rfl, w, rfl, hp _ h6⟩
  · cases h5
/-- what comes in -/
structure In8 where
  times : List U8
  cap : Nat
  picks : List Int
  cap' : Nat
abbrev timesV (p : In8) (i : Nat) : SVal := .sli i (.c 0) 1 (.v p.times.length) (some (.v p.cap))
abbrev picksV (p : In8) (i : Nat) : SVal := .sli i (.c 0) 1 (.v p.picks.length) (some (.v p.cap'))
abbrev s0 (p : In8) : St := [lookB, .ro encU8 p.times, .ro (encInt .i64) p.picks]
/-- in the loop that makes tasks -/
abbrev sMk (p : In8) (xs : List Ad) (ys : List Tw) (ts : List (Bool × Nat)) : St := famS 1 [0] 0 xs ys ++ [.ro encU8 p.times, .ro (encInt .i64) p.picks, .vec (encTs 3 4) ts 44]
abbrev sMn (p : In8) (xs : List Ad) (ys : List Tw) (ts : List (Bool × Option Nat)) : St := famS 1 [0] 0 xs ys ++ [.ro encU8 p.times, .ro (encInt .i64) p.picks, .vec (encTsN 3 4 8) ts 44]
noncomputable def b6 : Code := Tryd.f6.body.getD .skip
noncomputable def c6 : Code := restC 4 b6
noncomputable def reg6 : Code := lft (lft c6)
noncomputable def blk6 : Code := rgt (lft c6)
noncomputable def round6 : Code := lft (lft blk6)
noncomputable def tm6 : Code := lft round6
noncomputable def bb6 : Code := lft (lft (rgt round6))
noncomputable def inc6 : Code := rgt (rgt round6)
noncomputable def d6 : Code := rgt c6
noncomputable def e6 : Code := restC 2 d6
noncomputable def reg6b : Code := lft (lft e6)
noncomputable def blk6b : Code := rgt (lft e6)
noncomputable def round6b : Code := lft (lft blk6b)
noncomputable def tm6b : Code := lft round6b
noncomputable def bb6b : Code := lft (lft (rgt round6b))
noncomputable def inc6b : Code := rgt (rgt round6b)
noncomputable def f6' : Code := rgt e6
abbrev n6a : List Nat := [0, 1, 5, 7, 8]
abbrev n6p : List Nat := [0, 1, 5, 7, 8, 4]
abbrev n6b : List Nat := [0, 1, 5, 7, 8, 9]
abbrev n6n : List Nat := [54, 0, 1, 5, 7, 8, 9]
abbrev v6 (p : In8) (m : Nat) (sum : Int) : List SVal := [timesV p 5, picksV p 6, .ptr 1 0, .sli 7 (.c 0) 1 (.v m) none, .int .u32 sum]
end Go.Proofs.YtlnigpeoffaemaaDoor

/- StepsLose: its configuration. -/
namespace Go.Proofs.YtlnigpeoffaemaaDoor
open Go Go.Proofs.YtlnigpeoffaemaaDoor.Sx
set_option linter.unusedVariables false
noncomputable def cfgL : Cfg := { P := Tryd.prog, ex := exI, gl := [(0, 0)], sm := fun f => match f with | 10 => some (smClosed [0] [lookB] (.bl true)) | 11 => some smNew | _ => none }
theorem cfgL_ok : SmOk cfgL := by
  intro f g h
  simp only [cfgL] at h
  split at h
  · simp only [Option.some.injEq] at h; subst h
    exact smClosedE_ok cfg0_ok awake_val ⟨new0, new1, rfl, rfl, rfl, rfl, rfl, rfl, rfl, rfl, rfl, rfl, rfl, rfl, rfl, rfl, rfl, trivial⟩ (by kernel_rfl) rfl rfl (by intro b hb e; rw [List.mem_singleton.1 hb]; rfl)
  · simp only [Option.some.injEq] at h; subst h
    exact smAny_ok cfgN_ok (by kernel_rfl) new_sel
  · cases h
end Go.Proofs.YtlnigpeoffaemaaDoor

namespace Go.Proofs.YtlnigpeoffaemaaDoor
open Go Go.Proofs.YtlnigpeoffaemaaDoor.Sx
set_option linter.unusedVariables false
set_option maxRecDepth 100000 in
theorem t6_pre {p : In8} : (execN cfgL 100 4 b6 ([timesV p 1, picksV p 2] ++ List.replicate 107 .bad) (s0 p)).bind (canonK 0 [(0,0)] 109 n6p) =
 

 (.eq (some [Blk.ro encLook [PUnit.unit]] = some [Blk.ro encLook [PUnit.unit]])

 (.br (decide ((6 : Int) < (↑p.1.length : Int)))

 (.eq (some [Blk.ro encLook [PUnit.unit]] = some [Blk.ro encLook [PUnit.unit]])

 (.ret (.ret, [.sli 1 (.c 0) 1 (.v p.1.length) (some (.v p.2)), .sli 2 (.c 0) 1 (.v p.3.length) (some (.v p.4)), .ptr 3 0, .bad, .bad, .bl true], [.ro encLook [PUnit.unit], .ro encU8 p.1, .ro (encInt IntKind.i64) p.3, .own [.c (.sli 4 (.c 0) 1 (.c 1) (some (.c 1))), .c (.lit .i64 (0 : Int))] 67, .own [.c (.lit .u32 (0 : Int))] 45])))

 (.ret (.normal, [.sli 1 (.c 0) 1 (.v p.1.length) (some (.v p.2)), .sli 2 (.c 0) 1 (.v p.3.length) (some (.v p.4)), .ptr 3 0, .sli 5 (.c 0) 1 (.c 0) (some (.c 0)), .lit .u32 (0 : Int), .bl false], [.ro encLook [PUnit.unit], .ro encU8 p.1, .ro (encInt IntKind.i64) p.3, .own [.c (.sli 4 (.c 0) 1 (.c 1) (some (.c 1))), .c (.lit .i64 (0 : Int))] 67, .own [.c (.lit .u32 (0 : Int))] 45, .own [] 44])))) := by kernel_rfl
set_option maxRecDepth 100000 in
theorem t6_reg {p : In8} {xs : List Ad} {ys : List Tw} {ts : List (Bool × Nat)} {sum : Int} : (exec cfgM 100 reg6 (fr 109 n6a (v6 p ts.length sum)) (sMk p xs ys ts)).bind (canonK 7 [(0,0)] 109 n6b) =
 

 (.ret (.normal, [.sli 5 (.c 0) 1 (.v p.1.length) (some (.v p.2)), .sli 6 (.c 0) 1 (.v p.3.length) (some (.v p.4)), .ptr 1 0, .sli 7 (.c 0) 1 (.v ts.length) none, .int .u32 sum, .lit .i64 (0 : Int)], [.ro encLook [PUnit.unit], .own [.c (.sli 2 (.c 0) 1 (.v 1) (some (.v 1))), .c (.int .i64 (0 : Int))] 67, .own [.a (encInt IntKind.u32) 1 [(0 : Int)]] 45, .many encAd xs 86, .many encTw ys 78, .ro encU8 p.1, .ro (encInt IntKind.i64) p.3, .vec (encTs 3 4) ts 44])) := by kernel_rfl
set_option maxRecDepth 100000 in
theorem t6_tm {p : In8} {xs : List Ad} {ys : List Tw} {ts : List (Bool × Nat)} {sum : Int} {i : Nat} : (exec cfgM 100 tm6 (fr 109 n6b (v6 p ts.length sum ++ [.int .i64 (i : Nat)])) (sMk p xs ys ts)).bind (canonK 7 [(0,0)] 109 n6b) =
 

 (.br (decide ((↑i : Int) < (↑p.1.length : Int)))

 (.ret (.normal, [.sli 5 (.c 0) 1 (.v p.1.length) (some (.v p.2)), .sli 6 (.c 0) 1 (.v p.3.length) (some (.v p.4)), .ptr 1 0, .sli 7 (.c 0) 1 (.v ts.length) none, .int .u32 sum, .int .i64 (↑i : Int)], [.ro encLook [PUnit.unit], .own [.c (.sli 2 (.c 0) 1 (.v 1) (some (.v 1))), .c (.int .i64 (0 : Int))] 67, .own [.a (encInt IntKind.u32) 1 [(0 : Int)]] 45, .many encAd xs 86, .many encTw ys 78, .ro encU8 p.1, .ro (encInt IntKind.i64) p.3, .vec (encTs 3 4) ts 44]))

 (.ret (.exit 0, [.sli 5 (.c 0) 1 (.v p.1.length) (some (.v p.2)), .sli 6 (.c 0) 1 (.v p.3.length) (some (.v p.4)), .ptr 1 0, .sli 7 (.c 0) 1 (.v ts.length) none, .int .u32 sum, .int .i64 (↑i : Int)], [.ro encLook [PUnit.unit], .own [.c (.sli 2 (.c 0) 1 (.v 1) (some (.v 1))), .c (.int .i64 (0 : Int))] 67, .own [.a (encInt IntKind.u32) 1 [(0 : Int)]] 45, .many encAd xs 86, .many encTw ys 78, .ro encU8 p.1, .ro (encInt IntKind.i64) p.3, .vec (encTs 3 4) ts 44]))) := by kernel_rfl
set_option maxRecDepth 100000 in
theorem t6_mk {p : In8} {xs : List Ad} {ys : List Tw} {ts : List (Bool × Option Nat)} {sum : Int} {i : Nat} : (exec cfgM 100 bb6 (fr 109 n6b (v6 p ts.length sum ++ [.int .i64 (i : Nat)])) (sMn p xs ys ts)).bind (canonK 7 [(0,0)] 109 n6n) =
 

 (.need (decide ((0 : Int) ≤ (↑i : Int)) && decide ((↑i : Int).toNat < p.1.length))

 (.need (decide ((↑i : Int).toNat < p.1.length))

 (.need (inR .u32 (p.1.getD (↑i : Int).toNat { v := (0 : Int), h := encU8._proof_2 }).v)

 (.need (true)

 (.need (inR .i64 ((p.1.getD (↑i : Int).toNat { v := (0 : Int), h := encU8._proof_2 }).v.tmod (12 : Int)))

 (.need (true)

 (.need (decide (ts.length = ts.length))

 (.need (roomy (ts.length + 1) 16)

 (.ret (.normal, [.ifc 74 (.ptr 7 0), .sli 5 (.c 0) 1 (.v p.1.length) (some (.v p.2)), .sli 6 (.c 0) 1 (.v p.3.length) (some (.v p.4)), .ptr 1 0, .sli 8 (.c 0) 1 (.v (ts.length + 1)) none, .int .u32 (IntKind.u32.wrap (sum + (p.1.getD (↑i : Int).toNat { v := (0 : Int), h := encU8._proof_2 }).v.tmod (12 : Int))), .int .i64 (↑i : Int)], [.ro encLook [PUnit.unit], .own [.c (.sli 2 (.c 0) 1 (.v 1) (some (.v 1))), .c (.int .i64 (0 : Int))] 67, .own [.a (encInt IntKind.u32) 1 [(0 : Int)]] 45, .many encAd xs 86, .many encTw ys 78, .ro encU8 p.1, .ro (encInt IntKind.i64) p.3, .own [.c (.lit .i64 (0 : Int)), .c (.int .i64 ((p.1.getD (↑i : Int).toNat { v := (0 : Int), h := encU8._proof_2 }).v.tmod (12 : Int))), .c (.bl false), .c (.lit .u32 (0 : Int)), .c (SVal.fn (Fn.func 27) [] [])] 78, .vec (encRow 0) (renRows [0, 1, 2, 3, 4, 5, 6, 8, 10] (encTsN 3 4 8) (ts ++ [(false, none)])) 44])))))))))) := by kernel_rfl
set_option maxRecDepth 100000 in
theorem t6_inc {p : In8} {xs : List Ad} {ys : List Tw} {ts : List (Bool × Nat)} {sum : Int} {i : Nat} : (exec cfgM 100 inc6 (fr 109 n6b (v6 p ts.length sum ++ [.int .i64 (i : Nat)])) (sMk p xs ys ts)).bind (canonK 7 [(0,0)] 109 n6b) =
 

 (.need (inR .i64 ((↑i : Int) + (1 : Int)))

 (.ret (.normal, [.sli 5 (.c 0) 1 (.v p.1.length) (some (.v p.2)), .sli 6 (.c 0) 1 (.v p.3.length) (some (.v p.4)), .ptr 1 0, .sli 7 (.c 0) 1 (.v ts.length) none, .int .u32 sum, .int .i64 ((↑i : Int) + (1 : Int))], [.ro encLook [PUnit.unit], .own [.c (.sli 2 (.c 0) 1 (.v 1) (some (.v 1))), .c (.int .i64 (0 : Int))] 67, .own [.a (encInt IntKind.u32) 1 [(0 : Int)]] 45, .many encAd xs 86, .many encTw ys 78, .ro encU8 p.1, .ro (encInt IntKind.i64) p.3, .vec (encTs 3 4) ts 44]))) := by kernel_rfl
set_option maxRecDepth 100000 in
theorem t6_new {p : In8} {xs : List Ad} {ys : List Tw} {ts : List (Bool × Nat)} {sum : Int} {i : Nat} : (execN cfgL 100 2 d6 (fr 109 n6b (v6 p ts.length sum ++ [.int .i64 (i : Nat)])) (sMk p xs ys ts)).bind (canonK 7 [(0,0)] 109 [0, 1, 5, 8, 11]) =
 

 (.eq (anyP cfgN 100 11 [.ptr 1 0, .sli 7 (.c 0) 1 (.v ts.length) none] [.ro encLook [PUnit.unit], .own [.c (.sli 2 (.c 0) 1 (.v 1) (some (.v 1))), .c (.int .i64 (0 : Int))] 67, .own [.a (encInt IntKind.u32) 1 [(0 : Int)]] 45, .many encAd xs 86, .many encTw ys 78, .ro encU8 p.1, .ro (encInt IntKind.i64) p.3, .vec (encTs 3 4) ts 44])

 (.need (decide (0 + ts.length ≤ ts.length))

 (.need (decide (0 + ts.length ≤ ts.length))

 (.need (roomy (List.take ts.length (List.drop 0 ts)).length 16)

 (.need (decide ((0 : Int) ≤ (↑ts.length : Int)))

 (.need (decide ((↑ts.length : Int) * (1 : Int) ≤ (140737488355328 : Int)))

 (.need (decide ((↑ts.length : Int) ≤ (4611686018427387904 : Int)))

 (.ret (.normal, [.sli 5 (.c 0) 1 (.v p.1.length) (some (.v p.2)), .sli 6 (.c 0) 1 (.v p.3.length) (some (.v p.4)), .ptr 1 0, .int .u32 sum, .ptr 7 0], [.ro encLook [PUnit.unit], .own [.c (.sli 2 (.c 0) 1 (.v 1) (some (.v 1))), .c (.int .i64 (0 : Int))] 67, .own [.a (encInt IntKind.u32) 1 [(0 : Int)]] 45, .many encAd xs 86, .many encTw ys 78, .ro encU8 p.1, .ro (encInt IntKind.i64) p.3, .own [.c (.ptr 1 0), .c (.sli 8 (.c 0) 1 (.v (List.take ts.length (List.drop 0 ts)).length) none), .c (.sli 9 (.c 0) 1 (.v (↑ts.length : Int).toNat) (some (.v (↑ts.length : Int).toNat)))] 70, .vec (encTs 3 4) (List.take ts.length (List.drop 0 ts)) 44, .own [.a encBool (↑ts.length : Int).toNat (List.replicate (↑ts.length : Int).toNat false)] 4]))))))))) := by kernel_rfl
end Go.Proofs.YtlnigpeoffaemaaDoor

/- StepsLose: the making of tasks. -/
namespace Go.Proofs.YtlnigpeoffaemaaDoor
open Go Go.Proofs.YtlnigpeoffaemaaDoor.Sx
set_option linter.unusedVariables false
def mkTw (u : U8) : Tw := ⟨0, u.v.tmod 12, false, 0, false⟩
def ysAt (p : In8) (i : Nat) : List Tw := (p.times.take i).map mkTw
def sumW (ys : List Tw) : Int := (ys.map (·.times)).sum
def tsB (i : Nat) : List (Bool × Nat) := (List.range i).map fun j => (false, j)
theorem tsB_len (i : Nat) : (tsB i).length = i := by simp [tsB]
theorem tsB_succ (i : Nat) : tsB (i + 1) = tsB i ++ [(false, i)] := by simp [tsB, List.range_succ]
theorem tmod12 (u : U8) : 0 ≤ u.v.tmod 12 ∧ u.v.tmod 12 ≤ 11 := by
  have := u.h
  rw [Int.tmod_eq_emod_of_nonneg this.1]; omega
theorem ysAt_len {p : In8} {i : Nat} (h : i ≤ p.times.length) : (ysAt p i).length = i := by simp [ysAt]; omega
theorem ysAt_succ {p : In8} {i : Nat} (h : i < p.times.length) : ysAt p (i + 1) = ysAt p i ++ [mkTw (p.times.getD i encU8.dflt)] := by
  unfold ysAt
  rw [List.take_add_one, List.map_append]
  simp [List.getD_eq_getElem?_getD, h]
theorem sumW_succ {p : In8} {i : Nat} (h : i < p.times.length) : sumW (ysAt p (i + 1)) = sumW (ysAt p i) + (p.times.getD i encU8.dflt).v.tmod 12 := by
  rw [ysAt_succ h, sumW, List.map_append, List.sum_append]
  simp [sumW, mkTw]
theorem w32_small {x : Int} (h : 0 ≤ x) (h' : x < 4294967296) : IntKind.u32.wrap x = x := wrap_inR (by rw [inR_u32]; omega)
theorem sumW_le {p : In8} : ∀ {i : Nat}, 0 ≤ sumW (ysAt p i) ∧ sumW (ysAt p i) ≤ 11 * i := by
  intro i
  have h : ∀ l : List U8, 0 ≤ ((l.map mkTw).map (·.times)).sum ∧ ((l.map mkTw).map (·.times)).sum ≤ 11 * l.length := by
    intro l
    induction l with
    | nil => simp
    | cons u l ih =>
      have := tmod12 u
      simp only [List.map_cons, List.sum_cons, mkTw, List.length_cons] at ih ⊢
      push_cast
      omega
  have := h (p.times.take i)
  have hl : (p.times.take i).length ≤ i := by simp; omega
  unfold sumW ysAt
  constructor
  · exact this.1
  · have := this.2; omega
abbrev Q6 (w0 : From) : Exit → Act → World → Prop := bodyPost Tryd.prog Tryd.f6 (Said w0)
def InvL (w0 : From) (p : In8) (i : Nat) (a : Act) (w : World) : Prop :=
  i ≤ p.times.length ∧ ∃ env, AtK [] [(0, 0)] w0 env (fr 109 n6b (v6 p i (sumW (ysAt p i)) ++ [.int .i64 (i : Nat)])) (sMk p [] (ysAt p i) (tsB i)) a w
abbrev RL (w0 : From) (p : In8) (i : Nat) : Exit → Act → World → Prop :=
  Exit.then (fun a' w' => ∃ k, InvL w0 p k a' w' ∧ p.times.length - k < p.times.length - i) (Exit.inBlock 0 (Exit.then (d6.wp Tryd.prog (Q6 w0)) (Q6 w0)))
theorem encN_ren (x : Bool × Option Nat) : renL [0, 1, 2, 3, 4, 5, 6, 8, 10] ((encTsN 3 4 8).enc x) = (encTsN 3 4 7).enc x := by
  match x with
  | (k, some i) => rfl
  | (k, none) => rfl
set_option maxHeartbeats 1000000 in
theorem roundL_ok {w0 : From} {p : In8} (h6 : p.times.length ≤ 6)
    (hd : ∀ {env : Env} {a : Act} {w : World}, AtK [] [(0, 0)] w0 env (fr 109 n6b (v6 p p.times.length (sumW (ysAt p p.times.length)) ++ [.int .i64 (p.times.length : Nat)])) (sMk p [] (ysAt p p.times.length) (tsB p.times.length)) a w → d6.wp Tryd.prog (Q6 w0) a w)
    {i : Nat} {a : Act} {w : World} (h : InvL w0 p i a w) : round6.wp Tryd.prog (RL w0 p i) a w := by
  obtain ⟨hi, env, hA⟩ := h
  refine wpS (by kernel_rfl) ?_
  have hlt := tsB_len i
  have hA' : AtK [] [(0, 0)] w0 env (fr 109 n6b (v6 p (tsB i).length (sumW (ysAt p i)) ++ [.int .i64 (i : Nat)])) (sMk p [] (ysAt p i) (tsB i)) a w := by rw [hlt]; exact hA
  refine pieceTK2 (c := cfgM) cfgM_ok n6b t6_tm (by simp) (by simp) hA' ?_
  refine all_brp (by simp only [decide_eq_true_eq]; exact Iff.rfl) (fun h1 => all_ret fun env1 a1 w1 hA1 => ?_) (fun h1 => all_ret fun env1 a1 w1 hA1 => ?_)
  · simp only [Ex.to, Exit.then]
    have hi' : i < p.times.length := by omega
    refine (show (rgt round6).wp Tryd.prog (RL w0 p i) a1 w1 from wpS (by kernel_rfl) (wpB 1 (by kernel_rfl) ?_))
    refine (show bb6.wp Tryd.prog (Exit.inBlock 1 (Exit.then (inc6.wp Tryd.prog (RL w0 p i)) (RL w0 p i))) a1 w1 from ?_)
    have hsl : (someT (tsB i)).length = (tsB i).length := by simp
    have hA2 : AtK [] [(0, 0)] w0 env1 (fr 109 n6b (v6 p (someT (tsB i)).length (sumW (ysAt p i)) ++ [.int .i64 (i : Nat)])) (sMn p [] (ysAt p i) (someT (tsB i))) a1 w1 := by
      rw [hsl]
      exact hA1.on fun h => h.typede 7 (E' := encTsN 3 4 8) (ys := someT (tsB i)) rfl (by simp) rfl (fun cs h => someT_den h)
    refine pieceTK2 (c := cfgM) cfgM_ok n6n t6_mk (by simp) (by simp) hA2 ?_
    have hs := sumW_succ hi'
    have hx := ysAt_succ hi'
    simp only [Int.toNat_natCast]
    rw [show encU8.dflt = (⟨0, by omega⟩ : U8) from rfl] at hs hx
    have hu := tmod12 (p.times.getD i ⟨0, by omega⟩)
    have hur := (p.times.getD i ⟨0, by omega⟩).h
    have hle := sumW_le (p := p) (i := i)
    refine all_needq (by simp only [decide_eq_true_eq, Bool.and_eq_true]; exact Iff.rfl) (by omega) ?_
    refine all_needq (by simp only [decide_eq_true_eq]; exact Iff.rfl) (by omega) ?_
    refine all_needq (by simp only [inR_u32]; exact Iff.rfl) (by omega) ?_
    refine all_need rfl fun _ => ?_
    refine all_needq (by simp only [inR_i64]; exact Iff.rfl) (by omega) ?_
    refine all_need rfl fun _ => ?_
    refine all_need (by simp) fun _ => ?_
    refine all_needq (by simp only [roomy_iff]; exact Iff.rfl) (by rw [hsl, hlt]; omega) ?_
    refine all_ret fun env2 a2 w2 hA3 => ?_
    rw [w32_small (by omega) (by omega), ← hs, hsl, hlt] at hA3
    have hA4 := hA3.on fun h => h.retype 8 (E := encTsN 3 4 8) rfl (encTsN 3 4 7) rfl encN_ren
    obtain ⟨env4, hA5, hj⟩ := hA4.join2 4 7 (by omega) (by simp) (E := encTw) (xs := ysAt p i) rfl rfl (mkTw (p.times.getD i ⟨0, by omega⟩)) (fun env cs h => by
      simpa [segCells, Seg.cells, encTw, encOf, mkTw, DenL, Den] using h)
    rw [ysAt_len (by omega)] at hj
    have hA6 := hA5.on fun h => h.typede 8 (E' := encTs 3 4) (ys := tsB i ++ [(false, i)]) rfl (by simp) rfl (fun cs h => tsN_tw (fun v => hj v 0) h)
    have hA7 := hA6.perm [0, 1, 2, 3, 4, 5, 6, 8] (by kernel_rfl) (by kernel_rfl) (st' := sMk p [] (ysAt p (i + 1)) (tsB (i + 1))) (vals' := .ifc 74 .bad :: (v6 p (i + 1) (sumW (ysAt p (i + 1))) ++ [SVal.int .i64 (i : Nat)])) (by rw [hx, tsB_succ]; rfl) rfl rfl
    have hA8 := hA7.on fun h => h.drop1 rfl
    simp only [Ex.to, Exit.inBlock, Exit.then]
    have hlt1 := tsB_len (i + 1)
    refine (show inc6.wp Tryd.prog (RL w0 p i) a2 w2 from ?_)
    obtain ⟨envZ, hA9⟩ : ∃ envZ, AtK [] [(0, 0)] w0 envZ (fr 109 n6b (v6 p (tsB (i + 1)).length (sumW (ysAt p (i + 1))) ++ [.int .i64 (i : Nat)])) (sMk p [] (ysAt p (i + 1)) (tsB (i + 1))) a2 w2 := ⟨_, by rw [hlt1]; exact hA8⟩
    refine pieceTK2 (c := cfgM) cfgM_ok n6b t6_inc (by simp) (by simp) hA9 ?_
    refine all_needp (by simp only [inR_i64]; exact Iff.rfl) (by omega) fun _ => all_ret fun env' a' w' hA9 => ?_
    refine ⟨i + 1, ⟨by omega, env', ?_⟩, by omega⟩
    rw [hlt1] at hA9
    exact hA9
  · have : i = p.times.length := by omega
    subst this
    simp only [Ex.to, Exit.then, Exit.inBlock, if_true]
    rw [hlt] at hA1
    exact hd hA1
end Go.Proofs.YtlnigpeoffaemaaDoor

/- StepsLose, plain: of tasks that load and store something may get lost, but not all. -/
namespace Go.Proofs.YtlnigpeoffaemaaDoor
open Go Go.Proofs.YtlnigpeoffaemaaDoor.Sx
set_option linter.unusedVariables false
theorem w32_mod (x : Int) : IntKind.u32.wrap x = x % 4294967296 := by
  simp [IntKind.wrap, IntKind.signed, IntKind.bits]
theorem low_u32 (x : Int) : ((low .u32 x : Nat) : Int) = x % 4294967296 := by
  have : 0 ≤ x % 4294967296 := by omega
  simp only [low, IntKind.bits]
  omega
theorem low_lt (x : Int) : low .u32 x < 4294967296 := by
  have := low_u32 x
  omega
theorem and_mask (x : Int) : bitop .and .u32 x 4294967295 = x % 4294967296 := by
  have h1 : low .u32 4294967295 = 2 ^ 32 - 1 := by decide
  have h2 := low_lt x
  simp only [bitop, h1, Nat.and_two_pow_sub_one_eq_mod, w32_mod]
  rw [Nat.mod_eq_of_lt (by omega), low_u32]
  omega
theorem and_zero (x : Int) : bitop .and .u32 x 0 = 0 := by
  have h1 : low .u32 0 = 0 := by decide
  simp only [bitop, h1, Nat.and_zero, w32_mod]
  rfl
theorem or_zero (x : Int) : bitop .or .u32 x 0 = x % 4294967296 := by
  have h1 : low .u32 0 = 0 := by decide
  simp only [bitop, h1, Nat.or_zero, w32_mod, low_u32]
  omega
theorem zero_or (x : Int) : bitop .or .u32 0 x = x % 4294967296 := by
  have h1 : low .u32 0 = 0 := by decide
  simp only [bitop, h1, Nat.zero_or, w32_mod, low_u32]
  omega
theorem incP_ok (x : Int) : incP x = (x + 1) % 4294967296 := by
  simp only [incP, and_mask, or_zero, w32_mod]; omega
theorem setP_ok (x v : Int) : setP x v = v % 4294967296 := by
  simp only [setP, and_zero, zero_or, w32_mod]; omega
theorem tsB_at {m i : Nat} (h : i < m) : tsAt (tsB m) i = (false, i) := by
  simp [tsAt, tsB, List.getD_eq_getElem?_getD, h]
theorem sumW_set : ∀ {ys : List Tw} {i : Nat} (h : i < ys.length) (y : Tw), sumW (ys.set i y) = sumW ys - (ys.getD i encTw.dflt).times + y.times
  | x :: ys, 0, _, y => by simp [sumW]; omega
  | x :: ys, i + 1, h, y => by
    have ih := sumW_set (ys := ys) (i := i) (by simpa using h) y
    simp only [sumW, List.set_cons_succ, List.map_cons, List.sum_cons, List.getD_cons_succ] at ih ⊢
    omega
theorem sumW_nonneg : ∀ {ys : List Tw}, (∀ i, i < ys.length → 0 ≤ (ys.getD i encTw.dflt).times) → 0 ≤ sumW ys
  | [], _ => by simp [sumW]
  | x :: ys, h => by
    have ih := sumW_nonneg (ys := ys) (fun i hi => h (i + 1) (by simpa using hi))
    have h0 := h 0 (by simp)
    simp only [sumW, List.map_cons, List.sum_cons, List.getD_cons_zero] at ih h0 ⊢
    omega
theorem sumW_zero : ∀ {ys : List Tw}, (∀ i, i < ys.length → (ys.getD i encTw.dflt).times = 0) → sumW ys = 0
  | [], _ => by simp [sumW]
  | x :: ys, h => by
    have ih := sumW_zero (ys := ys) (fun i hi => h (i + 1) (by simpa using hi))
    have h0 := h 0 (by simp)
    simp only [sumW, List.map_cons, List.sum_cons, List.getD_cons_zero] at ih h0 ⊢
    omega
/-- what holds of one task, where so many stores were made, and the word is so great -/
structure Lz (t : Tw) (d : Bool) (S w : Int) (m : Nat) : Prop where
  at' : t.at' = 0
  swap : t.swap = false
  times : 0 ≤ t.times ∧ t.times ≤ 11
  done : d = true → t.times = 0
  v : t.has = true → 1 ≤ t.times ∧ 0 ≤ t.v ∧ t.v ≤ S
  one : m = 1 → t.has = true → t.v = w
structure LInv (m : Nat) (T0 : Int) (s : Mc) : Prop where
  m6 : m ≤ 6
  ly : s.tw.length = m
  ld : s.ds.length = m
  lx : s.ad = []
  tot : T0 ≤ 66
  w : ∃ w, s.l = [w] ∧ 0 ≤ w ∧ w ≤ T0 - sumW s.tw ∧ (0 < T0 - sumW s.tw → 1 ≤ w) ∧ (m = 1 → w = T0 - sumW s.tw) ∧ ∀ i, i < m → Lz (twAt s i) (s.ds.getD i false) (T0 - sumW s.tw) w m
theorem linv_ok {m : Nat} {T0 : Int} {s : Mc} (h : LInv m T0 s) : McOk 1 m (tsB m) s := by
  obtain ⟨w, hw, _, _, _, _, hk⟩ := h.w
  refine ⟨by rw [hw]; rfl, tsB_len m, h.ld, fun i hi => ?_, fun i j hi hj e => ?_⟩
  · rw [tsB_at hi]
    exact ⟨by rw [h.ly]; exact hi, by have := (hk i hi).times; simp only; omega⟩
  · rw [tsB_at hi, tsB_at hj] at e
    exact (Prod.mk.inj e).2
/-- how many steps a task needs still -/
def remT (t : Tw) (d : Bool) : Nat := match d with
  | true => 0
  | false => if t.times < 1 then 1 else 2 * t.times.toNat - (if t.has then 1 else 0)
def remP (s : Mc) (i : Nat) : Nat := remT (twAt s i) (s.ds.getD i false)
/-- a pick of a task that isn't done -/
theorem pick_eq {m : Nat} {s : Mc} {i : Int} (hb : inP i m = true) (hd : s.ds.getD i.toNat false = false) : pickP m (tsB m) s i =
    ⟨(stepTw (twAt s i.toNat) s.l).2.1, usesTw (twAt s i.toNat) s.l s.c, s.ad, s.tw.set i.toNat (stepTw (twAt s i.toNat) s.l).1, s.ds.set i.toNat (stepTw (twAt s i.toNat) s.l).2.2⟩ := by
  have hb' := (inP_iff _ _).1 hb
  have ht : tsAt (tsB m) i.toNat = (false, i.toNat) := tsB_at (by omega)
  simp only [pickP, hb, hd, ht]
theorem pick_same {m : Nat} {s : Mc} {i : Int} (h : inP i m = false ∨ s.ds.getD i.toNat false = true) (ts : List (Bool × Nat)) : pickP m ts s i = s := by
  unfold pickP
  rcases h with h | h
  · rw [h]
  · split
    · rw [h]
    · rfl
theorem linv_pick {m : Nat} {T0 : Int} {s : Mc} (h : LInv m T0 s) (i : Int) : LInv m T0 (pickP m (tsB m) s i) ∧ ∀ j, j < m → (j = i.toNat → 0 ≤ i → remP (pickP m (tsB m) s i) j ≤ remP s j - 1) ∧ remP (pickP m (tsB m) s i) j ≤ remP s j := by
  by_cases hc : inP i m = false ∨ s.ds.getD i.toNat false = true
  · rw [pick_same hc]
    refine ⟨h, fun j hj => ⟨fun e h0 => ?_, Nat.le_refl _⟩⟩
    rcases hc with hc | hc
    · have := (not_congr (inP_iff _ _)).1 (by rw [hc]; simp)
      omega
    · subst e
      simp only [remP, hc, remT]; omega
  · have hb : inP i m = true := by
      cases hq : inP i m with
      | true => rfl
      | false => exact absurd (.inl hq) hc
    have hd : s.ds.getD i.toNat false = false := by
      cases hq : s.ds.getD i.toNat false with
      | false => rfl
      | true => exact absurd (.inr hq) hc
    have hb' := (inP_iff _ _).1 hb
    have hi : i.toNat < m := by omega
    rw [pick_eq hb hd]
    obtain ⟨h1, h2, h3, h4, h5, w, hw, w0, w1, w2, w3, hk⟩ := h
    generalize hii : i.toNat = k at *
    have hz := hk k hi
    have hT := hz.times
    have hsum0 : 0 ≤ sumW s.tw := sumW_nonneg (fun j hj => (hk j (by omega)).times.1)
    have keep : ∀ (t' : Tw) (d' : Bool) (l' : List Int) (c' : Int) (j : Nat), j ≠ k → twAt ⟨l', c', s.ad, s.tw.set k t', s.ds.set k d'⟩ j = twAt s j ∧ (s.ds.set k d').getD j false = s.ds.getD j false := by
      intro t' d' l' c' j hj
      exact ⟨Sx.getD_set_ne (fun e => hj e.symm) _ _, Sx.getD_set_ne (fun e => hj e.symm) _ _⟩
    have self : ∀ (t' : Tw) (d' : Bool) (l' : List Int) (c' : Int), twAt ⟨l', c', s.ad, s.tw.set k t', s.ds.set k d'⟩ k = t' ∧ (s.ds.set k d').getD k false = d' := by
      intro t' d' l' c'
      exact ⟨Sx.getD_set_self (by omega) _ _, Sx.getD_set_self (by omega) _ _⟩
    have hss : ∀ t' : Tw, sumW (s.tw.set k t') = sumW s.tw - (twAt s k).times + t'.times := fun t' => sumW_set (by omega) t'
    have main : ∀ (t' : Tw) (l' : List Int) (d' : Bool) (c' : Int), stepTw (twAt s k) s.l = (t', l', d') → remT t' d' ≤ remT (twAt s k) false - 1 →
        (∃ w', l' = [w'] ∧ 0 ≤ w' ∧ w' ≤ T0 - sumW (s.tw.set k t') ∧ (0 < T0 - sumW (s.tw.set k t') → 1 ≤ w') ∧ (m = 1 → w' = T0 - sumW (s.tw.set k t')) ∧ T0 - sumW s.tw ≤ T0 - sumW (s.tw.set k t') ∧ Lz t' d' (T0 - sumW (s.tw.set k t')) w' m) →
        LInv m T0 ⟨l', c', s.ad, s.tw.set k t', s.ds.set k d'⟩ ∧ ∀ j, j < m → (j = k → 0 ≤ i → remP ⟨l', c', s.ad, s.tw.set k t', s.ds.set k d'⟩ j ≤ remP s j - 1) ∧ remP ⟨l', c', s.ad, s.tw.set k t', s.ds.set k d'⟩ j ≤ remP s j := by
      intro t' l' d' c' he hrem ⟨w', e1, e2, e3, e4, e5, e6, e7⟩
      refine ⟨⟨h1, by simp [h2], by simp [h3], h4, h5, w', e1, e2, e3, e4, e5, fun j hj => ?_⟩, fun j hj => ?_⟩
      · by_cases hjk : j = k
        · subst hjk
          rw [(self t' d' l' c').1, (self t' d' l' c').2]; exact e7
        · rw [(keep t' d' l' c' j hjk).1, (keep t' d' l' c' j hjk).2]
          obtain ⟨g1, g2, g3, g4, g5, g6⟩ := hk j hj
          refine ⟨g1, g2, g3, g4, fun hh => ?_, fun hm => by exfalso; omega⟩
          have := g5 hh
          exact ⟨this.1, this.2.1, Int.le_trans this.2.2 e6⟩
      · by_cases hjk : j = k
        · subst hjk
          have er : remP ⟨l', c', s.ad, s.tw.set j t', s.ds.set j d'⟩ j = remT t' d' := by unfold remP; rw [(self t' d' l' c').1, (self t' d' l' c').2]
          have er2 : remP s j = remT (twAt s j) false := by unfold remP; rw [hd]
          rw [er, er2]
          exact ⟨fun _ _ => hrem, by omega⟩
        · have er : remP ⟨l', c', s.ad, s.tw.set k t', s.ds.set k d'⟩ j = remP s j := by unfold remP; rw [(keep t' d' l' c' j hjk).1, (keep t' d' l' c' j hjk).2]
          rw [er]
          exact ⟨fun e => absurd e hjk, Nat.le_refl _⟩
    have hin : inP 0 1 = true := by decide
    obtain ⟨g1, g2, g3, g4, g5, g6⟩ := hz
    generalize ht : twAt s k = t at *
    obtain ⟨at', times, has, v, swap⟩ := t
    simp only at g1 g2 g3 g4 g5 g6 hT hss
    subst g1 g2
    by_cases hlt : times < 1
    · have h0 : times = 0 := by omega
      subst h0
      have hst : stepTw ⟨0, 0, has, v, false⟩ s.l = (⟨0, 0, has, v, false⟩, s.l, true) := by simp [stepTw]
      rw [hst]
      refine main _ _ _ _ hst (by simp [remT]) ⟨w, hw, w0, ?_⟩
      rw [hss]
      simp only [Int.sub_zero, Int.add_zero]
      exact ⟨w1, w2, w3, Int.le_refl _, rfl, rfl, hT, fun _ => rfl, g5, g6⟩
    · have hdf : decide (times < 1) = false := decide_eq_false hlt
      cases has with
      | false =>
        have hst : stepTw ⟨0, times, false, v, false⟩ s.l = (⟨0, times, true, w, false⟩, s.l, false) := by
          simp [stepTw, hw, hin, hlt]
        rw [hst]
        refine main _ _ _ _ hst (by simp [remT, hlt]) ⟨w, hw, w0, ?_⟩
        rw [hss]
        have e : T0 - (sumW s.tw - times + times) = T0 - sumW s.tw := by omega
        simp only [e]
        exact ⟨w1, w2, w3, Int.le_refl _, rfl, rfl, hT, fun hh => (by cases hh), fun _ => ⟨by simp only; omega, w0, w1⟩, fun _ _ => rfl⟩
      | true =>
        have g5' := g5 rfl
        have hst : stepTw ⟨0, times, true, v, false⟩ s.l = (⟨0, times - 1, false, v, false⟩, [v + 1], times - 1 == 0) := by
          have : u32P (v + 1) % 4294967296 = v + 1 := by rw [show u32P (v + 1) = _ from w32_mod _]; omega
          simp [stepTw, hw, hin, hlt, setP_ok, this]
        rw [hst]
        refine main _ _ _ _ hst ?_ ⟨v + 1, rfl, by omega, ?_⟩
        · cases hq : times - 1 == 0 with
          | true => simp [remT, hlt]
          | false =>
            have : times - 1 ≠ 0 := by simpa using hq
            simp only [remT, hlt, if_false, if_true, Bool.false_eq_true]
            rw [if_neg (by omega)]
            omega
        · rw [hss]
          simp only
          have e : T0 - (sumW s.tw - times + (times - 1)) = T0 - sumW s.tw + 1 := by omega
          rw [e]
          refine ⟨by omega, fun _ => by omega, fun hm => by have := g6 hm rfl; have := w3 hm; omega, by omega, rfl, rfl, by simp only; omega, fun hh => ?_, fun hh => (by cases hh), fun _ hh => (by cases hh)⟩
          simpa using hh
end Go.Proofs.YtlnigpeoffaemaaDoor

/- StepsPlays, plain: a task and the document's go together. -/
namespace Go.Proofs.YtlnigpeoffaemaaDoor
open Go Go.Proofs.YtlnigpeoffaemaaDoor.Sx
set_option linter.unusedVariables false
/-- a machine's task, of either kind -/
def tkV (s : Mc) (t : Bool × Nat) : Tk := match t.1 with
  | true => (adAt s t.2).tk
  | false => (twAt s t.2).tk
/-- a pick, seen at its tasks -/
structure View (m : Nat) (ts : List (Bool × Nat)) (s s' : Mc) (i : Nat) : Prop where
  l : s'.l = (stepA (tkV s (tsAt ts i)) s.l).2.1
  ds : s'.ds = s.ds.set i (stepA (tkV s (tsAt ts i)) s.l).2.2
  own : tkV s' (tsAt ts i) = (stepA (tkV s (tsAt ts i)) s.l).1
  keep : ∀ j, j < m → j ≠ i → tkV s' (tsAt ts j) = tkV s (tsAt ts j)
theorem pick_view {n m : Nat} {ts : List (Bool × Nat)} {s : Mc} (h : McOk n m ts s) {i : Int} (hb : inP i m = true) (hd : s.ds.getD i.toNat false = false) : View m ts s (pickP m ts s i) i.toNat := by
  have hb' := (inP_iff _ _).1 hb
  have hi : i.toNat < m := by omega
  have hk := h.tk i.toNat hi
  have hinj : ∀ j, j < m → j ≠ i.toNat → tsAt ts j ≠ tsAt ts i.toNat := fun j hj hji e => hji (h.inj j i.toNat hj hi e)
  generalize hT : tsAt ts i.toNat = T at *
  obtain ⟨b, k⟩ := T
  cases b with
  | true =>
    simp only [tkOk] at hk
    have hp : pickP m ts s i = ⟨(stepAd (adAt s k) s.l).2.1, usesAd (adAt s k) s.l s.c, s.ad.set k (stepAd (adAt s k) s.l).1, s.tw, s.ds.set i.toNat (stepAd (adAt s k) s.l).2.2⟩ := by
      simp only [pickP, hb, hd, hT]
    rw [hp]
    have hA := stepAd_A (adAt s k) s.l
    refine ⟨?_, ?_, ?_, fun j hj hji => ?_⟩
    · simp only [hT, tkV, hA]
    · simp only [hT, tkV, hA]
    · simp only [hT, tkV, hA]
      show Ad.tk ((s.ad.set k (stepAd (adAt s k) s.l).1).getD k encAd.dflt) = _
      rw [Sx.getD_set_self hk.1]
    · have hne := hinj j hj hji
      generalize tsAt ts j = U at *
      obtain ⟨c, q⟩ := U
      cases c with
      | true =>
        have : k ≠ q := fun e => hne (by rw [e])
        show Ad.tk ((s.ad.set k _).getD q encAd.dflt) = Ad.tk (s.ad.getD q encAd.dflt)
        rw [Sx.getD_set_ne this]
      | false => rfl
  | false =>
    simp only [tkOk] at hk
    have hp : pickP m ts s i = ⟨(stepTw (twAt s k) s.l).2.1, usesTw (twAt s k) s.l s.c, s.ad, s.tw.set k (stepTw (twAt s k) s.l).1, s.ds.set i.toNat (stepTw (twAt s k) s.l).2.2⟩ := by
      simp only [pickP, hb, hd, hT]
    rw [hp]
    have hA := stepTw_A (twAt s k) s.l
    refine ⟨?_, ?_, ?_, fun j hj hji => ?_⟩
    · simp only [hT, tkV, hA]
    · simp only [hT, tkV, hA]
    · simp only [hT, tkV, hA]
      show Tw.tk ((s.tw.set k (stepTw (twAt s k) s.l).1).getD k encTw.dflt) = _
      rw [Sx.getD_set_self hk.1]
    · have hne := hinj j hj hji
      generalize tsAt ts j = U at *
      obtain ⟨c, q⟩ := U
      cases c with
      | true => rfl
      | false =>
        have : k ≠ q := fun e => hne (by rw [e])
        show Tw.tk ((s.tw.set k _).getD q encTw.dflt) = Tw.tk (s.tw.getD q encTw.dflt)
        rw [Sx.getD_set_ne this]
/-- the document's task -/
structure Rf where
  kind : Int
  at' : Int
  times : Int
  has : Bool
  v : Int
  done : Bool
def okR (r : Rf) (l : List Int) : Bool := !decide (r.times < 1) && inP r.at' l.length
/-- does it put something back -/
def putR (r : Rf) (l : List Int) : Bool := r.kind == 1 || l.getD r.at'.toNat 0 == r.v
/-- the task behind a step that is one -/
def rfP (r : Rf) (l : List Int) : Rf := match r.kind == 0 with
  | true => {r with times := r.times - 1, done := r.times - 1 == 0}
  | false => match r.has with
    | false => {r with has := true, v := l.getD r.at'.toNat 0, done := r.times == 0}
    | true => match putR r l with
      | true => {r with has := false, times := r.times - 1, done := r.times - 1 == 0}
      | false => {r with has := false, done := r.times == 0}
def rwP (r : Rf) (l : List Int) : List Int := match r.kind == 0 with
  | true => l.set r.at'.toNat (u32P (l.getD r.at'.toNat 0 + 1))
  | false => match r.has with
    | false => l
    | true => match putR r l with
      | true => l.set r.at'.toNat (u32P (r.v + 1))
      | false => l
def rStep (r : Rf) (l : List Int) : Rf × List Int := match okR r l with
  | true => (rfP r l, rwP r l)
  | false => ({r with done := true}, l)
structure Rel (t : Tk) (r : Rf) : Prop where
  kind : r.kind = t.kind
  k3 : t.kind ≤ 2
  at' : t.at' = r.at'
  times : t.times = r.times
  has : t.has = r.has
  v : t.v = r.v
  done : r.done = false
  le : t.times ≤ 20
  u32 : 0 ≤ t.v ∧ t.v < 4294967296
  add : t.kind = 0 → t.has = false
  inr : t.has = true → inP t.at' 3 = true
abbrev U32s (l : List Int) : Prop := ∀ x ∈ l, 0 ≤ x ∧ x < 4294967296
theorem u32s_getD {l : List Int} (h : U32s l) (i : Nat) : 0 ≤ l.getD i 0 ∧ l.getD i 0 < 4294967296 := by
  rw [List.getD_eq_getElem?_getD]
  cases hi : l[i]? with
  | none => simp
  | some x => simpa using h x (List.mem_of_getElem? hi)
theorem u32s_set {l : List Int} (h : U32s l) (i : Nat) {x : Int} (hx : 0 ≤ x ∧ x < 4294967296) : U32s (l.set i x) := by
  intro y hy
  rcases List.mem_or_eq_of_mem_set hy with h1 | rfl
  · exact h y h1
  · exact hx
structure Both (t : Tk) (r : Rf) (l : List Int) : Prop where
  done : (stepA t l).2.2 = (rStep r l).1.done
  words : (stepA t l).2.1 = (rStep r l).2
  u32 : U32s (rStep r l).2
  rel : (rStep r l).1.done = false → Rel (stepA t l).1 (rStep r l).1
theorem both_mk {t t' : Tk} {r r' : Rf} {l l' : List Int} {d : Bool} (hs : stepA t l = (t', l', d)) (hr : rStep r l = (r', l')) (hd : d = r'.done) (hu : U32s l') (hrel : r'.done = false → Rel t' r') : Both t r l := by
  refine ⟨?_, ?_, ?_, ?_⟩
  · rw [hs, hr]; exact hd
  · rw [hs, hr]
  · rw [hr]; exact hu
  · rw [hs, hr]; exact hrel
theorem both_step {t : Tk} {r : Rf} {l : List Int} (h : Rel t r) (hl : U32s l) (h3l : l.length = 3) : Both t r l := by
  obtain ⟨kind, at', times, has, v⟩ := t
  obtain ⟨kind2, at2, times2, has2, v2, done⟩ := r
  obtain ⟨h1, h2, h3, h4, h5, h6, h7, h8, h9, h10, h11⟩ := h
  simp only at h1 h2 h3 h4 h5 h6 h7 h8 h9 h10 h11
  subst h1 h3 h4 h5 h6 h7
  by_cases ht : times < 1
  · exact both_mk (t' := ⟨kind, at', times, has, v⟩) (r' := ⟨kind, at', times, has, v, true⟩) (l' := l) (d := true) (by simp [stepA, ht]) (by simp [rStep, okR, ht]) rfl hl (fun hh => by cases hh)
  · cases hb : inP at' l.length with
    | false =>
      have hr : rStep ⟨kind, at', times, has, v, false⟩ l = (⟨kind, at', times, has, v, true⟩, l) := by simp [rStep, okR, ht, hb]
      have hhas : has = false := by
        cases has with
        | false => rfl
        | true => have := h11 rfl; rw [h3l] at hb; rw [this] at hb; cases hb
      subst hhas
      match kind, h2 with
      | 0, _ => exact both_mk (t' := ⟨0, at', times - 1, false, v⟩) (d := true) (by simp [stepA, ht, hb]) hr rfl hl (fun hh => by cases hh)
      | 1, _ => exact both_mk (t' := ⟨1, at', times, true, 0⟩) (d := true) (by simp [stepA, ht, hb]) hr rfl hl (fun hh => by cases hh)
      | 2, _ => exact both_mk (t' := ⟨2, at', times, true, 0⟩) (d := true) (by simp [stepA, ht, hb]) hr rfl hl (fun hh => by cases hh)
    | true =>
      have hok : ∀ k : Int, okR ⟨k, at', times, has, v, false⟩ l = true := by intro k; simp [okR, ht, hb]
      have hg := u32s_getD hl at'.toNat
      have hinr : inP at' 3 = true := by rw [← h3l]; exact hb
      have t0 : (times == 0) = false := beq_eq_false_iff_ne.2 (by omega)
      have hw : ∀ x, u32P x = x % 4294967296 := w32_mod
      match kind, h2 with
      | 0, _ =>
        have := h10 rfl
        subst this
        exact both_mk (t' := ⟨0, at', times - 1, false, v⟩) (r' := ⟨0, at', times - 1, false, v, times - 1 == 0⟩) (l' := l.set at'.toNat ((l.getD at'.toNat 0 + 1) % 4294967296)) (d := times - 1 == 0)
          (by simp [-List.getD_eq_getElem?_getD, stepA, ht, hb, incP_ok]) (by simp [-List.getD_eq_getElem?_getD, rStep, hok, rfP, rwP, hw]) rfl (u32s_set hl _ (by omega))
          (fun hd => ⟨rfl, by simp, rfl, rfl, rfl, rfl, hd, by simp only; omega, h9, fun _ => rfl, fun hh => (by cases hh)⟩)
      | 1, _ =>
        cases has with
        | false =>
          exact both_mk (t' := ⟨1, at', times, true, l.getD at'.toNat 0⟩) (r' := ⟨1, at', times, true, l.getD at'.toNat 0, false⟩) (l' := l) (d := false)
            (by simp [-List.getD_eq_getElem?_getD, stepA, ht, hb]) (by simp [-List.getD_eq_getElem?_getD, rStep, hok, rfP, rwP, t0]) rfl hl
            (fun hd => ⟨rfl, by simp, rfl, rfl, rfl, rfl, rfl, h8, hg, fun hh => (by cases hh), fun _ => hinr⟩)
        | true =>
          exact both_mk (t' := ⟨1, at', times - 1, false, v⟩) (r' := ⟨1, at', times - 1, false, v, times - 1 == 0⟩) (l' := l.set at'.toNat ((v + 1) % 4294967296)) (d := times - 1 == 0)
            (by simp [-List.getD_eq_getElem?_getD, stepA, ht, hb, setP_ok, hw]) (by simp [-List.getD_eq_getElem?_getD, rStep, hok, rfP, rwP, putR, hw]) rfl (u32s_set hl _ (by omega))
            (fun hd => ⟨rfl, by simp, rfl, rfl, rfl, rfl, hd, by simp only; omega, h9, fun _ => rfl, fun hh => (by cases hh)⟩)
      | 2, _ =>
        cases has with
        | false =>
          exact both_mk (t' := ⟨2, at', times, true, l.getD at'.toNat 0⟩) (r' := ⟨2, at', times, true, l.getD at'.toNat 0, false⟩) (l' := l) (d := false)
            (by simp [-List.getD_eq_getElem?_getD, stepA, ht, hb]) (by simp [-List.getD_eq_getElem?_getD, rStep, hok, rfP, rwP, t0]) rfl hl
            (fun hd => ⟨rfl, by simp, rfl, rfl, rfl, rfl, rfl, h8, hg, fun hh => (by cases hh), fun _ => hinr⟩)
        | true =>
          cases hq : l.getD at'.toNat 0 == v with
          | true =>
            exact both_mk (t' := ⟨2, at', times - 1, false, v⟩) (r' := ⟨2, at', times - 1, false, v, times - 1 == 0⟩) (l' := l.set at'.toNat ((v + 1) % 4294967296)) (d := times - 1 == 0)
              (by simp only [stepA, ht, hb, decide_false, hq, Bool.or_true, setP_ok, hw]; simp) (by simp only [rStep, hok, rfP, rwP, putR, hq, Bool.or_true, hw]; rfl) rfl (u32s_set hl _ (by omega))
              (fun hd => ⟨rfl, by simp, rfl, rfl, rfl, rfl, hd, by simp only; omega, h9, fun _ => rfl, fun hh => (by cases hh)⟩)
          | false =>
            exact both_mk (t' := ⟨2, at', times, false, v⟩) (r' := ⟨2, at', times, false, v, false⟩) (l' := l) (d := false)
              (by simp only [stepA, ht, hb, decide_false, hq, t0]; rfl) (by simp only [rStep, hok, rfP, rwP, putR, hq, t0]; rfl) rfl hl
              (fun hd => ⟨rfl, by simp, rfl, rfl, rfl, rfl, rfl, h8, h9, fun _ => rfl, fun hh => (by cases hh)⟩)
end Go.Proofs.YtlnigpeoffaemaaDoor

/- StepsPlays: pieces and states. -/
namespace Go.Proofs.YtlnigpeoffaemaaDoor
open Go Go.Proofs.YtlnigpeoffaemaaDoor.Sx
set_option linter.unusedVariables false
/-- a task out of raw numbers -/
structure K3 where
  kind : Int
  at' : Int
  times : Int
  h : 0 ≤ kind ∧ kind ≤ 255
theorem k0_h : (0 : Int) ≤ 0 ∧ (0 : Int) ≤ 255 := by omega
def encK : Enc K3 := encOf 2 (fun k => [.int .u8 k.kind, .int .i64 k.at', .int .i64 k.times]) ⟨0, 0, 0, k0_h⟩ (fun _ => rfl) (by intro env env' x vs h; simpa [DenL, Den] using h)
def getI (k : IntKind) (s : SVal) : Option Int := match asI s with
  | some (k', x, _) => match decEq k' k with
    | .isTrue _ => some x
    | .isFalse _ => none
  | none => none
theorem getI_den {env : Env} {k : IntKind} {s : SVal} {x : Int} {v : Value} (h : getI k s = some x) (hd : Den env s v) : Den env (.int k x) v := by
  unfold getI at h
  split at h
  · rename_i k' y b h1
    split at h
    · rename_i h2 _
      subst h2
      simp only [Option.some.injEq] at h; subst h
      rw [asI_den h1 hd]; simp [Den]
    · cases h
  · cases h
theorem asB_sb {env : Env} {s : SVal} {x b : Bool} {v : Value} (h : asB s = some (x, b)) (hd : Den env s v) : Den env (.sb x) v := by
  rw [asB_den h hd]; simp [Den]
def encRf : Enc Rf where
  tag := .other
  shut := true
  sz := 6
  enc r := [.int .i64 r.kind, .int .i64 r.at', .int .i64 r.times, .sb r.has, .int .u32 r.v, .sb r.done]
  dec l := match l with
    | [a, b, c, n, t, d] => match getI .i64 a, getI .i64 b, getI .i64 c, asB n, getI .u32 t, asB d with
      | some a, some b, some c, some (n, _), some t, some (d, _) => some ⟨a, b, c, n, t, d⟩
      | _, _, _, _, _, _ => none
    | _ => none
  dflt := ⟨0, 0, 0, false, 0, false⟩
  pos := by omega
  len := fun _ => rfl
  ok := by
    intro env l x vs h hd
    split at h
    · split at h
      · rename_i h1 h2 h3 h4 h5 h6
        simp only [Option.some.injEq] at h; subst h
        obtain ⟨u1, k1, rfl, d1, u2, k2, rfl, d2, u3, k3, rfl, d3, u4, k4, rfl, d4, u5, k5, rfl, d5, u6, k6, rfl, d6, rfl⟩ := hd
        exact ⟨_, _, rfl, getI_den h1 d1, _, _, rfl, getI_den h2 d2, _, _, rfl, getI_den h3 d3, _, _, rfl, asB_sb h4 d4, _, _, rfl, getI_den h5 d5, _, _, rfl, asB_sb h6 d6, rfl⟩
      · cases h
    · cases h
  shutOk := fun _ => by intro env env' x vs h; simpa [DenL, Den] using h
/-- what comes in -/
structure InP where
  kinds : List K3
  cap : Nat
  picks : List Int
  cap' : Nat
abbrev kindsV (p : InP) (i : Nat) : SVal := .sli i (.c 0) 3 (.v p.kinds.length) (some (.v p.cap))
abbrev pickV (p : InP) (i : Nat) : SVal := .sli i (.c 0) 1 (.v p.picks.length) (some (.v p.cap'))
abbrev s0P (p : InP) : St := [lookB, .ro encK p.kinds, .ro (encInt .i64) p.picks]
noncomputable def b4 : Code := Tryd.f4.body.getD .skip
noncomputable def c4 : Code := restC 4 b4
noncomputable def reg4 : Code := lft (lft c4)
noncomputable def blk4 : Code := rgt (lft c4)
noncomputable def round4 : Code := lft (lft blk4)
noncomputable def tm4 : Code := lft round4
noncomputable def bb4 : Code := lft (lft (rgt round4))
noncomputable def inc4 : Code := rgt (rgt round4)
noncomputable def d4 : Code := rgt c4
noncomputable def e4 : Code := restC 3 d4
noncomputable def reg4b : Code := lft (lft e4)
noncomputable def blk4b : Code := rgt (lft e4)
noncomputable def round4b : Code := lft (lft blk4b)
noncomputable def tm4b : Code := lft round4b
noncomputable def bb4b : Code := lft (lft (rgt round4b))
noncomputable def inc4b : Code := rgt (rgt round4b)
noncomputable def end4 : Code := rgt e4
noncomputable def bP : Code := Tryd.f16.body.getD .skip
noncomputable def bS : Code := Tryd.f26.body.getD .skip
abbrev s4 (p : InP) (xs : List Ad) (ys : List Tw) (ts : List (Bool × Nat)) (rs : List Rf) : St :=
  famS 3 [0, 0, 0] 0 xs ys ++ [.ro encK p.kinds, .ro (encInt .i64) p.picks, .vec (encTs 3 4) ts 44, .vec encRf rs 47]
abbrev n4a : List Nat := [0, 1, 5, 7, 8]
abbrev n4p : List Nat := [0, 1, 5, 7, 8, 4]
abbrev n4b : List Nat := [0, 1, 5, 7, 8, 9]
abbrev n4c : List Nat := [0, 1, 5, 7, 8, 9, 10, 11]
abbrev v4 (p : InP) (m : Nat) : List SVal := [kindsV p 5, pickV p 6, .ptr 1 0, .sli 7 (.c 0) 1 (.v m) none, .sli 8 (.c 0) 6 (.v m) none]
abbrev rfA (r : Rf) : SVal := .agg [.int .i64 r.kind, .int .i64 r.at', .int .i64 r.times, .sb r.has, .int .u32 r.v, .sb r.done]
abbrev rfB (r : Rf) : Blk := .own [.c (.int .i64 r.kind), .c (.int .i64 r.at'), .c (.int .i64 r.times), .c (.sb r.has), .c (.int .u32 r.v), .c (.sb r.done)] 47
/-- in the second loop -/
abbrev sP (p : InP) (m : Nat) (ts : List (Bool × Nat)) (s : Mc) (rs : List Rf) (lw : List Int) : St :=
  mcS 3 m ts s ++ [.ro (encInt .i64) p.picks, .vec encRf rs 47, .vec (encInt .u32) lw 45]
abbrev n4e : List Nat := [1, 5, 8, 12, 13]
abbrev n4f : List Nat := [1, 5, 8, 12, 13, 14]
abbrev v4b (p : InP) (m n : Nat) : List SVal := [pickV p 8, .ptr 1 0, .sli 9 (.c 0) 6 (.v m) none, .ptr 5 0, .sli 10 (.c 0) 1 (.v n) none]
end Go.Proofs.YtlnigpeoffaemaaDoor

namespace Go.Proofs.YtlnigpeoffaemaaDoor
open Go Go.Proofs.YtlnigpeoffaemaaDoor.Sx
set_option linter.unusedVariables false
set_option maxRecDepth 100000 in
theorem x_pre {p : InP} : (execN cfgL 100 4 b4 ([kindsV p 1, pickV p 2] ++ List.replicate 143 .bad) (s0P p)).bind (canonK 0 [(0,0)] 145 n4p) =
 

 (.eq (some [Blk.ro encLook [PUnit.unit]] = some [Blk.ro encLook [PUnit.unit]])

 (.br (decide ((6 : Int) < (↑p.1.length : Int)))

 (.eq (some [Blk.ro encLook [PUnit.unit]] = some [Blk.ro encLook [PUnit.unit]])

 (.ret (.ret, [.sli 1 (.c 0) 3 (.v p.1.length) (some (.v p.2)), .sli 2 (.c 0) 1 (.v p.3.length) (some (.v p.4)), .ptr 3 0, .bad, .bad, .bl true], [.ro encLook [PUnit.unit], .ro encK p.1, .ro (encInt IntKind.i64) p.3, .own [.c (.sli 4 (.c 0) 1 (.c 3) (some (.c 3))), .c (.lit .i64 (0 : Int))] 67, .own [.c (.lit .u32 (0 : Int)), .c (.lit .u32 (0 : Int)), .c (.lit .u32 (0 : Int))] 45])))

 (.ret (.normal, [.sli 1 (.c 0) 3 (.v p.1.length) (some (.v p.2)), .sli 2 (.c 0) 1 (.v p.3.length) (some (.v p.4)), .ptr 3 0, .sli 5 (.c 0) 1 (.c 0) (some (.c 0)), .sli 6 (.c 0) 6 (.c 0) (some (.c 0)), .bl false], [.ro encLook [PUnit.unit], .ro encK p.1, .ro (encInt IntKind.i64) p.3, .own [.c (.sli 4 (.c 0) 1 (.c 3) (some (.c 3))), .c (.lit .i64 (0 : Int))] 67, .own [.c (.lit .u32 (0 : Int)), .c (.lit .u32 (0 : Int)), .c (.lit .u32 (0 : Int))] 45, .own [] 44, .own [] 47])))) := by kernel_rfl
set_option maxRecDepth 100000 in
theorem x_reg {p : InP} {xs : List Ad} {ys : List Tw} {ts : List (Bool × Nat)} {rs : List Rf} {m : Nat} : (exec cfgM 100 reg4 (fr 145 n4a (v4 p m)) (s4 p xs ys ts rs)).bind (canonK 7 [(0,0)] 145 n4b) =
 

 (.ret (.normal, [.sli 5 (.c 0) 3 (.v p.1.length) (some (.v p.2)), .sli 6 (.c 0) 1 (.v p.3.length) (some (.v p.4)), .ptr 1 0, .sli 7 (.c 0) 1 (.v m) none, .sli 8 (.c 0) 6 (.v m) none, .lit .i64 (0 : Int)], [.ro encLook [PUnit.unit], .own [.c (.sli 2 (.c 0) 1 (.v 3) (some (.v 3))), .c (.int .i64 (0 : Int))] 67, .own [.a (encInt IntKind.u32) 3 [(0 : Int), (0 : Int), (0 : Int)]] 45, .many encAd xs 86, .many encTw ys 78, .ro encK p.1, .ro (encInt IntKind.i64) p.3, .vec (encTs 3 4) ts 44, .vec encRf rs 47])) := by kernel_rfl
set_option maxRecDepth 100000 in
theorem x_tm {p : InP} {xs : List Ad} {ys : List Tw} {ts : List (Bool × Nat)} {rs : List Rf} {m i : Nat} : (exec cfgM 100 tm4 (fr 145 n4b (v4 p m ++ [.int .i64 (i : Nat)])) (s4 p xs ys ts rs)).bind (canonK 7 [(0,0)] 145 n4b) =
 

 (.br (decide ((↑i : Int) < (↑p.1.length : Int)))

 (.ret (.normal, [.sli 5 (.c 0) 3 (.v p.1.length) (some (.v p.2)), .sli 6 (.c 0) 1 (.v p.3.length) (some (.v p.4)), .ptr 1 0, .sli 7 (.c 0) 1 (.v m) none, .sli 8 (.c 0) 6 (.v m) none, .int .i64 (↑i : Int)], [.ro encLook [PUnit.unit], .own [.c (.sli 2 (.c 0) 1 (.v 3) (some (.v 3))), .c (.int .i64 (0 : Int))] 67, .own [.a (encInt IntKind.u32) 3 [(0 : Int), (0 : Int), (0 : Int)]] 45, .many encAd xs 86, .many encTw ys 78, .ro encK p.1, .ro (encInt IntKind.i64) p.3, .vec (encTs 3 4) ts 44, .vec encRf rs 47]))

 (.ret (.exit 0, [.sli 5 (.c 0) 3 (.v p.1.length) (some (.v p.2)), .sli 6 (.c 0) 1 (.v p.3.length) (some (.v p.4)), .ptr 1 0, .sli 7 (.c 0) 1 (.v m) none, .sli 8 (.c 0) 6 (.v m) none, .int .i64 (↑i : Int)], [.ro encLook [PUnit.unit], .own [.c (.sli 2 (.c 0) 1 (.v 3) (some (.v 3))), .c (.int .i64 (0 : Int))] 67, .own [.a (encInt IntKind.u32) 3 [(0 : Int), (0 : Int), (0 : Int)]] 45, .many encAd xs 86, .many encTw ys 78, .ro encK p.1, .ro (encInt IntKind.i64) p.3, .vec (encTs 3 4) ts 44, .vec encRf rs 47]))) := by kernel_rfl
set_option maxRecDepth 100000 in
theorem x_mk {p : InP} {xs : List Ad} {ys : List Tw} {ts : List (Bool × Nat)} {rs : List Rf} {m i : Nat} : (execN cfgM 100 1 bb4 (fr 145 n4b (v4 p m ++ [.int .i64 (i : Nat)])) (s4 p xs ys ts rs)).bind (canonK 7 [(0,0)] 145 n4c) =
 

 (.need (decide ((0 : Int) ≤ (↑i : Int)) && decide ((↑i : Int).toNat < p.1.length))

 (.need (decide ((↑i : Int).toNat < p.1.length))

 (.need (decide ((↑i : Int).toNat < p.1.length))

 (.need (decide ((↑i : Int).toNat < p.1.length))

 (.br (decide ((20 : Int) < (p.1.getD (↑i : Int).toNat { kind := (0 : Int), at' := (0 : Int), times := (0 : Int), h := k0_h }).times))

 (.need (inR .i64 (p.1.getD (↑i : Int).toNat { kind := (0 : Int), at' := (0 : Int), times := (0 : Int), h := k0_h }).kind)

 (.need (true)

 (.br ((p.1.getD (↑i : Int).toNat { kind := (0 : Int), at' := (0 : Int), times := (0 : Int), h := k0_h }).kind.tmod (3 : Int) == (0 : Int))
 (.eq (T.ret (SVal.int IntKind.i64 (p.1.getD (↑i : Int).toNat { kind := (0 : Int), at' := (0 : Int), times := (0 : Int), h := k0_h }).at') = T.ret (SVal.int IntKind.i64 (p.1.getD (↑i : Int).toNat { kind := (0 : Int), at' := (0 : Int), times := (0 : Int), h := k0_h }).at'))
 (.eq (T.ret (SVal.agg [SVal.int IntKind.i64 ((p.1.getD (↑i : Int).toNat { kind := (0 : Int), at' := (0 : Int), times := (0 : Int), h := k0_h }).kind.tmod (3 : Int)), SVal.int IntKind.i64 (p.1.getD (↑i : Int).toNat { kind := (0 : Int), at' := (0 : Int), times := (0 : Int), h := k0_h }).at', SVal.lit IntKind.i64 (20 : Int), SVal.bl false, SVal.lit IntKind.u32 (0 : Int), SVal.bl false]) = T.ret (SVal.agg [SVal.int IntKind.i64 ((p.1.getD (↑i : Int).toNat { kind := (0 : Int), at' := (0 : Int), times := (0 : Int), h := k0_h }).kind.tmod (3 : Int)), SVal.int IntKind.i64 (p.1.getD (↑i : Int).toNat { kind := (0 : Int), at' := (0 : Int), times := (0 : Int), h := k0_h }).at', SVal.lit IntKind.i64 (20 : Int), SVal.bl false, SVal.lit IntKind.u32 (0 : Int), SVal.bl false]))
 (.eq (T.ret (SVal.agg [SVal.int IntKind.i64 ((p.1.getD (↑i : Int).toNat { kind := (0 : Int), at' := (0 : Int), times := (0 : Int), h := k0_h }).kind.tmod (3 : Int)), SVal.int IntKind.i64 (p.1.getD (↑i : Int).toNat { kind := (0 : Int), at' := (0 : Int), times := (0 : Int), h := k0_h }).at', SVal.lit IntKind.i64 (20 : Int), SVal.bl false, SVal.lit IntKind.u32 (0 : Int), SVal.bl false]) = T.ret (SVal.agg [SVal.int IntKind.i64 ((p.1.getD (↑i : Int).toNat { kind := (0 : Int), at' := (0 : Int), times := (0 : Int), h := k0_h }).kind.tmod (3 : Int)), SVal.int IntKind.i64 (p.1.getD (↑i : Int).toNat { kind := (0 : Int), at' := (0 : Int), times := (0 : Int), h := k0_h }).at', SVal.lit IntKind.i64 (20 : Int), SVal.bl false, SVal.lit IntKind.u32 (0 : Int), SVal.bl false]))

 (.ret (.normal, [.sli 5 (.c 0) 3 (.v p.1.length) (some (.v p.2)), .sli 6 (.c 0) 1 (.v p.3.length) (some (.v p.4)), .ptr 1 0, .sli 7 (.c 0) 1 (.v m) none, .sli 8 (.c 0) 6 (.v m) none, .int .i64 (↑i : Int), .ifc 84 (.ptr 9 0), .ptr 10 0], [.ro encLook [PUnit.unit], .own [.c (.sli 2 (.c 0) 1 (.v 3) (some (.v 3))), .c (.int .i64 (0 : Int))] 67, .own [.a (encInt IntKind.u32) 3 [(0 : Int), (0 : Int), (0 : Int)]] 45, .many encAd xs 86, .many encTw ys 78, .ro encK p.1, .ro (encInt IntKind.i64) p.3, .vec (encTs 3 4) ts 44, .vec encRf rs 47, .own [.c (.int .i64 (p.1.getD (↑i : Int).toNat { kind := (0 : Int), at' := (0 : Int), times := (0 : Int), h := k0_h }).at'), .c (.lit .i64 (20 : Int))] 86, .own [.c (.int .i64 ((p.1.getD (↑i : Int).toNat { kind := (0 : Int), at' := (0 : Int), times := (0 : Int), h := k0_h }).kind.tmod (3 : Int))), .c (.int .i64 (p.1.getD (↑i : Int).toNat { kind := (0 : Int), at' := (0 : Int), times := (0 : Int), h := k0_h }).at'), .c (.lit .i64 (20 : Int)), .c (.bl false), .c (.lit .u32 (0 : Int)), .c (.bl false)] 47])))))

 (.br ((p.1.getD (↑i : Int).toNat { kind := (0 : Int), at' := (0 : Int), times := (0 : Int), h := k0_h }).kind.tmod (3 : Int) == (1 : Int))
 (.eq (T.ret (SVal.int IntKind.i64 (p.1.getD (↑i : Int).toNat { kind := (0 : Int), at' := (0 : Int), times := (0 : Int), h := k0_h }).at') = T.ret (SVal.int IntKind.i64 (p.1.getD (↑i : Int).toNat { kind := (0 : Int), at' := (0 : Int), times := (0 : Int), h := k0_h }).at'))
 (.eq (T.ret (SVal.agg [SVal.int IntKind.i64 ((p.1.getD (↑i : Int).toNat { kind := (0 : Int), at' := (0 : Int), times := (0 : Int), h := k0_h }).kind.tmod (3 : Int)), SVal.int IntKind.i64 (p.1.getD (↑i : Int).toNat { kind := (0 : Int), at' := (0 : Int), times := (0 : Int), h := k0_h }).at', SVal.lit IntKind.i64 (20 : Int), SVal.bl false, SVal.lit IntKind.u32 (0 : Int), SVal.bl false]) = T.ret (SVal.agg [SVal.int IntKind.i64 ((p.1.getD (↑i : Int).toNat { kind := (0 : Int), at' := (0 : Int), times := (0 : Int), h := k0_h }).kind.tmod (3 : Int)), SVal.int IntKind.i64 (p.1.getD (↑i : Int).toNat { kind := (0 : Int), at' := (0 : Int), times := (0 : Int), h := k0_h }).at', SVal.lit IntKind.i64 (20 : Int), SVal.bl false, SVal.lit IntKind.u32 (0 : Int), SVal.bl false]))
 (.eq (T.ret (SVal.agg [SVal.int IntKind.i64 ((p.1.getD (↑i : Int).toNat { kind := (0 : Int), at' := (0 : Int), times := (0 : Int), h := k0_h }).kind.tmod (3 : Int)), SVal.int IntKind.i64 (p.1.getD (↑i : Int).toNat { kind := (0 : Int), at' := (0 : Int), times := (0 : Int), h := k0_h }).at', SVal.lit IntKind.i64 (20 : Int), SVal.bl false, SVal.lit IntKind.u32 (0 : Int), SVal.bl false]) = T.ret (SVal.agg [SVal.int IntKind.i64 ((p.1.getD (↑i : Int).toNat { kind := (0 : Int), at' := (0 : Int), times := (0 : Int), h := k0_h }).kind.tmod (3 : Int)), SVal.int IntKind.i64 (p.1.getD (↑i : Int).toNat { kind := (0 : Int), at' := (0 : Int), times := (0 : Int), h := k0_h }).at', SVal.lit IntKind.i64 (20 : Int), SVal.bl false, SVal.lit IntKind.u32 (0 : Int), SVal.bl false]))

 (.ret (.normal, [.sli 5 (.c 0) 3 (.v p.1.length) (some (.v p.2)), .sli 6 (.c 0) 1 (.v p.3.length) (some (.v p.4)), .ptr 1 0, .sli 7 (.c 0) 1 (.v m) none, .sli 8 (.c 0) 6 (.v m) none, .int .i64 (↑i : Int), .ifc 74 (.ptr 9 0), .ptr 10 0], [.ro encLook [PUnit.unit], .own [.c (.sli 2 (.c 0) 1 (.v 3) (some (.v 3))), .c (.int .i64 (0 : Int))] 67, .own [.a (encInt IntKind.u32) 3 [(0 : Int), (0 : Int), (0 : Int)]] 45, .many encAd xs 86, .many encTw ys 78, .ro encK p.1, .ro (encInt IntKind.i64) p.3, .vec (encTs 3 4) ts 44, .vec encRf rs 47, .own [.c (.int .i64 (p.1.getD (↑i : Int).toNat { kind := (0 : Int), at' := (0 : Int), times := (0 : Int), h := k0_h }).at'), .c (.lit .i64 (20 : Int)), .c (.bl false), .c (.lit .u32 (0 : Int)), .c (SVal.fn (Fn.func 27) [] [])] 78, .own [.c (.int .i64 ((p.1.getD (↑i : Int).toNat { kind := (0 : Int), at' := (0 : Int), times := (0 : Int), h := k0_h }).kind.tmod (3 : Int))), .c (.int .i64 (p.1.getD (↑i : Int).toNat { kind := (0 : Int), at' := (0 : Int), times := (0 : Int), h := k0_h }).at'), .c (.lit .i64 (20 : Int)), .c (.bl false), .c (.lit .u32 (0 : Int)), .c (.bl false)] 47])))))
 (.eq (T.ret (SVal.int IntKind.i64 (p.1.getD (↑i : Int).toNat { kind := (0 : Int), at' := (0 : Int), times := (0 : Int), h := k0_h }).at') = T.ret (SVal.int IntKind.i64 (p.1.getD (↑i : Int).toNat { kind := (0 : Int), at' := (0 : Int), times := (0 : Int), h := k0_h }).at'))
 (.eq (T.ret (SVal.agg [SVal.int IntKind.i64 ((p.1.getD (↑i : Int).toNat { kind := (0 : Int), at' := (0 : Int), times := (0 : Int), h := k0_h }).kind.tmod (3 : Int)), SVal.int IntKind.i64 (p.1.getD (↑i : Int).toNat { kind := (0 : Int), at' := (0 : Int), times := (0 : Int), h := k0_h }).at', SVal.lit IntKind.i64 (20 : Int), SVal.bl false, SVal.lit IntKind.u32 (0 : Int), SVal.bl false]) = T.ret (SVal.agg [SVal.int IntKind.i64 ((p.1.getD (↑i : Int).toNat { kind := (0 : Int), at' := (0 : Int), times := (0 : Int), h := k0_h }).kind.tmod (3 : Int)), SVal.int IntKind.i64 (p.1.getD (↑i : Int).toNat { kind := (0 : Int), at' := (0 : Int), times := (0 : Int), h := k0_h }).at', SVal.lit IntKind.i64 (20 : Int), SVal.bl false, SVal.lit IntKind.u32 (0 : Int), SVal.bl false]))
 (.eq (T.ret (SVal.agg [SVal.int IntKind.i64 ((p.1.getD (↑i : Int).toNat { kind := (0 : Int), at' := (0 : Int), times := (0 : Int), h := k0_h }).kind.tmod (3 : Int)), SVal.int IntKind.i64 (p.1.getD (↑i : Int).toNat { kind := (0 : Int), at' := (0 : Int), times := (0 : Int), h := k0_h }).at', SVal.lit IntKind.i64 (20 : Int), SVal.bl false, SVal.lit IntKind.u32 (0 : Int), SVal.bl false]) = T.ret (SVal.agg [SVal.int IntKind.i64 ((p.1.getD (↑i : Int).toNat { kind := (0 : Int), at' := (0 : Int), times := (0 : Int), h := k0_h }).kind.tmod (3 : Int)), SVal.int IntKind.i64 (p.1.getD (↑i : Int).toNat { kind := (0 : Int), at' := (0 : Int), times := (0 : Int), h := k0_h }).at', SVal.lit IntKind.i64 (20 : Int), SVal.bl false, SVal.lit IntKind.u32 (0 : Int), SVal.bl false]))

 (.ret (.normal, [.sli 5 (.c 0) 3 (.v p.1.length) (some (.v p.2)), .sli 6 (.c 0) 1 (.v p.3.length) (some (.v p.4)), .ptr 1 0, .sli 7 (.c 0) 1 (.v m) none, .sli 8 (.c 0) 6 (.v m) none, .int .i64 (↑i : Int), .ifc 74 (.ptr 9 0), .ptr 10 0], [.ro encLook [PUnit.unit], .own [.c (.sli 2 (.c 0) 1 (.v 3) (some (.v 3))), .c (.int .i64 (0 : Int))] 67, .own [.a (encInt IntKind.u32) 3 [(0 : Int), (0 : Int), (0 : Int)]] 45, .many encAd xs 86, .many encTw ys 78, .ro encK p.1, .ro (encInt IntKind.i64) p.3, .vec (encTs 3 4) ts 44, .vec encRf rs 47, .own [.c (.int .i64 (p.1.getD (↑i : Int).toNat { kind := (0 : Int), at' := (0 : Int), times := (0 : Int), h := k0_h }).at'), .c (.lit .i64 (20 : Int)), .c (.bl false), .c (.lit .u32 (0 : Int)), .c (SVal.fn (Fn.func 30) [] [])] 78, .own [.c (.int .i64 ((p.1.getD (↑i : Int).toNat { kind := (0 : Int), at' := (0 : Int), times := (0 : Int), h := k0_h }).kind.tmod (3 : Int))), .c (.int .i64 (p.1.getD (↑i : Int).toNat { kind := (0 : Int), at' := (0 : Int), times := (0 : Int), h := k0_h }).at'), .c (.lit .i64 (20 : Int)), .c (.bl false), .c (.lit .u32 (0 : Int)), .c (.bl false)] 47])))))))))

 (.need (inR .i64 (p.1.getD (↑i : Int).toNat { kind := (0 : Int), at' := (0 : Int), times := (0 : Int), h := k0_h }).kind)

 (.need (true)

 (.br ((p.1.getD (↑i : Int).toNat { kind := (0 : Int), at' := (0 : Int), times := (0 : Int), h := k0_h }).kind.tmod (3 : Int) == (0 : Int))
 (.eq (T.ret (SVal.int IntKind.i64 (p.1.getD (↑i : Int).toNat { kind := (0 : Int), at' := (0 : Int), times := (0 : Int), h := k0_h }).at') = T.ret (SVal.int IntKind.i64 (p.1.getD (↑i : Int).toNat { kind := (0 : Int), at' := (0 : Int), times := (0 : Int), h := k0_h }).at'))
 (.eq (T.ret (SVal.int IntKind.i64 (p.1.getD (↑i : Int).toNat { kind := (0 : Int), at' := (0 : Int), times := (0 : Int), h := k0_h }).times) = T.ret (SVal.int IntKind.i64 (p.1.getD (↑i : Int).toNat { kind := (0 : Int), at' := (0 : Int), times := (0 : Int), h := k0_h }).times))
 (.eq (T.ret (SVal.agg [SVal.int IntKind.i64 ((p.1.getD (↑i : Int).toNat { kind := (0 : Int), at' := (0 : Int), times := (0 : Int), h := k0_h }).kind.tmod (3 : Int)), SVal.int IntKind.i64 (p.1.getD (↑i : Int).toNat { kind := (0 : Int), at' := (0 : Int), times := (0 : Int), h := k0_h }).at', SVal.int IntKind.i64 (p.1.getD (↑i : Int).toNat { kind := (0 : Int), at' := (0 : Int), times := (0 : Int), h := k0_h }).times, SVal.bl false, SVal.lit IntKind.u32 (0 : Int), SVal.bl false]) = T.ret (SVal.agg [SVal.int IntKind.i64 ((p.1.getD (↑i : Int).toNat { kind := (0 : Int), at' := (0 : Int), times := (0 : Int), h := k0_h }).kind.tmod (3 : Int)), SVal.int IntKind.i64 (p.1.getD (↑i : Int).toNat { kind := (0 : Int), at' := (0 : Int), times := (0 : Int), h := k0_h }).at', SVal.int IntKind.i64 (p.1.getD (↑i : Int).toNat { kind := (0 : Int), at' := (0 : Int), times := (0 : Int), h := k0_h }).times, SVal.bl false, SVal.lit IntKind.u32 (0 : Int), SVal.bl false]))
 (.eq (T.ret (SVal.agg [SVal.int IntKind.i64 ((p.1.getD (↑i : Int).toNat { kind := (0 : Int), at' := (0 : Int), times := (0 : Int), h := k0_h }).kind.tmod (3 : Int)), SVal.int IntKind.i64 (p.1.getD (↑i : Int).toNat { kind := (0 : Int), at' := (0 : Int), times := (0 : Int), h := k0_h }).at', SVal.int IntKind.i64 (p.1.getD (↑i : Int).toNat { kind := (0 : Int), at' := (0 : Int), times := (0 : Int), h := k0_h }).times, SVal.bl false, SVal.lit IntKind.u32 (0 : Int), SVal.bl false]) = T.ret (SVal.agg [SVal.int IntKind.i64 ((p.1.getD (↑i : Int).toNat { kind := (0 : Int), at' := (0 : Int), times := (0 : Int), h := k0_h }).kind.tmod (3 : Int)), SVal.int IntKind.i64 (p.1.getD (↑i : Int).toNat { kind := (0 : Int), at' := (0 : Int), times := (0 : Int), h := k0_h }).at', SVal.int IntKind.i64 (p.1.getD (↑i : Int).toNat { kind := (0 : Int), at' := (0 : Int), times := (0 : Int), h := k0_h }).times, SVal.bl false, SVal.lit IntKind.u32 (0 : Int), SVal.bl false]))

 (.ret (.normal, [.sli 5 (.c 0) 3 (.v p.1.length) (some (.v p.2)), .sli 6 (.c 0) 1 (.v p.3.length) (some (.v p.4)), .ptr 1 0, .sli 7 (.c 0) 1 (.v m) none, .sli 8 (.c 0) 6 (.v m) none, .int .i64 (↑i : Int), .ifc 84 (.ptr 9 0), .ptr 10 0], [.ro encLook [PUnit.unit], .own [.c (.sli 2 (.c 0) 1 (.v 3) (some (.v 3))), .c (.int .i64 (0 : Int))] 67, .own [.a (encInt IntKind.u32) 3 [(0 : Int), (0 : Int), (0 : Int)]] 45, .many encAd xs 86, .many encTw ys 78, .ro encK p.1, .ro (encInt IntKind.i64) p.3, .vec (encTs 3 4) ts 44, .vec encRf rs 47, .own [.c (.int .i64 (p.1.getD (↑i : Int).toNat { kind := (0 : Int), at' := (0 : Int), times := (0 : Int), h := k0_h }).at'), .c (.int .i64 (p.1.getD (↑i : Int).toNat { kind := (0 : Int), at' := (0 : Int), times := (0 : Int), h := k0_h }).times)] 86, .own [.c (.int .i64 ((p.1.getD (↑i : Int).toNat { kind := (0 : Int), at' := (0 : Int), times := (0 : Int), h := k0_h }).kind.tmod (3 : Int))), .c (.int .i64 (p.1.getD (↑i : Int).toNat { kind := (0 : Int), at' := (0 : Int), times := (0 : Int), h := k0_h }).at'), .c (.int .i64 (p.1.getD (↑i : Int).toNat { kind := (0 : Int), at' := (0 : Int), times := (0 : Int), h := k0_h }).times), .c (.bl false), .c (.lit .u32 (0 : Int)), .c (.bl false)] 47]))))))

 (.br ((p.1.getD (↑i : Int).toNat { kind := (0 : Int), at' := (0 : Int), times := (0 : Int), h := k0_h }).kind.tmod (3 : Int) == (1 : Int))
 (.eq (T.ret (SVal.int IntKind.i64 (p.1.getD (↑i : Int).toNat { kind := (0 : Int), at' := (0 : Int), times := (0 : Int), h := k0_h }).at') = T.ret (SVal.int IntKind.i64 (p.1.getD (↑i : Int).toNat { kind := (0 : Int), at' := (0 : Int), times := (0 : Int), h := k0_h }).at'))
 (.eq (T.ret (SVal.int IntKind.i64 (p.1.getD (↑i : Int).toNat { kind := (0 : Int), at' := (0 : Int), times := (0 : Int), h := k0_h }).times) = T.ret (SVal.int IntKind.i64 (p.1.getD (↑i : Int).toNat { kind := (0 : Int), at' := (0 : Int), times := (0 : Int), h := k0_h }).times))
 (.eq (T.ret (SVal.agg [SVal.int IntKind.i64 ((p.1.getD (↑i : Int).toNat { kind := (0 : Int), at' := (0 : Int), times := (0 : Int), h := k0_h }).kind.tmod (3 : Int)), SVal.int IntKind.i64 (p.1.getD (↑i : Int).toNat { kind := (0 : Int), at' := (0 : Int), times := (0 : Int), h := k0_h }).at', SVal.int IntKind.i64 (p.1.getD (↑i : Int).toNat { kind := (0 : Int), at' := (0 : Int), times := (0 : Int), h := k0_h }).times, SVal.bl false, SVal.lit IntKind.u32 (0 : Int), SVal.bl false]) = T.ret (SVal.agg [SVal.int IntKind.i64 ((p.1.getD (↑i : Int).toNat { kind := (0 : Int), at' := (0 : Int), times := (0 : Int), h := k0_h }).kind.tmod (3 : Int)), SVal.int IntKind.i64 (p.1.getD (↑i : Int).toNat { kind := (0 : Int), at' := (0 : Int), times := (0 : Int), h := k0_h }).at', SVal.int IntKind.i64 (p.1.getD (↑i : Int).toNat { kind := (0 : Int), at' := (0 : Int), times := (0 : Int), h := k0_h }).times, SVal.bl false, SVal.lit IntKind.u32 (0 : Int), SVal.bl false]))
 (.eq (T.ret (SVal.agg [SVal.int IntKind.i64 ((p.1.getD (↑i : Int).toNat { kind := (0 : Int), at' := (0 : Int), times := (0 : Int), h := k0_h }).kind.tmod (3 : Int)), SVal.int IntKind.i64 (p.1.getD (↑i : Int).toNat { kind := (0 : Int), at' := (0 : Int), times := (0 : Int), h := k0_h }).at', SVal.int IntKind.i64 (p.1.getD (↑i : Int).toNat { kind := (0 : Int), at' := (0 : Int), times := (0 : Int), h := k0_h }).times, SVal.bl false, SVal.lit IntKind.u32 (0 : Int), SVal.bl false]) = T.ret (SVal.agg [SVal.int IntKind.i64 ((p.1.getD (↑i : Int).toNat { kind := (0 : Int), at' := (0 : Int), times := (0 : Int), h := k0_h }).kind.tmod (3 : Int)), SVal.int IntKind.i64 (p.1.getD (↑i : Int).toNat { kind := (0 : Int), at' := (0 : Int), times := (0 : Int), h := k0_h }).at', SVal.int IntKind.i64 (p.1.getD (↑i : Int).toNat { kind := (0 : Int), at' := (0 : Int), times := (0 : Int), h := k0_h }).times, SVal.bl false, SVal.lit IntKind.u32 (0 : Int), SVal.bl false]))

 (.ret (.normal, [.sli 5 (.c 0) 3 (.v p.1.length) (some (.v p.2)), .sli 6 (.c 0) 1 (.v p.3.length) (some (.v p.4)), .ptr 1 0, .sli 7 (.c 0) 1 (.v m) none, .sli 8 (.c 0) 6 (.v m) none, .int .i64 (↑i : Int), .ifc 74 (.ptr 9 0), .ptr 10 0], [.ro encLook [PUnit.unit], .own [.c (.sli 2 (.c 0) 1 (.v 3) (some (.v 3))), .c (.int .i64 (0 : Int))] 67, .own [.a (encInt IntKind.u32) 3 [(0 : Int), (0 : Int), (0 : Int)]] 45, .many encAd xs 86, .many encTw ys 78, .ro encK p.1, .ro (encInt IntKind.i64) p.3, .vec (encTs 3 4) ts 44, .vec encRf rs 47, .own [.c (.int .i64 (p.1.getD (↑i : Int).toNat { kind := (0 : Int), at' := (0 : Int), times := (0 : Int), h := k0_h }).at'), .c (.int .i64 (p.1.getD (↑i : Int).toNat { kind := (0 : Int), at' := (0 : Int), times := (0 : Int), h := k0_h }).times), .c (.bl false), .c (.lit .u32 (0 : Int)), .c (SVal.fn (Fn.func 27) [] [])] 78, .own [.c (.int .i64 ((p.1.getD (↑i : Int).toNat { kind := (0 : Int), at' := (0 : Int), times := (0 : Int), h := k0_h }).kind.tmod (3 : Int))), .c (.int .i64 (p.1.getD (↑i : Int).toNat { kind := (0 : Int), at' := (0 : Int), times := (0 : Int), h := k0_h }).at'), .c (.int .i64 (p.1.getD (↑i : Int).toNat { kind := (0 : Int), at' := (0 : Int), times := (0 : Int), h := k0_h }).times), .c (.bl false), .c (.lit .u32 (0 : Int)), .c (.bl false)] 47]))))))
 (.eq (T.ret (SVal.int IntKind.i64 (p.1.getD (↑i : Int).toNat { kind := (0 : Int), at' := (0 : Int), times := (0 : Int), h := k0_h }).at') = T.ret (SVal.int IntKind.i64 (p.1.getD (↑i : Int).toNat { kind := (0 : Int), at' := (0 : Int), times := (0 : Int), h := k0_h }).at'))
 (.eq (T.ret (SVal.int IntKind.i64 (p.1.getD (↑i : Int).toNat { kind := (0 : Int), at' := (0 : Int), times := (0 : Int), h := k0_h }).times) = T.ret (SVal.int IntKind.i64 (p.1.getD (↑i : Int).toNat { kind := (0 : Int), at' := (0 : Int), times := (0 : Int), h := k0_h }).times))
 (.eq (T.ret (SVal.agg [SVal.int IntKind.i64 ((p.1.getD (↑i : Int).toNat { kind := (0 : Int), at' := (0 : Int), times := (0 : Int), h := k0_h }).kind.tmod (3 : Int)), SVal.int IntKind.i64 (p.1.getD (↑i : Int).toNat { kind := (0 : Int), at' := (0 : Int), times := (0 : Int), h := k0_h }).at', SVal.int IntKind.i64 (p.1.getD (↑i : Int).toNat { kind := (0 : Int), at' := (0 : Int), times := (0 : Int), h := k0_h }).times, SVal.bl false, SVal.lit IntKind.u32 (0 : Int), SVal.bl false]) = T.ret (SVal.agg [SVal.int IntKind.i64 ((p.1.getD (↑i : Int).toNat { kind := (0 : Int), at' := (0 : Int), times := (0 : Int), h := k0_h }).kind.tmod (3 : Int)), SVal.int IntKind.i64 (p.1.getD (↑i : Int).toNat { kind := (0 : Int), at' := (0 : Int), times := (0 : Int), h := k0_h }).at', SVal.int IntKind.i64 (p.1.getD (↑i : Int).toNat { kind := (0 : Int), at' := (0 : Int), times := (0 : Int), h := k0_h }).times, SVal.bl false, SVal.lit IntKind.u32 (0 : Int), SVal.bl false]))
 (.eq (T.ret (SVal.agg [SVal.int IntKind.i64 ((p.1.getD (↑i : Int).toNat { kind := (0 : Int), at' := (0 : Int), times := (0 : Int), h := k0_h }).kind.tmod (3 : Int)), SVal.int IntKind.i64 (p.1.getD (↑i : Int).toNat { kind := (0 : Int), at' := (0 : Int), times := (0 : Int), h := k0_h }).at', SVal.int IntKind.i64 (p.1.getD (↑i : Int).toNat { kind := (0 : Int), at' := (0 : Int), times := (0 : Int), h := k0_h }).times, SVal.bl false, SVal.lit IntKind.u32 (0 : Int), SVal.bl false]) = T.ret (SVal.agg [SVal.int IntKind.i64 ((p.1.getD (↑i : Int).toNat { kind := (0 : Int), at' := (0 : Int), times := (0 : Int), h := k0_h }).kind.tmod (3 : Int)), SVal.int IntKind.i64 (p.1.getD (↑i : Int).toNat { kind := (0 : Int), at' := (0 : Int), times := (0 : Int), h := k0_h }).at', SVal.int IntKind.i64 (p.1.getD (↑i : Int).toNat { kind := (0 : Int), at' := (0 : Int), times := (0 : Int), h := k0_h }).times, SVal.bl false, SVal.lit IntKind.u32 (0 : Int), SVal.bl false]))

 (.ret (.normal, [.sli 5 (.c 0) 3 (.v p.1.length) (some (.v p.2)), .sli 6 (.c 0) 1 (.v p.3.length) (some (.v p.4)), .ptr 1 0, .sli 7 (.c 0) 1 (.v m) none, .sli 8 (.c 0) 6 (.v m) none, .int .i64 (↑i : Int), .ifc 74 (.ptr 9 0), .ptr 10 0], [.ro encLook [PUnit.unit], .own [.c (.sli 2 (.c 0) 1 (.v 3) (some (.v 3))), .c (.int .i64 (0 : Int))] 67, .own [.a (encInt IntKind.u32) 3 [(0 : Int), (0 : Int), (0 : Int)]] 45, .many encAd xs 86, .many encTw ys 78, .ro encK p.1, .ro (encInt IntKind.i64) p.3, .vec (encTs 3 4) ts 44, .vec encRf rs 47, .own [.c (.int .i64 (p.1.getD (↑i : Int).toNat { kind := (0 : Int), at' := (0 : Int), times := (0 : Int), h := k0_h }).at'), .c (.int .i64 (p.1.getD (↑i : Int).toNat { kind := (0 : Int), at' := (0 : Int), times := (0 : Int), h := k0_h }).times), .c (.bl false), .c (.lit .u32 (0 : Int)), .c (SVal.fn (Fn.func 30) [] [])] 78, .own [.c (.int .i64 ((p.1.getD (↑i : Int).toNat { kind := (0 : Int), at' := (0 : Int), times := (0 : Int), h := k0_h }).kind.tmod (3 : Int))), .c (.int .i64 (p.1.getD (↑i : Int).toNat { kind := (0 : Int), at' := (0 : Int), times := (0 : Int), h := k0_h }).at'), .c (.int .i64 (p.1.getD (↑i : Int).toNat { kind := (0 : Int), at' := (0 : Int), times := (0 : Int), h := k0_h }).times), .c (.bl false), .c (.lit .u32 (0 : Int)), .c (.bl false)] 47]))))))))))))))) := by kernel_rfl
set_option maxRecDepth 100000 in
theorem x_inc {p : InP} {xs : List Ad} {ys : List Tw} {ts : List (Bool × Nat)} {rs : List Rf} {m i : Nat} : (exec cfgM 100 inc4 (fr 145 n4b (v4 p m ++ [.int .i64 (i : Nat)])) (s4 p xs ys ts rs)).bind (canonK 7 [(0,0)] 145 n4b) =
 

 (.need (inR .i64 ((↑i : Int) + (1 : Int)))

 (.ret (.normal, [.sli 5 (.c 0) 3 (.v p.1.length) (some (.v p.2)), .sli 6 (.c 0) 1 (.v p.3.length) (some (.v p.4)), .ptr 1 0, .sli 7 (.c 0) 1 (.v m) none, .sli 8 (.c 0) 6 (.v m) none, .int .i64 ((↑i : Int) + (1 : Int))], [.ro encLook [PUnit.unit], .own [.c (.sli 2 (.c 0) 1 (.v 3) (some (.v 3))), .c (.int .i64 (0 : Int))] 67, .own [.a (encInt IntKind.u32) 3 [(0 : Int), (0 : Int), (0 : Int)]] 45, .many encAd xs 86, .many encTw ys 78, .ro encK p.1, .ro (encInt IntKind.i64) p.3, .vec (encTs 3 4) ts 44, .vec encRf rs 47]))) := by kernel_rfl
set_option maxRecDepth 100000 in
theorem x_new {p : InP} {xs : List Ad} {ys : List Tw} {ts : List (Bool × Nat)} {rs : List Rf} {i : Nat} : (execN cfgL 100 3 d4 (fr 145 n4b (v4 p ts.length ++ [.int .i64 (i : Nat)])) (s4 p xs ys ts rs)).bind (canonK 7 [(0,0)] 145 n4e) =
 

 (.eq (anyP cfgN 100 11 [.ptr 1 0, .sli 7 (.c 0) 1 (.v ts.length) none] [.ro encLook [PUnit.unit], .own [.c (.sli 2 (.c 0) 1 (.v 3) (some (.v 3))), .c (.int .i64 (0 : Int))] 67, .own [.a (encInt IntKind.u32) 3 [(0 : Int), (0 : Int), (0 : Int)]] 45, .many encAd xs 86, .many encTw ys 78, .ro encK p.1, .ro (encInt IntKind.i64) p.3, .vec (encTs 3 4) ts 44, .vec encRf rs 47])

 (.need (decide (0 + ts.length ≤ ts.length))

 (.need (decide (0 + ts.length ≤ ts.length))

 (.need (roomy (List.take ts.length (List.drop 0 ts)).length 16)

 (.need (decide ((0 : Int) ≤ (↑ts.length : Int)))

 (.need (decide ((↑ts.length : Int) * (1 : Int) ≤ (140737488355328 : Int)))

 (.need (decide ((↑ts.length : Int) ≤ (4611686018427387904 : Int)))

 (.ret (.normal, [.sli 6 (.c 0) 1 (.v p.3.length) (some (.v p.4)), .ptr 1 0, .sli 7 (.c 0) 6 (.v ts.length) none, .ptr 8 0, .sli 11 (.c 0) 1 (.c 3) (some (.c 3))], [.ro encLook [PUnit.unit], .own [.c (.sli 2 (.c 0) 1 (.v 3) (some (.v 3))), .c (.int .i64 (0 : Int))] 67, .own [.a (encInt IntKind.u32) 3 [(0 : Int), (0 : Int), (0 : Int)]] 45, .many encAd xs 86, .many encTw ys 78, .ro encK p.1, .ro (encInt IntKind.i64) p.3, .vec encRf rs 47, .own [.c (.ptr 1 0), .c (.sli 9 (.c 0) 1 (.v (List.take ts.length (List.drop 0 ts)).length) none), .c (.sli 10 (.c 0) 1 (.v (↑ts.length : Int).toNat) (some (.v (↑ts.length : Int).toNat)))] 70, .vec (encTs 3 4) (List.take ts.length (List.drop 0 ts)) 44, .own [.a encBool (↑ts.length : Int).toNat (List.replicate (↑ts.length : Int).toNat false)] 4, .own [.c (.lit .u32 (0 : Int)), .c (.lit .u32 (0 : Int)), .c (.lit .u32 (0 : Int))] 45]))))))))) := by kernel_rfl
set_option maxRecDepth 100000 in
theorem x_regb {p : InP} {m : Nat} {ts : List (Bool × Nat)} {s : Mc} {rs : List Rf} {lw : List Int} {n : Nat} : (exec cfgM 100 reg4b (fr 145 n4e (v4b p m n)) (sP p m ts s rs lw)).bind (canonK 9 [(0,0)] 145 n4f) =
 

 (.ret (.normal, [.sli 8 (.c 0) 1 (.v p.3.length) (some (.v p.4)), .ptr 1 0, .sli 9 (.c 0) 6 (.v m) none, .ptr 5 0, .sli 10 (.c 0) 1 (.v n) none, .lit .i64 (0 : Int)], [.ro encLook [PUnit.unit], .own [.c (.sli 2 (.c 0) 1 (.v 3) (some (.v 3))), .c (.int .i64 s.2)] 67, .own [.a (encInt IntKind.u32) 3 s.1] 45, .many encAd s.3 86, .many encTw s.4 78, .own [.c (.ptr 1 0), .c (.sli 6 (.c 0) 1 (.v m) none), .c (.sli 7 (.c 0) 1 (.v m) (some (.v m)))] 70, .vec (encTs 3 4) ts 44, .own [.a encBool m s.5] 4, .ro (encInt IntKind.i64) p.3, .vec encRf rs 47, .vec (encInt IntKind.u32) lw 45])) := by kernel_rfl
set_option maxRecDepth 100000 in
theorem x_tmb {p : InP} {m : Nat} {ts : List (Bool × Nat)} {s : Mc} {rs : List Rf} {lw : List Int} {i : Nat} : (exec cfgM 100 tm4b (fr 145 n4f (v4b p m lw.length ++ [.int .i64 (i : Nat)])) (sP p m ts s rs lw)).bind (canonK 9 [(0,0)] 145 n4f) =
 

 (.br (decide ((↑i : Int) < (↑p.3.length : Int)))

 (.br (decide ((↑i : Int) < (80 : Int)))

 (.ret (.normal, [.sli 8 (.c 0) 1 (.v p.3.length) (some (.v p.4)), .ptr 1 0, .sli 9 (.c 0) 6 (.v m) none, .ptr 5 0, .sli 10 (.c 0) 1 (.v lw.length) none, .int .i64 (↑i : Int)], [.ro encLook [PUnit.unit], .own [.c (.sli 2 (.c 0) 1 (.v 3) (some (.v 3))), .c (.int .i64 s.2)] 67, .own [.a (encInt IntKind.u32) 3 s.1] 45, .many encAd s.3 86, .many encTw s.4 78, .own [.c (.ptr 1 0), .c (.sli 6 (.c 0) 1 (.v m) none), .c (.sli 7 (.c 0) 1 (.v m) (some (.v m)))] 70, .vec (encTs 3 4) ts 44, .own [.a encBool m s.5] 4, .ro (encInt IntKind.i64) p.3, .vec encRf rs 47, .vec (encInt IntKind.u32) lw 45]))

 (.ret (.exit 2, [.sli 8 (.c 0) 1 (.v p.3.length) (some (.v p.4)), .ptr 1 0, .sli 9 (.c 0) 6 (.v m) none, .ptr 5 0, .sli 10 (.c 0) 1 (.v lw.length) none, .int .i64 (↑i : Int)], [.ro encLook [PUnit.unit], .own [.c (.sli 2 (.c 0) 1 (.v 3) (some (.v 3))), .c (.int .i64 s.2)] 67, .own [.a (encInt IntKind.u32) 3 s.1] 45, .many encAd s.3 86, .many encTw s.4 78, .own [.c (.ptr 1 0), .c (.sli 6 (.c 0) 1 (.v m) none), .c (.sli 7 (.c 0) 1 (.v m) (some (.v m)))] 70, .vec (encTs 3 4) ts 44, .own [.a encBool m s.5] 4, .ro (encInt IntKind.i64) p.3, .vec encRf rs 47, .vec (encInt IntKind.u32) lw 45])))

 (.ret (.exit 2, [.sli 8 (.c 0) 1 (.v p.3.length) (some (.v p.4)), .ptr 1 0, .sli 9 (.c 0) 6 (.v m) none, .ptr 5 0, .sli 10 (.c 0) 1 (.v lw.length) none, .int .i64 (↑i : Int)], [.ro encLook [PUnit.unit], .own [.c (.sli 2 (.c 0) 1 (.v 3) (some (.v 3))), .c (.int .i64 s.2)] 67, .own [.a (encInt IntKind.u32) 3 s.1] 45, .many encAd s.3 86, .many encTw s.4 78, .own [.c (.ptr 1 0), .c (.sli 6 (.c 0) 1 (.v m) none), .c (.sli 7 (.c 0) 1 (.v m) (some (.v m)))] 70, .vec (encTs 3 4) ts 44, .own [.a encBool m s.5] 4, .ro (encInt IntKind.i64) p.3, .vec encRf rs 47, .vec (encInt IntKind.u32) lw 45]))) := by kernel_rfl
set_option maxRecDepth 100000 in
theorem x_incb {p : InP} {m : Nat} {ts : List (Bool × Nat)} {s : Mc} {rs : List Rf} {lw : List Int} {i : Nat} : (exec cfgM 100 inc4b (fr 145 n4f (v4b p m lw.length ++ [.int .i64 (i : Nat)])) (sP p m ts s rs lw)).bind (canonK 9 [(0,0)] 145 n4f) =
 

 (.need (inR .i64 ((↑i : Int) + (1 : Int)))

 (.ret (.normal, [.sli 8 (.c 0) 1 (.v p.3.length) (some (.v p.4)), .ptr 1 0, .sli 9 (.c 0) 6 (.v m) none, .ptr 5 0, .sli 10 (.c 0) 1 (.v lw.length) none, .int .i64 ((↑i : Int) + (1 : Int))], [.ro encLook [PUnit.unit], .own [.c (.sli 2 (.c 0) 1 (.v 3) (some (.v 3))), .c (.int .i64 s.2)] 67, .own [.a (encInt IntKind.u32) 3 s.1] 45, .many encAd s.3 86, .many encTw s.4 78, .own [.c (.ptr 1 0), .c (.sli 6 (.c 0) 1 (.v m) none), .c (.sli 7 (.c 0) 1 (.v m) (some (.v m)))] 70, .vec (encTs 3 4) ts 44, .own [.a encBool m s.5] 4, .ro (encInt IntKind.i64) p.3, .vec encRf rs 47, .vec (encInt IntKind.u32) lw 45]))) := by kernel_rfl
set_option maxRecDepth 100000 in
theorem x_endb {p : InP} {m : Nat} {ts : List (Bool × Nat)} {s : Mc} {rs : List Rf} {lw : List Int} {i : Nat} : (exec cfgM 100 end4 (fr 145 n4f (v4b p m lw.length ++ [.int .i64 (i : Nat)])) (sP p m ts s rs lw)).bind (canonK 9 [(0,0)] 145 [4]) =
 

 (.ret (.ret, [.bl true], [.ro encLook [PUnit.unit], .own [.c (.sli 2 (.c 0) 1 (.v 3) (some (.v 3))), .c (.int .i64 s.2)] 67, .own [.a (encInt IntKind.u32) 3 s.1] 45, .many encAd s.3 86, .many encTw s.4 78, .own [.c (.ptr 1 0), .c (.sli 6 (.c 0) 1 (.v m) none), .c (.sli 7 (.c 0) 1 (.v m) (some (.v m)))] 70, .vec (encTs 3 4) ts 44, .own [.a encBool m s.5] 4, .ro (encInt IntKind.i64) p.3])) := by kernel_rfl
end Go.Proofs.YtlnigpeoffaemaaDoor

/- StepsPlays: the region that appends to both rows. -/
namespace Go.Proofs.YtlnigpeoffaemaaDoor
open Go Go.Proofs.YtlnigpeoffaemaaDoor.Sx
set_option linter.unusedVariables false
def opsOf : Code → Array Oper
  | .region _ ops _ => ops
  | _ => #[]
def idOf : Code → Nat
  | .region i _ _ => i
  | _ => 0
noncomputable def app4 : Array Oper := opsOf (restC 1 bb4)
theorem app4_eq : restC 1 bb4 = .region (idOf (restC 1 bb4)) app4 true := by kernel_rfl
end Go.Proofs.YtlnigpeoffaemaaDoor

/- StepsPlays: the region that appends to both rows, each order gone. -/
namespace Go.Proofs.YtlnigpeoffaemaaDoor
open Go Go.Proofs.YtlnigpeoffaemaaDoor.Sx
set_option linter.unusedVariables false
def needA (m : Nat) (ts : List (Bool × Nat)) (rs : List Rf) : List Bool := [true, decide (m = ts.length), roomy (ts.length + 1) 16, true, decide (m = rs.length), roomy (rs.length + 1) 40]
def needs6 (m : Nat) (ts : List (Bool × Nat)) (rs : List Rf) : List Bool := needA m ts rs ++ (needA m ts rs ++ (needA m ts rs ++ (needA m ts rs ++ (needA m ts rs ++ needA m ts rs))))
set_option maxRecDepth 100000 in
theorem x_appA {p : InP} {xs : List Ad} {ys : List Tw} {ts : List (Bool × Nat)} {rs : List Rf} {m i k : Nat} {r : Rf} :
    (anyC cfgM 100 app4 7 145 n4b (fr 145 n4c (v4 p m ++ [.int .i64 (i : Nat), .ifc 84 (.pto 3 k 0), .ptr 10 0])) (s4 p xs ys ts rs ++ [.gone, rfB r])).line =
      some (needs6 m ts rs, True, List.replicate 6 (.ret (.normal, v4 p (m + 1) ++ [.int .i64 (i : Nat)], s4 p xs ys (ts ++ [(true, k)]) (rs ++ [r])))) := by kernel_rfl
set_option maxRecDepth 100000 in
theorem x_appT {p : InP} {xs : List Ad} {ys : List Tw} {ts : List (Bool × Nat)} {rs : List Rf} {m i k : Nat} {r : Rf} :
    (anyC cfgM 100 app4 7 145 n4b (fr 145 n4c (v4 p m ++ [.int .i64 (i : Nat), .ifc 74 (.pto 4 k 0), .ptr 10 0])) (s4 p xs ys ts rs ++ [.gone, rfB r])).line =
      some (needs6 m ts rs, True, List.replicate 6 (.ret (.normal, v4 p (m + 1) ++ [.int .i64 (i : Nat)], s4 p xs ys (ts ++ [(false, k)]) (rs ++ [r])))) := by kernel_rfl
end Go.Proofs.YtlnigpeoffaemaaDoor

/- StepsPlays, plain: what the making of tasks leaves. -/
namespace Go.Proofs.YtlnigpeoffaemaaDoor
open Go Go.Proofs.YtlnigpeoffaemaaDoor.Sx
set_option linter.unusedVariables false
abbrev MadeT := List Ad × List Tw × List (Bool × Nat)
def cutT (x : Int) : Int := if 20 < x then 20 else x
def kd (k : K3) : Int := k.kind.tmod 3
def stepB (S : MadeT) (k : K3) : MadeT := match kd k == 0 with
  | true => (S.1 ++ [⟨k.at', cutT k.times⟩], S.2.1, S.2.2 ++ [(true, S.1.length)])
  | false => (S.1, S.2.1 ++ [⟨k.at', cutT k.times, false, 0, !(kd k == 1)⟩], S.2.2 ++ [(false, S.2.1.length)])
def mkR (k : K3) : Rf := ⟨kd k, k.at', cutT k.times, false, 0, false⟩
def made (p : InP) (i : Nat) : MadeT := (p.kinds.take i).foldl stepB ([], [], [])
def rsP (p : InP) (i : Nat) : List Rf := (p.kinds.take i).map mkR
theorem take_succK {p : InP} {i : Nat} (h : i < p.kinds.length) : p.kinds.take (i + 1) = p.kinds.take i ++ [p.kinds.getD i encK.dflt] := by
  rw [List.take_add_one]
  simp [List.getD_eq_getElem?_getD, h]
theorem made_succ {p : InP} {i : Nat} (h : i < p.kinds.length) : made p (i + 1) = stepB (made p i) (p.kinds.getD i encK.dflt) := by
  unfold made
  rw [take_succK h, List.foldl_append]; rfl
theorem rsP_succ {p : InP} {i : Nat} (h : i < p.kinds.length) : rsP p (i + 1) = rsP p i ++ [mkR (p.kinds.getD i encK.dflt)] := by
  unfold rsP
  rw [take_succK h, List.map_append]; rfl
def tkL (xs : List Ad) (ys : List Tw) (t : Bool × Nat) : Tk := match t.1 with
  | true => (xs.getD t.2 encAd.dflt).tk
  | false => (ys.getD t.2 encTw.dflt).tk
structure MadeOk (i : Nat) (S : MadeT) (rs : List Rf) : Prop where
  lt : S.2.2.length = i
  lr : rs.length = i
  tk : ∀ j, j < i → match (tsAt S.2.2 j).1 with | true => (tsAt S.2.2 j).2 < S.1.length | false => (tsAt S.2.2 j).2 < S.2.1.length
  inj : ∀ j k, j < i → k < i → tsAt S.2.2 j = tsAt S.2.2 k → j = k
  rel : ∀ j, j < i → Rel (tkL S.1 S.2.1 (tsAt S.2.2 j)) (rs.getD j encRf.dflt)
theorem getD_app_lt {α : Type} {l : List α} {x : α} {i : Nat} (h : i < l.length) (d : α) : (l ++ [x]).getD i d = l.getD i d := by
  simp [List.getD_eq_getElem?_getD, List.getElem?_append_left h]
theorem getD_app_eq {α : Type} {l : List α} {x : α} (d : α) : (l ++ [x]).getD l.length d = x := by
  simp [List.getD_eq_getElem?_getD]
theorem kd_3 (k : K3) : 0 ≤ kd k ∧ kd k ≤ 2 := by
  have := k.h
  unfold kd
  rw [Int.tmod_eq_emod_of_nonneg this.1]; omega
theorem made_ok {i : Nat} {S : MadeT} {rs : List Rf} (h : MadeOk i S rs) (k : K3) : MadeOk (i + 1) (stepB S k) (rs ++ [mkR k]) := by
  obtain ⟨h1, h2, h3, h4, h5⟩ := h
  obtain ⟨xs, ys, ts⟩ := S
  simp only at h1 h3 h4 h5
  have hk := kd_3 k
  have hcut : cutT k.times ≤ 20 := by unfold cutT; split <;> omega
  have hro : ∀ j, j < i → (rs ++ [mkR k]).getD j encRf.dflt = rs.getD j encRf.dflt := fun j hj => getD_app_lt (by omega) _
  have hrn : (rs ++ [mkR k]).getD i encRf.dflt = mkR k := by rw [← h2]; exact getD_app_eq _
  cases hq : kd k == 0 with
  | true =>
    have hq' := beq_iff_eq.1 hq
    have hS : stepB (xs, ys, ts) k = (xs ++ [⟨k.at', cutT k.times⟩], ys, ts ++ [(true, xs.length)]) := by simp only [stepB, hq]
    rw [hS]
    have hto : ∀ j, j < i → tsAt (ts ++ [(true, xs.length)]) j = tsAt ts j := fun j hj => getD_app_lt (by omega) _
    have htn : tsAt (ts ++ [(true, xs.length)]) i = (true, xs.length) := by rw [← h1]; exact getD_app_eq _
    have hvo : ∀ j, j < i → tkL (xs ++ [⟨k.at', cutT k.times⟩]) ys (tsAt ts j) = tkL xs ys (tsAt ts j) := by
      intro j hj
      have h6 := h3 j hj
      unfold tkL
      cases hb : (tsAt ts j).1 with
      | true => rw [hb] at h6; simp only at h6 ⊢; rw [getD_app_lt h6]
      | false => rfl
    refine ⟨by simp [h1], by simp [h2], fun j hj => ?_, fun j q hj hq2 e => ?_, fun j hj => ?_⟩
    · by_cases hji : j = i
      · subst hji; simp only [htn]; simp
      · have h6 := h3 j (by omega)
        simp only [hto j (by omega)]
        cases hb : (tsAt ts j).1 with
        | true => rw [hb] at h6; simp only at h6 ⊢; rw [List.length_append]; exact Nat.lt_of_lt_of_le h6 (Nat.le_add_right _ _)
        | false => rw [hb] at h6; exact h6
    · by_cases hji : j = i
      · by_cases hqi : q = i
        · omega
        · rw [hji, htn, hto q (by omega)] at e
          have h6 := h3 q (by omega)
          rw [← e] at h6
          exact absurd h6 (Nat.lt_irrefl _)
      · by_cases hqi : q = i
        · rw [hqi, htn, hto j (by omega)] at e
          have h6 := h3 j (by omega)
          rw [e] at h6
          exact absurd h6 (Nat.lt_irrefl _)
        · simp only [hto j (by omega), hto q (by omega)] at e
          exact h4 j q (by omega) (by omega) e
    · by_cases hji : j = i
      · subst hji
        simp only [htn, hrn]
        have : tkL (xs ++ [⟨k.at', cutT k.times⟩]) ys (true, xs.length) = ⟨0, k.at', cutT k.times, false, 0⟩ := by
          unfold tkL; simp only; rw [getD_app_eq]; rfl
        rw [this]
        exact ⟨hq', by simp, rfl, rfl, rfl, rfl, rfl, hcut, by simp, fun _ => rfl, fun hh => by cases hh⟩
      · simp only [hto j (by omega), hro j (by omega), hvo j (by omega)]
        exact h5 j (by omega)
  | false =>
    have hq' := beq_eq_false_iff_ne.1 hq
    have hS : stepB (xs, ys, ts) k = (xs, ys ++ [⟨k.at', cutT k.times, false, 0, !(kd k == 1)⟩], ts ++ [(false, ys.length)]) := by simp only [stepB, hq]
    rw [hS]
    have hto : ∀ j, j < i → tsAt (ts ++ [(false, ys.length)]) j = tsAt ts j := fun j hj => getD_app_lt (by omega) _
    have htn : tsAt (ts ++ [(false, ys.length)]) i = (false, ys.length) := by rw [← h1]; exact getD_app_eq _
    have hvo : ∀ j, j < i → tkL xs (ys ++ [⟨k.at', cutT k.times, false, 0, !(kd k == 1)⟩]) (tsAt ts j) = tkL xs ys (tsAt ts j) := by
      intro j hj
      have h6 := h3 j hj
      unfold tkL
      cases hb : (tsAt ts j).1 with
      | true => rfl
      | false => rw [hb] at h6; simp only at h6 ⊢; rw [getD_app_lt h6]
    refine ⟨by simp [h1], by simp [h2], fun j hj => ?_, fun j q hj hq2 e => ?_, fun j hj => ?_⟩
    · by_cases hji : j = i
      · subst hji; simp only [htn]; simp
      · have h6 := h3 j (by omega)
        simp only [hto j (by omega)]
        cases hb : (tsAt ts j).1 with
        | true => rw [hb] at h6; exact h6
        | false => rw [hb] at h6; simp only at h6 ⊢; rw [List.length_append]; exact Nat.lt_of_lt_of_le h6 (Nat.le_add_right _ _)
    · by_cases hji : j = i
      · by_cases hqi : q = i
        · omega
        · rw [hji, htn, hto q (by omega)] at e
          have h6 := h3 q (by omega)
          rw [← e] at h6
          exact absurd h6 (Nat.lt_irrefl _)
      · by_cases hqi : q = i
        · rw [hqi, htn, hto j (by omega)] at e
          have h6 := h3 j (by omega)
          rw [e] at h6
          exact absurd h6 (Nat.lt_irrefl _)
        · simp only [hto j (by omega), hto q (by omega)] at e
          exact h4 j q (by omega) (by omega) e
    · by_cases hji : j = i
      · subst hji
        simp only [htn, hrn]
        have : tkL xs (ys ++ [⟨k.at', cutT k.times, false, 0, !(kd k == 1)⟩]) (false, ys.length) = ⟨match (!(kd k == 1)) with | true => 2 | false => 1, k.at', cutT k.times, false, 0⟩ := by
          unfold tkL; simp only; rw [getD_app_eq]; rfl
        rw [this]
        cases h1' : kd k == 1 with
        | true =>
          exact ⟨beq_iff_eq.1 h1', by simp, rfl, rfl, rfl, rfl, rfl, hcut, by simp, fun _ => rfl, fun hh => by cases hh⟩
        | false =>
          have := beq_eq_false_iff_ne.1 h1'
          have h2' : kd k = 2 := by omega
          exact ⟨h2', by simp, rfl, rfl, rfl, rfl, rfl, hcut, by simp, fun _ => rfl, fun hh => by cases hh⟩
      · simp only [hto j (by omega), hro j (by omega), hvo j (by omega)]
        exact h5 j (by omega)
theorem made_all {p : InP} : ∀ i, i ≤ p.kinds.length → MadeOk i (made p i) (rsP p i)
  | 0, _ => ⟨rfl, rfl, fun j hj => by omega, fun j k hj => by omega, fun j hj => by omega⟩
  | i + 1, h => by
    rw [made_succ (by omega), rsP_succ (by omega)]
    exact made_ok (made_all i (by omega)) _
end Go.Proofs.YtlnigpeoffaemaaDoor

/- StepsPlays: the making of both rows. -/
namespace Go.Proofs.YtlnigpeoffaemaaDoor
open Go Go.Proofs.YtlnigpeoffaemaaDoor.Sx
set_option linter.unusedVariables false
abbrev Q4 (w0 : From) : Exit → Act → World → Prop := bodyPost Tryd.prog Tryd.f4 (Said w0)
abbrev at4 (w0 : From) (p : InP) (i : Nat) (a : Act) (w : World) : Prop :=
  ∃ env, AtK [] [(0, 0)] w0 env (fr 145 n4b (v4 p i ++ [.int .i64 (i : Nat)])) (s4 p (made p i).1 (made p i).2.1 (made p i).2.2 (rsP p i)) a w
def InvK (w0 : From) (p : InP) (i : Nat) (a : Act) (w : World) : Prop := i ≤ p.kinds.length ∧ at4 w0 p i a w
abbrev RK (w0 : From) (p : InP) (i : Nat) : Exit → Act → World → Prop :=
  Exit.then (fun a' w' => ∃ k, InvK w0 p k a' w' ∧ p.kinds.length - k < p.kinds.length - i) (Exit.inBlock 0 (Exit.then (d4.wp Tryd.prog (Q4 w0)) (Q4 w0)))
abbrev KK (w0 : From) (p : InP) (i : Nat) : Exit → Act → World → Prop :=
  Exit.inBlock 1 (Exit.then (inc4.wp Tryd.prog (RK w0 p i)) (RK w0 p i))
theorem kk_panic {w0 : From} {p : InP} {i : Nat} : ∀ x d v a w, KK w0 p i (.panic x) (a.put d v) w → KK w0 p i (.panic x) a w := by
  intro x d v a w hq
  have : (a.put d v).defers = a.defers := by cases d <;> rfl
  simp only [KK, RK, Q4, Exit.then, Exit.inBlock, bodyPost] at hq ⊢
  rw [this] at hq
  exact hq
theorem inc4_ok {w0 : From} {p : InP} {i : Nat} (h6 : p.kinds.length ≤ 6) (hi : i < p.kinds.length) {env : Env} {a : Act} {w : World}
    (h : At [(0, 0)] w0 env (fr 145 n4b (v4 p (i + 1) ++ [.int .i64 (i : Nat)])) (s4 p (made p (i + 1)).1 (made p (i + 1)).2.1 (made p (i + 1)).2.2 (rsP p (i + 1))) a w) : inc4.wp Tryd.prog (RK w0 p i) a w := by
  have h' : AtK [] [(0, 0)] w0 env _ _ a w := ⟨h, _, rfl⟩
  refine pieceTK2 (c := cfgM) cfgM_ok n4b x_inc (by simp) (by simp) h' ?_
  refine all_needp (by simp only [inR_i64]; exact Iff.rfl) (by omega) fun _ => all_ret fun env'' a'' w'' hA' => ?_
  exact ⟨i + 1, ⟨by omega, env'', hA'⟩, by omega⟩
theorem needA_ok {i : Nat} {ts : List (Bool × Nat)} {rs : List Rf} (h1 : ts.length = i) (h2 : rs.length = i) (hi : i < 7) : ∀ b ∈ needs6 i ts rs, b = true := by
  have h : ∀ b ∈ needA i ts rs, b = true := by
    intro b hb
    simp only [needA, List.mem_cons, List.not_mem_nil, or_false] at hb
    rcases hb with rfl | rfl | rfl | rfl | rfl | rfl
    · rfl
    · simp [h1]
    · rw [roomy_iff]; omega
    · rfl
    · simp [h2]
    · rw [roomy_iff]; omega
  intro b hb
  simp only [needs6, List.mem_append] at hb
  rcases hb with hb | hb | hb | hb | hb | hb <;> exact h b hb
set_option maxHeartbeats 1000000 in
/-- behind a new adder -/
theorem appA_ok {w0 : From} {p : InP} (h6 : p.kinds.length ≤ 6) {i : Nat} (hi : i < p.kinds.length) {k : K3} (hk : p.kinds.getD i encK.dflt = k) (h0 : (kd k == 0) = true) {n : Int} (hn : cutT k.times = n) {env : Env} {a : Act} {w : World}
    (h : At [(0, 0)] w0 env (fr 145 n4c (v4 p i ++ [.int .i64 (i : Nat), .ifc 84 (.ptr 9 0), .ptr 10 0])) (s4 p (made p i).1 (made p i).2.1 (made p i).2.2 (rsP p i) ++ [.own [.c (.int .i64 k.at'), .c (.int .i64 n)] 86, rfB ⟨kd k, k.at', n, false, 0, false⟩]) a w) :
    (restC 1 bb4).wp Tryd.prog (KK w0 p i) a w := by
  subst hn
  have hM := made_all (p := p) i (by omega)
  have hs := made_succ hi
  have hr := rsP_succ hi
  rw [hk] at hs hr
  have hlt := hM.lt
  have hlr := hM.lr
  generalize made p i = S at *
  obtain ⟨xs, ys, ts⟩ := S
  generalize rsP p i = rs at *
  simp only at hlt h
  have hS : stepB (xs, ys, ts) k = (xs ++ [⟨k.at', cutT k.times⟩], ys, ts ++ [(true, xs.length)]) := by simp only [stepB, h0]
  have hK : AtK [] [(0, 0)] w0 env _ _ a w := ⟨h, _, rfl⟩
  obtain ⟨env3, hA3⟩ := hK.join 3 9 (by omega) (by simp) (E := encAd) (xs := xs) rfl rfl ⟨k.at', cutT k.times⟩ (fun env cs h => by
      simpa [segCells, Seg.cells, encAd, encOf, DenL, Den] using h) (v4 p i ++ [SVal.int .i64 (i : Nat), SVal.ifc 84 (.pto 3 xs.length 0), SVal.ptr 10 0]) (fun env' hj hm => ⟨hm _, hm _, hm _, hm _, hm _, hm _, fun v h => by
      obtain ⟨u, h1, h2⟩ := h
      exact ⟨u, h1, hj _ _ h2⟩, hm _, trivial⟩)
  rw [app4_eq]
  refine pieceAny (c := cfgM) (fuel := 100) cfgM_ok n4b (by kernel_rfl) (by kernel_rfl) (anyC_line x_appA (needA_ok hlt hlr (by omega))) hA3.at' kk_panic ?_
  intro env' a' w' h'
  simp only [KK, Exit.inBlock, Exit.then]
  refine (show inc4.wp Tryd.prog (RK w0 p i) a' w' from inc4_ok (env := env') h6 hi ?_)
  rw [hs, hr, hS]
  exact h'
set_option maxHeartbeats 1000000 in
/-- behind a new task of two steps -/
theorem appT_ok {w0 : From} {p : InP} (h6 : p.kinds.length ≤ 6) {i : Nat} (hi : i < p.kinds.length) {k : K3} (hk : p.kinds.getD i encK.dflt = k) (h0 : (kd k == 0) = false) {f : Nat} (hf : f = match (!(kd k == 1)) with | true => 30 | false => 27) {n : Int} (hn : cutT k.times = n) {env : Env} {a : Act} {w : World}
    (h : At [(0, 0)] w0 env (fr 145 n4c (v4 p i ++ [.int .i64 (i : Nat), .ifc 74 (.ptr 9 0), .ptr 10 0])) (s4 p (made p i).1 (made p i).2.1 (made p i).2.2 (rsP p i) ++ [.own [.c (.int .i64 k.at'), .c (.int .i64 n), .c (.bl false), .c (.lit .u32 0), .c (.fn (.func f) [] [])] 78, rfB ⟨kd k, k.at', n, false, 0, false⟩]) a w) :
    (restC 1 bb4).wp Tryd.prog (KK w0 p i) a w := by
  subst hn
  have hM := made_all (p := p) i (by omega)
  have hs := made_succ hi
  have hr := rsP_succ hi
  rw [hk] at hs hr
  have hlt := hM.lt
  have hlr := hM.lr
  generalize made p i = S at *
  obtain ⟨xs, ys, ts⟩ := S
  generalize rsP p i = rs at *
  simp only at hlt h
  have hS : stepB (xs, ys, ts) k = (xs, ys ++ [⟨k.at', cutT k.times, false, 0, !(kd k == 1)⟩], ts ++ [(false, ys.length)]) := by simp only [stepB, h0]
  have hK : AtK [] [(0, 0)] w0 env _ _ a w := ⟨h, _, rfl⟩
  obtain ⟨env3, hA3⟩ := hK.join 4 9 (by omega) (by simp) (E := encTw) (xs := ys) rfl rfl ⟨k.at', cutT k.times, false, 0, !(kd k == 1)⟩ (fun env cs h => by
      subst hf
      cases hq : kd k == 1 <;> simpa [segCells, Seg.cells, encTw, encOf, putV, DenL, Den, hq] using h) (v4 p i ++ [SVal.int .i64 (i : Nat), SVal.ifc 74 (.pto 4 ys.length 0), SVal.ptr 10 0]) (fun env' hj hm => ⟨hm _, hm _, hm _, hm _, hm _, hm _, fun v h => by
      obtain ⟨u, h1, h2⟩ := h
      exact ⟨u, h1, hj _ _ h2⟩, hm _, trivial⟩)
  rw [app4_eq]
  refine pieceAny (c := cfgM) (fuel := 100) cfgM_ok n4b (by kernel_rfl) (by kernel_rfl) (anyC_line x_appT (needA_ok hlt hlr (by omega))) hA3.at' kk_panic ?_
  intro env' a' w' h'
  simp only [KK, Exit.inBlock, Exit.then]
  refine (show inc4.wp Tryd.prog (RK w0 p i) a' w' from inc4_ok (env := env') h6 hi ?_)
  rw [hs, hr, hS]
  exact h'
set_option maxHeartbeats 1000000 in
theorem round4_ok {w0 : From} {p : InP} (h6 : p.kinds.length ≤ 6)
    (hd4 : ∀ {env : Env} {a : Act} {w : World}, AtK [] [(0, 0)] w0 env (fr 145 n4b (v4 p p.kinds.length ++ [.int .i64 (p.kinds.length : Nat)])) (s4 p (made p p.kinds.length).1 (made p p.kinds.length).2.1 (made p p.kinds.length).2.2 (rsP p p.kinds.length)) a w → d4.wp Tryd.prog (Q4 w0) a w)
    {i : Nat} {a : Act} {w : World} (h : InvK w0 p i a w) : round4.wp Tryd.prog (RK w0 p i) a w := by
  obtain ⟨hi, env, hA⟩ := h
  refine wpS (by kernel_rfl) ?_
  refine pieceTK2 (c := cfgM) cfgM_ok n4b x_tm (by simp) (by simp) hA ?_
  refine all_brp (by simp only [decide_eq_true_eq]; exact Iff.rfl) (fun h1 => all_ret fun env1 a1 w1 hA1 => ?_) (fun h1 => all_ret fun env1 a1 w1 hA1 => ?_)
  · simp only [Ex.to, Exit.then]
    have hi' : i < p.kinds.length := by omega
    refine (show (rgt round4).wp Tryd.prog (RK w0 p i) a1 w1 from wpS (by kernel_rfl) (wpB 1 (by kernel_rfl) ?_))
    refine (show bb4.wp Tryd.prog (KK w0 p i) a1 w1 from ?_)
    refine pieceNTK2 (c := cfgM) cfgM_ok 1 n4c x_mk (by simp) (by simp) hA1 ?_
    simp only [Int.toNat_natCast]
    have hfA := fun {k : K3} (hk) (h0) {n : Int} (hn) {env a w} => appA_ok (w0 := w0) h6 hi' (k := k) hk h0 (n := n) hn (env := env) (a := a) (w := w)
    have hfT := fun {k : K3} (hk) (h0) {f} (hf) {n : Int} (hn) {env a w} => appT_ok (w0 := w0) h6 hi' (k := k) hk h0 (f := f) hf (n := n) hn (env := env) (a := a) (w := w)
    rw [show encK.dflt = (⟨0, 0, 0, k0_h⟩ : K3) from rfl] at hfA hfT
    have hkk := (p.kinds.getD i (⟨0, 0, 0, k0_h⟩ : K3)).h
    have fF : ∀ (b : Bool) {x : Int}, (x.tmod 3 == 1) = b → (match b with | true => 27 | false => 30) = (match !(x.tmod 3 == 1) with | true => 30 | false => 27) := by
      intro b x h; rw [h]; cases b <;> rfl
    repeat' (first
      | refine all_needq (by simp only [decide_eq_true_eq, Bool.and_eq_true]; exact Iff.rfl) (by omega) ?_
      | refine all_needq (by simp only [inR_i64]; exact Iff.rfl) (by omega) ?_
      | refine all_need rfl (fun _ => ?_)
      | refine all_eq trivial ?_
      | refine all_eq rfl ?_
      | refine all_brp (by simp only [decide_eq_true_eq]; exact Iff.rfl) (fun _ => ?_) (fun _ => ?_)
      | refine all_br (fun _ => ?_) (fun _ => ?_))
    · rename_i c1 _ c2
      refine all_ret fun env' a' w' h => ?_
      exact hfA rfl c2 (n := 20) (if_pos c1) (h.at'.gen rfl)
    · rename_i c1 _ c2 c3
      refine all_ret fun env' a' w' h => ?_
      exact hfT rfl c2 (f := 27) (fF true c3) (n := 20) (if_pos c1) (h.at'.gen rfl)
    · rename_i c1 _ c2 c3
      refine all_ret fun env' a' w' h => ?_
      exact hfT rfl c2 (f := 30) (fF false c3) (n := 20) (if_pos c1) (h.at'.gen rfl)
    · rename_i c1 _ c2
      refine all_ret fun env' a' w' h => ?_
      exact hfA rfl c2 (n := (p.kinds.getD i (⟨0, 0, 0, k0_h⟩ : K3)).times) (if_neg c1) (h.at'.gen rfl)
    · rename_i c1 _ c2 c3
      refine all_ret fun env' a' w' h => ?_
      exact hfT rfl c2 (f := 27) (fF true c3) (n := (p.kinds.getD i (⟨0, 0, 0, k0_h⟩ : K3)).times) (if_neg c1) (h.at'.gen rfl)
    · rename_i c1 _ c2 c3
      refine all_ret fun env' a' w' h => ?_
      exact hfT rfl c2 (f := 30) (fF false c3) (n := (p.kinds.getD i (⟨0, 0, 0, k0_h⟩ : K3)).times) (if_neg c1) (h.at'.gen rfl)
  · have : i = p.kinds.length := by omega
    subst this
    simp only [Ex.to, Exit.then, Exit.inBlock, if_true]
    exact hd4 hA1
end Go.Proofs.YtlnigpeoffaemaaDoor

/- StepsPlays: the states of the document's pick. -/
namespace Go.Proofs.YtlnigpeoffaemaaDoor
open Go Go.Proofs.YtlnigpeoffaemaaDoor.Sx
set_option linter.unusedVariables false
/-- the document's rows, one of them fresh -/
abbrev sC (p : InP) (m : Nat) (ts : List (Bool × Nat)) (s : Mc) (rs : List Rf) (lw : List Int) : St := sP p m ts s rs lw ++ [.vec encRf rs 47]
abbrev aP (m : Nat) (lw : List Int) (k : Int) : List SVal := [.sli 9 (.c 0) 6 (.v m) none, .sli 10 (.c 0) 1 (.v lw.length) none, .int .i64 k]
abbrev nPp : List Nat := [1, 2, 6, 7, 8, 9]
abbrev nPq : List Nat := [6, 7, 8]
abbrev vPp (m : Nat) (lw : List Int) (k : Int) : List SVal := [.sli 10 (.c 0) 1 (.v lw.length) none, .int .i64 k, .snil, .snil, .lit .i64 0, .sli 11 (.c 0) 6 (.v m) none]
end Go.Proofs.YtlnigpeoffaemaaDoor

namespace Go.Proofs.YtlnigpeoffaemaaDoor
open Go Go.Proofs.YtlnigpeoffaemaaDoor.Sx
set_option linter.unusedVariables false
set_option maxRecDepth 100000 in
theorem x_st {p : InP} {m : Nat} {ts : List (Bool × Nat)} {s : Mc} {rs : List Rf} {lw : List Int} {r : Rf} : (exec cfgM 100 bS ([rfA r, .sli 10 (.c 0) 1 (.v lw.length) none] ++ List.replicate 80 .bad) (sC p m ts s rs lw)).bind (canonK 12 [(0,0)] 82 [4, 5]) =
 

 (.br (decide (r.3 < (1 : Int)))

 (.ret (.ret, [.ptr 12 0, .sli 10 (.c 0) 1 (.v lw.length) none], [.ro encLook [PUnit.unit], .own [.c (.sli 2 (.c 0) 1 (.v 3) (some (.v 3))), .c (.int .i64 s.2)] 67, .own [.a (encInt IntKind.u32) 3 s.1] 45, .many encAd s.3 86, .many encTw s.4 78, .own [.c (.ptr 1 0), .c (.sli 6 (.c 0) 1 (.v m) none), .c (.sli 7 (.c 0) 1 (.v m) (some (.v m)))] 70, .vec (encTs 3 4) ts 44, .own [.a encBool m s.5] 4, .ro (encInt IntKind.i64) p.3, .vec encRf rs 47, .vec (encInt IntKind.u32) lw 45, .vec encRf rs 47, .own [.c (.int .i64 r.1), .c (.int .i64 r.2), .c (.int .i64 r.3), .c (.sb r.4), .c (.int .u32 r.5), .c (.bl true)] 47]))

 (.br (decide (r.2 < (0 : Int)))

 (.ret (.ret, [.ptr 12 0, .sli 10 (.c 0) 1 (.v lw.length) none], [.ro encLook [PUnit.unit], .own [.c (.sli 2 (.c 0) 1 (.v 3) (some (.v 3))), .c (.int .i64 s.2)] 67, .own [.a (encInt IntKind.u32) 3 s.1] 45, .many encAd s.3 86, .many encTw s.4 78, .own [.c (.ptr 1 0), .c (.sli 6 (.c 0) 1 (.v m) none), .c (.sli 7 (.c 0) 1 (.v m) (some (.v m)))] 70, .vec (encTs 3 4) ts 44, .own [.a encBool m s.5] 4, .ro (encInt IntKind.i64) p.3, .vec encRf rs 47, .vec (encInt IntKind.u32) lw 45, .vec encRf rs 47, .own [.c (.int .i64 r.1), .c (.int .i64 r.2), .c (.int .i64 r.3), .c (.sb r.4), .c (.int .u32 r.5), .c (.bl true)] 47]))

 (.br (decide ((↑lw.length : Int) ≤ r.2))

 (.ret (.ret, [.ptr 12 0, .sli 10 (.c 0) 1 (.v lw.length) none], [.ro encLook [PUnit.unit], .own [.c (.sli 2 (.c 0) 1 (.v 3) (some (.v 3))), .c (.int .i64 s.2)] 67, .own [.a (encInt IntKind.u32) 3 s.1] 45, .many encAd s.3 86, .many encTw s.4 78, .own [.c (.ptr 1 0), .c (.sli 6 (.c 0) 1 (.v m) none), .c (.sli 7 (.c 0) 1 (.v m) (some (.v m)))] 70, .vec (encTs 3 4) ts 44, .own [.a encBool m s.5] 4, .ro (encInt IntKind.i64) p.3, .vec encRf rs 47, .vec (encInt IntKind.u32) lw 45, .vec encRf rs 47, .own [.c (.int .i64 r.1), .c (.int .i64 r.2), .c (.int .i64 r.3), .c (.sb r.4), .c (.int .u32 r.5), .c (.bl true)] 47]))

 (.need (decide (0 + lw.length ≤ lw.length))

 (.need (decide (0 + lw.length ≤ lw.length))

 (.need (roomy (List.take lw.length (List.drop 0 lw)).length 4)

 (.br (r.1 == (0 : Int))

 (.need (decide ((0 : Int) ≤ r.2) && decide (r.2.toNat < (List.take lw.length (List.drop 0 lw)).length))

 (.need (decide (r.2.toNat < (List.take lw.length (List.drop 0 lw)).length))

 (.need (decide ((0 : Int) ≤ r.2) && decide (r.2.toNat < (List.take lw.length (List.drop 0 lw)).length))

 (.need (decide (r.2.toNat < (List.take lw.length (List.drop 0 lw)).length))

 (.need (inR .i64 (r.3 - (1 : Int)))

 (.ret (.ret, [.ptr 12 0, .sli 13 (.c 0) 1 (.v (List.take lw.length (List.drop 0 lw)).length) none], [.ro encLook [PUnit.unit], .own [.c (.sli 2 (.c 0) 1 (.v 3) (some (.v 3))), .c (.int .i64 s.2)] 67, .own [.a (encInt IntKind.u32) 3 s.1] 45, .many encAd s.3 86, .many encTw s.4 78, .own [.c (.ptr 1 0), .c (.sli 6 (.c 0) 1 (.v m) none), .c (.sli 7 (.c 0) 1 (.v m) (some (.v m)))] 70, .vec (encTs 3 4) ts 44, .own [.a encBool m s.5] 4, .ro (encInt IntKind.i64) p.3, .vec encRf rs 47, .vec (encInt IntKind.u32) lw 45, .vec encRf rs 47, .own [.c (.int .i64 r.1), .c (.int .i64 r.2), .c (.int .i64 (r.3 - (1 : Int))), .c (.sb r.4), .c (.int .u32 r.5), .c (.sb (r.3 - (1 : Int) == (0 : Int)))] 47, .vec (encInt IntKind.u32) ((List.take lw.length (List.drop 0 lw)).set r.2.toNat (IntKind.u32.wrap ((List.take lw.length (List.drop 0 lw)).getD r.2.toNat (0 : Int) + (1 : Int)))) 45])))))))

 (.br (!r.4)

 (.need (decide ((0 : Int) ≤ r.2) && decide (r.2.toNat < (List.take lw.length (List.drop 0 lw)).length))

 (.need (decide (r.2.toNat < (List.take lw.length (List.drop 0 lw)).length))
 (.eq (T.ret (SVal.int IntKind.i64 r.2) = T.ret (SVal.int IntKind.i64 r.2))
 (.eq (T.need (decide (r.2.toNat < (List.take lw.length (List.drop (0 : Nat) lw)).length)) (T.ret ([SVal.int IntKind.u32 ((List.take lw.length (List.drop (0 : Nat) lw)).getD r.2.toNat (0 : Int))].getD (0 : Nat) SVal.bad)) = T.need (decide (r.2.toNat < (List.take lw.length (List.drop (0 : Nat) lw)).length)) (T.ret ([SVal.int IntKind.u32 ((List.take lw.length (List.drop (0 : Nat) lw)).getD r.2.toNat (0 : Int))].getD (0 : Nat) SVal.bad)))
 (.eq (T.need (decide (r.2.toNat < (List.take lw.length (List.drop (0 : Nat) lw)).length)) (T.ret ([SVal.int IntKind.u32 ((List.take lw.length (List.drop (0 : Nat) lw)).getD r.2.toNat (0 : Int))].getD (0 : Nat) SVal.bad)) = T.need (decide (r.2.toNat < (List.take lw.length (List.drop (0 : Nat) lw)).length)) (T.ret ([SVal.int IntKind.u32 ((List.take lw.length (List.drop (0 : Nat) lw)).getD r.2.toNat (0 : Int))].getD (0 : Nat) SVal.bad)))

 (.ret (.ret, [.ptr 12 0, .sli 13 (.c 0) 1 (.v (List.take lw.length (List.drop 0 lw)).length) none], [.ro encLook [PUnit.unit], .own [.c (.sli 2 (.c 0) 1 (.v 3) (some (.v 3))), .c (.int .i64 s.2)] 67, .own [.a (encInt IntKind.u32) 3 s.1] 45, .many encAd s.3 86, .many encTw s.4 78, .own [.c (.ptr 1 0), .c (.sli 6 (.c 0) 1 (.v m) none), .c (.sli 7 (.c 0) 1 (.v m) (some (.v m)))] 70, .vec (encTs 3 4) ts 44, .own [.a encBool m s.5] 4, .ro (encInt IntKind.i64) p.3, .vec encRf rs 47, .vec (encInt IntKind.u32) lw 45, .vec encRf rs 47, .own [.c (.int .i64 r.1), .c (.int .i64 r.2), .c (.int .i64 r.3), .c (.bl true), .c (.int .u32 ((List.take lw.length (List.drop 0 lw)).getD r.2.toNat (0 : Int))), .c (.sb (r.3 == (0 : Int)))] 47, .vec (encInt IntKind.u32) (List.take lw.length (List.drop 0 lw)) 45])))))))

 (.br (r.1 == (1 : Int))

 (.need (decide ((0 : Int) ≤ r.2) && decide (r.2.toNat < (List.take lw.length (List.drop 0 lw)).length))

 (.need (decide (r.2.toNat < (List.take lw.length (List.drop 0 lw)).length))

 (.need (inR .i64 (r.3 - (1 : Int)))

 (.ret (.ret, [.ptr 12 0, .sli 13 (.c 0) 1 (.v (List.take lw.length (List.drop 0 lw)).length) none], [.ro encLook [PUnit.unit], .own [.c (.sli 2 (.c 0) 1 (.v 3) (some (.v 3))), .c (.int .i64 s.2)] 67, .own [.a (encInt IntKind.u32) 3 s.1] 45, .many encAd s.3 86, .many encTw s.4 78, .own [.c (.ptr 1 0), .c (.sli 6 (.c 0) 1 (.v m) none), .c (.sli 7 (.c 0) 1 (.v m) (some (.v m)))] 70, .vec (encTs 3 4) ts 44, .own [.a encBool m s.5] 4, .ro (encInt IntKind.i64) p.3, .vec encRf rs 47, .vec (encInt IntKind.u32) lw 45, .vec encRf rs 47, .own [.c (.int .i64 r.1), .c (.int .i64 r.2), .c (.int .i64 (r.3 - (1 : Int))), .c (.bl false), .c (.int .u32 r.5), .c (.sb (r.3 - (1 : Int) == (0 : Int)))] 47, .vec (encInt IntKind.u32) ((List.take lw.length (List.drop 0 lw)).set r.2.toNat (IntKind.u32.wrap (r.5 + (1 : Int)))) 45])))))

 (.need (decide ((0 : Int) ≤ r.2) && decide (r.2.toNat < (List.take lw.length (List.drop 0 lw)).length))

 (.need (decide (r.2.toNat < (List.take lw.length (List.drop 0 lw)).length))

 (.br ((List.take lw.length (List.drop 0 lw)).getD r.2.toNat (0 : Int) == r.5)

 (.need (decide ((0 : Int) ≤ r.2) && decide (r.2.toNat < (List.take lw.length (List.drop 0 lw)).length))

 (.need (decide (r.2.toNat < (List.take lw.length (List.drop 0 lw)).length))

 (.need (inR .i64 (r.3 - (1 : Int)))

 (.ret (.ret, [.ptr 12 0, .sli 13 (.c 0) 1 (.v (List.take lw.length (List.drop 0 lw)).length) none], [.ro encLook [PUnit.unit], .own [.c (.sli 2 (.c 0) 1 (.v 3) (some (.v 3))), .c (.int .i64 s.2)] 67, .own [.a (encInt IntKind.u32) 3 s.1] 45, .many encAd s.3 86, .many encTw s.4 78, .own [.c (.ptr 1 0), .c (.sli 6 (.c 0) 1 (.v m) none), .c (.sli 7 (.c 0) 1 (.v m) (some (.v m)))] 70, .vec (encTs 3 4) ts 44, .own [.a encBool m s.5] 4, .ro (encInt IntKind.i64) p.3, .vec encRf rs 47, .vec (encInt IntKind.u32) lw 45, .vec encRf rs 47, .own [.c (.int .i64 r.1), .c (.int .i64 r.2), .c (.int .i64 (r.3 - (1 : Int))), .c (.bl false), .c (.int .u32 r.5), .c (.sb (r.3 - (1 : Int) == (0 : Int)))] 47, .vec (encInt IntKind.u32) ((List.take lw.length (List.drop 0 lw)).set r.2.toNat (IntKind.u32.wrap (r.5 + (1 : Int)))) 45])))))

 (.ret (.ret, [.ptr 12 0, .sli 13 (.c 0) 1 (.v (List.take lw.length (List.drop 0 lw)).length) none], [.ro encLook [PUnit.unit], .own [.c (.sli 2 (.c 0) 1 (.v 3) (some (.v 3))), .c (.int .i64 s.2)] 67, .own [.a (encInt IntKind.u32) 3 s.1] 45, .many encAd s.3 86, .many encTw s.4 78, .own [.c (.ptr 1 0), .c (.sli 6 (.c 0) 1 (.v m) none), .c (.sli 7 (.c 0) 1 (.v m) (some (.v m)))] 70, .vec (encTs 3 4) ts 44, .own [.a encBool m s.5] 4, .ro (encInt IntKind.i64) p.3, .vec encRf rs 47, .vec (encInt IntKind.u32) lw 45, .vec encRf rs 47, .own [.c (.int .i64 r.1), .c (.int .i64 r.2), .c (.int .i64 r.3), .c (.bl false), .c (.int .u32 r.5), .c (.sb (r.3 == (0 : Int)))] 47, .vec (encInt IntKind.u32) (List.take lw.length (List.drop 0 lw)) 45])))))))))))))) := by kernel_rfl
set_option maxRecDepth 100000 in
theorem x_p1 {p : InP} {m : Nat} {ts : List (Bool × Nat)} {s : Mc} {rs : List Rf} {lw : List Int} {k : Int} : (execN cfgM 100 4 bP (aP m lw k ++ List.replicate 41 .bad) (sP p m ts s rs lw)).bind (canonK 11 [(0,0)] 44 nPp) =
 

 (.br (decide (k < (0 : Int)))

 (.ret (.ret, [.sli 10 (.c 0) 1 (.v lw.length) none, .int .i64 k, .sli 9 (.c 0) 6 (.v m) none, .sli 10 (.c 0) 1 (.v lw.length) none, .lit .i64 (90 : Int), .bad], [.ro encLook [PUnit.unit], .own [.c (.sli 2 (.c 0) 1 (.v 3) (some (.v 3))), .c (.int .i64 s.2)] 67, .own [.a (encInt IntKind.u32) 3 s.1] 45, .many encAd s.3 86, .many encTw s.4 78, .own [.c (.ptr 1 0), .c (.sli 6 (.c 0) 1 (.v m) none), .c (.sli 7 (.c 0) 1 (.v m) (some (.v m)))] 70, .vec (encTs 3 4) ts 44, .own [.a encBool m s.5] 4, .ro (encInt IntKind.i64) p.3, .vec encRf rs 47, .vec (encInt IntKind.u32) lw 45]))

 (.br (decide ((↑m : Int) ≤ k))

 (.ret (.ret, [.sli 10 (.c 0) 1 (.v lw.length) none, .int .i64 k, .sli 9 (.c 0) 6 (.v m) none, .sli 10 (.c 0) 1 (.v lw.length) none, .lit .i64 (90 : Int), .bad], [.ro encLook [PUnit.unit], .own [.c (.sli 2 (.c 0) 1 (.v 3) (some (.v 3))), .c (.int .i64 s.2)] 67, .own [.a (encInt IntKind.u32) 3 s.1] 45, .many encAd s.3 86, .many encTw s.4 78, .own [.c (.ptr 1 0), .c (.sli 6 (.c 0) 1 (.v m) none), .c (.sli 7 (.c 0) 1 (.v m) (some (.v m)))] 70, .vec (encTs 3 4) ts 44, .own [.a encBool m s.5] 4, .ro (encInt IntKind.i64) p.3, .vec encRf rs 47, .vec (encInt IntKind.u32) lw 45]))

 (.need (decide ((0 : Int) ≤ k) && decide (k.toNat < m))

 (.need (decide (k.toNat < rs.length))

 (.br ((rs.getD k.toNat { kind := (0 : Int), at' := (0 : Int), times := (0 : Int), has := false, v := (0 : Int), done := false }).done)

 (.ret (.ret, [.sli 10 (.c 0) 1 (.v lw.length) none, .int .i64 k, .sli 9 (.c 0) 6 (.v m) none, .sli 10 (.c 0) 1 (.v lw.length) none, .lit .i64 (91 : Int), .bad], [.ro encLook [PUnit.unit], .own [.c (.sli 2 (.c 0) 1 (.v 3) (some (.v 3))), .c (.int .i64 s.2)] 67, .own [.a (encInt IntKind.u32) 3 s.1] 45, .many encAd s.3 86, .many encTw s.4 78, .own [.c (.ptr 1 0), .c (.sli 6 (.c 0) 1 (.v m) none), .c (.sli 7 (.c 0) 1 (.v m) (some (.v m)))] 70, .vec (encTs 3 4) ts 44, .own [.a encBool m s.5] 4, .ro (encInt IntKind.i64) p.3, .vec encRf rs 47, .vec (encInt IntKind.u32) lw 45]))

 (.need (decide (0 + m ≤ rs.length))

 (.need (decide (0 + m ≤ rs.length))

 (.need (roomy (List.take m (List.drop 0 rs)).length 40)

 (.ret (.normal, [.sli 10 (.c 0) 1 (.v lw.length) none, .int .i64 k, .snil, .snil, .lit .i64 (0 : Int), .sli 11 (.c 0) 6 (.v (List.take m (List.drop 0 rs)).length) none], [.ro encLook [PUnit.unit], .own [.c (.sli 2 (.c 0) 1 (.v 3) (some (.v 3))), .c (.int .i64 s.2)] 67, .own [.a (encInt IntKind.u32) 3 s.1] 45, .many encAd s.3 86, .many encTw s.4 78, .own [.c (.ptr 1 0), .c (.sli 6 (.c 0) 1 (.v m) none), .c (.sli 7 (.c 0) 1 (.v m) (some (.v m)))] 70, .vec (encTs 3 4) ts 44, .own [.a encBool m s.5] 4, .ro (encInt IntKind.i64) p.3, .vec encRf rs 47, .vec (encInt IntKind.u32) lw 45, .vec encRf (List.take m (List.drop 0 rs)) 47])))))))))) := by kernel_rfl
end Go.Proofs.YtlnigpeoffaemaaDoor

/- StepsPlays: the document's step. -/
namespace Go.Proofs.YtlnigpeoffaemaaDoor
open Go Go.Proofs.YtlnigpeoffaemaaDoor.Sx
set_option linter.unusedVariables false
theorem bS_eq : Tryd.f26.body = some bS := by kernel_rfl
abbrev outR (r : Rf) : Rf := {r with done := true}
abbrev vSt (r : Rf) (lw : List Int) : List SVal := [rfA r, .sli 10 (.c 0) 1 (.v lw.length) none]
abbrev gSt (r : Rf) (lw : List Int) : List SVal := [rfA (rfP r lw), .sli 13 (.c 0) 1 (.v lw.length) none]
set_option maxHeartbeats 1000000 in
theorem st_ok {p : InP} {m : Nat} {ts : List (Bool × Nat)} {s : Mc} {rs : List Rf} {lw : List Int} {r : Rf} (ht : r.times ≤ 20) (hw : lw.length ≤ 50) (hk : okR r lw = true) :
    ∀ (env : Env) (w : World) (vs : List Value), GlOk cfgM.gl env → Rep env (sC p m ts s rs lw) w → DenL env (vSt r lw) vs →
    Calls cfgM.P 26 ⟨vs⟩ w (Ends1 env (sC p m ts s rs lw) w (.tup (gSt r lw)) (sC p m ts s rs lw ++ [rfB (rfP r lw), .vec (encInt .u32) (rwP r lw) 45])) := by
  intro env w vs hg hr hd
  obtain ⟨kind, at', times, has, v, done⟩ := r
  simp only [okR, Bool.and_eq_true, Bool.not_eq_true', decide_eq_false_iff_not, inP_iff] at hk
  simp only at ht
  have htk : List.take lw.length (List.drop 0 lw) = lw := by simp
  refine AtK.begin (c := cfgM) Tryd.func26 bS_eq (args := vSt ⟨kind, at', times, has, v, done⟩ lw) hg hr hd fun a hA => ?_
  refine pieceTK2 (c := cfgM) cfgM_ok [4, 5] x_st (by rw [hr.len]; simp) (by simp) hA ?_
  rw [htk]
  refine all_brp (by simp only [decide_eq_true_eq]; exact Iff.rfl) (fun _ => by exfalso; omega) (fun _ => ?_)
  refine all_brp (by simp only [decide_eq_true_eq]; exact Iff.rfl) (fun _ => by exfalso; omega) (fun _ => ?_)
  refine all_brp (by simp only [decide_eq_true_eq]; exact Iff.rfl) (fun _ => by exfalso; omega) (fun _ => ?_)
  have fin : ∀ {st' : St} {env' : Env} {a' : Act} {w' : World}, genS st' = genS (sC p m ts s rs lw ++ [rfB (rfP ⟨kind, at', times, has, v, done⟩ lw), .vec (encInt .u32) (rwP ⟨kind, at', times, has, v, done⟩ lw) 45]) →
      AtK env cfgM.gl ⟨w, inFoot env (sC p m ts s rs lw)⟩ env' (fr 82 [4, 5] [.ptr 12 0, .sli 13 (.c 0) 1 (.v lw.length) none]) st' a' w' →
      bodyPost cfgM.P Tryd.f26 (Ends1 env (sC p m ts s rs lw) w (.tup (gSt ⟨kind, at', times, has, v, done⟩ lw)) (sC p m ts s rs lw ++ [rfB (rfP ⟨kind, at', times, has, v, done⟩ lw), .vec (encInt .u32) (rwP ⟨kind, at', times, has, v, done⟩ lw) 45])) .ret a' w' := by
    intro st' env' a' w' hs h
    exact (h.on fun h => h.gen hs).out (c := cfgM) (by kernel_rfl)
  repeat' (first
    | refine all_needq (by simp only [decide_eq_true_eq, Bool.and_eq_true, inR_i64, roomy_iff]; exact Iff.rfl) (by omega) ?_
    | refine all_need rfl (fun _ => ?_)
    | refine all_eq rfl ?_
    | refine all_br (fun _ => ?_) (fun _ => ?_))
  · rename_i h0
    exact all_ret fun env' a' w' hA' => fin (by simp only [rfP, rwP, h0]; rfl) hA'
  · rename_i h0 h1
    cases has with
    | true => cases h1
    | false => exact all_ret fun env' a' w' hA' => fin (by simp only [rfP, rwP, h0]; rfl) hA'
  · rename_i h0 h1 h2
    cases has with
    | false => cases h1
    | true => exact all_ret fun env' a' w' hA' => fin (by simp only [rfP, rwP, putR, h0, h2, Bool.true_or]; rfl) hA'
  · rename_i h0 h1 h2 h3
    cases has with
    | false => cases h1
    | true => exact all_ret fun env' a' w' hA' => fin (by simp only [rfP, rwP, putR, h0, h2, Bool.false_or]; simp only [show (lw.getD at'.toNat 0 == v) = true from h3]; rfl) hA'
  · rename_i h0 h1 h2 h3
    cases has with
    | false => cases h1
    | true => exact all_ret fun env' a' w' hA' => fin (by simp only [rfP, rwP, putR, h0, h2, Bool.false_or]; simp only [show (lw.getD at'.toNat 0 == v) = false from h3]; rfl) hA'
theorem st_no {p : InP} {m : Nat} {ts : List (Bool × Nat)} {s : Mc} {rs : List Rf} {lw : List Int} {r : Rf} (hw : lw.length ≤ 50) (hk : okR r lw = false) :
    ∀ (env : Env) (w : World) (vs : List Value), GlOk cfgM.gl env → Rep env (sC p m ts s rs lw) w → DenL env (vSt r lw) vs →
    Calls cfgM.P 26 ⟨vs⟩ w (Ends1 env (sC p m ts s rs lw) w (.tup (vSt (outR r) lw)) (sC p m ts s rs lw ++ [rfB (outR r)])) := by
  intro env w vs hg hr hd
  rw [← Bool.not_eq_true] at hk
  simp only [okR, Bool.and_eq_true, Bool.not_eq_true', decide_eq_false_iff_not, inP_iff] at hk
  refine AtK.begin (c := cfgM) Tryd.func26 bS_eq (args := vSt r lw) hg hr hd fun a hA => ?_
  refine pieceTK2 (c := cfgM) cfgM_ok [4, 5] x_st (by rw [hr.len]; simp) (by simp) hA ?_
  refine all_brp (by simp only [decide_eq_true_eq]; exact Iff.rfl) (fun _ => ?_) (fun _ => ?_)
  · refine all_ret fun env' a' w' hA' => ?_
    exact (hA'.on fun h => h.gen (st' := sC p m ts s rs lw ++ [rfB (outR r)]) rfl).out (c := cfgM) (by kernel_rfl)
  refine all_brp (by simp only [decide_eq_true_eq]; exact Iff.rfl) (fun _ => ?_) (fun _ => ?_)
  · refine all_ret fun env' a' w' hA' => ?_
    exact (hA'.on fun h => h.gen (st' := sC p m ts s rs lw ++ [rfB (outR r)]) rfl).out (c := cfgM) (by kernel_rfl)
  refine all_brp (by simp only [decide_eq_true_eq]; exact Iff.rfl) (fun _ => ?_) (fun _ => ?_)
  · refine all_ret fun env' a' w' hA' => ?_
    exact (hA'.on fun h => h.gen (st' := sC p m ts s rs lw ++ [rfB (outR r)]) rfl).out (c := cfgM) (by kernel_rfl)
  exfalso; omega
end Go.Proofs.YtlnigpeoffaemaaDoor

/- StepsPlays: the configurations of the document's pick. -/
namespace Go.Proofs.YtlnigpeoffaemaaDoor
open Go Go.Proofs.YtlnigpeoffaemaaDoor.Sx
set_option linter.unusedVariables false
abbrev StOk (r : Rf) (lw : List Int) : Prop := r.times ≤ 20 ∧ lw.length ≤ 50
noncomputable def cfgS1 (p : InP) (m : Nat) (ts : List (Bool × Nat)) (s : Mc) (rs : List Rf) (lw : List Int) (r : Rf) : Cfg := { P := Tryd.prog, ex := exI, gl := [(0, 0)], sm := fun g => match g with
  | 26 => some (smEq (vSt r lw) (sC p m ts s rs lw) (StOk r lw ∧ okR r lw = true) (.tup (gSt r lw)) (sC p m ts s rs lw ++ [rfB (rfP r lw), .vec (encInt .u32) (rwP r lw) 45]))
  | _ => none }
theorem cfgS1_ok {p : InP} {m : Nat} {ts : List (Bool × Nat)} {s : Mc} {rs : List Rf} {lw : List Int} {r : Rf} : SmOk (cfgS1 p m ts s rs lw r) := by
  intro g h e
  simp only [cfgS1] at e
  split at e
  · simp only [Option.some.injEq] at e; subst e
    exact smEq_ok (c := cfgS1 p m ts s rs lw r) fun h => st_ok h.1.1 h.1.2 h.2
  · cases e
noncomputable def cfgS0 (p : InP) (m : Nat) (ts : List (Bool × Nat)) (s : Mc) (rs : List Rf) (lw : List Int) (r : Rf) : Cfg := { P := Tryd.prog, ex := exI, gl := [(0, 0)], sm := fun g => match g with
  | 26 => some (smEq (vSt r lw) (sC p m ts s rs lw) (StOk r lw ∧ okR r lw = false) (.tup (vSt (outR r) lw)) (sC p m ts s rs lw ++ [rfB (outR r)]))
  | _ => none }
theorem cfgS0_ok {p : InP} {m : Nat} {ts : List (Bool × Nat)} {s : Mc} {rs : List Rf} {lw : List Int} {r : Rf} : SmOk (cfgS0 p m ts s rs lw r) := by
  intro g h e
  simp only [cfgS0] at e
  split at e
  · simp only [Option.some.injEq] at e; subst e
    exact smEq_ok (c := cfgS0 p m ts s rs lw r) fun h => st_no h.1.2 h.2
  · cases e
/-- a row of the document's tasks, a cell of it put -/
def setR (f : Rf → Rf) (rs : List Rf) (k : Nat) : List Rf := rs.set k (f (rs.getD k ⟨0, 0, 0, false, 0, false⟩))
def pR1 (r : Rf) (rs : List Rf) (k : Nat) : List Rf := setR (fun x => ⟨r.kind, x.at', x.times, x.has, x.v, x.done⟩) rs k
def pR2 (r : Rf) (rs : List Rf) (k : Nat) : List Rf := setR (fun x => ⟨x.kind, r.at', x.times, x.has, x.v, x.done⟩) (pR1 r rs k) k
def pR3 (r : Rf) (rs : List Rf) (k : Nat) : List Rf := setR (fun x => ⟨x.kind, x.at', r.times, x.has, x.v, x.done⟩) (pR2 r rs k) k
def pR4 (r : Rf) (rs : List Rf) (k : Nat) : List Rf := setR (fun x => ⟨x.kind, x.at', x.times, r.has, x.v, x.done⟩) (pR3 r rs k) k
def pR5 (r : Rf) (rs : List Rf) (k : Nat) : List Rf := setR (fun x => ⟨x.kind, x.at', x.times, x.has, r.v, x.done⟩) (pR4 r rs k) k
def pR6 (r : Rf) (rs : List Rf) (k : Nat) : List Rf := setR (fun x => ⟨x.kind, x.at', x.times, x.has, x.v, r.done⟩) (pR5 r rs k) k
theorem setR_len (f : Rf → Rf) (rs : List Rf) (k : Nat) : (setR f rs k).length = rs.length := by simp [setR]
theorem setR_setR (f g : Rf → Rf) {rs : List Rf} {k : Nat} (h : k < rs.length) : setR g (setR f rs k) k = setR (fun x => g (f x)) rs k := by
  unfold setR
  rw [List.set_set, getD_set_self h]
theorem pR6_eq (r : Rf) {rs : List Rf} {k : Nat} (h : k < rs.length) : pR6 r rs k = rs.set k r := by
  simp only [pR6, pR5, pR4, pR3, pR2, pR1, setR_setR _ _ h]
  rfl
/-- behind the document's pick -/
abbrev sD (p : InP) (m : Nat) (ts : List (Bool × Nat)) (s : Mc) (rs : List Rf) (lw : List Int) (rs' : List Rf) : St := sP p m ts s rs lw ++ [.vec encRf rs' 47]
abbrev sD2 (p : InP) (m : Nat) (ts : List (Bool × Nat)) (s : Mc) (rs : List Rf) (lw : List Int) (rs' : List Rf) (lw' : List Int) : St := sP p m ts s rs lw ++ [.vec encRf rs' 47, .vec (encInt .u32) lw' 45]
set_option maxRecDepth 100000 in
theorem x_sok {p : InP} {m : Nat} {ts : List (Bool × Nat)} {s : Mc} {rs : List Rf} {lw : List Int} {r : Rf} {k : Int} : (exec (cfgS1 p m ts s rs lw r) 100 (restC 4 bP) (fr 44 nPp (vPp m lw k)) (sC p m ts s rs lw)).bind (canonK 11 [(0,0)] 44 nPq) =
 (.need (decide ((0 : Int) ≤ k) && decide (k.toNat < m))
 (.need (decide (k.toNat < rs.length))
 (.need (decide (k.toNat < rs.length))
 (.need (decide (k.toNat < rs.length))
 (.need (decide (k.toNat < rs.length))
 (.need (decide (k.toNat < rs.length))
 (.need (decide (k.toNat < rs.length))
 (.eq (vSt (rs.getD k.toNat ⟨0, 0, 0, false, 0, false⟩) lw = vSt r lw ∧ sC p m ts s rs lw = sC p m ts s rs lw ∧ StOk r lw ∧ okR r lw = true)
 (.need (decide ((0 : Int) ≤ k) && decide (k.toNat < m))
 (.need (decide (k.toNat < rs.length))
 (.need (decide (k.toNat < (pR1 (rfP r lw) rs k.toNat).length))
 (.need (decide (k.toNat < (pR2 (rfP r lw) rs k.toNat).length))
 (.need (decide (k.toNat < (pR3 (rfP r lw) rs k.toNat).length))
 (.need (decide (k.toNat < (pR4 (rfP r lw) rs k.toNat).length))
 (.need (decide (k.toNat < (pR5 (rfP r lw) rs k.toNat).length))
 (.ret (.ret, [.sli 11 (.c 0) 6 (.v m) none, .sli 12 (.c 0) 1 (.v lw.length) none, .lit .i64 0], sD2 p m ts s rs lw (pR6 (rfP r lw) rs k.toNat) (rwP r lw)))))))))))))))))) := by kernel_rfl
set_option maxRecDepth 100000 in
theorem x_sno {p : InP} {m : Nat} {ts : List (Bool × Nat)} {s : Mc} {rs : List Rf} {lw : List Int} {r : Rf} {k : Int} : (exec (cfgS0 p m ts s rs lw r) 100 (restC 4 bP) (fr 44 nPp (vPp m lw k)) (sC p m ts s rs lw)).bind (canonK 11 [(0,0)] 44 nPq) =
 (.need (decide ((0 : Int) ≤ k) && decide (k.toNat < m))
 (.need (decide (k.toNat < rs.length))
 (.need (decide (k.toNat < rs.length))
 (.need (decide (k.toNat < rs.length))
 (.need (decide (k.toNat < rs.length))
 (.need (decide (k.toNat < rs.length))
 (.need (decide (k.toNat < rs.length))
 (.eq (vSt (rs.getD k.toNat ⟨0, 0, 0, false, 0, false⟩) lw = vSt r lw ∧ sC p m ts s rs lw = sC p m ts s rs lw ∧ StOk r lw ∧ okR r lw = false)
 (.need (decide ((0 : Int) ≤ k) && decide (k.toNat < m))
 (.need (decide (k.toNat < rs.length))
 (.need (decide (k.toNat < (pR1 (outR r) rs k.toNat).length))
 (.need (decide (k.toNat < (pR2 (outR r) rs k.toNat).length))
 (.need (decide (k.toNat < (pR3 (outR r) rs k.toNat).length))
 (.need (decide (k.toNat < (pR4 (outR r) rs k.toNat).length))
 (.need (decide (k.toNat < (pR5 (outR r) rs k.toNat).length))
 (.ret (.ret, [.sli 11 (.c 0) 6 (.v m) none, .sli 10 (.c 0) 1 (.v lw.length) none, .lit .i64 0], sD p m ts s rs lw (pR6 (outR r) rs k.toNat)))))))))))))))))) := by kernel_rfl
end Go.Proofs.YtlnigpeoffaemaaDoor

/- StepsPlays: the document's pick, its ends. -/
namespace Go.Proofs.YtlnigpeoffaemaaDoor
open Go Go.Proofs.YtlnigpeoffaemaaDoor.Sx
set_option linter.unusedVariables false
theorem bP_eq : Tryd.f16.body = some bP := by kernel_rfl
abbrev tupA (m : Nat) (lw : List Int) (e : Int) : SVal := .tup [.sli 9 (.c 0) 6 (.v m) none, .sli 10 (.c 0) 1 (.v lw.length) none, .lit .i64 e]
abbrev tup1 (m : Nat) (lw : List Int) : SVal := .tup [.sli 11 (.c 0) 6 (.v m) none, .sli 12 (.c 0) 1 (.v lw.length) none, .lit .i64 0]
abbrev tup0 (m : Nat) (lw : List Int) : SVal := .tup [.sli 11 (.c 0) 6 (.v m) none, .sli 10 (.c 0) 1 (.v lw.length) none, .lit .i64 0]
theorem ref_bad {p : InP} {m : Nat} {ts : List (Bool × Nat)} {s : Mc} {rs : List Rf} {lw : List Int} {k : Int} (hk : k < 0 ∨ (m : Int) ≤ k) :
    ∀ (env : Env) (w : World) (vs : List Value), GlOk cfgM.gl env → Rep env (sP p m ts s rs lw) w → DenL env (aP m lw k) vs →
    Calls cfgM.P 16 ⟨vs⟩ w (Ends1 env (sP p m ts s rs lw) w (tupA m lw 90) (sP p m ts s rs lw)) := by
  intro env w vs hg hr hd
  refine AtK.begin (c := cfgM) Tryd.func16 bP_eq (args := aP m lw k) hg hr hd fun a hA => ?_
  refine pieceNTK2 (c := cfgM) cfgM_ok 4 nPp x_p1 (by rw [hr.len]; simp) (by simp) hA ?_
  refine all_brp (by simp only [decide_eq_true_eq]; exact Iff.rfl) (fun _ => all_ret fun env' a' w' hA' => hA'.out (c := cfgM) (by kernel_rfl)) (fun _ => ?_)
  refine all_brp (by simp only [decide_eq_true_eq]; exact Iff.rfl) (fun _ => all_ret fun env' a' w' hA' => hA'.out (c := cfgM) (by kernel_rfl)) (fun _ => ?_)
  exfalso; omega
theorem ref_done {p : InP} {m : Nat} {ts : List (Bool × Nat)} {s : Mc} {rs : List Rf} {lw : List Int} {k : Int} (h0 : 0 ≤ k) (hk : k.toNat < m) (hm : rs.length = m) (hd : (rs.getD k.toNat encRf.dflt).done = true) :
    ∀ (env : Env) (w : World) (vs : List Value), GlOk cfgM.gl env → Rep env (sP p m ts s rs lw) w → DenL env (aP m lw k) vs →
    Calls cfgM.P 16 ⟨vs⟩ w (Ends1 env (sP p m ts s rs lw) w (tupA m lw 91) (sP p m ts s rs lw)) := by
  intro env w vs hg hr hdv
  refine AtK.begin (c := cfgM) Tryd.func16 bP_eq (args := aP m lw k) hg hr hdv fun a hA => ?_
  refine pieceNTK2 (c := cfgM) cfgM_ok 4 nPp x_p1 (by rw [hr.len]; simp) (by simp) hA ?_
  refine all_brp (by simp only [decide_eq_true_eq]; exact Iff.rfl) (fun _ => by exfalso; omega) (fun _ => ?_)
  refine all_brp (by simp only [decide_eq_true_eq]; exact Iff.rfl) (fun _ => by exfalso; omega) (fun _ => ?_)
  refine all_needq (by simp only [decide_eq_true_eq, Bool.and_eq_true]; exact Iff.rfl) (by omega) ?_
  refine all_needq (by simp only [decide_eq_true_eq]; exact Iff.rfl) (by omega) ?_
  refine all_br (fun _ => all_ret fun env' a' w' hA' => hA'.out (c := cfgM) (by kernel_rfl)) (fun hq => ?_)
  have hd' : (rs.getD k.toNat encRf.dflt).done = false := hq
  rw [hd] at hd'; cases hd'
set_option maxHeartbeats 1000000 in
theorem ref_step {p : InP} {m : Nat} {ts : List (Bool × Nat)} {s : Mc} {rs : List Rf} {lw : List Int} {k : Int} (h0 : 0 ≤ k) (hk : k.toNat < m) (hm : rs.length = m) (h8 : m ≤ 8) (hd : (rs.getD k.toNat encRf.dflt).done = false) (hs : StOk (rs.getD k.toNat encRf.dflt) lw) (ho : okR (rs.getD k.toNat encRf.dflt) lw = true) :
    ∀ (env : Env) (w : World) (vs : List Value), GlOk cfgM.gl env → Rep env (sP p m ts s rs lw) w → DenL env (aP m lw k) vs →
    Calls cfgM.P 16 ⟨vs⟩ w (Ends1 env (sP p m ts s rs lw) w (tup1 m lw) (sD2 p m ts s rs lw (rs.set k.toNat (rfP (rs.getD k.toNat encRf.dflt) lw)) (rwP (rs.getD k.toNat encRf.dflt) lw))) := by
  intro env w vs hg hr hdv
  refine AtK.begin (c := cfgM) Tryd.func16 bP_eq (args := aP m lw k) hg hr hdv fun a hA => ?_
  refine pieceNTK2 (c := cfgM) cfgM_ok 4 nPp x_p1 (by rw [hr.len]; simp) (by simp) hA ?_
  have htk : List.take m (List.drop 0 rs) = rs := by rw [List.drop_zero, List.take_of_length_le (by omega)]
  rw [htk, hm]
  refine all_brp (by simp only [decide_eq_true_eq]; exact Iff.rfl) (fun _ => by exfalso; omega) (fun _ => ?_)
  refine all_brp (by simp only [decide_eq_true_eq]; exact Iff.rfl) (fun _ => by exfalso; omega) (fun _ => ?_)
  refine all_needq (by simp only [decide_eq_true_eq, Bool.and_eq_true]; exact Iff.rfl) (by omega) ?_
  refine all_needq (by simp only [decide_eq_true_eq]; exact Iff.rfl) (by omega) ?_
  refine all_br (fun hq => ?_) (fun hq => ?_)
  · have hd' : (rs.getD k.toNat encRf.dflt).done = true := hq
    rw [hd] at hd'; cases hd'
  refine all_needq (by simp only [decide_eq_true_eq]; exact Iff.rfl) (by omega) ?_
  refine all_needq (by simp only [decide_eq_true_eq]; exact Iff.rfl) (by omega) ?_
  refine all_needq (by simp only [roomy_iff]; exact Iff.rfl) (by omega) ?_
  refine all_ret fun env1 a1 w1 hA1 => ?_
  simp only [Ex.to, Exit.then]
  refine pieceTK2 (c := cfgS1 p m ts s rs lw (rs.getD k.toNat encRf.dflt)) cfgS1_ok nPq x_sok (by rw [hr.len]; simp) (by simp) hA1 ?_
  have hp := pR6_eq (rfP (rs.getD k.toNat encRf.dflt) lw) (rs := rs) (k := k.toNat) (by omega)
  rw [hp]
  simp only [pR1, pR2, pR3, pR4, pR5, setR_len]
  repeat' (first
    | refine all_needq (by simp only [decide_eq_true_eq, Bool.and_eq_true]; exact Iff.rfl) (by omega) ?_
    | refine all_eq ⟨by first | exact True.intro | rfl, by first | exact True.intro | rfl, hs, ho⟩ ?_)
  exact all_ret fun env' a' w' hA' => hA'.out (c := cfgM) (by kernel_rfl)
set_option maxHeartbeats 1000000 in
theorem ref_out {p : InP} {m : Nat} {ts : List (Bool × Nat)} {s : Mc} {rs : List Rf} {lw : List Int} {k : Int} (h0 : 0 ≤ k) (hk : k.toNat < m) (hm : rs.length = m) (h8 : m ≤ 8) (hd : (rs.getD k.toNat encRf.dflt).done = false) (hs : StOk (rs.getD k.toNat encRf.dflt) lw) (ho : okR (rs.getD k.toNat encRf.dflt) lw = false) :
    ∀ (env : Env) (w : World) (vs : List Value), GlOk cfgM.gl env → Rep env (sP p m ts s rs lw) w → DenL env (aP m lw k) vs →
    Calls cfgM.P 16 ⟨vs⟩ w (Ends1 env (sP p m ts s rs lw) w (tup0 m lw) (sD p m ts s rs lw (rs.set k.toNat (outR (rs.getD k.toNat encRf.dflt))))) := by
  intro env w vs hg hr hdv
  refine AtK.begin (c := cfgM) Tryd.func16 bP_eq (args := aP m lw k) hg hr hdv fun a hA => ?_
  refine pieceNTK2 (c := cfgM) cfgM_ok 4 nPp x_p1 (by rw [hr.len]; simp) (by simp) hA ?_
  have htk : List.take m (List.drop 0 rs) = rs := by rw [List.drop_zero, List.take_of_length_le (by omega)]
  rw [htk, hm]
  refine all_brp (by simp only [decide_eq_true_eq]; exact Iff.rfl) (fun _ => by exfalso; omega) (fun _ => ?_)
  refine all_brp (by simp only [decide_eq_true_eq]; exact Iff.rfl) (fun _ => by exfalso; omega) (fun _ => ?_)
  refine all_needq (by simp only [decide_eq_true_eq, Bool.and_eq_true]; exact Iff.rfl) (by omega) ?_
  refine all_needq (by simp only [decide_eq_true_eq]; exact Iff.rfl) (by omega) ?_
  refine all_br (fun hq => ?_) (fun hq => ?_)
  · have hd' : (rs.getD k.toNat encRf.dflt).done = true := hq
    rw [hd] at hd'; cases hd'
  refine all_needq (by simp only [decide_eq_true_eq]; exact Iff.rfl) (by omega) ?_
  refine all_needq (by simp only [decide_eq_true_eq]; exact Iff.rfl) (by omega) ?_
  refine all_needq (by simp only [roomy_iff]; exact Iff.rfl) (by omega) ?_
  refine all_ret fun env1 a1 w1 hA1 => ?_
  simp only [Ex.to, Exit.then]
  refine pieceTK2 (c := cfgS0 p m ts s rs lw (rs.getD k.toNat encRf.dflt)) cfgS0_ok nPq x_sno (by rw [hr.len]; simp) (by simp) hA1 ?_
  have hp := pR6_eq (outR (rs.getD k.toNat encRf.dflt)) (rs := rs) (k := k.toNat) (by omega)
  rw [hp]
  simp only [pR1, pR2, pR3, pR4, pR5, setR_len]
  repeat' (first
    | refine all_needq (by simp only [decide_eq_true_eq, Bool.and_eq_true]; exact Iff.rfl) (by omega) ?_
    | refine all_eq ⟨by first | exact True.intro | rfl, by first | exact True.intro | rfl, hs, ho⟩ ?_)
  exact all_ret fun env' a' w' hA' => hA'.out (c := cfgM) (by kernel_rfl)
end Go.Proofs.YtlnigpeoffaemaaDoor

/- StepsPlays: comparing two rows of words: pieces. -/
namespace Go.Proofs.YtlnigpeoffaemaaDoor
open Go Go.Proofs.YtlnigpeoffaemaaDoor.Sx
set_option linter.unusedVariables false
abbrev sSm (p : InP) (m : Nat) (ts : List (Bool × Nat)) (s : Mc) (rs : List Rf) (b : List Int) : St := sP p m ts s rs b ++ [.own [.a (encInt .u32) 3 s.l] 45]
abbrev vSm (b : List Int) : List SVal := [.sli 11 (.c 0) 1 (.v 3) (some (.v 3)), .sli 10 (.c 0) 1 (.v b.length) none]
noncomputable def b16 : Code := Tryd.f17.body.getD .skip
noncomputable def c16 : Code := restC 2 b16
noncomputable def reg16 : Code := lft (lft c16)
noncomputable def blk16 : Code := rgt (lft c16)
noncomputable def round16 : Code := lft (lft blk16)
noncomputable def tm16 : Code := lft round16
noncomputable def bb16 : Code := lft (lft (rgt round16))
noncomputable def inc16 : Code := rgt (rgt round16)
noncomputable def end16 : Code := rgt c16
end Go.Proofs.YtlnigpeoffaemaaDoor

namespace Go.Proofs.YtlnigpeoffaemaaDoor
open Go Go.Proofs.YtlnigpeoffaemaaDoor.Sx
set_option linter.unusedVariables false
set_option maxRecDepth 100000 in
theorem sm_pre {p : InP} {m : Nat} {ts : List (Bool × Nat)} {s : Mc} {rs : List Rf} {b : List Int} : (execN cfgM 100 2 b16 (vSm b ++ List.replicate 24 .bad) (sSm p m ts s rs b)).bind (canonK 12 [(0,0)] 26 [0, 1, 4]) =
 

 (.br ((3 : Int) != (↑b.length : Int))

 (.ret (.ret, [.sli 11 (.c 0) 1 (.v 3) (some (.v 3)), .sli 10 (.c 0) 1 (.v b.length) none, .bl false], [.ro encLook [PUnit.unit], .own [.c (.sli 2 (.c 0) 1 (.v 3) (some (.v 3))), .c (.int .i64 s.2)] 67, .own [.a (encInt IntKind.u32) 3 s.1] 45, .many encAd s.3 86, .many encTw s.4 78, .own [.c (.ptr 1 0), .c (.sli 6 (.c 0) 1 (.v m) none), .c (.sli 7 (.c 0) 1 (.v m) (some (.v m)))] 70, .vec (encTs 3 4) ts 44, .own [.a encBool m s.5] 4, .ro (encInt IntKind.i64) p.3, .vec encRf rs 47, .vec (encInt IntKind.u32) b 45, .own [.a (encInt IntKind.u32) 3 s.1] 45]))

 (.ret (.normal, [.sli 11 (.c 0) 1 (.v 3) (some (.v 3)), .sli 10 (.c 0) 1 (.v b.length) none, .bl false], [.ro encLook [PUnit.unit], .own [.c (.sli 2 (.c 0) 1 (.v 3) (some (.v 3))), .c (.int .i64 s.2)] 67, .own [.a (encInt IntKind.u32) 3 s.1] 45, .many encAd s.3 86, .many encTw s.4 78, .own [.c (.ptr 1 0), .c (.sli 6 (.c 0) 1 (.v m) none), .c (.sli 7 (.c 0) 1 (.v m) (some (.v m)))] 70, .vec (encTs 3 4) ts 44, .own [.a encBool m s.5] 4, .ro (encInt IntKind.i64) p.3, .vec encRf rs 47, .vec (encInt IntKind.u32) b 45, .own [.a (encInt IntKind.u32) 3 s.1] 45]))) := by kernel_rfl
set_option maxRecDepth 100000 in
theorem sm_reg {p : InP} {m : Nat} {ts : List (Bool × Nat)} {s : Mc} {rs : List Rf} {b : List Int} : (exec cfgM 100 reg16 (fr 26 [0, 1] (vSm b)) (sSm p m ts s rs b)).bind (canonK 12 [(0,0)] 26 [0, 1, 5]) =
 

 (.ret (.normal, [.sli 11 (.c 0) 1 (.v 3) (some (.v 3)), .sli 10 (.c 0) 1 (.v b.length) none, .lit .i64 (0 : Int)], [.ro encLook [PUnit.unit], .own [.c (.sli 2 (.c 0) 1 (.v 3) (some (.v 3))), .c (.int .i64 s.2)] 67, .own [.a (encInt IntKind.u32) 3 s.1] 45, .many encAd s.3 86, .many encTw s.4 78, .own [.c (.ptr 1 0), .c (.sli 6 (.c 0) 1 (.v m) none), .c (.sli 7 (.c 0) 1 (.v m) (some (.v m)))] 70, .vec (encTs 3 4) ts 44, .own [.a encBool m s.5] 4, .ro (encInt IntKind.i64) p.3, .vec encRf rs 47, .vec (encInt IntKind.u32) b 45, .own [.a (encInt IntKind.u32) 3 s.1] 45])) := by kernel_rfl
set_option maxRecDepth 100000 in
theorem sm_tm {p : InP} {m : Nat} {ts : List (Bool × Nat)} {s : Mc} {rs : List Rf} {b : List Int} {i : Nat} : (exec cfgM 100 tm16 (fr 26 [0, 1, 5] (vSm b ++ [.int .i64 (i : Nat)])) (sSm p m ts s rs b)).bind (canonK 12 [(0,0)] 26 [0, 1, 5]) =
 

 (.br (decide ((↑i : Int) < (3 : Int)))

 (.ret (.normal, [.sli 11 (.c 0) 1 (.v 3) (some (.v 3)), .sli 10 (.c 0) 1 (.v b.length) none, .int .i64 (↑i : Int)], [.ro encLook [PUnit.unit], .own [.c (.sli 2 (.c 0) 1 (.v 3) (some (.v 3))), .c (.int .i64 s.2)] 67, .own [.a (encInt IntKind.u32) 3 s.1] 45, .many encAd s.3 86, .many encTw s.4 78, .own [.c (.ptr 1 0), .c (.sli 6 (.c 0) 1 (.v m) none), .c (.sli 7 (.c 0) 1 (.v m) (some (.v m)))] 70, .vec (encTs 3 4) ts 44, .own [.a encBool m s.5] 4, .ro (encInt IntKind.i64) p.3, .vec encRf rs 47, .vec (encInt IntKind.u32) b 45, .own [.a (encInt IntKind.u32) 3 s.1] 45]))

 (.ret (.exit 0, [.sli 11 (.c 0) 1 (.v 3) (some (.v 3)), .sli 10 (.c 0) 1 (.v b.length) none, .int .i64 (↑i : Int)], [.ro encLook [PUnit.unit], .own [.c (.sli 2 (.c 0) 1 (.v 3) (some (.v 3))), .c (.int .i64 s.2)] 67, .own [.a (encInt IntKind.u32) 3 s.1] 45, .many encAd s.3 86, .many encTw s.4 78, .own [.c (.ptr 1 0), .c (.sli 6 (.c 0) 1 (.v m) none), .c (.sli 7 (.c 0) 1 (.v m) (some (.v m)))] 70, .vec (encTs 3 4) ts 44, .own [.a encBool m s.5] 4, .ro (encInt IntKind.i64) p.3, .vec encRf rs 47, .vec (encInt IntKind.u32) b 45, .own [.a (encInt IntKind.u32) 3 s.1] 45]))) := by kernel_rfl
set_option maxRecDepth 100000 in
theorem sm_bb {p : InP} {m : Nat} {ts : List (Bool × Nat)} {s : Mc} {rs : List Rf} {b : List Int} {i : Nat} : (exec cfgM 100 bb16 (fr 26 [0, 1, 5] (vSm b ++ [.int .i64 (i : Nat)])) (sSm p m ts s rs b)).bind (canonK 12 [(0,0)] 26 [0, 1, 5, 4]) =
 

 (.need (decide ((0 : Int) ≤ (↑i : Int)) && decide ((↑i : Int).toNat < 3))

 (.need (decide ((↑i : Int).toNat < 3))

 (.need (decide ((0 : Int) ≤ (↑i : Int)) && decide ((↑i : Int).toNat < b.length))

 (.need (decide ((↑i : Int).toNat < b.length))

 (.br (s.1.getD (↑i : Int).toNat (0 : Int) != b.getD (↑i : Int).toNat (0 : Int))

 (.ret (.ret, [.sli 11 (.c 0) 1 (.v 3) (some (.v 3)), .sli 10 (.c 0) 1 (.v b.length) none, .int .i64 (↑i : Int), .bl false], [.ro encLook [PUnit.unit], .own [.c (.sli 2 (.c 0) 1 (.v 3) (some (.v 3))), .c (.int .i64 s.2)] 67, .own [.a (encInt IntKind.u32) 3 s.1] 45, .many encAd s.3 86, .many encTw s.4 78, .own [.c (.ptr 1 0), .c (.sli 6 (.c 0) 1 (.v m) none), .c (.sli 7 (.c 0) 1 (.v m) (some (.v m)))] 70, .vec (encTs 3 4) ts 44, .own [.a encBool m s.5] 4, .ro (encInt IntKind.i64) p.3, .vec encRf rs 47, .vec (encInt IntKind.u32) b 45, .own [.a (encInt IntKind.u32) 3 s.1] 45]))

 (.ret (.normal, [.sli 11 (.c 0) 1 (.v 3) (some (.v 3)), .sli 10 (.c 0) 1 (.v b.length) none, .int .i64 (↑i : Int), .bad], [.ro encLook [PUnit.unit], .own [.c (.sli 2 (.c 0) 1 (.v 3) (some (.v 3))), .c (.int .i64 s.2)] 67, .own [.a (encInt IntKind.u32) 3 s.1] 45, .many encAd s.3 86, .many encTw s.4 78, .own [.c (.ptr 1 0), .c (.sli 6 (.c 0) 1 (.v m) none), .c (.sli 7 (.c 0) 1 (.v m) (some (.v m)))] 70, .vec (encTs 3 4) ts 44, .own [.a encBool m s.5] 4, .ro (encInt IntKind.i64) p.3, .vec encRf rs 47, .vec (encInt IntKind.u32) b 45, .own [.a (encInt IntKind.u32) 3 s.1] 45]))))))) := by kernel_rfl
set_option maxRecDepth 100000 in
theorem sm_inc {p : InP} {m : Nat} {ts : List (Bool × Nat)} {s : Mc} {rs : List Rf} {b : List Int} {i : Nat} : (exec cfgM 100 inc16 (fr 26 [0, 1, 5] (vSm b ++ [.int .i64 (i : Nat)])) (sSm p m ts s rs b)).bind (canonK 12 [(0,0)] 26 [0, 1, 5]) =
 

 (.need (inR .i64 ((↑i : Int) + (1 : Int)))

 (.ret (.normal, [.sli 11 (.c 0) 1 (.v 3) (some (.v 3)), .sli 10 (.c 0) 1 (.v b.length) none, .int .i64 ((↑i : Int) + (1 : Int))], [.ro encLook [PUnit.unit], .own [.c (.sli 2 (.c 0) 1 (.v 3) (some (.v 3))), .c (.int .i64 s.2)] 67, .own [.a (encInt IntKind.u32) 3 s.1] 45, .many encAd s.3 86, .many encTw s.4 78, .own [.c (.ptr 1 0), .c (.sli 6 (.c 0) 1 (.v m) none), .c (.sli 7 (.c 0) 1 (.v m) (some (.v m)))] 70, .vec (encTs 3 4) ts 44, .own [.a encBool m s.5] 4, .ro (encInt IntKind.i64) p.3, .vec encRf rs 47, .vec (encInt IntKind.u32) b 45, .own [.a (encInt IntKind.u32) 3 s.1] 45]))) := by kernel_rfl
set_option maxRecDepth 100000 in
theorem sm_end {p : InP} {m : Nat} {ts : List (Bool × Nat)} {s : Mc} {rs : List Rf} {b : List Int} {i : Nat} : (exec cfgM 100 end16 (fr 26 [0, 1, 5] (vSm b ++ [.int .i64 (i : Nat)])) (sSm p m ts s rs b)).bind (canonK 12 [(0,0)] 26 [4]) =
 

 (.ret (.ret, [.bl true], [.ro encLook [PUnit.unit], .own [.c (.sli 2 (.c 0) 1 (.v 3) (some (.v 3))), .c (.int .i64 s.2)] 67, .own [.a (encInt IntKind.u32) 3 s.1] 45, .many encAd s.3 86, .many encTw s.4 78, .own [.c (.ptr 1 0), .c (.sli 6 (.c 0) 1 (.v m) none), .c (.sli 7 (.c 0) 1 (.v m) (some (.v m)))] 70, .vec (encTs 3 4) ts 44, .own [.a encBool m s.5] 4, .ro (encInt IntKind.i64) p.3, .vec encRf rs 47, .vec (encInt IntKind.u32) b 45, .own [.a (encInt IntKind.u32) 3 s.1] 45])) := by kernel_rfl
end Go.Proofs.YtlnigpeoffaemaaDoor

/- StepsPlays: two rows of the same words are the same; the words. -/
namespace Go.Proofs.YtlnigpeoffaemaaDoor
open Go Go.Proofs.YtlnigpeoffaemaaDoor.Sx
set_option linter.unusedVariables false
theorem b16_eq : Tryd.f17.body = some b16 := by kernel_rfl
theorem same_call {p : InP} {m : Nat} {ts : List (Bool × Nat)} {s : Mc} {rs : List Rf} (hl : s.l.length = 3) : ∀ (env : Env) (w : World) (vs : List Value), GlOk cfgM.gl env → Rep env (sSm p m ts s rs s.l) w → DenL env (vSm s.l) vs →
    Calls cfgM.P 17 ⟨vs⟩ w (Ends1 env (sSm p m ts s rs s.l) w (.bl true) (sSm p m ts s rs s.l)) := by
  intro env w vs hg hr hd
  have hb0 : env.length = 12 := hr.len
  refine AtK.begin (c := cfgM) Tryd.func17 b16_eq hg hr hd fun a0 hA => ?_
  refine pieceNTK2 (c := cfgM) cfgM_ok 2 [0, 1, 4] sm_pre (by omega) (by simp) hA ?_
  refine all_brp (by simp only [bne_iff_ne, ne_eq]; exact Iff.rfl) (fun h => by exfalso; first | exact h rfl | exact h trivial | (apply h; omega)) (fun _ => ?_)
  refine all_ret fun env1 a1 w1 hA1 => ?_
  simp only [Ex.to, Exit.then]
  have hA2 : AtK env [(0, 0)] ⟨w, inFoot env (sSm p m ts s rs s.l)⟩ env1 (fr 26 [0, 1] (vSm s.l)) (sSm p m ts s rs s.l) a1 w1 := hA1.on fun h => At.few (names := [0, 1]) (extra := [4]) (vals := vSm s.l) (ev := [.bl false]) h rfl
  refine wpS (by kernel_rfl) (wpS (by kernel_rfl) ?_)
  refine pieceTK2 (c := cfgM) cfgM_ok [0, 1, 5] sm_reg (by omega) (by simp) hA2 ?_
  refine all_ret fun env3 a3 w3 hA3 => ?_
  simp only [Ex.to, Exit.then]
  have hA4 := hA3.on fun h => h.gvals (vSm s.l ++ [.int .i64 ((0 : Nat) : Int)]) rfl
  refine wpB 0 (by kernel_rfl) (wpL (by kernel_rfl) (fun (i : Nat) a' w' => i ≤ s.l.length ∧ ∃ env', AtK env [(0, 0)] ⟨w, inFoot env (sSm p m ts s rs s.l)⟩ env' (fr 26 [0, 1, 5] (vSm s.l ++ [SVal.int IntKind.i64 ((i : Nat) : Int)])) (sSm p m ts s rs s.l) a' w') (fun (i : Nat) => s.l.length - i) (0 : Nat) ⟨Nat.zero_le _, env3, hA4⟩ ?_)
  rintro i a' w' ⟨hi, env', hA⟩
  refine (show round16.wp _ _ _ _ from wpS (by kernel_rfl) ?_)
  refine pieceTK2 (c := cfgM) cfgM_ok [0, 1, 5] sm_tm (by omega) (by simp) hA ?_
  refine all_brp (by simp only [decide_eq_true_eq]; exact Iff.rfl) (fun h1 => all_ret fun env1 a1 w1 hA1 => ?_) (fun h1 => all_ret fun env1 a1 w1 hA1 => ?_)
  · simp only [Ex.to, Exit.then]
    have hi' : i < s.l.length := by omega
    refine (show (rgt round16).wp _ _ _ _ from wpS (by kernel_rfl) (wpB 1 (by kernel_rfl) ?_))
    refine (show bb16.wp _ _ _ _ from ?_)
    refine pieceTK2 (c := cfgM) cfgM_ok [0, 1, 5, 4] sm_bb (by omega) (by simp) hA1 ?_
    simp only [Int.toNat_natCast]
    repeat' (first
      | refine all_needq (by simp only [decide_eq_true_eq, Bool.and_eq_true]; exact Iff.rfl) (by omega) ?_
      | refine all_brp (by simp only [bne_iff_ne, ne_eq]; exact Iff.rfl) (fun h => by exfalso; first | exact h rfl | exact h trivial | (apply h; omega)) (fun _ => ?_))
    refine all_ret fun env2 a2 w2 hA2 => ?_
    simp only [Ex.to, Exit.inBlock, Exit.then]
    have hA3 : AtK env [(0, 0)] ⟨w, inFoot env (sSm p m ts s rs s.l)⟩ env2 (fr 26 [0, 1, 5] (vSm s.l ++ [.int .i64 (i : Nat)])) (sSm p m ts s rs s.l) a2 w2 := hA2.on fun h => At.few (names := [0, 1, 5]) (extra := [4]) (vals := vSm s.l ++ [.int .i64 (i : Nat)]) (ev := [.bad]) h rfl
    refine (show inc16.wp _ _ _ _ from ?_)
    refine pieceTK2 (c := cfgM) cfgM_ok [0, 1, 5] sm_inc (by omega) (by simp) hA3 ?_
    refine all_needp (by simp only [inR_i64]; exact Iff.rfl) (by omega) fun _ => all_ret fun env4 a4 w4 hA4 => ?_
    exact ⟨i + 1, ⟨by omega, env4, hA4⟩, by omega⟩
  · simp only [Ex.to, Exit.then, Exit.inBlock, if_true]
    refine (show end16.wp _ _ _ _ from ?_)
    refine pieceTK2 (c := cfgM) cfgM_ok [4] sm_end (by omega) (by simp) hA1 ?_
    exact all_ret fun env4 a4 w4 hA4 => hA4.out (c := cfgM) (by kernel_rfl)

theorem ends_new {c : Cfg} (hsm : SmOk c) {n : Nat} {f : FuncId} {args : List SVal} {S : St} {t : T (SVal × St)} (ht : callF c n f args S = t) (hcal : callable c.P f = true) {s : SVal} {S' : St} (h : All (fun r => r = (s, S')) t) :
    ∀ (env : Env) (w : World) (vs : List Value), GlOk c.gl env → Rep env S w → DenL env args vs → Calls c.P f ⟨vs⟩ w (Ends1 env S w s S') := by
  intro env w vs hg hr hd
  obtain ⟨x, h1, rfl⟩ := T.all_at h.h
  rw [← ht] at h1
  exact (callF_ok hsm n f args S s S' env w vs h1 hcal hg hr hd).mono fun e w' he => he
set_option maxRecDepth 100000 in
theorem t_words {p : InP} {m : Nat} {ts : List (Bool × Nat)} {s : Mc} {rs : List Rf} {lw : List Int} : callF cfgM 100 18 [.ptr 1 0] (sP p m ts s rs lw) =
  (.need true (.need true (.need true (.need (decide (3 ≤ s.l.length)) (.need (decide (3 = (List.take 3 (List.drop 0 s.l)).length)) (.need (decide (3 = (List.take 3 (List.drop 0 s.l)).length * 1)) (.need ((List.take 3 (List.drop 0 s.l)).all fun x => ((encInt .u32).enc x).all scalar)
   (.ret (.sli 11 (.c 0) 1 (.v 3) (some (.v 3)), sP p m ts s rs lw ++ [.own [.a (encInt .u32) (List.take 3 (List.drop 0 s.l)).length (List.take 3 (List.drop 0 s.l))] 45]))))))))) := by kernel_rfl
theorem scalar_all (l : List Int) : (l.all fun x => ((encInt .u32).enc x).all scalar) = true := by
  rw [List.all_eq_true]; intro x _; rfl
theorem words_call {p : InP} {m : Nat} {ts : List (Bool × Nat)} {s : Mc} {rs : List Rf} {lw : List Int} (hl : s.l.length = 3) : ∀ (env : Env) (w : World) (vs : List Value), GlOk cfgM.gl env → Rep env (sP p m ts s rs lw) w → DenL env [.ptr 1 0] vs →
    Calls cfgM.P 18 ⟨vs⟩ w (Ends1 env (sP p m ts s rs lw) w (.sli 11 (.c 0) 1 (.v 3) (some (.v 3))) (sSm p m ts s rs lw)) := by
  refine ends_new cfgM_ok t_words (by kernel_rfl) ?_
  have h4 : List.take 3 (List.drop 0 s.l) = s.l := by rw [List.drop_zero, List.take_of_length_le (by omega)]
  rw [h4, hl]
  exact all_need rfl fun _ => all_need rfl fun _ => all_need rfl fun _ => all_need (by decide) fun _ => all_need (by decide) fun _ => all_need (by decide) fun _ => all_need (scalar_all s.l) fun _ => all_ret rfl
/-- the second half of a round: a pick, the words, their likeness -/
noncomputable def cfgE (p : InP) (m : Nat) (ts : List (Bool × Nat)) (s s2 : Mc) (rs : List Rf) : Cfg := { P := Tryd.prog, ex := exI, gl := [(0, 0)], sm := fun f => match f with
  | 12 => some (smPre 8 (gPick 3 m ts s))
  | 18 => some (smEq [.ptr 1 0] (sP p m ts s2 rs s2.l) (s2.l.length = 3) (.sli 11 (.c 0) 1 (.v 3) (some (.v 3))) (sSm p m ts s2 rs s2.l))
  | 17 => some (smEq (vSm s2.l) (sSm p m ts s2 rs s2.l) (s2.l.length = 3) (.bl true) (sSm p m ts s2 rs s2.l))
  | _ => none }
theorem cfgE_ok {p : InP} {m : Nat} {ts : List (Bool × Nat)} {s s2 : Mc} {rs : List Rf} : SmOk (cfgE p m ts s s2 rs) := by
  intro f g h
  simp only [cfgE] at h
  split at h
  · simp only [Option.some.injEq] at h; subst h
    exact smPre_ok (c := cfgM) (gl_lt (by omega)) gPick_ok
  · simp only [Option.some.injEq] at h; subst h
    exact smEq_ok (c := cfgE p m ts s s2 rs) fun h => words_call h
  · simp only [Option.some.injEq] at h; subst h
    exact smEq_ok (c := cfgE p m ts s s2 rs) fun h => same_call h
  · cases h
end Go.Proofs.YtlnigpeoffaemaaDoor

/- StepsPlays: the pieces of a round. -/
namespace Go.Proofs.YtlnigpeoffaemaaDoor
open Go Go.Proofs.YtlnigpeoffaemaaDoor.Sx
set_option linter.unusedVariables false
/-- the document's pick has one end -/
noncomputable def cfgF (p : InP) (m : Nat) (ts : List (Bool × Nat)) (s : Mc) (rs : List Rf) (lw : List Int) (k : Int) (P : Prop) (r : SVal) (S' : St) : Cfg := { P := Tryd.prog, ex := exI, gl := [(0, 0)], sm := fun g => match g with
  | 16 => some (smEq (aP m lw k) (sP p m ts s rs lw) P r S')
  | _ => none }
theorem cfgF_ok {p : InP} {m : Nat} {ts : List (Bool × Nat)} {s : Mc} {rs : List Rf} {lw : List Int} {k : Int} {P : Prop} {r : SVal} {S' : St}
    (h : P → ∀ (env : Env) (w : World) (vs : List Value), GlOk cfgM.gl env → Rep env (sP p m ts s rs lw) w → DenL env (aP m lw k) vs → Calls cfgM.P 16 ⟨vs⟩ w (Ends1 env (sP p m ts s rs lw) w r S')) : SmOk (cfgF p m ts s rs lw k P r S') := by
  intro g h' e
  simp only [cfgF] at e
  split at e
  · simp only [Option.some.injEq] at e; subst e
    exact smEq_ok (c := cfgF p m ts s rs lw k P r S') h
  · cases e
noncomputable def g4 : Code := restC 3 bb4b
noncomputable def h4 : Code := restC 4 bb4b
noncomputable def regI : Code := lft (lft h4)
noncomputable def blkI : Code := rgt (lft h4)
noncomputable def roundI : Code := lft (lft blkI)
noncomputable def tmI : Code := lft roundI
noncomputable def bbI : Code := lft (lft (rgt roundI))
noncomputable def incI : Code := rgt (rgt roundI)
noncomputable def fin4 : Code := rgt h4
abbrev n4g : List Nat := [1, 5, 8, 12, 13, 14, 17]
abbrev n4h : List Nat := [1, 5, 8, 12, 13, 14, 18]
abbrev n4i : List Nat := [1, 5, 8, 12, 13, 14, 18, 19]
abbrev v4f (p : InP) (m n : Nat) (i : Nat) : List SVal := v4b p m n ++ [.int .i64 (i : Nat)]
abbrev v4i (p : InP) (m n : Nat) (i : Nat) (a j : Nat) : List SVal := v4b p m n ++ [.int .i64 (i : Nat), .int .i64 (a : Nat), .int .i64 (j : Nat)]
end Go.Proofs.YtlnigpeoffaemaaDoor

namespace Go.Proofs.YtlnigpeoffaemaaDoor
open Go Go.Proofs.YtlnigpeoffaemaaDoor.Sx
set_option linter.unusedVariables false
set_option maxRecDepth 100000 in
theorem y_pb {p : InP} {m : Nat} {ts : List (Bool × Nat)} {s : Mc} {rs : List Rf} {lw : List Int} {i : Nat} {k : Int} {P : Prop} {e : Int} : (execN (cfgF p m ts s rs lw k P (tupA m lw e) (sP p m ts s rs lw)) 100 2 bb4b (fr 145 n4f (v4f p m lw.length i)) (sP p m ts s rs lw)).bind (canonK 9 [(0,0)] 145 n4g) =
 

 (.need (decide ((0 : Int) ≤ (↑i : Int)) && decide ((↑i : Int).toNat < p.3.length))

 (.need (decide ((↑i : Int).toNat < p.3.length))

 (.eq ([SVal.sli 9 (.c 0) 6 (.v m) none, .sli 10 (.c 0) 1 (.v lw.length) none, .int .i64 (p.3.getD (↑i : Int).toNat (0 : Int))] = [SVal.sli 9 (.c 0) 6 (.v m) none, .sli 10 (.c 0) 1 (.v lw.length) none, .int .i64 k] ∧ [Blk.ro encLook [PUnit.unit], .own [.c (.sli 2 (.c 0) 1 (.v 3) (some (.v 3))), .c (.int .i64 s.2)] 67, .own [.a (encInt IntKind.u32) 3 s.1] 45, .many encAd s.3 86, .many encTw s.4 78, .own [.c (.ptr 1 0), .c (.sli 6 (.c 0) 1 (.v m) none), .c (.sli 7 (.c 0) 1 (.v m) (some (.v m)))] 70, .vec (encTs 3 4) ts 44, .own [.a encBool m s.5] 4, .ro (encInt IntKind.i64) p.3, .vec encRf rs 47, .vec (encInt IntKind.u32) lw 45] = [Blk.ro encLook [PUnit.unit], .own [.c (.sli 2 (.c 0) 1 (.v 3) (some (.v 3))), .c (.int .i64 s.2)] 67, .own [.a (encInt IntKind.u32) 3 s.1] 45, .many encAd s.3 86, .many encTw s.4 78, .own [.c (.ptr 1 0), .c (.sli 6 (.c 0) 1 (.v m) none), .c (.sli 7 (.c 0) 1 (.v m) (some (.v m)))] 70, .vec (encTs 3 4) ts 44, .own [.a encBool m s.5] 4, .ro (encInt IntKind.i64) p.3, .vec encRf rs 47, .vec (encInt IntKind.u32) lw 45] ∧ P)

 (.ret (.normal, [.sli 8 (.c 0) 1 (.v p.3.length) (some (.v p.4)), .ptr 1 0, .sli 9 (.c 0) 6 (.v m) none, .ptr 5 0, .sli 10 (.c 0) 1 (.v lw.length) none, .int .i64 (↑i : Int), .lit .i64 e], [.ro encLook [PUnit.unit], .own [.c (.sli 2 (.c 0) 1 (.v 3) (some (.v 3))), .c (.int .i64 s.2)] 67, .own [.a (encInt IntKind.u32) 3 s.1] 45, .many encAd s.3 86, .many encTw s.4 78, .own [.c (.ptr 1 0), .c (.sli 6 (.c 0) 1 (.v m) none), .c (.sli 7 (.c 0) 1 (.v m) (some (.v m)))] 70, .vec (encTs 3 4) ts 44, .own [.a encBool m s.5] 4, .ro (encInt IntKind.i64) p.3, .vec encRf rs 47, .vec (encInt IntKind.u32) lw 45]))))) := by kernel_rfl
set_option maxRecDepth 100000 in
theorem y_p1 {p : InP} {m : Nat} {ts : List (Bool × Nat)} {s : Mc} {rs : List Rf} {lw : List Int} {i : Nat} {k : Int} {P : Prop} {rs' : List Rf} {lw' : List Int} : (execN (cfgF p m ts s rs lw k P (tup1 m lw) (sD2 p m ts s rs lw rs' lw')) 100 2 bb4b (fr 145 n4f (v4f p m lw.length i)) (sP p m ts s rs lw)).bind (canonK 9 [(0,0)] 145 n4g) =
 

 (.need (decide ((0 : Int) ≤ (↑i : Int)) && decide ((↑i : Int).toNat < p.3.length))

 (.need (decide ((↑i : Int).toNat < p.3.length))

 (.eq ([SVal.sli 9 (.c 0) 6 (.v m) none, .sli 10 (.c 0) 1 (.v lw.length) none, .int .i64 (p.3.getD (↑i : Int).toNat (0 : Int))] = [SVal.sli 9 (.c 0) 6 (.v m) none, .sli 10 (.c 0) 1 (.v lw.length) none, .int .i64 k] ∧ [Blk.ro encLook [PUnit.unit], .own [.c (.sli 2 (.c 0) 1 (.v 3) (some (.v 3))), .c (.int .i64 s.2)] 67, .own [.a (encInt IntKind.u32) 3 s.1] 45, .many encAd s.3 86, .many encTw s.4 78, .own [.c (.ptr 1 0), .c (.sli 6 (.c 0) 1 (.v m) none), .c (.sli 7 (.c 0) 1 (.v m) (some (.v m)))] 70, .vec (encTs 3 4) ts 44, .own [.a encBool m s.5] 4, .ro (encInt IntKind.i64) p.3, .vec encRf rs 47, .vec (encInt IntKind.u32) lw 45] = [Blk.ro encLook [PUnit.unit], .own [.c (.sli 2 (.c 0) 1 (.v 3) (some (.v 3))), .c (.int .i64 s.2)] 67, .own [.a (encInt IntKind.u32) 3 s.1] 45, .many encAd s.3 86, .many encTw s.4 78, .own [.c (.ptr 1 0), .c (.sli 6 (.c 0) 1 (.v m) none), .c (.sli 7 (.c 0) 1 (.v m) (some (.v m)))] 70, .vec (encTs 3 4) ts 44, .own [.a encBool m s.5] 4, .ro (encInt IntKind.i64) p.3, .vec encRf rs 47, .vec (encInt IntKind.u32) lw 45] ∧ P)

 (.ret (.normal, [.sli 8 (.c 0) 1 (.v p.3.length) (some (.v p.4)), .ptr 1 0, .sli 9 (.c 0) 6 (.v m) none, .ptr 5 0, .sli 10 (.c 0) 1 (.v lw.length) none, .int .i64 (↑i : Int), .lit .i64 (0 : Int)], [.ro encLook [PUnit.unit], .own [.c (.sli 2 (.c 0) 1 (.v 3) (some (.v 3))), .c (.int .i64 s.2)] 67, .own [.a (encInt IntKind.u32) 3 s.1] 45, .many encAd s.3 86, .many encTw s.4 78, .own [.c (.ptr 1 0), .c (.sli 6 (.c 0) 1 (.v m) none), .c (.sli 7 (.c 0) 1 (.v m) (some (.v m)))] 70, .vec (encTs 3 4) ts 44, .own [.a encBool m s.5] 4, .ro (encInt IntKind.i64) p.3, .vec encRf rs' 47, .vec (encInt IntKind.u32) lw' 45]))))) := by kernel_rfl
set_option maxRecDepth 100000 in
theorem y_p0 {p : InP} {m : Nat} {ts : List (Bool × Nat)} {s : Mc} {rs : List Rf} {lw : List Int} {i : Nat} {k : Int} {P : Prop} {rs' : List Rf} : (execN (cfgF p m ts s rs lw k P (tup0 m lw) (sD p m ts s rs lw rs')) 100 2 bb4b (fr 145 n4f (v4f p m lw.length i)) (sP p m ts s rs lw)).bind (canonK 9 [(0,0)] 145 n4g) =
 

 (.need (decide ((0 : Int) ≤ (↑i : Int)) && decide ((↑i : Int).toNat < p.3.length))

 (.need (decide ((↑i : Int).toNat < p.3.length))

 (.eq ([SVal.sli 9 (.c 0) 6 (.v m) none, .sli 10 (.c 0) 1 (.v lw.length) none, .int .i64 (p.3.getD (↑i : Int).toNat (0 : Int))] = [SVal.sli 9 (.c 0) 6 (.v m) none, .sli 10 (.c 0) 1 (.v lw.length) none, .int .i64 k] ∧ [Blk.ro encLook [PUnit.unit], .own [.c (.sli 2 (.c 0) 1 (.v 3) (some (.v 3))), .c (.int .i64 s.2)] 67, .own [.a (encInt IntKind.u32) 3 s.1] 45, .many encAd s.3 86, .many encTw s.4 78, .own [.c (.ptr 1 0), .c (.sli 6 (.c 0) 1 (.v m) none), .c (.sli 7 (.c 0) 1 (.v m) (some (.v m)))] 70, .vec (encTs 3 4) ts 44, .own [.a encBool m s.5] 4, .ro (encInt IntKind.i64) p.3, .vec encRf rs 47, .vec (encInt IntKind.u32) lw 45] = [Blk.ro encLook [PUnit.unit], .own [.c (.sli 2 (.c 0) 1 (.v 3) (some (.v 3))), .c (.int .i64 s.2)] 67, .own [.a (encInt IntKind.u32) 3 s.1] 45, .many encAd s.3 86, .many encTw s.4 78, .own [.c (.ptr 1 0), .c (.sli 6 (.c 0) 1 (.v m) none), .c (.sli 7 (.c 0) 1 (.v m) (some (.v m)))] 70, .vec (encTs 3 4) ts 44, .own [.a encBool m s.5] 4, .ro (encInt IntKind.i64) p.3, .vec encRf rs 47, .vec (encInt IntKind.u32) lw 45] ∧ P)

 (.ret (.normal, [.sli 8 (.c 0) 1 (.v p.3.length) (some (.v p.4)), .ptr 1 0, .sli 9 (.c 0) 6 (.v m) none, .ptr 5 0, .sli 10 (.c 0) 1 (.v lw.length) none, .int .i64 (↑i : Int), .lit .i64 (0 : Int)], [.ro encLook [PUnit.unit], .own [.c (.sli 2 (.c 0) 1 (.v 3) (some (.v 3))), .c (.int .i64 s.2)] 67, .own [.a (encInt IntKind.u32) 3 s.1] 45, .many encAd s.3 86, .many encTw s.4 78, .own [.c (.ptr 1 0), .c (.sli 6 (.c 0) 1 (.v m) none), .c (.sli 7 (.c 0) 1 (.v m) (some (.v m)))] 70, .vec (encTs 3 4) ts 44, .own [.a encBool m s.5] 4, .ro (encInt IntKind.i64) p.3, .vec encRf rs' 47, .vec (encInt IntKind.u32) lw 45]))))) := by kernel_rfl
set_option maxRecDepth 100000 in
theorem y_chk {p : InP} {m : Nat} {ts : List (Bool × Nat)} {s s2 : Mc} {rs : List Rf} {i : Nat} {e : Int} {n : Nat} : (execN (cfgE p m ts s s2 rs) 100 1 (restC 2 bb4b) (fr 145 n4g (v4f p m s2.l.length i ++ [.int .i64 e])) (sP p m ts s rs s2.l)).bind (canonK 9 [(0,0)] 145 n4f) =
 

 (.need (decide ((0 : Int) ≤ (↑i : Int)) && decide ((↑i : Int).toNat < p.3.length))

 (.need (decide ((↑i : Int).toNat < p.3.length))

 (.eq ([Blk.ro encLook [PUnit.unit], .own [.c (.sli 2 (.c 0) 1 (.v 3) (some (.v 3))), .c (.int .i64 s.2)] 67, .own [.a (encInt IntKind.u32) 3 s.1] 45, .many encAd s.3 86, .many encTw s.4 78, .own [.c (.ptr 1 0), .c (.sli 6 (.c 0) 1 (.v m) none), .c (.sli 7 (.c 0) 1 (.v m) (some (.v m)))] 70, .vec (encTs 3 4) ts 44, .own [.a encBool m s.5] 4] = [Blk.ro encLook [PUnit.unit], .own [.c (.sli 2 (.c 0) 1 (.v 3) (some (.v 3))), .c (.int .i64 s.2)] 67, .own [.a (encInt IntKind.u32) 3 s.1] 45, .many encAd s.3 86, .many encTw s.4 78, .own [.c (.ptr 1 0), .c (.sli 6 (.c 0) 1 (.v m) none), .c (.sli 7 (.c 0) 1 (.v m) (some (.v m)))] 70, .vec (encTs 3 4) ts 44, .own [.a encBool m s.5] 4] ∧ McOk 3 m ts s)

 (.br (errP m s (p.3.getD (↑i : Int).toNat (0 : Int)) != e)

 (.ret (.ret, [.sli 8 (.c 0) 1 (.v p.3.length) (some (.v p.4)), .ptr 1 0, .sli 9 (.c 0) 6 (.v m) none, .ptr 5 0, .sli 10 (.c 0) 1 (.v s2.1.length) none, .int .i64 (↑i : Int)], [.ro encLook [PUnit.unit], .own [.c (.sli 2 (.c 0) 1 (.v 3) (some (.v 3))), .c (.int .i64 (pickP m ts s (p.3.getD (↑i : Int).toNat (0 : Int))).c)] 67, .own [.a (encInt IntKind.u32) 3 (pickP m ts s (p.3.getD (↑i : Int).toNat (0 : Int))).l] 45, .many encAd (pickP m ts s (p.3.getD (↑i : Int).toNat (0 : Int))).ad 86, .many encTw (pickP m ts s (p.3.getD (↑i : Int).toNat (0 : Int))).tw 78, .own [.c (.ptr 1 0), .c (.sli 6 (.c 0) 1 (.v m) none), .c (.sli 7 (.c 0) 1 (.v m) (some (.v m)))] 70, .vec (encTs 3 4) ts 44, .own [.a encBool m (pickP m ts s (p.3.getD (↑i : Int).toNat (0 : Int))).ds] 4, .ro (encInt IntKind.i64) p.3, .vec encRf rs 47, .vec (encInt IntKind.u32) s2.1 45]))

 (.eq ([SVal.ptr 1 0] = [SVal.ptr 1 0] ∧ [Blk.ro encLook [PUnit.unit], .own [.c (.sli 2 (.c 0) 1 (.v 3) (some (.v 3))), .c (.int .i64 (pickP m ts s (p.3.getD (↑i : Int).toNat (0 : Int))).c)] 67, .own [.a (encInt IntKind.u32) 3 (pickP m ts s (p.3.getD (↑i : Int).toNat (0 : Int))).l] 45, .many encAd (pickP m ts s (p.3.getD (↑i : Int).toNat (0 : Int))).ad 86, .many encTw (pickP m ts s (p.3.getD (↑i : Int).toNat (0 : Int))).tw 78, .own [.c (.ptr 1 0), .c (.sli 6 (.c 0) 1 (.v m) none), .c (.sli 7 (.c 0) 1 (.v m) (some (.v m)))] 70, .vec (encTs 3 4) ts 44, .own [.a encBool m (pickP m ts s (p.3.getD (↑i : Int).toNat (0 : Int))).ds] 4, .ro (encInt IntKind.i64) p.3, .vec encRf rs 47, .vec (encInt IntKind.u32) s2.1 45] = [Blk.ro encLook [PUnit.unit], .own [.c (.sli 2 (.c 0) 1 (.v 3) (some (.v 3))), .c (.int .i64 s2.2)] 67, .own [.a (encInt IntKind.u32) 3 s2.1] 45, .many encAd s2.3 86, .many encTw s2.4 78, .own [.c (.ptr 1 0), .c (.sli 6 (.c 0) 1 (.v m) none), .c (.sli 7 (.c 0) 1 (.v m) (some (.v m)))] 70, .vec (encTs 3 4) ts 44, .own [.a encBool m s2.5] 4, .ro (encInt IntKind.i64) p.3, .vec encRf rs 47, .vec (encInt IntKind.u32) s2.1 45] ∧ s2.1.length = 3)

 (.eq ([SVal.sli 11 (.c 0) 1 (.v 3) (some (.v 3)), .sli 10 (.c 0) 1 (.v s2.1.length) none] = [SVal.sli 11 (.c 0) 1 (.v 3) (some (.v 3)), .sli 10 (.c 0) 1 (.v s2.1.length) none] ∧ [Blk.ro encLook [PUnit.unit], .own [.c (.sli 2 (.c 0) 1 (.v 3) (some (.v 3))), .c (.int .i64 s2.2)] 67, .own [.a (encInt IntKind.u32) 3 s2.1] 45, .many encAd s2.3 86, .many encTw s2.4 78, .own [.c (.ptr 1 0), .c (.sli 6 (.c 0) 1 (.v m) none), .c (.sli 7 (.c 0) 1 (.v m) (some (.v m)))] 70, .vec (encTs 3 4) ts 44, .own [.a encBool m s2.5] 4, .ro (encInt IntKind.i64) p.3, .vec encRf rs 47, .vec (encInt IntKind.u32) s2.1 45, .own [.a (encInt IntKind.u32) 3 s2.1] 45] = [Blk.ro encLook [PUnit.unit], .own [.c (.sli 2 (.c 0) 1 (.v 3) (some (.v 3))), .c (.int .i64 s2.2)] 67, .own [.a (encInt IntKind.u32) 3 s2.1] 45, .many encAd s2.3 86, .many encTw s2.4 78, .own [.c (.ptr 1 0), .c (.sli 6 (.c 0) 1 (.v m) none), .c (.sli 7 (.c 0) 1 (.v m) (some (.v m)))] 70, .vec (encTs 3 4) ts 44, .own [.a encBool m s2.5] 4, .ro (encInt IntKind.i64) p.3, .vec encRf rs 47, .vec (encInt IntKind.u32) s2.1 45, .own [.a (encInt IntKind.u32) 3 s2.1] 45] ∧ s2.1.length = 3)

 (.ret (.normal, [.sli 8 (.c 0) 1 (.v p.3.length) (some (.v p.4)), .ptr 1 0, .sli 9 (.c 0) 6 (.v m) none, .ptr 5 0, .sli 10 (.c 0) 1 (.v s2.1.length) none, .int .i64 (↑i : Int)], [.ro encLook [PUnit.unit], .own [.c (.sli 2 (.c 0) 1 (.v 3) (some (.v 3))), .c (.int .i64 s2.2)] 67, .own [.a (encInt IntKind.u32) 3 s2.1] 45, .many encAd s2.3 86, .many encTw s2.4 78, .own [.c (.ptr 1 0), .c (.sli 6 (.c 0) 1 (.v m) none), .c (.sli 7 (.c 0) 1 (.v m) (some (.v m)))] 70, .vec (encTs 3 4) ts 44, .own [.a encBool m s2.5] 4, .ro (encInt IntKind.i64) p.3, .vec encRf rs 47, .vec (encInt IntKind.u32) s2.1 45])))))))) := by kernel_rfl
set_option maxRecDepth 100000 in
theorem y_left {p : InP} {m : Nat} {ts : List (Bool × Nat)} {s : Mc} {rs : List Rf} {lw : List Int} {i n : Nat} : (execN cfgM 100 1 g4 (fr 145 n4f (v4f p m n i)) (sP p m ts s rs lw)).bind (canonK 9 [(0,0)] 145 n4h) =
 

 (.ret (.normal, [.sli 8 (.c 0) 1 (.v p.3.length) (some (.v p.4)), .ptr 1 0, .sli 9 (.c 0) 6 (.v m) none, .ptr 5 0, .sli 10 (.c 0) 1 (.v n) none, .int .i64 (↑i : Int), .lit .i64 (0 : Int)], [.ro encLook [PUnit.unit], .own [.c (.sli 2 (.c 0) 1 (.v 3) (some (.v 3))), .c (.int .i64 s.2)] 67, .own [.a (encInt IntKind.u32) 3 s.1] 45, .many encAd s.3 86, .many encTw s.4 78, .own [.c (.ptr 1 0), .c (.sli 6 (.c 0) 1 (.v m) none), .c (.sli 7 (.c 0) 1 (.v m) (some (.v m)))] 70, .vec (encTs 3 4) ts 44, .own [.a encBool m s.5] 4, .ro (encInt IntKind.i64) p.3, .vec encRf rs 47, .vec (encInt IntKind.u32) lw 45])) := by kernel_rfl
set_option maxRecDepth 100000 in
theorem y_regI {p : InP} {m : Nat} {ts : List (Bool × Nat)} {s : Mc} {rs : List Rf} {lw : List Int} {i n a : Nat} : (exec cfgM 100 regI (fr 145 n4h (v4f p m n i ++ [.int .i64 (a : Nat)])) (sP p m ts s rs lw)).bind (canonK 9 [(0,0)] 145 n4i) =
 

 (.ret (.normal, [.sli 8 (.c 0) 1 (.v p.3.length) (some (.v p.4)), .ptr 1 0, .sli 9 (.c 0) 6 (.v m) none, .ptr 5 0, .sli 10 (.c 0) 1 (.v n) none, .int .i64 (↑i : Int), .int .i64 (↑a : Int), .lit .i64 (0 : Int)], [.ro encLook [PUnit.unit], .own [.c (.sli 2 (.c 0) 1 (.v 3) (some (.v 3))), .c (.int .i64 s.2)] 67, .own [.a (encInt IntKind.u32) 3 s.1] 45, .many encAd s.3 86, .many encTw s.4 78, .own [.c (.ptr 1 0), .c (.sli 6 (.c 0) 1 (.v m) none), .c (.sli 7 (.c 0) 1 (.v m) (some (.v m)))] 70, .vec (encTs 3 4) ts 44, .own [.a encBool m s.5] 4, .ro (encInt IntKind.i64) p.3, .vec encRf rs 47, .vec (encInt IntKind.u32) lw 45])) := by kernel_rfl
set_option maxRecDepth 100000 in
theorem y_tmI {p : InP} {m : Nat} {ts : List (Bool × Nat)} {s : Mc} {rs : List Rf} {lw : List Int} {i n a j : Nat} : (exec cfgM 100 tmI (fr 145 n4i (v4i p m n i a j)) (sP p m ts s rs lw)).bind (canonK 9 [(0,0)] 145 n4i) =
 

 (.br (decide ((↑j : Int) < (↑m : Int)))

 (.ret (.normal, [.sli 8 (.c 0) 1 (.v p.3.length) (some (.v p.4)), .ptr 1 0, .sli 9 (.c 0) 6 (.v m) none, .ptr 5 0, .sli 10 (.c 0) 1 (.v n) none, .int .i64 (↑i : Int), .int .i64 (↑a : Int), .int .i64 (↑j : Int)], [.ro encLook [PUnit.unit], .own [.c (.sli 2 (.c 0) 1 (.v 3) (some (.v 3))), .c (.int .i64 s.2)] 67, .own [.a (encInt IntKind.u32) 3 s.1] 45, .many encAd s.3 86, .many encTw s.4 78, .own [.c (.ptr 1 0), .c (.sli 6 (.c 0) 1 (.v m) none), .c (.sli 7 (.c 0) 1 (.v m) (some (.v m)))] 70, .vec (encTs 3 4) ts 44, .own [.a encBool m s.5] 4, .ro (encInt IntKind.i64) p.3, .vec encRf rs 47, .vec (encInt IntKind.u32) lw 45]))

 (.ret (.exit 4, [.sli 8 (.c 0) 1 (.v p.3.length) (some (.v p.4)), .ptr 1 0, .sli 9 (.c 0) 6 (.v m) none, .ptr 5 0, .sli 10 (.c 0) 1 (.v n) none, .int .i64 (↑i : Int), .int .i64 (↑a : Int), .int .i64 (↑j : Int)], [.ro encLook [PUnit.unit], .own [.c (.sli 2 (.c 0) 1 (.v 3) (some (.v 3))), .c (.int .i64 s.2)] 67, .own [.a (encInt IntKind.u32) 3 s.1] 45, .many encAd s.3 86, .many encTw s.4 78, .own [.c (.ptr 1 0), .c (.sli 6 (.c 0) 1 (.v m) none), .c (.sli 7 (.c 0) 1 (.v m) (some (.v m)))] 70, .vec (encTs 3 4) ts 44, .own [.a encBool m s.5] 4, .ro (encInt IntKind.i64) p.3, .vec encRf rs 47, .vec (encInt IntKind.u32) lw 45]))) := by kernel_rfl
set_option maxRecDepth 100000 in
theorem y_bbI {p : InP} {m : Nat} {ts : List (Bool × Nat)} {s : Mc} {rs : List Rf} {lw : List Int} {i n a j : Nat} : (exec cfgM 100 bbI (fr 145 n4i (v4i p m n i a j)) (sP p m ts s rs lw)).bind (canonK 9 [(0,0)] 145 n4i) =
 

 (.br (decide ((0 : Int) ≤ (↑j : Int)))

 (.br (decide ((↑j : Int) < (↑m : Int)))

 (.need (decide ((0 : Int) ≤ (↑j : Int)) && decide ((↑j : Int).toNat < m))

 (.need (decide ((↑j : Int).toNat < m))

 (.need (decide ((0 : Int) ≤ (↑j : Int)) && decide ((↑j : Int).toNat < m))

 (.need (decide ((↑j : Int).toNat < rs.length))
 (.eq (T.need (decide ((↑j : Int).toNat < rs.length)) (T.ret ([SVal.int IntKind.i64 (rs.getD (↑j : Int).toNat { kind := (0 : Int), at' := (0 : Int), times := (0 : Int), has := false, v := (0 : Int), done := false }).kind, SVal.int IntKind.i64 (rs.getD (↑j : Int).toNat { kind := (0 : Int), at' := (0 : Int), times := (0 : Int), has := false, v := (0 : Int), done := false }).at', SVal.int IntKind.i64 (rs.getD (↑j : Int).toNat { kind := (0 : Int), at' := (0 : Int), times := (0 : Int), has := false, v := (0 : Int), done := false }).times, SVal.sb (rs.getD (↑j : Int).toNat { kind := (0 : Int), at' := (0 : Int), times := (0 : Int), has := false, v := (0 : Int), done := false }).has, SVal.int IntKind.u32 (rs.getD (↑j : Int).toNat { kind := (0 : Int), at' := (0 : Int), times := (0 : Int), has := false, v := (0 : Int), done := false }).v, SVal.sb (rs.getD (↑j : Int).toNat { kind := (0 : Int), at' := (0 : Int), times := (0 : Int), has := false, v := (0 : Int), done := false }).done].getD (5 : Nat) SVal.bad)) = T.need (decide ((↑j : Int).toNat < rs.length)) (T.ret ([SVal.int IntKind.i64 (rs.getD (↑j : Int).toNat { kind := (0 : Int), at' := (0 : Int), times := (0 : Int), has := false, v := (0 : Int), done := false }).kind, SVal.int IntKind.i64 (rs.getD (↑j : Int).toNat { kind := (0 : Int), at' := (0 : Int), times := (0 : Int), has := false, v := (0 : Int), done := false }).at', SVal.int IntKind.i64 (rs.getD (↑j : Int).toNat { kind := (0 : Int), at' := (0 : Int), times := (0 : Int), has := false, v := (0 : Int), done := false }).times, SVal.sb (rs.getD (↑j : Int).toNat { kind := (0 : Int), at' := (0 : Int), times := (0 : Int), has := false, v := (0 : Int), done := false }).has, SVal.int IntKind.u32 (rs.getD (↑j : Int).toNat { kind := (0 : Int), at' := (0 : Int), times := (0 : Int), has := false, v := (0 : Int), done := false }).v, SVal.sb (rs.getD (↑j : Int).toNat { kind := (0 : Int), at' := (0 : Int), times := (0 : Int), has := false, v := (0 : Int), done := false }).done].getD (5 : Nat) SVal.bad)))
 (.eq (T.need (decide ((↑j : Int).toNat < rs.length)) (T.ret ([SVal.int IntKind.i64 (rs.getD (↑j : Int).toNat { kind := (0 : Int), at' := (0 : Int), times := (0 : Int), has := false, v := (0 : Int), done := false }).kind, SVal.int IntKind.i64 (rs.getD (↑j : Int).toNat { kind := (0 : Int), at' := (0 : Int), times := (0 : Int), has := false, v := (0 : Int), done := false }).at', SVal.int IntKind.i64 (rs.getD (↑j : Int).toNat { kind := (0 : Int), at' := (0 : Int), times := (0 : Int), has := false, v := (0 : Int), done := false }).times, SVal.sb (rs.getD (↑j : Int).toNat { kind := (0 : Int), at' := (0 : Int), times := (0 : Int), has := false, v := (0 : Int), done := false }).has, SVal.int IntKind.u32 (rs.getD (↑j : Int).toNat { kind := (0 : Int), at' := (0 : Int), times := (0 : Int), has := false, v := (0 : Int), done := false }).v, SVal.sb (rs.getD (↑j : Int).toNat { kind := (0 : Int), at' := (0 : Int), times := (0 : Int), has := false, v := (0 : Int), done := false }).done].getD (5 : Nat) SVal.bad)) = T.need (decide ((↑j : Int).toNat < rs.length)) (T.ret ([SVal.int IntKind.i64 (rs.getD (↑j : Int).toNat { kind := (0 : Int), at' := (0 : Int), times := (0 : Int), has := false, v := (0 : Int), done := false }).kind, SVal.int IntKind.i64 (rs.getD (↑j : Int).toNat { kind := (0 : Int), at' := (0 : Int), times := (0 : Int), has := false, v := (0 : Int), done := false }).at', SVal.int IntKind.i64 (rs.getD (↑j : Int).toNat { kind := (0 : Int), at' := (0 : Int), times := (0 : Int), has := false, v := (0 : Int), done := false }).times, SVal.sb (rs.getD (↑j : Int).toNat { kind := (0 : Int), at' := (0 : Int), times := (0 : Int), has := false, v := (0 : Int), done := false }).has, SVal.int IntKind.u32 (rs.getD (↑j : Int).toNat { kind := (0 : Int), at' := (0 : Int), times := (0 : Int), has := false, v := (0 : Int), done := false }).v, SVal.sb (rs.getD (↑j : Int).toNat { kind := (0 : Int), at' := (0 : Int), times := (0 : Int), has := false, v := (0 : Int), done := false }).done].getD (5 : Nat) SVal.bad)))

 (.br (!s.5.getD (↑j : Int).toNat false == (rs.getD (↑j : Int).toNat { kind := (0 : Int), at' := (0 : Int), times := (0 : Int), has := false, v := (0 : Int), done := false }).done)

 (.ret (.ret, [.sli 8 (.c 0) 1 (.v p.3.length) (some (.v p.4)), .ptr 1 0, .sli 9 (.c 0) 6 (.v m) none, .ptr 5 0, .sli 10 (.c 0) 1 (.v n) none, .int .i64 (↑i : Int), .int .i64 (↑a : Int), .int .i64 (↑j : Int)], [.ro encLook [PUnit.unit], .own [.c (.sli 2 (.c 0) 1 (.v 3) (some (.v 3))), .c (.int .i64 s.2)] 67, .own [.a (encInt IntKind.u32) 3 s.1] 45, .many encAd s.3 86, .many encTw s.4 78, .own [.c (.ptr 1 0), .c (.sli 6 (.c 0) 1 (.v m) none), .c (.sli 7 (.c 0) 1 (.v m) (some (.v m)))] 70, .vec (encTs 3 4) ts 44, .own [.a encBool m s.5] 4, .ro (encInt IntKind.i64) p.3, .vec encRf rs 47, .vec (encInt IntKind.u32) lw 45]))

 (.need (decide ((0 : Int) ≤ (↑j : Int)) && decide ((↑j : Int).toNat < m))

 (.need (decide ((↑j : Int).toNat < rs.length))

 (.br (!(rs.getD (↑j : Int).toNat { kind := (0 : Int), at' := (0 : Int), times := (0 : Int), has := false, v := (0 : Int), done := false }).done)

 (.need (inR .i64 ((↑a : Int) + (1 : Int)))

 (.ret (.normal, [.sli 8 (.c 0) 1 (.v p.3.length) (some (.v p.4)), .ptr 1 0, .sli 9 (.c 0) 6 (.v m) none, .ptr 5 0, .sli 10 (.c 0) 1 (.v n) none, .int .i64 (↑i : Int), .int .i64 ((↑a : Int) + (1 : Int)), .int .i64 (↑j : Int)], [.ro encLook [PUnit.unit], .own [.c (.sli 2 (.c 0) 1 (.v 3) (some (.v 3))), .c (.int .i64 s.2)] 67, .own [.a (encInt IntKind.u32) 3 s.1] 45, .many encAd s.3 86, .many encTw s.4 78, .own [.c (.ptr 1 0), .c (.sli 6 (.c 0) 1 (.v m) none), .c (.sli 7 (.c 0) 1 (.v m) (some (.v m)))] 70, .vec (encTs 3 4) ts 44, .own [.a encBool m s.5] 4, .ro (encInt IntKind.i64) p.3, .vec encRf rs 47, .vec (encInt IntKind.u32) lw 45])))

 (.ret (.normal, [.sli 8 (.c 0) 1 (.v p.3.length) (some (.v p.4)), .ptr 1 0, .sli 9 (.c 0) 6 (.v m) none, .ptr 5 0, .sli 10 (.c 0) 1 (.v n) none, .int .i64 (↑i : Int), .int .i64 (↑a : Int), .int .i64 (↑j : Int)], [.ro encLook [PUnit.unit], .own [.c (.sli 2 (.c 0) 1 (.v 3) (some (.v 3))), .c (.int .i64 s.2)] 67, .own [.a (encInt IntKind.u32) 3 s.1] 45, .many encAd s.3 86, .many encTw s.4 78, .own [.c (.ptr 1 0), .c (.sli 6 (.c 0) 1 (.v m) none), .c (.sli 7 (.c 0) 1 (.v m) (some (.v m)))] 70, .vec (encTs 3 4) ts 44, .own [.a encBool m s.5] 4, .ro (encInt IntKind.i64) p.3, .vec encRf rs 47, .vec (encInt IntKind.u32) lw 45]))))))))))))

 (.need (decide ((0 : Int) ≤ (↑j : Int)) && decide ((↑j : Int).toNat < m))

 (.need (decide ((↑j : Int).toNat < rs.length))
 (.eq (T.need (decide ((↑j : Int).toNat < rs.length)) (T.ret ([SVal.int IntKind.i64 (rs.getD (↑j : Int).toNat { kind := (0 : Int), at' := (0 : Int), times := (0 : Int), has := false, v := (0 : Int), done := false }).kind, SVal.int IntKind.i64 (rs.getD (↑j : Int).toNat { kind := (0 : Int), at' := (0 : Int), times := (0 : Int), has := false, v := (0 : Int), done := false }).at', SVal.int IntKind.i64 (rs.getD (↑j : Int).toNat { kind := (0 : Int), at' := (0 : Int), times := (0 : Int), has := false, v := (0 : Int), done := false }).times, SVal.sb (rs.getD (↑j : Int).toNat { kind := (0 : Int), at' := (0 : Int), times := (0 : Int), has := false, v := (0 : Int), done := false }).has, SVal.int IntKind.u32 (rs.getD (↑j : Int).toNat { kind := (0 : Int), at' := (0 : Int), times := (0 : Int), has := false, v := (0 : Int), done := false }).v, SVal.sb (rs.getD (↑j : Int).toNat { kind := (0 : Int), at' := (0 : Int), times := (0 : Int), has := false, v := (0 : Int), done := false }).done].getD (5 : Nat) SVal.bad)) = T.need (decide ((↑j : Int).toNat < rs.length)) (T.ret ([SVal.int IntKind.i64 (rs.getD (↑j : Int).toNat { kind := (0 : Int), at' := (0 : Int), times := (0 : Int), has := false, v := (0 : Int), done := false }).kind, SVal.int IntKind.i64 (rs.getD (↑j : Int).toNat { kind := (0 : Int), at' := (0 : Int), times := (0 : Int), has := false, v := (0 : Int), done := false }).at', SVal.int IntKind.i64 (rs.getD (↑j : Int).toNat { kind := (0 : Int), at' := (0 : Int), times := (0 : Int), has := false, v := (0 : Int), done := false }).times, SVal.sb (rs.getD (↑j : Int).toNat { kind := (0 : Int), at' := (0 : Int), times := (0 : Int), has := false, v := (0 : Int), done := false }).has, SVal.int IntKind.u32 (rs.getD (↑j : Int).toNat { kind := (0 : Int), at' := (0 : Int), times := (0 : Int), has := false, v := (0 : Int), done := false }).v, SVal.sb (rs.getD (↑j : Int).toNat { kind := (0 : Int), at' := (0 : Int), times := (0 : Int), has := false, v := (0 : Int), done := false }).done].getD (5 : Nat) SVal.bad)))
 (.eq (T.need (decide ((↑j : Int).toNat < rs.length)) (T.ret ([SVal.int IntKind.i64 (rs.getD (↑j : Int).toNat { kind := (0 : Int), at' := (0 : Int), times := (0 : Int), has := false, v := (0 : Int), done := false }).kind, SVal.int IntKind.i64 (rs.getD (↑j : Int).toNat { kind := (0 : Int), at' := (0 : Int), times := (0 : Int), has := false, v := (0 : Int), done := false }).at', SVal.int IntKind.i64 (rs.getD (↑j : Int).toNat { kind := (0 : Int), at' := (0 : Int), times := (0 : Int), has := false, v := (0 : Int), done := false }).times, SVal.sb (rs.getD (↑j : Int).toNat { kind := (0 : Int), at' := (0 : Int), times := (0 : Int), has := false, v := (0 : Int), done := false }).has, SVal.int IntKind.u32 (rs.getD (↑j : Int).toNat { kind := (0 : Int), at' := (0 : Int), times := (0 : Int), has := false, v := (0 : Int), done := false }).v, SVal.sb (rs.getD (↑j : Int).toNat { kind := (0 : Int), at' := (0 : Int), times := (0 : Int), has := false, v := (0 : Int), done := false }).done].getD (5 : Nat) SVal.bad)) = T.need (decide ((↑j : Int).toNat < rs.length)) (T.ret ([SVal.int IntKind.i64 (rs.getD (↑j : Int).toNat { kind := (0 : Int), at' := (0 : Int), times := (0 : Int), has := false, v := (0 : Int), done := false }).kind, SVal.int IntKind.i64 (rs.getD (↑j : Int).toNat { kind := (0 : Int), at' := (0 : Int), times := (0 : Int), has := false, v := (0 : Int), done := false }).at', SVal.int IntKind.i64 (rs.getD (↑j : Int).toNat { kind := (0 : Int), at' := (0 : Int), times := (0 : Int), has := false, v := (0 : Int), done := false }).times, SVal.sb (rs.getD (↑j : Int).toNat { kind := (0 : Int), at' := (0 : Int), times := (0 : Int), has := false, v := (0 : Int), done := false }).has, SVal.int IntKind.u32 (rs.getD (↑j : Int).toNat { kind := (0 : Int), at' := (0 : Int), times := (0 : Int), has := false, v := (0 : Int), done := false }).v, SVal.sb (rs.getD (↑j : Int).toNat { kind := (0 : Int), at' := (0 : Int), times := (0 : Int), has := false, v := (0 : Int), done := false }).done].getD (5 : Nat) SVal.bad)))

 (.br (!false == (rs.getD (↑j : Int).toNat { kind := (0 : Int), at' := (0 : Int), times := (0 : Int), has := false, v := (0 : Int), done := false }).done)

 (.ret (.ret, [.sli 8 (.c 0) 1 (.v p.3.length) (some (.v p.4)), .ptr 1 0, .sli 9 (.c 0) 6 (.v m) none, .ptr 5 0, .sli 10 (.c 0) 1 (.v n) none, .int .i64 (↑i : Int), .int .i64 (↑a : Int), .int .i64 (↑j : Int)], [.ro encLook [PUnit.unit], .own [.c (.sli 2 (.c 0) 1 (.v 3) (some (.v 3))), .c (.int .i64 s.2)] 67, .own [.a (encInt IntKind.u32) 3 s.1] 45, .many encAd s.3 86, .many encTw s.4 78, .own [.c (.ptr 1 0), .c (.sli 6 (.c 0) 1 (.v m) none), .c (.sli 7 (.c 0) 1 (.v m) (some (.v m)))] 70, .vec (encTs 3 4) ts 44, .own [.a encBool m s.5] 4, .ro (encInt IntKind.i64) p.3, .vec encRf rs 47, .vec (encInt IntKind.u32) lw 45]))

 (.need (decide ((0 : Int) ≤ (↑j : Int)) && decide ((↑j : Int).toNat < m))

 (.need (decide ((↑j : Int).toNat < rs.length))

 (.br (!(rs.getD (↑j : Int).toNat { kind := (0 : Int), at' := (0 : Int), times := (0 : Int), has := false, v := (0 : Int), done := false }).done)

 (.need (inR .i64 ((↑a : Int) + (1 : Int)))

 (.ret (.normal, [.sli 8 (.c 0) 1 (.v p.3.length) (some (.v p.4)), .ptr 1 0, .sli 9 (.c 0) 6 (.v m) none, .ptr 5 0, .sli 10 (.c 0) 1 (.v n) none, .int .i64 (↑i : Int), .int .i64 ((↑a : Int) + (1 : Int)), .int .i64 (↑j : Int)], [.ro encLook [PUnit.unit], .own [.c (.sli 2 (.c 0) 1 (.v 3) (some (.v 3))), .c (.int .i64 s.2)] 67, .own [.a (encInt IntKind.u32) 3 s.1] 45, .many encAd s.3 86, .many encTw s.4 78, .own [.c (.ptr 1 0), .c (.sli 6 (.c 0) 1 (.v m) none), .c (.sli 7 (.c 0) 1 (.v m) (some (.v m)))] 70, .vec (encTs 3 4) ts 44, .own [.a encBool m s.5] 4, .ro (encInt IntKind.i64) p.3, .vec encRf rs 47, .vec (encInt IntKind.u32) lw 45])))

 (.ret (.normal, [.sli 8 (.c 0) 1 (.v p.3.length) (some (.v p.4)), .ptr 1 0, .sli 9 (.c 0) 6 (.v m) none, .ptr 5 0, .sli 10 (.c 0) 1 (.v n) none, .int .i64 (↑i : Int), .int .i64 (↑a : Int), .int .i64 (↑j : Int)], [.ro encLook [PUnit.unit], .own [.c (.sli 2 (.c 0) 1 (.v 3) (some (.v 3))), .c (.int .i64 s.2)] 67, .own [.a (encInt IntKind.u32) 3 s.1] 45, .many encAd s.3 86, .many encTw s.4 78, .own [.c (.ptr 1 0), .c (.sli 6 (.c 0) 1 (.v m) none), .c (.sli 7 (.c 0) 1 (.v m) (some (.v m)))] 70, .vec (encTs 3 4) ts 44, .own [.a encBool m s.5] 4, .ro (encInt IntKind.i64) p.3, .vec encRf rs 47, .vec (encInt IntKind.u32) lw 45])))))))))))

 (.need (decide ((0 : Int) ≤ (↑j : Int)) && decide ((↑j : Int).toNat < m))

 (.need (decide ((↑j : Int).toNat < rs.length))
 (.eq (T.need (decide ((↑j : Int).toNat < rs.length)) (T.ret ([SVal.int IntKind.i64 (rs.getD (↑j : Int).toNat { kind := (0 : Int), at' := (0 : Int), times := (0 : Int), has := false, v := (0 : Int), done := false }).kind, SVal.int IntKind.i64 (rs.getD (↑j : Int).toNat { kind := (0 : Int), at' := (0 : Int), times := (0 : Int), has := false, v := (0 : Int), done := false }).at', SVal.int IntKind.i64 (rs.getD (↑j : Int).toNat { kind := (0 : Int), at' := (0 : Int), times := (0 : Int), has := false, v := (0 : Int), done := false }).times, SVal.sb (rs.getD (↑j : Int).toNat { kind := (0 : Int), at' := (0 : Int), times := (0 : Int), has := false, v := (0 : Int), done := false }).has, SVal.int IntKind.u32 (rs.getD (↑j : Int).toNat { kind := (0 : Int), at' := (0 : Int), times := (0 : Int), has := false, v := (0 : Int), done := false }).v, SVal.sb (rs.getD (↑j : Int).toNat { kind := (0 : Int), at' := (0 : Int), times := (0 : Int), has := false, v := (0 : Int), done := false }).done].getD (5 : Nat) SVal.bad)) = T.need (decide ((↑j : Int).toNat < rs.length)) (T.ret ([SVal.int IntKind.i64 (rs.getD (↑j : Int).toNat { kind := (0 : Int), at' := (0 : Int), times := (0 : Int), has := false, v := (0 : Int), done := false }).kind, SVal.int IntKind.i64 (rs.getD (↑j : Int).toNat { kind := (0 : Int), at' := (0 : Int), times := (0 : Int), has := false, v := (0 : Int), done := false }).at', SVal.int IntKind.i64 (rs.getD (↑j : Int).toNat { kind := (0 : Int), at' := (0 : Int), times := (0 : Int), has := false, v := (0 : Int), done := false }).times, SVal.sb (rs.getD (↑j : Int).toNat { kind := (0 : Int), at' := (0 : Int), times := (0 : Int), has := false, v := (0 : Int), done := false }).has, SVal.int IntKind.u32 (rs.getD (↑j : Int).toNat { kind := (0 : Int), at' := (0 : Int), times := (0 : Int), has := false, v := (0 : Int), done := false }).v, SVal.sb (rs.getD (↑j : Int).toNat { kind := (0 : Int), at' := (0 : Int), times := (0 : Int), has := false, v := (0 : Int), done := false }).done].getD (5 : Nat) SVal.bad)))
 (.eq (T.need (decide ((↑j : Int).toNat < rs.length)) (T.ret ([SVal.int IntKind.i64 (rs.getD (↑j : Int).toNat { kind := (0 : Int), at' := (0 : Int), times := (0 : Int), has := false, v := (0 : Int), done := false }).kind, SVal.int IntKind.i64 (rs.getD (↑j : Int).toNat { kind := (0 : Int), at' := (0 : Int), times := (0 : Int), has := false, v := (0 : Int), done := false }).at', SVal.int IntKind.i64 (rs.getD (↑j : Int).toNat { kind := (0 : Int), at' := (0 : Int), times := (0 : Int), has := false, v := (0 : Int), done := false }).times, SVal.sb (rs.getD (↑j : Int).toNat { kind := (0 : Int), at' := (0 : Int), times := (0 : Int), has := false, v := (0 : Int), done := false }).has, SVal.int IntKind.u32 (rs.getD (↑j : Int).toNat { kind := (0 : Int), at' := (0 : Int), times := (0 : Int), has := false, v := (0 : Int), done := false }).v, SVal.sb (rs.getD (↑j : Int).toNat { kind := (0 : Int), at' := (0 : Int), times := (0 : Int), has := false, v := (0 : Int), done := false }).done].getD (5 : Nat) SVal.bad)) = T.need (decide ((↑j : Int).toNat < rs.length)) (T.ret ([SVal.int IntKind.i64 (rs.getD (↑j : Int).toNat { kind := (0 : Int), at' := (0 : Int), times := (0 : Int), has := false, v := (0 : Int), done := false }).kind, SVal.int IntKind.i64 (rs.getD (↑j : Int).toNat { kind := (0 : Int), at' := (0 : Int), times := (0 : Int), has := false, v := (0 : Int), done := false }).at', SVal.int IntKind.i64 (rs.getD (↑j : Int).toNat { kind := (0 : Int), at' := (0 : Int), times := (0 : Int), has := false, v := (0 : Int), done := false }).times, SVal.sb (rs.getD (↑j : Int).toNat { kind := (0 : Int), at' := (0 : Int), times := (0 : Int), has := false, v := (0 : Int), done := false }).has, SVal.int IntKind.u32 (rs.getD (↑j : Int).toNat { kind := (0 : Int), at' := (0 : Int), times := (0 : Int), has := false, v := (0 : Int), done := false }).v, SVal.sb (rs.getD (↑j : Int).toNat { kind := (0 : Int), at' := (0 : Int), times := (0 : Int), has := false, v := (0 : Int), done := false }).done].getD (5 : Nat) SVal.bad)))

 (.br (!false == (rs.getD (↑j : Int).toNat { kind := (0 : Int), at' := (0 : Int), times := (0 : Int), has := false, v := (0 : Int), done := false }).done)

 (.ret (.ret, [.sli 8 (.c 0) 1 (.v p.3.length) (some (.v p.4)), .ptr 1 0, .sli 9 (.c 0) 6 (.v m) none, .ptr 5 0, .sli 10 (.c 0) 1 (.v n) none, .int .i64 (↑i : Int), .int .i64 (↑a : Int), .int .i64 (↑j : Int)], [.ro encLook [PUnit.unit], .own [.c (.sli 2 (.c 0) 1 (.v 3) (some (.v 3))), .c (.int .i64 s.2)] 67, .own [.a (encInt IntKind.u32) 3 s.1] 45, .many encAd s.3 86, .many encTw s.4 78, .own [.c (.ptr 1 0), .c (.sli 6 (.c 0) 1 (.v m) none), .c (.sli 7 (.c 0) 1 (.v m) (some (.v m)))] 70, .vec (encTs 3 4) ts 44, .own [.a encBool m s.5] 4, .ro (encInt IntKind.i64) p.3, .vec encRf rs 47, .vec (encInt IntKind.u32) lw 45]))

 (.need (decide ((0 : Int) ≤ (↑j : Int)) && decide ((↑j : Int).toNat < m))

 (.need (decide ((↑j : Int).toNat < rs.length))

 (.br (!(rs.getD (↑j : Int).toNat { kind := (0 : Int), at' := (0 : Int), times := (0 : Int), has := false, v := (0 : Int), done := false }).done)

 (.need (inR .i64 ((↑a : Int) + (1 : Int)))

 (.ret (.normal, [.sli 8 (.c 0) 1 (.v p.3.length) (some (.v p.4)), .ptr 1 0, .sli 9 (.c 0) 6 (.v m) none, .ptr 5 0, .sli 10 (.c 0) 1 (.v n) none, .int .i64 (↑i : Int), .int .i64 ((↑a : Int) + (1 : Int)), .int .i64 (↑j : Int)], [.ro encLook [PUnit.unit], .own [.c (.sli 2 (.c 0) 1 (.v 3) (some (.v 3))), .c (.int .i64 s.2)] 67, .own [.a (encInt IntKind.u32) 3 s.1] 45, .many encAd s.3 86, .many encTw s.4 78, .own [.c (.ptr 1 0), .c (.sli 6 (.c 0) 1 (.v m) none), .c (.sli 7 (.c 0) 1 (.v m) (some (.v m)))] 70, .vec (encTs 3 4) ts 44, .own [.a encBool m s.5] 4, .ro (encInt IntKind.i64) p.3, .vec encRf rs 47, .vec (encInt IntKind.u32) lw 45])))

 (.ret (.normal, [.sli 8 (.c 0) 1 (.v p.3.length) (some (.v p.4)), .ptr 1 0, .sli 9 (.c 0) 6 (.v m) none, .ptr 5 0, .sli 10 (.c 0) 1 (.v n) none, .int .i64 (↑i : Int), .int .i64 (↑a : Int), .int .i64 (↑j : Int)], [.ro encLook [PUnit.unit], .own [.c (.sli 2 (.c 0) 1 (.v 3) (some (.v 3))), .c (.int .i64 s.2)] 67, .own [.a (encInt IntKind.u32) 3 s.1] 45, .many encAd s.3 86, .many encTw s.4 78, .own [.c (.ptr 1 0), .c (.sli 6 (.c 0) 1 (.v m) none), .c (.sli 7 (.c 0) 1 (.v m) (some (.v m)))] 70, .vec (encTs 3 4) ts 44, .own [.a encBool m s.5] 4, .ro (encInt IntKind.i64) p.3, .vec encRf rs 47, .vec (encInt IntKind.u32) lw 45]))))))))))) := by kernel_rfl
set_option maxRecDepth 100000 in
theorem y_incI {p : InP} {m : Nat} {ts : List (Bool × Nat)} {s : Mc} {rs : List Rf} {lw : List Int} {i n a j : Nat} : (exec cfgM 100 incI (fr 145 n4i (v4i p m n i a j)) (sP p m ts s rs lw)).bind (canonK 9 [(0,0)] 145 n4i) =
 

 (.need (inR .i64 ((↑j : Int) + (1 : Int)))

 (.ret (.normal, [.sli 8 (.c 0) 1 (.v p.3.length) (some (.v p.4)), .ptr 1 0, .sli 9 (.c 0) 6 (.v m) none, .ptr 5 0, .sli 10 (.c 0) 1 (.v n) none, .int .i64 (↑i : Int), .int .i64 (↑a : Int), .int .i64 ((↑j : Int) + (1 : Int))], [.ro encLook [PUnit.unit], .own [.c (.sli 2 (.c 0) 1 (.v 3) (some (.v 3))), .c (.int .i64 s.2)] 67, .own [.a (encInt IntKind.u32) 3 s.1] 45, .many encAd s.3 86, .many encTw s.4 78, .own [.c (.ptr 1 0), .c (.sli 6 (.c 0) 1 (.v m) none), .c (.sli 7 (.c 0) 1 (.v m) (some (.v m)))] 70, .vec (encTs 3 4) ts 44, .own [.a encBool m s.5] 4, .ro (encInt IntKind.i64) p.3, .vec encRf rs 47, .vec (encInt IntKind.u32) lw 45]))) := by kernel_rfl
set_option maxRecDepth 100000 in
theorem y_fin {p : InP} {m : Nat} {ts : List (Bool × Nat)} {s : Mc} {rs : List Rf} {lw : List Int} {i n a j : Nat} : (exec (cfgR 3 m ts s) 100 fin4 (fr 145 n4i (v4i p m n i a j)) (sP p m ts s rs lw)).bind (canonK 9 [(0,0)] 145 n4f) =
 

 (.eq ([Blk.ro encLook [PUnit.unit], .own [.c (.sli 2 (.c 0) 1 (.v 3) (some (.v 3))), .c (.int .i64 s.2)] 67, .own [.a (encInt IntKind.u32) 3 s.1] 45, .many encAd s.3 86, .many encTw s.4 78, .own [.c (.ptr 1 0), .c (.sli 6 (.c 0) 1 (.v m) none), .c (.sli 7 (.c 0) 1 (.v m) (some (.v m)))] 70, .vec (encTs 3 4) ts 44, .own [.a encBool m s.5] 4] = [Blk.ro encLook [PUnit.unit], .own [.c (.sli 2 (.c 0) 1 (.v 3) (some (.v 3))), .c (.int .i64 s.2)] 67, .own [.a (encInt IntKind.u32) 3 s.1] 45, .many encAd s.3 86, .many encTw s.4 78, .own [.c (.ptr 1 0), .c (.sli 6 (.c 0) 1 (.v m) none), .c (.sli 7 (.c 0) 1 (.v m) (some (.v m)))] 70, .vec (encTs 3 4) ts 44, .own [.a encBool m s.5] 4] ∧ s.5.length = m ∧ m ≤ 1000)

 (.br (leftP s.5 != (↑a : Int))

 (.ret (.ret, [.sli 8 (.c 0) 1 (.v p.3.length) (some (.v p.4)), .ptr 1 0, .sli 9 (.c 0) 6 (.v m) none, .ptr 5 0, .sli 10 (.c 0) 1 (.v n) none, .int .i64 (↑i : Int)], [.ro encLook [PUnit.unit], .own [.c (.sli 2 (.c 0) 1 (.v 3) (some (.v 3))), .c (.int .i64 s.2)] 67, .own [.a (encInt IntKind.u32) 3 s.1] 45, .many encAd s.3 86, .many encTw s.4 78, .own [.c (.ptr 1 0), .c (.sli 6 (.c 0) 1 (.v m) none), .c (.sli 7 (.c 0) 1 (.v m) (some (.v m)))] 70, .vec (encTs 3 4) ts 44, .own [.a encBool m s.5] 4, .ro (encInt IntKind.i64) p.3, .vec encRf rs 47, .vec (encInt IntKind.u32) lw 45]))

 (.br (decide ((0 : Int) ≤ (↑m : Int)))

 (.br (decide ((↑m : Int) < (↑m : Int)))

 (.need (decide ((0 : Int) ≤ (↑m : Int)) && decide ((↑m : Int).toNat < m))

 (.need (decide ((↑m : Int).toNat < m))

 (.br (s.5.getD (↑m : Int).toNat false)

 (.ret (.ret, [.sli 8 (.c 0) 1 (.v p.3.length) (some (.v p.4)), .ptr 1 0, .sli 9 (.c 0) 6 (.v m) none, .ptr 5 0, .sli 10 (.c 0) 1 (.v n) none, .int .i64 (↑i : Int)], [.ro encLook [PUnit.unit], .own [.c (.sli 2 (.c 0) 1 (.v 3) (some (.v 3))), .c (.int .i64 s.2)] 67, .own [.a (encInt IntKind.u32) 3 s.1] 45, .many encAd s.3 86, .many encTw s.4 78, .own [.c (.ptr 1 0), .c (.sli 6 (.c 0) 1 (.v m) none), .c (.sli 7 (.c 0) 1 (.v m) (some (.v m)))] 70, .vec (encTs 3 4) ts 44, .own [.a encBool m s.5] 4, .ro (encInt IntKind.i64) p.3, .vec encRf rs 47, .vec (encInt IntKind.u32) lw 45]))

 (.ret (.normal, [.sli 8 (.c 0) 1 (.v p.3.length) (some (.v p.4)), .ptr 1 0, .sli 9 (.c 0) 6 (.v m) none, .ptr 5 0, .sli 10 (.c 0) 1 (.v n) none, .int .i64 (↑i : Int)], [.ro encLook [PUnit.unit], .own [.c (.sli 2 (.c 0) 1 (.v 3) (some (.v 3))), .c (.int .i64 s.2)] 67, .own [.a (encInt IntKind.u32) 3 s.1] 45, .many encAd s.3 86, .many encTw s.4 78, .own [.c (.ptr 1 0), .c (.sli 6 (.c 0) 1 (.v m) none), .c (.sli 7 (.c 0) 1 (.v m) (some (.v m)))] 70, .vec (encTs 3 4) ts 44, .own [.a encBool m s.5] 4, .ro (encInt IntKind.i64) p.3, .vec encRf rs 47, .vec (encInt IntKind.u32) lw 45])))))

 (.ret (.normal, [.sli 8 (.c 0) 1 (.v p.3.length) (some (.v p.4)), .ptr 1 0, .sli 9 (.c 0) 6 (.v m) none, .ptr 5 0, .sli 10 (.c 0) 1 (.v n) none, .int .i64 (↑i : Int)], [.ro encLook [PUnit.unit], .own [.c (.sli 2 (.c 0) 1 (.v 3) (some (.v 3))), .c (.int .i64 s.2)] 67, .own [.a (encInt IntKind.u32) 3 s.1] 45, .many encAd s.3 86, .many encTw s.4 78, .own [.c (.ptr 1 0), .c (.sli 6 (.c 0) 1 (.v m) none), .c (.sli 7 (.c 0) 1 (.v m) (some (.v m)))] 70, .vec (encTs 3 4) ts 44, .own [.a encBool m s.5] 4, .ro (encInt IntKind.i64) p.3, .vec encRf rs 47, .vec (encInt IntKind.u32) lw 45])))

 (.ret (.normal, [.sli 8 (.c 0) 1 (.v p.3.length) (some (.v p.4)), .ptr 1 0, .sli 9 (.c 0) 6 (.v m) none, .ptr 5 0, .sli 10 (.c 0) 1 (.v n) none, .int .i64 (↑i : Int)], [.ro encLook [PUnit.unit], .own [.c (.sli 2 (.c 0) 1 (.v 3) (some (.v 3))), .c (.int .i64 s.2)] 67, .own [.a (encInt IntKind.u32) 3 s.1] 45, .many encAd s.3 86, .many encTw s.4 78, .own [.c (.ptr 1 0), .c (.sli 6 (.c 0) 1 (.v m) none), .c (.sli 7 (.c 0) 1 (.v m) (some (.v m)))] 70, .vec (encTs 3 4) ts 44, .own [.a encBool m s.5] 4, .ro (encInt IntKind.i64) p.3, .vec encRf rs 47, .vec (encInt IntKind.u32) lw 45]))))) := by kernel_rfl
end Go.Proofs.YtlnigpeoffaemaaDoor

/- StepsPlays, plain: both machines go together; how many are left. -/
namespace Go.Proofs.YtlnigpeoffaemaaDoor
open Go Go.Proofs.YtlnigpeoffaemaaDoor.Sx
set_option linter.unusedVariables false
structure PairP (m : Nat) (ts : List (Bool × Nat)) (s : Mc) (rs : List Rf) : Prop where
  ok : McOk 3 m ts s
  m6 : m ≤ 6
  u32 : U32s s.l
  lr : rs.length = m
  ds : ∀ k, k < m → s.ds.getD k false = (rs.getD k encRf.dflt).done
  rel : ∀ k, k < m → (rs.getD k encRf.dflt).done = false → Rel (tkV s (tsAt ts k)) (rs.getD k encRf.dflt)
theorem pairP_step {m : Nat} {ts : List (Bool × Nat)} {s : Mc} {rs : List Rf} (h : PairP m ts s rs) {k : Int} (h0 : 0 ≤ k) (hk : k.toNat < m) (hd : (rs.getD k.toNat encRf.dflt).done = false) :
    PairP m ts (pickP m ts s k) (rs.set k.toNat (rStep (rs.getD k.toNat encRf.dflt) s.l).1) ∧ (pickP m ts s k).l = (rStep (rs.getD k.toNat encRf.dflt) s.l).2 := by
  have hin : inP k m = true := (inP_iff _ _).2 ⟨h0, by omega⟩
  have hV := pick_view h.ok hin (by rw [h.ds _ hk]; exact hd)
  have hb := both_step (h.rel _ hk hd) h.u32 h.ok.ll
  have hl : (pickP m ts s k).l = (rStep (rs.getD k.toNat encRf.dflt) s.l).2 := by rw [hV.l, hb.words]
  refine ⟨⟨ok_pick h.ok k, h.m6, by rw [hl]; exact hb.u32, by simp [h.lr], fun j hj => ?_, fun j hj hdj => ?_⟩, hl⟩
  · rw [hV.ds]
    by_cases hjk : j = k.toNat
    · rw [hjk, Sx.getD_set_self (by rw [h.ok.ld]; exact hk), Sx.getD_set_self (by rw [h.lr]; exact hk)]
      exact hb.done
    · rw [Sx.getD_set_ne (fun h => hjk h.symm), Sx.getD_set_ne (fun h => hjk h.symm)]
      exact h.ds j hj
  · by_cases hjk : j = k.toNat
    · rw [hjk, Sx.getD_set_self (by rw [h.lr]; exact hk)] at hdj ⊢
      rw [hV.own]
      exact hb.rel hdj
    · rw [Sx.getD_set_ne (fun h => hjk h.symm)] at hdj ⊢
      rw [hV.keep j hj hjk]
      exact h.rel j hj hdj
theorem pick_stay {m : Nat} {ts : List (Bool × Nat)} {s : Mc} {k : Int} (h : ¬ (0 ≤ k ∧ k < (m : Int)) ∨ s.ds.getD k.toNat false = true) : pickP m ts s k = s := by
  unfold pickP
  cases hb : inP k m with
  | false => rfl
  | true =>
    rcases h with h | h
    · exact absurd ((inP_iff _ _).1 hb) h
    · simp only [h]
/-- how many of the first are not done -/
def cntR (rs : List Rf) (j : Nat) : Nat := ((rs.take j).filter fun r => !r.done).length
theorem cntR_succ {rs : List Rf} {j : Nat} (h : j < rs.length) : cntR rs (j + 1) = cntR rs j + (match (rs.getD j encRf.dflt).done with | true => 0 | false => 1) := by
  unfold cntR
  have hj : rs.getD j encRf.dflt = rs[j] := by simp [List.getD_eq_getElem?_getD, h]
  rw [List.take_add_one, List.getElem?_eq_getElem h, hj]
  simp only [Option.toList, List.filter_append, List.length_append]
  cases hq : rs[j].done <;> simp [List.filter_cons, hq]
theorem cntR_le (rs : List Rf) (j : Nat) : cntR rs j ≤ j := by
  unfold cntR
  exact Nat.le_trans (List.length_filter_le _ _) (List.length_take_le _ _)
theorem left_cnt : ∀ {ds : List Bool} {rs : List Rf}, ds.length = rs.length → (∀ k, k < rs.length → ds.getD k false = (rs.getD k encRf.dflt).done) → leftP ds = ((rs.filter fun r => !r.done).length : Nat)
  | [], [], _, _ => rfl
  | [], _ :: _, h, _ => by simp at h
  | _ :: _, [], h, _ => by simp at h
  | d :: ds, r :: rs, h, hh => by
    have ih := left_cnt (ds := ds) (rs := rs) (by simpa using h) (fun k hk => by have := hh (k + 1) (by simpa using hk); simpa [List.getD_eq_getElem?_getD] using this)
    have h0 : d = r.done := by have := hh 0 (by simp); simpa [List.getD_eq_getElem?_getD] using this
    subst h0
    unfold leftP at ih ⊢
    simp only [List.filter_cons]
    cases r.done <;> simp <;> omega
theorem pair_left {m : Nat} {ts : List (Bool × Nat)} {s : Mc} {rs : List Rf} (h : PairP m ts s rs) : leftP s.ds = (cntR rs m : Nat) := by
  have := left_cnt (ds := s.ds) (rs := rs) (by rw [h.ok.ld, h.lr]) (fun k hk => h.ds k (by rw [← h.lr]; exact hk))
  rw [this, cntR, List.take_of_length_le (by rw [h.lr]; exact Nat.le_refl _)]
theorem pair_start {p : InP} (h6 : p.kinds.length ≤ 6) {c : Int} : PairP p.kinds.length (made p p.kinds.length).2.2 ⟨[0, 0, 0], c, (made p p.kinds.length).1, (made p p.kinds.length).2.1, List.replicate p.kinds.length false⟩ (rsP p p.kinds.length) := by
  have hM := made_all (p := p) p.kinds.length (Nat.le_refl _)
  generalize made p p.kinds.length = S at *
  obtain ⟨xs, ys, ts⟩ := S
  obtain ⟨h1, h2, h3, h4, h5⟩ := hM
  simp only at h1 h3 h4 h5 ⊢
  refine ⟨⟨rfl, h1, by simp, fun i hi => ?_, h4⟩, h6, ?_, h2, fun k hk => ?_, fun k hk hd => ?_⟩
  · have ha := h3 i hi
    have hr := (h5 i hi).le
    unfold tkL at hr
    unfold tkOk
    cases hb : (tsAt ts i).1 with
    | true =>
      rw [hb] at ha hr
      simp only at ha hr ⊢
      exact ⟨ha, Int.le_trans hr (by decide)⟩
    | false =>
      rw [hb] at ha hr
      simp only at ha hr ⊢
      exact ⟨ha, Int.le_trans hr (by decide)⟩
  · intro x hx
    simp only [List.mem_cons, List.not_mem_nil, or_false] at hx
    rcases hx with rfl | rfl | rfl <;> omega
  · rw [Sx.getD_replicate, (h5 k hk).done]
  · exact h5 k hk
end Go.Proofs.YtlnigpeoffaemaaDoor

/- StepsPlays: a round. -/
namespace Go.Proofs.YtlnigpeoffaemaaDoor
open Go Go.Proofs.YtlnigpeoffaemaaDoor.Sx
set_option linter.unusedVariables false
structure IxP where
  i : Nat
  s : Mc
  rs : List Rf
def InvP (w0 : From) (p : InP) (m : Nat) (ts : List (Bool × Nat)) (j : IxP) (a : Act) (w : World) : Prop :=
  j.i ≤ 80 ∧ PairP m ts j.s j.rs ∧ ∃ env, At [(0, 0)] w0 env (fr 145 n4f (v4f p m j.s.l.length j.i)) (sP p m ts j.s j.rs j.s.l) a w
abbrev RP (w0 : From) (p : InP) (m : Nat) (ts : List (Bool × Nat)) (i : Nat) : Exit → Act → World → Prop :=
  Exit.then (fun a' w' => ∃ k, InvP w0 p m ts k a' w' ∧ 80 - k.i < 80 - i) (Exit.inBlock 2 (Exit.then (end4.wp Tryd.prog (Q4 w0)) (Q4 w0)))
abbrev KP (w0 : From) (p : InP) (m : Nat) (ts : List (Bool × Nat)) (i : Nat) : Exit → Act → World → Prop :=
  Exit.inBlock 3 (Exit.then (inc4b.wp Tryd.prog (RP w0 p m ts i)) (RP w0 p m ts i))
theorem end4_ok {w0 : From} {p : InP} {m : Nat} {ts : List (Bool × Nat)} {s : Mc} {rs : List Rf} {lw : List Int} {i : Nat} {env : Env} {a : Act} {w : World} (h : At [(0, 0)] w0 env (fr 145 n4f (v4f p m lw.length i)) (sP p m ts s rs lw) a w) : end4.wp Tryd.prog (Q4 w0) a w :=
  pieceT0 (c := cfgM) cfgM_ok [4] x_endb h (all_ret fun env' a' w' hA' => hA'.said (by kernel_rfl))
theorem incP_wp {w0 : From} {p : InP} {m : Nat} {ts : List (Bool × Nat)} {s : Mc} {rs : List Rf} {i : Nat} (hi : i < 80) (hp : PairP m ts s rs) {env : Env} {a : Act} {w : World} (h : At [(0, 0)] w0 env (fr 145 n4f (v4f p m s.l.length i)) (sP p m ts s rs s.l) a w) : inc4b.wp Tryd.prog (RP w0 p m ts i) a w := by
  refine pieceT0 (c := cfgM) cfgM_ok n4f x_incb h ?_
  refine all_needp (by simp only [inR_i64]; exact Iff.rfl) (by omega) fun _ => all_ret fun env' a' w' hA' => ?_
  exact ⟨⟨i + 1, s, rs⟩, ⟨by simp only; omega, hp, env', hA'⟩, by simp only; omega⟩
theorem fin_ok {w0 : From} {p : InP} {m : Nat} {ts : List (Bool × Nat)} {s : Mc} {rs : List Rf} {i : Nat} (hi : i < 80) (hp : PairP m ts s rs) {env : Env} {a : Act} {w : World} (h : At [(0, 0)] w0 env (fr 145 n4i (v4i p m s.l.length i (cntR rs m) m)) (sP p m ts s rs s.l) a w) : fin4.wp Tryd.prog (KP w0 p m ts i) a w := by
  have h6 := hp.m6
  refine pieceT0 (c := cfgR 3 m ts s) cfgR_ok n4f y_fin h ?_
  refine all_eq ⟨rfl, hp.ok.ld, by omega⟩ ?_
  have hl := pair_left hp
  refine all_brp (by rw [bne_iff_ne]) (fun hh => absurd hl hh) (fun _ => ?_)
  have fin : ∀ {env' : Env} {a' : Act} {w' : World}, At [(0, 0)] w0 env' (fr 145 n4f (v4f p m s.l.length i)) (sP p m ts s rs s.l) a' w' → KP w0 p m ts i .normal a' w' := by
    intro env' a' w' h'
    simp only [KP, Exit.inBlock, Exit.then]
    exact incP_wp hi hp h'
  refine all_br (fun _ => ?_) (fun hh => by simp at hh)
  refine all_br (fun hh => by simp at hh) (fun hh => ?_)
  exact all_ret fun env' a' w' h' => fin h'
set_option maxHeartbeats 1000000 in
theorem roundI_ok {w0 : From} {p : InP} {m : Nat} {ts : List (Bool × Nat)} {s : Mc} {rs : List Rf} {i : Nat} (hi : i < 80) (hp : PairP m ts s rs) {env : Env} {a : Act} {w : World} (h : At [(0, 0)] w0 env (fr 145 n4h (v4f p m s.l.length i ++ [.int .i64 ((0 : Nat) : Int)])) (sP p m ts s rs s.l) a w) : h4.wp Tryd.prog (KP w0 p m ts i) a w := by
  have h6 := hp.m6
  have hlr := hp.lr
  refine wpS (by kernel_rfl) (wpS (by kernel_rfl) ?_)
  refine pieceT0 (c := cfgM) cfgM_ok n4i y_regI h (all_ret fun env1 a1 w1 hA1 => ?_)
  simp only [Ex.to, Exit.then]
  have hA2 := hA1.gvals (v4i p m s.l.length i (cntR rs 0) 0) rfl
  refine wpB 4 (by kernel_rfl) (wpL (by kernel_rfl) (fun (j : Nat) a' w' => j ≤ m ∧ ∃ env', At [(0, 0)] w0 env' (fr 145 n4i (v4i p m s.l.length i (cntR rs j) j)) (sP p m ts s rs s.l) a' w') (fun (j : Nat) => m - j) (0 : Nat) ⟨Nat.zero_le _, env1, hA2⟩ ?_)
  rintro j a' w' ⟨hj, env', hA⟩
  refine (show roundI.wp _ _ _ _ from wpS (by kernel_rfl) ?_)
  refine pieceT0 (c := cfgM) cfgM_ok n4i y_tmI hA ?_
  refine all_brp (by simp only [decide_eq_true_eq]; exact Iff.rfl) (fun h1 => all_ret fun env1 a1 w1 hA1 => ?_) (fun h1 => all_ret fun env1 a1 w1 hA1 => ?_)
  · simp only [Ex.to, Exit.then]
    have hj' : j < m := by omega
    refine (show (rgt roundI).wp _ _ _ _ from wpS (by kernel_rfl) (wpB 5 (by kernel_rfl) ?_))
    refine (show bbI.wp _ _ _ _ from ?_)
    refine pieceT0 (c := cfgM) cfgM_ok n4i y_bbI hA1 ?_
    simp only [Int.toNat_natCast]
    have hds := hp.ds j hj'
    have hcs := cntR_succ (rs := rs) (j := j) (by omega)
    have hcl := cntR_le rs j
    have fin : ∀ {n : Int}, n = (cntR rs (j + 1) : Nat) → ∀ {env' : Env} {a' : Act} {w' : World}, At [(0, 0)] w0 env' (fr 145 n4i (v4b p m s.l.length ++ [.int .i64 (i : Nat), .int .i64 n, .int .i64 (j : Nat)])) (sP p m ts s rs s.l) a' w' →
        Exit.inBlock 5 (Exit.then (incI.wp Tryd.prog (Exit.then (fun a' w' => ∃ q, (q ≤ m ∧ ∃ env', At [(0, 0)] w0 env' (fr 145 n4i (v4i p m s.l.length i (cntR rs q) q)) (sP p m ts s rs s.l) a' w') ∧ m - q < m - j) (Exit.inBlock 4 (Exit.then (fin4.wp Tryd.prog (KP w0 p m ts i)) (KP w0 p m ts i)))))
          (Exit.then (fun a' w' => ∃ q, (q ≤ m ∧ ∃ env', At [(0, 0)] w0 env' (fr 145 n4i (v4i p m s.l.length i (cntR rs q) q)) (sP p m ts s rs s.l) a' w') ∧ m - q < m - j) (Exit.inBlock 4 (Exit.then (fin4.wp Tryd.prog (KP w0 p m ts i)) (KP w0 p m ts i))))) .normal a' w' := by
      intro n hn env' a' w' h'
      subst hn
      simp only [Exit.inBlock, Exit.then]
      refine pieceT0 (c := cfgM) cfgM_ok n4i (y_incI (a := cntR rs (j + 1))) h' ?_
      refine all_needp (by simp only [inR_i64]; exact Iff.rfl) (by omega) fun _ => all_ret fun env'' a'' w'' hA' => ?_
      exact ⟨j + 1, ⟨by omega, env'', hA'⟩, by omega⟩
    refine all_br (fun _ => ?_) (fun hh => by simp at hh)
    refine all_brp (by simp only [decide_eq_true_eq]; exact Iff.rfl) (fun _ => ?_) (fun hh => by exfalso; omega)
    rw [show (⟨0, 0, 0, false, 0, false⟩ : Rf) = encRf.dflt from rfl, hds]
    refine all_needq (by simp only [decide_eq_true_eq, Bool.and_eq_true]; exact Iff.rfl) (by omega) ?_
    refine all_needq (by simp only [decide_eq_true_eq]; exact Iff.rfl) (by omega) ?_
    refine all_needq (by simp only [decide_eq_true_eq, Bool.and_eq_true]; exact Iff.rfl) (by omega) ?_
    refine all_needq (by simp only [decide_eq_true_eq]; exact Iff.rfl) (by omega) ?_
    repeat' (first | refine all_eq trivial ?_ | refine all_eq rfl ?_)
    refine all_br (fun hh => by exfalso; cases hq : (rs.getD j encRf.dflt).done <;> rw [hq] at hh <;> simp at hh) (fun _ => ?_)
    refine all_needq (by simp only [decide_eq_true_eq, Bool.and_eq_true]; exact Iff.rfl) (by omega) ?_
    refine all_needq (by simp only [decide_eq_true_eq]; exact Iff.rfl) (by omega) ?_
    refine all_br (fun hh => ?_) (fun hh => ?_)
    · have hd : (rs.getD j encRf.dflt).done = false := by simpa using hh
      rw [hd] at hcs
      simp only at hcs
      refine all_needp (by simp only [inR_i64]; exact Iff.rfl) (by omega) fun _ => all_ret fun env' a' w' hA' => ?_
      exact fin (by omega) hA'
    · have hd : (rs.getD j encRf.dflt).done = true := by simpa using hh
      rw [hd] at hcs
      simp only at hcs
      refine all_ret fun env' a' w' hA' => ?_
      exact fin (by omega) hA'
  · have hjm : j = m := by omega
    subst hjm
    simp only [Ex.to, Exit.then, Exit.inBlock, if_true]
    exact fin_ok hi hp hA1
end Go.Proofs.YtlnigpeoffaemaaDoor

/- StepsPlays: its rounds. -/
namespace Go.Proofs.YtlnigpeoffaemaaDoor
open Go Go.Proofs.YtlnigpeoffaemaaDoor.Sx
set_option linter.unusedVariables false
set_option maxHeartbeats 1000000 in
/-- behind the document's pick -/
theorem chk_ok {w0 : From} {p : InP} {m : Nat} {ts : List (Bool × Nat)} {s : Mc} {rs : List Rf} {i : Nat} (hi : i < 80) (hip : i < p.picks.length) (hs : McOk 3 m ts s) {e : Int} (he : errP m s (p.picks.getD i 0) = e) {l' : List Int} (hp : PairP m ts (pickP m ts s (p.picks.getD i 0)) rs) (hl : (pickP m ts s (p.picks.getD i 0)).l = l')
    {env : Env} {a : Act} {w : World} (h : At [(0, 0)] w0 env (fr 145 n4g (v4f p m l'.length i ++ [.int .i64 e])) (sP p m ts s rs l') a w) : (restC 2 bb4b).wp Tryd.prog (KP w0 p m ts i) a w := by
  subst hl
  refine pieceNT0 (c := cfgE p m ts s (pickP m ts s (p.picks.getD i 0)) rs) cfgE_ok 1 n4f (y_chk (n := 0)) h ?_
  simp only [Int.toNat_natCast]
  refine all_needq (by simp only [decide_eq_true_eq, Bool.and_eq_true]; exact Iff.rfl) (by omega) ?_
  refine all_needq (by simp only [decide_eq_true_eq]; exact Iff.rfl) (by omega) ?_
  refine all_eq ⟨by first | exact True.intro | rfl, hs⟩ ?_
  refine all_brp (by rw [bne_iff_ne]) (fun hh => absurd he hh) (fun _ => ?_)
  refine all_eq ⟨by first | exact True.intro | rfl, by first | exact True.intro | rfl, hp.ok.ll⟩ (all_eq ⟨by first | exact True.intro | rfl, by first | exact True.intro | rfl, hp.ok.ll⟩ ?_)
  refine all_ret fun env1 a1 w1 hA1 => ?_
  simp only [Ex.to, Exit.then]
  generalize pickP m ts s (p.picks.getD i 0) = s2 at *
  refine (show g4.wp Tryd.prog (KP w0 p m ts i) a1 w1 from ?_)
  refine pieceNT0 (c := cfgM) cfgM_ok 1 n4h (y_left (n := s2.l.length)) hA1 (all_ret fun env2 a2 w2 hA2 => ?_)
  simp only [Ex.to, Exit.then]
  have hA3 : At [(0, 0)] w0 env2 (fr 145 n4h (v4f p m s2.l.length i ++ [.int .i64 ((0 : Nat) : Int)])) (sP p m ts s2 rs s2.l) a2 w2 := hA2.gvals _ rfl
  exact (show h4.wp Tryd.prog (KP w0 p m ts i) a2 w2 from roundI_ok hi hp hA3)
set_option maxHeartbeats 1000000 in
theorem roundP_ok {w0 : From} {p : InP} {m : Nat} {ts : List (Bool × Nat)} {j : IxP} {a : Act} {w : World} (h : InvP w0 p m ts j a w) : round4b.wp Tryd.prog (RP w0 p m ts j.i) a w := by
  obtain ⟨i, s, rs⟩ := j
  obtain ⟨hi, hp, env, hA⟩ := h
  simp only at hi hp hA ⊢
  have out : ∀ {env' : Env} {a' : Act} {w' : World}, At [(0, 0)] w0 env' (fr 145 n4f (v4f p m s.l.length i)) (sP p m ts s rs s.l) a' w' → RP w0 p m ts i (.exit 2) a' w' := by
    intro env' a' w' h
    simp only [RP, Exit.then, Exit.inBlock, if_true]
    exact end4_ok h
  refine wpS (by kernel_rfl) ?_
  refine pieceT0 (c := cfgM) cfgM_ok n4f x_tmb hA ?_
  refine all_brp (by simp only [decide_eq_true_eq]; exact Iff.rfl) (fun h1 => ?_) (fun h1 => all_ret fun _ _ _ h => out h)
  refine all_brp (by simp only [decide_eq_true_eq]; exact Iff.rfl) (fun h2 => all_ret fun env1 a1 w1 hA1 => ?_) (fun h2 => all_ret fun _ _ _ h => out h)
  have hi2 : i < 80 := by omega
  have hip : i < p.picks.length := by omega
  have h6 := hp.m6
  have hlr := hp.lr
  have hll := hp.ok.ll
  refine (show (rgt round4b).wp Tryd.prog (RP w0 p m ts i) a1 w1 from wpS (by kernel_rfl) (wpB 3 (by kernel_rfl) ?_))
  refine (show bb4b.wp Tryd.prog (KP w0 p m ts i) a1 w1 from ?_)
  have hchk := fun {e : Int} he {l' : List Int} {rs : List Rf} hp' hl {env : Env} {a : Act} {w : World} => chk_ok (w0 := w0) (p := p) (s := s) hi2 hip hp.ok (e := e) he (l' := l') (rs := rs) hp' hl (env := env) (a := a) (w := w)
  have needs : ∀ {α : Type 1} {Q : α → Prop} {t : T α}, All Q t → All Q (.need (decide ((0 : Int) ≤ (i : Int)) && decide ((i : Int).toNat < p.picks.length)) (.need (decide ((i : Int).toNat < p.picks.length)) t)) := by
    intro α Q t ht
    refine all_needq (by simp only [decide_eq_true_eq, Bool.and_eq_true]; exact Iff.rfl) (by simp only [Int.toNat_natCast]; omega) ?_
    exact all_needq (by simp only [decide_eq_true_eq]; exact Iff.rfl) (by simp only [Int.toNat_natCast]; omega) ht
  generalize hk : p.picks.getD i 0 = k at hchk
  by_cases hin : 0 ≤ k ∧ k < (m : Int)
  · have hin' : inP k m = true := (inP_iff _ _).2 hin
    have hkm : k.toNat < m := by omega
    have hds := hp.ds _ hkm
    cases hd : (rs.getD k.toNat encRf.dflt).done with
    | true =>
      rw [hd] at hds
      have hpk := pick_stay (ts := ts) (m := m) (s := s) (k := k) (.inr hds)
      refine pieceNT0 (c := cfgF p m ts s rs s.l k True (tupA m s.l 91) (sP p m ts s rs s.l)) (cfgF_ok fun _ => ref_done hin.1 hkm hlr hd) 2 n4g y_pb hA1 ?_
      refine needs (all_eq ⟨by rw [Int.toNat_natCast, hk], rfl, True.intro⟩ (all_ret fun env2 a2 w2 hA2 => ?_))
      simp only [Ex.to, Exit.then]
      have hA3 : At [(0, 0)] w0 env2 (fr 145 n4g (v4f p m s.l.length i ++ [.int .i64 91])) (sP p m ts s rs s.l) a2 w2 := hA2.gvals _ rfl
      exact hchk (e := 91) (by simp only [errP, hin', hds]) (by rw [hpk]; exact hp) (by rw [hpk]) hA3
    | false =>
      rw [hd] at hds
      have hrel := hp.rel _ hkm hd
      have hst : StOk (rs.getD k.toNat encRf.dflt) s.l := ⟨by rw [← hrel.times]; exact hrel.le, by omega⟩
      obtain ⟨hp2, hl2⟩ := pairP_step hp hin.1 hkm hd
      have hrs : rStep (rs.getD k.toNat encRf.dflt) s.l = match okR (rs.getD k.toNat encRf.dflt) s.l with | true => (rfP (rs.getD k.toNat encRf.dflt) s.l, rwP (rs.getD k.toNat encRf.dflt) s.l) | false => (outR (rs.getD k.toNat encRf.dflt), s.l) := rfl
      have hrl : (rwP (rs.getD k.toNat encRf.dflt) s.l).length = s.l.length := by
        unfold rwP; repeat' split
        all_goals simp
      cases ho : okR (rs.getD k.toNat encRf.dflt) s.l with
      | true =>
        simp only [ho] at hrs
        rw [hrs] at hp2 hl2
        refine pieceNT0 (c := cfgF p m ts s rs s.l k True (tup1 m s.l) (sD2 p m ts s rs s.l (rs.set k.toNat (rfP (rs.getD k.toNat encRf.dflt) s.l)) (rwP (rs.getD k.toNat encRf.dflt) s.l))) (cfgF_ok fun _ => ref_step hin.1 hkm hlr (by omega) hd hst ho) 2 n4g y_p1 hA1 ?_
        refine needs (all_eq ⟨by rw [Int.toNat_natCast, hk], rfl, True.intro⟩ (all_ret fun env2 a2 w2 hA2 => ?_))
        simp only [Ex.to, Exit.then]
        have hA3 : At [(0, 0)] w0 env2 (fr 145 n4g (v4f p m s.l.length i ++ [.int .i64 0])) (sP p m ts s (rs.set k.toNat (rfP (rs.getD k.toNat encRf.dflt) s.l)) (rwP (rs.getD k.toNat encRf.dflt) s.l)) a2 w2 := hA2.gvals _ rfl
        refine hchk (env := env2) (e := 0) (by simp only [errP, hin', hds]) hp2 hl2 ?_
        simp only [hrl]
        exact hA3
      | false =>
        simp only [ho] at hrs
        rw [hrs] at hp2 hl2
        refine pieceNT0 (c := cfgF p m ts s rs s.l k True (tup0 m s.l) (sD p m ts s rs s.l (rs.set k.toNat (outR (rs.getD k.toNat encRf.dflt))))) (cfgF_ok fun _ => ref_out hin.1 hkm hlr (by omega) hd hst ho) 2 n4g y_p0 hA1 ?_
        refine needs (all_eq ⟨by rw [Int.toNat_natCast, hk], rfl, True.intro⟩ (all_ret fun env2 a2 w2 hA2 => ?_))
        simp only [Ex.to, Exit.then]
        have hA3 : At [(0, 0)] w0 env2 (fr 145 n4g (v4f p m s.l.length i ++ [.int .i64 0])) (sP p m ts s (rs.set k.toNat (outR (rs.getD k.toNat encRf.dflt))) s.l) a2 w2 := hA2.gvals _ rfl
        exact hchk (e := 0) (by simp only [errP, hin', hds]) hp2 hl2 hA3
  · have hin' : inP k m = false := by
      cases hb : inP k m with
      | false => rfl
      | true => exact absurd ((inP_iff _ _).1 hb) hin
    have hpk := pick_stay (ts := ts) (m := m) (s := s) (k := k) (.inl hin)
    refine pieceNT0 (c := cfgF p m ts s rs s.l k True (tupA m s.l 90) (sP p m ts s rs s.l)) (cfgF_ok fun _ => ref_bad (by omega)) 2 n4g y_pb hA1 ?_
    refine needs (all_eq ⟨by rw [Int.toNat_natCast, hk], rfl, True.intro⟩ (all_ret fun env2 a2 w2 hA2 => ?_))
    simp only [Ex.to, Exit.then]
    have hA3 : At [(0, 0)] w0 env2 (fr 145 n4g (v4f p m s.l.length i ++ [.int .i64 90])) (sP p m ts s rs s.l) a2 w2 := hA2.gvals _ rfl
    exact hchk (e := 90) (by simp only [errP, hin']) (by rw [hpk]; exact hp) (by rw [hpk]) hA3
end Go.Proofs.YtlnigpeoffaemaaDoor

/- StepsPlays: its call. -/
namespace Go.Proofs.YtlnigpeoffaemaaDoor
open Go Go.Proofs.YtlnigpeoffaemaaDoor.Sx
set_option linter.unusedVariables false
set_option maxRecDepth 100000 in
theorem new_4 (p : InP) (xs : List Ad) (ys : List Tw) (ts : List (Bool × Nat)) (rs : List Rf) (hn : ts.length ≤ 8) : anyP cfgN 100 11 [.ptr 1 0, .sli 7 (.c 0) 1 (.v ts.length) none] (s4 p xs ys ts rs) := by
  let A : List Bool := [decide (0 + ts.length ≤ ts.length), decide (0 + ts.length ≤ ts.length), roomy (List.take ts.length (List.drop 0 ts)).length 16]
  let M : List Bool := [decide (0 ≤ (ts.length : Int)), decide ((ts.length : Int) * 1 ≤ 140737488355328), decide ((ts.length : Int) ≤ 4611686018427387904)]
  have h0 : (anyTP cfgN 100 11 [.ptr 1 0, .sli 7 (.c 0) 1 (.v ts.length) none] (s4 p xs ys ts rs)).lineB = some (A ++ M ++ A ++ M ++ A ++ M ++ M ++ A ++ A ++ M ++ M ++ A ++ M ++ A) := by kernel_rfl
  have h1 : (anyTP cfgN 100 11 [.ptr 1 0, .sli 7 (.c 0) 1 (.v ts.length) none] (s4 p xs ys ts rs)).lineP = some True := by kernel_rfl
  have hA : ∀ b ∈ A, b = true := by
    intro b hb
    simp only [A, List.mem_cons, List.not_mem_nil, or_false] at hb
    rcases hb with rfl | rfl | rfl
    · simp
    · simp
    · rw [roomy_iff]; simp; omega
  have hM : ∀ b ∈ M, b = true := by
    intro b hb
    simp only [M, List.mem_cons, List.not_mem_nil, or_false] at hb
    rcases hb with rfl | rfl | rfl <;> simp <;> omega
  refine anyP_line h0 h1 (fun b hb => ?_) trivial (by kernel_rfl)
  simp only [List.mem_append] at hb
  rcases hb with ((((((((((((hb | hb) | hb) | hb) | hb) | hb) | hb) | hb) | hb) | hb) | hb) | hb) | hb) | hb <;> first | exact hA b hb | exact hM b hb
set_option maxHeartbeats 1000000 in
theorem d4_ok {w0 : From} {p : InP} (h6 : p.kinds.length ≤ 6) {env : Env} {a : Act} {w : World}
    (h : AtK [] [(0, 0)] w0 env (fr 145 n4b (v4 p p.kinds.length ++ [.int .i64 (p.kinds.length : Nat)])) (s4 p (made p p.kinds.length).1 (made p p.kinds.length).2.1 (made p p.kinds.length).2.2 (rsP p p.kinds.length)) a w) : d4.wp Tryd.prog (Q4 w0) a w := by
  have hst := pair_start h6 (c := 0)
  have hlt := (made_all (p := p) p.kinds.length (Nat.le_refl _)).lt
  generalize made p p.kinds.length = S at *
  obtain ⟨xs, ys, ts⟩ := S
  generalize rsP p p.kinds.length = rs at *
  simp only at h hst hlt
  generalize p.kinds.length = m at *
  subst hlt
  refine pieceNTK2 (c := cfgL) cfgL_ok 3 n4e x_new (by simp) (by simp) h ?_
  refine all_eq (new_4 p _ _ _ _ (by omega)) ?_
  have htk : List.take ts.length (List.drop 0 ts) = ts := by simp
  simp only [htk, Int.toNat_natCast]
  repeat' (first
    | refine all_needq (by simp only [decide_eq_true_eq, roomy_iff]; exact Iff.rfl) (by omega) ?_
    | refine all_ret (fun env1 a1 w1 hA1 => ?_))
  simp only [Ex.to, Exit.then]
  obtain ⟨env2, hA2⟩ := hA1.at'.vecd 11 (encInt .u32) [0, 0, 0] rfl (fun env cs h => by simpa [segCells, Seg.cells, encInt, DenL, Den] using h) rfl
    [pickV p 6, .ptr 1 0, .sli 7 (.c 0) 6 (.v ts.length) none, .ptr 8 0, .sli 12 (.c 0) 1 (.v 3) none] (fun env' hm h1 h2 => ⟨hm _, hm _, hm _, hm _, h1 1, trivial⟩)
  have hA3 := hA2.perm [0, 1, 2, 3, 4, 8, 9, 10, 6, 7, 12] (by kernel_rfl) (by kernel_rfl) (st' := sP p ts.length ts ⟨[0, 0, 0], 0, xs, ys, List.replicate ts.length false⟩ rs [0, 0, 0]) (vals' := v4b p ts.length 3) (by rfl) (by rfl)
  refine (show e4.wp Tryd.prog (Q4 w0) a1 w1 from wpS (by kernel_rfl) (wpS (by kernel_rfl) ?_))
  refine pieceT0 (c := cfgM) cfgM_ok n4f x_regb hA3 (all_ret fun env3 a3 w3 hA4 => ?_)
  simp only [Ex.to, Exit.then]
  have hA5 := hA4.gvals (v4f p ts.length 3 0) rfl
  refine wpB 2 (by kernel_rfl) (wpL (by kernel_rfl) (InvP w0 p ts.length ts) (fun j => 80 - j.i) ⟨0, _, rs⟩ ⟨by simp, hst, env3, hA5⟩ ?_)
  intro j a w h
  exact roundP_ok h
theorem noFootP {e0 e1 e2 : Slot} {p : InP} (x : Nat) (h : inFoot [e0, e1, e2] (s0P p) x) : False := by
  obtain ⟨id, e, b, he, hb, hx⟩ := h
  match id with
  | 0 => simp at hb; subst hb; cases hx
  | 1 => simp at hb; subst hb; cases hx
  | 2 => simp at hb; subst hb; cases hx
  | n + 3 => simp at hb
theorem b4_eq : Tryd.f4.body = some b4 := by kernel_rfl
set_option maxHeartbeats 1000000 in
theorem stepsPlays_call {p : InP} {e0 e1 e2 : Slot} (he : e0.blk = 0 ∧ e0.off = 0) {w : World} {v v' : Value} (hr : Rep [e0, e1, e2] (s0P p) w) (hv : Den [e0, e1, e2] (kindsV p 1) v) (hv' : Den [e0, e1, e2] (pickV p 2) v') :
    Calls Tryd.prog 4 ⟨[v, v']⟩ w (Said ⟨w, fun _ => False⟩) := by
  refine call_begin (c := cfgL) Tryd.func4 b4_eq (args := [kindsV p 1, pickV p 2]) (by
    intro q hq
    rw [List.mem_singleton.1 hq]
    exact ⟨e0, rfl, he⟩) hr ⟨_, _, rfl, hv, _, _, rfl, hv', rfl⟩ (F := fun _ => False) (fun x h => noFootP x h) ?_
  intro a hA
  refine pieceNT0 (c := cfgL) cfgL_ok 4 n4p x_pre hA ?_
  refine all_eq rfl ?_
  refine all_brp (by simp only [decide_eq_true_eq]; exact Iff.rfl) (fun h6 => all_eq rfl (all_ret fun env1 a1 w1 hA1 => ?_)) (fun h6 => ?_)
  · exact hA1.said (by kernel_rfl)
  refine all_ret fun env1 a1 w1 hA1 => ?_
  simp only [Ex.to, Exit.then]
  have hA1' := At.few (names := n4a) (extra := [4]) (vals := [kindsV p 1, pickV p 2, .ptr 3 0, .sli 5 (.c 0) 1 (.c 0) (some (.c 0)), .sli 6 (.c 0) 6 (.c 0) (some (.c 0))]) (ev := [.bl false]) hA1 rfl
  obtain ⟨env2, hA2⟩ := hA1'.void 5 (encInt .i64) rfl
  obtain ⟨env3, hA3⟩ := hA2.void 6 (encRow 5) rfl
  have hA4 := hA3.many0 encAd 86
  have hA5 := hA4.many0 encTw 78
  have hA6 := hA5.perm [0, 3, 4, 9, 10, 1, 2, 7, 8] (by kernel_rfl) (by kernel_rfl) (st' := [lookB, .own [.c (.sli 2 (.c 0) 1 (.c 3) (some (.c 3))), .c (.lit .i64 0)] 67, .own [.c (.lit .u32 0), .c (.lit .u32 0), .c (.lit .u32 0)] 45, .many encAd [] 86, .many encTw [] 78, .ro encK p.kinds, .ro (encInt .i64) p.picks, .vec (encInt .i64) [] 44, .vec (encRow 5) [] 47]) (vals' := v4 p 0) (by kernel_rfl) (by kernel_rfl)
  have hA7 := hA6.typede 7 (E' := encTs 3 4) (ys := []) rfl rfl rfl (fun cs h => h)
  have hA8 := hA7.typede 8 (E' := encRf) (ys := []) rfl rfl rfl (fun cs h => h)
  have hA9 := hA8.segs 2 (l' := [.a (encInt .u32) 3 [0, 0, 0]]) rfl (by intro s hs; rw [List.mem_singleton.1 hs]; rfl) (fun cs h => by simpa [segCells, Seg.cells, encInt, DenL, Den] using h)
  have hA10 : AtK [] [(0, 0)] ⟨w, fun _ => False⟩ _ (fr 145 n4a (v4 p 0)) (s4 p [] [] [] []) a1 w1 := ⟨hA9.gen rfl, _, rfl⟩
  refine (show c4.wp Tryd.prog (Q4 ⟨w, fun _ => False⟩) a1 w1 from wpS (by kernel_rfl) (wpS (by kernel_rfl) ?_))
  refine pieceTK2 (c := cfgM) cfgM_ok n4b x_reg (by simp) (by simp) hA10 (all_ret fun env11 a11 w11 hA11 => ?_)
  simp only [Ex.to, Exit.then]
  have hA12 := hA11.on fun h => h.gvals (v4 p 0 ++ [SVal.int .i64 ((0 : Nat) : Int)]) rfl
  have h6' : p.kinds.length ≤ 6 := by omega
  refine wpB 0 (by kernel_rfl) (wpL (by kernel_rfl) (InvK ⟨w, fun _ => False⟩ p) (fun i => p.kinds.length - i) 0 ⟨Nat.zero_le _, env11, hA12⟩ ?_)
  intro i a w h
  exact round4_ok h6' (fun h => d4_ok h6' h) h
end Go.Proofs.YtlnigpeoffaemaaDoor

/- Layer 8: the package's variable, and how a card is closed. -/
namespace Go.Proofs.YtlnigpeoffaemaaDoor
open Go Go.Proofs.YtlnigpeoffaemaaDoor.Sx Go.ChangeShapes Go.WideShapes Go.ChangeAt Go.RowKit
set_option linter.unusedVariables false
abbrev laid1 : List (String × DataW Unit) := [("purlin/mem.look", Rows.laid_purlin_mem_look)]
theorem Tryd.own : ownKnob Tryd.prog.godebug = none := by kernel_rfl
theorem Tryd.laidOut : laidOutB Tryd.prog = true := by kernel_rfl
theorem gLook : Tryd.prog.globalNamed "purlin/mem.look" = some 0 := by kernel_rfl
theorem tLook : (Tryd.prog.globals[0]?).map (·.type) = some 81 := by kernel_rfl
/-- the door's own heap meets the condition -/
theorem door_met (os : Os) (args : Array Value) : laidMetH Tryd.prog laid1 ((World.doorLaid Tryd.prog 400 os).forCall (fun _ _ => 0) ⟨#[], args, []⟩).memory :=
  laidMetH_of_parts3 (fuel := 8) (laidMet_of_run' 8 (by kernel_rfl) (by kernel_rfl)) (by kernel_rfl) (by kernel_rfl)
set_option maxRecDepth 100000 in
/-- what the condition gives -/
theorem of_laid {W : World} (h : laidMetH Tryd.prog laid1 W) : ∃ e : Slot, (e.blk = 0 ∧ e.off = 0) ∧ Rep [e] [lookB] W := by
  rw [MakeChecks.laidMetH_plain _ _ _ (by kernel_rfl)] at h
  obtain ⟨ps, ⟨g0, t0, cs0, f0, p0, q0, hg0, ht0, hv0, hd0, _, _⟩, _, _⟩ := h
  obtain rfl := Option.some.inj (gLook.symm.trans hg0)
  obtain rfl := Option.some.inj (tLook.symm.trans ht0)
  obtain ⟨xs, m, _, hx, hlen, hxl, hf⟩ := DataW.trod_struct Tryd.underlying81 hd0
  have hC : Tryd.prog.cellsOf 81 = 3 := by kernel_rfl
  have k45 : Tryd.prog.cellsOf 45 = 1 := by kernel_rfl
  rw [hC] at hlen
  obtain ⟨l⟩ := cs0
  simp only at hlen hf
  match l, hlen with
  | [c0, c1, c2], _ =>
    match xs, hxl, hx with
    | [y0, y1, y2], _, hx =>
      have f0 : DataW.trod _ Tryd.prog W 0 _ false m 45 (([c0, c1, c2].drop 0).take (Tryd.prog.cellsOf 45)) = some y0 := hf 0 _ rfl
      have f1 : DataW.trod _ Tryd.prog W 0 _ false m 45 (([c0, c1, c2].drop 1).take (Tryd.prog.cellsOf 45)) = some y1 := hf 1 _ rfl
      have f2 : DataW.trod _ Tryd.prog W 0 _ false m 45 (([c0, c1, c2].drop 2).take (Tryd.prog.cellsOf 45)) = some y2 := hf 2 _ rfl
      rw [k45] at f0 f1 f2
      obtain ⟨a0, h0, e0, _⟩ := DataW.trod_int Tryd.underlying45 f0
      obtain ⟨a1, h1, e1, _⟩ := DataW.trod_int Tryd.underlying45 f1
      obtain ⟨a2, h2, e2, _⟩ := DataW.trod_int Tryd.underlying45 f2
      simp at h0 h1 h2
      subst h0 h1 h2 e0 e1 e2
      simp [Rows.laid_purlin_mem_look] at hx
      obtain ⟨⟨rfl, rfl, rfl⟩, _⟩ := hx
      have hc := fun i => World.var?_cell hg0 hv0 i
      have hsz : 0 < W.heap.size := by
        have := hc 0
        simp only [World.cell?] at this
        rcases Nat.eq_zero_or_pos W.heap.size with h | h
        · rw [Array.getElem?_eq_none (by omega)] at this; simp at this
        · exact h
      refine ⟨⟨0, 0, 0, []⟩, ⟨rfl, rfl⟩, rfl, ?_, ?_, ?_⟩
      · intro id sl b he hb
        match id with
        | 0 =>
          simp only [List.getElem?_cons_zero, Option.some.injEq] at he hb
          subst he hb
          refine ⟨[.int .u32 4294967295, .int .u32 0, .int .u32 0], by simp [encLook, encOf, DenL, Den], fun i hi => ?_⟩
          have := hc i
          simpa using this
        | n + 1 => simp at he
      · intro i j e f b c hij he hf' hb' hc' x hx''
        match i, j with
        | 0, 0 => exact (hij rfl).elim
        | i + 1, _ => simp at he
        | 0, j + 1 => simp at hf'
      · intro id sl b he hb x hx
        match id with
        | 0 =>
          simp only [List.getElem?_cons_zero, Option.some.injEq] at he hb
          subst he hb
          simp [Blk.supp] at hx
          omega
        | n + 1 => simp at he
theorem wf_u8 {n : Int} (h : (Lit.int .u8 n).wf = true) : 0 ≤ n ∧ n ≤ 255 := by simp [Lit.wf, IntKind.min, IntKind.max, IntKind.signed, IntKind.bits] at h; omega
theorem open_u8 {H : Type} {enc : TypeId × Value → H} {w : World} {base : Nat} {spare : Nat → Bool} {held : Bool} (n : Nat) (cs : List Value) (y : DataW H × List MemPlace) (h : DataW.trod enc Tryd.prog w base spare held n 5 cs = some y) :
    ∃ x : U8, DenL [] (encU8.enc x) cs := by
  cases n with
  | zero => simp [DataW.trod] at h
  | succ n =>
    obtain ⟨a, h0, _, hw⟩ := DataW.trod_int Tryd.underlying5 h
    subst h0
    exact ⟨⟨a, wf_u8 hw⟩, by simp [encU8, encOf, DenL, Den]⟩
theorem open_i64 {H : Type} {enc : TypeId × Value → H} {w : World} {base : Nat} {spare : Nat → Bool} {held : Bool} (n : Nat) (cs : List Value) (y : DataW H × List MemPlace) (h : DataW.trod enc Tryd.prog w base spare held n 3 cs = some y) :
    ∃ x : Int, DenL [] ((encInt .i64).enc x) cs := by
  cases n with
  | zero => simp [DataW.trod] at h
  | succ n =>
    obtain ⟨a, h0, _, hw⟩ := DataW.trod_int Tryd.underlying3 h
    subst h0
    exact ⟨a, by simp [encInt, DenL, Den]⟩
theorem wf_u32 {n : Int} (h : (Lit.int .u32 n).wf = true) : 0 ≤ n ∧ n < 4294967296 := by simp [Lit.wf, IntKind.min, IntKind.max, IntKind.signed, IntKind.bits] at h; omega
end Go.Proofs.YtlnigpeoffaemaaDoor

/- StepsPlays: its row and its card. -/
namespace Go.Proofs.YtlnigpeoffaemaaDoor
open Go Go.Proofs.YtlnigpeoffaemaaDoor.Sx Go.ChangeShapes Go.WideShapes Go.ChangeAt Go.RowKit
set_option linter.unusedVariables false
theorem open_k3 {H : Type} {enc : TypeId × Value → H} {w : World} {base : Nat} {spare : Nat → Bool} {held : Bool} (n : Nat) (cs : List Value) (y : DataW H × List MemPlace) (h : DataW.trod enc Tryd.prog w base spare held n 51 cs = some y) :
    ∃ x : K3, DenL [] (encK.enc x) cs := by
  obtain ⟨xs, m, _, _, hlen, hxl, hf⟩ := DataW.trod_struct Tryd.underlying51 h
  have hC : Tryd.prog.cellsOf 51 = 3 := by kernel_rfl
  rw [hC] at hlen
  match cs, hlen with
  | [c0, c1, c2], _ =>
    match xs, hxl with
    | [y0, y1, y2], _ =>
      have f0 : DataW.trod enc Tryd.prog w base spare held m 5 (([c0, c1, c2].drop 0).take (Tryd.prog.cellsOf 5)) = some y0 := hf 0 _ rfl
      have f1 : DataW.trod enc Tryd.prog w base spare held m 3 (([c0, c1, c2].drop 1).take (Tryd.prog.cellsOf 3)) = some y1 := hf 1 _ rfl
      have f2 : DataW.trod enc Tryd.prog w base spare held m 3 (([c0, c1, c2].drop 2).take (Tryd.prog.cellsOf 3)) = some y2 := hf 2 _ rfl
      have k0 : Tryd.prog.cellsOf 3 = 1 := by kernel_rfl
      have k5 : Tryd.prog.cellsOf 5 = 1 := by kernel_rfl
      rw [k5] at f0
      rw [k0] at f1 f2
      obtain ⟨a, h0, e0, w0⟩ := DataW.trod_int Tryd.underlying5 f0
      obtain ⟨b, h1, _⟩ := DataW.trod_int Tryd.underlying3 f1
      obtain ⟨c, h2, _⟩ := DataW.trod_int Tryd.underlying3 f2
      simp at h0 h1 h2
      subst h0 h1 h2
      exact ⟨⟨a, b, c, wf_u8 w0⟩, by simp [encK, encOf, DenL, Den]⟩
set_option maxRecDepth 100000 in
theorem stepsPlays_lifted (os : Os) (started : os.Started) (H : Type) (enc : TypeId × Value → H) :
    ReturnsInHanded {} Tryd.checked os 4 .any (fun w args => (Rows.stepsPlaysSpec.pre enc Tryd.prog Tryd.f4 [] false w args ∧ laidMetH Tryd.prog laid1 w) ∧ sizedMet enc Tryd.prog Tryd.f4 (OpenSpec.ofChange Rows.stepsPlaysSpec) false w args)
      (Rows.stepsPlaysSpec.post enc Tryd.prog Tryd.f4 false true false false) := by
  refine returnsInHanded_of_change_and (C := Tryd.checked) (X := fun w _ => laidMetH Tryd.prog laid1 w) (fun _ _ _ hh h => h.of_heap hh) Tryd.own started (by kernel_rfl) Tryd.func4
    (ChangeSpec.witness_shaped (enc := enc) (C := Tryd.checked) (os := os) (X := fun w _ => laidMetH Tryd.prog laid1 w) false (World.doorLaid Tryd.prog 400 os) #[.slice none 0 0, .slice none 0 0] 8 rfl (World.shaped_of_RefB (by kernel_rfl) (by kernel_rfl)) (by kernel_rfl) (by kernel_rfl) (by kernel_rfl) (door_met os _)) ?_
  intro W base args ds gs before hval0 hW _ _ hL _
  have hval : ∀ (j : Nat) t v, Tryd.f4.params[j]? = some t → args[j]? = some v → Value.okWide Tryd.prog W .any base t v := hval0
  have hW' := hW
  obtain ⟨p, q, hA0, hV, rfl, hfz, hnd⟩ := hW
  have hA : DataW.TrodAll enc Tryd.prog W 0 (fun _ => true) true Tryd.f4.params.toList args.toList ds p := hA0
  rw [Tryd.params4] at hA hval
  obtain ⟨v0, v1, d0, d1, p0, p1, rfl, rfl, rfl, h0, h1⟩ := trodAll_two hA
  obtain ⟨rfl, rfl⟩ := trodVars_none hV
  clear hA0 hval0
  have hlt0 : ∀ x ∈ p0, x.block < W.heap.size := fun x hx => by simpa using hW'.lt x (by simp [hx])
  have hlt1 : ∀ x ∈ p1, x.block < W.heap.size := fun x hx => by simpa using hW'.lt x (by simp [hx])
  obtain ⟨e0, he, hr0⟩ := of_laid hL
  have fin : ∀ e W', Said ⟨W, fun _ => False⟩ e W' → ∃ v, e = .returned v ∧ Rows.stepsPlaysSpec.post enc Tryd.prog Tryd.f4 false true false false W #[v0, v1] v W' := by
    rintro e W' ⟨rfl, hsz, hk, hc⟩
    have hk' : ∀ x, x < W.heap.size → W'.heap[x]? = W.heap[x]? := fun x hx => hk x hx (fun h => h)
    refine ⟨_, rfl, _, _, _, [], _, [], hW', ⟨[], [], shut_bool Tryd.underlying4 true, rfl, rfl⟩, trodAll_mk2 (trod_same Tryd.laidOut (by kernel_rfl) (of_decide_eq_true (by kernel_rfl)) h0 hk' hlt0) (trod_same Tryd.laidOut (by kernel_rfl) (of_decide_eq_true (by kernel_rfl)) h1 hk' hlt1), rfl, keptBut_of _ hc hk', fun h => by cases h⟩
  obtain ⟨xs, cap, e1, hr1, hd1⟩ := open_sli encK Tryd.underlying41 (by kernel_rfl) open_k3 rfl (hval 0 41 v0 rfl rfl) h0
  obtain ⟨ys, cap', e2, hr2, hd2⟩ := open_sli (encInt .i64) Tryd.underlying23 (by kernel_rfl) open_i64 rfl (hval 1 23 v1 rfl rfl) h1
  obtain ⟨hr3, hn3⟩ := ro_add hr0 (by intro b hb e; rw [List.mem_singleton.1 hb]; rfl) rfl hr1
  obtain ⟨hr, _⟩ := ro_add hr3 hn3 rfl hr2
  have hv : Den ([e0, e1] ++ [e2]) (kindsV ⟨xs, cap, ys, cap'⟩ 1) v0 := den_wide (den_add (env := [e0]) (n := 1) hd1 rfl)
  have hv' : Den ([e0, e1] ++ [e2]) (pickV ⟨xs, cap, ys, cap'⟩ 2) v1 := den_add (env := [e0, e1]) (n := 2) hd2 rfl
  exact (stepsPlays_call (p := ⟨xs, cap, ys, cap'⟩) he hr hv hv').mono fun e W' h => fin e W' h
theorem stepsPlays_row : Rows.StepsPlaysSaid :=
  OpenClaim.holds_of_wide 4 Tryd.f4 rfl rfl rfl rfl rfl rfl rfl ⟨rfl, rfl, rfl, rfl, rfl⟩ rfl rfl rfl rfl rfl (by kernel_rfl) Tryd.func4 (by kernel_rfl)
    (of_decide_eq_true (by kernel_rfl)) (by unfold Func.isWrapper; first | (rw [if_pos (by decide +kernel)]; kernel_rfl) | (rw [if_neg (by decide +kernel)]; exact ⟨rfl, rfl⟩))
    (fun os started H enc _ => stepsPlays_lifted os started H enc)
theorem stepsPlays_holds : Rows.StepsPlaysCardSaid :=
  Claim7.holds_tied_plain_at .later [] [.data] true _ _ stepsPlays_row (fun _ h => by cases h) (by kernel_rfl) (fun _ h => by cases h) stepsPlays_row_tie rfl ⟨rfl, rfl⟩ (by kernel_rfl) rfl
    (fun f fn hf hfn => by
      obtain rfl : f = 4 := Option.some.inj ((show Tryd.prog.funcNamed "purlin/purlinlaw08.StepsPlays" = some 4 by kernel_rfl).symm.trans hf) |>.symm
      obtain rfl : fn = Tryd.f4 := (Option.some.inj (Tryd.func4.symm.trans hfn)).symm
      exact ⟨by kernel_rfl, fun j t ht => by
        rw [Tryd.params4] at ht
        have hm : t ∈ [41, 23] := by simpa using Array.mem_of_getElem? ht
        have hall : ([41, 23].all fun u => !Tryd.prog.wantsStandIn u) = true := by kernel_rfl
        exact (show Tryd.prog.wantsStandIn t = false by simpa using List.all_eq_true.1 hall t hm)⟩)
    (by kernel_rfl)
end Go.Proofs.YtlnigpeoffaemaaDoor

