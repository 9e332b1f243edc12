/- SlotBack: what is written is read again, in as many steps as there are words, and one more. -/
import Derived.Test.YtfapadgpihpmhaaDoorSlb
import Derived.Test.YtfapadgpihpmhaaDoorSxC
import Derived.Test.YtfapadgpihpmhaaDoorCards
import Derived.Test.YtfapadgpihpmhaaDoorTie
import Derived.ProofKit
import Derived.LaidMore
import Derived.OpenShut
import Derived.Stop.Joined
/- SlotBack: pieces and states. -/
namespace Go.Proofs.YtfapadgpihpmhaaDoor
open Go Go.Proofs.YtfapadgpihpmhaaDoor.Sx
set_option linter.unusedVariables false
abbrev z20 : List Seg := [.c (.lit .u32 0), .c (.lit .u32 0), .c (.lit .u32 0), .c (.lit .u32 0), .c (.lit .u32 0), .c (.lit .u32 0), .c (.lit .u32 0), .c (.lit .u32 0), .c (.lit .u32 0), .c (.lit .u32 0), .c (.lit .u32 0), .c (.lit .u32 0), .c (.lit .u32 0), .c (.lit .u32 0), .c (.lit .u32 0), .c (.lit .u32 0), .c (.lit .u32 0), .c (.lit .u32 0), .c (.lit .u32 0), .c (.lit .u32 0)]
abbrev mem0 : St := [lookB, .own z20 32, .own [.c (.sli 1 (.c 0) 1 (.c 20) (some (.c 20))), .c (.lit .i64 0)] 77]
abbrev argP (q : InB) : List SVal := [.lit .i64 7, .int .i64 (nB q), .str q.s, .int .u32 q.tick]
/-- a message that there is no room for, or none -/
noncomputable def cfgB (q : InB) : Cfg := { P := Tryd.prog, ex := exI, gl := [(0, 0)], sm := fun f => match f with
  | 8 => some (smClosed [0] [lookB] (.bl true))
  | 13 => some (smEq (argP q) mem0 (¬ PutOk (pB q)) (.tup [.pnil, .lit .i64 130]) mem0)
  | _ => none }
noncomputable def cfgG (q : InB) : Cfg := { P := Tryd.prog, ex := exI, gl := [(0, 0)], sm := fun f => match f with
  | 8 => some (smClosed [0] [lookB] (.bl true))
  | 13 => some (smEq (argP q) mem0 (PutOk (pB q)) (.tup [.ptr 3 0, .lit .i64 0]) (mem0 ++ putB 3 (w0P (pB q))))
  | _ => none }
theorem cfgB_ok {q : InB} : SmOk (cfgB q) := by
  intro f g h
  simp only [cfgB] at h
  split at h
  · simp only [Option.some.injEq] at h; subst h
    exact smClosedE_ok cfg0_ok awake_val ⟨rfl, rfl, rfl, rfl, trivial⟩ (by kernel_rfl) rfl rfl (by intro b hb e; rw [List.mem_singleton.1 hb]; rfl)
  · simp only [Option.some.injEq] at h; subst h
    exact smEq_ok (c := cfgB q) fun h env w vs hg hr hd => putbad_2 h env w vs hg hr (args_lit hd)
  · cases h
theorem cfgG_ok {q : InB} : SmOk (cfgG q) := by
  intro f g h
  simp only [cfgG] at h
  split at h
  · simp only [Option.some.injEq] at h; subst h
    exact smClosedE_ok cfg0_ok awake_val ⟨rfl, rfl, rfl, rfl, trivial⟩ (by kernel_rfl) rfl rfl (by intro b hb e; rw [List.mem_singleton.1 hb]; rfl)
  · simp only [Option.some.injEq] at h; subst h
    exact smEq_ok (c := cfgG q) fun h env w vs hg hr hd => put_2 h env w vs hg hr (args_lit hd)
  · cases h
abbrev aW : List SVal := [.ptr 4 0, .ptr 2 0]
/-- a writer's step -/
noncomputable def cfgW (l l' : List Int) (c : Int) (x x' : Wr) (z : Int) (b : Bool) (P : Prop) : Cfg := { P := Tryd.prog, ex := exI, gl := [(0, 0)], sm := fun f => match f with
  | 16 => some (smEq aW (sW 20 l c x) P (.bl b) (memS 20 l' (c + 1) ++ putW 3 x' z))
  | _ => none }
theorem cfgW_ok {l l' : List Int} {c : Int} {x x' : Wr} {z : Int} {b : Bool} {P : Prop} (h : P → ∀ (env : Env) (w : World) (vs : List Value), GlOk cfgM.gl env → Rep env (sW 20 l c x) w → DenL env aW vs → Calls cfgM.P 16 ⟨vs⟩ w (Ends1 env (sW 20 l c x) w (.bl b) (memS 20 l' (c + 1) ++ putW 3 x' z))) : SmOk (cfgW l l' c x x' z b P) := by
  intro f g h'
  simp only [cfgW] at h'
  split at h'
  · simp only [Option.some.injEq] at h'; subst h'
    exact smEq_ok (c := cfgW l l' c x x' z b P) h
  · cases h'
/-- a reader's step -/
noncomputable def cfgRd (n : Nat) (l : List Int) (c : Int) (x : Rd) (z : Int) : Cfg := { P := Tryd.prog, ex := exI, gl := [(0, 0)], sm := fun f => match f with
  | 20 => some (smEq aW (sG n l c x z) (ROk n l c x) (.sb (rStep x l).got) (sG n l (c + 1) (rStep x l) z))
  | _ => none }
theorem cfgRd_ok {n : Nat} {l : List Int} {c : Int} {x : Rd} {z : Int} : SmOk (cfgRd n l c x z) := by
  intro f g h'
  simp only [cfgRd] at h'
  split at h'
  · simp only [Option.some.injEq] at h'; subst h'
    exact smEq_ok (c := cfgRd n l c x z) fun h => r_step h
  · cases h'
/-- what was read -/
noncomputable def cfgMs (l : List Int) (c : Int) (x : Rd) (z : Int) (k m : Nat) : Cfg := { P := Tryd.prog, ex := exI, gl := [(0, 0)], sm := fun f => match f with
  | 23 => some (smEq [.ptr 3 0] (sGt 20 l c x z) ((x.n = (k : Int) + 2) ∧ (1 ≤ k ∧ k ≤ 30) ∧ (0 ≤ z ∧ z ≤ 32) ∧ (imin (x.l.getD 1 0) z = (m : Int)) ∧ (m ≤ 32 ∧ m ≤ 4 * k)) (.tup [.str (strU (unpN (L32 x.l) m m)), .int .u32 (x.l.getD 0 0), .bl true]) (sGt 20 l c x z))
  | _ => none }
theorem cfgMs_ok {l : List Int} {c : Int} {x : Rd} {z : Int} {k m : Nat} : SmOk (cfgMs l c x z k m) := by
  intro f g h'
  simp only [cfgMs] at h'
  split at h'
  · simp only [Option.some.injEq] at h'; subst h'
    exact smEq_ok (c := cfgMs l c x z k m) fun h => msg_call h.1 h.2.1 h.2.2.1 h.2.2.2.1 h.2.2.2.2
  · cases h'
noncomputable def c5 : Code := restC 9 b5
noncomputable def reg5 : Code := lft (lft c5)
noncomputable def blk5 : Code := rgt (lft c5)
noncomputable def round5 : Code := lft (lft blk5)
noncomputable def tm5 : Code := lft round5
noncomputable def bb5 : Code := lft (lft (rgt round5))
noncomputable def inc5 : Code := rgt (rgt round5)
noncomputable def d5 : Code := rgt c5
noncomputable def e5 : Code := restC 2 d5
noncomputable def reg5b : Code := lft (lft e5)
noncomputable def blk5b : Code := rgt (lft e5)
noncomputable def round5b : Code := lft (lft blk5b)
noncomputable def tm5b : Code := lft round5b
noncomputable def bb5b : Code := lft (lft (rgt round5b))
noncomputable def inc5b : Code := rgt (rgt round5b)
noncomputable def f5e : Code := rgt e5
abbrev n5a : List Nat := [1, 2, 7, 8, 10, 12, 13]
abbrev n5b : List Nat := [1, 2, 7, 8, 10, 12, 13, 14]
abbrev n5c : List Nat := [1, 2, 8, 12, 15]
abbrev n5d : List Nat := [1, 2, 8, 12, 15, 17]
abbrev v5a (q : InB) (W : Int) : List SVal := [.str q.s, .int .u32 q.tick, .int .i64 (nB q), .ptr 2 0, .ptr 3 0, .int .i64 W, .lit .i64 0]
abbrev v5b (q : InB) (W : Int) (i : Nat) : List SVal := v5a q W ++ [.int .i64 (i : Nat)]
abbrev v5c (q : InB) (W : Int) : List SVal := [.str q.s, .int .u32 q.tick, .ptr 2 0, .int .i64 W, .ptr 3 0]
abbrev v5d (q : InB) (W : Int) (i : Nat) : List SVal := v5c q W ++ [.int .i64 (i : Nat)]
end Go.Proofs.YtfapadgpihpmhaaDoor

namespace Go.Proofs.YtfapadgpihpmhaaDoor
open Go Go.Proofs.YtfapadgpihpmhaaDoor.Sx
set_option linter.unusedVariables false
set_option maxRecDepth 100000 in
theorem b_bad {q : InB} : (execN (cfgB q) 100 7 b5 (argB q ++ List.replicate 138 .bad) [lookB]).bind (canonK 1 [(0,0)] 141 [6]) =
 

 (.need (inR .i64 q.1)

 (.need (true)

 (.need (inR .i64 ((1 : Int) + q.1.tmod (32 : Int)))

 (.br (decide ((100 : Int) < (↑q.2.size : Int)))

 (.eq (some [Blk.ro encLook [PUnit.unit]] = some [Blk.ro encLook [PUnit.unit]])

 (.ret (.ret, [.bl true], [.ro encLook [PUnit.unit]])))

 (.eq ([SVal.lit .i64 (7 : Int), .int .i64 ((1 : Int) + q.1.tmod (32 : Int)), .str q.2, .int .u32 q.3] = [SVal.lit .i64 (7 : Int), .int .i64 ((1 : Int) + q.1.tmod (32 : Int)), .str q.2, .int .u32 q.3] ∧ [Blk.ro encLook [PUnit.unit], .own [.c (.lit .u32 (0 : Int)), .c (.lit .u32 (0 : Int)), .c (.lit .u32 (0 : Int)), .c (.lit .u32 (0 : Int)), .c (.lit .u32 (0 : Int)), .c (.lit .u32 (0 : Int)), .c (.lit .u32 (0 : Int)), .c (.lit .u32 (0 : Int)), .c (.lit .u32 (0 : Int)), .c (.lit .u32 (0 : Int)), .c (.lit .u32 (0 : Int)), .c (.lit .u32 (0 : Int)), .c (.lit .u32 (0 : Int)), .c (.lit .u32 (0 : Int)), .c (.lit .u32 (0 : Int)), .c (.lit .u32 (0 : Int)), .c (.lit .u32 (0 : Int)), .c (.lit .u32 (0 : Int)), .c (.lit .u32 (0 : Int)), .c (.lit .u32 (0 : Int))] 32, .own [.c (.sli 1 (.c 0) 1 (.c 20) (some (.c 20))), .c (.lit .i64 (0 : Int))] 77] = [Blk.ro encLook [PUnit.unit], .own [.c (.lit .u32 (0 : Int)), .c (.lit .u32 (0 : Int)), .c (.lit .u32 (0 : Int)), .c (.lit .u32 (0 : Int)), .c (.lit .u32 (0 : Int)), .c (.lit .u32 (0 : Int)), .c (.lit .u32 (0 : Int)), .c (.lit .u32 (0 : Int)), .c (.lit .u32 (0 : Int)), .c (.lit .u32 (0 : Int)), .c (.lit .u32 (0 : Int)), .c (.lit .u32 (0 : Int)), .c (.lit .u32 (0 : Int)), .c (.lit .u32 (0 : Int)), .c (.lit .u32 (0 : Int)), .c (.lit .u32 (0 : Int)), .c (.lit .u32 (0 : Int)), .c (.lit .u32 (0 : Int)), .c (.lit .u32 (0 : Int)), .c (.lit .u32 (0 : Int))] 32, .own [.c (.sli 1 (.c 0) 1 (.c 20) (some (.c 20))), .c (.lit .i64 (0 : Int))] 77] ∧ ¬PutOk (pB q))

 (.eq (some [Blk.ro encLook [PUnit.unit]] = some [Blk.ro encLook [PUnit.unit]])

 (.br (strEq q.2 { data := { toList := [] } })

 (.ret (.ret, [.bl true], [.ro encLook [PUnit.unit]]))

 (.br (decide ((1 : Int) + q.1.tmod (32 : Int) < (↑q.2.size : Int)))

 (.ret (.ret, [.bl true], [.ro encLook [PUnit.unit]]))

 (.ret (.normal, [.bl false], [.ro encLook [PUnit.unit]])))))))))) := by kernel_rfl
set_option maxRecDepth 100000 in
theorem b_good {q : InB} : (execN (cfgG q) 100 9 b5 (argB q ++ List.replicate 138 .bad) [lookB]).bind (canonK 1 [(0,0)] 141 n5a) =
 

 (.need (inR .i64 q.1)

 (.need (true)

 (.need (inR .i64 ((1 : Int) + q.1.tmod (32 : Int)))

 (.br (decide ((100 : Int) < (↑q.2.size : Int)))

 (.eq (some [Blk.ro encLook [PUnit.unit]] = some [Blk.ro encLook [PUnit.unit]])

 (.ret (.ret, [.str q.2, .int .u32 q.3, .int .i64 ((1 : Int) + q.1.tmod (32 : Int)), .bad, .bad, .bad, .bad], [.ro encLook [PUnit.unit]])))

 (.eq ([SVal.lit .i64 (7 : Int), .int .i64 ((1 : Int) + q.1.tmod (32 : Int)), .str q.2, .int .u32 q.3] = [SVal.lit .i64 (7 : Int), .int .i64 ((1 : Int) + q.1.tmod (32 : Int)), .str q.2, .int .u32 q.3] ∧ [Blk.ro encLook [PUnit.unit], .own [.c (.lit .u32 (0 : Int)), .c (.lit .u32 (0 : Int)), .c (.lit .u32 (0 : Int)), .c (.lit .u32 (0 : Int)), .c (.lit .u32 (0 : Int)), .c (.lit .u32 (0 : Int)), .c (.lit .u32 (0 : Int)), .c (.lit .u32 (0 : Int)), .c (.lit .u32 (0 : Int)), .c (.lit .u32 (0 : Int)), .c (.lit .u32 (0 : Int)), .c (.lit .u32 (0 : Int)), .c (.lit .u32 (0 : Int)), .c (.lit .u32 (0 : Int)), .c (.lit .u32 (0 : Int)), .c (.lit .u32 (0 : Int)), .c (.lit .u32 (0 : Int)), .c (.lit .u32 (0 : Int)), .c (.lit .u32 (0 : Int)), .c (.lit .u32 (0 : Int))] 32, .own [.c (.sli 1 (.c 0) 1 (.c 20) (some (.c 20))), .c (.lit .i64 (0 : Int))] 77] = [Blk.ro encLook [PUnit.unit], .own [.c (.lit .u32 (0 : Int)), .c (.lit .u32 (0 : Int)), .c (.lit .u32 (0 : Int)), .c (.lit .u32 (0 : Int)), .c (.lit .u32 (0 : Int)), .c (.lit .u32 (0 : Int)), .c (.lit .u32 (0 : Int)), .c (.lit .u32 (0 : Int)), .c (.lit .u32 (0 : Int)), .c (.lit .u32 (0 : Int)), .c (.lit .u32 (0 : Int)), .c (.lit .u32 (0 : Int)), .c (.lit .u32 (0 : Int)), .c (.lit .u32 (0 : Int)), .c (.lit .u32 (0 : Int)), .c (.lit .u32 (0 : Int)), .c (.lit .u32 (0 : Int)), .c (.lit .u32 (0 : Int)), .c (.lit .u32 (0 : Int)), .c (.lit .u32 (0 : Int))] 32, .own [.c (.sli 1 (.c 0) 1 (.c 20) (some (.c 20))), .c (.lit .i64 (0 : Int))] 77] ∧ PutOk (pB q))

 (.eq (some [Blk.ro encLook [PUnit.unit]] = some [Blk.ro encLook [PUnit.unit]])

 (.br (strEq q.2 { data := { toList := [] } })

 (.ret (.ret, [.str q.2, .int .u32 q.3, .int .i64 ((1 : Int) + q.1.tmod (32 : Int)), .ptr 1 0, .ptr 3 0, .bad, .bad], [.ro encLook [PUnit.unit], .own [.c (.sli 2 (.c 0) 1 (.c 20) (some (.c 20))), .c (.lit .i64 (0 : Int))] 77, .own [.c (.lit .u32 (0 : Int)), .c (.lit .u32 (0 : Int)), .c (.lit .u32 (0 : Int)), .c (.lit .u32 (0 : Int)), .c (.lit .u32 (0 : Int)), .c (.lit .u32 (0 : Int)), .c (.lit .u32 (0 : Int)), .c (.lit .u32 (0 : Int)), .c (.lit .u32 (0 : Int)), .c (.lit .u32 (0 : Int)), .c (.lit .u32 (0 : Int)), .c (.lit .u32 (0 : Int)), .c (.lit .u32 (0 : Int)), .c (.lit .u32 (0 : Int)), .c (.lit .u32 (0 : Int)), .c (.lit .u32 (0 : Int)), .c (.lit .u32 (0 : Int)), .c (.lit .u32 (0 : Int)), .c (.lit .u32 (0 : Int)), .c (.lit .u32 (0 : Int))] 32, .own [.c (.ptr 4 0)] 57, .own [.c (.int .i64 (w0P { at' := (7 : Int), n := (1 : Int) + q.1.tmod (32 : Int), s := q.2, tick := q.3 }).at'), .c (.int .i64 (w0P { at' := (7 : Int), n := (1 : Int) + q.1.tmod (32 : Int), s := q.2, tick := q.3 }).next), .c (.int .i64 (w0P { at' := (7 : Int), n := (1 : Int) + q.1.tmod (32 : Int), s := q.2, tick := q.3 }).phase), .c (.sli 5 (.c 0) 1 (.c 1) none), .c (.lit .i64 (0 : Int))] 95, .vec (encRow 0) (renRows [0, 2, 1, 3, 4, 5, 6] (encRow 0) [[.sli 6 (.c 0) 1 (.v (w0P { at' := (7 : Int), n := (1 : Int) + q.1.tmod (32 : Int), s := q.2, tick := q.3 }).V.length) none]]) 22, .vec (encInt IntKind.u32) (w0P { at' := (7 : Int), n := (1 : Int) + q.1.tmod (32 : Int), s := q.2, tick := q.3 }).V 32]))

 (.br (decide ((1 : Int) + q.1.tmod (32 : Int) < (↑q.2.size : Int)))

 (.ret (.ret, [.str q.2, .int .u32 q.3, .int .i64 ((1 : Int) + q.1.tmod (32 : Int)), .ptr 1 0, .ptr 3 0, .bad, .bad], [.ro encLook [PUnit.unit], .own [.c (.sli 2 (.c 0) 1 (.c 20) (some (.c 20))), .c (.lit .i64 (0 : Int))] 77, .own [.c (.lit .u32 (0 : Int)), .c (.lit .u32 (0 : Int)), .c (.lit .u32 (0 : Int)), .c (.lit .u32 (0 : Int)), .c (.lit .u32 (0 : Int)), .c (.lit .u32 (0 : Int)), .c (.lit .u32 (0 : Int)), .c (.lit .u32 (0 : Int)), .c (.lit .u32 (0 : Int)), .c (.lit .u32 (0 : Int)), .c (.lit .u32 (0 : Int)), .c (.lit .u32 (0 : Int)), .c (.lit .u32 (0 : Int)), .c (.lit .u32 (0 : Int)), .c (.lit .u32 (0 : Int)), .c (.lit .u32 (0 : Int)), .c (.lit .u32 (0 : Int)), .c (.lit .u32 (0 : Int)), .c (.lit .u32 (0 : Int)), .c (.lit .u32 (0 : Int))] 32, .own [.c (.ptr 4 0)] 57, .own [.c (.int .i64 (w0P { at' := (7 : Int), n := (1 : Int) + q.1.tmod (32 : Int), s := q.2, tick := q.3 }).at'), .c (.int .i64 (w0P { at' := (7 : Int), n := (1 : Int) + q.1.tmod (32 : Int), s := q.2, tick := q.3 }).next), .c (.int .i64 (w0P { at' := (7 : Int), n := (1 : Int) + q.1.tmod (32 : Int), s := q.2, tick := q.3 }).phase), .c (.sli 5 (.c 0) 1 (.c 1) none), .c (.lit .i64 (0 : Int))] 95, .vec (encRow 0) (renRows [0, 2, 1, 3, 4, 5, 6] (encRow 0) [[.sli 6 (.c 0) 1 (.v (w0P { at' := (7 : Int), n := (1 : Int) + q.1.tmod (32 : Int), s := q.2, tick := q.3 }).V.length) none]]) 22, .vec (encInt IntKind.u32) (w0P { at' := (7 : Int), n := (1 : Int) + q.1.tmod (32 : Int), s := q.2, tick := q.3 }).V 32]))

 (.br (decide ((1 : Int) ≤ (1 : Int) + q.1.tmod (32 : Int)))

 (.br (!decide ((1 : Int) + q.1.tmod (32 : Int) ≤ (32 : Int)))

 (.ret (.normal, [.str q.2, .int .u32 q.3, .int .i64 ((1 : Int) + q.1.tmod (32 : Int)), .ptr 1 0, .ptr 3 0, .lit .i64 (0 : Int), .lit .i64 (130 : Int)], [.ro encLook [PUnit.unit], .own [.c (.sli 2 (.c 0) 1 (.c 20) (some (.c 20))), .c (.lit .i64 (0 : Int))] 77, .own [.c (.lit .u32 (0 : Int)), .c (.lit .u32 (0 : Int)), .c (.lit .u32 (0 : Int)), .c (.lit .u32 (0 : Int)), .c (.lit .u32 (0 : Int)), .c (.lit .u32 (0 : Int)), .c (.lit .u32 (0 : Int)), .c (.lit .u32 (0 : Int)), .c (.lit .u32 (0 : Int)), .c (.lit .u32 (0 : Int)), .c (.lit .u32 (0 : Int)), .c (.lit .u32 (0 : Int)), .c (.lit .u32 (0 : Int)), .c (.lit .u32 (0 : Int)), .c (.lit .u32 (0 : Int)), .c (.lit .u32 (0 : Int)), .c (.lit .u32 (0 : Int)), .c (.lit .u32 (0 : Int)), .c (.lit .u32 (0 : Int)), .c (.lit .u32 (0 : Int))] 32, .own [.c (.ptr 4 0)] 57, .own [.c (.int .i64 (w0P { at' := (7 : Int), n := (1 : Int) + q.1.tmod (32 : Int), s := q.2, tick := q.3 }).at'), .c (.int .i64 (w0P { at' := (7 : Int), n := (1 : Int) + q.1.tmod (32 : Int), s := q.2, tick := q.3 }).next), .c (.int .i64 (w0P { at' := (7 : Int), n := (1 : Int) + q.1.tmod (32 : Int), s := q.2, tick := q.3 }).phase), .c (.sli 5 (.c 0) 1 (.c 1) none), .c (.lit .i64 (0 : Int))] 95, .vec (encRow 0) (renRows [0, 2, 1, 3, 4, 5, 6] (encRow 0) [[.sli 6 (.c 0) 1 (.v (w0P { at' := (7 : Int), n := (1 : Int) + q.1.tmod (32 : Int), s := q.2, tick := q.3 }).V.length) none]]) 22, .vec (encInt IntKind.u32) (w0P { at' := (7 : Int), n := (1 : Int) + q.1.tmod (32 : Int), s := q.2, tick := q.3 }).V 32]))

 (.need (inR .i64 ((1 : Int) + q.1.tmod (32 : Int) + (3 : Int)))

 (.need (true)

 (.need (inR .i64 ((3 : Int) + IntKind.i64.wrap (((1 : Int) + q.1.tmod (32 : Int) + (3 : Int)).tdiv (4 : Int))))

 (.ret (.normal, [.str q.2, .int .u32 q.3, .int .i64 ((1 : Int) + q.1.tmod (32 : Int)), .ptr 1 0, .ptr 3 0, .int .i64 ((3 : Int) + IntKind.i64.wrap (((1 : Int) + q.1.tmod (32 : Int) + (3 : Int)).tdiv (4 : Int))), .lit .i64 (0 : Int)], [.ro encLook [PUnit.unit], .own [.c (.sli 2 (.c 0) 1 (.c 20) (some (.c 20))), .c (.lit .i64 (0 : Int))] 77, .own [.c (.lit .u32 (0 : Int)), .c (.lit .u32 (0 : Int)), .c (.lit .u32 (0 : Int)), .c (.lit .u32 (0 : Int)), .c (.lit .u32 (0 : Int)), .c (.lit .u32 (0 : Int)), .c (.lit .u32 (0 : Int)), .c (.lit .u32 (0 : Int)), .c (.lit .u32 (0 : Int)), .c (.lit .u32 (0 : Int)), .c (.lit .u32 (0 : Int)), .c (.lit .u32 (0 : Int)), .c (.lit .u32 (0 : Int)), .c (.lit .u32 (0 : Int)), .c (.lit .u32 (0 : Int)), .c (.lit .u32 (0 : Int)), .c (.lit .u32 (0 : Int)), .c (.lit .u32 (0 : Int)), .c (.lit .u32 (0 : Int)), .c (.lit .u32 (0 : Int))] 32, .own [.c (.ptr 4 0)] 57, .own [.c (.int .i64 (w0P { at' := (7 : Int), n := (1 : Int) + q.1.tmod (32 : Int), s := q.2, tick := q.3 }).at'), .c (.int .i64 (w0P { at' := (7 : Int), n := (1 : Int) + q.1.tmod (32 : Int), s := q.2, tick := q.3 }).next), .c (.int .i64 (w0P { at' := (7 : Int), n := (1 : Int) + q.1.tmod (32 : Int), s := q.2, tick := q.3 }).phase), .c (.sli 5 (.c 0) 1 (.c 1) none), .c (.lit .i64 (0 : Int))] 95, .vec (encRow 0) (renRows [0, 2, 1, 3, 4, 5, 6] (encRow 0) [[.sli 6 (.c 0) 1 (.v (w0P { at' := (7 : Int), n := (1 : Int) + q.1.tmod (32 : Int), s := q.2, tick := q.3 }).V.length) none]]) 22, .vec (encInt IntKind.u32) (w0P { at' := (7 : Int), n := (1 : Int) + q.1.tmod (32 : Int), s := q.2, tick := q.3 }).V 32]))))))

 (.ret (.normal, [.str q.2, .int .u32 q.3, .int .i64 ((1 : Int) + q.1.tmod (32 : Int)), .ptr 1 0, .ptr 3 0, .lit .i64 (0 : Int), .lit .i64 (130 : Int)], [.ro encLook [PUnit.unit], .own [.c (.sli 2 (.c 0) 1 (.c 20) (some (.c 20))), .c (.lit .i64 (0 : Int))] 77, .own [.c (.lit .u32 (0 : Int)), .c (.lit .u32 (0 : Int)), .c (.lit .u32 (0 : Int)), .c (.lit .u32 (0 : Int)), .c (.lit .u32 (0 : Int)), .c (.lit .u32 (0 : Int)), .c (.lit .u32 (0 : Int)), .c (.lit .u32 (0 : Int)), .c (.lit .u32 (0 : Int)), .c (.lit .u32 (0 : Int)), .c (.lit .u32 (0 : Int)), .c (.lit .u32 (0 : Int)), .c (.lit .u32 (0 : Int)), .c (.lit .u32 (0 : Int)), .c (.lit .u32 (0 : Int)), .c (.lit .u32 (0 : Int)), .c (.lit .u32 (0 : Int)), .c (.lit .u32 (0 : Int)), .c (.lit .u32 (0 : Int)), .c (.lit .u32 (0 : Int))] 32, .own [.c (.ptr 4 0)] 57, .own [.c (.int .i64 (w0P { at' := (7 : Int), n := (1 : Int) + q.1.tmod (32 : Int), s := q.2, tick := q.3 }).at'), .c (.int .i64 (w0P { at' := (7 : Int), n := (1 : Int) + q.1.tmod (32 : Int), s := q.2, tick := q.3 }).next), .c (.int .i64 (w0P { at' := (7 : Int), n := (1 : Int) + q.1.tmod (32 : Int), s := q.2, tick := q.3 }).phase), .c (.sli 5 (.c 0) 1 (.c 1) none), .c (.lit .i64 (0 : Int))] 95, .vec (encRow 0) (renRows [0, 2, 1, 3, 4, 5, 6] (encRow 0) [[.sli 6 (.c 0) 1 (.v (w0P { at' := (7 : Int), n := (1 : Int) + q.1.tmod (32 : Int), s := q.2, tick := q.3 }).V.length) none]]) 22, .vec (encInt IntKind.u32) (w0P { at' := (7 : Int), n := (1 : Int) + q.1.tmod (32 : Int), s := q.2, tick := q.3 }).V 32]))))))))))) := by kernel_rfl
set_option maxRecDepth 100000 in
theorem b_reg {q : InB} {W : Int} {l : List Int} {c : Int} {x : Wr} : (exec cfgM 100 reg5 (fr 141 n5a (v5a q W)) (sW 20 l c x)).bind (canonK 7 [(0,0)] 141 n5b) =
 

 (.ret (.normal, [.str q.2, .int .u32 q.3, .int .i64 ((1 : Int) + q.1.tmod (32 : Int)), .ptr 2 0, .ptr 3 0, .int .i64 W, .lit .i64 (0 : Int), .lit .i64 (1 : Int)], [.ro encLook [PUnit.unit], .own [.a (encInt IntKind.u32) 20 l] 32, .own [.c (.sli 1 (.c 0) 1 (.v 20) (some (.v 20))), .c (.int .i64 c)] 77, .own [.c (.ptr 4 0)] 57, .own [.c (.int .i64 x.1), .c (.int .i64 x.2), .c (.int .i64 x.3), .c (.sli 5 (.c 0) 1 (.c 1) none), .c (.lit .i64 (0 : Int))] 95, .vec (encRow 0) (renRows [0, 1, 2, 3, 4, 5, 6] (encRow 0) [[.sli 6 (.c 0) 1 (.v x.4.length) none]]) 22, .vec (encInt IntKind.u32) x.4 32])) := by kernel_rfl
set_option maxRecDepth 100000 in
theorem b_tm {q : InB} {W : Int} {l : List Int} {c : Int} {x : Wr} {z : Int} {i : Nat} : (exec cfgM 100 tm5 (fr 141 n5b (v5b q W i)) (memS 20 l c ++ putW 3 x z)).bind (canonK 7 [(0,0)] 141 n5b) =
 

 (.need (inR .i64 (W + (1 : Int)))

 (.br (decide ((↑i : Int) ≤ W + (1 : Int)))

 (.ret (.normal, [.str q.2, .int .u32 q.3, .int .i64 ((1 : Int) + q.1.tmod (32 : Int)), .ptr 2 0, .ptr 3 0, .int .i64 W, .lit .i64 (0 : Int), .int .i64 (↑i : Int)], [.ro encLook [PUnit.unit], .own [.a (encInt IntKind.u32) 20 l] 32, .own [.c (.sli 1 (.c 0) 1 (.v 20) (some (.v 20))), .c (.int .i64 c)] 77, .own [.c (.ptr 4 0)] 57, .own [.c (.int .i64 x.1), .c (.int .i64 x.2), .c (.int .i64 x.3), .c (.sli 5 (.c 0) 1 (.c 1) none), .c (.lit .i64 z)] 95, .vec (encRow 0) (renRows [0, 1, 2, 3, 4, 5, 6] (encRow 0) [[.sli 6 (.c 0) 1 (.v x.4.length) none]]) 22, .vec (encInt IntKind.u32) x.4 32]))

 (.ret (.exit 0, [.str q.2, .int .u32 q.3, .int .i64 ((1 : Int) + q.1.tmod (32 : Int)), .ptr 2 0, .ptr 3 0, .int .i64 W, .lit .i64 (0 : Int), .int .i64 (↑i : Int)], [.ro encLook [PUnit.unit], .own [.a (encInt IntKind.u32) 20 l] 32, .own [.c (.sli 1 (.c 0) 1 (.v 20) (some (.v 20))), .c (.int .i64 c)] 77, .own [.c (.ptr 4 0)] 57, .own [.c (.int .i64 x.1), .c (.int .i64 x.2), .c (.int .i64 x.3), .c (.sli 5 (.c 0) 1 (.c 1) none), .c (.lit .i64 z)] 95, .vec (encRow 0) (renRows [0, 1, 2, 3, 4, 5, 6] (encRow 0) [[.sli 6 (.c 0) 1 (.v x.4.length) none]]) 22, .vec (encInt IntKind.u32) x.4 32])))) := by kernel_rfl
set_option maxRecDepth 100000 in
theorem b_bb {q : InB} {W : Int} {l l' : List Int} {c : Int} {x x' : Wr} {z : Int} {b : Bool} {P : Prop} {i : Nat} : (exec (cfgW l l' c x x' z b P) 100 bb5 (fr 141 n5b (v5b q W i)) (sW 20 l c x)).bind (canonK 7 [(0,0)] 141 n5b) =
 

 (.eq ([SVal.ptr 4 0, .ptr 2 0] = [SVal.ptr 4 0, .ptr 2 0] ∧ [Blk.ro encLook [PUnit.unit], .own [.a (encInt IntKind.u32) 20 l] 32, .own [.c (.sli 1 (.c 0) 1 (.v 20) (some (.v 20))), .c (.int .i64 c)] 77, .own [.c (.ptr 4 0)] 57, .own [.c (.int .i64 x.1), .c (.int .i64 x.2), .c (.int .i64 x.3), .c (.sli 5 (.c 0) 1 (.c 1) none), .c (.lit .i64 (0 : Int))] 95, .vec (encRow 0) [[.sli 6 (.c 0) 1 (.v x.4.length) none]] 22, .vec (encInt IntKind.u32) x.4 32] = [Blk.ro encLook [PUnit.unit], .own [.a (encInt IntKind.u32) 20 l] 32, .own [.c (.sli 1 (.c 0) 1 (.v 20) (some (.v 20))), .c (.int .i64 c)] 77, .own [.c (.ptr 4 0)] 57, .own [.c (.int .i64 x.1), .c (.int .i64 x.2), .c (.int .i64 x.3), .c (.sli 5 (.c 0) 1 (.c 1) none), .c (.lit .i64 (0 : Int))] 95, .vec (encRow 0) [[.sli 6 (.c 0) 1 (.v x.4.length) none]] 22, .vec (encInt IntKind.u32) x.4 32] ∧ P)

 (.need (inR .i64 (W + (1 : Int)))

 (.br (!b == ((↑i : Int) == W + (1 : Int)))

 (.ret (.ret, [.str q.2, .int .u32 q.3, .int .i64 ((1 : Int) + q.1.tmod (32 : Int)), .ptr 2 0, .ptr 3 0, .int .i64 W, .lit .i64 (0 : Int), .int .i64 (↑i : Int)], [.ro encLook [PUnit.unit], .own [.a (encInt IntKind.u32) 20 l'] 32, .own [.c (.sli 1 (.c 0) 1 (.v 20) (some (.v 20))), .c (.int .i64 (c + (1 : Int)))] 77, .own [.c (.ptr 4 0)] 57, .own [.c (.int .i64 x'.1), .c (.int .i64 x'.2), .c (.int .i64 x'.3), .c (.sli 5 (.c 0) 1 (.c 1) none), .c (.lit .i64 z)] 95, .vec (encRow 0) (renRows [0, 1, 2, 3, 4, 5, 6] (encRow 0) [[.sli 6 (.c 0) 1 (.v x'.4.length) none]]) 22, .vec (encInt IntKind.u32) x'.4 32]))

 (.ret (.normal, [.str q.2, .int .u32 q.3, .int .i64 ((1 : Int) + q.1.tmod (32 : Int)), .ptr 2 0, .ptr 3 0, .int .i64 W, .lit .i64 (0 : Int), .int .i64 (↑i : Int)], [.ro encLook [PUnit.unit], .own [.a (encInt IntKind.u32) 20 l'] 32, .own [.c (.sli 1 (.c 0) 1 (.v 20) (some (.v 20))), .c (.int .i64 (c + (1 : Int)))] 77, .own [.c (.ptr 4 0)] 57, .own [.c (.int .i64 x'.1), .c (.int .i64 x'.2), .c (.int .i64 x'.3), .c (.sli 5 (.c 0) 1 (.c 1) none), .c (.lit .i64 z)] 95, .vec (encRow 0) (renRows [0, 1, 2, 3, 4, 5, 6] (encRow 0) [[.sli 6 (.c 0) 1 (.v x'.4.length) none]]) 22, .vec (encInt IntKind.u32) x'.4 32]))))) := by kernel_rfl
set_option maxRecDepth 100000 in
theorem b_inc {q : InB} {W : Int} {l : List Int} {c : Int} {x : Wr} {z : Int} {i : Nat} : (exec cfgM 100 inc5 (fr 141 n5b (v5b q W i)) (memS 20 l c ++ putW 3 x z)).bind (canonK 7 [(0,0)] 141 n5b) =
 

 (.need (inR .i64 ((↑i : Int) + (1 : Int)))

 (.ret (.normal, [.str q.2, .int .u32 q.3, .int .i64 ((1 : Int) + q.1.tmod (32 : Int)), .ptr 2 0, .ptr 3 0, .int .i64 W, .lit .i64 (0 : Int), .int .i64 ((↑i : Int) + (1 : Int))], [.ro encLook [PUnit.unit], .own [.a (encInt IntKind.u32) 20 l] 32, .own [.c (.sli 1 (.c 0) 1 (.v 20) (some (.v 20))), .c (.int .i64 c)] 77, .own [.c (.ptr 4 0)] 57, .own [.c (.int .i64 x.1), .c (.int .i64 x.2), .c (.int .i64 x.3), .c (.sli 5 (.c 0) 1 (.c 1) none), .c (.lit .i64 z)] 95, .vec (encRow 0) (renRows [0, 1, 2, 3, 4, 5, 6] (encRow 0) [[.sli 6 (.c 0) 1 (.v x.4.length) none]]) 22, .vec (encInt IntKind.u32) x.4 32]))) := by kernel_rfl
set_option maxRecDepth 100000 in
theorem b_get {q : InB} {W : Int} {l : List Int} {c : Int} {x : Wr} {z : Int} {i : Nat} : (execN cfgM 100 2 d5 (fr 141 n5b (v5b q W i)) (memS 20 l c ++ putW 3 x z)).bind (canonK 3 [(0,0)] 141 n5c) =
 

 (.br (decide ((1 : Int) ≤ (1 : Int) + q.1.tmod (32 : Int)))

 (.br (!decide ((1 : Int) + q.1.tmod (32 : Int) ≤ (32 : Int)))

 (.ret (.ret, [.str q.2, .int .u32 q.3, .ptr 2 0, .int .i64 W, .pnil], [.ro encLook [PUnit.unit], .own [.a (encInt IntKind.u32) 20 l] 32, .own [.c (.sli 1 (.c 0) 1 (.v 20) (some (.v 20))), .c (.int .i64 c)] 77]))

 (.need (inR .i64 ((1 : Int) + q.1.tmod (32 : Int) + (3 : Int)))

 (.need (true)

 (.need (inR .i64 ((2 : Int) + IntKind.i64.wrap (((1 : Int) + q.1.tmod (32 : Int) + (3 : Int)).tdiv (4 : Int))))

 (.br (decide ((1 : Int) ≤ (2 : Int) + IntKind.i64.wrap (((1 : Int) + q.1.tmod (32 : Int) + (3 : Int)).tdiv (4 : Int))))

 (.br (!decide ((2 : Int) + IntKind.i64.wrap (((1 : Int) + q.1.tmod (32 : Int) + (3 : Int)).tdiv (4 : Int)) ≤ (32 : Int)))

 (.ret (.ret, [.str q.2, .int .u32 q.3, .ptr 2 0, .int .i64 W, .pnil], [.ro encLook [PUnit.unit], .own [.a (encInt IntKind.u32) 20 l] 32, .own [.c (.sli 1 (.c 0) 1 (.v 20) (some (.v 20))), .c (.int .i64 c)] 77]))

 (.ret (.normal, [.str q.2, .int .u32 q.3, .ptr 2 0, .int .i64 W, .ptr 3 0], [.ro encLook [PUnit.unit], .own [.a (encInt IntKind.u32) 20 l] 32, .own [.c (.sli 1 (.c 0) 1 (.v 20) (some (.v 20))), .c (.int .i64 c)] 77, .own [.c (.ptr 4 0), .c (.int .i64 ((1 : Int) + q.1.tmod (32 : Int)))] 63, .own [.c (.lit .i64 (7 : Int)), .c (.int .i64 ((2 : Int) + IntKind.i64.wrap (((1 : Int) + q.1.tmod (32 : Int) + (3 : Int)).tdiv (4 : Int)))), .c (.lit .i64 (0 : Int)), .c (.lit .i64 (0 : Int)), .c (.lit .u32 (0 : Int)), .c (.lit .u32 (0 : Int)), .c (.lit .u32 (0 : Int)), .c (.lit .u32 (0 : Int)), .c (.lit .u32 (0 : Int)), .c (.lit .u32 (0 : Int)), .c (.lit .u32 (0 : Int)), .c (.lit .u32 (0 : Int)), .c (.lit .u32 (0 : Int)), .c (.lit .u32 (0 : Int)), .c (.lit .u32 (0 : Int)), .c (.lit .u32 (0 : Int)), .c (.lit .u32 (0 : Int)), .c (.lit .u32 (0 : Int)), .c (.lit .u32 (0 : Int)), .c (.lit .u32 (0 : Int)), .c (.lit .u32 (0 : Int)), .c (.lit .u32 (0 : Int)), .c (.lit .u32 (0 : Int)), .c (.lit .u32 (0 : Int)), .c (.lit .u32 (0 : Int)), .c (.lit .u32 (0 : Int)), .c (.lit .u32 (0 : Int)), .c (.lit .u32 (0 : Int)), .c (.lit .u32 (0 : Int)), .c (.lit .u32 (0 : Int)), .c (.lit .u32 (0 : Int)), .c (.lit .u32 (0 : Int)), .c (.lit .u32 (0 : Int)), .c (.lit .u32 (0 : Int)), .c (.lit .u32 (0 : Int)), .c (.lit .u32 (0 : Int)), .c (.lit .u32 (0 : Int)), .c (.bl false), .c (.lit .i64 (0 : Int))] 99])))

 (.ret (.ret, [.str q.2, .int .u32 q.3, .ptr 2 0, .int .i64 W, .pnil], [.ro encLook [PUnit.unit], .own [.a (encInt IntKind.u32) 20 l] 32, .own [.c (.sli 1 (.c 0) 1 (.v 20) (some (.v 20))), .c (.int .i64 c)] 77])))))))

 (.ret (.ret, [.str q.2, .int .u32 q.3, .ptr 2 0, .int .i64 W, .pnil], [.ro encLook [PUnit.unit], .own [.a (encInt IntKind.u32) 20 l] 32, .own [.c (.sli 1 (.c 0) 1 (.v 20) (some (.v 20))), .c (.int .i64 c)] 77]))) := by kernel_rfl
set_option maxRecDepth 100000 in
theorem b_regb {q : InB} {W : Int} {l : List Int} {c : Int} {x : Rd} {z : Int} : (exec cfgM 100 reg5b (fr 141 n5c (v5c q W)) (sG 20 l c x z)).bind (canonK 5 [(0,0)] 141 n5d) =
 

 (.ret (.normal, [.str q.2, .int .u32 q.3, .ptr 2 0, .int .i64 W, .ptr 3 0, .lit .i64 (1 : Int)], [.ro encLook [PUnit.unit], .own [.a (encInt IntKind.u32) 20 l] 32, .own [.c (.sli 1 (.c 0) 1 (.v 20) (some (.v 20))), .c (.int .i64 c)] 77, .own [.c (.ptr 4 0), .c (.int .i64 z)] 63, .own [.c (.int .i64 x.1), .c (.int .i64 x.2), .c (.int .i64 x.3), .c (.int .i64 x.4), .c (.int .u32 x.5), .a (encInt IntKind.u32) 32 x.6, .c (.sb x.7), .c (.int .i64 x.8)] 99])) := by kernel_rfl
set_option maxRecDepth 100000 in
theorem b_tmb {q : InB} {W : Int} {l : List Int} {c : Int} {x : Rd} {z : Int} {i : Nat} : (exec cfgM 100 tm5b (fr 141 n5d (v5d q W i)) (sG 20 l c x z)).bind (canonK 5 [(0,0)] 141 n5d) =
 

 (.need (inR .i64 (W + (1 : Int)))

 (.br (decide ((↑i : Int) ≤ W + (1 : Int)))

 (.ret (.normal, [.str q.2, .int .u32 q.3, .ptr 2 0, .int .i64 W, .ptr 3 0, .int .i64 (↑i : Int)], [.ro encLook [PUnit.unit], .own [.a (encInt IntKind.u32) 20 l] 32, .own [.c (.sli 1 (.c 0) 1 (.v 20) (some (.v 20))), .c (.int .i64 c)] 77, .own [.c (.ptr 4 0), .c (.int .i64 z)] 63, .own [.c (.int .i64 x.1), .c (.int .i64 x.2), .c (.int .i64 x.3), .c (.int .i64 x.4), .c (.int .u32 x.5), .a (encInt IntKind.u32) 32 x.6, .c (.sb x.7), .c (.int .i64 x.8)] 99]))

 (.ret (.exit 2, [.str q.2, .int .u32 q.3, .ptr 2 0, .int .i64 W, .ptr 3 0, .int .i64 (↑i : Int)], [.ro encLook [PUnit.unit], .own [.a (encInt IntKind.u32) 20 l] 32, .own [.c (.sli 1 (.c 0) 1 (.v 20) (some (.v 20))), .c (.int .i64 c)] 77, .own [.c (.ptr 4 0), .c (.int .i64 z)] 63, .own [.c (.int .i64 x.1), .c (.int .i64 x.2), .c (.int .i64 x.3), .c (.int .i64 x.4), .c (.int .u32 x.5), .a (encInt IntKind.u32) 32 x.6, .c (.sb x.7), .c (.int .i64 x.8)] 99])))) := by kernel_rfl
set_option maxRecDepth 100000 in
theorem b_bbb {q : InB} {W : Int} {l : List Int} {c : Int} {x : Rd} {z : Int} {i : Nat} : (exec (cfgRd 20 l c x z) 100 bb5b (fr 141 n5d (v5d q W i)) (sG 20 l c x z)).bind (canonK 5 [(0,0)] 141 n5d) =
 

 (.eq ([SVal.ptr 4 0, .ptr 2 0] = [SVal.ptr 4 0, .ptr 2 0] ∧ [Blk.ro encLook [PUnit.unit], .own [.a (encInt IntKind.u32) 20 l] 32, .own [.c (.sli 1 (.c 0) 1 (.v 20) (some (.v 20))), .c (.int .i64 c)] 77, .own [.c (.ptr 4 0), .c (.int .i64 z)] 63, .own [.c (.int .i64 x.1), .c (.int .i64 x.2), .c (.int .i64 x.3), .c (.int .i64 x.4), .c (.int .u32 x.5), .a (encInt IntKind.u32) 32 x.6, .c (.sb x.7), .c (.int .i64 x.8)] 99] = [Blk.ro encLook [PUnit.unit], .own [.a (encInt IntKind.u32) 20 l] 32, .own [.c (.sli 1 (.c 0) 1 (.v 20) (some (.v 20))), .c (.int .i64 c)] 77, .own [.c (.ptr 4 0), .c (.int .i64 z)] 63, .own [.c (.int .i64 x.1), .c (.int .i64 x.2), .c (.int .i64 x.3), .c (.int .i64 x.4), .c (.int .u32 x.5), .a (encInt IntKind.u32) 32 x.6, .c (.sb x.7), .c (.int .i64 x.8)] 99] ∧ ROk 20 l c x)

 (.need (inR .i64 (W + (1 : Int)))

 (.br (!(rStep x l).7 == ((↑i : Int) == W + (1 : Int)))

 (.ret (.ret, [.str q.2, .int .u32 q.3, .ptr 2 0, .int .i64 W, .ptr 3 0, .int .i64 (↑i : Int)], [.ro encLook [PUnit.unit], .own [.a (encInt IntKind.u32) 20 l] 32, .own [.c (.sli 1 (.c 0) 1 (.v 20) (some (.v 20))), .c (.int .i64 (c + (1 : Int)))] 77, .own [.c (.ptr 4 0), .c (.int .i64 z)] 63, .own [.c (.int .i64 (rStep x l).1), .c (.int .i64 (rStep x l).2), .c (.int .i64 (rStep x l).3), .c (.int .i64 (rStep x l).4), .c (.int .u32 (rStep x l).5), .a (encInt IntKind.u32) 32 (rStep x l).6, .c (.sb (rStep x l).7), .c (.int .i64 (rStep x l).8)] 99]))

 (.ret (.normal, [.str q.2, .int .u32 q.3, .ptr 2 0, .int .i64 W, .ptr 3 0, .int .i64 (↑i : Int)], [.ro encLook [PUnit.unit], .own [.a (encInt IntKind.u32) 20 l] 32, .own [.c (.sli 1 (.c 0) 1 (.v 20) (some (.v 20))), .c (.int .i64 (c + (1 : Int)))] 77, .own [.c (.ptr 4 0), .c (.int .i64 z)] 63, .own [.c (.int .i64 (rStep x l).1), .c (.int .i64 (rStep x l).2), .c (.int .i64 (rStep x l).3), .c (.int .i64 (rStep x l).4), .c (.int .u32 (rStep x l).5), .a (encInt IntKind.u32) 32 (rStep x l).6, .c (.sb (rStep x l).7), .c (.int .i64 (rStep x l).8)] 99]))))) := by kernel_rfl
set_option maxRecDepth 100000 in
theorem b_incb {q : InB} {W : Int} {l : List Int} {c : Int} {x : Rd} {z : Int} {i : Nat} : (exec cfgM 100 inc5b (fr 141 n5d (v5d q W i)) (sG 20 l c x z)).bind (canonK 5 [(0,0)] 141 n5d) =
 

 (.need (inR .i64 ((↑i : Int) + (1 : Int)))

 (.ret (.normal, [.str q.2, .int .u32 q.3, .ptr 2 0, .int .i64 W, .ptr 3 0, .int .i64 ((↑i : Int) + (1 : Int))], [.ro encLook [PUnit.unit], .own [.a (encInt IntKind.u32) 20 l] 32, .own [.c (.sli 1 (.c 0) 1 (.v 20) (some (.v 20))), .c (.int .i64 c)] 77, .own [.c (.ptr 4 0), .c (.int .i64 z)] 63, .own [.c (.int .i64 x.1), .c (.int .i64 x.2), .c (.int .i64 x.3), .c (.int .i64 x.4), .c (.int .u32 x.5), .a (encInt IntKind.u32) 32 x.6, .c (.sb x.7), .c (.int .i64 x.8)] 99]))) := by kernel_rfl
set_option maxRecDepth 100000 in
theorem b_end {q : InB} {W : Int} {l : List Int} {c : Int} {x : Rd} {z : Int} {k m : Nat} {i : Nat} : (exec (cfgMs l c x z k m) 100 f5e (fr 141 n5d (v5d q W i)) (sGt 20 l c x z)).bind (canonK 5 [(0,0)] 141 [6]) =
 

 (.eq ([SVal.ptr 3 0] = [SVal.ptr 3 0] ∧ [Blk.ro encLook [PUnit.unit], .own [.a (encInt IntKind.u32) 20 l] 32, .own [.c (.sli 1 (.c 0) 1 (.v 20) (some (.v 20))), .c (.int .i64 c)] 77, .own [.c (.ptr 4 0), .c (.int .i64 z)] 63, .own [.c (.int .i64 x.1), .c (.int .i64 x.2), .c (.int .i64 x.3), .c (.int .i64 x.4), .c (.int .u32 x.5), .a (encInt IntKind.u32) 32 x.6, .c (.sb true), .c (.int .i64 x.8)] 99] = [Blk.ro encLook [PUnit.unit], .own [.a (encInt IntKind.u32) 20 l] 32, .own [.c (.sli 1 (.c 0) 1 (.v 20) (some (.v 20))), .c (.int .i64 c)] 77, .own [.c (.ptr 4 0), .c (.int .i64 z)] 63, .own [.c (.int .i64 x.1), .c (.int .i64 x.2), .c (.int .i64 x.3), .c (.int .i64 x.4), .c (.int .u32 x.5), .a (encInt IntKind.u32) 32 x.6, .c (.sb true), .c (.int .i64 x.8)] 99] ∧ x.2 = (↑k : Int) + (2 : Int) ∧ (1 ≤ k ∧ k ≤ 30) ∧ ((0 : Int) ≤ z ∧ z ≤ (32 : Int)) ∧ imin (x.6.getD 1 (0 : Int)) z = (↑m : Int) ∧ m ≤ 32 ∧ m ≤ 4 * k)

 (.br (strEq (strU (unpN (L32 x.l) m m)) q.2)

 (.ret (.ret, [.sb (x.6.getD 0 (0 : Int) == q.3)], [.ro encLook [PUnit.unit], .own [.a (encInt IntKind.u32) 20 l] 32, .own [.c (.sli 1 (.c 0) 1 (.v 20) (some (.v 20))), .c (.int .i64 c)] 77, .own [.c (.ptr 4 0), .c (.int .i64 z)] 63, .own [.c (.int .i64 x.1), .c (.int .i64 x.2), .c (.int .i64 x.3), .c (.int .i64 x.4), .c (.int .u32 x.5), .a (encInt IntKind.u32) 32 x.6, .c (.sb true), .c (.int .i64 x.8)] 99]))

 (.ret (.ret, [.bl false], [.ro encLook [PUnit.unit], .own [.a (encInt IntKind.u32) 20 l] 32, .own [.c (.sli 1 (.c 0) 1 (.v 20) (some (.v 20))), .c (.int .i64 c)] 77, .own [.c (.ptr 4 0), .c (.int .i64 z)] 63, .own [.c (.int .i64 x.1), .c (.int .i64 x.2), .c (.int .i64 x.3), .c (.int .i64 x.4), .c (.int .u32 x.5), .a (encInt IntKind.u32) 32 x.6, .c (.sb true), .c (.int .i64 x.8)] 99])))) := by kernel_rfl
end Go.Proofs.YtfapadgpihpmhaaDoor

/- SlotBack, plain: writing and reading, step by step. -/
namespace Go.Proofs.YtfapadgpihpmhaaDoor
open Go Go.Proofs.YtfapadgpihpmhaaDoor.Sx
set_option linter.unusedVariables false
/-- behind so many steps of writing -/
structure WI (V : List Int) (i : Nat) (l : List Int) (x : Wr) : Prop where
  at' : x.at' = 7
  xV : x.V = V
  ll : l.length = 20
  p0 : i = 0 → x.phase = 0
  p1 : 1 ≤ i → i ≤ V.length → x.phase = 1 ∧ x.next = (i : Int) - 1
  p2 : i = V.length + 1 → x.phase = 2
  z0 : i = 0 → l.getD 7 0 = 0
  z1 : 1 ≤ i → l.getD 7 0 = 1
  w : ∀ j, j + 1 < i → j < V.length → l.getD (8 + j) 0 = V.getD j 0
structure WD (V : List Int) (l : List Int) : Prop where
  ll : l.length = 20
  z : l.getD 7 0 = 2
  w : ∀ j, j < V.length → l.getD (8 + j) 0 = V.getD j 0
theorem wi_begin {V l : List Int} {x : Wr} (hV : 1 ≤ V.length) (h : WI V 0 l x) : WI V 1 (lInc x.at' l) ⟨x.at', 0, 1, x.V⟩ := by
  have h7 := h.at'
  have hl := h.ll
  have hz := h.z0 rfl
  refine ⟨h7, h.xV, by simp [lInc, hl], fun h => by omega, fun _ _ => ⟨rfl, rfl⟩, fun h => by omega, fun h => by omega, fun _ => ?_, fun j hj => by omega⟩
  unfold lInc
  rw [h7, show (7 : Int).toNat = 7 from rfl, Sx.getD_set_self (by omega), hz]; rfl
theorem wi_word {V l : List Int} {x : Wr} {i : Nat} (hV : V.length ≤ 10) (h1 : 1 ≤ i) (h2 : i ≤ V.length) (h : WI V i l x) : WI V (i + 1) (lPut x l) (wPut x) := by
  have h7 := h.at'
  have hl := h.ll
  have hz := h.z1 h1
  obtain ⟨hp, hn⟩ := h.p1 h1 h2
  have hvv := h.xV
  have e : (x.at' + 1 + x.next).toNat = 8 + (i - 1) := by omega
  have e2 : x.next.toNat = i - 1 := by omega
  refine ⟨h7, hvv, by simp [lPut, hl], fun h => by omega, fun _ hi => ⟨?_, ?_⟩, fun hi => ?_, fun h => by omega, fun _ => ?_, fun j hj hjV => ?_⟩
  · simp only [wPut]; rw [hvv, if_neg (by omega)]
  · simp only [wPut]; omega
  · simp only [wPut]; rw [hvv, if_pos (by omega)]
  · unfold lPut
    rw [e, Sx.getD_set_ne (by omega)]; exact hz
  · unfold lPut
    rw [e, e2, hvv]
    by_cases hji : j = i - 1
    · subst hji
      rw [Sx.getD_set_self (by omega)]
    · rw [Sx.getD_set_ne (by omega)]
      exact h.w j (by omega) hjV
theorem wi_end {V l : List Int} {x : Wr} (hV : V.length ≤ 10) (h : WI V (V.length + 1) l x) : WD V (lInc x.at' l) := by
  have h7 := h.at'
  have hl := h.ll
  have hz := h.z1 (by omega)
  refine ⟨by simp [lInc, hl], ?_, fun j hj => ?_⟩
  · unfold lInc
    rw [h7, show (7 : Int).toNat = 7 from rfl, Sx.getD_set_self (by omega), hz]; rfl
  · unfold lInc
    rw [h7, show (7 : Int).toNat = 7 from rfl, Sx.getD_set_ne (by omega)]
    exact h.w j (by omega) hj
/-- behind so many steps of reading -/
structure RI (V : List Int) (i : Nat) (x : Rd) : Prop where
  at' : x.at' = 7
  n : x.n = V.length
  got : x.got = false
  xl : x.l.length = 32
  t : 0 ≤ x.tries ∧ x.tries ≤ 1
  p0 : i = 0 → x.phase = 0 ∧ x.tries = 0
  p1 : 1 ≤ i → i ≤ V.length → x.phase = 1 ∧ x.next = (i : Int) - 1
  p2 : i = V.length + 1 → x.phase = 2
  c : 1 ≤ i → x.count = 2
  w : ∀ j, j + 1 < i → j < V.length → x.l.getD j 0 = V.getD j 0
structure RDn (V : List Int) (x : Rd) : Prop where
  n : x.n = V.length
  got : x.got = true
  w : ∀ j, j < V.length → x.l.getD j 0 = V.getD j 0
theorem ri_step {V l : List Int} {x : Rd} {i : Nat} (hV : 1 ≤ V.length ∧ V.length ≤ 10) (hi : i ≤ V.length) (hl : WD V l) (h : RI V i x) : RI V (i + 1) (rStep x l) := by
  have h7 := h.at'
  have hn := h.n
  have hxl := h.xl
  by_cases h0 : i = 0
  · subst h0
    obtain ⟨hp, ht⟩ := h.p0 rfl
    have e : x.at'.toNat = 7 := by omega
    have hs : rStep x l = ⟨x.at', x.n, 0, 1, l.getD x.at'.toNat 0, x.l, false, x.tries + 1⟩ := by
      unfold rStep
      rw [if_pos hp, e, hl.z, if_pos (by decide)]
    rw [hs]
    exact ⟨h7, hn, rfl, hxl, by simp only; omega, fun h => by omega, fun _ _ => ⟨rfl, rfl⟩, fun h => by omega, fun _ => by simp only [e]; exact hl.z, fun j hj => by omega⟩
  · obtain ⟨hp, hx⟩ := h.p1 (by omega) hi
    have hs : rStep x l = ⟨x.at', x.n, x.next + 1, if x.next + 1 = x.n then 2 else 1, x.count, x.l.set x.next.toNat (l.getD (x.at' + (1 + x.next)).toNat 0), false, x.tries⟩ := by
      unfold rStep
      rw [if_neg (by omega), if_pos hp]
    rw [hs]
    have e : (x.at' + (1 + x.next)).toNat = 8 + (i - 1) := by omega
    have e2 : x.next.toNat = i - 1 := by omega
    refine ⟨h7, hn, rfl, by simp [hxl], h.t, fun h => by omega, fun _ hi => ⟨?_, ?_⟩, fun hi => ?_, fun _ => h.c (by omega), fun j hj hjV => ?_⟩
    · simp only; rw [if_neg (by omega)]
    · simp only; omega
    · simp only; rw [if_pos (by omega)]
    · simp only [e, e2]
      by_cases hji : j = i - 1
      · subst hji
        rw [Sx.getD_set_self (by omega)]
        exact hl.w _ hjV
      · rw [Sx.getD_set_ne (by omega)]
        exact h.w j (by omega) hjV
theorem ri_end {V l : List Int} {x : Rd} (hl : WD V l) (h : RI V (V.length + 1) x) : RDn V (rStep x l) := by
  have h7 := h.at'
  have hp := h.p2 rfl
  have hc := h.c (by omega)
  have e : x.at'.toNat = 7 := by omega
  have hs : rStep x l = ⟨x.at', x.n, x.next, 0, x.count, x.l, l.getD x.at'.toNat 0 == x.count, x.tries⟩ := by
    unfold rStep
    rw [if_neg (by omega), if_neg (by omega)]
  rw [hs]
  refine ⟨h.n, ?_, fun j hj => h.w j (by omega) hj⟩
  simp only [e]
  rw [hl.z, hc]; rfl
theorem ri_got {V l : List Int} {x : Rd} {i : Nat} (hV : 1 ≤ V.length ∧ V.length ≤ 10) (hi : i ≤ V.length) (hl : WD V l) (h : RI V i x) : (rStep x l).got = false := (ri_step hV hi hl h).got
theorem verP_getD {q : PutI} (h : PutOk q) {k : Nat} (hk : k < four q.n) : (verP q).getD (2 + k) 0 = ((wN q.s q.s.size k : Nat) : Int) := by
  have hf := four_le h.n
  have hs := h.s
  have hn := h.n
  have h1 : (verP q).getD (2 + k) 0 = (l8 (packN q.s q.s.size)).getD k 0 := by
    unfold verP
    rw [List.getD_eq_getElem?_getD, List.getD_eq_getElem?_getD, List.getElem?_append_right (by simp)]
    simp only [List.length_cons, List.length_nil]
    rw [show 2 + k - (0 + 1 + 1) = k by omega, List.getElem?_take, if_pos hk]
  have h2 : (l8 (packN q.s q.s.size)).getD k 0 = (packN q.s q.s.size).getD k 0 := by
    have hq : k = 0 ∨ k = 1 ∨ k = 2 ∨ k = 3 ∨ k = 4 ∨ k = 5 ∨ k = 6 ∨ k = 7 := by omega
    rcases hq with rfl | rfl | rfl | rfl | rfl | rfl | rfl | rfl <;> rfl
  rw [h1, h2]
  exact packN_w q.s _ (by omega) k (by omega)
theorem u32s_ver {q : PutI} (h : PutOk q) (ht : 0 ≤ q.tick ∧ q.tick < 4294967296) : U32s (verP q) := by
  have hs := h.s
  have hn := h.n
  have hw : ∀ k, k < 8 → 0 ≤ (packN q.s q.s.size).getD k 0 ∧ (packN q.s q.s.size).getD k 0 < 4294967296 := by
    intro k hk
    rw [packN_w q.s _ (by omega) k hk]
    have f0 := fN_lt q.s q.s.size k 0
    have f1 := fN_lt q.s q.s.size k 1
    have f2 := fN_lt q.s q.s.size k 2
    have f3 := fN_lt q.s q.s.size k 3
    unfold wN
    omega
  intro x hx
  unfold verP at hx
  rcases List.mem_append.1 hx with hx | hx
  · simp only [List.mem_cons, List.not_mem_nil, or_false] at hx
    rcases hx with rfl | rfl
    · exact ht
    · omega
  · have hx := List.mem_of_mem_take hx
    simp only [List.mem_cons, List.not_mem_nil, or_false] at hx
    rcases hx with rfl | rfl | rfl | rfl | rfl | rfl | rfl | rfl
    · exact hw 0 (by omega)
    · exact hw 1 (by omega)
    · exact hw 2 (by omega)
    · exact hw 3 (by omega)
    · exact hw 4 (by omega)
    · exact hw 5 (by omega)
    · exact hw 6 (by omega)
    · exact hw 7 (by omega)
end Go.Proofs.YtfapadgpihpmhaaDoor

/- SlotBack: its rounds. -/
namespace Go.Proofs.YtfapadgpihpmhaaDoor
open Go Go.Proofs.YtfapadgpihpmhaaDoor.Sx
set_option linter.unusedVariables false
abbrev Q5 (w0 : From) : Exit → Act → World → Prop := bodyPost Tryd.prog Tryd.f5 (Said w0)
structure Big (q : InB) (W : Int) (V : List Int) : Prop where
  n : 1 ≤ nB q ∧ nB q ≤ 32
  W : W = V.length + 1
  vl : V.length = 2 + four (nB q)
  u : U32s V
  s : 1 ≤ q.s.size ∧ (q.s.size : Int) ≤ nB q
  t : V.getD 0 0 = q.tick
  z : V.getD 1 0 = (q.s.size : Int)
  w : ∀ k, k < four (nB q) → V.getD (2 + k) 0 = ((wN q.s q.s.size k : Nat) : Int)
theorem Big.len {q : InB} {W : Int} {V : List Int} (h : Big q W V) : 3 ≤ V.length ∧ V.length ≤ 10 := by
  have := four_le h.n
  have := h.vl
  omega
theorem big_str {q : InB} {W : Int} {V : List Int} (h : Big q W V) {x : List Int} (hw : ∀ j, j < V.length → x.getD j 0 = V.getD j 0) : strU (unpN (L32 x) q.s.size q.s.size) = q.s := by
  have hn := h.n
  have hs := h.s
  have hV := h.vl
  have hf : q.s.size ≤ 4 * four (nB q) := by unfold four; omega
  refine str_back fun i hi => byteU_ok (z := q.s.size) ?_ hi
  have hk : i / 4 < four (nB q) := by omega
  have hf8 := four_le hn
  rw [← h.w _ hk, ← hw _ (by omega)]
  rw [List.getD_eq_getElem?_getD, List.getElem?_map, List.getElem?_range (by omega)]; rfl
/-- the end -/
theorem end5_ok {w0 : From} {q : InB} {W : Int} {V : List Int} (h : Big q W V) {l : List Int} {c : Int} {x : Rd} (hx : RDn V x) {i : Nat} {env : Env} {a : Act} {w : World} (hA : At [(0, 0)] w0 env (fr 141 n5d (v5d q W i)) (sG 20 l c x (nB q)) a w) : f5e.wp Tryd.prog (Q5 w0) a w := by
  obtain ⟨h1, h2, h3⟩ := hx
  have hl := h.len
  have hs := h.s
  have hn := h.n
  have hV := h.vl
  have hf : q.s.size ≤ 4 * four (nB q) := by unfold four; omega
  have hst := big_str h h3
  have ht : x.l.getD 0 0 = q.tick := (h3 0 (by omega)).trans h.t
  have hz : x.l.getD 1 0 = (q.s.size : Int) := (h3 1 (by omega)).trans h.z
  have hm : imin (x.l.getD 1 0) (nB q) = (q.s.size : Int) := by
    rw [hz]; unfold imin; split <;> omega
  obtain ⟨at', n, next, phase, count, xl, got, tries⟩ := x
  simp only at h1 h2 h3 ht hz hm hst
  subst h2
  have hA2 : At [(0, 0)] w0 env (fr 141 n5d (v5d q W i)) (sGt 20 l c ⟨at', n, next, phase, count, xl, true, tries⟩ (nB q)) a w := hA
  refine pieceT0 (c := cfgMs l c ⟨at', n, next, phase, count, xl, true, tries⟩ (nB q) (V.length - 2) q.s.size) cfgMs_ok [6] b_end hA2 ?_
  refine all_eq ⟨by first | exact True.intro | rfl, by first | exact True.intro | rfl, by simp only; omega, by omega, by omega, hm, by omega, by omega⟩ ?_
  rw [hst]
  refine all_brp (by rw [strEq_iff]) (fun _ => ?_) (fun hh => absurd rfl hh)
  simp only [ht]
  rw [beq_self_eq_true]
  exact all_ret fun env' a' w' hA' => (hA'.vals [.bl true] ⟨fun _ h => h, trivial⟩).said (by kernel_rfl)
def InvD (w0 : From) (q : InB) (W : Int) (V : List Int) (l : List Int) (i : Nat) (a : Act) (w : World) : Prop :=
  ∃ c x, 1 ≤ i ∧ i ≤ V.length + 3 ∧ (0 ≤ c ∧ c ≤ 100 + (i : Int)) ∧ (i ≤ V.length + 2 → RI V (i - 1) x) ∧ (i = V.length + 3 → RDn V x) ∧ ∃ env, At [(0, 0)] w0 env (fr 141 n5d (v5d q W i)) (sG 20 l c x (nB q)) a w
abbrev RB (w0 : From) (q : InB) (W : Int) (V l : List Int) (i : Nat) : Exit → Act → World → Prop :=
  Exit.then (fun a' w' => ∃ k, InvD w0 q W V l k a' w' ∧ (V.length + 3) - k < (V.length + 3) - i) (Exit.inBlock 2 (Exit.then (f5e.wp Tryd.prog (Q5 w0)) (Q5 w0)))
set_option maxHeartbeats 1000000 in
theorem roundB_ok {w0 : From} {q : InB} {W : Int} {V l : List Int} (h : Big q W V) (hl : WD V l) {i : Nat} {a : Act} {w : World} (hI : InvD w0 q W V l i a w) : round5b.wp Tryd.prog (RB w0 q W V l i) a w := by
  obtain ⟨c, x, h1, h2, h3, h4, h5, env, hA⟩ := hI
  have hW := h.W
  have hlen := h.len
  refine wpS (by kernel_rfl) ?_
  refine pieceT0 (c := cfgM) cfgM_ok n5d b_tmb hA ?_
  refine all_needq (by simp only [inR_i64]; exact Iff.rfl) (by omega) ?_
  refine all_brp (by simp only [decide_eq_true_eq]; exact Iff.rfl) (fun h6 => all_ret fun env1 a1 w1 hA1 => ?_) (fun h6 => all_ret fun env1 a1 w1 hA1 => ?_)
  · simp only [Ex.to, Exit.then]
    have hi : i ≤ V.length + 2 := by omega
    have hR := h4 hi
    refine (show (rgt round5b).wp Tryd.prog (RB w0 q W V l i) a1 w1 from wpS (by kernel_rfl) (wpB 3 (by kernel_rfl) ?_))
    refine (show bb5b.wp Tryd.prog (Exit.inBlock 3 (Exit.then (inc5b.wp Tryd.prog (RB w0 q W V l i)) (RB w0 q W V l i))) a1 w1 from ?_)
    refine pieceT0 (c := cfgRd 20 l c x (nB q)) cfgRd_ok n5d b_bbb hA1 ?_
    have hok : ROk 20 l c x := by
      refine ⟨by rw [hR.at']; omega, by rw [hR.at', hR.n]; omega, by omega, hl.ll, by rw [hR.n]; omega, by omega, by have := hR.t; omega, hR.got, ?_, ?_, hR.xl⟩
      · have p0 := hR.p0; have p1 := hR.p1; have p2 := hR.p2
        by_cases e0 : i - 1 = 0
        · have := (p0 e0).1; omega
        · by_cases e1 : i - 1 ≤ V.length
          · have := (p1 (by omega) e1).1; omega
          · have := p2 (by omega); omega
      · intro hp
        have p0 := hR.p0; have p1 := hR.p1; have p2 := hR.p2
        rw [hR.n]
        by_cases e0 : i - 1 = 0
        · have := (p0 e0).1; omega
        · by_cases e1 : i - 1 ≤ V.length
          · have := (p1 (by omega) e1).2; omega
          · have := p2 (by omega); omega
    refine all_eq ⟨by first | exact True.intro | rfl, by first | exact True.intro | rfl, hok⟩ ?_
    refine all_needq (by simp only [inR_i64]; exact Iff.rfl) (by omega) ?_
    have fin : ∀ {x' : Rd}, (i + 1 ≤ V.length + 2 → RI V i x') → (i + 1 = V.length + 3 → RDn V x') → ∀ {env' : Env} {a' : Act} {w' : World}, At [(0, 0)] w0 env' (fr 141 n5d (v5d q W i)) (sG 20 l (c + 1) x' (nB q)) a' w' →
        Exit.inBlock 3 (Exit.then (inc5b.wp Tryd.prog (RB w0 q W V l i)) (RB w0 q W V l i)) .normal a' w' := by
      intro x' g1 g2 env' a' w' h'
      simp only [Exit.inBlock, Exit.then]
      refine pieceT0 (c := cfgM) cfgM_ok n5d b_incb h' ?_
      refine all_needp (by simp only [inR_i64]; exact Iff.rfl) (by omega) fun _ => all_ret fun env'' a'' w'' hA' => ?_
      exact ⟨i + 1, ⟨c + 1, x', by omega, by omega, by omega, fun hh => by rw [Nat.add_sub_cancel]; exact g1 hh, g2, env'', hA'⟩, by omega⟩
    by_cases hlast : i = V.length + 2
    · have he := ri_end hl (x := x) (by have : i - 1 = V.length + 1 := by omega
                                        rw [this] at hR; exact hR)
      have hg := he.got
      have hd : ((i : Int) == W + 1) = true := beq_iff_eq.2 (by omega)
      refine all_br (fun hh => by rw [hg, hd] at hh; cases hh) (fun _ => all_ret fun _ _ _ h' => ?_)
      exact fin (fun hh => by omega) (fun _ => he) h'
    · have hn := ri_step (V := V) (i := i - 1) ⟨by omega, by omega⟩ (by omega) hl hR
      rw [show i - 1 + 1 = i by omega] at hn
      have hg := hn.got
      have hd : ((i : Int) == W + 1) = false := beq_eq_false_iff_ne.2 (by omega)
      refine all_br (fun hh => by rw [hg, hd] at hh; cases hh) (fun _ => all_ret fun _ _ _ h' => ?_)
      exact fin (fun _ => hn) (fun hh => by omega) h'
  · simp only [Ex.to, Exit.then, Exit.inBlock, if_true]
    exact end5_ok h (h5 (by omega)) hA1
end Go.Proofs.YtfapadgpihpmhaaDoor

/- SlotBack: its call. -/
namespace Go.Proofs.YtfapadgpihpmhaaDoor
open Go Go.Proofs.YtfapadgpihpmhaaDoor.Sx
set_option linter.unusedVariables false
set_option maxHeartbeats 2000000 in
theorem d5_ok {w0 : From} {q : InB} {W : Int} {V l : List Int} (h : Big q W V) (hl : WD V l) {c : Int} (hc : 0 ≤ c ∧ c ≤ 100) {x : Wr} {z : Int} {i : Nat} {env : Env} {a : Act} {w : World} (hA : At [(0, 0)] w0 env (fr 141 n5b (v5b q W i)) (memS 20 l c ++ putW 3 x z) a w) : d5.wp Tryd.prog (Q5 w0) a w := by
  have hn := h.n
  have hV := h.vl
  have hlen := h.len
  have hf := four_le hn
  refine pieceNT0 (c := cfgM) cfgM_ok 2 n5c b_get hA ?_
  have e1 : IntKind.i64.wrap ((nB q + 3).tdiv 4) = ((four (nB q) : Nat) : Int) := by
    rw [Int.tdiv_eq_ediv_of_nonneg (by omega), wrap_i64 (by omega)]; unfold four; omega
  have e2 : (1 : Int) + q.size.tmod 32 = nB q := rfl
  rw [e2, e1, show (2 : Int) + ((four (nB q) : Nat) : Int) = ((V.length : Nat) : Int) by omega]
  refine all_brp (by simp only [decide_eq_true_eq]; exact Iff.rfl) (fun _ => ?_) (fun h2 => by exfalso; exact h2 hn.1)
  refine all_brp (by simp only [Bool.not_eq_true', decide_eq_false_iff_not]; exact Iff.rfl) (fun h2 => by exfalso; exact h2 hn.2) (fun _ => ?_)
  refine all_needq (by simp only [inR_i64]; exact Iff.rfl) (by omega) ?_
  refine all_need rfl fun _ => ?_
  refine all_needq (by simp only [inR_i64]; exact Iff.rfl) (by omega) ?_
  refine all_brp (by simp only [decide_eq_true_eq]; exact Iff.rfl) (fun _ => ?_) (fun h2 => by exfalso; omega)
  refine all_brp (by simp only [Bool.not_eq_true', decide_eq_false_iff_not]; exact Iff.rfl) (fun h2 => by exfalso; omega) (fun _ => ?_)
  refine all_ret fun env1 a1 w1 hA1 => ?_
  simp only [Ex.to, Exit.then]
  have hA2 := hA1.segs 4 (l' := [.c (.int .i64 7), .c (.int .i64 ((V.length : Nat) : Int)), .c (.int .i64 0), .c (.int .i64 0), .c (.int .u32 0), .a (encInt .u32) 32 (List.replicate 32 0), .c (.sb false), .c (.int .i64 0)]) rfl (by
    intro s hs
    simp only [List.mem_cons, List.not_mem_nil, or_false] at hs
    rcases hs with rfl | rfl | rfl | rfl | rfl | rfl | rfl | rfl <;> first | trivial | rfl) (fun cs h => denL_gen2 (by kernel_rfl) h)
  have hA3 : At [(0, 0)] w0 env1 (fr 141 n5c (v5c q W)) (sG 20 l c ⟨7, (V.length : Nat), 0, 0, 0, List.replicate 32 0, false, 0⟩ (nB q)) a1 w1 := hA2
  refine (show e5.wp Tryd.prog (Q5 w0) a1 w1 from wpS (by kernel_rfl) (wpS (by kernel_rfl) ?_))
  refine pieceT0 (c := cfgM) cfgM_ok n5d b_regb hA3 (all_ret fun env2 a2 w2 hA4 => ?_)
  simp only [Ex.to, Exit.then]
  have hA5 : At [(0, 0)] w0 env2 (fr 141 n5d (v5d q W 1)) (sG 20 l c ⟨7, (V.length : Nat), 0, 0, 0, List.replicate 32 0, false, 0⟩ (nB q)) a2 w2 := hA4.gvals _ rfl
  have hR : RI V 0 ⟨7, (V.length : Nat), 0, 0, 0, List.replicate 32 0, false, 0⟩ := ⟨rfl, rfl, rfl, by simp, by simp, fun _ => ⟨rfl, rfl⟩, fun h => by omega, fun h => by omega, fun h => by omega, fun j hj => by omega⟩
  refine wpB 2 (by kernel_rfl) (wpL (by kernel_rfl) (InvD w0 q W V l) (fun i => (V.length + 3) - i) 1 ⟨c, _, Nat.le_refl _, by omega, by omega, fun _ => hR, fun h => by omega, env2, hA5⟩ ?_)
  intro i a w h'
  exact roundB_ok h hl h'
def InvW (w0 : From) (q : InB) (W : Int) (V : List Int) (i : Nat) (a : Act) (w : World) : Prop :=
  ∃ c l x z, 1 ≤ i ∧ i ≤ V.length + 3 ∧ (0 ≤ c ∧ c ≤ (i : Int)) ∧ (i ≤ V.length + 2 → WI V (i - 1) l x ∧ z = 0) ∧ (i = V.length + 3 → WD V l) ∧ ∃ env, At [(0, 0)] w0 env (fr 141 n5b (v5b q W i)) (memS 20 l c ++ putW 3 x z) a w
abbrev RW (w0 : From) (q : InB) (W : Int) (V : List Int) (i : Nat) : Exit → Act → World → Prop :=
  Exit.then (fun a' w' => ∃ k, InvW w0 q W V k a' w' ∧ (V.length + 3) - k < (V.length + 3) - i) (Exit.inBlock 0 (Exit.then (d5.wp Tryd.prog (Q5 w0)) (Q5 w0)))
set_option maxHeartbeats 1000000 in
theorem roundW_ok {w0 : From} {q : InB} {W : Int} {V : List Int} (h : Big q W V) {i : Nat} {a : Act} {w : World} (hI : InvW w0 q W V i a w) : round5.wp Tryd.prog (RW w0 q W V i) a w := by
  obtain ⟨c, l, x, z, h1, h2, h3, h4, h5, env, hA⟩ := hI
  have hW := h.W
  have hlen := h.len
  refine wpS (by kernel_rfl) ?_
  refine pieceT0 (c := cfgM) cfgM_ok n5b b_tm hA ?_
  refine all_needq (by simp only [inR_i64]; exact Iff.rfl) (by omega) ?_
  refine all_brp (by simp only [decide_eq_true_eq]; exact Iff.rfl) (fun h6 => all_ret fun env1 a1 w1 hA1 => ?_) (fun h6 => all_ret fun env1 a1 w1 hA1 => ?_)
  · simp only [Ex.to, Exit.then]
    have hi : i ≤ V.length + 2 := by omega
    obtain ⟨hR, rfl⟩ := h4 hi
    refine (show (rgt round5).wp Tryd.prog (RW w0 q W V i) a1 w1 from wpS (by kernel_rfl) (wpB 1 (by kernel_rfl) ?_))
    refine (show bb5.wp Tryd.prog (Exit.inBlock 1 (Exit.then (inc5.wp Tryd.prog (RW w0 q W V i)) (RW w0 q W V i))) a1 w1 from ?_)
    have hok : WOk 20 l c x := ⟨by rw [hR.at']; omega, by rw [hR.at', hR.xV]; omega, by omega, hR.ll, by rw [hR.xV]; exact h.u, by omega⟩
    have fin : ∀ {l' : List Int} {x' : Wr} {z' : Int}, (i + 1 ≤ V.length + 2 → WI V i l' x' ∧ z' = 0) → (i + 1 = V.length + 3 → WD V l') → ∀ {env' : Env} {a' : Act} {w' : World}, At [(0, 0)] w0 env' (fr 141 n5b (v5b q W i)) (memS 20 l' (c + 1) ++ putW 3 x' z') a' w' →
        Exit.inBlock 1 (Exit.then (inc5.wp Tryd.prog (RW w0 q W V i)) (RW w0 q W V i)) .normal a' w' := by
      intro l' x' z' g1 g2 env' a' w' h'
      simp only [Exit.inBlock, Exit.then]
      refine pieceT0 (c := cfgM) cfgM_ok n5b b_inc h' ?_
      refine all_needp (by simp only [inR_i64]; exact Iff.rfl) (by omega) fun _ => all_ret fun env'' a'' w'' hA' => ?_
      exact ⟨i + 1, ⟨c + 1, l', x', z', by omega, by omega, by omega, fun hh => by rw [Nat.add_sub_cancel]; exact g1 hh, g2, env'', hA'⟩, by omega⟩
    have go : ∀ {l' : List Int} {x' : Wr} {z' : Int} {b : Bool}, (∀ (env : Env) (w : World) (vs : List Value), GlOk cfgM.gl env → Rep env (sW 20 l c x) w → DenL env aW vs → Calls cfgM.P 16 ⟨vs⟩ w (Ends1 env (sW 20 l c x) w (.bl b) (memS 20 l' (c + 1) ++ putW 3 x' z'))) →
        b = ((i : Int) == W + 1) → (i + 1 ≤ V.length + 2 → WI V i l' x' ∧ z' = 0) → (i + 1 = V.length + 3 → WD V l') → bb5.wp Tryd.prog (Exit.inBlock 1 (Exit.then (inc5.wp Tryd.prog (RW w0 q W V i)) (RW w0 q W V i))) a1 w1 := by
      intro l' x' z' b hcal hb g1 g2
      refine pieceT0 (c := cfgW l l' c x x' z' b True) (cfgW_ok fun _ => hcal) n5b b_bb hA1 ?_
      refine all_eq ⟨by first | exact True.intro | rfl, by first | exact True.intro | rfl, trivial⟩ ?_
      refine all_needq (by simp only [inR_i64]; exact Iff.rfl) (by omega) ?_
      refine all_br (fun hh => ?_) (fun _ => all_ret fun _ _ _ h' => fin g1 g2 h')
      rw [hb] at hh
      cases hq : ((i : Int) == W + 1) <;> rw [hq] at hh <;> cases hh
    by_cases e0 : i - 1 = 0
    · rw [e0] at hR
      have hb : false = ((i : Int) == W + 1) := (beq_eq_false_iff_ne.2 (by omega)).symm
      have hi1 : i = 1 := by omega
      subst hi1
      exact go (w_begin hok (hR.p0 rfl)) hb (fun _ => ⟨wi_begin (by omega) hR, rfl⟩) (fun hh => by omega)
    · by_cases e1 : i - 1 ≤ V.length
      · obtain ⟨p1, p2⟩ := hR.p1 (by omega) e1
        have hb : false = ((i : Int) == W + 1) := (beq_eq_false_iff_ne.2 (by omega)).symm
        have hn := wi_word (V := V) (i := i - 1) (by omega) (by omega) e1 hR
        rw [show i - 1 + 1 = i by omega] at hn
        exact go (w_word hok p1 (by rw [hR.xV]; omega)) hb (fun _ => ⟨hn, rfl⟩) (fun hh => by omega)
      · have hb : true = ((i : Int) == W + 1) := (beq_iff_eq.2 (by omega)).symm
        have e2 : i - 1 = V.length + 1 := by omega
        rw [e2] at hR
        exact go (w_end hok (hR.p2 rfl)) hb (fun hh => by omega) (fun _ => wi_end (by omega) hR)
  · simp only [Ex.to, Exit.then, Exit.inBlock, if_true]
    exact d5_ok h (h5 (by omega)) (by omega) hA1
end Go.Proofs.YtfapadgpihpmhaaDoor

/- SlotBack: from its beginning. -/
namespace Go.Proofs.YtfapadgpihpmhaaDoor
open Go Go.Proofs.YtfapadgpihpmhaaDoor.Sx
set_option linter.unusedVariables false
theorem c5_ok {w0 : From} {q : InB} {W : Int} {V : List Int} (h : Big q W V) {l : List Int} (hl : l.length = 20) (h7 : l.getD 7 0 = 0) {env : Env} {a : Act} {w : World} (hA : At [(0, 0)] w0 env (fr 141 n5a (v5a q W)) (sW 20 l 0 ⟨7, 0, 0, V⟩) a w) : c5.wp Tryd.prog (Q5 w0) a w := by
  refine wpS (by kernel_rfl) (wpS (by kernel_rfl) ?_)
  refine pieceT0 (c := cfgM) cfgM_ok n5b b_reg hA (all_ret fun env2 a2 w2 hA4 => ?_)
  simp only [Ex.to, Exit.then]
  have hA5 : At [(0, 0)] w0 env2 (fr 141 n5b (v5b q W 1)) (sW 20 l 0 ⟨7, 0, 0, V⟩) a2 w2 := hA4.gvals _ rfl
  have hR : WI V 0 l ⟨7, 0, 0, V⟩ := ⟨rfl, rfl, hl, fun _ => rfl, fun h => by omega, fun h => by omega, fun _ => h7, fun h => by omega, fun j hj => by omega⟩
  have hlen := h.len
  refine wpB 0 (by kernel_rfl) (wpL (by kernel_rfl) (InvW w0 q W V) (fun i => (V.length + 3) - i) 1 ⟨0, l, _, 0, Nat.le_refl _, by omega, by omega, fun _ => ⟨hR, rfl⟩, fun h => by omega, env2, hA5⟩ ?_)
  intro i a w h'
  exact roundW_ok h h'
theorem noFootB {e0 : Slot} (x : Nat) (h : inFoot [e0] [lookB] x) : False := by
  obtain ⟨id, e, b, he, hb, hx⟩ := h
  match id with
  | 0 => simp at hb; subst hb; cases hx
  | n + 1 => simp at hb
theorem b5_eq : Tryd.f5.body = some b5 := by kernel_rfl
abbrev zs20 : List Int := [0, 0, 0, 0, 0, 0, 0, 0, 0, 0, 0, 0, 0, 0, 0, 0, 0, 0, 0, 0]
theorem verP_big {q : InB} (hk : PutOk (pB q)) (ht : 0 ≤ q.tick ∧ q.tick < 4294967296) : Big q ((verP (pB q)).length + 1) (verP (pB q)) := by
  have hn := hk.n
  have hs := hk.s
  exact ⟨hn, rfl, verP_len hk, u32s_ver hk ht, hs, rfl, rfl, fun k hk' => verP_getD hk hk'⟩
set_option maxHeartbeats 2000000 in
theorem slotBack_call {q : InB} (hq : 0 ≤ q.size ∧ q.size ≤ 255) (ht : 0 ≤ q.tick ∧ q.tick < 4294967296) {e0 : Slot} (he : e0.blk = 0 ∧ e0.off = 0) {w : World} (hr : Rep [e0] [lookB] w) {v0 v1 v2 : Value} (h0 : Den [e0] (.int .u8 q.size) v0) (h1 : Den [e0] (.str q.s) v1) (h2 : Den [e0] (.int .u32 q.tick) v2) :
    Calls Tryd.prog 5 ⟨[v0, v1, v2]⟩ w (Said ⟨w, fun _ => False⟩) := by
  refine call_begin (c := cfgM) Tryd.func5 b5_eq (args := argB q) (by
    intro p hp
    rw [List.mem_singleton.1 hp]
    exact ⟨e0, rfl, he⟩) hr ⟨_, _, rfl, h0, _, _, rfl, h1, _, _, rfl, h2, rfl⟩ (F := fun _ => False) (fun x h => noFootB x h) ?_
  intro a hA
  have e1 : q.size.tmod 32 = q.size % 32 := Int.tmod_eq_emod_of_nonneg hq.1
  have hn : 1 ≤ nB q ∧ nB q ≤ 32 := by unfold nB; rw [e1]; omega
  have e2 : (1 : Int) + q.size.tmod 32 = nB q := rfl
  by_cases hk : PutOk (pB q)
  · have hn1 := hk.n
    have hs1 := hk.s
    refine pieceNT0 (c := cfgG q) cfgG_ok 9 n5a b_good hA ?_
    rw [strEq_nil]
    have hf := four_le hn
    have e3 : IntKind.i64.wrap ((nB q + 3).tdiv 4) = ((four (nB q) : Nat) : Int) := by
      rw [Int.tdiv_eq_ediv_of_nonneg (by omega), wrap_i64 (by omega)]; unfold four; omega
    rw [e2, e3]
    refine all_needq (by simp only [inR_i64]; exact Iff.rfl) (by omega) ?_
    refine all_need rfl fun _ => ?_
    refine all_needq (by simp only [inR_i64]; exact Iff.rfl) (by omega) ?_
    refine all_brp (by simp only [decide_eq_true_eq]; exact Iff.rfl) (fun h6 => by exfalso; have : (q.s.size : Int) ≤ nB q := hs1.2; omega) (fun h6 => ?_)
    refine all_eq ⟨by first | exact True.intro | rfl, by first | exact True.intro | rfl, hk⟩ ?_
    refine all_eq rfl ?_
    refine all_brp (by simp only [decide_eq_true_eq]; exact Iff.rfl) (fun h6 => by exfalso; have : 1 ≤ q.s.size := hs1.1; omega) (fun h6 => ?_)
    refine all_brp (by simp only [decide_eq_true_eq]; exact Iff.rfl) (fun h6 => by exfalso; have : (q.s.size : Int) ≤ nB q := hs1.2; omega) (fun h6 => ?_)
    refine all_brp (by simp only [decide_eq_true_eq]; exact Iff.rfl) (fun h6 => ?_) (fun h6 => by exfalso; exact h6 hn.1)
    refine all_brp (by simp only [Bool.not_eq_true', decide_eq_false_iff_not]; exact Iff.rfl) (fun h6 => by exfalso; exact h6 hn.2) (fun h6 => ?_)
    refine all_needq (by simp only [inR_i64]; exact Iff.rfl) (by omega) ?_
    refine all_need rfl fun _ => ?_
    refine all_needq (by simp only [inR_i64]; exact Iff.rfl) (by omega) ?_
    refine all_ret fun env1 a1 w1 hA1 => ?_
    simp only [Ex.to, Exit.then]
    have hb := verP_big hk ht
    have hvl : (verP (pB q)).length = 2 + four (nB q) := verP_len hk
    have e4 : (3 : Int) + ((four (nB q) : Nat) : Int) = ((verP (pB q)).length : Int) + 1 := by rw [hvl]; omega
    rw [e4] at hA1
    have hA2 := hA1.perm [0, 2, 1, 3, 4, 5, 6] (by kernel_rfl) (by kernel_rfl) (st' := [lookB, .own z20 32, .own [.c (.sli 1 (.c 0) 1 (.c 20) (some (.c 20))), .c (.lit .i64 0)] 77] ++ putB 3 (w0P (pB q))) (vals' := v5a q ((verP (pB q)).length + 1)) (by kernel_rfl) (by kernel_rfl)
    have hA3 := hA2.segs 1 (l' := [.a (encInt .u32) 20 zs20]) rfl (by intro s hs; rw [List.mem_singleton.1 hs]; rfl) (fun cs h => denL_gen2 (by kernel_rfl) h)
    have hA4 : At [(0, 0)] ⟨w, fun _ => False⟩ _ (fr 141 n5a (v5a q ((verP (pB q)).length + 1))) (sW 20 zs20 0 ⟨7, 0, 0, verP (pB q)⟩) a1 w1 := hA3.gen rfl
    exact (show c5.wp Tryd.prog (Q5 ⟨w, fun _ => False⟩) a1 w1 from c5_ok hb rfl rfl hA4)
  · refine pieceNT0 (c := cfgB q) cfgB_ok 7 [6] b_bad hA ?_
    rw [strEq_nil]
    rw [e2]
    refine all_needq (by simp only [inR_i64]; exact Iff.rfl) (by omega) ?_
    refine all_need rfl fun _ => ?_
    refine all_needq (by simp only [inR_i64]; exact Iff.rfl) (by omega) ?_
    refine all_brp (by simp only [decide_eq_true_eq]; exact Iff.rfl) (fun h6 => all_eq rfl (all_ret fun _ _ _ h => h.said (by kernel_rfl))) (fun h6 => ?_)
    refine all_eq ⟨by first | exact True.intro | rfl, by first | exact True.intro | rfl, hk⟩ ?_
    refine all_eq rfl ?_
    refine all_brp (by simp only [decide_eq_true_eq]; exact Iff.rfl) (fun h6 => all_ret fun _ _ _ h => h.said (by kernel_rfl)) (fun h6 => ?_)
    refine all_brp (by simp only [decide_eq_true_eq]; exact Iff.rfl) (fun h7 => all_ret fun _ _ _ h => h.said (by kernel_rfl)) (fun h7 => ?_)
    exact absurd ⟨hn, ⟨by show 1 ≤ q.s.size; omega, by show (q.s.size : Int) ≤ nB q; omega⟩⟩ hk
end Go.Proofs.YtfapadgpihpmhaaDoor

/- Layer 13: the package's variable, and how a card is closed. -/
namespace Go.Proofs.YtfapadgpihpmhaaDoor
open Go Go.Proofs.YtfapadgpihpmhaaDoor.Sx Go.ChangeShapes Go.WideShapes Go.ChangeAt Go.RowKit
set_option linter.unusedVariables false
abbrev laid1 : List (String × DataW Unit) := [("purlin/mem.look", Rows.laid_purlin_mem_look)]
theorem Tryd.own : ownKnob Tryd.prog.godebug = none := by kernel_rfl
theorem Tryd.laidOut : laidOutB Tryd.prog = true := by kernel_rfl
theorem gLook : Tryd.prog.globalNamed "purlin/mem.look" = some 0 := by kernel_rfl
theorem tLook : (Tryd.prog.globals[0]?).map (·.type) = some 81 := by kernel_rfl
/-- the door's own heap meets the condition -/
theorem door_met (os : Os) (args : Array Value) : laidMetH Tryd.prog laid1 ((World.doorLaid Tryd.prog 400 os).forCall (fun _ _ => 0) ⟨#[], args, []⟩).memory :=
  laidMetH_of_parts3 (fuel := 8) (laidMet_of_run' 8 (by kernel_rfl) (by kernel_rfl)) (by kernel_rfl) (by kernel_rfl)
set_option maxRecDepth 100000 in
/-- what the condition gives -/
theorem of_laid {W : World} (h : laidMetH Tryd.prog laid1 W) : ∃ e : Slot, (e.blk = 0 ∧ e.off = 0) ∧ Rep [e] [lookB] W := by
  rw [MakeChecks.laidMetH_plain _ _ _ (by kernel_rfl)] at h
  obtain ⟨ps, ⟨g0, t0, cs0, f0, p0, q0, hg0, ht0, hv0, hd0, _, _⟩, _, _⟩ := h
  obtain rfl := Option.some.inj (gLook.symm.trans hg0)
  obtain rfl := Option.some.inj (tLook.symm.trans ht0)
  obtain ⟨xs, m, _, hx, hlen, hxl, hf⟩ := DataW.trod_struct Tryd.underlying81 hd0
  have hC : Tryd.prog.cellsOf 81 = 3 := by kernel_rfl
  have k32 : Tryd.prog.cellsOf 32 = 1 := by kernel_rfl
  rw [hC] at hlen
  obtain ⟨l⟩ := cs0
  simp only at hlen hf
  match l, hlen with
  | [c0, c1, c2], _ =>
    match xs, hxl, hx with
    | [y0, y1, y2], _, hx =>
      have f0 : DataW.trod _ Tryd.prog W 0 _ false m 32 (([c0, c1, c2].drop 0).take (Tryd.prog.cellsOf 32)) = some y0 := hf 0 _ rfl
      have f1 : DataW.trod _ Tryd.prog W 0 _ false m 32 (([c0, c1, c2].drop 1).take (Tryd.prog.cellsOf 32)) = some y1 := hf 1 _ rfl
      have f2 : DataW.trod _ Tryd.prog W 0 _ false m 32 (([c0, c1, c2].drop 2).take (Tryd.prog.cellsOf 32)) = some y2 := hf 2 _ rfl
      rw [k32] at f0 f1 f2
      obtain ⟨a0, h0, e0, _⟩ := DataW.trod_int Tryd.underlying32 f0
      obtain ⟨a1, h1, e1, _⟩ := DataW.trod_int Tryd.underlying32 f1
      obtain ⟨a2, h2, e2, _⟩ := DataW.trod_int Tryd.underlying32 f2
      simp at h0 h1 h2
      subst h0 h1 h2 e0 e1 e2
      simp [Rows.laid_purlin_mem_look] at hx
      obtain ⟨⟨rfl, rfl, rfl⟩, _⟩ := hx
      have hc := fun i => World.var?_cell hg0 hv0 i
      have hsz : 0 < W.heap.size := by
        have := hc 0
        simp only [World.cell?] at this
        rcases Nat.eq_zero_or_pos W.heap.size with h | h
        · rw [Array.getElem?_eq_none (by omega)] at this; simp at this
        · exact h
      refine ⟨⟨0, 0, 0, []⟩, ⟨rfl, rfl⟩, rfl, ?_, ?_, ?_⟩
      · intro id sl b he hb
        match id with
        | 0 =>
          simp only [List.getElem?_cons_zero, Option.some.injEq] at he hb
          subst he hb
          refine ⟨[.int .u32 4294967295, .int .u32 0, .int .u32 0], by simp [encLook, encOf, DenL, Den], fun i hi => ?_⟩
          have := hc i
          simpa using this
        | n + 1 => simp at he
      · intro i j e f b c hij he hf' hb' hc' x hx''
        match i, j with
        | 0, 0 => exact (hij rfl).elim
        | i + 1, _ => simp at he
        | 0, j + 1 => simp at hf'
      · intro id sl b he hb x hx
        match id with
        | 0 =>
          simp only [List.getElem?_cons_zero, Option.some.injEq] at he hb
          subst he hb
          simp [Blk.supp] at hx
          omega
        | n + 1 => simp at he
end Go.Proofs.YtfapadgpihpmhaaDoor

/- SlotBack: its row and its card. -/
namespace Go.Proofs.YtfapadgpihpmhaaDoor
open Go Go.Proofs.YtfapadgpihpmhaaDoor.Sx Go.ChangeShapes Go.WideShapes Go.ChangeAt Go.RowKit
set_option linter.unusedVariables false
theorem wf_u32 {n : Int} (h : (Lit.int .u32 n).wf = true) : 0 ≤ n ∧ n ≤ 4294967295 := by simp [Lit.wf, IntKind.min, IntKind.max, IntKind.signed, IntKind.bits] at h; omega
theorem wf_u8 {n : Int} (h : (Lit.int .u8 n).wf = true) : 0 ≤ n ∧ n ≤ 255 := by simp [Lit.wf, IntKind.min, IntKind.max, IntKind.signed, IntKind.bits] at h; omega
set_option maxRecDepth 100000 in
theorem slotBack_lifted (os : Os) (started : os.Started) (H : Type) (enc : TypeId × Value → H) :
    ReturnsInHanded {} Tryd.checked os 5 .any (fun w args => (Rows.slotBackSpec.pre enc Tryd.prog Tryd.f5 [] false w args ∧ laidMetH Tryd.prog laid1 w) ∧ sizedMet enc Tryd.prog Tryd.f5 (OpenSpec.ofChange Rows.slotBackSpec) false w args)
      (Rows.slotBackSpec.post enc Tryd.prog Tryd.f5 false true false false) := by
  refine returnsInHanded_of_change_and (C := Tryd.checked) (X := fun w _ => laidMetH Tryd.prog laid1 w) (fun _ _ _ hh h => h.of_heap hh) Tryd.own started (by kernel_rfl) Tryd.func5
    (ChangeSpec.witness_shaped (enc := enc) (C := Tryd.checked) (os := os) (X := fun w _ => laidMetH Tryd.prog laid1 w) false (World.doorLaid Tryd.prog 400 os) #[.int .u8 0, .string ByteArray.empty, .int .u32 0] 8 rfl (World.shaped_of_RefB (by kernel_rfl) (by kernel_rfl)) (by kernel_rfl) (by kernel_rfl) (by kernel_rfl) (door_met os _)) ?_
  intro W base args ds gs before hval0 hW _ _ hL _
  have hval : ∀ (j : Nat) t v, Tryd.f5.params[j]? = some t → args[j]? = some v → Value.okWide Tryd.prog W .any base t v := hval0
  have hW' := hW
  obtain ⟨p, q, hA0, hV, rfl, hfz, hnd⟩ := hW
  have hA : DataW.TrodAll enc Tryd.prog W 0 (fun _ => true) true Tryd.f5.params.toList args.toList ds p := hA0
  rw [Tryd.params5] at hA hval
  obtain ⟨v0, v1, v2, d0, d1, d2, p0, p1, p2, rfl, rfl, rfl, h0, h1, h2⟩ := trodAll_three hA
  obtain ⟨rfl, rfl⟩ := trodVars_none hV
  obtain ⟨a, rfl, rfl, rfl, wa⟩ := open_int Tryd.underlying5 (hval 0 5 v0 rfl rfl) h0
  obtain ⟨b, rfl, rfl, rfl, wb⟩ := Go.ChangeMaps.open_string Tryd.underlying9 (hval 1 9 v1 rfl rfl) h1
  obtain ⟨c, rfl, rfl, rfl, wc⟩ := open_int Tryd.underlying32 (hval 2 32 v2 rfl rfl) h2
  obtain ⟨e, he, hr⟩ := of_laid hL
  clear hA0 hval0
  have fin : ∀ e W', Said ⟨W, fun _ => False⟩ e W' → ∃ v, e = .returned v ∧ Rows.slotBackSpec.post enc Tryd.prog Tryd.f5 false true false false W #[.int .u8 a, .string b, .int .u32 c] v W' := by
    rintro e W' ⟨rfl, hsz, hk, hc⟩
    have hk' : ∀ x, x < W.heap.size → W'.heap[x]? = W.heap[x]? := fun x hx => hk x hx (fun h => h)
    refine ⟨_, rfl, _, _, _, [], _, [], hW', ⟨[], [], shut_bool Tryd.underlying4 true, rfl, rfl⟩, trodAll_mk3 (shut_int Tryd.underlying5 wa) (Go.ChangeMaps.shut_string Tryd.underlying9 wb) (shut_int Tryd.underlying32 wc), rfl, keptBut_of _ hc hk', fun h => by cases h⟩
  exact (slotBack_call (q := ⟨a, b, c⟩) (wf_u8 wa) (by have := wf_u32 wc; simp only; omega) he hr rfl rfl rfl).mono fun e W' h => fin e W' h
theorem slotBack_row : Rows.SlotBackSaid :=
  OpenClaim.holds_of_wide 5 Tryd.f5 rfl rfl rfl rfl rfl rfl rfl ⟨rfl, rfl, rfl, rfl, rfl⟩ rfl rfl rfl rfl rfl (by kernel_rfl) Tryd.func5 (by kernel_rfl)
    (of_decide_eq_true (by kernel_rfl)) (by unfold Func.isWrapper; first | (rw [if_pos (by decide +kernel)]; kernel_rfl) | (rw [if_neg (by decide +kernel)]; exact ⟨rfl, rfl⟩))
    (fun os started H enc _ => slotBack_lifted os started H enc)
theorem slotBack_holds : Rows.SlotBackCardSaid :=
  Claim7.holds_tied_plain_at .later [] [.data] true _ _ slotBack_row (fun _ h => by cases h) (by kernel_rfl) (fun _ h => by cases h) slotBack_row_tie rfl ⟨rfl, rfl⟩ (by kernel_rfl) rfl
    (fun f fn hf hfn => by
      obtain rfl : f = 5 := Option.some.inj ((show Tryd.prog.funcNamed "purlin/purlinlaw13.SlotBack" = some 5 by kernel_rfl).symm.trans hf) |>.symm
      obtain rfl : fn = Tryd.f5 := (Option.some.inj (Tryd.func5.symm.trans hfn)).symm
      exact ⟨by kernel_rfl, fun j t ht => by
        rw [Tryd.params5] at ht
        have hm : t ∈ [5, 9, 32] := by simpa using Array.mem_of_getElem? ht
        have hall : ([5, 9, 32].all fun u => !Tryd.prog.wantsStandIn u) = true := by kernel_rfl
        exact (show Tryd.prog.wantsStandIn t = false by simpa using List.all_eq_true.1 hall t hm)⟩)
    (by kernel_rfl)
end Go.Proofs.YtfapadgpihpmhaaDoor

