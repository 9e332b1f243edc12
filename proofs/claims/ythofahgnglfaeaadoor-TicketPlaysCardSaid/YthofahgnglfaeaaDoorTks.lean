/- The objects of this layer: what a machine of them does. -/
import Derived.Test.YthofahgnglfaeaaDoorSxC
import Derived.Test.YthofahgnglfaeaaDoorRows
import Derived.Test.YthofahgnglfaeaaDoorCards
import Derived.Test.YthofahgnglfaeaaDoorTie
import Derived.ProofKit
import Derived.LaidMore
import Derived.OpenShut
import Derived.Stop.Joined
/- Layer 9: the configuration. -/
namespace Go.Proofs.YthofahgnglfaeaaDoor
open Go Go.Proofs.YthofahgnglfaeaaDoor.Sx
set_option linter.unusedVariables false
/-- the package's variable, as it was laid -/
def encLook : Enc Unit := encOf 2 (fun _ => [.lit .u32 4294967295, .lit .u32 0, .lit .u32 0]) () (fun _ => rfl) (by intro env env' x vs h; simpa [DenL, Den] using h)
abbrev lookB : Blk := .ro encLook [()]
abbrev exI : IntKind → Bool := fun k => match k with | .i64 => true | _ => false
/-- nothing is exact: counts -/
noncomputable def cfgW : Cfg := { P := Tryd.prog, ex := fun _ => false, gl := [(0, 0)], sm := fun _ => none }
theorem cfgW_ok : SmOk cfgW := by intro f g h; cases h
end Go.Proofs.YthofahgnglfaeaaDoor

/- Layer 9: the memory's state. -/
namespace Go.Proofs.YthofahgnglfaeaaDoor
open Go Go.Proofs.YthofahgnglfaeaaDoor.Sx
set_option linter.unusedVariables false
/-- a memory: its words, how often it was used -/
abbrev memS (n : Nat) (l : List Int) (c : Int) : St := [lookB, .own [.c (.sli 2 (.c 0) 1 (.v n) (some (.v n))), .c (.int .i64 c)] 62, .own [.a (encInt .u32) n l] 23]
abbrev upP (c : Int) : Int := IntKind.i64.wrap (c + 1)
def inP (a : Int) (n : Nat) : Bool := decide (0 ≤ a) && decide (a < (n : Int))
theorem inP_iff (a : Int) (n : Nat) : inP a n = true ↔ 0 ≤ a ∧ a < n := by simp [inP]
/-- a word, 1 more -/
def incP (x : Int) : Int := IntKind.u32.wrap (bitop .or .u32 (bitop .and .u32 x 4294967295) 0 + 1)
/-- a word, set -/
def setP (x v : Int) : Int := IntKind.u32.wrap (bitop .or .u32 (bitop .and .u32 x 0) v + 0)
end Go.Proofs.YthofahgnglfaeaaDoor

namespace Go.Proofs.YthofahgnglfaeaaDoor
open Go Go.Proofs.YthofahgnglfaeaaDoor.Sx
set_option linter.unusedVariables false
set_option maxRecDepth 100000 in
theorem t_load {n : Nat} {l : List Int} {c : Int} {a : Int} : callF cfgW 100 24 [.ptr 1 0, .int .i64 a] (memS n l c) =
 

 (.need (true)

 (.need (true)

 (.need (true)

 (.br (decide (a < (0 : Int)))

 (.ret (.tup [.lit .u32 (0 : Int), .lit .i64 (81 : Int)], [.ro encLook [PUnit.unit], .own [.c (.sli 2 (.c 0) 1 (.v n) (some (.v n))), .c (.int .i64 c)] 62, .own [.a (encInt IntKind.u32) n l] 23, .own [.c (.lit .u32 (4294967295 : Int)), .c (.lit .u32 (0 : Int)), .c (.lit .u32 (0 : Int))] 68]))

 (.br (decide ((↑n : Int) ≤ a))

 (.ret (.tup [.lit .u32 (0 : Int), .lit .i64 (81 : Int)], [.ro encLook [PUnit.unit], .own [.c (.sli 2 (.c 0) 1 (.v n) (some (.v n))), .c (.int .i64 c)] 62, .own [.a (encInt IntKind.u32) n l] 23, .own [.c (.lit .u32 (4294967295 : Int)), .c (.lit .u32 (0 : Int)), .c (.lit .u32 (0 : Int))] 68]))

 (.need (decide ((0 : Int) ≤ a) && decide (a.toNat < n))

 (.need (decide (a.toNat < n))

 (.need (true)

 (.need (true)

 (.need (true)

 (.ret (.tup [.int .u32 (l.getD a.toNat (0 : Int)), .lit .i64 (0 : Int)], [.ro encLook [PUnit.unit], .own [.c (.sli 2 (.c 0) 1 (.v n) (some (.v n))), .c (.int .i64 (IntKind.i64.wrap (c + (1 : Int))))] 62, .own [.a (encInt IntKind.u32) n l] 23, .own [.c (.lit .u32 (4294967295 : Int)), .c (.lit .u32 (0 : Int)), .c (.lit .u32 (0 : Int))] 68])))))))))))) := by kernel_rfl
set_option maxRecDepth 100000 in
theorem t_store {n : Nat} {l : List Int} {c : Int} {a : Int} {v : Int} : callF cfgW 100 11 [.ptr 1 0, .int .i64 a, .int .u32 v] (memS n l c) =
 

 (.br (decide (a < (0 : Int)))

 (.ret (.lit .i64 (81 : Int), [.ro encLook [PUnit.unit], .own [.c (.sli 2 (.c 0) 1 (.v n) (some (.v n))), .c (.int .i64 c)] 62, .own [.a (encInt IntKind.u32) n l] 23, .own [.c (.lit .u32 (0 : Int)), .c (.int .u32 v), .c (.lit .u32 (0 : Int))] 68]))

 (.br (decide ((↑n : Int) ≤ a))

 (.ret (.lit .i64 (81 : Int), [.ro encLook [PUnit.unit], .own [.c (.sli 2 (.c 0) 1 (.v n) (some (.v n))), .c (.int .i64 c)] 62, .own [.a (encInt IntKind.u32) n l] 23, .own [.c (.lit .u32 (0 : Int)), .c (.int .u32 v), .c (.lit .u32 (0 : Int))] 68]))

 (.need (decide ((0 : Int) ≤ a) && decide (a.toNat < n))

 (.need (decide (a.toNat < n))

 (.need (true)

 (.need (true)

 (.need (true)

 (.need (decide ((0 : Int) ≤ a) && decide (a.toNat < n))

 (.need (decide (a.toNat < n))
 (.eq (T.ret (SVal.sli (2 : Nat) (NN.c (0 : Nat)) (1 : Nat) (NN.v n) (some (NN.v n))) = T.ret (SVal.sli (2 : Nat) (NN.c (0 : Nat)) (1 : Nat) (NN.v n) (some (NN.v n))))
 (.eq (T.ret (SVal.int IntKind.u32 v) = T.ret (SVal.int IntKind.u32 v))

 (.need (decide ((0 : Int) ≤ a) && decide (a.toNat < n))

 (.need (decide (a.toNat < n))

 (.need (decide ((0 : Int) ≤ a) && decide (a.toNat < n))

 (.need (decide (a.toNat < n))
 (.eq (T.ret (SVal.sli (2 : Nat) (NN.c (0 : Nat)) (1 : Nat) (NN.v n) (some (NN.v n))) = T.ret (SVal.sli (2 : Nat) (NN.c (0 : Nat)) (1 : Nat) (NN.v n) (some (NN.v n))))
 (.eq (T.need (decide (a.toNat < n)) (T.ret ([SVal.int IntKind.u32 ((l.set a.toNat (bitop BinOp.or IntKind.u32 (bitop BinOp.and IntKind.u32 (l.getD a.toNat (0 : Int)) (0 : Int)) v)).getD a.toNat (0 : Int))].getD (0 : Nat) SVal.bad)) = T.need (decide (a.toNat < n)) (T.ret ([SVal.int IntKind.u32 ((l.set a.toNat (bitop BinOp.or IntKind.u32 (bitop BinOp.and IntKind.u32 (l.getD a.toNat (0 : Int)) (0 : Int)) v)).getD a.toNat (0 : Int))].getD (0 : Nat) SVal.bad)))

 (.ret (.lit .i64 (0 : Int), [.ro encLook [PUnit.unit], .own [.c (.sli 2 (.c 0) 1 (.v n) (some (.v n))), .c (.int .i64 (IntKind.i64.wrap (c + (1 : Int))))] 62, .own [.a (encInt IntKind.u32) n ((l.set a.toNat (bitop BinOp.or IntKind.u32 (bitop BinOp.and IntKind.u32 (l.getD a.toNat (0 : Int)) (0 : Int)) v)).set a.toNat (IntKind.u32.wrap ((l.set a.toNat (bitop BinOp.or IntKind.u32 (bitop BinOp.and IntKind.u32 (l.getD a.toNat (0 : Int)) (0 : Int)) v)).getD a.toNat (0 : Int) + (0 : Int))))] 23, .own [.c (.lit .u32 (0 : Int)), .c (.int .u32 v), .c (.lit .u32 (0 : Int))] 68]))))))))))))))))))) := by kernel_rfl
set_option maxRecDepth 100000 in
theorem t_add {n : Nat} {l : List Int} {c : Int} {a : Int} : callF cfgW 100 38 [.ptr 1 0, .int .i64 a, .lit .u32 1] (memS n l c) =
 

 (.need (true)

 (.br (decide (a < (0 : Int)))

 (.ret (.tup [.lit .u32 (0 : Int), .lit .i64 (81 : Int)], [.ro encLook [PUnit.unit], .own [.c (.sli 2 (.c 0) 1 (.v n) (some (.v n))), .c (.int .i64 c)] 62, .own [.a (encInt IntKind.u32) n l] 23, .own [.c (.lit .u32 (4294967295 : Int)), .c (.lit .u32 (0 : Int)), .c (.lit .u32 (1 : Int))] 68]))

 (.br (decide ((↑n : Int) ≤ a))

 (.ret (.tup [.lit .u32 (0 : Int), .lit .i64 (81 : Int)], [.ro encLook [PUnit.unit], .own [.c (.sli 2 (.c 0) 1 (.v n) (some (.v n))), .c (.int .i64 c)] 62, .own [.a (encInt IntKind.u32) n l] 23, .own [.c (.lit .u32 (4294967295 : Int)), .c (.lit .u32 (0 : Int)), .c (.lit .u32 (1 : Int))] 68]))

 (.need (decide ((0 : Int) ≤ a) && decide (a.toNat < n))

 (.need (decide (a.toNat < n))

 (.need (true)

 (.need (true)

 (.need (true)

 (.need (decide ((0 : Int) ≤ a) && decide (a.toNat < n))

 (.need (decide (a.toNat < n))
 (.eq (T.ret (SVal.sli (2 : Nat) (NN.c (0 : Nat)) (1 : Nat) (NN.v n) (some (NN.v n))) = T.ret (SVal.sli (2 : Nat) (NN.c (0 : Nat)) (1 : Nat) (NN.v n) (some (NN.v n))))

 (.need (decide ((0 : Int) ≤ a) && decide (a.toNat < n))

 (.need (decide (a.toNat < n))

 (.need (decide ((0 : Int) ≤ a) && decide (a.toNat < n))

 (.need (decide (a.toNat < n))
 (.eq (T.ret (SVal.sli (2 : Nat) (NN.c (0 : Nat)) (1 : Nat) (NN.v n) (some (NN.v n))) = T.ret (SVal.sli (2 : Nat) (NN.c (0 : Nat)) (1 : Nat) (NN.v n) (some (NN.v n))))
 (.eq (T.need (decide (a.toNat < n)) (T.ret ([SVal.int IntKind.u32 ((l.set a.toNat (bitop BinOp.or IntKind.u32 (bitop BinOp.and IntKind.u32 (l.getD a.toNat (0 : Int)) (4294967295 : Int)) (0 : Int))).getD a.toNat (0 : Int))].getD (0 : Nat) SVal.bad)) = T.need (decide (a.toNat < n)) (T.ret ([SVal.int IntKind.u32 ((l.set a.toNat (bitop BinOp.or IntKind.u32 (bitop BinOp.and IntKind.u32 (l.getD a.toNat (0 : Int)) (4294967295 : Int)) (0 : Int))).getD a.toNat (0 : Int))].getD (0 : Nat) SVal.bad)))

 (.ret (.tup [.int .u32 (l.getD a.toNat (0 : Int)), .lit .i64 (0 : Int)], [.ro encLook [PUnit.unit], .own [.c (.sli 2 (.c 0) 1 (.v n) (some (.v n))), .c (.int .i64 (IntKind.i64.wrap (c + (1 : Int))))] 62, .own [.a (encInt IntKind.u32) n ((l.set a.toNat (bitop BinOp.or IntKind.u32 (bitop BinOp.and IntKind.u32 (l.getD a.toNat (0 : Int)) (4294967295 : Int)) (0 : Int))).set a.toNat (IntKind.u32.wrap ((l.set a.toNat (bitop BinOp.or IntKind.u32 (bitop BinOp.and IntKind.u32 (l.getD a.toNat (0 : Int)) (4294967295 : Int)) (0 : Int))).getD a.toNat (0 : Int) + (1 : Int))))] 23, .own [.c (.lit .u32 (4294967295 : Int)), .c (.lit .u32 (0 : Int)), .c (.lit .u32 (1 : Int))] 68]))))))))))))))))))) := by kernel_rfl
end Go.Proofs.YthofahgnglfaeaaDoor

/- Layer 9: what loads, stores and adds come to. -/
namespace Go.Proofs.YthofahgnglfaeaaDoor
open Go Go.Proofs.YthofahgnglfaeaaDoor.Sx
set_option linter.unusedVariables false
theorem memS_ren {n : Nat} {l : List Int} {c : Int} : renSt (List.range 3) (memS n l c) (List.range 3) = some (memS n l c) := by kernel_rfl
theorem memS_ro {n n' : Nat} {l l' : List Int} {c c' : Int} : roSame (memS n l c) (memS n' l' c') :=
  roSame_cons (.inr rfl) (roSame_cons (.inl rfl) (roSame_cons (.inl rfl) roSame_nil))
theorem asI_int {env : Env} {s : SVal} {v : Value} {k : IntKind} {x : Int} {b : Bool} (h : asI s = some (k, x, b)) (hd : Den env s v) : Den env (.int k x) v := by rw [asI_den h hd]; simp [Den]
theorem asI_ren {s : SVal} {k : IntKind} {x : Int} {b : Bool} {m : List Nat} (h : asI s = some (k, x, b)) : ren m s = s := by
  cases s <;> simp [asI] at h <;> rfl
noncomputable def gLoad (args : List SVal) (st : St) : T (SVal × St) := match args, st with
  | [.ptr 1 0, a], [_, .own [_, .c cv] _, b2] => match asI a, asI cv, wordsOf b2 with
    | some (.i64, a, _), some (_, c, _), some (n, l) => .eq (st = memS n l c ∧ l.length = n) (.br (inP a n) (.ret (.tup [.int .u32 (l.getD a.toNat 0), .lit .i64 0], memS n l (upP c))) (.ret (.tup [.lit .u32 0, .lit .i64 81], memS n l c)))
    | _, _, _ => .no 170
  | _, _ => .no 171
noncomputable def gStore (args : List SVal) (st : St) : T (SVal × St) := match args, st with
  | [.ptr 1 0, a, v], [_, .own [_, .c cv] _, b2] => match asI a, asI v, asI cv, wordsOf b2 with
    | some (.i64, a, _), some (.u32, v, _), some (_, c, _), some (n, l) => .eq (st = memS n l c ∧ l.length = n) (.br (inP a n) (.ret (.lit .i64 0, memS n (l.set a.toNat (setP (l.getD a.toNat 0) v)) (upP c))) (.ret (.lit .i64 81, memS n l c)))
    | _, _, _, _ => .no 170
  | _, _ => .no 171
noncomputable def gInc (args : List SVal) (st : St) : T (SVal × St) := match args, st with
  | [.ptr 1 0, a, .lit .u32 1], [_, .own [_, .c cv] _, b2] => match asI a, asI cv, wordsOf b2 with
    | some (.i64, a, _), some (_, c, _), some (n, l) => .eq (st = memS n l c ∧ l.length = n) (.br (inP a n) (.ret (.tup [.int .u32 (l.getD a.toNat 0), .lit .i64 0], memS n (l.set a.toNat (incP (l.getD a.toNat 0))) (upP c))) (.ret (.tup [.lit .u32 0, .lit .i64 81], memS n l c)))
    | _, _, _ => .no 170
  | _, _ => .no 171
set_option maxRecDepth 10000 in
theorem load_ok (args : List SVal) (S : St) (s : SVal) (S' : St) (h : (gLoad args S).at (s, S')) : PreOk cfgW 3 24 args S s S' := by
  unfold gLoad at h
  split at h
  · rename_i a b0 s0 cv TT b2
    split at h
    · rename_i a' la kc c lc n l h1 h2 h3
      obtain ⟨⟨e0, hl⟩, h⟩ := h
      rw [e0]
      have hr : renL (List.range 3) [.ptr 1 0, a] = [.ptr 1 0, a] := by simp only [renL, asI_ren h1]; rfl
      have key : ∀ (env : Env) (w : World) (vs : List Value), GlOk cfgW.gl env → Rep env (memS n l c) w → DenL env [.ptr 1 0, a] vs → Calls cfgW.P 24 ⟨vs⟩ w (Ends1 env (memS n l c) w s S') := by
        intro env w vs hg hr hd
        have hd' : DenL env [.ptr 1 0, .int .i64 a'] vs := by
          obtain ⟨u, us, rfl, h4, u2, us2, rfl, h5, rfl⟩ := hd
          exact ⟨_, _, rfl, h4, _, _, rfl, asI_int h1 h5, rfl⟩
        simp only [T.at, Prod.mk.injEq] at h
        rcases h with ⟨hb, e1, e2⟩ | ⟨hb, e1, e2⟩
        · rw [inP_iff] at hb
          refine ends_all (s := s) (S' := S') cfgW_ok t_load (by kernel_rfl) (by rw [← e2] <;> rfl) (by rw [← e2]; exact memS_ren) (by rw [← e1]; rfl) ?_ env w vs hg hr hd'
          subst e1 e2
          repeat' (first
            | (refine all_brp (by simp only [decide_eq_true_eq]; exact Iff.rfl) (fun _ => ?_) (fun _ => ?_) <;> try (exfalso; omega))
            | refine all_needq (by simp only [decide_eq_true_eq, Bool.and_eq_true]; exact Iff.rfl) (by omega) ?_
            | refine all_need rfl (fun _ => ?_)
            | refine all_eq rfl ?_)
          exact all_ret ⟨_, rfl⟩
        · rw [← Bool.not_eq_true, inP_iff] at hb
          refine ends_all (s := s) (S' := S') cfgW_ok t_load (by kernel_rfl) (by rw [← e2] <;> rfl) (by rw [← e2]; exact memS_ren) (by rw [← e1]; rfl) ?_ env w vs hg hr hd'
          subst e1 e2
          repeat' (first
            | (refine all_brp (by simp only [decide_eq_true_eq]; exact Iff.rfl) (fun _ => ?_) (fun _ => ?_) <;> try (exfalso; omega))
            | refine all_needq (by simp only [decide_eq_true_eq, Bool.and_eq_true]; exact Iff.rfl) (by omega) ?_
            | refine all_need rfl (fun _ => ?_)
            | refine all_eq rfl ?_)
          all_goals exact all_ret ⟨_, rfl⟩
      have hS' : ∃ n' l' c', S' = memS n' l' c' := by
        simp only [T.at, Prod.mk.injEq] at h
        rcases h with ⟨hb, rfl, rfl⟩ | ⟨hb, rfl, rfl⟩ <;> exact ⟨_, _, _, rfl⟩
      obtain ⟨n', l', c', rfl⟩ := hS'
      exact ⟨key, rfl, rfl, memS_ro, memS_ren, hr⟩
    · exact h.elim
  · exact h.elim
set_option maxRecDepth 10000 in
theorem store_ok (args : List SVal) (S : St) (s : SVal) (S' : St) (h : (gStore args S).at (s, S')) : PreOk cfgW 3 11 args S s S' := by
  unfold gStore at h
  split at h
  · rename_i a v b0 s0 cv TT b2
    split at h
    · rename_i a' la v' lv kc c lc n l h1 h0 h2 h3
      obtain ⟨⟨e0, hl⟩, h⟩ := h
      rw [e0]
      have hr : renL (List.range 3) [.ptr 1 0, a, v] = [.ptr 1 0, a, v] := by simp only [renL, asI_ren h1, asI_ren h0]; rfl
      have key : ∀ (env : Env) (w : World) (vs : List Value), GlOk cfgW.gl env → Rep env (memS n l c) w → DenL env [.ptr 1 0, a, v] vs → Calls cfgW.P 11 ⟨vs⟩ w (Ends1 env (memS n l c) w s S') := by
        intro env w vs hg hr hd
        have hd' : DenL env [.ptr 1 0, .int .i64 a', .int .u32 v'] vs := by
          obtain ⟨u, us, rfl, h4, u2, us2, rfl, h5, u3, us3, rfl, h6, rfl⟩ := hd
          exact ⟨_, _, rfl, h4, _, _, rfl, asI_int h1 h5, _, _, rfl, asI_int h0 h6, rfl⟩
        simp only [T.at, Prod.mk.injEq] at h
        rcases h with ⟨hb, e1, e2⟩ | ⟨hb, e1, e2⟩
        · rw [inP_iff] at hb
          refine ends_all (s := s) (S' := S') cfgW_ok t_store (by kernel_rfl) (by rw [← e2] <;> rfl) (by rw [← e2]; exact memS_ren) (by rw [← e1]; rfl) ?_ env w vs hg hr hd'
          subst e1 e2
          repeat' (first
            | (refine all_brp (by simp only [decide_eq_true_eq]; exact Iff.rfl) (fun _ => ?_) (fun _ => ?_) <;> try (exfalso; omega))
            | refine all_needq (by simp only [decide_eq_true_eq, Bool.and_eq_true]; exact Iff.rfl) (by omega) ?_
            | refine all_need rfl (fun _ => ?_)
            | refine all_eq rfl ?_)
          rw [List.set_set, getD_set_self (by omega)]
          exact all_ret ⟨_, rfl⟩
        · rw [← Bool.not_eq_true, inP_iff] at hb
          refine ends_all (s := s) (S' := S') cfgW_ok t_store (by kernel_rfl) (by rw [← e2] <;> rfl) (by rw [← e2]; exact memS_ren) (by rw [← e1]; rfl) ?_ env w vs hg hr hd'
          subst e1 e2
          repeat' (first
            | (refine all_brp (by simp only [decide_eq_true_eq]; exact Iff.rfl) (fun _ => ?_) (fun _ => ?_) <;> try (exfalso; omega))
            | refine all_needq (by simp only [decide_eq_true_eq, Bool.and_eq_true]; exact Iff.rfl) (by omega) ?_
            | refine all_need rfl (fun _ => ?_)
            | refine all_eq rfl ?_)
          all_goals exact all_ret ⟨_, rfl⟩
      have hS' : ∃ n' l' c', S' = memS n' l' c' := by
        simp only [T.at, Prod.mk.injEq] at h
        rcases h with ⟨hb, rfl, rfl⟩ | ⟨hb, rfl, rfl⟩ <;> exact ⟨_, _, _, rfl⟩
      obtain ⟨n', l', c', rfl⟩ := hS'
      exact ⟨key, rfl, rfl, memS_ro, memS_ren, hr⟩
    · exact h.elim
  · exact h.elim
set_option maxRecDepth 10000 in
theorem inc_ok (args : List SVal) (S : St) (s : SVal) (S' : St) (h : (gInc args S).at (s, S')) : PreOk cfgW 3 38 args S s S' := by
  unfold gInc at h
  split at h
  · rename_i a b0 s0 cv TT b2
    split at h
    · rename_i a' la kc c lc n l h1 h2 h3
      obtain ⟨⟨e0, hl⟩, h⟩ := h
      rw [e0]
      have hr : renL (List.range 3) [.ptr 1 0, a, .lit .u32 1] = [.ptr 1 0, a, .lit .u32 1] := by simp only [renL, asI_ren h1]; rfl
      have key : ∀ (env : Env) (w : World) (vs : List Value), GlOk cfgW.gl env → Rep env (memS n l c) w → DenL env [.ptr 1 0, a, .lit .u32 1] vs → Calls cfgW.P 38 ⟨vs⟩ w (Ends1 env (memS n l c) w s S') := by
        intro env w vs hg hr hd
        have hd' : DenL env [.ptr 1 0, .int .i64 a', .lit .u32 1] vs := by
          obtain ⟨u, us, rfl, h4, u2, us2, rfl, h5, h6⟩ := hd
          exact ⟨_, _, rfl, h4, _, _, rfl, asI_int h1 h5, h6⟩
        simp only [T.at, Prod.mk.injEq] at h
        rcases h with ⟨hb, e1, e2⟩ | ⟨hb, e1, e2⟩
        · rw [inP_iff] at hb
          refine ends_all (s := s) (S' := S') cfgW_ok t_add (by kernel_rfl) (by rw [← e2] <;> rfl) (by rw [← e2]; exact memS_ren) (by rw [← e1]; rfl) ?_ env w vs hg hr hd'
          subst e1 e2
          repeat' (first
            | (refine all_brp (by simp only [decide_eq_true_eq]; exact Iff.rfl) (fun _ => ?_) (fun _ => ?_) <;> try (exfalso; omega))
            | refine all_needq (by simp only [decide_eq_true_eq, Bool.and_eq_true]; exact Iff.rfl) (by omega) ?_
            | refine all_need rfl (fun _ => ?_)
            | refine all_eq rfl ?_)
          rw [List.set_set, getD_set_self (by omega)]
          exact all_ret ⟨_, rfl⟩
        · rw [← Bool.not_eq_true, inP_iff] at hb
          refine ends_all (s := s) (S' := S') cfgW_ok t_add (by kernel_rfl) (by rw [← e2] <;> rfl) (by rw [← e2]; exact memS_ren) (by rw [← e1]; rfl) ?_ env w vs hg hr hd'
          subst e1 e2
          repeat' (first
            | (refine all_brp (by simp only [decide_eq_true_eq]; exact Iff.rfl) (fun _ => ?_) (fun _ => ?_) <;> try (exfalso; omega))
            | refine all_needq (by simp only [decide_eq_true_eq, Bool.and_eq_true]; exact Iff.rfl) (by omega) ?_
            | refine all_need rfl (fun _ => ?_)
            | refine all_eq rfl ?_)
          all_goals exact all_ret ⟨_, rfl⟩
      have hS' : ∃ n' l' c', S' = memS n' l' c' := by
        simp only [T.at, Prod.mk.injEq] at h
        rcases h with ⟨hb, rfl, rfl⟩ | ⟨hb, rfl, rfl⟩ <;> exact ⟨_, _, _, rfl⟩
      obtain ⟨n', l', c', rfl⟩ := hS'
      exact ⟨key, rfl, rfl, memS_ro, memS_ren, hr⟩
    · exact h.elim
  · exact h.elim
theorem gl_lt {k : Nat} (h : 0 < k) : ∀ p ∈ cfgW.gl, p.2 < k := by
  intro p hp
  rw [List.mem_singleton.1 hp]; exact h
noncomputable def smMem : FuncId → Option (List SVal → St → T (SVal × St)) := fun f => match f with
  | 24 => some (smPre 3 gLoad)
  | 11 => some (smPre 3 gStore)
  | 38 => some (smPre 3 gInc)
  | _ => none
/-- with memory -/
noncomputable def cfgM : Cfg := { P := Tryd.prog, ex := exI, gl := [(0, 0)], sm := smMem }
theorem smMem_ok : ∀ f g, smMem f = some g → ∀ (args : List SVal) (st : St) (s : SVal) (st' : St) (env : Env) (w : World) (vs : List Value), (g args st).at (s, st') → GlOk [(0, 0)] env → Rep env st w → DenL env args vs →
    Calls Tryd.prog f ⟨vs⟩ w fun e w' => ∃ env' v, e = .returned v ∧ Ext env st w env' st' w' ∧ Rep env' st' w' ∧ Den env' s v := by
  intro f g h
  simp only [smMem] at h
  split at h
  · simp only [Option.some.injEq] at h; subst h
    exact smPre_ok (c := cfgW) (gl_lt (by omega)) load_ok
  · simp only [Option.some.injEq] at h; subst h
    exact smPre_ok (c := cfgW) (gl_lt (by omega)) store_ok
  · simp only [Option.some.injEq] at h; subst h
    exact smPre_ok (c := cfgW) (gl_lt (by omega)) inc_ok
  · cases h
theorem cfgM_ok : SmOk cfgM := smMem_ok
end Go.Proofs.YthofahgnglfaeaaDoor

/- Layer 9: a taker. -/
namespace Go.Proofs.YthofahgnglfaeaaDoor
open Go Go.Proofs.YthofahgnglfaeaaDoor.Sx
set_option linter.unusedVariables false
structure Tk where
  at' : Int
  cell : Int
  times : Int
  phase : Nat
  ticket : Int
  v : Int
/-- a taker's cells, in a phase -/
abbrev tkB (t : Tk) (p : SVal) : Blk := .own [.c (.int .i64 t.at'), .c (.int .i64 t.cell), .c (.int .i64 t.times), .c p, .c (.int .u32 t.ticket), .c (.int .u32 t.v)] 70
end Go.Proofs.YthofahgnglfaeaaDoor

namespace Go.Proofs.YthofahgnglfaeaaDoor
open Go Go.Proofs.YthofahgnglfaeaaDoor.Sx
set_option linter.unusedVariables false
set_option maxRecDepth 100000 in
theorem t_step0 {n : Nat} {l : List Int} {c : Int} {t : Tk} : callF cfgM 100 15 [.ptr 3 0, .ptr 1 0] (memS n l c ++ [tkB t (.lit .i64 0)]) =
 

 (.br (decide (t.3 < (1 : Int)))

 (.ret (.bl true, [.ro encLook [PUnit.unit], .own [.c (.sli 2 (.c 0) 1 (.v n) (some (.v n))), .c (.int .i64 c)] 62, .own [.a (encInt IntKind.u32) n l] 23, .own [.c (.int .i64 t.1), .c (.int .i64 t.2), .c (.int .i64 t.3), .c (.lit .i64 (0 : Int)), .c (.int .u32 t.5), .c (.int .u32 t.6)] 70]))

 (.eq ([Blk.ro encLook [PUnit.unit], .own [.c (.sli 2 (.c 0) 1 (.v n) (some (.v n))), .c (.int .i64 c)] 62, .own [.a (encInt IntKind.u32) n l] 23] = [Blk.ro encLook [PUnit.unit], .own [.c (.sli 2 (.c 0) 1 (.v n) (some (.v n))), .c (.int .i64 c)] 62, .own [.a (encInt IntKind.u32) n l] 23] ∧ l.length = n)

 (.br (inP t.1 n)

 (.ret (.sb (t.3 == (0 : Int)), [.ro encLook [PUnit.unit], .own [.c (.sli 2 (.c 0) 1 (.v n) (some (.v n))), .c (.int .i64 (upP c))] 62, .own [.a (encInt IntKind.u32) n (l.set t.1.toNat (incP (l.getD t.1.toNat (0 : Int))))] 23, .own [.c (.int .i64 t.1), .c (.int .i64 t.2), .c (.int .i64 t.3), .c (.lit .i64 (1 : Int)), .c (.int .u32 (l.getD t.1.toNat (0 : Int))), .c (.int .u32 t.6)] 70, .own [.c (SVal.fn (Fn.func 33) [] []), .c (SVal.fn (Fn.func 34) [] []), .c (SVal.fn (Fn.func 35) [] []), .c (SVal.fn (Fn.func 36) [] []), .c (SVal.fn (Fn.func 37) [] [])] 73]))

 (.ret (.bl true, [.ro encLook [PUnit.unit], .own [.c (.sli 2 (.c 0) 1 (.v n) (some (.v n))), .c (.int .i64 c)] 62, .own [.a (encInt IntKind.u32) n l] 23, .own [.c (.int .i64 t.1), .c (.int .i64 t.2), .c (.int .i64 t.3), .c (.lit .i64 (0 : Int)), .c (.int .u32 t.5), .c (.int .u32 t.6)] 70, .own [.c (SVal.fn (Fn.func 33) [] []), .c (SVal.fn (Fn.func 34) [] []), .c (SVal.fn (Fn.func 35) [] []), .c (SVal.fn (Fn.func 36) [] []), .c (SVal.fn (Fn.func 37) [] [])] 73]))))) := by kernel_rfl
set_option maxRecDepth 100000 in
theorem t_step1 {n : Nat} {l : List Int} {c : Int} {t : Tk} : callF cfgM 100 15 [.ptr 3 0, .ptr 1 0] (memS n l c ++ [tkB t (.lit .i64 1)]) =
 

 (.br (decide (t.3 < (1 : Int)))

 (.ret (.bl true, [.ro encLook [PUnit.unit], .own [.c (.sli 2 (.c 0) 1 (.v n) (some (.v n))), .c (.int .i64 c)] 62, .own [.a (encInt IntKind.u32) n l] 23, .own [.c (.int .i64 t.1), .c (.int .i64 t.2), .c (.int .i64 t.3), .c (.lit .i64 (1 : Int)), .c (.int .u32 t.5), .c (.int .u32 t.6)] 70]))

 (.need (inR .i64 (t.1 + (1 : Int)))

 (.eq ([Blk.ro encLook [PUnit.unit], .own [.c (.sli 2 (.c 0) 1 (.v n) (some (.v n))), .c (.int .i64 c)] 62, .own [.a (encInt IntKind.u32) n l] 23] = [Blk.ro encLook [PUnit.unit], .own [.c (.sli 2 (.c 0) 1 (.v n) (some (.v n))), .c (.int .i64 c)] 62, .own [.a (encInt IntKind.u32) n l] 23] ∧ l.length = n)

 (.br (inP (t.1 + (1 : Int)) n)

 (.br (l.getD (t.1 + (1 : Int)).toNat (0 : Int) == t.5)

 (.ret (.sb (t.3 == (0 : Int)), [.ro encLook [PUnit.unit], .own [.c (.sli 2 (.c 0) 1 (.v n) (some (.v n))), .c (.int .i64 (upP c))] 62, .own [.a (encInt IntKind.u32) n l] 23, .own [.c (.int .i64 t.1), .c (.int .i64 t.2), .c (.int .i64 t.3), .c (.lit .i64 (2 : Int)), .c (.int .u32 t.5), .c (.int .u32 t.6)] 70, .own [.c (SVal.fn (Fn.func 33) [] []), .c (SVal.fn (Fn.func 34) [] []), .c (SVal.fn (Fn.func 35) [] []), .c (SVal.fn (Fn.func 36) [] []), .c (SVal.fn (Fn.func 37) [] [])] 73]))

 (.ret (.sb (t.3 == (0 : Int)), [.ro encLook [PUnit.unit], .own [.c (.sli 2 (.c 0) 1 (.v n) (some (.v n))), .c (.int .i64 (upP c))] 62, .own [.a (encInt IntKind.u32) n l] 23, .own [.c (.int .i64 t.1), .c (.int .i64 t.2), .c (.int .i64 t.3), .c (.lit .i64 (1 : Int)), .c (.int .u32 t.5), .c (.int .u32 t.6)] 70, .own [.c (SVal.fn (Fn.func 33) [] []), .c (SVal.fn (Fn.func 34) [] []), .c (SVal.fn (Fn.func 35) [] []), .c (SVal.fn (Fn.func 36) [] []), .c (SVal.fn (Fn.func 37) [] [])] 73])))

 (.ret (.bl true, [.ro encLook [PUnit.unit], .own [.c (.sli 2 (.c 0) 1 (.v n) (some (.v n))), .c (.int .i64 c)] 62, .own [.a (encInt IntKind.u32) n l] 23, .own [.c (.int .i64 t.1), .c (.int .i64 t.2), .c (.int .i64 t.3), .c (.lit .i64 (0 : Int)), .c (.int .u32 t.5), .c (.int .u32 t.6)] 70, .own [.c (SVal.fn (Fn.func 33) [] []), .c (SVal.fn (Fn.func 34) [] []), .c (SVal.fn (Fn.func 35) [] []), .c (SVal.fn (Fn.func 36) [] []), .c (SVal.fn (Fn.func 37) [] [])] 73])))))) := by kernel_rfl
set_option maxRecDepth 100000 in
theorem t_step2 {n : Nat} {l : List Int} {c : Int} {t : Tk} : callF cfgM 100 15 [.ptr 3 0, .ptr 1 0] (memS n l c ++ [tkB t (.lit .i64 2)]) =
 

 (.br (decide (t.3 < (1 : Int)))

 (.ret (.bl true, [.ro encLook [PUnit.unit], .own [.c (.sli 2 (.c 0) 1 (.v n) (some (.v n))), .c (.int .i64 c)] 62, .own [.a (encInt IntKind.u32) n l] 23, .own [.c (.int .i64 t.1), .c (.int .i64 t.2), .c (.int .i64 t.3), .c (.lit .i64 (2 : Int)), .c (.int .u32 t.5), .c (.int .u32 t.6)] 70]))

 (.eq ([Blk.ro encLook [PUnit.unit], .own [.c (.sli 2 (.c 0) 1 (.v n) (some (.v n))), .c (.int .i64 c)] 62, .own [.a (encInt IntKind.u32) n l] 23] = [Blk.ro encLook [PUnit.unit], .own [.c (.sli 2 (.c 0) 1 (.v n) (some (.v n))), .c (.int .i64 c)] 62, .own [.a (encInt IntKind.u32) n l] 23] ∧ l.length = n)

 (.br (inP t.2 n)

 (.ret (.sb (t.3 == (0 : Int)), [.ro encLook [PUnit.unit], .own [.c (.sli 2 (.c 0) 1 (.v n) (some (.v n))), .c (.int .i64 (upP c))] 62, .own [.a (encInt IntKind.u32) n l] 23, .own [.c (.int .i64 t.1), .c (.int .i64 t.2), .c (.int .i64 t.3), .c (.lit .i64 (3 : Int)), .c (.int .u32 t.5), .c (.int .u32 (l.getD t.2.toNat (0 : Int)))] 70, .own [.c (SVal.fn (Fn.func 33) [] []), .c (SVal.fn (Fn.func 34) [] []), .c (SVal.fn (Fn.func 35) [] []), .c (SVal.fn (Fn.func 36) [] []), .c (SVal.fn (Fn.func 37) [] [])] 73]))

 (.ret (.bl true, [.ro encLook [PUnit.unit], .own [.c (.sli 2 (.c 0) 1 (.v n) (some (.v n))), .c (.int .i64 c)] 62, .own [.a (encInt IntKind.u32) n l] 23, .own [.c (.int .i64 t.1), .c (.int .i64 t.2), .c (.int .i64 t.3), .c (.lit .i64 (0 : Int)), .c (.int .u32 t.5), .c (.lit .u32 (0 : Int))] 70, .own [.c (SVal.fn (Fn.func 33) [] []), .c (SVal.fn (Fn.func 34) [] []), .c (SVal.fn (Fn.func 35) [] []), .c (SVal.fn (Fn.func 36) [] []), .c (SVal.fn (Fn.func 37) [] [])] 73]))))) := by kernel_rfl
set_option maxRecDepth 100000 in
theorem t_step3 {n : Nat} {l : List Int} {c : Int} {t : Tk} : callF cfgM 100 15 [.ptr 3 0, .ptr 1 0] (memS n l c ++ [tkB t (.lit .i64 3)]) =
 

 (.br (decide (t.3 < (1 : Int)))

 (.ret (.bl true, [.ro encLook [PUnit.unit], .own [.c (.sli 2 (.c 0) 1 (.v n) (some (.v n))), .c (.int .i64 c)] 62, .own [.a (encInt IntKind.u32) n l] 23, .own [.c (.int .i64 t.1), .c (.int .i64 t.2), .c (.int .i64 t.3), .c (.lit .i64 (3 : Int)), .c (.int .u32 t.5), .c (.int .u32 t.6)] 70]))

 (.eq ([Blk.ro encLook [PUnit.unit], .own [.c (.sli 2 (.c 0) 1 (.v n) (some (.v n))), .c (.int .i64 c)] 62, .own [.a (encInt IntKind.u32) n l] 23] = [Blk.ro encLook [PUnit.unit], .own [.c (.sli 2 (.c 0) 1 (.v n) (some (.v n))), .c (.int .i64 c)] 62, .own [.a (encInt IntKind.u32) n l] 23] ∧ l.length = n)

 (.br (inP t.2 n)
 (.eq (T.ret (SVal.int IntKind.i64 t.2) = T.ret (SVal.int IntKind.i64 t.2))
 (.eq (T.ret (SVal.int IntKind.u32 t.6) = T.ret (SVal.int IntKind.u32 t.6))

 (.ret (.sb (t.3 == (0 : Int)), [.ro encLook [PUnit.unit], .own [.c (.sli 2 (.c 0) 1 (.v n) (some (.v n))), .c (.int .i64 (upP c))] 62, .own [.a (encInt IntKind.u32) n (l.set t.2.toNat (setP (l.getD t.2.toNat (0 : Int)) (IntKind.u32.wrap (t.6 + (1 : Int)))))] 23, .own [.c (.int .i64 t.1), .c (.int .i64 t.2), .c (.int .i64 t.3), .c (.lit .i64 (4 : Int)), .c (.int .u32 t.5), .c (.int .u32 t.6)] 70, .own [.c (SVal.fn (Fn.func 33) [] []), .c (SVal.fn (Fn.func 34) [] []), .c (SVal.fn (Fn.func 35) [] []), .c (SVal.fn (Fn.func 36) [] []), .c (SVal.fn (Fn.func 37) [] [])] 73]))))
 (.eq (T.ret (SVal.int IntKind.i64 t.2) = T.ret (SVal.int IntKind.i64 t.2))
 (.eq (T.ret (SVal.int IntKind.u32 t.6) = T.ret (SVal.int IntKind.u32 t.6))

 (.ret (.bl true, [.ro encLook [PUnit.unit], .own [.c (.sli 2 (.c 0) 1 (.v n) (some (.v n))), .c (.int .i64 c)] 62, .own [.a (encInt IntKind.u32) n l] 23, .own [.c (.int .i64 t.1), .c (.int .i64 t.2), .c (.int .i64 t.3), .c (.lit .i64 (0 : Int)), .c (.int .u32 t.5), .c (.int .u32 t.6)] 70, .own [.c (SVal.fn (Fn.func 33) [] []), .c (SVal.fn (Fn.func 34) [] []), .c (SVal.fn (Fn.func 35) [] []), .c (SVal.fn (Fn.func 36) [] []), .c (SVal.fn (Fn.func 37) [] [])] 73]))))))) := by kernel_rfl
set_option maxRecDepth 100000 in
theorem t_step4 {n : Nat} {l : List Int} {c : Int} {t : Tk} : callF cfgM 100 15 [.ptr 3 0, .ptr 1 0] (memS n l c ++ [tkB t (.lit .i64 4)]) =
 

 (.br (decide (t.3 < (1 : Int)))

 (.ret (.bl true, [.ro encLook [PUnit.unit], .own [.c (.sli 2 (.c 0) 1 (.v n) (some (.v n))), .c (.int .i64 c)] 62, .own [.a (encInt IntKind.u32) n l] 23, .own [.c (.int .i64 t.1), .c (.int .i64 t.2), .c (.int .i64 t.3), .c (.lit .i64 (4 : Int)), .c (.int .u32 t.5), .c (.int .u32 t.6)] 70]))

 (.need (inR .i64 (t.1 + (1 : Int)))

 (.eq ([Blk.ro encLook [PUnit.unit], .own [.c (.sli 2 (.c 0) 1 (.v n) (some (.v n))), .c (.int .i64 c)] 62, .own [.a (encInt IntKind.u32) n l] 23] = [Blk.ro encLook [PUnit.unit], .own [.c (.sli 2 (.c 0) 1 (.v n) (some (.v n))), .c (.int .i64 c)] 62, .own [.a (encInt IntKind.u32) n l] 23] ∧ l.length = n)

 (.br (inP (t.1 + (1 : Int)) n)
 (.eq (T.ret (SVal.int IntKind.i64 t.1) = T.ret (SVal.int IntKind.i64 t.1))
 (.eq (T.ret (SVal.int IntKind.u32 t.5) = T.ret (SVal.int IntKind.u32 t.5))

 (.need (inR .i64 (t.3 - (1 : Int)))

 (.ret (.sb (t.3 - (1 : Int) == (0 : Int)), [.ro encLook [PUnit.unit], .own [.c (.sli 2 (.c 0) 1 (.v n) (some (.v n))), .c (.int .i64 (upP c))] 62, .own [.a (encInt IntKind.u32) n (l.set (t.1 + (1 : Int)).toNat (setP (l.getD (t.1 + (1 : Int)).toNat (0 : Int)) (IntKind.u32.wrap (t.5 + (1 : Int)))))] 23, .own [.c (.int .i64 t.1), .c (.int .i64 t.2), .c (.int .i64 (t.3 - (1 : Int))), .c (.lit .i64 (0 : Int)), .c (.int .u32 t.5), .c (.int .u32 t.6)] 70, .own [.c (SVal.fn (Fn.func 33) [] []), .c (SVal.fn (Fn.func 34) [] []), .c (SVal.fn (Fn.func 35) [] []), .c (SVal.fn (Fn.func 36) [] []), .c (SVal.fn (Fn.func 37) [] [])] 73])))))
 (.eq (T.ret (SVal.int IntKind.i64 t.1) = T.ret (SVal.int IntKind.i64 t.1))
 (.eq (T.ret (SVal.int IntKind.u32 t.5) = T.ret (SVal.int IntKind.u32 t.5))

 (.ret (.bl true, [.ro encLook [PUnit.unit], .own [.c (.sli 2 (.c 0) 1 (.v n) (some (.v n))), .c (.int .i64 c)] 62, .own [.a (encInt IntKind.u32) n l] 23, .own [.c (.int .i64 t.1), .c (.int .i64 t.2), .c (.int .i64 t.3), .c (.lit .i64 (0 : Int)), .c (.int .u32 t.5), .c (.int .u32 t.6)] 70, .own [.c (SVal.fn (Fn.func 33) [] []), .c (SVal.fn (Fn.func 34) [] []), .c (SVal.fn (Fn.func 35) [] []), .c (SVal.fn (Fn.func 36) [] []), .c (SVal.fn (Fn.func 37) [] [])] 73])))))))) := by kernel_rfl
end Go.Proofs.YthofahgnglfaeaaDoor

/- Layer 9: a taker's step. -/
namespace Go.Proofs.YthofahgnglfaeaaDoor
open Go Go.Proofs.YthofahgnglfaeaaDoor.Sx
set_option linter.unusedVariables false
abbrev w32P (x : Int) : Int := IntKind.u32.wrap x
/-- a step: the taker, the words, whether it was the last one -/
def stepP (t : Tk) (l : List Int) : Tk × List Int × Bool :=
  if t.times < 1 then (t, l, true) else
  match t.phase with
  | 0 => match inP t.at' l.length with
    | true => ({t with ticket := l.getD t.at'.toNat 0, phase := 1}, l.set t.at'.toNat (incP (l.getD t.at'.toNat 0)), false)
    | false => ({t with phase := 0}, l, true)
  | 1 => match inP (t.at' + 1) l.length with
    | true => match l.getD (t.at' + 1).toNat 0 == t.ticket with
      | true => ({t with phase := 2}, l, false)
      | false => (t, l, false)
    | false => ({t with phase := 0}, l, true)
  | 2 => match inP t.cell l.length with
    | true => ({t with v := l.getD t.cell.toNat 0, phase := 3}, l, false)
    | false => ({t with v := 0, phase := 0}, l, true)
  | 3 => match inP t.cell l.length with
    | true => ({t with phase := 4}, l.set t.cell.toNat (setP (l.getD t.cell.toNat 0) (w32P (t.v + 1))), false)
    | false => ({t with phase := 0}, l, true)
  | _ => match inP (t.at' + 1) l.length with
    | true => ({t with phase := 0, times := t.times - 1}, l.set (t.at' + 1).toNat (setP (l.getD (t.at' + 1).toNat 0) (w32P (t.ticket + 1))), t.times - 1 == 0)
    | false => ({t with phase := 0}, l, true)
/-- how often the memory was used -/
def usesP (t : Tk) (l : List Int) (c : Int) : Int :=
  if t.times < 1 then c else
  match inP (match t.phase with | 0 => t.at' | 1 => t.at' + 1 | 2 => t.cell | 3 => t.cell | _ => t.at' + 1) l.length with
  | true => upP c
  | false => c
theorem step_len (t : Tk) (l : List Int) : (stepP t l).2.1.length = l.length := by
  unfold stepP
  repeat' (first | split | rfl | (simp only [List.length_set]))
structure TkOk (t : Tk) : Prop where
  at' : -1000 ≤ t.at' ∧ t.at' ≤ 1000
  times : 0 ≤ t.times ∧ t.times ≤ 1000
  phase : t.phase ≤ 4
abbrev tkS (n : Nat) (l : List Int) (c : Int) (t : Tk) : St := memS n l c ++ [tkB t (.int .i64 t.phase)]
theorem tkS_ren {n : Nat} {l : List Int} {c : Int} {t : Tk} : renSt (List.range 4) (tkS n l c t) (List.range 4) = some (tkS n l c t) := by kernel_rfl
end Go.Proofs.YthofahgnglfaeaaDoor
namespace Go.Proofs.YthofahgnglfaeaaDoor
open Go Go.Proofs.YthofahgnglfaeaaDoor.Sx
set_option linter.unusedVariables false
theorem step_call {t : Tk} (ht : TkOk t) {n : Nat} {l : List Int} (hl : l.length = n) {c : Int} :
    ∀ (env : Env) (w : World) (vs : List Value), GlOk cfgM.gl env → Rep env (tkS n l c t) w → DenL env [.ptr 3 0, .ptr 1 0] vs → Calls cfgM.P 15 ⟨vs⟩ w (Ends1 env (tkS n l c t) w (.sb (stepP t l).2.2) (tkS n (stepP t l).2.1 (usesP t l c) (stepP t l).1)) := by
  obtain ⟨at', cell, times, phase, ticket, v⟩ := t
  obtain ⟨h1, h2, h3⟩ := ht
  subst hl
  simp only at h1 h2 h3
  have hs : ∀ b, ren (List.range 4) (.sb b) = .sb b := fun _ => rfl
  match phase, h3 with
  | 0, _ =>
    refine calls_gen (S1 := memS l.length l c ++ [tkB ⟨at', cell, times, 0, ticket, v⟩ (.lit .i64 0)]) rfl rfl rfl rfl (ends_allg cfgM_ok t_step0 (by kernel_rfl) rfl tkS_ren (hs _) ?_)
    generalize hr : stepP _ l = r
    generalize hc : usesP _ l c = cc
    by_cases h : times < 1
    · simp only [stepP, h, if_true] at hr
      simp only [usesP, h, if_true] at hc
      subst hr hc
      repeat' (first
        | (refine all_brp (by simp only [decide_eq_true_eq, Bool.and_eq_true, beq_iff_eq, inP_iff, Bool.false_eq_true]; exact Iff.rfl) (fun _ => ?_) (fun _ => ?_) <;> try (first | (exfalso; omega) | (rename_i hh; exact (hh trivial).elim) | (rename_i hh; exact False.elim hh) | (rename_i hh; cases hh)))
        | refine all_needq (by simp only [decide_eq_true_eq, Bool.and_eq_true, inR_i64]; exact Iff.rfl) (by omega) ?_
        | refine all_eq (by first | exact ⟨rfl, rfl⟩ | exact ⟨trivial, trivial⟩ | trivial) ?_
        | refine all_eq rfl ?_)
      all_goals exact all_ret ⟨_, rfl, rfl⟩
    cases hb : inP at' l.length with
    | true =>
      have hb' := (inP_iff _ _).1 hb
      simp only [stepP, h, if_false, hb] at hr
      simp only [usesP, h, if_false, hb] at hc
      subst hr hc
      repeat' (first
        | (refine all_brp (by simp only [decide_eq_true_eq, Bool.and_eq_true, beq_iff_eq, inP_iff, Bool.false_eq_true]; exact Iff.rfl) (fun _ => ?_) (fun _ => ?_) <;> try (first | (exfalso; omega) | (rename_i hh; exact (hh trivial).elim) | (rename_i hh; exact False.elim hh) | (rename_i hh; cases hh)))
        | refine all_needq (by simp only [decide_eq_true_eq, Bool.and_eq_true, inR_i64]; exact Iff.rfl) (by omega) ?_
        | refine all_eq (by first | exact ⟨rfl, rfl⟩ | exact ⟨trivial, trivial⟩ | trivial) ?_
        | refine all_eq rfl ?_)
      have hd : (times == 0) = false := by rw [beq_eq_false_iff_ne]; omega
      all_goals simp only [hd]
      all_goals exact all_ret ⟨_, rfl, rfl⟩
    | false =>
      have hb' := (not_congr (inP_iff _ _)).1 (by rw [hb]; simp)
      simp only [stepP, h, if_false, hb] at hr
      simp only [usesP, h, if_false, hb] at hc
      subst hr hc
      repeat' (first
        | (refine all_brp (by simp only [decide_eq_true_eq, Bool.and_eq_true, beq_iff_eq, inP_iff, Bool.false_eq_true]; exact Iff.rfl) (fun _ => ?_) (fun _ => ?_) <;> try (first | (exfalso; omega) | (rename_i hh; exact (hh trivial).elim) | (rename_i hh; exact False.elim hh) | (rename_i hh; cases hh)))
        | refine all_needq (by simp only [decide_eq_true_eq, Bool.and_eq_true, inR_i64]; exact Iff.rfl) (by omega) ?_
        | refine all_eq (by first | exact ⟨rfl, rfl⟩ | exact ⟨trivial, trivial⟩ | trivial) ?_
        | refine all_eq rfl ?_)
      all_goals exact all_ret ⟨_, rfl, rfl⟩
  | 1, _ =>
    refine calls_gen (S1 := memS l.length l c ++ [tkB ⟨at', cell, times, 1, ticket, v⟩ (.lit .i64 1)]) rfl rfl rfl rfl (ends_allg cfgM_ok t_step1 (by kernel_rfl) rfl tkS_ren (hs _) ?_)
    generalize hr : stepP _ l = r
    generalize hc : usesP _ l c = cc
    by_cases h : times < 1
    · simp only [stepP, h, if_true] at hr
      simp only [usesP, h, if_true] at hc
      subst hr hc
      repeat' (first
        | (refine all_brp (by simp only [decide_eq_true_eq, Bool.and_eq_true, beq_iff_eq, inP_iff, Bool.false_eq_true]; exact Iff.rfl) (fun _ => ?_) (fun _ => ?_) <;> try (first | (exfalso; omega) | (rename_i hh; exact (hh trivial).elim) | (rename_i hh; exact False.elim hh) | (rename_i hh; cases hh)))
        | refine all_needq (by simp only [decide_eq_true_eq, Bool.and_eq_true, inR_i64]; exact Iff.rfl) (by omega) ?_
        | refine all_eq (by first | exact ⟨rfl, rfl⟩ | exact ⟨trivial, trivial⟩ | trivial) ?_
        | refine all_eq rfl ?_)
      all_goals exact all_ret ⟨_, rfl, rfl⟩
    cases hb : inP (at' + 1) l.length with
    | true =>
      have hb' := (inP_iff _ _).1 hb
      by_cases hq : l.getD (at' + 1).toNat 0 = ticket
      · have hq' := beq_iff_eq.2 hq
        simp only [stepP, h, if_false, hb, hq'] at hr
        simp only [usesP, h, if_false, hb, hq'] at hc
        subst hr hc
        repeat' (first
        | (refine all_brp (by simp only [decide_eq_true_eq, Bool.and_eq_true, beq_iff_eq, inP_iff, Bool.false_eq_true]; exact Iff.rfl) (fun _ => ?_) (fun _ => ?_) <;> try (first | (exfalso; omega) | (rename_i hh; exact (hh trivial).elim) | (rename_i hh; exact False.elim hh) | (rename_i hh; cases hh)))
        | refine all_needq (by simp only [decide_eq_true_eq, Bool.and_eq_true, inR_i64]; exact Iff.rfl) (by omega) ?_
        | refine all_eq (by first | exact ⟨rfl, rfl⟩ | exact ⟨trivial, trivial⟩ | trivial) ?_
        | refine all_eq rfl ?_)
        have hd : (times == 0) = false := by rw [beq_eq_false_iff_ne]; omega
        all_goals simp only [hd]
        all_goals exact all_ret ⟨_, rfl, rfl⟩
      · have hq' := beq_eq_false_iff_ne.2 hq
        simp only [stepP, h, if_false, hb, hq'] at hr
        simp only [usesP, h, if_false, hb, hq'] at hc
        subst hr hc
        repeat' (first
        | (refine all_brp (by simp only [decide_eq_true_eq, Bool.and_eq_true, beq_iff_eq, inP_iff, Bool.false_eq_true]; exact Iff.rfl) (fun _ => ?_) (fun _ => ?_) <;> try (first | (exfalso; omega) | (rename_i hh; exact (hh trivial).elim) | (rename_i hh; exact False.elim hh) | (rename_i hh; cases hh)))
        | refine all_needq (by simp only [decide_eq_true_eq, Bool.and_eq_true, inR_i64]; exact Iff.rfl) (by omega) ?_
        | refine all_eq (by first | exact ⟨rfl, rfl⟩ | exact ⟨trivial, trivial⟩ | trivial) ?_
        | refine all_eq rfl ?_)
        have hd : (times == 0) = false := by rw [beq_eq_false_iff_ne]; omega
        all_goals simp only [hd]
        all_goals exact all_ret ⟨_, rfl, rfl⟩
    | false =>
      have hb' := (not_congr (inP_iff _ _)).1 (by rw [hb]; simp)
      simp only [stepP, h, if_false, hb] at hr
      simp only [usesP, h, if_false, hb] at hc
      subst hr hc
      repeat' (first
        | (refine all_brp (by simp only [decide_eq_true_eq, Bool.and_eq_true, beq_iff_eq, inP_iff, Bool.false_eq_true]; exact Iff.rfl) (fun _ => ?_) (fun _ => ?_) <;> try (first | (exfalso; omega) | (rename_i hh; exact (hh trivial).elim) | (rename_i hh; exact False.elim hh) | (rename_i hh; cases hh)))
        | refine all_needq (by simp only [decide_eq_true_eq, Bool.and_eq_true, inR_i64]; exact Iff.rfl) (by omega) ?_
        | refine all_eq (by first | exact ⟨rfl, rfl⟩ | exact ⟨trivial, trivial⟩ | trivial) ?_
        | refine all_eq rfl ?_)
      all_goals exact all_ret ⟨_, rfl, rfl⟩
  | 2, _ =>
    refine calls_gen (S1 := memS l.length l c ++ [tkB ⟨at', cell, times, 2, ticket, v⟩ (.lit .i64 2)]) rfl rfl rfl rfl (ends_allg cfgM_ok t_step2 (by kernel_rfl) rfl tkS_ren (hs _) ?_)
    generalize hr : stepP _ l = r
    generalize hc : usesP _ l c = cc
    by_cases h : times < 1
    · simp only [stepP, h, if_true] at hr
      simp only [usesP, h, if_true] at hc
      subst hr hc
      repeat' (first
        | (refine all_brp (by simp only [decide_eq_true_eq, Bool.and_eq_true, beq_iff_eq, inP_iff, Bool.false_eq_true]; exact Iff.rfl) (fun _ => ?_) (fun _ => ?_) <;> try (first | (exfalso; omega) | (rename_i hh; exact (hh trivial).elim) | (rename_i hh; exact False.elim hh) | (rename_i hh; cases hh)))
        | refine all_needq (by simp only [decide_eq_true_eq, Bool.and_eq_true, inR_i64]; exact Iff.rfl) (by omega) ?_
        | refine all_eq (by first | exact ⟨rfl, rfl⟩ | exact ⟨trivial, trivial⟩ | trivial) ?_
        | refine all_eq rfl ?_)
      all_goals exact all_ret ⟨_, rfl, rfl⟩
    cases hb : inP cell l.length with
    | true =>
      have hb' := (inP_iff _ _).1 hb
      simp only [stepP, h, if_false, hb] at hr
      simp only [usesP, h, if_false, hb] at hc
      subst hr hc
      repeat' (first
        | (refine all_brp (by simp only [decide_eq_true_eq, Bool.and_eq_true, beq_iff_eq, inP_iff, Bool.false_eq_true]; exact Iff.rfl) (fun _ => ?_) (fun _ => ?_) <;> try (first | (exfalso; omega) | (rename_i hh; exact (hh trivial).elim) | (rename_i hh; exact False.elim hh) | (rename_i hh; cases hh)))
        | refine all_needq (by simp only [decide_eq_true_eq, Bool.and_eq_true, inR_i64]; exact Iff.rfl) (by omega) ?_
        | refine all_eq (by first | exact ⟨rfl, rfl⟩ | exact ⟨trivial, trivial⟩ | trivial) ?_
        | refine all_eq rfl ?_)
      have hd : (times == 0) = false := by rw [beq_eq_false_iff_ne]; omega
      all_goals simp only [hd]
      all_goals exact all_ret ⟨_, rfl, rfl⟩
    | false =>
      have hb' := (not_congr (inP_iff _ _)).1 (by rw [hb]; simp)
      simp only [stepP, h, if_false, hb] at hr
      simp only [usesP, h, if_false, hb] at hc
      subst hr hc
      repeat' (first
        | (refine all_brp (by simp only [decide_eq_true_eq, Bool.and_eq_true, beq_iff_eq, inP_iff, Bool.false_eq_true]; exact Iff.rfl) (fun _ => ?_) (fun _ => ?_) <;> try (first | (exfalso; omega) | (rename_i hh; exact (hh trivial).elim) | (rename_i hh; exact False.elim hh) | (rename_i hh; cases hh)))
        | refine all_needq (by simp only [decide_eq_true_eq, Bool.and_eq_true, inR_i64]; exact Iff.rfl) (by omega) ?_
        | refine all_eq (by first | exact ⟨rfl, rfl⟩ | exact ⟨trivial, trivial⟩ | trivial) ?_
        | refine all_eq rfl ?_)
      all_goals exact all_ret ⟨_, rfl, rfl⟩
  | 3, _ =>
    refine calls_gen (S1 := memS l.length l c ++ [tkB ⟨at', cell, times, 3, ticket, v⟩ (.lit .i64 3)]) rfl rfl rfl rfl (ends_allg cfgM_ok t_step3 (by kernel_rfl) rfl tkS_ren (hs _) ?_)
    generalize hr : stepP _ l = r
    generalize hc : usesP _ l c = cc
    by_cases h : times < 1
    · simp only [stepP, h, if_true] at hr
      simp only [usesP, h, if_true] at hc
      subst hr hc
      repeat' (first
        | (refine all_brp (by simp only [decide_eq_true_eq, Bool.and_eq_true, beq_iff_eq, inP_iff, Bool.false_eq_true]; exact Iff.rfl) (fun _ => ?_) (fun _ => ?_) <;> try (first | (exfalso; omega) | (rename_i hh; exact (hh trivial).elim) | (rename_i hh; exact False.elim hh) | (rename_i hh; cases hh)))
        | refine all_needq (by simp only [decide_eq_true_eq, Bool.and_eq_true, inR_i64]; exact Iff.rfl) (by omega) ?_
        | refine all_eq (by first | exact ⟨rfl, rfl⟩ | exact ⟨trivial, trivial⟩ | trivial) ?_
        | refine all_eq rfl ?_)
      all_goals exact all_ret ⟨_, rfl, rfl⟩
    cases hb : inP cell l.length with
    | true =>
      have hb' := (inP_iff _ _).1 hb
      simp only [stepP, h, if_false, hb] at hr
      simp only [usesP, h, if_false, hb] at hc
      subst hr hc
      repeat' (first
        | (refine all_brp (by simp only [decide_eq_true_eq, Bool.and_eq_true, beq_iff_eq, inP_iff, Bool.false_eq_true]; exact Iff.rfl) (fun _ => ?_) (fun _ => ?_) <;> try (first | (exfalso; omega) | (rename_i hh; exact (hh trivial).elim) | (rename_i hh; exact False.elim hh) | (rename_i hh; cases hh)))
        | refine all_needq (by simp only [decide_eq_true_eq, Bool.and_eq_true, inR_i64]; exact Iff.rfl) (by omega) ?_
        | refine all_eq (by first | exact ⟨rfl, rfl⟩ | exact ⟨trivial, trivial⟩ | trivial) ?_
        | refine all_eq rfl ?_)
      have hd : (times == 0) = false := by rw [beq_eq_false_iff_ne]; omega
      all_goals simp only [hd]
      all_goals exact all_ret ⟨_, rfl, rfl⟩
    | false =>
      have hb' := (not_congr (inP_iff _ _)).1 (by rw [hb]; simp)
      simp only [stepP, h, if_false, hb] at hr
      simp only [usesP, h, if_false, hb] at hc
      subst hr hc
      repeat' (first
        | (refine all_brp (by simp only [decide_eq_true_eq, Bool.and_eq_true, beq_iff_eq, inP_iff, Bool.false_eq_true]; exact Iff.rfl) (fun _ => ?_) (fun _ => ?_) <;> try (first | (exfalso; omega) | (rename_i hh; exact (hh trivial).elim) | (rename_i hh; exact False.elim hh) | (rename_i hh; cases hh)))
        | refine all_needq (by simp only [decide_eq_true_eq, Bool.and_eq_true, inR_i64]; exact Iff.rfl) (by omega) ?_
        | refine all_eq (by first | exact ⟨rfl, rfl⟩ | exact ⟨trivial, trivial⟩ | trivial) ?_
        | refine all_eq rfl ?_)
      all_goals exact all_ret ⟨_, rfl, rfl⟩
  | 4, _ =>
    refine calls_gen (S1 := memS l.length l c ++ [tkB ⟨at', cell, times, 4, ticket, v⟩ (.lit .i64 4)]) rfl rfl rfl rfl (ends_allg cfgM_ok t_step4 (by kernel_rfl) rfl tkS_ren (hs _) ?_)
    generalize hr : stepP _ l = r
    generalize hc : usesP _ l c = cc
    by_cases h : times < 1
    · simp only [stepP, h, if_true] at hr
      simp only [usesP, h, if_true] at hc
      subst hr hc
      repeat' (first
        | (refine all_brp (by simp only [decide_eq_true_eq, Bool.and_eq_true, beq_iff_eq, inP_iff, Bool.false_eq_true]; exact Iff.rfl) (fun _ => ?_) (fun _ => ?_) <;> try (first | (exfalso; omega) | (rename_i hh; exact (hh trivial).elim) | (rename_i hh; exact False.elim hh) | (rename_i hh; cases hh)))
        | refine all_needq (by simp only [decide_eq_true_eq, Bool.and_eq_true, inR_i64]; exact Iff.rfl) (by omega) ?_
        | refine all_eq (by first | exact ⟨rfl, rfl⟩ | exact ⟨trivial, trivial⟩ | trivial) ?_
        | refine all_eq rfl ?_)
      all_goals exact all_ret ⟨_, rfl, rfl⟩
    cases hb : inP (at' + 1) l.length with
    | true =>
      have hb' := (inP_iff _ _).1 hb
      simp only [stepP, h, if_false, hb] at hr
      simp only [usesP, h, if_false, hb] at hc
      subst hr hc
      repeat' (first
        | (refine all_brp (by simp only [decide_eq_true_eq, Bool.and_eq_true, beq_iff_eq, inP_iff, Bool.false_eq_true]; exact Iff.rfl) (fun _ => ?_) (fun _ => ?_) <;> try (first | (exfalso; omega) | (rename_i hh; exact (hh trivial).elim) | (rename_i hh; exact False.elim hh) | (rename_i hh; cases hh)))
        | refine all_needq (by simp only [decide_eq_true_eq, Bool.and_eq_true, inR_i64]; exact Iff.rfl) (by omega) ?_
        | refine all_eq (by first | exact ⟨rfl, rfl⟩ | exact ⟨trivial, trivial⟩ | trivial) ?_
        | refine all_eq rfl ?_)
      have hd : (times == 0) = false := by rw [beq_eq_false_iff_ne]; omega
      all_goals skip
      all_goals exact all_ret ⟨_, rfl, rfl⟩
    | false =>
      have hb' := (not_congr (inP_iff _ _)).1 (by rw [hb]; simp)
      simp only [stepP, h, if_false, hb] at hr
      simp only [usesP, h, if_false, hb] at hc
      subst hr hc
      repeat' (first
        | (refine all_brp (by simp only [decide_eq_true_eq, Bool.and_eq_true, beq_iff_eq, inP_iff, Bool.false_eq_true]; exact Iff.rfl) (fun _ => ?_) (fun _ => ?_) <;> try (first | (exfalso; omega) | (rename_i hh; exact (hh trivial).elim) | (rename_i hh; exact False.elim hh) | (rename_i hh; cases hh)))
        | refine all_needq (by simp only [decide_eq_true_eq, Bool.and_eq_true, inR_i64]; exact Iff.rfl) (by omega) ?_
        | refine all_eq (by first | exact ⟨rfl, rfl⟩ | exact ⟨trivial, trivial⟩ | trivial) ?_
        | refine all_eq rfl ?_)
      all_goals exact all_ret ⟨_, rfl, rfl⟩
/-- what a step leaves: the taker, the words, whether it is done -/
def tkP (t : Tk) (l : List Int) : Tk := (stepP t l).1
def wordsP (t : Tk) (l : List Int) : List Int := (stepP t l).2.1
def doneP (t : Tk) (l : List Int) : Bool := (stepP t l).2.2
def encTk : Enc Tk := encOf 5 (fun t => [.int .i64 t.at', .int .i64 t.cell, .int .i64 t.times, .int .i64 t.phase, .int .u32 t.ticket, .int .u32 t.v]) ⟨0, 0, 0, 0, 0, 0⟩ (fun _ => rfl) (by intro env env' x vs h; simpa [DenL, Den] using h)
abbrev famS (n : Nat) (l : List Int) (c : Int) (xs : List Tk) : St := memS n l c ++ [.many encTk xs 70]
theorem step_fam {n : Nat} {l : List Int} (hl : l.length = n) {c : Int} {xs : List Tk} {i : Nat} (hi : i < xs.length) (ht : TkOk (xs.getD i encTk.dflt)) :
    ∀ (env : Env) (w : World) (vs : List Value), GlOk cfgM.gl env → Rep env (famS n l c xs) w → DenL env [.pto 3 i 0, .ptr 1 0] vs →
      Calls cfgM.P 15 ⟨vs⟩ w (Ends1 env (famS n l c xs) w (.sb (doneP (xs.getD i encTk.dflt) l)) (famS n (wordsP (xs.getD i encTk.dflt) l) (usesP (xs.getD i encTk.dflt) l c) (xs.set i (tkP (xs.getD i encTk.dflt) l)))) :=
  focus (S := memS n l c) (S' := memS n (wordsP (xs.getD i encTk.dflt) l) (usesP (xs.getD i encTk.dflt) l c)) (E := encTk) (A := [.ptr 1 0]) hi (step_call ht hl) rfl rfl rfl (gl_lt (by simp)) memS_ren memS_ren (fun _ => rfl) memS_ro
/-- a machine's pick asks for it -/
noncomputable def gStep (n : Nat) (l : List Int) (c : Int) (xs : List Tk) (args : List SVal) (st : St) : T (SVal × St) := match args with
  | [.pto 3 i 0, .ptr 1 0] => .eq (st = famS n l c xs ∧ l.length = n ∧ i < xs.length ∧ TkOk (xs.getD i encTk.dflt))
      (.ret (.sb (doneP (xs.getD i encTk.dflt) l), famS n (wordsP (xs.getD i encTk.dflt) l) (usesP (xs.getD i encTk.dflt) l c) (xs.set i (tkP (xs.getD i encTk.dflt) l))))
  | _ => .no 172
theorem famS_ren {n : Nat} {l : List Int} {c : Int} {xs : List Tk} : renSt (List.range 4) (famS n l c xs) (List.range 4) = some (famS n l c xs) := by kernel_rfl
theorem famS_ro {n n' : Nat} {l l' : List Int} {c c' : Int} {xs xs' : List Tk} : roSame (famS n l c xs) (famS n' l' c' xs') :=
  roSame_cons (.inr rfl) (roSame_cons (.inl rfl) (roSame_cons (.inl rfl) (roSame_cons (.inl rfl) roSame_nil)))
theorem gStep_ok {n : Nat} {l : List Int} {c : Int} {xs : List Tk} (args : List SVal) (S : St) (s : SVal) (S' : St) (h : (gStep n l c xs args S).at (s, S')) : PreOk cfgM 4 15 args S s S' := by
  unfold gStep at h
  split at h
  · rename_i i
    obtain ⟨⟨e0, hl, hi, ht⟩, h⟩ := h
    simp only [T.at, Prod.mk.injEq] at h
    obtain ⟨rfl, rfl⟩ := h
    rw [e0]
    exact ⟨step_fam hl hi ht, rfl, rfl, famS_ro, famS_ren, rfl⟩
  · exact h.elim
end Go.Proofs.YthofahgnglfaeaaDoor

/- Layer 9: a machine of takers. -/
namespace Go.Proofs.YthofahgnglfaeaaDoor
open Go Go.Proofs.YthofahgnglfaeaaDoor.Sx
set_option linter.unusedVariables false
/-- with a family's steps -/
noncomputable def cfgP (n : Nat) (l : List Int) (c : Int) (xs : List Tk) : Cfg := { P := Tryd.prog, ex := exI, gl := [(0, 0)], sm := fun f => match f with | 15 => some (smPre 4 (gStep n l c xs)) | _ => none }
theorem cfgP_ok {n : Nat} {l : List Int} {c : Int} {xs : List Tk} : SmOk (cfgP n l c xs) := by
  intro f g h
  simp only [cfgP] at h
  split at h
  · simp only [Option.some.injEq] at h; subst h
    exact smPre_ok (c := cfgM) (gl_lt (by omega)) gStep_ok
  · cases h
/-- a task, by its place in its family -/
def encT (t id : Nat) : Enc Nat where
  tag := .other
  shut := false
  shutOk := by simp
  sz := 1
  enc x := [.ifc t (.pto id x 0)]
  dec l := match l with
    | [.ifc t' (.pto i x j)] => match Nat.decEq t' t, Nat.decEq i id, Nat.decEq j 0 with
      | .isTrue _, .isTrue _, .isTrue _ => some x
      | _, _, _ => none
    | _ => none
  dflt := 0
  top := some (id + 1)
  topOk := by
    intro k hk m hm x
    simp only [Option.some.injEq] at hk; subst hk
    simp [renL, ren, idx_pref hm (Nat.lt_succ_self id)]
  pos := by omega
  len _ := rfl
  ok := by
    intro env l x vs h hd
    split at h
    · split at h
      · rename_i h1 h2 h3 _ _ _
        subst h1 h2 h3
        simp only [Option.some.injEq] at h; subst h
        exact hd
      · cases h
    · cases h
abbrev machB (m : Nat) : Blk := .own [.c (.ptr 1 0), .c (.sli 5 (.c 0) 1 (.v m) none), .c (.sli 6 (.c 0) 1 (.v m) (some (.v m)))] 78
abbrev pickS (n : Nat) (l : List Int) (c : Int) (xs : List Tk) (m : Nat) (ts : List Nat) (ds : List Bool) : St := famS n l c xs ++ [machB m, .vec (encT 37 3) ts 80, .own [.a encBool m ds] 4]
end Go.Proofs.YthofahgnglfaeaaDoor

namespace Go.Proofs.YthofahgnglfaeaaDoor
open Go Go.Proofs.YthofahgnglfaeaaDoor.Sx
set_option linter.unusedVariables false
set_option maxRecDepth 100000 in
theorem t_pick {n : Nat} {l : List Int} {c : Int} {xs : List Tk} {m : Nat} {ts : List Nat} {ds : List Bool} {i : Int} : callF (cfgP n l c xs) 100 23 [.ptr 4 0, .int .i64 i] (pickS n l c xs m ts ds) =
 

 (.br (decide (i < (0 : Int)))

 (.ret (.lit .i64 (90 : Int), [.ro encLook [PUnit.unit], .own [.c (.sli 2 (.c 0) 1 (.v n) (some (.v n))), .c (.int .i64 c)] 62, .own [.a (encInt IntKind.u32) n l] 23, .many encTk xs 70, .own [.c (.ptr 1 0), .c (.sli 5 (.c 0) 1 (.v m) none), .c (.sli 6 (.c 0) 1 (.v m) (some (.v m)))] 78, .vec (encT 37 3) ts 80, .own [.a encBool m ds] 4]))

 (.br (decide ((↑m : Int) ≤ i))

 (.ret (.lit .i64 (90 : Int), [.ro encLook [PUnit.unit], .own [.c (.sli 2 (.c 0) 1 (.v n) (some (.v n))), .c (.int .i64 c)] 62, .own [.a (encInt IntKind.u32) n l] 23, .many encTk xs 70, .own [.c (.ptr 1 0), .c (.sli 5 (.c 0) 1 (.v m) none), .c (.sli 6 (.c 0) 1 (.v m) (some (.v m)))] 78, .vec (encT 37 3) ts 80, .own [.a encBool m ds] 4]))

 (.need (decide ((0 : Int) ≤ i) && decide (i.toNat < m))

 (.need (decide (i.toNat < m))

 (.br (ds.getD i.toNat false)

 (.ret (.lit .i64 (91 : Int), [.ro encLook [PUnit.unit], .own [.c (.sli 2 (.c 0) 1 (.v n) (some (.v n))), .c (.int .i64 c)] 62, .own [.a (encInt IntKind.u32) n l] 23, .many encTk xs 70, .own [.c (.ptr 1 0), .c (.sli 5 (.c 0) 1 (.v m) none), .c (.sli 6 (.c 0) 1 (.v m) (some (.v m)))] 78, .vec (encT 37 3) ts 80, .own [.a encBool m ds] 4]))

 (.need (decide ((0 : Int) ≤ i) && decide (i.toNat < m))

 (.need (decide (i.toNat < ts.length))

 (.eq ([Blk.ro encLook [PUnit.unit], .own [.c (.sli 2 (.c 0) 1 (.v n) (some (.v n))), .c (.int .i64 c)] 62, .own [.a (encInt IntKind.u32) n l] 23, .many encTk xs 70] = [Blk.ro encLook [PUnit.unit], .own [.c (.sli 2 (.c 0) 1 (.v n) (some (.v n))), .c (.int .i64 c)] 62, .own [.a (encInt IntKind.u32) n l] 23, .many encTk xs 70] ∧ l.length = n ∧ ts.getD i.toNat 0 < xs.length ∧ TkOk (xs.getD (ts.getD i.toNat 0) encTk.dflt))

 (.need (decide ((0 : Int) ≤ i) && decide (i.toNat < m))

 (.need (decide (i.toNat < m))
 (.eq (T.ret (SVal.sli (6 : Nat) (NN.c (0 : Nat)) (1 : Nat) (NN.v m) (some (NN.v m))) = T.ret (SVal.sli (6 : Nat) (NN.c (0 : Nat)) (1 : Nat) (NN.v m) (some (NN.v m))))
 (.eq (T.ret (SVal.sli (6 : Nat) (NN.c (0 : Nat)) (1 : Nat) (NN.v m) (some (NN.v m))) = T.ret (SVal.sli (6 : Nat) (NN.c (0 : Nat)) (1 : Nat) (NN.v m) (some (NN.v m))))
 (.eq (T.ret (SVal.sli (5 : Nat) (NN.c (0 : Nat)) (1 : Nat) (NN.v m) none) = T.ret (SVal.sli (5 : Nat) (NN.c (0 : Nat)) (1 : Nat) (NN.v m) none))
 (.eq (T.need (decide (i.toNat < ts.length)) (T.ret ([SVal.ifc (37 : Nat) (SVal.pto (3 : Nat) (ts.getD i.toNat (0 : Nat)) (0 : Nat))].getD (0 : Nat) SVal.bad)) = T.need (decide (i.toNat < ts.length)) (T.ret ([SVal.ifc (37 : Nat) (SVal.pto (3 : Nat) (ts.getD i.toNat (0 : Nat)) (0 : Nat))].getD (0 : Nat) SVal.bad)))

 (.ret (.lit .i64 (0 : Int), [.ro encLook [PUnit.unit], .own [.c (.sli 2 (.c 0) 1 (.v n) (some (.v n))), .c (.int .i64 (usesP (xs.getD (ts.getD i.toNat 0) { at' := (0 : Int), cell := (0 : Int), times := (0 : Int), phase := 0, ticket := (0 : Int), v := (0 : Int) }) l c))] 62, .own [.a (encInt IntKind.u32) n (wordsP (xs.getD (ts.getD i.toNat 0) { at' := (0 : Int), cell := (0 : Int), times := (0 : Int), phase := 0, ticket := (0 : Int), v := (0 : Int) }) l)] 23, .many encTk (xs.set (ts.getD i.toNat 0) (tkP (xs.getD (ts.getD i.toNat 0) { at' := (0 : Int), cell := (0 : Int), times := (0 : Int), phase := 0, ticket := (0 : Int), v := (0 : Int) }) l)) 70, .own [.c (.ptr 1 0), .c (.sli 5 (.c 0) 1 (.v m) none), .c (.sli 6 (.c 0) 1 (.v m) (some (.v m)))] 78, .vec (encT 37 3) ts 80, .own [.a encBool m (ds.set i.toNat (doneP (xs.getD (ts.getD i.toNat 0) { at' := (0 : Int), cell := (0 : Int), times := (0 : Int), phase := 0, ticket := (0 : Int), v := (0 : Int) }) l))] 4])))))))))))))))) := by kernel_rfl
end Go.Proofs.YthofahgnglfaeaaDoor

/- Layer 9: what a pick comes to. -/
namespace Go.Proofs.YthofahgnglfaeaaDoor
open Go Go.Proofs.YthofahgnglfaeaaDoor.Sx
set_option linter.unusedVariables false
/-- a machine: the words, how often they were used, takers, who is done -/
structure Mc where
  l : List Int
  c : Int
  xs : List Tk
  ds : List Bool
abbrev tkAt (s : Mc) (i : Nat) : Tk := s.xs.getD i encTk.dflt
/-- a pick -/
def pickP (m : Nat) (s : Mc) (i : Int) : Mc :=
  match inP i m with
  | true => match s.ds.getD i.toNat false with
    | true => s
    | false => ⟨wordsP (tkAt s i.toNat) s.l, usesP (tkAt s i.toNat) s.l s.c, s.xs.set i.toNat (tkP (tkAt s i.toNat) s.l), s.ds.set i.toNat (doneP (tkAt s i.toNat) s.l)⟩
  | false => s
/-- what it answers -/
def errP (m : Nat) (s : Mc) (i : Int) : Int :=
  match inP i m with
  | true => match s.ds.getD i.toNat false with
    | true => 91
    | false => 0
  | false => 90
structure McOk (n m : Nat) (s : Mc) : Prop where
  l : s.l.length = n
  xs : s.xs.length = m
  ds : s.ds.length = m
  tk : ∀ i, i < m → TkOk (tkAt s i)
abbrev mcS (n m : Nat) (s : Mc) : St := pickS n s.l s.c s.xs m (List.range m) s.ds
theorem mcS_ren {n m : Nat} {s : Mc} : renSt (List.range 7) (mcS n m s) (List.range 7) = some (mcS n m s) := by kernel_rfl
theorem mcS_ro {n m : Nat} {s s' : Mc} : roSame (mcS n m s) (mcS n m s') :=
  roSame_cons (.inr rfl) (roSame_cons (.inl rfl) (roSame_cons (.inl rfl) (roSame_cons (.inl rfl) (roSame_cons (.inl rfl) (roSame_cons (.inl rfl) (roSame_cons (.inl rfl) roSame_nil))))))
theorem pick_call {n m : Nat} {s : Mc} (hs : McOk n m s) {i : Int} :
    ∀ (env : Env) (w : World) (vs : List Value), GlOk cfgM.gl env → Rep env (mcS n m s) w → DenL env [.ptr 4 0, .int .i64 i] vs → Calls cfgM.P 23 ⟨vs⟩ w (Ends1 env (mcS n m s) w (.int .i64 (errP m s i)) (mcS n m (pickP m s i))) := by
  obtain ⟨l, c, xs, ds⟩ := s
  obtain ⟨h1, h2, h3, h4⟩ := hs
  simp only at h1 h2 h3
  refine ends_allg (c := cfgP n l c xs) cfgP_ok t_pick (by kernel_rfl) rfl mcS_ren rfl ?_
  generalize hr : pickP m _ i = r
  generalize he : errP m _ i = er
  cases hb : inP i m with
  | false =>
    have hb' := (not_congr (inP_iff _ _)).1 (by rw [hb]; simp)
    simp only [pickP, hb] at hr
    simp only [errP, hb] at he
    subst hr he
    repeat' (first
      | (refine all_brp (by simp only [decide_eq_true_eq]; exact Iff.rfl) (fun _ => ?_) (fun _ => ?_) <;> try (exfalso; omega))
      | exact all_ret ⟨[], rfl, rfl⟩)
  | true =>
    have hb' := (inP_iff _ _).1 hb
    have hk : (List.range m).getD i.toNat 0 = i.toNat := getD_range (by omega)
    refine all_brp (by simp only [decide_eq_true_eq]; exact Iff.rfl) (fun _ => by exfalso; omega) (fun _ => ?_)
    refine all_brp (by simp only [decide_eq_true_eq]; exact Iff.rfl) (fun _ => by exfalso; omega) (fun _ => ?_)
    refine all_needq (by simp only [decide_eq_true_eq, Bool.and_eq_true]; exact Iff.rfl) (by omega) ?_
    refine all_needq (by simp only [decide_eq_true_eq]; exact Iff.rfl) (by omega) ?_
    refine all_br (fun hd => ?_) (fun hd => ?_)
    · simp only [pickP, hb, hd] at hr
      simp only [errP, hb, hd] at he
      subst hr he
      exact all_ret ⟨[], rfl, rfl⟩
    · simp only [pickP, hb, hd] at hr
      simp only [errP, hb, hd] at he
      subst hr he
      rw [hk]
      refine all_needq (by simp only [decide_eq_true_eq, Bool.and_eq_true]; exact Iff.rfl) (by omega) ?_
      refine all_needq (by simp only [decide_eq_true_eq, List.length_range]; exact Iff.rfl) (by omega) ?_
      refine all_eq ⟨rfl, h1, by omega, h4 _ (by omega)⟩ ?_
      refine all_needq (by simp only [decide_eq_true_eq, Bool.and_eq_true]; exact Iff.rfl) (by omega) ?_
      refine all_needq (by simp only [decide_eq_true_eq]; exact Iff.rfl) (by omega) ?_
      refine all_eq rfl (all_eq rfl (all_eq rfl (all_eq rfl (all_ret ⟨[], rfl, rfl⟩))))
noncomputable def gPick (n m : Nat) (s : Mc) (args : List SVal) (st : St) : T (SVal × St) := match args with
  | [.ptr 4 0, a] => match asI a with
    | some (.i64, i, _) => .eq (st = mcS n m s ∧ McOk n m s) (.ret (.int .i64 (errP m s i), mcS n m (pickP m s i)))
    | _ => .no 173
  | _ => .no 174
theorem gPick_ok {n m : Nat} {s : Mc} (args : List SVal) (S : St) (v : SVal) (S' : St) (h : (gPick n m s args S).at (v, S')) : PreOk cfgM 7 23 args S v S' := by
  unfold gPick at h
  split at h
  · rename_i a
    split at h
    · rename_i i la h1
      obtain ⟨⟨rfl, hs⟩, h⟩ := h
      simp only [T.at, Prod.mk.injEq] at h
      obtain ⟨rfl, rfl⟩ := h
      refine ⟨fun env w vs hg hr hd => ?_, rfl, rfl, mcS_ro, mcS_ren, by simp only [renL, asI_ren h1]; rfl⟩
      obtain ⟨u, us, rfl, h4, u2, us2, rfl, h5, rfl⟩ := hd
      exact pick_call hs env w _ hg hr ⟨_, _, rfl, h4, _, _, rfl, asI_int h1 h5, rfl⟩
    · exact h.elim
  · exact h.elim
/-- with a machine's picks, and memory -/
noncomputable def cfgQ (n m : Nat) (s : Mc) : Cfg := { P := Tryd.prog, ex := exI, gl := [(0, 0)], sm := fun f => match f with | 23 => some (smPre 7 (gPick n m s)) | 24 => some (smPre 3 gLoad) | _ => none }
theorem cfgQ_ok {n m : Nat} {s : Mc} : SmOk (cfgQ n m s) := by
  intro f g h
  simp only [cfgQ] at h
  split at h
  · simp only [Option.some.injEq] at h; subst h
    exact smPre_ok (c := cfgM) (gl_lt (by omega)) gPick_ok
  · simp only [Option.some.injEq] at h; subst h
    exact smPre_ok (c := cfgW) (gl_lt (by omega)) load_ok
  · cases h
end Go.Proofs.YthofahgnglfaeaaDoor

/- Layer 9: the making of takers: pieces and states. -/
namespace Go.Proofs.YthofahgnglfaeaaDoor
open Go Go.Proofs.YthofahgnglfaeaaDoor.Sx
set_option linter.unusedVariables false
noncomputable def smNew : List SVal → St → T (SVal × St) := smAny cfgW 100 27
theorem new_sel (fn : Func) (b : Code) (p : Code × Array Oper × Code) (h1 : Tryd.prog.funcs[27]? = some fn) (h2 : fn.body = some b) (h3 : partsAny b = some p) : Region.noSelect p.2.1 = true := by
  rw [Tryd.func27] at h1
  simp only [Option.some.injEq] at h1; subst h1
  have h4 : (Tryd.f27.body.bind partsAny).elim false (fun q => Region.noSelect q.2.1) = true := by kernel_rfl
  rw [h2] at h4
  simp only [Option.bind_some, h3] at h4
  exact h4
noncomputable def cfgT : Cfg := { P := Tryd.prog, ex := exI, gl := [(0, 0)], sm := fun f => match f with | 27 => some smNew | _ => none }
theorem cfgT_ok : SmOk cfgT := by
  intro f g h
  simp only [cfgT] at h
  split at h
  · simp only [Option.some.injEq] at h; subst h
    exact smAny_ok cfgW_ok (by kernel_rfl) new_sel
  · cases h
/-- a byte -/
structure U8 where
  v : Int
  h : 0 ≤ v ∧ v ≤ 255
def encU8 : Enc U8 := encOf 0 (fun x => [.int .u8 x.v]) ⟨0, by omega⟩ (fun _ => rfl) (by intro env env' x vs h; simpa [DenL, Den] using h)
/-- an object of a family, by its place -/
def encP (id : Nat) : Enc Nat where
  tag := .other
  shut := false
  shutOk := by simp
  sz := 1
  enc x := [.pto id x 0]
  dec l := match l with
    | [.pto i x j] => match Nat.decEq i id, Nat.decEq j 0 with
      | .isTrue _, .isTrue _ => some x
      | _, _ => none
    | _ => none
  dflt := 0
  top := some (id + 1)
  topOk := by
    intro k hk m hm x
    simp only [Option.some.injEq] at hk; subst hk
    simp [renL, ren, idx_pref hm (Nat.lt_succ_self id)]
  pos := by omega
  len _ := rfl
  ok := by
    intro env l x vs h hd
    split at h
    · split at h
      · rename_i h1 h2 _ _
        subst h1 h2
        simp only [Option.some.injEq] at h; subst h
        exact hd
      · cases h
    · cases h
/-- what comes in -/
structure In9 where
  times : List U8
  cap : Nat
  picks : List Int
  cap' : Nat
abbrev timesV (p : In9) (i : Nat) : SVal := .sli i (.c 0) 1 (.v p.times.length) (some (.v p.cap))
abbrev picksV (p : In9) (i : Nat) : SVal := .sli i (.c 0) 1 (.v p.picks.length) (some (.v p.cap'))
abbrev s0 (p : In9) : St := [lookB, .ro encU8 p.times, .ro (encInt .i64) p.picks]
noncomputable def b22 : Code := Tryd.f22.body.getD .skip
noncomputable def c22 : Code := restC 4 b22
noncomputable def reg22 : Code := lft (lft c22)
noncomputable def blk22 : Code := rgt (lft c22)
noncomputable def round22 : Code := lft (lft blk22)
noncomputable def end22 : Code := rgt c22
noncomputable def tm22 : Code := lft round22
noncomputable def rr22 : Code := rgt round22
noncomputable def bb22 : Code := lft (lft rr22)
noncomputable def inc22 : Code := rgt rr22
abbrev n22a : List Nat := [0, 1, 8, 10, 11, 12]
abbrev n22b : List Nat := [0, 1, 8, 10, 11, 12, 13]
abbrev n22c : List Nat := [0, 1, 8, 10, 11, 12, 13, 14, 15]
end Go.Proofs.YthofahgnglfaeaaDoor

/- Layer 9: the making of takers: states. -/
namespace Go.Proofs.YthofahgnglfaeaaDoor
open Go Go.Proofs.YthofahgnglfaeaaDoor.Sx
set_option linter.unusedVariables false
abbrev s22a (p : In9) (f : Int) : St := s0 p ++ [.own [.c (.sli 4 (.c 0) 1 (.c 3) (some (.c 3))), .c (.lit .i64 2)] 62, .own [.c (.int .u32 (setP 0 f)), .c (.int .u32 (setP 0 f)), .c (.lit .u32 0)] 23]
abbrev s22 (p : In9) (f : Int) (xs : List Tk) (ts : List Nat) : St := s22a p f ++ [.many encTk xs 70, .vec (encP 5) ts 37, .vec (encT 37 5) ts 80]
abbrev v22a (p : In9) (f : Int) (n : Nat) (sum : SVal) : List SVal := [timesV p 1, .int .u32 f, .ptr 3 0, .sli 6 (.c 0) 1 (.v n) none, .sli 7 (.c 0) 1 (.v n) none, sum]
abbrev v22 (p : In9) (f : Int) (ts : List Nat) (sum : Int) (i : Int) : List SVal := v22a p f ts.length (.int .u32 sum) ++ [.int .i64 i]
end Go.Proofs.YthofahgnglfaeaaDoor

namespace Go.Proofs.YthofahgnglfaeaaDoor
open Go Go.Proofs.YthofahgnglfaeaaDoor.Sx
set_option linter.unusedVariables false
set_option maxRecDepth 100000 in
theorem u_pre {p : In9} {f : Int} : (execN cfgT 100 4 b22 ([timesV p 1, .int .u32 f] ++ List.replicate 77 .bad) (s0 p)).bind (canonK 3 [(0,0)] 79 n22a) =
 

 (.need (true)

 (.need (true)

 (.need (true)
 (.eq (T.ret (SVal.int IntKind.u32 f) = T.ret (SVal.int IntKind.u32 f))
 (.eq (T.ret (SVal.int IntKind.u32 (bitop BinOp.or IntKind.u32 (0 : Int) f)) = T.ret (SVal.int IntKind.u32 (bitop BinOp.or IntKind.u32 (0 : Int) f)))

 (.need (true)

 (.need (true)

 (.need (true)
 (.eq (T.ret (SVal.int IntKind.u32 f) = T.ret (SVal.int IntKind.u32 f))
 (.eq (T.ret (SVal.int IntKind.u32 (bitop BinOp.or IntKind.u32 (0 : Int) f)) = T.ret (SVal.int IntKind.u32 (bitop BinOp.or IntKind.u32 (0 : Int) f)))

 (.ret (.normal, [.sli 1 (.c 0) 1 (.v p.1.length) (some (.v p.2)), .int .u32 f, .ptr 3 0, .sli 5 (.c 0) 1 (.c 0) (some (.c 0)), .sli 6 (.c 0) 1 (.c 0) (some (.c 0)), .lit .u32 (0 : Int)], [.ro encLook [PUnit.unit], .ro encU8 p.1, .ro (encInt IntKind.i64) p.3, .own [.c (.sli 4 (.c 0) 1 (.c 3) (some (.c 3))), .c (.lit .i64 (2 : Int))] 62, .own [.c (.int .u32 (IntKind.u32.wrap (bitop BinOp.or IntKind.u32 (0 : Int) f + (0 : Int)))), .c (.int .u32 (IntKind.u32.wrap (bitop BinOp.or IntKind.u32 (0 : Int) f + (0 : Int)))), .c (.lit .u32 (0 : Int))] 23, .own [] 37, .own [] 80])))))))))))) := by kernel_rfl
set_option maxRecDepth 100000 in
theorem u_reg {p : In9} {f : Int} : (exec cfgT 100 reg22 (fr 79 n22a (v22a p f 0 (.lit .u32 0))) (s22 p f [] [])).bind (canonK 6 [(0,0)] 79 n22b) =
 

 (.ret (.normal, [.sli 1 (.c 0) 1 (.v p.1.length) (some (.v p.2)), .int .u32 f, .ptr 3 0, .sli 6 (.c 0) 1 (.v 0) none, .sli 7 (.c 0) 1 (.v 0) none, .lit .u32 (0 : Int), .lit .i64 (0 : Int)], [.ro encLook [PUnit.unit], .ro encU8 p.1, .ro (encInt IntKind.i64) p.3, .own [.c (.sli 4 (.c 0) 1 (.c 3) (some (.c 3))), .c (.lit .i64 (2 : Int))] 62, .own [.c (.int .u32 (setP (0 : Int) f)), .c (.int .u32 (setP (0 : Int) f)), .c (.lit .u32 (0 : Int))] 23, .many encTk [] 70, .vec (encP 5) [] 37, .vec (encT 37 5) [] 80])) := by kernel_rfl
set_option maxRecDepth 100000 in
theorem u_tm {p : In9} {f : Int} {xs : List Tk} {ts : List Nat} {sum : Int} {i : Nat} : (exec cfgT 100 tm22 (fr 79 n22b (v22 p f ts sum (i : Nat))) (s22 p f xs ts)).bind (canonK 6 [(0,0)] 79 n22b) =
 

 (.br (decide ((↑i : Int) < (↑p.1.length : Int)))

 (.br (decide ((↑i : Int) < (6 : Int)))

 (.ret (.normal, [.sli 1 (.c 0) 1 (.v p.1.length) (some (.v p.2)), .int .u32 f, .ptr 3 0, .sli 6 (.c 0) 1 (.v ts.length) none, .sli 7 (.c 0) 1 (.v ts.length) none, .int .u32 sum, .int .i64 (↑i : Int)], [.ro encLook [PUnit.unit], .ro encU8 p.1, .ro (encInt IntKind.i64) p.3, .own [.c (.sli 4 (.c 0) 1 (.c 3) (some (.c 3))), .c (.lit .i64 (2 : Int))] 62, .own [.c (.int .u32 (setP (0 : Int) f)), .c (.int .u32 (setP (0 : Int) f)), .c (.lit .u32 (0 : Int))] 23, .many encTk xs 70, .vec (encP 5) ts 37, .vec (encT 37 5) ts 80]))

 (.ret (.exit 0, [.sli 1 (.c 0) 1 (.v p.1.length) (some (.v p.2)), .int .u32 f, .ptr 3 0, .sli 6 (.c 0) 1 (.v ts.length) none, .sli 7 (.c 0) 1 (.v ts.length) none, .int .u32 sum, .int .i64 (↑i : Int)], [.ro encLook [PUnit.unit], .ro encU8 p.1, .ro (encInt IntKind.i64) p.3, .own [.c (.sli 4 (.c 0) 1 (.c 3) (some (.c 3))), .c (.lit .i64 (2 : Int))] 62, .own [.c (.int .u32 (setP (0 : Int) f)), .c (.int .u32 (setP (0 : Int) f)), .c (.lit .u32 (0 : Int))] 23, .many encTk xs 70, .vec (encP 5) ts 37, .vec (encT 37 5) ts 80])))

 (.ret (.exit 0, [.sli 1 (.c 0) 1 (.v p.1.length) (some (.v p.2)), .int .u32 f, .ptr 3 0, .sli 6 (.c 0) 1 (.v ts.length) none, .sli 7 (.c 0) 1 (.v ts.length) none, .int .u32 sum, .int .i64 (↑i : Int)], [.ro encLook [PUnit.unit], .ro encU8 p.1, .ro (encInt IntKind.i64) p.3, .own [.c (.sli 4 (.c 0) 1 (.c 3) (some (.c 3))), .c (.lit .i64 (2 : Int))] 62, .own [.c (.int .u32 (setP (0 : Int) f)), .c (.int .u32 (setP (0 : Int) f)), .c (.lit .u32 (0 : Int))] 23, .many encTk xs 70, .vec (encP 5) ts 37, .vec (encT 37 5) ts 80]))) := by kernel_rfl
set_option maxRecDepth 100000 in
theorem u_mk {p : In9} {f : Int} {xs : List Tk} {ts : List Nat} {sum : Int} {i : Nat} : (execN cfgT 100 2 bb22 (fr 79 n22b (v22 p f ts sum (i : Nat))) (s22 p f xs ts)).bind (canonK 6 [(0,0)] 79 n22c) =
 

 (.need (decide ((0 : Int) ≤ (↑i : Int)) && decide ((↑i : Int).toNat < p.1.length))

 (.need (decide ((↑i : Int).toNat < p.1.length))

 (.need (inR .i64 (p.1.getD (↑i : Int).toNat { v := (0 : Int), h := encU8._proof_2 }).v)

 (.need (true)

 (.ret (.normal, [.sli 1 (.c 0) 1 (.v p.1.length) (some (.v p.2)), .int .u32 f, .ptr 3 0, .sli 6 (.c 0) 1 (.v ts.length) none, .sli 7 (.c 0) 1 (.v ts.length) none, .int .u32 sum, .int .i64 (↑i : Int), .int .i64 ((p.1.getD (↑i : Int).toNat { v := (0 : Int), h := encU8._proof_2 }).v.tmod (8 : Int)), .ptr 8 0], [.ro encLook [PUnit.unit], .ro encU8 p.1, .ro (encInt IntKind.i64) p.3, .own [.c (.sli 4 (.c 0) 1 (.c 3) (some (.c 3))), .c (.lit .i64 (2 : Int))] 62, .own [.c (.int .u32 (setP (0 : Int) f)), .c (.int .u32 (setP (0 : Int) f)), .c (.lit .u32 (0 : Int))] 23, .many encTk xs 70, .vec (encP 5) ts 37, .vec (encT 37 5) ts 80, .own [.c (.lit .i64 (0 : Int)), .c (.lit .i64 (2 : Int)), .c (.int .i64 (imax ((p.1.getD (↑i : Int).toNat { v := (0 : Int), h := encU8._proof_2 }).v.tmod (8 : Int)) (0 : Int))), .c (.lit .i64 (0 : Int)), .c (.lit .u32 (0 : Int)), .c (.lit .u32 (0 : Int))] 70])))))) := by kernel_rfl
set_option maxRecDepth 100000 in
theorem u_app {p : In9} {f : Int} {xs : List Tk} {ts : List Nat} {sum : Int} {i : Nat} {n : Int} : (exec cfgT 100 (restC 2 bb22) (fr 79 n22c (v22 p f ts sum (i : Nat) ++ [.int .i64 n, .pto 5 i 0])) (s22 p f xs ts ++ [.gone])).bind (canonK 6 [(0,0)] 79 n22b) =
 

 (.need (true)

 (.need (decide (ts.length = ts.length))

 (.need (roomy (ts.length + 1) 8)

 (.need (true)

 (.need (decide (ts.length = ts.length))

 (.need (roomy (ts.length + 1) 16)

 (.ret (.normal, [.sli 1 (.c 0) 1 (.v p.1.length) (some (.v p.2)), .int .u32 f, .ptr 3 0, .sli 6 (.c 0) 1 (.v (ts.length + 1)) none, .sli 7 (.c 0) 1 (.v (ts.length + 1)) none, .int .u32 (IntKind.u32.wrap (sum + IntKind.u32.wrap n)), .int .i64 (↑i : Int)], [.ro encLook [PUnit.unit], .ro encU8 p.1, .ro (encInt IntKind.i64) p.3, .own [.c (.sli 4 (.c 0) 1 (.c 3) (some (.c 3))), .c (.lit .i64 (2 : Int))] 62, .own [.c (.int .u32 (setP (0 : Int) f)), .c (.int .u32 (setP (0 : Int) f)), .c (.lit .u32 (0 : Int))] 23, .many encTk xs 70, .vec (encP 5) (ts ++ [i]) 37, .vec (encT 37 5) (ts ++ [i]) 80])))))))) := by kernel_rfl
set_option maxRecDepth 100000 in
theorem u_inc {p : In9} {f : Int} {xs : List Tk} {ts : List Nat} {sum : Int} {i : Nat} : (exec cfgT 100 inc22 (fr 79 n22b (v22 p f ts sum (i : Nat))) (s22 p f xs ts)).bind (canonK 6 [(0,0)] 79 n22b) =
 

 (.need (inR .i64 ((↑i : Int) + (1 : Int)))

 (.ret (.normal, [.sli 1 (.c 0) 1 (.v p.1.length) (some (.v p.2)), .int .u32 f, .ptr 3 0, .sli 6 (.c 0) 1 (.v ts.length) none, .sli 7 (.c 0) 1 (.v ts.length) none, .int .u32 sum, .int .i64 ((↑i : Int) + (1 : Int))], [.ro encLook [PUnit.unit], .ro encU8 p.1, .ro (encInt IntKind.i64) p.3, .own [.c (.sli 4 (.c 0) 1 (.c 3) (some (.c 3))), .c (.lit .i64 (2 : Int))] 62, .own [.c (.int .u32 (setP (0 : Int) f)), .c (.int .u32 (setP (0 : Int) f)), .c (.lit .u32 (0 : Int))] 23, .many encTk xs 70, .vec (encP 5) ts 37, .vec (encT 37 5) ts 80]))) := by kernel_rfl
set_option maxRecDepth 100000 in
theorem u_end {p : In9} {f : Int} {xs : List Tk} {ts : List Nat} {sum : Int} {i : Nat} : (exec cfgT 100 end22 (fr 79 n22b (v22 p f ts sum (i : Nat))) (s22 p f xs ts)).bind (canonK 6 [(0,0)] 79 [4, 5, 6, 7]) =
 

 (.eq (anyP cfgW 100 27 [.ptr 3 0, .sli 7 (.c 0) 1 (.v ts.length) none] [.ro encLook [PUnit.unit], .ro encU8 p.1, .ro (encInt IntKind.i64) p.3, .own [.c (.sli 4 (.c 0) 1 (.c 3) (some (.c 3))), .c (.lit .i64 (2 : Int))] 62, .own [.c (.int .u32 (setP (0 : Int) f)), .c (.int .u32 (setP (0 : Int) f)), .c (.lit .u32 (0 : Int))] 23, .many encTk xs 70, .vec (encP 5) ts 37, .vec (encT 37 5) ts 80])

 (.need (decide (0 + ts.length ≤ ts.length))

 (.need (decide (0 + ts.length ≤ ts.length))

 (.need (roomy (List.take ts.length (List.drop 0 ts)).length 16)

 (.need (decide ((0 : Int) ≤ (↑ts.length : Int)))

 (.need (decide ((↑ts.length : Int) * (1 : Int) ≤ (140737488355328 : Int)))

 (.need (decide ((↑ts.length : Int) ≤ (4611686018427387904 : Int)))

 (.ret (.ret, [.ptr 3 0, .ptr 6 0, .sli 9 (.c 0) 1 (.v ts.length) none, .int .u32 sum], [.ro encLook [PUnit.unit], .ro encU8 p.1, .ro (encInt IntKind.i64) p.3, .own [.c (.sli 4 (.c 0) 1 (.c 3) (some (.c 3))), .c (.lit .i64 (2 : Int))] 62, .own [.c (.int .u32 (setP (0 : Int) f)), .c (.int .u32 (setP (0 : Int) f)), .c (.lit .u32 (0 : Int))] 23, .many encTk xs 70, .own [.c (.ptr 3 0), .c (.sli 7 (.c 0) 1 (.v (List.take ts.length (List.drop 0 ts)).length) none), .c (.sli 8 (.c 0) 1 (.v (↑ts.length : Int).toNat) (some (.v (↑ts.length : Int).toNat)))] 78, .vec (encT 37 5) (List.take ts.length (List.drop 0 ts)) 80, .own [.a encBool (↑ts.length : Int).toNat (List.replicate (↑ts.length : Int).toNat false)] 4, .vec (encP 5) ts 37]))))))))) := by kernel_rfl
end Go.Proofs.YthofahgnglfaeaaDoor

/- Layer 9: what the making of takers comes to. -/
namespace Go.Proofs.YthofahgnglfaeaaDoor
open Go Go.Proofs.YthofahgnglfaeaaDoor.Sx
set_option linter.unusedVariables false
def mkTk (u : U8) : Tk := ⟨0, 2, u.v.tmod 8, 0, 0, 0⟩
/-- the takers -/
def madeP (p : In9) : List Tk := (p.times.take 6).map mkTk
def sumOf (xs : List Tk) : Int := (xs.map (·.times)).sum
abbrev toS (p : In9) (f : Int) (xs : List Tk) (m : Nat) : St := s22a p f ++ [.many encTk xs 70, .own [.c (.ptr 3 0), .c (.sli 7 (.c 0) 1 (.v m) none), .c (.sli 8 (.c 0) 1 (.v m) (some (.v m)))] 78, .vec (encT 37 5) (List.range m) 80, .own [.a encBool m (List.replicate m false)] 4, .vec (encP 5) (List.range m) 37]
abbrev toV (m : Nat) (sum : Int) : SVal := .tup [.ptr 3 0, .ptr 6 0, .sli 9 (.c 0) 1 (.v m) none, .int .u32 sum]
theorem tmod8 (u : U8) : 0 ≤ u.v.tmod 8 ∧ u.v.tmod 8 ≤ 7 := by
  have := u.h
  rw [Int.tmod_eq_emod_of_nonneg this.1]; omega
theorem imax0 {x : Int} (h : 0 ≤ x) : imax x 0 = x := by unfold imax; split <;> omega
set_option maxRecDepth 100000 in
theorem new_s (p : In9) (f : Int) (xs : List Tk) (ts : List Nat) (hn : ts.length ≤ 8) : anyP cfgW 100 27 [.ptr 3 0, .sli 7 (.c 0) 1 (.v ts.length) none] (s22 p f xs ts) := by
  let A : List Bool := [decide (0 + ts.length ≤ ts.length), decide (0 + ts.length ≤ ts.length), roomy (List.take ts.length (List.drop 0 ts)).length 16]
  let M : List Bool := [decide (0 ≤ (ts.length : Int)), decide ((ts.length : Int) * 1 ≤ 140737488355328), decide ((ts.length : Int) ≤ 4611686018427387904)]
  have h0 : (anyTP cfgW 100 27 [.ptr 3 0, .sli 7 (.c 0) 1 (.v ts.length) none] (s22 p f xs ts)).lineB = some (A ++ M ++ A ++ M ++ A ++ M ++ M ++ A ++ A ++ M ++ M ++ A ++ M ++ A) := by kernel_rfl
  have h1 : (anyTP cfgW 100 27 [.ptr 3 0, .sli 7 (.c 0) 1 (.v ts.length) none] (s22 p f xs ts)).lineP = some True := by kernel_rfl
  have hA : ∀ b ∈ A, b = true := by
    intro b hb
    simp only [A, List.mem_cons, List.not_mem_nil, or_false] at hb
    rcases hb with rfl | rfl | rfl
    · simp
    · simp
    · rw [roomy_iff]; simp; omega
  have hM : ∀ b ∈ M, b = true := by
    intro b hb
    simp only [M, List.mem_cons, List.not_mem_nil, or_false] at hb
    rcases hb with rfl | rfl | rfl <;> simp <;> omega
  refine anyP_line h0 h1 (fun b hb => ?_) trivial (by kernel_rfl)
  simp only [List.mem_append] at hb
  rcases hb with ((((((((((((hb | hb) | hb) | hb) | hb) | hb) | hb) | hb) | hb) | hb) | hb) | hb) | hb) | hb <;> first | exact hA b hb | exact hM b hb
abbrev Q22 (env0 : Env) (p : In9) (w0 : World) (xs : List Tk) (f : Int) : Exit → Act → World → Prop := bodyPost Tryd.prog Tryd.f22 (Ends1 env0 (s0 p) w0 (toV xs.length (sumOf xs)) (toS p f xs xs.length))
structure Ix22 where
  i : Nat
def xsAt (p : In9) (i : Nat) : List Tk := (p.times.take i).map mkTk
def Inv22 (env0 : Env) (w0 : World) (p : In9) (f : Int) (i : Nat) (a : Act) (w : World) : Prop :=
  i ≤ 6 ∧ i ≤ p.times.length ∧ ∃ env, AtK env0 [(0, 0)] ⟨w0, inFoot env0 (s0 p)⟩ env (fr 79 n22b (v22 p f (List.range i) (sumOf (xsAt p i)) (i : Nat))) (s22 p f (xsAt p i) (List.range i)) a w
abbrev R22 (env0 : Env) (w0 : World) (p : In9) (f : Int) (i : Nat) : Exit → Act → World → Prop :=
  Exit.then (fun a' w' => ∃ k, Inv22 env0 w0 p f k a' w' ∧ 6 - k < 6 - i) (Exit.inBlock 0 (Exit.then (end22.wp Tryd.prog (Q22 env0 p w0 (madeP p) f)) (Q22 env0 p w0 (madeP p) f)))
theorem xsAt_len {p : In9} {i : Nat} (h : i ≤ p.times.length) : (xsAt p i).length = i := by simp [xsAt]; omega
theorem end22_ok {env0 : Env} {w0 : World} (hb0 : env0.length = 3) {p : In9} {f : Int} {xs : List Tk} (hx : xs.length ≤ 6) {i : Nat} {env : Env} {a : Act} {w : World}
    (hA : AtK env0 [(0, 0)] ⟨w0, inFoot env0 (s0 p)⟩ env (fr 79 n22b (v22 p f (List.range xs.length) (sumOf xs) (i : Nat))) (s22 p f xs (List.range xs.length)) a w) : end22.wp Tryd.prog (Q22 env0 p w0 xs f) a w := by
  refine pieceTK2 (c := cfgT) cfgT_ok [4, 5, 6, 7] u_end (by omega) (by simp) hA ?_
  have hl : (List.range xs.length).length = xs.length := by simp
  have ht : List.take xs.length (List.range xs.length) = List.range xs.length := List.take_of_length_le (by simp)
  refine all_eq (new_s p f xs _ (by simpa using (by omega : xs.length ≤ 8))) ?_
  simp only [List.drop_zero, hl, ht, Int.toNat_natCast]
  repeat' (first
    | refine all_needq (by simp only [decide_eq_true_eq, roomy_iff, List.length_range]; exact Iff.rfl) (by omega) ?_
    | refine all_ret (fun _ _ _ hA' => ?_))
  exact hA'.out (c := cfgT) (by kernel_rfl)
theorem w32_small {x : Int} (h : 0 ≤ x) (h' : x < 4294967296) : IntKind.u32.wrap x = x := wrap_inR (by rw [inR_u32]; omega)
theorem sumOf_le {p : In9} : ∀ {i : Nat}, 0 ≤ sumOf (xsAt p i) ∧ sumOf (xsAt p i) ≤ 7 * i := by
  intro i
  have h : ∀ l : List U8, 0 ≤ ((l.map mkTk).map (·.times)).sum ∧ ((l.map mkTk).map (·.times)).sum ≤ 7 * l.length := by
    intro l
    induction l with
    | nil => simp
    | cons u l ih =>
      have := tmod8 u
      simp only [List.map_cons, List.sum_cons, mkTk, List.length_cons] at ih ⊢
      push_cast
      omega
  have := h (p.times.take i)
  have hl : (p.times.take i).length ≤ i := by simp; omega
  unfold sumOf xsAt
  constructor
  · exact this.1
  · have := this.2; omega
theorem inc22_ok {env0 : Env} {w0 : World} (hb0 : env0.length = 3) {p : In9} {f : Int} {i : Nat} (hi : i < 6) (hi' : i < p.times.length) {env : Env} {a : Act} {w : World}
    (hA : AtK env0 [(0, 0)] ⟨w0, inFoot env0 (s0 p)⟩ env (fr 79 n22b (v22 p f (List.range (i + 1)) (sumOf (xsAt p (i + 1))) (i : Nat))) (s22 p f (xsAt p (i + 1)) (List.range (i + 1))) a w) : inc22.wp Tryd.prog (R22 env0 w0 p f i) a w := by
  refine pieceTK2 (c := cfgT) cfgT_ok n22b u_inc (by omega) (by simp) hA ?_
  refine all_needp (by simp only [inR_i64]; exact Iff.rfl) (by omega) fun _ => all_ret fun env' a' w' hA' => ?_
  exact ⟨i + 1, ⟨by omega, by omega, env', hA'⟩, by omega⟩
end Go.Proofs.YthofahgnglfaeaaDoor

/- Layer 9: the call that makes takers. -/
namespace Go.Proofs.YthofahgnglfaeaaDoor
open Go Go.Proofs.YthofahgnglfaeaaDoor.Sx
set_option linter.unusedVariables false
theorem b22_eq : Tryd.f22.body = some b22 := by kernel_rfl
theorem xsAt_succ {p : In9} {i : Nat} (h : i < p.times.length) : xsAt p (i + 1) = xsAt p i ++ [mkTk (p.times.getD i encU8.dflt)] := by
  unfold xsAt
  rw [List.take_add_one, List.map_append]
  simp [List.getD_eq_getElem?_getD, h]
theorem sumOf_succ {p : In9} {i : Nat} (h : i < p.times.length) : sumOf (xsAt p (i + 1)) = sumOf (xsAt p i) + (p.times.getD i encU8.dflt).v.tmod 8 := by
  rw [xsAt_succ h, sumOf, List.map_append, List.sum_append]
  simp [sumOf, mkTk]
set_option maxHeartbeats 2000000 in
theorem round22_ok {env0 : Env} {w0 : World} (hb0 : env0.length = 3) {p : In9} {f : Int} {i : Nat} (h6 : i ≤ 6) (hl : i ≤ p.times.length) {env : Env} {a : Act} {w : World}
    (hA : AtK env0 [(0, 0)] ⟨w0, inFoot env0 (s0 p)⟩ env (fr 79 n22b (v22 p f (List.range i) (sumOf (xsAt p i)) (i : Nat))) (s22 p f (xsAt p i) (List.range i)) a w) : round22.wp Tryd.prog (R22 env0 w0 p f i) a w := by
  have hxl := xsAt_len hl
  have out : (i = 6 ∨ i = p.times.length) → ∀ {env' : Env} {a' : Act} {w' : World}, AtK env0 [(0, 0)] ⟨w0, inFoot env0 (s0 p)⟩ env' (fr 79 n22b (v22 p f (List.range i) (sumOf (xsAt p i)) (i : Nat))) (s22 p f (xsAt p i) (List.range i)) a' w' → R22 env0 w0 p f i (.exit 0) a' w' := by
    intro hi env' a' w' h
    simp only [R22, Exit.then, Exit.inBlock, if_true]
    have hm : madeP p = xsAt p i := by
      unfold madeP xsAt
      rcases hi with rfl | rfl
      · rfl
      · rw [List.take_of_length_le h6, List.take_of_length_le (Nat.le_refl _)]
    rw [hm]
    have h' : AtK env0 [(0, 0)] ⟨w0, inFoot env0 (s0 p)⟩ env' (fr 79 n22b (v22 p f (List.range (xsAt p i).length) (sumOf (xsAt p i)) (i : Nat))) (s22 p f (xsAt p i) (List.range (xsAt p i).length)) a' w' := by rw [hxl]; exact h
    exact end22_ok hb0 (by omega) h'
  refine wpS (by kernel_rfl) ?_
  refine pieceTK2 (c := cfgT) cfgT_ok n22b u_tm (by omega) (by simp) hA ?_
  refine all_brp (by simp only [decide_eq_true_eq]; exact Iff.rfl) (fun h1 => ?_) (fun h1 => all_ret fun _ _ _ h => out (by omega) h)
  refine all_brp (by simp only [decide_eq_true_eq]; exact Iff.rfl) (fun h2 => all_ret fun env1 a1 w1 hA1 => ?_) (fun h2 => all_ret fun _ _ _ h => out (by omega) h)
  have hi6 : i < 6 := by omega
  have hil : i < p.times.length := by omega
  refine (show rr22.wp Tryd.prog (R22 env0 w0 p f i) a1 w1 from wpS (by kernel_rfl) (wpB 1 (by kernel_rfl) ?_))
  refine (show bb22.wp Tryd.prog (Exit.inBlock 1 (Exit.then (inc22.wp Tryd.prog (R22 env0 w0 p f i)) (R22 env0 w0 p f i))) a1 w1 from ?_)
  refine pieceNTK2 (c := cfgT) cfgT_ok 2 n22c u_mk (by omega) (by simp) hA1 ?_
  have hs := sumOf_succ hil
  have hx := xsAt_succ hil
  simp only [Int.toNat_natCast]
  rw [show encU8.dflt = (⟨0, by omega⟩ : U8) from rfl] at hs hx
  have hu := tmod8 (p.times.getD i ⟨0, by omega⟩)
  have hur := (p.times.getD i ⟨0, by omega⟩).h
  generalize p.times.getD i ⟨0, by omega⟩ = u at *
  refine all_needq (by simp only [decide_eq_true_eq, Bool.and_eq_true]; exact Iff.rfl) (by omega) ?_
  refine all_needq (by simp only [decide_eq_true_eq]; exact Iff.rfl) (by omega) ?_
  refine all_needq (by simp only [inR_i64]; exact Iff.rfl) (by omega) ?_
  refine all_need rfl fun _ => all_ret fun env2 a2 w2 hA2 => ?_
  rw [imax0 hu.1] at hA2
  dsimp only at hA2
  simp only [Ex.to, Exit.then]
  obtain ⟨env3, hA3⟩ := hA2.join 5 8 (by omega) (by omega) (E := encTk) (xs := xsAt p i) rfl rfl (mkTk u) (fun env cs h => by
      simpa [segCells, Seg.cells, encTk, encOf, mkTk, DenL, Den] using h) (v22 p f (List.range i) (sumOf (xsAt p i)) (i : Nat) ++ [SVal.int .i64 (u.v.tmod 8), SVal.pto 5 i 0]) (fun env' hj hm => ⟨hm _, hm _, hm _, hm _, hm _, hm _, hm _, hm _, fun v h => by
      have := hj v 0 h
      rwa [hxl] at this, trivial⟩)
  refine pieceTK2 (c := cfgT) cfgT_ok n22b (u_app (xs := xsAt p i ++ [mkTk u]) (ts := List.range i)) (by omega) (by simp) hA3 ?_
  have hlr : (List.range i).length = i := by simp
  rw [hlr]
  refine all_need rfl fun _ => ?_
  refine all_need (decide_eq_true rfl) fun _ => ?_
  refine all_needq (by simp only [roomy_iff]; exact Iff.rfl) (by omega) ?_
  refine all_need rfl fun _ => ?_
  refine all_need (decide_eq_true rfl) fun _ => ?_
  refine all_needq (by simp only [roomy_iff]; exact Iff.rfl) (by omega) ?_
  refine all_ret fun env4 a4 w4 hA4 => ?_
  simp only [Ex.to, Exit.inBlock, Exit.then]
  have hle := sumOf_le (p := p) (i := i)
  rw [w32_small (x := u.v.tmod 8) (by omega) (by omega), w32_small (by omega) (by omega), ← hs, ← hx, ← List.range_succ] at hA4
  have hlr' : (List.range (i + 1)).length = i + 1 := by simp
  refine inc22_ok hb0 hi6 hil (env := env4) ?_
  rw [v22, hlr']
  exact hA4
theorem takers_call {p : In9} {f : Int} : ∀ (env : Env) (w : World) (vs : List Value), GlOk cfgM.gl env → Rep env (s0 p) w → DenL env [timesV p 1, .int .u32 f] vs →
    Calls cfgM.P 22 ⟨vs⟩ w (Ends1 env (s0 p) w (toV (madeP p).length (sumOf (madeP p))) (toS p f (madeP p) (madeP p).length)) := by
  intro env w vs hg hr hd
  have hb0 : env.length = 3 := hr.len
  refine AtK.begin (c := cfgT) Tryd.func22 b22_eq hg hr hd fun a hA => ?_
  refine pieceNTK2 (c := cfgT) cfgT_ok 4 n22a (u_pre (p := p) (f := f)) (by omega) (by simp) hA ?_
  repeat' (first | refine all_need rfl (fun _ => ?_) | refine all_eq rfl ?_)
  refine all_ret fun env1 a1 w1 hA1 => ?_
  simp only [Ex.to, Exit.then]
  obtain ⟨env2, hA2⟩ := hA1.void 5 (encInt .i64) rfl
  obtain ⟨env3, hA3⟩ := hA2.void 6 (encInt .i64) rfl
  have hA4 := hA3.many0 encTk 70
  have hA5 := hA4.perm [0, 1, 2, 3, 4, 9, 7, 8] (by kernel_rfl) (by kernel_rfl) (st' := s22a p f ++ [.many encTk [] 70, .vec (encInt .i64) [] 37, .vec (encInt .i64) [] 80]) (vals' := v22a p f 0 (.lit .u32 0)) rfl rfl (by rw [hb0]; rfl)
  have hA6 := hA5.on fun h => h.typede 6 (E' := encP 5) (ys := []) rfl rfl rfl (fun cs h => h)
  have hA7 := hA6.on fun h => h.typede 7 (E' := encT 37 5) (ys := []) rfl rfl rfl (fun cs h => h)
  refine wpS (by kernel_rfl) (wpS (by kernel_rfl) ?_)
  refine pieceTK2 (c := cfgT) cfgT_ok n22b (u_reg (p := p) (f := f)) (by omega) (by simp) hA7 ?_
  refine all_ret fun env8 a8 w8 hA8 => ?_
  simp only [Ex.to, Exit.then]
  have hA9 := hA8.vals (v22 p f (List.range 0) (sumOf (xsAt p 0)) ((0 : Nat) : Int)) ⟨fun _ h => h, fun _ h => h, fun _ h => h, fun _ h => h, fun _ h => h, fun _ h => by simpa [Den, sumOf, xsAt] using h, fun _ h => by simpa [Den] using h, trivial⟩
  refine wpB 0 (by kernel_rfl) (wpL (by kernel_rfl) (Inv22 env w p f) (fun i => 6 - i) 0 ⟨by simp, by simp, env8, hA9⟩ ?_)
  rintro i a w ⟨h1, h2, env, hA⟩
  exact round22_ok hb0 h1 h2 hA
end Go.Proofs.YthofahgnglfaeaaDoor

namespace Go.Proofs.YthofahgnglfaeaaDoor
open Go Go.Proofs.YthofahgnglfaeaaDoor.Sx
set_option linter.unusedVariables false
def nA0 : List SVal := [SVal.ptr (2 : Nat) (0 : Nat), SVal.sli (5 : Nat) (NN.c (0 : Nat)) (1 : Nat) (NN.c (2 : Nat)) (some (NN.c (2 : Nat)))]
def nS0 : St := [Blk.ro encLook [PUnit.unit], Blk.own [Seg.c (SVal.lit IntKind.u32 (0 : Int)), Seg.c (SVal.lit IntKind.u32 (0 : Int)), Seg.c (SVal.lit IntKind.u32 (0 : Int))] (23 : Nat), Blk.own [Seg.c (SVal.sli (1 : Nat) (NN.c (0 : Nat)) (1 : Nat) (NN.c (3 : Nat)) (some (NN.c (3 : Nat)))), Seg.c (SVal.lit IntKind.i64 (0 : Int))] (62 : Nat), Blk.own [Seg.c (SVal.lit IntKind.i64 (0 : Int)), Seg.c (SVal.lit IntKind.i64 (2 : Int)), Seg.c (SVal.lit IntKind.i64 (1 : Int)), Seg.c (SVal.lit IntKind.i64 (0 : Int)), Seg.c (SVal.lit IntKind.u32 (0 : Int)), Seg.c (SVal.lit IntKind.u32 (0 : Int))] (70 : Nat), Blk.own [Seg.c (SVal.lit IntKind.i64 (0 : Int)), Seg.c (SVal.lit IntKind.i64 (2 : Int)), Seg.c (SVal.lit IntKind.i64 (1 : Int)), Seg.c (SVal.lit IntKind.i64 (0 : Int)), Seg.c (SVal.lit IntKind.u32 (0 : Int)), Seg.c (SVal.lit IntKind.u32 (0 : Int))] (70 : Nat), Blk.own [Seg.c (SVal.ifc (37 : Nat) (SVal.ptr (3 : Nat) (0 : Nat))), Seg.c (SVal.ifc (37 : Nat) (SVal.ptr (4 : Nat) (0 : Nat)))] (80 : Nat)]
abbrev nE0 : T SVal := T.need true (T.ret ((List.take (1 : Nat) ([[SVal.ifc (37 : Nat) (SVal.ptr (3 : Nat) (0 : Nat))], [SVal.ifc (37 : Nat) (SVal.ptr (4 : Nat) (0 : Nat))]].getD (0 : Nat) []) ++ List.replicate (0 : Nat) SVal.bad).getD (0 : Nat) SVal.bad))
abbrev nE1 : T SVal := T.need true (T.ret ((List.take (1 : Nat) ([[SVal.ifc (37 : Nat) (SVal.ptr (3 : Nat) (0 : Nat))], [SVal.ifc (37 : Nat) (SVal.ptr (4 : Nat) (0 : Nat))]].getD (1 : Nat) []) ++ List.replicate (0 : Nat) SVal.bad).getD (0 : Nat) SVal.bad))
set_option maxRecDepth 100000 in
theorem awake_val : (callF cfgT 100 10 [] [lookB]).valE = some (anyP cfgW (100 : Nat) (27 : Nat) nA0 nS0 ∧ nE0 = nE0 ∧ nE1 = nE1 ∧ nE1 = nE1 ∧ nE0 = nE0 ∧ nE0 = nE0 ∧ nE0 = nE0 ∧ nE0 = nE0 ∧ nE1 = nE1 ∧ True, .bl true) := by kernel_rfl
set_option maxRecDepth 100000 in
theorem awake_props (h0 : anyP cfgW (100 : Nat) (27 : Nat) nA0 nS0) : anyP cfgW (100 : Nat) (27 : Nat) nA0 nS0 ∧ nE0 = nE0 ∧ nE1 = nE1 ∧ nE1 = nE1 ∧ nE0 = nE0 ∧ nE0 = nE0 ∧ nE0 = nE0 ∧ nE0 = nE0 ∧ nE1 = nE1 ∧ True := ⟨h0, rfl, rfl, rfl, rfl, rfl, rfl, rfl, rfl, trivial⟩
set_option maxRecDepth 100000 in
theorem new0 : anyP cfgW 100 27 nA0 nS0 := by
  have h1 : (anyTP cfgW 100 27 nA0 nS0).asks = some True := by kernel_rfl
  exact anyP_closed h1 trivial (by kernel_rfl)
end Go.Proofs.YthofahgnglfaeaaDoor

/- TicketOrder: pieces and states. -/
namespace Go.Proofs.YthofahgnglfaeaaDoor
open Go Go.Proofs.YthofahgnglfaeaaDoor.Sx
set_option linter.unusedVariables false
/-- ahead of the loops -/
noncomputable def cfgL (p : In9) (f : Int) : Cfg := { P := Tryd.prog, ex := exI, gl := [(0, 0)], sm := fun g => match g with
  | 22 => some (smEq [timesV p 1, .int .u32 f] (s0 p) True (toV (madeP p).length (sumOf (madeP p))) (toS p f (madeP p) (madeP p).length))
  | 10 => some (smClosed [0] [lookB] (.bl true))
  | _ => none }
theorem cfgL_ok {p : In9} {f : Int} : SmOk (cfgL p f) := by
  intro g h e
  simp only [cfgL] at e
  split at e
  · simp only [Option.some.injEq] at e; subst e
    exact smEq_ok (c := cfgL p f) fun _ => takers_call
  · simp only [Option.some.injEq] at e; subst e
    exact smClosedE_ok cfgT_ok awake_val (awake_props new0) (by kernel_rfl) rfl rfl (by intro b hb e; rw [List.mem_singleton.1 hb]; rfl)
  · cases e
noncomputable def b4 : Code := Tryd.f4.body.getD .skip
noncomputable def c4 : Code := restC 5 b4
noncomputable def reg4 : Code := lft (lft c4)
noncomputable def blk4 : Code := rgt (lft c4)
noncomputable def end4 : Code := rgt c4
noncomputable def round4 : Code := lft (lft blk4)
noncomputable def tm4 : Code := lft round4
noncomputable def bb4 : Code := lft (lft (rgt round4))
noncomputable def inc4 : Code := rgt (rgt round4)
noncomputable def blk4k : Code := restC 2 bb4
noncomputable def round4k : Code := lft (lft blk4k)
abbrev n4a : List Nat := [2, 7, 8, 9, 11, 12]
abbrev n4b : List Nat := [2, 7, 8, 9, 11, 12, 13]
abbrev n4c : List Nat := [2, 7, 8, 9, 11, 12, 13, 14]
abbrev v4 (p : In9) (m : Nat) (turn : Int) : List SVal := [picksV p 8, .ptr 1 0, .ptr 4 0, .sli 7 (.c 0) 1 (.v m) none, .int .u32 turn, .ptr 9 0]
abbrev s4 (p : In9) (m : Nat) (s : Mc) (hs : List Bool) : St := mcS 3 m s ++ [.vec (encP 3) (List.range m) 37, .ro (encInt .i64) p.picks, .own [.a encBool 6 hs] 54]
end Go.Proofs.YthofahgnglfaeaaDoor

/- Layer 9, plain: takers of one lock stand in a queue. -/
namespace Go.Proofs.YthofahgnglfaeaaDoor
open Go Go.Proofs.YthofahgnglfaeaaDoor.Sx
set_option linter.unusedVariables false
theorem w32_mod (x : Int) : IntKind.u32.wrap x = x % 4294967296 := by
  simp [IntKind.wrap, IntKind.signed, IntKind.bits]
theorem low_u32 (x : Int) : ((low .u32 x : Nat) : Int) = x % 4294967296 := by
  have : 0 ≤ x % 4294967296 := by omega
  simp only [low, IntKind.bits]
  omega
theorem low_lt (x : Int) : low .u32 x < 4294967296 := by
  have := low_u32 x
  omega
theorem and_mask (x : Int) : bitop .and .u32 x 4294967295 = x % 4294967296 := by
  have h1 : low .u32 4294967295 = 2 ^ 32 - 1 := by decide
  have h2 := low_lt x
  simp only [bitop, h1, Nat.and_two_pow_sub_one_eq_mod, w32_mod]
  rw [Nat.mod_eq_of_lt (by omega), low_u32]
  omega
theorem and_zero (x : Int) : bitop .and .u32 x 0 = 0 := by
  have h1 : low .u32 0 = 0 := by decide
  simp only [bitop, h1, Nat.and_zero, w32_mod]
  rfl
theorem or_zero (x : Int) : bitop .or .u32 x 0 = x % 4294967296 := by
  have h1 : low .u32 0 = 0 := by decide
  simp only [bitop, h1, Nat.or_zero, w32_mod, low_u32]
  omega
theorem zero_or (x : Int) : bitop .or .u32 0 x = x % 4294967296 := by
  have h1 : low .u32 0 = 0 := by decide
  simp only [bitop, h1, Nat.zero_or, w32_mod, low_u32]
  omega
theorem incP_ok (x : Int) : incP x = (x + 1) % 4294967296 := by
  simp only [incP, and_mask, or_zero, w32_mod]; omega
theorem setP_ok (x v : Int) : setP x v = v % 4294967296 := by
  simp only [setP, and_zero, zero_or, w32_mod]; omega
/-! ## a taker of the lock at 0, of the cell 2 -/
structure Plain (t : Tk) : Prop where
  at' : t.at' = 0
  cell : t.cell = 2
  phase : t.phase ≤ 4
  times : 0 ≤ t.times ∧ t.times ≤ 7
  none : t.times = 0 → t.phase = 0
theorem Plain.ok {t : Tk} (h : Plain t) : TkOk t := ⟨by rw [h.at']; omega, by have := h.times; omega, h.phase⟩
theorem step_none {t : Tk} {l : List Int} (h : t.times = 0) : stepP t l = (t, l, true) := by
  simp [stepP, h]
theorem step_0 {t : Tk} (ht : Plain t) {N S C : Int} (h : t.times ≠ 0) (hp : t.phase = 0) : stepP t [N, S, C] = ({t with ticket := N, phase := 1}, [(N + 1) % 4294967296, S, C], false) := by
  obtain ⟨a, c, tm, ph, tk, v⟩ := t
  obtain ⟨h1, h2, h3, h4, h5⟩ := ht
  simp only at h1 h2 h3 h4 h5 hp h
  subst h1 h2 hp
  have : ¬ tm < 1 := by omega
  simp [stepP, this, inP, incP_ok]
theorem step_1 {t : Tk} (ht : Plain t) {N S C : Int} (h : t.times ≠ 0) (hp : t.phase = 1) : stepP t [N, S, C] = (if S = t.ticket then {t with phase := 2} else t, [N, S, C], false) := by
  obtain ⟨a, c, tm, ph, tk, v⟩ := t
  obtain ⟨h1, h2, h3, h4, h5⟩ := ht
  simp only at h1 h2 h3 h4 h5 hp h
  subst h1 h2 hp
  have : ¬ tm < 1 := by omega
  by_cases hs : S = tk
  · simp [stepP, this, inP, hs]
  · have e : (S == tk) = false := beq_eq_false_iff_ne.2 hs
    simp [stepP, this, inP, hs, e]
theorem step_2 {t : Tk} (ht : Plain t) {N S C : Int} (h : t.times ≠ 0) (hp : t.phase = 2) : stepP t [N, S, C] = ({t with v := C, phase := 3}, [N, S, C], false) := by
  obtain ⟨a, c, tm, ph, tk, v⟩ := t
  obtain ⟨h1, h2, h3, h4, h5⟩ := ht
  simp only at h1 h2 h3 h4 h5 hp h
  subst h1 h2 hp
  have : ¬ tm < 1 := by omega
  simp [stepP, this, inP]
theorem step_3 {t : Tk} (ht : Plain t) {N S C : Int} (h : t.times ≠ 0) (hp : t.phase = 3) : stepP t [N, S, C] = ({t with phase := 4}, [N, S, (t.v + 1) % 4294967296], false) := by
  obtain ⟨a, c, tm, ph, tk, v⟩ := t
  obtain ⟨h1, h2, h3, h4, h5⟩ := ht
  simp only at h1 h2 h3 h4 h5 hp h
  subst h1 h2 hp
  have : ¬ tm < 1 := by omega
  simp [stepP, this, inP, setP_ok, w32_mod]
theorem step_4 {t : Tk} (ht : Plain t) {N S C : Int} (h : t.times ≠ 0) (hp : t.phase = 4) : stepP t [N, S, C] = ({t with phase := 0, times := t.times - 1}, [N, (t.ticket + 1) % 4294967296, C], t.times - 1 == 0) := by
  obtain ⟨a, c, tm, ph, tk, v⟩ := t
  obtain ⟨h1, h2, h3, h4, h5⟩ := ht
  simp only at h1 h2 h3 h4 h5 hp h
  subst h1 h2 hp
  have : ¬ tm < 1 := by omega
  simp [stepP, this, inP, setP_ok, w32_mod]
end Go.Proofs.YthofahgnglfaeaaDoor

/- Layer 9, plain: the queue. -/
namespace Go.Proofs.YthofahgnglfaeaaDoor
open Go Go.Proofs.YthofahgnglfaeaaDoor.Sx
set_option linter.unusedVariables false
def any4 (xs : List Tk) : Int := if xs.any (fun t => t.phase == 4) then 1 else 0
/-- who waits and who holds stand in a queue, in the order of their tickets; who holds stands first -/
structure Inv (m : Nat) (sum : Int) (q : List Nat) (N S C : Int) (s : Mc) : Prop where
  l : s.l = [N, S, C]
  xs : s.xs.length = m
  ds : s.ds.length = m
  m6 : m ≤ 6
  rS : 0 ≤ S ∧ S < 4294967296
  rN : N = (S + q.length) % 4294967296
  nd : q.Nodup
  mem : ∀ i, i ∈ q ↔ i < m ∧ 1 ≤ (tkAt s i).phase
  tick : ∀ (j i : Nat), q[j]? = some i → (tkAt s i).ticket = (S + j) % 4294967296
  tail : ∀ (j i : Nat), q[j]? = some i → 1 ≤ j → (tkAt s i).phase = 1
  plain : ∀ i, i < m → Plain (tkAt s i)
  done : ∀ i, i < m → s.ds.getD i false = true → (tkAt s i).times = 0
  cell : C + sumOf s.xs = sum + any4 s.xs
  rC : 0 ≤ C
  sum : sum ≤ 42
  val : ∀ i, i < m → (tkAt s i).phase = 3 → (tkAt s i).v = C
theorem Inv.ok {m : Nat} {sum : Int} {q : List Nat} {N S C : Int} {s : Mc} (h : Inv m sum q N S C s) : McOk 3 m s :=
  ⟨by rw [h.l]; rfl, h.xs, h.ds, fun i hi => (h.plain i hi).ok⟩
/-- at most as many wait as there are -/
theorem nodup_len : ∀ {m : Nat} {q : List Nat}, q.Nodup → (∀ i ∈ q, i < m) → q.length ≤ m
  | 0, q, _, h => by
    cases q with
    | nil => simp
    | cons a r => have := h a List.mem_cons_self; omega
  | m + 1, q, hq, h => by
    have h1 := nodup_len (m := m) (q := q.erase m) (hq.erase m) fun i hi => by
      rw [hq.mem_erase_iff] at hi
      have := h i hi.2
      omega
    have h2 := List.length_erase (a := m) (l := q)
    split at h2 <;> omega
theorem Inv.qlen {m : Nat} {sum : Int} {q : List Nat} {N S C : Int} {s : Mc} (h : Inv m sum q N S C s) : q.length ≤ 6 :=
  Nat.le_trans (nodup_len h.nd fun i hi => ((h.mem i).1 hi).1) h.m6
/-- who holds stands first -/
theorem Inv.first {m : Nat} {sum : Int} {q : List Nat} {N S C : Int} {s : Mc} (h : Inv m sum q N S C s) {i : Nat} (hi : i < m) (hp : 2 ≤ (tkAt s i).phase) : ∃ r, q = i :: r := by
  have hm := (h.mem i).2 ⟨hi, by omega⟩
  obtain ⟨j, hj, hji⟩ := List.mem_iff_getElem.1 hm
  have hj' : q[j]? = some i := by rw [List.getElem?_eq_getElem hj, hji]
  rcases Nat.eq_zero_or_pos j with rfl | hpos
  · cases q with
    | nil => simp at hj
    | cons a r => simp at hj'; exact ⟨r, by rw [hj']⟩
  · have := h.tail j i hj' hpos; omega
theorem tkAt_set {s : Mc} {l : List Int} {c : Int} {ds : List Bool} {i : Nat} (hi : i < s.xs.length) (t : Tk) (j : Nat) : tkAt ⟨l, c, s.xs.set i t, ds⟩ j = if j = i then t else tkAt s j := by
  by_cases h : j = i
  · subst h; simp only [tkAt, if_true]; exact Sx.getD_set_self hi _ _
  · simp only [tkAt, h, if_false]; exact Sx.getD_set_ne (fun e => h e.symm) _ _
theorem sumOf_set : ∀ {xs : List Tk} {i : Nat} (hi : i < xs.length) (t : Tk), sumOf (xs.set i t) + (xs.getD i encTk.dflt).times = sumOf xs + t.times
  | [], i, h, t => by simp at h
  | x :: xs, 0, h, t => by simp [sumOf]; omega
  | x :: xs, i + 1, h, t => by
    have := sumOf_set (xs := xs) (i := i) (by simpa using h) t
    simp [sumOf] at this ⊢; omega
theorem any4_pos {xs : List Tk} {i : Nat} (hi : i < xs.length) (h : (xs.getD i encTk.dflt).phase = 4) : any4 xs = 1 := by
  have : xs.any (fun t => t.phase == 4) = true := by
    rw [List.any_eq_true]
    refine ⟨xs.getD i encTk.dflt, ?_, by rw [h]; rfl⟩
    simp [List.getD_eq_getElem?_getD, hi]
  simp [any4, this]
theorem any4_none {xs : List Tk} (h : ∀ i, i < xs.length → (xs.getD i encTk.dflt).phase ≠ 4) : any4 xs = 0 := by
  have : xs.any (fun t => t.phase == 4) = false := by
    rw [List.any_eq_false]
    intro t ht
    obtain ⟨i, hi, rfl⟩ := List.mem_iff_getElem.1 ht
    have := h i hi
    simp [List.getD_eq_getElem?_getD, hi] at this
    simpa using this
  simp [any4, this]
theorem any4_01 (xs : List Tk) : any4 xs = 0 ∨ any4 xs = 1 := by unfold any4; split <;> simp
theorem sumOf_nn : ∀ {xs : List Tk}, (∀ i, i < xs.length → 0 ≤ (xs.getD i encTk.dflt).times) → 0 ≤ sumOf xs
  | [], _ => by simp [sumOf]
  | x :: xs, h => by
    have h1 := h 0 (by simp)
    have h2 := sumOf_nn (xs := xs) fun i hi => by simpa using h (i + 1) (by simpa using hi)
    simp [sumOf] at h1 h2 ⊢; omega
/-- what a pick did -/
inductive Did (m : Nat) (s s' : Mc) (i : Nat) : List Nat → Int → Int → Int → List Nat → Int → Int → Int → Prop where
  | none (q : List Nat) (N S C : Int) (h : (tkAt s i).times = 0) (hl : s'.l = s.l) (hx : ∀ j, tkAt s' j = tkAt s j) (hd : s'.ds = s.ds.set i true) : Did m s s' i q N S C q N S C
  | draw (q : List Nat) (N S C : Int) (h : (tkAt s i).times ≠ 0) (hp : (tkAt s i).phase = 0) (hx : ∀ j, tkAt s' j = if j = i then {tkAt s i with ticket := N, phase := 1} else tkAt s j) (hd : s'.ds = s.ds.set i false) : Did m s s' i q N S C (q ++ [i]) ((N + 1) % 4294967296) S C
  | wait (q : List Nat) (N S C : Int) (h : (tkAt s i).times ≠ 0) (hp : (tkAt s i).phase = 1) (ht : q.head? ≠ some i) (hx : ∀ j, tkAt s' j = tkAt s j) (hd : s'.ds = s.ds.set i false) : Did m s s' i q N S C q N S C
  | got (q : List Nat) (N S C : Int) (h : (tkAt s i).times ≠ 0) (hp : (tkAt s i).phase = 1) (ht : q.head? = some i) (hx : ∀ j, tkAt s' j = if j = i then {tkAt s i with phase := 2} else tkAt s j) (hd : s'.ds = s.ds.set i false) : Did m s s' i q N S C q N S C
  | load (q : List Nat) (N S C : Int) (h : (tkAt s i).times ≠ 0) (hp : (tkAt s i).phase = 2) (ht : q.head? = some i) (hx : ∀ j, tkAt s' j = if j = i then {tkAt s i with v := C, phase := 3} else tkAt s j) (hd : s'.ds = s.ds.set i false) : Did m s s' i q N S C q N S C
  | store (q : List Nat) (N S C : Int) (h : (tkAt s i).times ≠ 0) (hp : (tkAt s i).phase = 3) (ht : q.head? = some i) (hx : ∀ j, tkAt s' j = if j = i then {tkAt s i with phase := 4} else tkAt s j) (hd : s'.ds = s.ds.set i false) : Did m s s' i q N S C q N S (C + 1)
  | leave (q : List Nat) (N S C : Int) (h : (tkAt s i).times ≠ 0) (hp : (tkAt s i).phase = 4) (hx : ∀ j, tkAt s' j = if j = i then {tkAt s i with phase := 0, times := (tkAt s i).times - 1} else tkAt s j) (hd : s'.ds = s.ds.set i ((tkAt s i).times - 1 == 0)) : Did m s s' i (i :: q) N S C q N ((S + 1) % 4294967296) C
end Go.Proofs.YthofahgnglfaeaaDoor

/- Layer 9, plain: a pick keeps the queue. -/
namespace Go.Proofs.YthofahgnglfaeaaDoor
open Go Go.Proofs.YthofahgnglfaeaaDoor.Sx
set_option linter.unusedVariables false
theorem any4_congr {xs ys : List Tk} (hl : xs.length = ys.length) (h : ∀ j, j < xs.length → ((xs.getD j encTk.dflt).phase = 4 ↔ (ys.getD j encTk.dflt).phase = 4)) : any4 xs = any4 ys := by
  by_cases hx : ∃ j, j < xs.length ∧ (xs.getD j encTk.dflt).phase = 4
  · obtain ⟨j, h1, h2⟩ := hx
    rw [any4_pos h1 h2, any4_pos (by omega) ((h j h1).1 h2)]
  · have : ∀ j, j < xs.length → (xs.getD j encTk.dflt).phase ≠ 4 := fun j h1 h2 => hx ⟨j, h1, h2⟩
    rw [any4_none this, any4_none fun j h1 h2 => this j (by omega) ((h j (by omega)).2 h2)]
theorem Inv.no4 {m : Nat} {sum : Int} {q : List Nat} {N S C : Int} {s : Mc} (h : Inv m sum q N S C s) {i : Nat} (hi : i < m) (hp : 2 ≤ (tkAt s i).phase) (hn : (tkAt s i).phase ≠ 4) : any4 s.xs = 0 := by
  refine any4_none fun j hj h4 => ?_
  obtain ⟨r, e1⟩ := h.first hi hp
  obtain ⟨r', e2⟩ := h.first (i := j) (by rw [← h.xs]; exact hj) (by show 2 ≤ (s.xs.getD j encTk.dflt).phase; omega)
  rw [e1] at e2
  obtain ⟨rfl, rfl⟩ := List.cons.inj e2
  exact hn h4
theorem Inv.other {m : Nat} {sum : Int} {q : List Nat} {N S C : Int} {s : Mc} (h : Inv m sum q N S C s) {i : Nat} (hi : i < m) (hp : 2 ≤ (tkAt s i).phase) {j : Nat} (hj : j < m) (hji : j ≠ i) : (tkAt s j).phase ≤ 1 := by
  rcases Nat.lt_or_ge (tkAt s j).phase 2 with h1 | h1
  · omega
  · obtain ⟨r, e1⟩ := h.first hi hp
    obtain ⟨r', e2⟩ := h.first hj h1
    rw [e1] at e2
    exact (hji (List.cons.inj e2).1.symm).elim
theorem Inv.cle {m : Nat} {sum : Int} {q : List Nat} {N S C : Int} {s : Mc} (h : Inv m sum q N S C s) : C ≤ 43 := by
  have h1 := h.cell
  have h2 := sumOf_nn (xs := s.xs) fun i hi => (h.plain i (by rw [← h.xs]; exact hi)).times.1
  have h3 := any4_01 s.xs
  have h4 := h.sum
  omega
theorem getD_ds {ds : List Bool} {i j : Nat} {b : Bool} (h : (ds.set i b).getD j false = true) : (j = i ∧ b = true) ∨ (j ≠ i ∧ ds.getD j false = true) := by
  by_cases hji : j = i
  · subst hji
    rcases Nat.lt_or_ge j ds.length with hl | hl
    · rw [Sx.getD_set_self hl] at h; exact .inl ⟨rfl, h⟩
    · rw [List.getD_eq_getElem?_getD, List.getElem?_eq_none (by simpa using hl)] at h; simp at h
  · rw [Sx.getD_set_ne (fun e => hji e.symm)] at h; exact .inr ⟨hji, h⟩
set_option maxHeartbeats 1000000 in
theorem Inv.pick {m : Nat} {sum : Int} {q : List Nat} {N S C : Int} {s : Mc} (h : Inv m sum q N S C s) {i : Nat} (hi : i < m) (hd : s.ds.getD i false = false) :
    ∃ q' N' S' C', Inv m sum q' N' S' C' (pickP m s (i : Nat)) ∧ Did m s (pickP m s (i : Nat)) i q N S C q' N' S' C' := by
  have hin : inP (i : Int) m = true := by rw [inP_iff]; omega
  have hit : ((i : Nat) : Int).toNat = i := by simp
  have hxl : i < s.xs.length := by rw [h.xs]; exact hi
  have hdl : i < s.ds.length := by rw [h.ds]; exact hi
  have hpl := h.plain i hi
  have e0 : pickP m s (i : Nat) = ⟨(stepP (tkAt s i) [N, S, C]).2.1, usesP (tkAt s i) [N, S, C] s.c, s.xs.set i (stepP (tkAt s i) [N, S, C]).1, s.ds.set i (stepP (tkAt s i) [N, S, C]).2.2⟩ := by
    simp only [pickP, hin, hit, hd, wordsP, tkP, doneP, h.l]
  have hq6 := h.qlen
  have hrN := h.rN
  have hrS := h.rS
  have hC := h.cle
  have hcell := h.cell
  by_cases ht : (tkAt s i).times = 0
  · rw [step_none ht] at e0
    refine ⟨q, N, S, C, ?_, .none q N S C ht (by rw [e0, h.l]) (fun j => by rw [e0, tkAt_set hxl]; split <;> simp_all) (by rw [e0])⟩
    rw [e0]
    have hx : ∀ {l c ds} (j : Nat), tkAt ⟨l, c, s.xs.set i (tkAt s i), ds⟩ j = tkAt s j := fun j => by rw [tkAt_set hxl]; split <;> simp_all
    have hset : s.xs.set i (tkAt s i) = s.xs := by
      apply List.ext_getElem?
      intro j
      rw [List.getElem?_set]
      split
      · rename_i e; subst e; simp [hxl]
      · rfl
    refine ⟨rfl, by simp [h.xs], by simp [h.ds], h.m6, h.rS, h.rN, h.nd, fun j => by rw [hx]; exact h.mem j, fun j k hk => by rw [hx]; exact h.tick j k hk, fun j k hk => by rw [hx]; exact h.tail j k hk, fun j hj => by rw [hx]; exact h.plain j hj, fun j hj hj' => ?_, by rw [hset]; exact h.cell, h.rC, h.sum, fun j hj => by rw [hx]; exact h.val j hj⟩
    rw [hx]
    rcases getD_ds hj' with ⟨rfl, _⟩ | ⟨_, h1⟩
    · exact ht
    · exact h.done j hj h1
  have hph := hpl.phase
  have hsum := fun t => sumOf_set (xs := s.xs) hxl t
  obtain hp | hp | hp | hp | hp : (tkAt s i).phase = 0 ∨ (tkAt s i).phase = 1 ∨ (tkAt s i).phase = 2 ∨ (tkAt s i).phase = 3 ∨ (tkAt s i).phase = 4 := by omega
  · -- draws
    rw [step_0 hpl ht hp] at e0
    have hx : ∀ {l c ds} (j : Nat), tkAt ⟨l, c, s.xs.set i {tkAt s i with ticket := N, phase := 1}, ds⟩ j = if j = i then {tkAt s i with ticket := N, phase := 1} else tkAt s j := fun j => tkAt_set hxl _ j
    have hnq : i ∉ q := fun hm => by have := (h.mem i).1 hm; omega
    refine ⟨q ++ [i], (N + 1) % 4294967296, S, C, ?_, .draw q N S C ht hp (fun j => by rw [e0]; exact hx j) (by rw [e0])⟩
    rw [e0]
    have inq : ∀ {j k : Nat}, (q ++ [i])[j]? = some k → (q[j]? = some k ∧ k ≠ i) ∨ (j = q.length ∧ k = i) := by
      intro j k hk
      rcases Nat.lt_or_ge j q.length with hj | hj
      · rw [List.getElem?_append_left hj] at hk
        exact .inl ⟨hk, fun e => hnq (e ▸ List.mem_of_getElem? hk)⟩
      · rw [List.getElem?_append_right hj] at hk
        have : j = q.length := by
          match hh : j - q.length, hk with
          | 0, _ => omega
          | n + 1, hk => simp at hk
        subst this
        simp at hk
        exact .inr ⟨rfl, hk.symm⟩
    refine ⟨rfl, by simp [h.xs], by simp [h.ds], h.m6, h.rS, ?_, ?_, fun j => ?_, fun j k hk => ?_, fun j k hk hj => ?_, fun j hj => ?_, fun j hj hj' => ?_, ?_, h.rC, h.sum, fun j hj => ?_⟩
    · simp only [List.length_append, List.length_cons, List.length_nil]; push_cast; omega
    · rw [List.nodup_append]
      exact ⟨h.nd, by simp, fun a ha b hb => by simp at hb; subst hb; intro e; subst e; exact hnq ha⟩
    · rw [hx, List.mem_append, h.mem j]
      by_cases hji : j = i
      · subst hji; simp [hi]
      · simp [hji]
    · rw [hx]
      rcases inq hk with ⟨h1, h2⟩ | ⟨rfl, rfl⟩
      · rw [if_neg h2]; exact h.tick j k h1
      · simp only [if_true]; omega
    · rw [hx]
      rcases inq hk with ⟨h1, h2⟩ | ⟨rfl, rfl⟩
      · rw [if_neg h2]; exact h.tail j k h1 hj
      · simp
    · rw [hx]
      split
      · exact ⟨hpl.at', hpl.cell, by simp, hpl.times, fun e => (ht e).elim⟩
      · exact h.plain j hj
    · rw [hx]
      rcases getD_ds hj' with ⟨_, h1⟩ | ⟨h2, h1⟩
      · cases h1
      · rw [if_neg h2]; exact h.done j hj h1
    · have h1 := hsum {tkAt s i with ticket := N, phase := 1}
      have h2 : any4 (s.xs.set i {tkAt s i with ticket := N, phase := 1}) = any4 s.xs := by
        refine any4_congr (by simp) fun j hj => ?_
        by_cases hji : j = i
        · subst hji; rw [Sx.getD_set_self hxl]; simp; exact fun e => by have : (tkAt s j).phase = 4 := e; omega
        · rw [Sx.getD_set_ne (fun e => hji e.symm)]
      rw [h2]
      simp only at h1 ⊢
      have : (s.xs.getD i encTk.dflt).times = (tkAt s i).times := rfl
      omega
    · rw [hx]
      split
      · intro e; simp at e
      · exact h.val j hj
  · -- looks
    rw [step_1 hpl ht hp] at e0
    have hm := (h.mem i).2 ⟨hi, by omega⟩
    obtain ⟨j0, hj0, hji0⟩ := List.mem_iff_getElem.1 hm
    have hj0' : q[j0]? = some i := by rw [List.getElem?_eq_getElem hj0, hji0]
    have htk := h.tick j0 i hj0'
    by_cases hS : S = (tkAt s i).ticket
    · have hz : j0 = 0 := by omega
      subst hz
      rw [if_pos hS] at e0
      have hx : ∀ {l c ds} (j : Nat), tkAt ⟨l, c, s.xs.set i {tkAt s i with phase := 2}, ds⟩ j = if j = i then {tkAt s i with phase := 2} else tkAt s j := fun j => tkAt_set hxl _ j
      have hhead : q.head? = some i := by rw [List.head?_eq_getElem?]; exact hj0'
      refine ⟨q, N, S, C, ?_, .got q N S C ht hp hhead (fun j => by rw [e0]; exact hx j) (by rw [e0])⟩
      rw [e0]
      have ne : ∀ {j k : Nat}, q[j]? = some k → 1 ≤ j → k ≠ i := by
        intro j k hk hj e
        subst e
        have := nodup_same h.nd hk hj0'
        omega
      refine ⟨rfl, by simp [h.xs], by simp [h.ds], h.m6, h.rS, h.rN, h.nd, fun j => ?_, fun j k hk => ?_, fun j k hk hj => ?_, fun j hj => ?_, fun j hj hj' => ?_, ?_, h.rC, h.sum, fun j hj => ?_⟩
      · rw [hx, h.mem j]
        by_cases hji : j = i
        · subst hji; simp only [if_true]; constructor <;> (rintro ⟨a, b⟩; exact ⟨a, by omega⟩)
        · simp [hji]
      · rw [hx]
        have := h.tick j k hk
        split
        · rename_i e; subst e; exact this
        · exact this
      · rw [hx, if_neg (ne hk hj)]; exact h.tail j k hk hj
      · rw [hx]
        split
        · exact ⟨hpl.at', hpl.cell, by simp, hpl.times, fun e => (ht e).elim⟩
        · exact h.plain j hj
      · rw [hx]
        rcases getD_ds hj' with ⟨_, h1⟩ | ⟨h2, h1⟩
        · cases h1
        · rw [if_neg h2]; exact h.done j hj h1
      · have h1 := hsum {tkAt s i with phase := 2}
        have h2 : any4 (s.xs.set i {tkAt s i with phase := 2}) = any4 s.xs := by
          refine any4_congr (by simp) fun j hj => ?_
          by_cases hji : j = i
          · subst hji; rw [Sx.getD_set_self hxl]; simp; exact fun e => by have : (tkAt s j).phase = 4 := e; omega
          · rw [Sx.getD_set_ne (fun e => hji e.symm)]
        rw [h2]
        simp only at h1 ⊢
        have : (s.xs.getD i encTk.dflt).times = (tkAt s i).times := rfl
        omega
      · rw [hx]
        split
        · intro e; simp at e
        · exact h.val j hj
    · rw [if_neg hS] at e0
      have hx : ∀ {l c ds} (j : Nat), tkAt ⟨l, c, s.xs.set i (tkAt s i), ds⟩ j = tkAt s j := fun j => by rw [tkAt_set hxl]; split <;> simp_all
      have hset : s.xs.set i (tkAt s i) = s.xs := by
        apply List.ext_getElem?
        intro j
        rw [List.getElem?_set]
        split
        · rename_i e; subst e; simp [hxl]
        · rfl
      have hhead : q.head? ≠ some i := by
        intro e
        cases q with
        | nil => simp at e
        | cons a r =>
          simp at e; subst e
          have := h.tick 0 a (by simp)
          omega
      refine ⟨q, N, S, C, ?_, .wait q N S C ht hp hhead (fun j => by rw [e0]; exact hx j) (by rw [e0])⟩
      rw [e0]
      refine ⟨rfl, by simp [h.xs], by simp [h.ds], h.m6, h.rS, h.rN, h.nd, fun j => by rw [hx]; exact h.mem j, fun j k hk => by rw [hx]; exact h.tick j k hk, fun j k hk => by rw [hx]; exact h.tail j k hk, fun j hj => by rw [hx]; exact h.plain j hj, fun j hj hj' => ?_, by rw [hset]; exact h.cell, h.rC, h.sum, fun j hj => by rw [hx]; exact h.val j hj⟩
      rw [hx]
      rcases getD_ds hj' with ⟨_, h1⟩ | ⟨_, h1⟩
      · cases h1
      · exact h.done j hj h1
  · -- loads
    rw [step_2 hpl ht hp] at e0
    obtain ⟨r, rfl⟩ := h.first hi (by omega)
    have hx : ∀ {l c ds} (j : Nat), tkAt ⟨l, c, s.xs.set i {tkAt s i with v := C, phase := 3}, ds⟩ j = if j = i then {tkAt s i with v := C, phase := 3} else tkAt s j := fun j => tkAt_set hxl _ j
    refine ⟨i :: r, N, S, C, ?_, .load (i :: r) N S C ht hp rfl (fun j => by rw [e0]; exact hx j) (by rw [e0])⟩
    rw [e0]
    have ne : ∀ {j k : Nat}, (i :: r)[j]? = some k → 1 ≤ j → k ≠ i := by
      intro j k hk hj e
      subst e
      have := nodup_same h.nd hk (show (k :: r)[0]? = some k from rfl)
      omega
    refine ⟨rfl, by simp [h.xs], by simp [h.ds], h.m6, h.rS, h.rN, h.nd, fun j => ?_, fun j k hk => ?_, fun j k hk hj => ?_, fun j hj => ?_, fun j hj hj' => ?_, ?_, h.rC, h.sum, fun j hj => ?_⟩
    · rw [hx, h.mem j]
      by_cases hji : j = i
      · subst hji; simp only [if_true]; constructor <;> (rintro ⟨a, b⟩; exact ⟨a, by omega⟩)
      · simp [hji]
    · rw [hx]
      have := h.tick j k hk
      split
      · rename_i e; subst e; exact this
      · exact this
    · rw [hx, if_neg (ne hk hj)]; exact h.tail j k hk hj
    · rw [hx]
      split
      · exact ⟨hpl.at', hpl.cell, by simp, hpl.times, fun e => (ht e).elim⟩
      · exact h.plain j hj
    · rw [hx]
      rcases getD_ds hj' with ⟨_, h1⟩ | ⟨h2, h1⟩
      · cases h1
      · rw [if_neg h2]; exact h.done j hj h1
    · have h1 := hsum {tkAt s i with v := C, phase := 3}
      have h2 : any4 (s.xs.set i {tkAt s i with v := C, phase := 3}) = any4 s.xs := by
        refine any4_congr (by simp) fun j hj => ?_
        by_cases hji : j = i
        · subst hji; rw [Sx.getD_set_self hxl]; simp; exact fun e => by have : (tkAt s j).phase = 4 := e; omega
        · rw [Sx.getD_set_ne (fun e => hji e.symm)]
      rw [h2]
      simp only at h1 ⊢
      have : (s.xs.getD i encTk.dflt).times = (tkAt s i).times := rfl
      omega
    · rw [hx]
      split
      · intro _; rfl
      · exact h.val j hj
  · -- stores
    rw [step_3 hpl ht hp] at e0
    obtain ⟨r, rfl⟩ := h.first hi (by omega)
    have hC1 : ((tkAt s i).v + 1) % 4294967296 = C + 1 := by rw [h.val i hi hp]; have := h.rC; omega
    rw [hC1] at e0
    have hx : ∀ {l c ds} (j : Nat), tkAt ⟨l, c, s.xs.set i {tkAt s i with phase := 4}, ds⟩ j = if j = i then {tkAt s i with phase := 4} else tkAt s j := fun j => tkAt_set hxl _ j
    refine ⟨i :: r, N, S, C + 1, ?_, .store (i :: r) N S C ht hp rfl (fun j => by rw [e0]; exact hx j) (by rw [e0])⟩
    rw [e0]
    have ne : ∀ {j k : Nat}, (i :: r)[j]? = some k → 1 ≤ j → k ≠ i := by
      intro j k hk hj e
      subst e
      have := nodup_same h.nd hk (show (k :: r)[0]? = some k from rfl)
      omega
    refine ⟨rfl, by simp [h.xs], by simp [h.ds], h.m6, h.rS, h.rN, h.nd, fun j => ?_, fun j k hk => ?_, fun j k hk hj => ?_, fun j hj => ?_, fun j hj hj' => ?_, ?_, by have := h.rC; omega, h.sum, fun j hj => ?_⟩
    · rw [hx, h.mem j]
      by_cases hji : j = i
      · subst hji; simp only [if_true]; constructor <;> (rintro ⟨a, b⟩; exact ⟨a, by omega⟩)
      · simp [hji]
    · rw [hx]
      have := h.tick j k hk
      split
      · rename_i e; subst e; exact this
      · exact this
    · rw [hx, if_neg (ne hk hj)]; exact h.tail j k hk hj
    · rw [hx]
      split
      · exact ⟨hpl.at', hpl.cell, by simp, hpl.times, fun e => (ht e).elim⟩
      · exact h.plain j hj
    · rw [hx]
      rcases getD_ds hj' with ⟨_, h1⟩ | ⟨h2, h1⟩
      · cases h1
      · rw [if_neg h2]; exact h.done j hj h1
    · have h1 := hsum {tkAt s i with phase := 4}
      have h2 : any4 (s.xs.set i {tkAt s i with phase := 4}) = 1 := any4_pos (i := i) (by simpa using hxl) (by rw [Sx.getD_set_self hxl])
      have h3 := h.no4 hi (by omega) (by omega)
      rw [h2]
      simp only at h1 ⊢
      have : (s.xs.getD i encTk.dflt).times = (tkAt s i).times := rfl
      omega
    · rw [hx]
      split
      · intro e; simp at e
      · rename_i hne
        intro e
        have := h.other hi (by omega) hj hne
        omega
  · -- leaves
    obtain ⟨r, rfl⟩ := h.first hi (by omega)
    have htk := h.tick 0 i (by simp)
    have hT : ((tkAt s i).ticket + 1) % 4294967296 = (S + 1) % 4294967296 := by omega
    rw [step_4 hpl ht hp, hT] at e0
    have hx : ∀ {l c ds} (j : Nat), tkAt ⟨l, c, s.xs.set i {tkAt s i with phase := 0, times := (tkAt s i).times - 1}, ds⟩ j = if j = i then {tkAt s i with phase := 0, times := (tkAt s i).times - 1} else tkAt s j := fun j => tkAt_set hxl _ j
    refine ⟨r, N, (S + 1) % 4294967296, C, ?_, .leave r N S C ht hp (fun j => by rw [e0]; exact hx j) (by rw [e0])⟩
    rw [e0]
    have hnr : i ∉ r := (List.nodup_cons.1 h.nd).1
    have hne : ∀ {j k : Nat}, r[j]? = some k → k ≠ i := fun hk e => hnr (e ▸ List.mem_of_getElem? hk)
    simp only [List.length_cons] at hrN hq6
    refine ⟨rfl, by simp [h.xs], by simp [h.ds], h.m6, by omega, by push_cast at hrN; omega, (List.nodup_cons.1 h.nd).2, fun j => ?_, fun j k hk => ?_, fun j k hk hj => ?_, fun j hj => ?_, fun j hj hj' => ?_, ?_, h.rC, h.sum, fun j hj => ?_⟩
    · rw [hx]
      have := h.mem j
      rw [List.mem_cons] at this
      by_cases hji : j = i
      · subst hji; simp [hnr]
      · simp only [hji, false_or] at this
        simp only [hji, if_false]; exact this
    · rw [hx, if_neg (hne hk)]
      have := h.tick (j + 1) k (by simpa using hk)
      push_cast at this
      omega
    · rw [hx, if_neg (hne hk)]
      exact h.tail (j + 1) k (by simpa using hk) (by omega)
    · rw [hx]
      split
      · have := hpl.times
        exact ⟨hpl.at', hpl.cell, by simp, by simp only; omega, fun _ => rfl⟩
      · exact h.plain j hj
    · rw [hx]
      rcases getD_ds hj' with ⟨rfl, h1⟩ | ⟨h2, h1⟩
      · simp only [if_true]; simpa using h1
      · rw [if_neg h2]; exact h.done j hj h1
    · have h1 := hsum {tkAt s i with phase := 0, times := (tkAt s i).times - 1}
      have h2 : any4 (s.xs.set i {tkAt s i with phase := 0, times := (tkAt s i).times - 1}) = 0 := by
        refine any4_none fun j hj => ?_
        by_cases hji : j = i
        · subst hji; rw [Sx.getD_set_self hxl]; simp
        · rw [Sx.getD_set_ne (fun e => hji e.symm)]
          have := h.other hi (by omega) (j := j) (by simpa [h.xs] using hj) hji
          intro e
          have e' : (tkAt s j).phase = 4 := e
          omega
      have h3 : any4 s.xs = 1 := any4_pos hxl hp
      rw [h2]
      simp only at h1 ⊢
      have : (s.xs.getD i encTk.dflt).times = (tkAt s i).times := rfl
      omega
    · rw [hx]
      split
      · intro e; simp at e
      · rename_i hne
        intro e
        have := h.other hi (by omega) hj hne
        omega
end Go.Proofs.YthofahgnglfaeaaDoor

/- TicketOrder, plain: who holds the lock next has the ticket that is next. -/
namespace Go.Proofs.YthofahgnglfaeaaDoor
open Go Go.Proofs.YthofahgnglfaeaaDoor.Sx
set_option linter.unusedVariables false
def holdB (s : Mc) (j : Nat) : Bool := decide (2 ≤ (tkAt s j).phase)
def nw (s' : Mc) (hs : List Bool) (j : Nat) : Bool := holdB s' j && !hs.getD j false
def anyH (m : Nat) (s : Mc) : Bool := (List.range m).any (holdB s)
def turnOf (m : Nat) (S : Int) (s : Mc) : Int := (S + if anyH m s then 1 else 0) % 4294967296
theorem anyH_iff {m : Nat} {s : Mc} : anyH m s = true ↔ ∃ j, j < m ∧ 2 ≤ (tkAt s j).phase := by
  simp [anyH, holdB]
theorem pick_stays {m : Nat} {s : Mc} {k : Int} (h : inP k m = false ∨ s.ds.getD k.toNat false = true) : pickP m s k = s := by
  unfold pickP
  rcases h with h | h
  · rw [h]
  · rw [h]; split <;> rfl
theorem pick_cases (m : Nat) (s : Mc) (k : Int) : pickP m s k = s ∨ ∃ i, i < m ∧ s.ds.getD i false = false ∧ k = (i : Nat) := by
  cases h1 : inP k m with
  | false => exact .inl (pick_stays (.inl h1))
  | true =>
    cases h2 : s.ds.getD k.toNat false with
    | true => exact .inl (pick_stays (.inr h2))
    | false =>
      have := (inP_iff _ _).1 h1
      exact .inr ⟨k.toNat, by omega, h2, by omega⟩
structure OrderOut (m : Nat) (s' : Mc) (hs : List Bool) (turn : Int) (S' : Int) : Prop where
  tick : ∀ j, j < m → nw s' hs j = true → (tkAt s' j).ticket = turn
  one : ∀ i j, i < m → j < m → nw s' hs i = true → nw s' hs j = true → i = j
  turn : (if (List.range m).any (nw s' hs) then IntKind.u32.wrap (turn + 1) else turn) = turnOf m S' s'
theorem none_new {m : Nat} {s' : Mc} {hs : List Bool} {turn S' : Int} (h : ∀ j, j < m → nw s' hs j = false) (ht : turn = turnOf m S' s') : OrderOut m s' hs turn S' := by
  refine ⟨fun j hj hn => (by rw [h j hj] at hn; cases hn), fun i j hi hj hn => (by rw [h i hi] at hn; cases hn), ?_⟩
  have : (List.range m).any (nw s' hs) = false := by
    rw [List.any_eq_false]
    intro j hj
    rw [h j (by simpa using hj)]; simp
  rw [this, ht]; rfl
theorem order_pick {m : Nat} {sum : Int} {q : List Nat} {N S C : Int} {s : Mc} (h : Inv m sum q N S C s) {hs : List Bool} (hh : ∀ j, j < m → hs.getD j false = holdB s j) (k : Int) :
    ∃ q' N' S' C', Inv m sum q' N' S' C' (pickP m s k) ∧ OrderOut m (pickP m s k) hs (turnOf m S s) S' := by
  rcases pick_cases m s k with e | ⟨i, hi, hd, rfl⟩
  · rw [e]
    exact ⟨q, N, S, C, h, none_new (fun j hj => by rw [nw, hh j hj]; simp) rfl⟩
  obtain ⟨q', N', S', C', h', hdid⟩ := h.pick hi hd
  refine ⟨q', N', S', C', h', ?_⟩
  generalize pickP m s (i : Nat) = s' at *
  have same : (∀ j, j < m → holdB s' j = holdB s j) → S' = S → OrderOut m s' hs (turnOf m S s) S' := by
    intro hx hS
    subst hS
    refine none_new (fun j hj => by rw [nw, hh j hj, hx j hj]; simp) ?_
    have : anyH m s' = anyH m s := by
      unfold anyH
      rw [Bool.eq_iff_iff, List.any_eq_true, List.any_eq_true]
      constructor <;> (rintro ⟨j, hj, hb⟩; refine ⟨j, hj, ?_⟩)
      · rw [← hx j (by simpa using hj)]; exact hb
      · rw [hx j (by simpa using hj)]; exact hb
    rw [turnOf, turnOf, this]
  cases hdid with
  | none _ _ _ _ ht hl hx hd' => exact same (fun j _ => by rw [holdB, holdB, hx]) rfl
  | draw _ _ _ _ ht hp hx hd' => exact same (fun j _ => by rw [holdB, holdB, hx]; split <;> simp_all) rfl
  | wait _ _ _ _ ht hp hq hx hd' => exact same (fun j _ => by rw [holdB, holdB, hx]) rfl
  | load _ _ _ _ ht hp hq hx hd' => exact same (fun j _ => by rw [holdB, holdB, hx]; split <;> simp_all) rfl
  | store _ _ _ _ ht hp hq hx hd' => exact same (fun j _ => by rw [holdB, holdB, hx]; split <;> simp_all) rfl
  | got _ _ _ _ ht hp hq hx hd' =>
    have hr := h.rS
    have no : anyH m s = false := by
      rw [← Bool.not_eq_true, anyH_iff]
      rintro ⟨j, hj, hj2⟩
      obtain ⟨r, e⟩ := h.first hj hj2
      rw [e] at hq
      simp at hq; subst hq; omega
    have htk : (tkAt s i).ticket = S := by
      cases q with
      | nil => simp at hq
      | cons a r =>
        simp at hq; subst hq
        have := h.tick 0 a (by simp)
        omega
    have hT : turnOf m S s = S := by rw [turnOf, no]; simp; omega
    have hn : ∀ j, j < m → (nw s' hs j = true ↔ j = i) := by
      intro j hj
      rw [nw, hh j hj, holdB, holdB, hx]
      by_cases hji : j = i
      · subst hji; rw [if_pos rfl, hp]; simp
      · rw [if_neg hji]; simp [hji]
    have hany : (List.range m).any (nw s' hs) = true := by
      rw [List.any_eq_true]; exact ⟨i, by simpa using hi, (hn i hi).2 rfl⟩
    have hany' : anyH m s' = true := anyH_iff.2 ⟨i, hi, by rw [hx, if_pos rfl]; exact Nat.le_refl _⟩
    refine ⟨fun j hj hj' => ?_, fun a b ha hb h1 h2 => by rw [(hn a ha).1 h1, (hn b hb).1 h2], ?_⟩
    · rw [(hn j hj).1 hj', hx, if_pos rfl, hT]; exact htk
    · rw [hany, hT, turnOf, hany', w32_mod]; simp
  | leave r _ _ _ ht hp hx hd' =>
    have hr := h.rS
    have yes : anyH m s = true := anyH_iff.2 ⟨i, hi, by omega⟩
    have no : anyH m s' = false := by
      rw [← Bool.not_eq_true, anyH_iff]
      rintro ⟨j, hj, hj2⟩
      rw [hx] at hj2
      split at hj2
      · simp at hj2
      · rename_i hji
        have := h.other hi (by omega) hj hji
        omega
    refine none_new (fun j hj => ?_) ?_
    · rw [nw, hh j hj, holdB, holdB, hx]
      split
      · simp
      · simp
    · rw [turnOf, turnOf, yes, no]; simp
/-- as far as the inner loop has come -/
structure Scan (m : Nat) (s' : Mc) (hs0 : List Bool) (turn0 : Int) (k : Nat) (hs : List Bool) (turn : Int) : Prop where
  len : hs.length = 6
  held : ∀ j, j < m → hs.getD j false = if j < k then holdB s' j else hs0.getD j false
  turn : turn = if (List.range k).any (nw s' hs0) then IntKind.u32.wrap (turn0 + 1) else turn0
theorem scan_start {m : Nat} {s' : Mc} {hs0 : List Bool} {turn0 : Int} (hl : hs0.length = 6) : Scan m s' hs0 turn0 0 hs0 turn0 :=
  ⟨hl, fun j hj => by simp, by simp⟩
theorem scan_new {m : Nat} {s' : Mc} {hs0 : List Bool} {turn0 S' : Int} (ho : OrderOut m s' hs0 turn0 S') {k : Nat} (hk : k < m) (h6 : m ≤ 6) {hs : List Bool} {turn : Int} (h : Scan m s' hs0 turn0 k hs turn) (h1 : 2 ≤ (tkAt s' k).phase) (h2 : hs.getD k false = false) :
    (tkAt s' k).ticket = turn ∧ Scan m s' hs0 turn0 (k + 1) (hs.set k true) (IntKind.u32.wrap (turn + 1)) := by
  have hk0 := h.held k hk
  rw [h2, if_neg (Nat.lt_irrefl k)] at hk0
  have hn : nw s' hs0 k = true := by rw [nw, ← hk0, holdB, decide_eq_true h1]; rfl
  have no : (List.range k).any (nw s' hs0) = false := by
    rw [List.any_eq_false]
    intro j hj hjn
    have hj : j < k := by simpa using hj
    have := ho.one j k (by omega) hk hjn hn
    omega
  have ht := h.turn
  rw [no] at ht
  simp only [Bool.false_eq_true, if_false] at ht
  subst ht
  have yes : (List.range (k + 1)).any (nw s' hs0) = true := by
    rw [List.any_eq_true]; exact ⟨k, by simp, hn⟩
  refine ⟨ho.tick k hk hn, by simp [h.len], fun j hj => ?_, by rw [yes]; simp⟩
  by_cases hji : j = k
  · subst hji
    rw [Sx.getD_set_self (by rw [h.len]; omega), if_pos (by omega), holdB, decide_eq_true h1]
  · rw [Sx.getD_set_ne (fun e => hji e.symm), h.held j hj]
    by_cases hlt : j < k
    · rw [if_pos hlt, if_pos (by omega)]
    · rw [if_neg hlt, if_neg (by omega)]
theorem scan_old {m : Nat} {s' : Mc} {hs0 : List Bool} {turn0 : Int} {k : Nat} (hk : k < m) {hs : List Bool} {turn : Int} (h : Scan m s' hs0 turn0 k hs turn) (h1 : 2 ≤ (tkAt s' k).phase) (h2 : hs.getD k false = true) :
    Scan m s' hs0 turn0 (k + 1) hs turn := by
  have hk0 := h.held k hk
  rw [h2, if_neg (Nat.lt_irrefl k)] at hk0
  have hn : nw s' hs0 k = false := by rw [nw, ← hk0]; simp
  refine ⟨h.len, fun j hj => ?_, ?_⟩
  · by_cases hji : j = k
    · subst hji; rw [h2, if_pos (by omega), holdB, decide_eq_true h1]
    · rw [h.held j hj]
      by_cases hlt : j < k
      · rw [if_pos hlt, if_pos (by omega)]
      · rw [if_neg hlt, if_neg (by omega)]
  · rw [h.turn, List.range_succ, List.any_append]; simp [hn]
theorem scan_not {m : Nat} {s' : Mc} {hs0 : List Bool} {turn0 : Int} {k : Nat} (hk : k < m) (h6 : m ≤ 6) {hs : List Bool} {turn : Int} (h : Scan m s' hs0 turn0 k hs turn) (h1 : ¬ 2 ≤ (tkAt s' k).phase) :
    Scan m s' hs0 turn0 (k + 1) (hs.set k false) turn := by
  have hn : nw s' hs0 k = false := by rw [nw, holdB, decide_eq_false h1]; rfl
  refine ⟨by simp [h.len], fun j hj => ?_, ?_⟩
  · by_cases hji : j = k
    · subst hji
      rw [Sx.getD_set_self (by rw [h.len]; omega), if_pos (by omega), holdB, decide_eq_false h1]
    · rw [Sx.getD_set_ne (fun e => hji e.symm), h.held j hj]
      by_cases hlt : j < k
      · rw [if_pos hlt, if_pos (by omega)]
      · rw [if_neg hlt, if_neg (by omega)]
  · rw [h.turn, List.range_succ, List.any_append]; simp [hn]
/-- at the beginning -/
theorem inv_start {f : Int} (hf : 0 ≤ f ∧ f < 4294967296) {c : Int} {xs : List Tk} (hx : ∃ us : List U8, us.length ≤ 6 ∧ xs = us.map mkTk) :
    Inv xs.length (sumOf xs) [] f f 0 ⟨[f, f, 0], c, xs, List.replicate xs.length false⟩ := by
  obtain ⟨us, h6, rfl⟩ := hx
  have at0 : ∀ i, i < (us.map mkTk).length → ∃ u : U8, (us.map mkTk).getD i encTk.dflt = mkTk u := by
    intro i hi
    have hi' : i < us.length := by simpa using hi
    exact ⟨us[i], by simp [List.getD_eq_getElem?_getD, hi']⟩
  have hsum : ∀ l : List U8, sumOf (l.map mkTk) ≤ 7 * l.length := by
    intro l
    induction l with
    | nil => simp [sumOf]
    | cons u l ih =>
      have := tmod8 u
      simp only [List.map_cons, sumOf, List.sum_cons, mkTk, List.length_cons] at ih ⊢
      push_cast
      omega
  have hs := hsum us
  refine ⟨rfl, rfl, by simp, by simpa using h6, hf, by simp; omega, List.nodup_nil, fun i => ?_, fun j i h => by simp at h, fun j i h => by simp at h, fun i hi => ?_, fun i hi h => ?_, ?_, by omega, by omega, fun i hi h => ?_⟩
  · constructor
    · intro h; cases h
    · rintro ⟨h1, h2⟩
      obtain ⟨u, e⟩ := at0 i h1
      have h2 : 1 ≤ ((us.map mkTk).getD i encTk.dflt).phase := h2
      rw [e] at h2
      simp [mkTk] at h2
  · obtain ⟨u, e⟩ := at0 i hi
    show Plain ((us.map mkTk).getD i encTk.dflt)
    rw [e]
    have := tmod8 u
    exact ⟨rfl, rfl, by simp [mkTk], this, fun _ => rfl⟩
  · exfalso
    rw [Sx.getD_replicate] at h; cases h
  · have : any4 (us.map mkTk) = 0 := any4_none fun i hi => by
      obtain ⟨u, e⟩ := at0 i hi
      rw [e]; simp [mkTk]
    simp [this]
  · obtain ⟨u, e⟩ := at0 i hi
    have h : ((us.map mkTk).getD i encTk.dflt).phase = 3 := h
    rw [e] at h
    simp [mkTk] at h
end Go.Proofs.YthofahgnglfaeaaDoor

/- Layer 9: the package's variable, and how a card is closed. -/
namespace Go.Proofs.YthofahgnglfaeaaDoor
open Go Go.Proofs.YthofahgnglfaeaaDoor.Sx Go.ChangeShapes Go.WideShapes Go.ChangeAt Go.RowKit
set_option linter.unusedVariables false
abbrev laid1 : List (String × DataW Unit) := [("purlin/mem.look", Rows.laid_purlin_mem_look)]
theorem Tryd.own : ownKnob Tryd.prog.godebug = none := by kernel_rfl
theorem Tryd.laidOut : laidOutB Tryd.prog = true := by kernel_rfl
theorem gLook : Tryd.prog.globalNamed "purlin/mem.look" = some 0 := by kernel_rfl
theorem tLook : (Tryd.prog.globals[0]?).map (·.type) = some 68 := by kernel_rfl
/-- the door's own heap meets the condition -/
theorem door_met (os : Os) (args : Array Value) : laidMetH Tryd.prog laid1 ((World.doorLaid Tryd.prog 400 os).forCall (fun _ _ => 0) ⟨#[], args, []⟩).memory :=
  laidMetH_of_parts3 (fuel := 8) (laidMet_of_run' 8 (by kernel_rfl) (by kernel_rfl)) (by kernel_rfl) (by kernel_rfl)
set_option maxRecDepth 100000 in
/-- what the condition gives -/
theorem of_laid {W : World} (h : laidMetH Tryd.prog laid1 W) : ∃ e : Slot, (e.blk = 0 ∧ e.off = 0) ∧ Rep [e] [lookB] W := by
  rw [MakeChecks.laidMetH_plain _ _ _ (by kernel_rfl)] at h
  obtain ⟨ps, ⟨g0, t0, cs0, f0, p0, q0, hg0, ht0, hv0, hd0, _, _⟩, _, _⟩ := h
  obtain rfl := Option.some.inj (gLook.symm.trans hg0)
  obtain rfl := Option.some.inj (tLook.symm.trans ht0)
  obtain ⟨xs, m, _, hx, hlen, hxl, hf⟩ := DataW.trod_struct Tryd.underlying68 hd0
  have hC : Tryd.prog.cellsOf 68 = 3 := by kernel_rfl
  have k23 : Tryd.prog.cellsOf 23 = 1 := by kernel_rfl
  rw [hC] at hlen
  obtain ⟨l⟩ := cs0
  simp only at hlen hf
  match l, hlen with
  | [c0, c1, c2], _ =>
    match xs, hxl, hx with
    | [y0, y1, y2], _, hx =>
      have f0 : DataW.trod _ Tryd.prog W 0 _ false m 23 (([c0, c1, c2].drop 0).take (Tryd.prog.cellsOf 23)) = some y0 := hf 0 _ rfl
      have f1 : DataW.trod _ Tryd.prog W 0 _ false m 23 (([c0, c1, c2].drop 1).take (Tryd.prog.cellsOf 23)) = some y1 := hf 1 _ rfl
      have f2 : DataW.trod _ Tryd.prog W 0 _ false m 23 (([c0, c1, c2].drop 2).take (Tryd.prog.cellsOf 23)) = some y2 := hf 2 _ rfl
      rw [k23] at f0 f1 f2
      obtain ⟨a0, h0, e0, _⟩ := DataW.trod_int Tryd.underlying23 f0
      obtain ⟨a1, h1, e1, _⟩ := DataW.trod_int Tryd.underlying23 f1
      obtain ⟨a2, h2, e2, _⟩ := DataW.trod_int Tryd.underlying23 f2
      simp at h0 h1 h2
      subst h0 h1 h2 e0 e1 e2
      simp [Rows.laid_purlin_mem_look] at hx
      obtain ⟨⟨rfl, rfl, rfl⟩, _⟩ := hx
      have hc := fun i => World.var?_cell hg0 hv0 i
      have hsz : 0 < W.heap.size := by
        have := hc 0
        simp only [World.cell?] at this
        rcases Nat.eq_zero_or_pos W.heap.size with h | h
        · rw [Array.getElem?_eq_none (by omega)] at this; simp at this
        · exact h
      refine ⟨⟨0, 0, 0, []⟩, ⟨rfl, rfl⟩, rfl, ?_, ?_, ?_⟩
      · intro id sl b he hb
        match id with
        | 0 =>
          simp only [List.getElem?_cons_zero, Option.some.injEq] at he hb
          subst he hb
          refine ⟨[.int .u32 4294967295, .int .u32 0, .int .u32 0], by simp [encLook, encOf, DenL, Den], fun i hi => ?_⟩
          have := hc i
          simpa using this
        | n + 1 => simp at he
      · intro i j e f b c hij he hf' hb' hc' x hx''
        match i, j with
        | 0, 0 => exact (hij rfl).elim
        | i + 1, _ => simp at he
        | 0, j + 1 => simp at hf'
      · intro id sl b he hb x hx
        match id with
        | 0 =>
          simp only [List.getElem?_cons_zero, Option.some.injEq] at he hb
          subst he hb
          simp [Blk.supp] at hx
          omega
        | n + 1 => simp at he
theorem wf_u8 {n : Int} (h : (Lit.int .u8 n).wf = true) : 0 ≤ n ∧ n ≤ 255 := by simp [Lit.wf, IntKind.min, IntKind.max, IntKind.signed, IntKind.bits] at h; omega
theorem wf_u32 {n : Int} (h : (Lit.int .u32 n).wf = true) : 0 ≤ n ∧ n < 4294967296 := by simp [Lit.wf, IntKind.min, IntKind.max, IntKind.signed, IntKind.bits] at h; omega
theorem open_u8 {H : Type} {enc : TypeId × Value → H} {w : World} {base : Nat} {spare : Nat → Bool} {held : Bool} (n : Nat) (cs : List Value) (y : DataW H × List MemPlace) (h : DataW.trod enc Tryd.prog w base spare held n 5 cs = some y) :
    ∃ x : U8, DenL [] (encU8.enc x) cs := by
  cases n with
  | zero => simp [DataW.trod] at h
  | succ n =>
    obtain ⟨a, h0, _, hw⟩ := DataW.trod_int Tryd.underlying5 h
    subst h0
    exact ⟨⟨a, wf_u8 hw⟩, by simp [encU8, encOf, DenL, Den]⟩
theorem open_i64 {H : Type} {enc : TypeId × Value → H} {w : World} {base : Nat} {spare : Nat → Bool} {held : Bool} (n : Nat) (cs : List Value) (y : DataW H × List MemPlace) (h : DataW.trod enc Tryd.prog w base spare held n 3 cs = some y) :
    ∃ x : Int, DenL [] ((encInt .i64).enc x) cs := by
  cases n with
  | zero => simp [DataW.trod] at h
  | succ n =>
    obtain ⟨a, h0, _, hw⟩ := DataW.trod_int Tryd.underlying3 h
    subst h0
    exact ⟨a, by simp [encInt, DenL, Den]⟩
end Go.Proofs.YthofahgnglfaeaaDoor

