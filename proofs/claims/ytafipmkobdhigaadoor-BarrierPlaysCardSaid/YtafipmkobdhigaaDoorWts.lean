/- The objects of this layer: what a machine of them does. -/
import Derived.Test.YtafipmkobdhigaaDoorSxC
import Derived.Test.YtafipmkobdhigaaDoorRows
/- Layer 11: the configuration. -/
namespace Go.Proofs.YtafipmkobdhigaaDoor
open Go Go.Proofs.YtafipmkobdhigaaDoor.Sx
set_option linter.unusedVariables false
/-- the package's variable, as it was laid -/
def encLook : Enc Unit := encOf 2 (fun _ => [.lit .u32 4294967295, .lit .u32 0, .lit .u32 0]) () (fun _ => rfl) (by intro env env' x vs h; simpa [DenL, Den] using h)
abbrev lookB : Blk := .ro encLook [()]
abbrev exI : IntKind → Bool := fun k => match k with | .i64 => true | _ => false
/-- nothing is exact: counts -/
noncomputable def cfgW : Cfg := { P := Tryd.prog, ex := fun _ => false, gl := [(0, 0)], sm := fun _ => none }
theorem cfgW_ok : SmOk cfgW := by intro f g h; cases h
end Go.Proofs.YtafipmkobdhigaaDoor

/- Layer 11: the memory's state. -/
namespace Go.Proofs.YtafipmkobdhigaaDoor
open Go Go.Proofs.YtafipmkobdhigaaDoor.Sx
set_option linter.unusedVariables false
/-- a memory: its words, how often it was used -/
abbrev memS (n : Nat) (l : List Int) (c : Int) : St := [lookB, .own [.c (.sli 2 (.c 0) 1 (.v n) (some (.v n))), .c (.int .i64 c)] 70, .own [.a (encInt .u32) n l] 35]
abbrev upP (c : Int) : Int := IntKind.i64.wrap (c + 1)
def inP (a : Int) (n : Nat) : Bool := decide (0 ≤ a) && decide (a < (n : Int))
theorem inP_iff (a : Int) (n : Nat) : inP a n = true ↔ 0 ≤ a ∧ a < n := by simp [inP]
/-- a word, 1 more -/
def incP (x : Int) : Int := IntKind.u32.wrap (bitop .or .u32 (bitop .and .u32 x 4294967295) 0 + 1)
/-- a word, set -/
def setP (x v : Int) : Int := IntKind.u32.wrap (bitop .or .u32 (bitop .and .u32 x 0) v + 0)
end Go.Proofs.YtafipmkobdhigaaDoor

namespace Go.Proofs.YtafipmkobdhigaaDoor
open Go Go.Proofs.YtafipmkobdhigaaDoor.Sx
set_option linter.unusedVariables false
set_option maxRecDepth 100000 in
theorem t_load {n : Nat} {l : List Int} {c : Int} {a : Int} : callF cfgW 100 30 [.ptr 1 0, .int .i64 a] (memS n l c) =
 

 (.need (true)

 (.need (true)

 (.need (true)

 (.br (decide (a < (0 : Int)))

 (.ret (.tup [.lit .u32 (0 : Int), .lit .i64 (81 : Int)], [.ro encLook [PUnit.unit], .own [.c (.sli 2 (.c 0) 1 (.v n) (some (.v n))), .c (.int .i64 c)] 70, .own [.a (encInt IntKind.u32) n l] 35, .own [.c (.lit .u32 (4294967295 : Int)), .c (.lit .u32 (0 : Int)), .c (.lit .u32 (0 : Int))] 74]))

 (.br (decide ((↑n : Int) ≤ a))

 (.ret (.tup [.lit .u32 (0 : Int), .lit .i64 (81 : Int)], [.ro encLook [PUnit.unit], .own [.c (.sli 2 (.c 0) 1 (.v n) (some (.v n))), .c (.int .i64 c)] 70, .own [.a (encInt IntKind.u32) n l] 35, .own [.c (.lit .u32 (4294967295 : Int)), .c (.lit .u32 (0 : Int)), .c (.lit .u32 (0 : Int))] 74]))

 (.need (decide ((0 : Int) ≤ a) && decide (a.toNat < n))

 (.need (decide (a.toNat < n))

 (.need (true)

 (.need (true)

 (.need (true)

 (.ret (.tup [.int .u32 (l.getD a.toNat (0 : Int)), .lit .i64 (0 : Int)], [.ro encLook [PUnit.unit], .own [.c (.sli 2 (.c 0) 1 (.v n) (some (.v n))), .c (.int .i64 (IntKind.i64.wrap (c + (1 : Int))))] 70, .own [.a (encInt IntKind.u32) n l] 35, .own [.c (.lit .u32 (4294967295 : Int)), .c (.lit .u32 (0 : Int)), .c (.lit .u32 (0 : Int))] 74])))))))))))) := by kernel_rfl
set_option maxRecDepth 100000 in
theorem t_store {n : Nat} {l : List Int} {c : Int} {a : Int} {v : Int} : callF cfgW 100 15 [.ptr 1 0, .int .i64 a, .int .u32 v] (memS n l c) =
 

 (.br (decide (a < (0 : Int)))

 (.ret (.lit .i64 (81 : Int), [.ro encLook [PUnit.unit], .own [.c (.sli 2 (.c 0) 1 (.v n) (some (.v n))), .c (.int .i64 c)] 70, .own [.a (encInt IntKind.u32) n l] 35, .own [.c (.lit .u32 (0 : Int)), .c (.int .u32 v), .c (.lit .u32 (0 : Int))] 74]))

 (.br (decide ((↑n : Int) ≤ a))

 (.ret (.lit .i64 (81 : Int), [.ro encLook [PUnit.unit], .own [.c (.sli 2 (.c 0) 1 (.v n) (some (.v n))), .c (.int .i64 c)] 70, .own [.a (encInt IntKind.u32) n l] 35, .own [.c (.lit .u32 (0 : Int)), .c (.int .u32 v), .c (.lit .u32 (0 : Int))] 74]))

 (.need (decide ((0 : Int) ≤ a) && decide (a.toNat < n))

 (.need (decide (a.toNat < n))

 (.need (true)

 (.need (true)

 (.need (true)

 (.need (decide ((0 : Int) ≤ a) && decide (a.toNat < n))

 (.need (decide (a.toNat < n))
 (.eq (T.ret (SVal.sli (2 : Nat) (NN.c (0 : Nat)) (1 : Nat) (NN.v n) (some (NN.v n))) = T.ret (SVal.sli (2 : Nat) (NN.c (0 : Nat)) (1 : Nat) (NN.v n) (some (NN.v n))))
 (.eq (T.ret (SVal.int IntKind.u32 v) = T.ret (SVal.int IntKind.u32 v))

 (.need (decide ((0 : Int) ≤ a) && decide (a.toNat < n))

 (.need (decide (a.toNat < n))

 (.need (decide ((0 : Int) ≤ a) && decide (a.toNat < n))

 (.need (decide (a.toNat < n))
 (.eq (T.ret (SVal.sli (2 : Nat) (NN.c (0 : Nat)) (1 : Nat) (NN.v n) (some (NN.v n))) = T.ret (SVal.sli (2 : Nat) (NN.c (0 : Nat)) (1 : Nat) (NN.v n) (some (NN.v n))))
 (.eq (T.need (decide (a.toNat < n)) (T.ret ([SVal.int IntKind.u32 ((l.set a.toNat (bitop BinOp.or IntKind.u32 (bitop BinOp.and IntKind.u32 (l.getD a.toNat (0 : Int)) (0 : Int)) v)).getD a.toNat (0 : Int))].getD (0 : Nat) SVal.bad)) = T.need (decide (a.toNat < n)) (T.ret ([SVal.int IntKind.u32 ((l.set a.toNat (bitop BinOp.or IntKind.u32 (bitop BinOp.and IntKind.u32 (l.getD a.toNat (0 : Int)) (0 : Int)) v)).getD a.toNat (0 : Int))].getD (0 : Nat) SVal.bad)))

 (.ret (.lit .i64 (0 : Int), [.ro encLook [PUnit.unit], .own [.c (.sli 2 (.c 0) 1 (.v n) (some (.v n))), .c (.int .i64 (IntKind.i64.wrap (c + (1 : Int))))] 70, .own [.a (encInt IntKind.u32) n ((l.set a.toNat (bitop BinOp.or IntKind.u32 (bitop BinOp.and IntKind.u32 (l.getD a.toNat (0 : Int)) (0 : Int)) v)).set a.toNat (IntKind.u32.wrap ((l.set a.toNat (bitop BinOp.or IntKind.u32 (bitop BinOp.and IntKind.u32 (l.getD a.toNat (0 : Int)) (0 : Int)) v)).getD a.toNat (0 : Int) + (0 : Int))))] 35, .own [.c (.lit .u32 (0 : Int)), .c (.int .u32 v), .c (.lit .u32 (0 : Int))] 74]))))))))))))))))))) := by kernel_rfl
set_option maxRecDepth 100000 in
theorem t_add {n : Nat} {l : List Int} {c : Int} {a : Int} : callF cfgW 100 31 [.ptr 1 0, .int .i64 a, .lit .u32 1] (memS n l c) =
 

 (.need (true)

 (.br (decide (a < (0 : Int)))

 (.ret (.tup [.lit .u32 (0 : Int), .lit .i64 (81 : Int)], [.ro encLook [PUnit.unit], .own [.c (.sli 2 (.c 0) 1 (.v n) (some (.v n))), .c (.int .i64 c)] 70, .own [.a (encInt IntKind.u32) n l] 35, .own [.c (.lit .u32 (4294967295 : Int)), .c (.lit .u32 (0 : Int)), .c (.lit .u32 (1 : Int))] 74]))

 (.br (decide ((↑n : Int) ≤ a))

 (.ret (.tup [.lit .u32 (0 : Int), .lit .i64 (81 : Int)], [.ro encLook [PUnit.unit], .own [.c (.sli 2 (.c 0) 1 (.v n) (some (.v n))), .c (.int .i64 c)] 70, .own [.a (encInt IntKind.u32) n l] 35, .own [.c (.lit .u32 (4294967295 : Int)), .c (.lit .u32 (0 : Int)), .c (.lit .u32 (1 : Int))] 74]))

 (.need (decide ((0 : Int) ≤ a) && decide (a.toNat < n))

 (.need (decide (a.toNat < n))

 (.need (true)

 (.need (true)

 (.need (true)

 (.need (decide ((0 : Int) ≤ a) && decide (a.toNat < n))

 (.need (decide (a.toNat < n))
 (.eq (T.ret (SVal.sli (2 : Nat) (NN.c (0 : Nat)) (1 : Nat) (NN.v n) (some (NN.v n))) = T.ret (SVal.sli (2 : Nat) (NN.c (0 : Nat)) (1 : Nat) (NN.v n) (some (NN.v n))))

 (.need (decide ((0 : Int) ≤ a) && decide (a.toNat < n))

 (.need (decide (a.toNat < n))

 (.need (decide ((0 : Int) ≤ a) && decide (a.toNat < n))

 (.need (decide (a.toNat < n))
 (.eq (T.ret (SVal.sli (2 : Nat) (NN.c (0 : Nat)) (1 : Nat) (NN.v n) (some (NN.v n))) = T.ret (SVal.sli (2 : Nat) (NN.c (0 : Nat)) (1 : Nat) (NN.v n) (some (NN.v n))))
 (.eq (T.need (decide (a.toNat < n)) (T.ret ([SVal.int IntKind.u32 ((l.set a.toNat (bitop BinOp.or IntKind.u32 (bitop BinOp.and IntKind.u32 (l.getD a.toNat (0 : Int)) (4294967295 : Int)) (0 : Int))).getD a.toNat (0 : Int))].getD (0 : Nat) SVal.bad)) = T.need (decide (a.toNat < n)) (T.ret ([SVal.int IntKind.u32 ((l.set a.toNat (bitop BinOp.or IntKind.u32 (bitop BinOp.and IntKind.u32 (l.getD a.toNat (0 : Int)) (4294967295 : Int)) (0 : Int))).getD a.toNat (0 : Int))].getD (0 : Nat) SVal.bad)))

 (.ret (.tup [.int .u32 (l.getD a.toNat (0 : Int)), .lit .i64 (0 : Int)], [.ro encLook [PUnit.unit], .own [.c (.sli 2 (.c 0) 1 (.v n) (some (.v n))), .c (.int .i64 (IntKind.i64.wrap (c + (1 : Int))))] 70, .own [.a (encInt IntKind.u32) n ((l.set a.toNat (bitop BinOp.or IntKind.u32 (bitop BinOp.and IntKind.u32 (l.getD a.toNat (0 : Int)) (4294967295 : Int)) (0 : Int))).set a.toNat (IntKind.u32.wrap ((l.set a.toNat (bitop BinOp.or IntKind.u32 (bitop BinOp.and IntKind.u32 (l.getD a.toNat (0 : Int)) (4294967295 : Int)) (0 : Int))).getD a.toNat (0 : Int) + (1 : Int))))] 35, .own [.c (.lit .u32 (4294967295 : Int)), .c (.lit .u32 (0 : Int)), .c (.lit .u32 (1 : Int))] 74]))))))))))))))))))) := by kernel_rfl
end Go.Proofs.YtafipmkobdhigaaDoor

/- Layer 11: what loads, stores and adds come to. -/
namespace Go.Proofs.YtafipmkobdhigaaDoor
open Go Go.Proofs.YtafipmkobdhigaaDoor.Sx
set_option linter.unusedVariables false
theorem memS_ren {n : Nat} {l : List Int} {c : Int} : renSt (List.range 3) (memS n l c) (List.range 3) = some (memS n l c) := by kernel_rfl
theorem memS_ro {n n' : Nat} {l l' : List Int} {c c' : Int} : roSame (memS n l c) (memS n' l' c') :=
  roSame_cons (.inr rfl) (roSame_cons (.inl rfl) (roSame_cons (.inl rfl) roSame_nil))
theorem asI_int {env : Env} {s : SVal} {v : Value} {k : IntKind} {x : Int} {b : Bool} (h : asI s = some (k, x, b)) (hd : Den env s v) : Den env (.int k x) v := by rw [asI_den h hd]; simp [Den]
theorem asI_ren {s : SVal} {k : IntKind} {x : Int} {b : Bool} {m : List Nat} (h : asI s = some (k, x, b)) : ren m s = s := by
  cases s <;> simp [asI] at h <;> rfl
noncomputable def gLoad (args : List SVal) (st : St) : T (SVal × St) := match args, st with
  | [.ptr 1 0, a], [_, .own [_, .c cv] _, b2] => match asI a, asI cv, wordsOf b2 with
    | some (.i64, a, _), some (_, c, _), some (n, l) => .eq (st = memS n l c ∧ l.length = n) (.br (inP a n) (.ret (.tup [.int .u32 (l.getD a.toNat 0), .lit .i64 0], memS n l (upP c))) (.ret (.tup [.lit .u32 0, .lit .i64 81], memS n l c)))
    | _, _, _ => .no 170
  | _, _ => .no 171
noncomputable def gStore (args : List SVal) (st : St) : T (SVal × St) := match args, st with
  | [.ptr 1 0, a, v], [_, .own [_, .c cv] _, b2] => match asI a, asI v, asI cv, wordsOf b2 with
    | some (.i64, a, _), some (.u32, v, _), some (_, c, _), some (n, l) => .eq (st = memS n l c ∧ l.length = n) (.br (inP a n) (.ret (.lit .i64 0, memS n (l.set a.toNat (setP (l.getD a.toNat 0) v)) (upP c))) (.ret (.lit .i64 81, memS n l c)))
    | _, _, _, _ => .no 170
  | _, _ => .no 171
noncomputable def gInc (args : List SVal) (st : St) : T (SVal × St) := match args, st with
  | [.ptr 1 0, a, .lit .u32 1], [_, .own [_, .c cv] _, b2] => match asI a, asI cv, wordsOf b2 with
    | some (.i64, a, _), some (_, c, _), some (n, l) => .eq (st = memS n l c ∧ l.length = n) (.br (inP a n) (.ret (.tup [.int .u32 (l.getD a.toNat 0), .lit .i64 0], memS n (l.set a.toNat (incP (l.getD a.toNat 0))) (upP c))) (.ret (.tup [.lit .u32 0, .lit .i64 81], memS n l c)))
    | _, _, _ => .no 170
  | _, _ => .no 171
set_option maxRecDepth 10000 in
theorem load_ok (args : List SVal) (S : St) (s : SVal) (S' : St) (h : (gLoad args S).at (s, S')) : PreOk cfgW 3 30 args S s S' := by
  unfold gLoad at h
  split at h
  · rename_i a b0 s0 cv TT b2
    split at h
    · rename_i a' la kc c lc n l h1 h2 h3
      obtain ⟨⟨e0, hl⟩, h⟩ := h
      rw [e0]
      have hr : renL (List.range 3) [.ptr 1 0, a] = [.ptr 1 0, a] := by simp only [renL, asI_ren h1]; rfl
      have key : ∀ (env : Env) (w : World) (vs : List Value), GlOk cfgW.gl env → Rep env (memS n l c) w → DenL env [.ptr 1 0, a] vs → Calls cfgW.P 30 ⟨vs⟩ w (Ends1 env (memS n l c) w s S') := by
        intro env w vs hg hr hd
        have hd' : DenL env [.ptr 1 0, .int .i64 a'] vs := by
          obtain ⟨u, us, rfl, h4, u2, us2, rfl, h5, rfl⟩ := hd
          exact ⟨_, _, rfl, h4, _, _, rfl, asI_int h1 h5, rfl⟩
        simp only [T.at, Prod.mk.injEq] at h
        rcases h with ⟨hb, e1, e2⟩ | ⟨hb, e1, e2⟩
        · rw [inP_iff] at hb
          refine ends_all (s := s) (S' := S') cfgW_ok t_load (by kernel_rfl) (by rw [← e2] <;> rfl) (by rw [← e2]; exact memS_ren) (by rw [← e1]; rfl) ?_ env w vs hg hr hd'
          subst e1 e2
          repeat' (first
            | (refine all_brp (by simp only [decide_eq_true_eq]; exact Iff.rfl) (fun _ => ?_) (fun _ => ?_) <;> try (exfalso; omega))
            | refine all_needq (by simp only [decide_eq_true_eq, Bool.and_eq_true]; exact Iff.rfl) (by omega) ?_
            | refine all_need rfl (fun _ => ?_)
            | refine all_eq rfl ?_)
          exact all_ret ⟨_, rfl⟩
        · rw [← Bool.not_eq_true, inP_iff] at hb
          refine ends_all (s := s) (S' := S') cfgW_ok t_load (by kernel_rfl) (by rw [← e2] <;> rfl) (by rw [← e2]; exact memS_ren) (by rw [← e1]; rfl) ?_ env w vs hg hr hd'
          subst e1 e2
          repeat' (first
            | (refine all_brp (by simp only [decide_eq_true_eq]; exact Iff.rfl) (fun _ => ?_) (fun _ => ?_) <;> try (exfalso; omega))
            | refine all_needq (by simp only [decide_eq_true_eq, Bool.and_eq_true]; exact Iff.rfl) (by omega) ?_
            | refine all_need rfl (fun _ => ?_)
            | refine all_eq rfl ?_)
          all_goals exact all_ret ⟨_, rfl⟩
      have hS' : ∃ n' l' c', S' = memS n' l' c' := by
        simp only [T.at, Prod.mk.injEq] at h
        rcases h with ⟨hb, rfl, rfl⟩ | ⟨hb, rfl, rfl⟩ <;> exact ⟨_, _, _, rfl⟩
      obtain ⟨n', l', c', rfl⟩ := hS'
      exact ⟨key, rfl, rfl, memS_ro, memS_ren, hr⟩
    · exact h.elim
  · exact h.elim
set_option maxRecDepth 10000 in
theorem store_ok (args : List SVal) (S : St) (s : SVal) (S' : St) (h : (gStore args S).at (s, S')) : PreOk cfgW 3 15 args S s S' := by
  unfold gStore at h
  split at h
  · rename_i a v b0 s0 cv TT b2
    split at h
    · rename_i a' la v' lv kc c lc n l h1 h0 h2 h3
      obtain ⟨⟨e0, hl⟩, h⟩ := h
      rw [e0]
      have hr : renL (List.range 3) [.ptr 1 0, a, v] = [.ptr 1 0, a, v] := by simp only [renL, asI_ren h1, asI_ren h0]; rfl
      have key : ∀ (env : Env) (w : World) (vs : List Value), GlOk cfgW.gl env → Rep env (memS n l c) w → DenL env [.ptr 1 0, a, v] vs → Calls cfgW.P 15 ⟨vs⟩ w (Ends1 env (memS n l c) w s S') := by
        intro env w vs hg hr hd
        have hd' : DenL env [.ptr 1 0, .int .i64 a', .int .u32 v'] vs := by
          obtain ⟨u, us, rfl, h4, u2, us2, rfl, h5, u3, us3, rfl, h6, rfl⟩ := hd
          exact ⟨_, _, rfl, h4, _, _, rfl, asI_int h1 h5, _, _, rfl, asI_int h0 h6, rfl⟩
        simp only [T.at, Prod.mk.injEq] at h
        rcases h with ⟨hb, e1, e2⟩ | ⟨hb, e1, e2⟩
        · rw [inP_iff] at hb
          refine ends_all (s := s) (S' := S') cfgW_ok t_store (by kernel_rfl) (by rw [← e2] <;> rfl) (by rw [← e2]; exact memS_ren) (by rw [← e1]; rfl) ?_ env w vs hg hr hd'
          subst e1 e2
          repeat' (first
            | (refine all_brp (by simp only [decide_eq_true_eq]; exact Iff.rfl) (fun _ => ?_) (fun _ => ?_) <;> try (exfalso; omega))
            | refine all_needq (by simp only [decide_eq_true_eq, Bool.and_eq_true]; exact Iff.rfl) (by omega) ?_
            | refine all_need rfl (fun _ => ?_)
            | refine all_eq rfl ?_)
          rw [List.set_set, getD_set_self (by omega)]
          exact all_ret ⟨_, rfl⟩
        · rw [← Bool.not_eq_true, inP_iff] at hb
          refine ends_all (s := s) (S' := S') cfgW_ok t_store (by kernel_rfl) (by rw [← e2] <;> rfl) (by rw [← e2]; exact memS_ren) (by rw [← e1]; rfl) ?_ env w vs hg hr hd'
          subst e1 e2
          repeat' (first
            | (refine all_brp (by simp only [decide_eq_true_eq]; exact Iff.rfl) (fun _ => ?_) (fun _ => ?_) <;> try (exfalso; omega))
            | refine all_needq (by simp only [decide_eq_true_eq, Bool.and_eq_true]; exact Iff.rfl) (by omega) ?_
            | refine all_need rfl (fun _ => ?_)
            | refine all_eq rfl ?_)
          all_goals exact all_ret ⟨_, rfl⟩
      have hS' : ∃ n' l' c', S' = memS n' l' c' := by
        simp only [T.at, Prod.mk.injEq] at h
        rcases h with ⟨hb, rfl, rfl⟩ | ⟨hb, rfl, rfl⟩ <;> exact ⟨_, _, _, rfl⟩
      obtain ⟨n', l', c', rfl⟩ := hS'
      exact ⟨key, rfl, rfl, memS_ro, memS_ren, hr⟩
    · exact h.elim
  · exact h.elim
set_option maxRecDepth 10000 in
theorem inc_ok (args : List SVal) (S : St) (s : SVal) (S' : St) (h : (gInc args S).at (s, S')) : PreOk cfgW 3 31 args S s S' := by
  unfold gInc at h
  split at h
  · rename_i a b0 s0 cv TT b2
    split at h
    · rename_i a' la kc c lc n l h1 h2 h3
      obtain ⟨⟨e0, hl⟩, h⟩ := h
      rw [e0]
      have hr : renL (List.range 3) [.ptr 1 0, a, .lit .u32 1] = [.ptr 1 0, a, .lit .u32 1] := by simp only [renL, asI_ren h1]; rfl
      have key : ∀ (env : Env) (w : World) (vs : List Value), GlOk cfgW.gl env → Rep env (memS n l c) w → DenL env [.ptr 1 0, a, .lit .u32 1] vs → Calls cfgW.P 31 ⟨vs⟩ w (Ends1 env (memS n l c) w s S') := by
        intro env w vs hg hr hd
        have hd' : DenL env [.ptr 1 0, .int .i64 a', .lit .u32 1] vs := by
          obtain ⟨u, us, rfl, h4, u2, us2, rfl, h5, h6⟩ := hd
          exact ⟨_, _, rfl, h4, _, _, rfl, asI_int h1 h5, h6⟩
        simp only [T.at, Prod.mk.injEq] at h
        rcases h with ⟨hb, e1, e2⟩ | ⟨hb, e1, e2⟩
        · rw [inP_iff] at hb
          refine ends_all (s := s) (S' := S') cfgW_ok t_add (by kernel_rfl) (by rw [← e2] <;> rfl) (by rw [← e2]; exact memS_ren) (by rw [← e1]; rfl) ?_ env w vs hg hr hd'
          subst e1 e2
          repeat' (first
            | (refine all_brp (by simp only [decide_eq_true_eq]; exact Iff.rfl) (fun _ => ?_) (fun _ => ?_) <;> try (exfalso; omega))
            | refine all_needq (by simp only [decide_eq_true_eq, Bool.and_eq_true]; exact Iff.rfl) (by omega) ?_
            | refine all_need rfl (fun _ => ?_)
            | refine all_eq rfl ?_)
          rw [List.set_set, getD_set_self (by omega)]
          exact all_ret ⟨_, rfl⟩
        · rw [← Bool.not_eq_true, inP_iff] at hb
          refine ends_all (s := s) (S' := S') cfgW_ok t_add (by kernel_rfl) (by rw [← e2] <;> rfl) (by rw [← e2]; exact memS_ren) (by rw [← e1]; rfl) ?_ env w vs hg hr hd'
          subst e1 e2
          repeat' (first
            | (refine all_brp (by simp only [decide_eq_true_eq]; exact Iff.rfl) (fun _ => ?_) (fun _ => ?_) <;> try (exfalso; omega))
            | refine all_needq (by simp only [decide_eq_true_eq, Bool.and_eq_true]; exact Iff.rfl) (by omega) ?_
            | refine all_need rfl (fun _ => ?_)
            | refine all_eq rfl ?_)
          all_goals exact all_ret ⟨_, rfl⟩
      have hS' : ∃ n' l' c', S' = memS n' l' c' := by
        simp only [T.at, Prod.mk.injEq] at h
        rcases h with ⟨hb, rfl, rfl⟩ | ⟨hb, rfl, rfl⟩ <;> exact ⟨_, _, _, rfl⟩
      obtain ⟨n', l', c', rfl⟩ := hS'
      exact ⟨key, rfl, rfl, memS_ro, memS_ren, hr⟩
    · exact h.elim
  · exact h.elim
theorem gl_lt {k : Nat} (h : 0 < k) : ∀ p ∈ cfgW.gl, p.2 < k := by
  intro p hp
  rw [List.mem_singleton.1 hp]; exact h
noncomputable def smMem : FuncId → Option (List SVal → St → T (SVal × St)) := fun f => match f with
  | 30 => some (smPre 3 gLoad)
  | 15 => some (smPre 3 gStore)
  | 31 => some (smPre 3 gInc)
  | _ => none
/-- with memory -/
noncomputable def cfgM : Cfg := { P := Tryd.prog, ex := exI, gl := [(0, 0)], sm := smMem }
theorem smMem_ok : ∀ f g, smMem f = some g → ∀ (args : List SVal) (st : St) (s : SVal) (st' : St) (env : Env) (w : World) (vs : List Value), (g args st).at (s, st') → GlOk [(0, 0)] env → Rep env st w → DenL env args vs →
    Calls Tryd.prog f ⟨vs⟩ w fun e w' => ∃ env' v, e = .returned v ∧ Ext env st w env' st' w' ∧ Rep env' st' w' ∧ Den env' s v := by
  intro f g h
  simp only [smMem] at h
  split at h
  · simp only [Option.some.injEq] at h; subst h
    exact smPre_ok (c := cfgW) (gl_lt (by omega)) load_ok
  · simp only [Option.some.injEq] at h; subst h
    exact smPre_ok (c := cfgW) (gl_lt (by omega)) store_ok
  · simp only [Option.some.injEq] at h; subst h
    exact smPre_ok (c := cfgW) (gl_lt (by omega)) inc_ok
  · cases h
theorem cfgM_ok : SmOk cfgM := smMem_ok
end Go.Proofs.YtafipmkobdhigaaDoor

/- Layer 11: a waiter. -/
namespace Go.Proofs.YtafipmkobdhigaaDoor
open Go Go.Proofs.YtafipmkobdhigaaDoor.Sx
set_option linter.unusedVariables false
structure Tk where
  at' : Int
  n : Int
  rounds : Int
  phase : Nat
  came : Int
  passed : Int
/-- a waiter's cells, in a phase -/
abbrev tkB (t : Tk) (p : SVal) : Blk := .own [.c (.int .i64 t.at'), .c (.int .i64 t.n), .c (.int .i64 t.rounds), .c p, .c (.int .i64 t.came), .c (.int .i64 t.passed)] 68
/-- its sense -/
def senseP (c : Int) : Int := (IntKind.u32.wrap c).tmod 2
end Go.Proofs.YtafipmkobdhigaaDoor

namespace Go.Proofs.YtafipmkobdhigaaDoor
open Go Go.Proofs.YtafipmkobdhigaaDoor.Sx
set_option linter.unusedVariables false
set_option maxRecDepth 100000 in
theorem t_step0 {n : Nat} {l : List Int} {c : Int} {t : Tk} : callF cfgM 100 19 [.ptr 3 0, .ptr 1 0] (memS n l c ++ [tkB t (.lit .i64 0)]) =
 

 (.br (t.6 == t.3)

 (.ret (.bl true, [.ro encLook [PUnit.unit], .own [.c (.sli 2 (.c 0) 1 (.v n) (some (.v n))), .c (.int .i64 c)] 70, .own [.a (encInt IntKind.u32) n l] 35, .own [.c (.int .i64 t.1), .c (.int .i64 t.2), .c (.int .i64 t.3), .c (.lit .i64 (0 : Int)), .c (.int .i64 t.5), .c (.int .i64 t.6)] 68]))

 (.eq ([Blk.ro encLook [PUnit.unit], .own [.c (.sli 2 (.c 0) 1 (.v n) (some (.v n))), .c (.int .i64 c)] 70, .own [.a (encInt IntKind.u32) n l] 35] = [Blk.ro encLook [PUnit.unit], .own [.c (.sli 2 (.c 0) 1 (.v n) (some (.v n))), .c (.int .i64 c)] 70, .own [.a (encInt IntKind.u32) n l] 35] ∧ l.length = n)

 (.br (inP t.1 n)

 (.need (inR .i64 (t.5 + (1 : Int)))

 (.need (inR .i64 (t.2 - (1 : Int)))

 (.br (l.getD t.1.toNat (0 : Int) == IntKind.u32.wrap (t.2 - (1 : Int)))

 (.ret (.sb (t.6 == t.3), [.ro encLook [PUnit.unit], .own [.c (.sli 2 (.c 0) 1 (.v n) (some (.v n))), .c (.int .i64 (upP c))] 70, .own [.a (encInt IntKind.u32) n (l.set t.1.toNat (incP (l.getD t.1.toNat (0 : Int))))] 35, .own [.c (.int .i64 t.1), .c (.int .i64 t.2), .c (.int .i64 t.3), .c (.lit .i64 (1 : Int)), .c (.int .i64 (t.5 + (1 : Int))), .c (.int .i64 t.6)] 68]))

 (.ret (.sb (t.6 == t.3), [.ro encLook [PUnit.unit], .own [.c (.sli 2 (.c 0) 1 (.v n) (some (.v n))), .c (.int .i64 (upP c))] 70, .own [.a (encInt IntKind.u32) n (l.set t.1.toNat (incP (l.getD t.1.toNat (0 : Int))))] 35, .own [.c (.int .i64 t.1), .c (.int .i64 t.2), .c (.int .i64 t.3), .c (.lit .i64 (3 : Int)), .c (.int .i64 (t.5 + (1 : Int))), .c (.int .i64 t.6)] 68])))))

 (.ret (.bl true, [.ro encLook [PUnit.unit], .own [.c (.sli 2 (.c 0) 1 (.v n) (some (.v n))), .c (.int .i64 c)] 70, .own [.a (encInt IntKind.u32) n l] 35, .own [.c (.int .i64 t.1), .c (.int .i64 t.2), .c (.int .i64 t.3), .c (.lit .i64 (0 : Int)), .c (.int .i64 t.5), .c (.int .i64 t.6)] 68]))))) := by kernel_rfl
set_option maxRecDepth 100000 in
theorem t_step1 {n : Nat} {l : List Int} {c : Int} {t : Tk} : callF cfgM 100 19 [.ptr 3 0, .ptr 1 0] (memS n l c ++ [tkB t (.lit .i64 1)]) =
 

 (.br (t.6 == t.3)

 (.ret (.bl true, [.ro encLook [PUnit.unit], .own [.c (.sli 2 (.c 0) 1 (.v n) (some (.v n))), .c (.int .i64 c)] 70, .own [.a (encInt IntKind.u32) n l] 35, .own [.c (.int .i64 t.1), .c (.int .i64 t.2), .c (.int .i64 t.3), .c (.lit .i64 (1 : Int)), .c (.int .i64 t.5), .c (.int .i64 t.6)] 68]))

 (.eq ([Blk.ro encLook [PUnit.unit], .own [.c (.sli 2 (.c 0) 1 (.v n) (some (.v n))), .c (.int .i64 c)] 70, .own [.a (encInt IntKind.u32) n l] 35] = [Blk.ro encLook [PUnit.unit], .own [.c (.sli 2 (.c 0) 1 (.v n) (some (.v n))), .c (.int .i64 c)] 70, .own [.a (encInt IntKind.u32) n l] 35] ∧ l.length = n)

 (.br (inP t.1 n)

 (.ret (.sb (t.6 == t.3), [.ro encLook [PUnit.unit], .own [.c (.sli 2 (.c 0) 1 (.v n) (some (.v n))), .c (.int .i64 (upP c))] 70, .own [.a (encInt IntKind.u32) n (l.set t.1.toNat (setP (l.getD t.1.toNat (0 : Int)) (0 : Int)))] 35, .own [.c (.int .i64 t.1), .c (.int .i64 t.2), .c (.int .i64 t.3), .c (.lit .i64 (2 : Int)), .c (.int .i64 t.5), .c (.int .i64 t.6)] 68]))

 (.ret (.bl true, [.ro encLook [PUnit.unit], .own [.c (.sli 2 (.c 0) 1 (.v n) (some (.v n))), .c (.int .i64 c)] 70, .own [.a (encInt IntKind.u32) n l] 35, .own [.c (.int .i64 t.1), .c (.int .i64 t.2), .c (.int .i64 t.3), .c (.lit .i64 (2 : Int)), .c (.int .i64 t.5), .c (.int .i64 t.6)] 68]))))) := by kernel_rfl
set_option maxRecDepth 100000 in
theorem t_step2 {n : Nat} {l : List Int} {c : Int} {t : Tk} : callF cfgM 100 19 [.ptr 3 0, .ptr 1 0] (memS n l c ++ [tkB t (.lit .i64 2)]) =
 

 (.br (t.6 == t.3)

 (.ret (.bl true, [.ro encLook [PUnit.unit], .own [.c (.sli 2 (.c 0) 1 (.v n) (some (.v n))), .c (.int .i64 c)] 70, .own [.a (encInt IntKind.u32) n l] 35, .own [.c (.int .i64 t.1), .c (.int .i64 t.2), .c (.int .i64 t.3), .c (.lit .i64 (2 : Int)), .c (.int .i64 t.5), .c (.int .i64 t.6)] 68]))

 (.need (inR .i64 (t.1 + (1 : Int)))

 (.need (true)

 (.eq ([Blk.ro encLook [PUnit.unit], .own [.c (.sli 2 (.c 0) 1 (.v n) (some (.v n))), .c (.int .i64 c)] 70, .own [.a (encInt IntKind.u32) n l] 35] = [Blk.ro encLook [PUnit.unit], .own [.c (.sli 2 (.c 0) 1 (.v n) (some (.v n))), .c (.int .i64 c)] 70, .own [.a (encInt IntKind.u32) n l] 35] ∧ l.length = n)

 (.br (inP (t.1 + (1 : Int)) n)
 (.eq (T.ret (SVal.int IntKind.i64 t.1) = T.ret (SVal.int IntKind.i64 t.1))
 (.eq (T.ret (SVal.int IntKind.i64 t.1) = T.ret (SVal.int IntKind.i64 t.1))

 (.need (inR .i64 (t.6 + (1 : Int)))

 (.ret (.sb (t.6 + (1 : Int) == t.3), [.ro encLook [PUnit.unit], .own [.c (.sli 2 (.c 0) 1 (.v n) (some (.v n))), .c (.int .i64 (upP c))] 70, .own [.a (encInt IntKind.u32) n (l.set (t.1 + (1 : Int)).toNat (setP (l.getD (t.1 + (1 : Int)).toNat (0 : Int)) ((IntKind.u32.wrap t.5).tmod (2 : Int))))] 35, .own [.c (.int .i64 t.1), .c (.int .i64 t.2), .c (.int .i64 t.3), .c (.lit .i64 (0 : Int)), .c (.int .i64 t.5), .c (.int .i64 (t.6 + (1 : Int)))] 68])))))
 (.eq (T.ret (SVal.int IntKind.i64 t.1) = T.ret (SVal.int IntKind.i64 t.1))
 (.eq (T.ret (SVal.int IntKind.i64 t.1) = T.ret (SVal.int IntKind.i64 t.1))

 (.ret (.bl true, [.ro encLook [PUnit.unit], .own [.c (.sli 2 (.c 0) 1 (.v n) (some (.v n))), .c (.int .i64 c)] 70, .own [.a (encInt IntKind.u32) n l] 35, .own [.c (.int .i64 t.1), .c (.int .i64 t.2), .c (.int .i64 t.3), .c (.lit .i64 (2 : Int)), .c (.int .i64 t.5), .c (.int .i64 t.6)] 68]))))))))) := by kernel_rfl
set_option maxRecDepth 100000 in
theorem t_step3 {n : Nat} {l : List Int} {c : Int} {t : Tk} : callF cfgM 100 19 [.ptr 3 0, .ptr 1 0] (memS n l c ++ [tkB t (.lit .i64 3)]) =
 

 (.br (t.6 == t.3)

 (.ret (.bl true, [.ro encLook [PUnit.unit], .own [.c (.sli 2 (.c 0) 1 (.v n) (some (.v n))), .c (.int .i64 c)] 70, .own [.a (encInt IntKind.u32) n l] 35, .own [.c (.int .i64 t.1), .c (.int .i64 t.2), .c (.int .i64 t.3), .c (.lit .i64 (3 : Int)), .c (.int .i64 t.5), .c (.int .i64 t.6)] 68]))

 (.need (inR .i64 (t.1 + (1 : Int)))

 (.eq ([Blk.ro encLook [PUnit.unit], .own [.c (.sli 2 (.c 0) 1 (.v n) (some (.v n))), .c (.int .i64 c)] 70, .own [.a (encInt IntKind.u32) n l] 35] = [Blk.ro encLook [PUnit.unit], .own [.c (.sli 2 (.c 0) 1 (.v n) (some (.v n))), .c (.int .i64 c)] 70, .own [.a (encInt IntKind.u32) n l] 35] ∧ l.length = n)

 (.br (inP (t.1 + (1 : Int)) n)

 (.need (true)

 (.br (l.getD (t.1 + (1 : Int)).toNat (0 : Int) == (IntKind.u32.wrap t.5).tmod (2 : Int))

 (.need (inR .i64 (t.6 + (1 : Int)))

 (.ret (.sb (t.6 + (1 : Int) == t.3), [.ro encLook [PUnit.unit], .own [.c (.sli 2 (.c 0) 1 (.v n) (some (.v n))), .c (.int .i64 (upP c))] 70, .own [.a (encInt IntKind.u32) n l] 35, .own [.c (.int .i64 t.1), .c (.int .i64 t.2), .c (.int .i64 t.3), .c (.lit .i64 (0 : Int)), .c (.int .i64 t.5), .c (.int .i64 (t.6 + (1 : Int)))] 68])))

 (.ret (.sb (t.6 == t.3), [.ro encLook [PUnit.unit], .own [.c (.sli 2 (.c 0) 1 (.v n) (some (.v n))), .c (.int .i64 (upP c))] 70, .own [.a (encInt IntKind.u32) n l] 35, .own [.c (.int .i64 t.1), .c (.int .i64 t.2), .c (.int .i64 t.3), .c (.lit .i64 (3 : Int)), .c (.int .i64 t.5), .c (.int .i64 t.6)] 68]))))

 (.ret (.bl true, [.ro encLook [PUnit.unit], .own [.c (.sli 2 (.c 0) 1 (.v n) (some (.v n))), .c (.int .i64 c)] 70, .own [.a (encInt IntKind.u32) n l] 35, .own [.c (.int .i64 t.1), .c (.int .i64 t.2), .c (.int .i64 t.3), .c (.lit .i64 (3 : Int)), .c (.int .i64 t.5), .c (.int .i64 t.6)] 68])))))) := by kernel_rfl
end Go.Proofs.YtafipmkobdhigaaDoor

/- Layer 11: a waiter's step. -/
namespace Go.Proofs.YtafipmkobdhigaaDoor
open Go Go.Proofs.YtafipmkobdhigaaDoor.Sx
set_option linter.unusedVariables false
/-- behind a round that is passed -/
def passTk (t : Tk) : Tk := {t with phase := 0, passed := t.passed + 1}
/-- a step: the waiter, the words, whether it was the last one -/
def stepP (t : Tk) (l : List Int) : Tk × List Int × Bool :=
  match t.passed == t.rounds with
  | true => (t, l, true)
  | false =>
  match t.phase with
  | 0 => match inP t.at' l.length with
    | true => ({t with came := t.came + 1, phase := match l.getD t.at'.toNat 0 == IntKind.u32.wrap (t.n - 1) with | true => 1 | false => 3}, l.set t.at'.toNat (incP (l.getD t.at'.toNat 0)), false)
    | false => (t, l, true)
  | 1 => match inP t.at' l.length with
    | true => ({t with phase := 2}, l.set t.at'.toNat (setP (l.getD t.at'.toNat 0) 0), false)
    | false => ({t with phase := 2}, l, true)
  | 2 => match inP (t.at' + 1) l.length with
    | true => (passTk t, l.set (t.at' + 1).toNat (setP (l.getD (t.at' + 1).toNat 0) (senseP t.came)), t.passed + 1 == t.rounds)
    | false => (t, l, true)
  | _ => match inP (t.at' + 1) l.length with
    | true => match l.getD (t.at' + 1).toNat 0 == senseP t.came with
      | true => (passTk t, l, t.passed + 1 == t.rounds)
      | false => (t, l, false)
    | false => (t, l, true)
/-- how often the memory was used -/
def usesP (t : Tk) (l : List Int) (c : Int) : Int :=
  match t.passed == t.rounds with
  | true => c
  | false => match inP (match t.phase with | 0 => t.at' | 1 => t.at' | _ => t.at' + 1) l.length with
    | true => upP c
    | false => c
theorem step_len (t : Tk) (l : List Int) : (stepP t l).2.1.length = l.length := by
  unfold stepP
  repeat' (first | split | rfl | (simp only [List.length_set]))
structure TkOk (t : Tk) : Prop where
  at' : -1000 ≤ t.at' ∧ t.at' ≤ 1000
  n : 1 ≤ t.n ∧ t.n ≤ 8
  rounds : 0 ≤ t.passed ∧ t.passed ≤ t.rounds ∧ t.rounds ≤ 1000
  phase : t.phase ≤ 3
  came : t.came = t.passed + (if t.phase = 0 then 0 else 1)
abbrev tkS (n : Nat) (l : List Int) (c : Int) (t : Tk) : St := memS n l c ++ [tkB t (.int .i64 t.phase)]
theorem tkS_ren {n : Nat} {l : List Int} {c : Int} {t : Tk} : renSt (List.range 4) (tkS n l c t) (List.range 4) = some (tkS n l c t) := by kernel_rfl
set_option maxHeartbeats 1000000 in
theorem step_call {t : Tk} (ht : TkOk t) {n : Nat} {l : List Int} (hl : l.length = n) {c : Int} :
    ∀ (env : Env) (w : World) (vs : List Value), GlOk cfgM.gl env → Rep env (tkS n l c t) w → DenL env [.ptr 3 0, .ptr 1 0] vs → Calls cfgM.P 19 ⟨vs⟩ w (Ends1 env (tkS n l c t) w (.sb (stepP t l).2.2) (tkS n (stepP t l).2.1 (usesP t l c) (stepP t l).1)) := by
  obtain ⟨at', nn, rounds, phase, came, passed⟩ := t
  obtain ⟨h1, h2, h3, h4, h5⟩ := ht
  subst hl
  simp only at h1 h2 h3 h4 h5
  have hs : ∀ b, ren (List.range 4) (.sb b) = .sb b := fun _ => rfl
  have hcb : -1 ≤ came ∧ came ≤ 1001 := by split at h5 <;> omega
  match phase, h4 with
  | 0, _ =>
    refine calls_gen (S1 := memS l.length l c ++ [tkB ⟨at', nn, rounds, 0, came, passed⟩ (.lit .i64 0)]) rfl rfl rfl rfl (ends_allg cfgM_ok t_step0 (by kernel_rfl) rfl tkS_ren (hs _) ?_)
    generalize hr : stepP _ l = r
    generalize hc : usesP _ l c = cc
    cases h : passed == rounds with
    | true =>
      have h' := beq_iff_eq.1 h
      simp only [stepP, h] at hr
      simp only [usesP, h] at hc
      subst hr hc
      repeat' (first
        | (refine all_brp (by simp only [decide_eq_true_eq, Bool.and_eq_true, beq_iff_eq, inP_iff, Bool.false_eq_true]; exact Iff.rfl) (fun _ => ?_) (fun _ => ?_) <;> try (first | (exfalso; omega) | contradiction | (rename_i hh; exact (hh trivial).elim) | (rename_i hh; exact False.elim hh) | (rename_i hh; cases hh)))
        | refine all_needq (by simp only [decide_eq_true_eq, Bool.and_eq_true, inR_i64]; exact Iff.rfl) (by omega) ?_
        | refine all_need rfl (fun _ => ?_)
        | refine all_eq (by first | exact ⟨rfl, rfl⟩ | exact ⟨trivial, trivial⟩ | trivial) ?_
        | refine all_eq rfl ?_)
      all_goals exact all_ret ⟨_, rfl, rfl⟩
    | false =>
    have h' := beq_eq_false_iff_ne.1 h
    cases hb : inP at' l.length with
    | false =>
      have hb' := (not_congr (inP_iff _ _)).1 (by rw [hb]; simp)
      simp only [stepP, h, hb] at hr
      simp only [usesP, h, hb] at hc
      subst hr hc
      repeat' (first
        | (refine all_brp (by simp only [decide_eq_true_eq, Bool.and_eq_true, beq_iff_eq, inP_iff, Bool.false_eq_true]; exact Iff.rfl) (fun _ => ?_) (fun _ => ?_) <;> try (first | (exfalso; omega) | contradiction | (rename_i hh; exact (hh trivial).elim) | (rename_i hh; exact False.elim hh) | (rename_i hh; cases hh)))
        | refine all_needq (by simp only [decide_eq_true_eq, Bool.and_eq_true, inR_i64]; exact Iff.rfl) (by omega) ?_
        | refine all_need rfl (fun _ => ?_)
        | refine all_eq (by first | exact ⟨rfl, rfl⟩ | exact ⟨trivial, trivial⟩ | trivial) ?_
        | refine all_eq rfl ?_)
      all_goals exact all_ret ⟨_, rfl, rfl⟩
    | true =>
      have hb' := (inP_iff _ _).1 hb
      cases hq : l.getD at'.toNat 0 == IntKind.u32.wrap (nn - 1) with
      | true =>
        simp only [stepP, h, hb, hq] at hr
        simp only [usesP, h, hb] at hc
        subst hr hc
        repeat' (first
        | (refine all_brp (by simp only [decide_eq_true_eq, Bool.and_eq_true, beq_iff_eq, inP_iff, Bool.false_eq_true]; exact Iff.rfl) (fun _ => ?_) (fun _ => ?_) <;> try (first | (exfalso; omega) | contradiction | (rename_i hh; exact (hh trivial).elim) | (rename_i hh; exact False.elim hh) | (rename_i hh; cases hh)))
        | refine all_needq (by simp only [decide_eq_true_eq, Bool.and_eq_true, inR_i64]; exact Iff.rfl) (by omega) ?_
        | refine all_need rfl (fun _ => ?_)
        | refine all_eq (by first | exact ⟨rfl, rfl⟩ | exact ⟨trivial, trivial⟩ | trivial) ?_
        | refine all_eq rfl ?_)
        all_goals simp only [h]
        all_goals exact all_ret ⟨_, rfl, rfl⟩
      | false =>
        simp only [stepP, h, hb, hq] at hr
        simp only [usesP, h, hb] at hc
        subst hr hc
        repeat' (first
        | (refine all_brp (by simp only [decide_eq_true_eq, Bool.and_eq_true, beq_iff_eq, inP_iff, Bool.false_eq_true]; exact Iff.rfl) (fun _ => ?_) (fun _ => ?_) <;> try (first | (exfalso; omega) | contradiction | (rename_i hh; exact (hh trivial).elim) | (rename_i hh; exact False.elim hh) | (rename_i hh; cases hh)))
        | refine all_needq (by simp only [decide_eq_true_eq, Bool.and_eq_true, inR_i64]; exact Iff.rfl) (by omega) ?_
        | refine all_need rfl (fun _ => ?_)
        | refine all_eq (by first | exact ⟨rfl, rfl⟩ | exact ⟨trivial, trivial⟩ | trivial) ?_
        | refine all_eq rfl ?_)
        all_goals simp only [h]
        all_goals exact all_ret ⟨_, rfl, rfl⟩
  | 1, _ =>
    refine calls_gen (S1 := memS l.length l c ++ [tkB ⟨at', nn, rounds, 1, came, passed⟩ (.lit .i64 1)]) rfl rfl rfl rfl (ends_allg cfgM_ok t_step1 (by kernel_rfl) rfl tkS_ren (hs _) ?_)
    generalize hr : stepP _ l = r
    generalize hc : usesP _ l c = cc
    cases h : passed == rounds with
    | true =>
      have h' := beq_iff_eq.1 h
      simp only [stepP, h] at hr
      simp only [usesP, h] at hc
      subst hr hc
      repeat' (first
        | (refine all_brp (by simp only [decide_eq_true_eq, Bool.and_eq_true, beq_iff_eq, inP_iff, Bool.false_eq_true]; exact Iff.rfl) (fun _ => ?_) (fun _ => ?_) <;> try (first | (exfalso; omega) | contradiction | (rename_i hh; exact (hh trivial).elim) | (rename_i hh; exact False.elim hh) | (rename_i hh; cases hh)))
        | refine all_needq (by simp only [decide_eq_true_eq, Bool.and_eq_true, inR_i64]; exact Iff.rfl) (by omega) ?_
        | refine all_need rfl (fun _ => ?_)
        | refine all_eq (by first | exact ⟨rfl, rfl⟩ | exact ⟨trivial, trivial⟩ | trivial) ?_
        | refine all_eq rfl ?_)
      all_goals exact all_ret ⟨_, rfl, rfl⟩
    | false =>
    have h' := beq_eq_false_iff_ne.1 h
    cases hb : inP at' l.length with
    | false =>
      have hb' := (not_congr (inP_iff _ _)).1 (by rw [hb]; simp)
      simp only [stepP, h, hb] at hr
      simp only [usesP, h, hb] at hc
      subst hr hc
      repeat' (first
        | (refine all_brp (by simp only [decide_eq_true_eq, Bool.and_eq_true, beq_iff_eq, inP_iff, Bool.false_eq_true]; exact Iff.rfl) (fun _ => ?_) (fun _ => ?_) <;> try (first | (exfalso; omega) | contradiction | (rename_i hh; exact (hh trivial).elim) | (rename_i hh; exact False.elim hh) | (rename_i hh; cases hh)))
        | refine all_needq (by simp only [decide_eq_true_eq, Bool.and_eq_true, inR_i64]; exact Iff.rfl) (by omega) ?_
        | refine all_need rfl (fun _ => ?_)
        | refine all_eq (by first | exact ⟨rfl, rfl⟩ | exact ⟨trivial, trivial⟩ | trivial) ?_
        | refine all_eq rfl ?_)
      all_goals exact all_ret ⟨_, rfl, rfl⟩
    | true =>
      have hb' := (inP_iff _ _).1 hb
      simp only [stepP, h, hb, passTk] at hr
      simp only [usesP, h, hb] at hc
      subst hr hc
      repeat' (first
        | (refine all_brp (by simp only [decide_eq_true_eq, Bool.and_eq_true, beq_iff_eq, inP_iff, Bool.false_eq_true]; exact Iff.rfl) (fun _ => ?_) (fun _ => ?_) <;> try (first | (exfalso; omega) | contradiction | (rename_i hh; exact (hh trivial).elim) | (rename_i hh; exact False.elim hh) | (rename_i hh; cases hh)))
        | refine all_needq (by simp only [decide_eq_true_eq, Bool.and_eq_true, inR_i64]; exact Iff.rfl) (by omega) ?_
        | refine all_need rfl (fun _ => ?_)
        | refine all_eq (by first | exact ⟨rfl, rfl⟩ | exact ⟨trivial, trivial⟩ | trivial) ?_
        | refine all_eq rfl ?_)
      all_goals simp only [h]
      all_goals exact all_ret ⟨_, rfl, rfl⟩
  | 2, _ =>
    refine calls_gen (S1 := memS l.length l c ++ [tkB ⟨at', nn, rounds, 2, came, passed⟩ (.lit .i64 2)]) rfl rfl rfl rfl (ends_allg cfgM_ok t_step2 (by kernel_rfl) rfl tkS_ren (hs _) ?_)
    generalize hr : stepP _ l = r
    generalize hc : usesP _ l c = cc
    cases h : passed == rounds with
    | true =>
      have h' := beq_iff_eq.1 h
      simp only [stepP, h] at hr
      simp only [usesP, h] at hc
      subst hr hc
      repeat' (first
        | (refine all_brp (by simp only [decide_eq_true_eq, Bool.and_eq_true, beq_iff_eq, inP_iff, Bool.false_eq_true]; exact Iff.rfl) (fun _ => ?_) (fun _ => ?_) <;> try (first | (exfalso; omega) | contradiction | (rename_i hh; exact (hh trivial).elim) | (rename_i hh; exact False.elim hh) | (rename_i hh; cases hh)))
        | refine all_needq (by simp only [decide_eq_true_eq, Bool.and_eq_true, inR_i64]; exact Iff.rfl) (by omega) ?_
        | refine all_need rfl (fun _ => ?_)
        | refine all_eq (by first | exact ⟨rfl, rfl⟩ | exact ⟨trivial, trivial⟩ | trivial) ?_
        | refine all_eq rfl ?_)
      all_goals exact all_ret ⟨_, rfl, rfl⟩
    | false =>
    have h' := beq_eq_false_iff_ne.1 h
    cases hb : inP (at' + 1) l.length with
    | false =>
      have hb' := (not_congr (inP_iff _ _)).1 (by rw [hb]; simp)
      simp only [stepP, h, hb] at hr
      simp only [usesP, h, hb] at hc
      subst hr hc
      repeat' (first
        | (refine all_brp (by simp only [decide_eq_true_eq, Bool.and_eq_true, beq_iff_eq, inP_iff, Bool.false_eq_true]; exact Iff.rfl) (fun _ => ?_) (fun _ => ?_) <;> try (first | (exfalso; omega) | contradiction | (rename_i hh; exact (hh trivial).elim) | (rename_i hh; exact False.elim hh) | (rename_i hh; cases hh)))
        | refine all_needq (by simp only [decide_eq_true_eq, Bool.and_eq_true, inR_i64]; exact Iff.rfl) (by omega) ?_
        | refine all_need rfl (fun _ => ?_)
        | refine all_eq (by first | exact ⟨rfl, rfl⟩ | exact ⟨trivial, trivial⟩ | trivial) ?_
        | refine all_eq rfl ?_)
      all_goals exact all_ret ⟨_, rfl, rfl⟩
    | true =>
      have hb' := (inP_iff _ _).1 hb
      simp only [stepP, h, hb, passTk] at hr
      simp only [usesP, h, hb] at hc
      subst hr hc
      repeat' (first
        | (refine all_brp (by simp only [decide_eq_true_eq, Bool.and_eq_true, beq_iff_eq, inP_iff, Bool.false_eq_true]; exact Iff.rfl) (fun _ => ?_) (fun _ => ?_) <;> try (first | (exfalso; omega) | contradiction | (rename_i hh; exact (hh trivial).elim) | (rename_i hh; exact False.elim hh) | (rename_i hh; cases hh)))
        | refine all_needq (by simp only [decide_eq_true_eq, Bool.and_eq_true, inR_i64]; exact Iff.rfl) (by omega) ?_
        | refine all_need rfl (fun _ => ?_)
        | refine all_eq (by first | exact ⟨rfl, rfl⟩ | exact ⟨trivial, trivial⟩ | trivial) ?_
        | refine all_eq rfl ?_)
      all_goals simp only [h]
      all_goals exact all_ret ⟨_, rfl, rfl⟩
  | 3, _ =>
    refine calls_gen (S1 := memS l.length l c ++ [tkB ⟨at', nn, rounds, 3, came, passed⟩ (.lit .i64 3)]) rfl rfl rfl rfl (ends_allg cfgM_ok t_step3 (by kernel_rfl) rfl tkS_ren (hs _) ?_)
    generalize hr : stepP _ l = r
    generalize hc : usesP _ l c = cc
    cases h : passed == rounds with
    | true =>
      have h' := beq_iff_eq.1 h
      simp only [stepP, h] at hr
      simp only [usesP, h] at hc
      subst hr hc
      repeat' (first
        | (refine all_brp (by simp only [decide_eq_true_eq, Bool.and_eq_true, beq_iff_eq, inP_iff, Bool.false_eq_true]; exact Iff.rfl) (fun _ => ?_) (fun _ => ?_) <;> try (first | (exfalso; omega) | contradiction | (rename_i hh; exact (hh trivial).elim) | (rename_i hh; exact False.elim hh) | (rename_i hh; cases hh)))
        | refine all_needq (by simp only [decide_eq_true_eq, Bool.and_eq_true, inR_i64]; exact Iff.rfl) (by omega) ?_
        | refine all_need rfl (fun _ => ?_)
        | refine all_eq (by first | exact ⟨rfl, rfl⟩ | exact ⟨trivial, trivial⟩ | trivial) ?_
        | refine all_eq rfl ?_)
      all_goals exact all_ret ⟨_, rfl, rfl⟩
    | false =>
    have h' := beq_eq_false_iff_ne.1 h
    cases hb : inP (at' + 1) l.length with
    | false =>
      have hb' := (not_congr (inP_iff _ _)).1 (by rw [hb]; simp)
      simp only [stepP, h, hb] at hr
      simp only [usesP, h, hb] at hc
      subst hr hc
      repeat' (first
        | (refine all_brp (by simp only [decide_eq_true_eq, Bool.and_eq_true, beq_iff_eq, inP_iff, Bool.false_eq_true]; exact Iff.rfl) (fun _ => ?_) (fun _ => ?_) <;> try (first | (exfalso; omega) | contradiction | (rename_i hh; exact (hh trivial).elim) | (rename_i hh; exact False.elim hh) | (rename_i hh; cases hh)))
        | refine all_needq (by simp only [decide_eq_true_eq, Bool.and_eq_true, inR_i64]; exact Iff.rfl) (by omega) ?_
        | refine all_need rfl (fun _ => ?_)
        | refine all_eq (by first | exact ⟨rfl, rfl⟩ | exact ⟨trivial, trivial⟩ | trivial) ?_
        | refine all_eq rfl ?_)
      all_goals exact all_ret ⟨_, rfl, rfl⟩
    | true =>
      have hb' := (inP_iff _ _).1 hb
      have hsn : senseP came = (IntKind.u32.wrap came).tmod 2 := rfl
      cases hq : l.getD (at' + 1).toNat 0 == senseP came with
      | true =>
        simp only [stepP, h, hb, hq, passTk] at hr
        simp only [usesP, h, hb] at hc
        subst hr hc
        rw [hsn] at hq
        have hq' := beq_iff_eq.1 hq
        repeat' (first
        | (refine all_brp (by simp only [decide_eq_true_eq, Bool.and_eq_true, beq_iff_eq, inP_iff, Bool.false_eq_true]; exact Iff.rfl) (fun _ => ?_) (fun _ => ?_) <;> try (first | (exfalso; omega) | contradiction | (rename_i hh; exact absurd hq' hh) | (rename_i hh; exact absurd hh hq') | (rename_i hh; exact (hh trivial).elim) | (rename_i hh; exact False.elim hh) | (rename_i hh; cases hh)))
        | refine all_needq (by simp only [decide_eq_true_eq, Bool.and_eq_true, inR_i64]; exact Iff.rfl) (by omega) ?_
        | refine all_need rfl (fun _ => ?_)
        | refine all_eq (by first | exact ⟨rfl, rfl⟩ | exact ⟨trivial, trivial⟩ | trivial) ?_
        | refine all_eq rfl ?_)
        all_goals exact all_ret ⟨_, rfl, rfl⟩
      | false =>
        simp only [stepP, h, hb, hq] at hr
        simp only [usesP, h, hb] at hc
        subst hr hc
        rw [hsn] at hq
        have hq' := beq_eq_false_iff_ne.1 hq
        repeat' (first
        | (refine all_brp (by simp only [decide_eq_true_eq, Bool.and_eq_true, beq_iff_eq, inP_iff, Bool.false_eq_true]; exact Iff.rfl) (fun _ => ?_) (fun _ => ?_) <;> try (first | (exfalso; omega) | contradiction | (rename_i hh; exact absurd hq' hh) | (rename_i hh; exact absurd hh hq') | (rename_i hh; exact (hh trivial).elim) | (rename_i hh; exact False.elim hh) | (rename_i hh; cases hh)))
        | refine all_needq (by simp only [decide_eq_true_eq, Bool.and_eq_true, inR_i64]; exact Iff.rfl) (by omega) ?_
        | refine all_need rfl (fun _ => ?_)
        | refine all_eq (by first | exact ⟨rfl, rfl⟩ | exact ⟨trivial, trivial⟩ | trivial) ?_
        | refine all_eq rfl ?_)
        all_goals simp only [h]
        all_goals exact all_ret ⟨_, rfl, rfl⟩
/-- what a step leaves: the waiter, the words, whether it is done -/
def tkP (t : Tk) (l : List Int) : Tk := (stepP t l).1
def wordsP (t : Tk) (l : List Int) : List Int := (stepP t l).2.1
def doneP (t : Tk) (l : List Int) : Bool := (stepP t l).2.2
def encTk : Enc Tk := encOf 5 (fun t => [.int .i64 t.at', .int .i64 t.n, .int .i64 t.rounds, .int .i64 t.phase, .int .i64 t.came, .int .i64 t.passed]) ⟨0, 0, 0, 0, 0, 0⟩ (fun _ => rfl) (by intro env env' x vs h; simpa [DenL, Den] using h)
abbrev famS (n : Nat) (l : List Int) (c : Int) (xs : List Tk) : St := memS n l c ++ [.many encTk xs 68]
theorem step_fam {n : Nat} {l : List Int} (hl : l.length = n) {c : Int} {xs : List Tk} {i : Nat} (hi : i < xs.length) (ht : TkOk (xs.getD i encTk.dflt)) :
    ∀ (env : Env) (w : World) (vs : List Value), GlOk cfgM.gl env → Rep env (famS n l c xs) w → DenL env [.pto 3 i 0, .ptr 1 0] vs →
      Calls cfgM.P 19 ⟨vs⟩ w (Ends1 env (famS n l c xs) w (.sb (doneP (xs.getD i encTk.dflt) l)) (famS n (wordsP (xs.getD i encTk.dflt) l) (usesP (xs.getD i encTk.dflt) l c) (xs.set i (tkP (xs.getD i encTk.dflt) l)))) :=
  focus (S := memS n l c) (S' := memS n (wordsP (xs.getD i encTk.dflt) l) (usesP (xs.getD i encTk.dflt) l c)) (E := encTk) (A := [.ptr 1 0]) hi (step_call ht hl) rfl rfl rfl (gl_lt (by simp)) memS_ren memS_ren (fun _ => rfl) memS_ro
/-- a machine's pick asks for it -/
noncomputable def gStep (n : Nat) (l : List Int) (c : Int) (xs : List Tk) (args : List SVal) (st : St) : T (SVal × St) := match args with
  | [.pto 3 i 0, .ptr 1 0] => .eq (st = famS n l c xs ∧ l.length = n ∧ i < xs.length ∧ TkOk (xs.getD i encTk.dflt))
      (.ret (.sb (doneP (xs.getD i encTk.dflt) l), famS n (wordsP (xs.getD i encTk.dflt) l) (usesP (xs.getD i encTk.dflt) l c) (xs.set i (tkP (xs.getD i encTk.dflt) l))))
  | _ => .no 172
theorem famS_ren {n : Nat} {l : List Int} {c : Int} {xs : List Tk} : renSt (List.range 4) (famS n l c xs) (List.range 4) = some (famS n l c xs) := by kernel_rfl
theorem famS_ro {n n' : Nat} {l l' : List Int} {c c' : Int} {xs xs' : List Tk} : roSame (famS n l c xs) (famS n' l' c' xs') :=
  roSame_cons (.inr rfl) (roSame_cons (.inl rfl) (roSame_cons (.inl rfl) (roSame_cons (.inl rfl) roSame_nil)))
theorem gStep_ok {n : Nat} {l : List Int} {c : Int} {xs : List Tk} (args : List SVal) (S : St) (s : SVal) (S' : St) (h : (gStep n l c xs args S).at (s, S')) : PreOk cfgM 4 19 args S s S' := by
  unfold gStep at h
  split at h
  · rename_i i
    obtain ⟨⟨e0, hl, hi, ht⟩, h⟩ := h
    simp only [T.at, Prod.mk.injEq] at h
    obtain ⟨rfl, rfl⟩ := h
    rw [e0]
    exact ⟨step_fam hl hi ht, rfl, rfl, famS_ro, famS_ren, rfl⟩
  · exact h.elim
end Go.Proofs.YtafipmkobdhigaaDoor

/- Layer 11: a machine of takers. -/
namespace Go.Proofs.YtafipmkobdhigaaDoor
open Go Go.Proofs.YtafipmkobdhigaaDoor.Sx
set_option linter.unusedVariables false
/-- with a family's steps -/
noncomputable def cfgP (n : Nat) (l : List Int) (c : Int) (xs : List Tk) : Cfg := { P := Tryd.prog, ex := exI, gl := [(0, 0)], sm := fun f => match f with | 19 => some (smPre 4 (gStep n l c xs)) | _ => none }
theorem cfgP_ok {n : Nat} {l : List Int} {c : Int} {xs : List Tk} : SmOk (cfgP n l c xs) := by
  intro f g h
  simp only [cfgP] at h
  split at h
  · simp only [Option.some.injEq] at h; subst h
    exact smPre_ok (c := cfgM) (gl_lt (by omega)) gStep_ok
  · cases h
/-- a task, by its place in its family -/
def encT (t id : Nat) : Enc Nat where
  tag := .other
  shut := false
  shutOk := by simp
  sz := 1
  enc x := [.ifc t (.pto id x 0)]
  dec l := match l with
    | [.ifc t' (.pto i x j)] => match Nat.decEq t' t, Nat.decEq i id, Nat.decEq j 0 with
      | .isTrue _, .isTrue _, .isTrue _ => some x
      | _, _, _ => none
    | _ => none
  dflt := 0
  top := some (id + 1)
  topOk := by
    intro k hk m hm x
    simp only [Option.some.injEq] at hk; subst hk
    simp [renL, ren, idx_pref hm (Nat.lt_succ_self id)]
  pos := by omega
  len _ := rfl
  ok := by
    intro env l x vs h hd
    split at h
    · split at h
      · rename_i h1 h2 h3 _ _ _
        subst h1 h2 h3
        simp only [Option.some.injEq] at h; subst h
        exact hd
      · cases h
    · cases h
abbrev machB (m : Nat) : Blk := .own [.c (.ptr 1 0), .c (.sli 5 (.c 0) 1 (.v m) none), .c (.sli 6 (.c 0) 1 (.v m) (some (.v m)))] 64
abbrev pickS (n : Nat) (l : List Int) (c : Int) (xs : List Tk) (m : Nat) (ts : List Nat) (ds : List Bool) : St := famS n l c xs ++ [machB m, .vec (encT 30 3) ts 66, .own [.a encBool m ds] 4]
end Go.Proofs.YtafipmkobdhigaaDoor

namespace Go.Proofs.YtafipmkobdhigaaDoor
open Go Go.Proofs.YtafipmkobdhigaaDoor.Sx
set_option linter.unusedVariables false
set_option maxRecDepth 100000 in
theorem t_pick {n : Nat} {l : List Int} {c : Int} {xs : List Tk} {m : Nat} {ts : List Nat} {ds : List Bool} {i : Int} : callF (cfgP n l c xs) 100 9 [.ptr 4 0, .int .i64 i] (pickS n l c xs m ts ds) =
 

 (.br (decide (i < (0 : Int)))

 (.ret (.lit .i64 (90 : Int), [.ro encLook [PUnit.unit], .own [.c (.sli 2 (.c 0) 1 (.v n) (some (.v n))), .c (.int .i64 c)] 70, .own [.a (encInt IntKind.u32) n l] 35, .many encTk xs 68, .own [.c (.ptr 1 0), .c (.sli 5 (.c 0) 1 (.v m) none), .c (.sli 6 (.c 0) 1 (.v m) (some (.v m)))] 64, .vec (encT 30 3) ts 66, .own [.a encBool m ds] 4]))

 (.br (decide ((↑m : Int) ≤ i))

 (.ret (.lit .i64 (90 : Int), [.ro encLook [PUnit.unit], .own [.c (.sli 2 (.c 0) 1 (.v n) (some (.v n))), .c (.int .i64 c)] 70, .own [.a (encInt IntKind.u32) n l] 35, .many encTk xs 68, .own [.c (.ptr 1 0), .c (.sli 5 (.c 0) 1 (.v m) none), .c (.sli 6 (.c 0) 1 (.v m) (some (.v m)))] 64, .vec (encT 30 3) ts 66, .own [.a encBool m ds] 4]))

 (.need (decide ((0 : Int) ≤ i) && decide (i.toNat < m))

 (.need (decide (i.toNat < m))

 (.br (ds.getD i.toNat false)

 (.ret (.lit .i64 (91 : Int), [.ro encLook [PUnit.unit], .own [.c (.sli 2 (.c 0) 1 (.v n) (some (.v n))), .c (.int .i64 c)] 70, .own [.a (encInt IntKind.u32) n l] 35, .many encTk xs 68, .own [.c (.ptr 1 0), .c (.sli 5 (.c 0) 1 (.v m) none), .c (.sli 6 (.c 0) 1 (.v m) (some (.v m)))] 64, .vec (encT 30 3) ts 66, .own [.a encBool m ds] 4]))

 (.need (decide ((0 : Int) ≤ i) && decide (i.toNat < m))

 (.need (decide (i.toNat < ts.length))

 (.eq ([Blk.ro encLook [PUnit.unit], .own [.c (.sli 2 (.c 0) 1 (.v n) (some (.v n))), .c (.int .i64 c)] 70, .own [.a (encInt IntKind.u32) n l] 35, .many encTk xs 68] = [Blk.ro encLook [PUnit.unit], .own [.c (.sli 2 (.c 0) 1 (.v n) (some (.v n))), .c (.int .i64 c)] 70, .own [.a (encInt IntKind.u32) n l] 35, .many encTk xs 68] ∧ l.length = n ∧ ts.getD i.toNat 0 < xs.length ∧ TkOk (xs.getD (ts.getD i.toNat 0) encTk.dflt))

 (.need (decide ((0 : Int) ≤ i) && decide (i.toNat < m))

 (.need (decide (i.toNat < m))
 (.eq (T.ret (SVal.sli (6 : Nat) (NN.c (0 : Nat)) (1 : Nat) (NN.v m) (some (NN.v m))) = T.ret (SVal.sli (6 : Nat) (NN.c (0 : Nat)) (1 : Nat) (NN.v m) (some (NN.v m))))
 (.eq (T.ret (SVal.sli (6 : Nat) (NN.c (0 : Nat)) (1 : Nat) (NN.v m) (some (NN.v m))) = T.ret (SVal.sli (6 : Nat) (NN.c (0 : Nat)) (1 : Nat) (NN.v m) (some (NN.v m))))
 (.eq (T.ret (SVal.sli (5 : Nat) (NN.c (0 : Nat)) (1 : Nat) (NN.v m) none) = T.ret (SVal.sli (5 : Nat) (NN.c (0 : Nat)) (1 : Nat) (NN.v m) none))
 (.eq (T.need (decide (i.toNat < ts.length)) (T.ret ([SVal.ifc (30 : Nat) (SVal.pto (3 : Nat) (ts.getD i.toNat (0 : Nat)) (0 : Nat))].getD (0 : Nat) SVal.bad)) = T.need (decide (i.toNat < ts.length)) (T.ret ([SVal.ifc (30 : Nat) (SVal.pto (3 : Nat) (ts.getD i.toNat (0 : Nat)) (0 : Nat))].getD (0 : Nat) SVal.bad)))

 (.ret (.lit .i64 (0 : Int), [.ro encLook [PUnit.unit], .own [.c (.sli 2 (.c 0) 1 (.v n) (some (.v n))), .c (.int .i64 (usesP (xs.getD (ts.getD i.toNat 0) { at' := (0 : Int), n := (0 : Int), rounds := (0 : Int), phase := 0, came := (0 : Int), passed := (0 : Int) }) l c))] 70, .own [.a (encInt IntKind.u32) n (wordsP (xs.getD (ts.getD i.toNat 0) { at' := (0 : Int), n := (0 : Int), rounds := (0 : Int), phase := 0, came := (0 : Int), passed := (0 : Int) }) l)] 35, .many encTk (xs.set (ts.getD i.toNat 0) (tkP (xs.getD (ts.getD i.toNat 0) { at' := (0 : Int), n := (0 : Int), rounds := (0 : Int), phase := 0, came := (0 : Int), passed := (0 : Int) }) l)) 68, .own [.c (.ptr 1 0), .c (.sli 5 (.c 0) 1 (.v m) none), .c (.sli 6 (.c 0) 1 (.v m) (some (.v m)))] 64, .vec (encT 30 3) ts 66, .own [.a encBool m (ds.set i.toNat (doneP (xs.getD (ts.getD i.toNat 0) { at' := (0 : Int), n := (0 : Int), rounds := (0 : Int), phase := 0, came := (0 : Int), passed := (0 : Int) }) l))] 4])))))))))))))))) := by kernel_rfl
end Go.Proofs.YtafipmkobdhigaaDoor

/- Layer 11: what a pick comes to. -/
namespace Go.Proofs.YtafipmkobdhigaaDoor
open Go Go.Proofs.YtafipmkobdhigaaDoor.Sx
set_option linter.unusedVariables false
/-- a machine: the words, how often they were used, takers, who is done -/
structure Mc where
  l : List Int
  c : Int
  xs : List Tk
  ds : List Bool
abbrev tkAt (s : Mc) (i : Nat) : Tk := s.xs.getD i encTk.dflt
/-- a pick -/
def pickP (m : Nat) (s : Mc) (i : Int) : Mc :=
  match inP i m with
  | true => match s.ds.getD i.toNat false with
    | true => s
    | false => ⟨wordsP (tkAt s i.toNat) s.l, usesP (tkAt s i.toNat) s.l s.c, s.xs.set i.toNat (tkP (tkAt s i.toNat) s.l), s.ds.set i.toNat (doneP (tkAt s i.toNat) s.l)⟩
  | false => s
/-- what it answers -/
def errP (m : Nat) (s : Mc) (i : Int) : Int :=
  match inP i m with
  | true => match s.ds.getD i.toNat false with
    | true => 91
    | false => 0
  | false => 90
structure McOk (n m : Nat) (s : Mc) : Prop where
  l : s.l.length = n
  xs : s.xs.length = m
  ds : s.ds.length = m
  tk : ∀ i, i < m → TkOk (tkAt s i)
abbrev mcS (n m : Nat) (s : Mc) : St := pickS n s.l s.c s.xs m (List.range m) s.ds
theorem mcS_ren {n m : Nat} {s : Mc} : renSt (List.range 7) (mcS n m s) (List.range 7) = some (mcS n m s) := by kernel_rfl
theorem mcS_ro {n m : Nat} {s s' : Mc} : roSame (mcS n m s) (mcS n m s') :=
  roSame_cons (.inr rfl) (roSame_cons (.inl rfl) (roSame_cons (.inl rfl) (roSame_cons (.inl rfl) (roSame_cons (.inl rfl) (roSame_cons (.inl rfl) (roSame_cons (.inl rfl) roSame_nil))))))
theorem pick_call {n m : Nat} {s : Mc} (hs : McOk n m s) {i : Int} :
    ∀ (env : Env) (w : World) (vs : List Value), GlOk cfgM.gl env → Rep env (mcS n m s) w → DenL env [.ptr 4 0, .int .i64 i] vs → Calls cfgM.P 9 ⟨vs⟩ w (Ends1 env (mcS n m s) w (.int .i64 (errP m s i)) (mcS n m (pickP m s i))) := by
  obtain ⟨l, c, xs, ds⟩ := s
  obtain ⟨h1, h2, h3, h4⟩ := hs
  simp only at h1 h2 h3
  refine ends_allg (c := cfgP n l c xs) cfgP_ok t_pick (by kernel_rfl) rfl mcS_ren rfl ?_
  generalize hr : pickP m _ i = r
  generalize he : errP m _ i = er
  cases hb : inP i m with
  | false =>
    have hb' := (not_congr (inP_iff _ _)).1 (by rw [hb]; simp)
    simp only [pickP, hb] at hr
    simp only [errP, hb] at he
    subst hr he
    repeat' (first
      | (refine all_brp (by simp only [decide_eq_true_eq]; exact Iff.rfl) (fun _ => ?_) (fun _ => ?_) <;> try (exfalso; omega))
      | exact all_ret ⟨[], rfl, rfl⟩)
  | true =>
    have hb' := (inP_iff _ _).1 hb
    have hk : (List.range m).getD i.toNat 0 = i.toNat := getD_range (by omega)
    refine all_brp (by simp only [decide_eq_true_eq]; exact Iff.rfl) (fun _ => by exfalso; omega) (fun _ => ?_)
    refine all_brp (by simp only [decide_eq_true_eq]; exact Iff.rfl) (fun _ => by exfalso; omega) (fun _ => ?_)
    refine all_needq (by simp only [decide_eq_true_eq, Bool.and_eq_true]; exact Iff.rfl) (by omega) ?_
    refine all_needq (by simp only [decide_eq_true_eq]; exact Iff.rfl) (by omega) ?_
    refine all_br (fun hd => ?_) (fun hd => ?_)
    · simp only [pickP, hb, hd] at hr
      simp only [errP, hb, hd] at he
      subst hr he
      exact all_ret ⟨[], rfl, rfl⟩
    · simp only [pickP, hb, hd] at hr
      simp only [errP, hb, hd] at he
      subst hr he
      rw [hk]
      refine all_needq (by simp only [decide_eq_true_eq, Bool.and_eq_true]; exact Iff.rfl) (by omega) ?_
      refine all_needq (by simp only [decide_eq_true_eq, List.length_range]; exact Iff.rfl) (by omega) ?_
      refine all_eq ⟨rfl, h1, by omega, h4 _ (by omega)⟩ ?_
      refine all_needq (by simp only [decide_eq_true_eq, Bool.and_eq_true]; exact Iff.rfl) (by omega) ?_
      refine all_needq (by simp only [decide_eq_true_eq]; exact Iff.rfl) (by omega) ?_
      refine all_eq rfl (all_eq rfl (all_eq rfl (all_eq rfl (all_ret ⟨[], rfl, rfl⟩))))
noncomputable def gPick (n m : Nat) (s : Mc) (args : List SVal) (st : St) : T (SVal × St) := match args with
  | [.ptr 4 0, a] => match asI a with
    | some (.i64, i, _) => .eq (st = mcS n m s ∧ McOk n m s) (.ret (.int .i64 (errP m s i), mcS n m (pickP m s i)))
    | _ => .no 173
  | _ => .no 174
theorem gPick_ok {n m : Nat} {s : Mc} (args : List SVal) (S : St) (v : SVal) (S' : St) (h : (gPick n m s args S).at (v, S')) : PreOk cfgM 7 9 args S v S' := by
  unfold gPick at h
  split at h
  · rename_i a
    split at h
    · rename_i i la h1
      obtain ⟨⟨rfl, hs⟩, h⟩ := h
      simp only [T.at, Prod.mk.injEq] at h
      obtain ⟨rfl, rfl⟩ := h
      refine ⟨fun env w vs hg hr hd => ?_, rfl, rfl, mcS_ro, mcS_ren, by simp only [renL, asI_ren h1]; rfl⟩
      obtain ⟨u, us, rfl, h4, u2, us2, rfl, h5, rfl⟩ := hd
      exact pick_call hs env w _ hg hr ⟨_, _, rfl, h4, _, _, rfl, asI_int h1 h5, rfl⟩
    · exact h.elim
  · exact h.elim
/-- with a machine's picks, and memory -/
noncomputable def cfgQ (n m : Nat) (s : Mc) : Cfg := { P := Tryd.prog, ex := exI, gl := [(0, 0)], sm := fun f => match f with | 9 => some (smPre 7 (gPick n m s)) | 30 => some (smPre 3 gLoad) | _ => none }
theorem cfgQ_ok {n m : Nat} {s : Mc} : SmOk (cfgQ n m s) := by
  intro f g h
  simp only [cfgQ] at h
  split at h
  · simp only [Option.some.injEq] at h; subst h
    exact smPre_ok (c := cfgM) (gl_lt (by omega)) gPick_ok
  · simp only [Option.some.injEq] at h; subst h
    exact smPre_ok (c := cfgW) (gl_lt (by omega)) load_ok
  · cases h
end Go.Proofs.YtafipmkobdhigaaDoor

/- Layer 11: how many are left; rounds: pieces. -/
namespace Go.Proofs.YtafipmkobdhigaaDoor
open Go Go.Proofs.YtafipmkobdhigaaDoor.Sx
set_option linter.unusedVariables false
/-- how many aren't done -/
def leftP (ds : List Bool) : Int := ((ds.filter fun b => !b).length : Nat)
noncomputable def b25 : Code := Tryd.f13.body.getD .skip
noncomputable def c25 : Code := restC 2 b25
noncomputable def reg25 : Code := lft (lft c25)
noncomputable def blk25 : Code := rgt (lft c25)
noncomputable def lp25 : Code := lft (lft blk25)
noncomputable def end25 : Code := rgt c25
abbrev n25a : List Nat := [0, 3]
abbrev n25b : List Nat := [3, 9, 10, 11]
abbrev v25 (m : Nat) (c k : Int) : List SVal := [.int .i64 c, .sli 6 (.c 0) 1 (.v m) (some (.v m)), .int .i64 (m : Nat), .int .i64 k]
end Go.Proofs.YtafipmkobdhigaaDoor

namespace Go.Proofs.YtafipmkobdhigaaDoor
open Go Go.Proofs.YtafipmkobdhigaaDoor.Sx
set_option linter.unusedVariables false
set_option maxRecDepth 100000 in
theorem t25_pre {n m : Nat} {s : Mc} : (execN cfgM 100 2 b25 ([.ptr 4 0] ++ List.replicate 20 .bad) (mcS n m s)).bind (canonK 7 [(0,0)] 21 n25a) =
 

 (.ret (.normal, [.ptr 4 0, .lit .i64 (0 : Int)], [.ro encLook [PUnit.unit], .own [.c (.sli 2 (.c 0) 1 (.v n) (some (.v n))), .c (.int .i64 s.2)] 70, .own [.a (encInt IntKind.u32) n s.1] 35, .many encTk s.3 68, .own [.c (.ptr 1 0), .c (.sli 5 (.c 0) 1 (.v m) none), .c (.sli 6 (.c 0) 1 (.v m) (some (.v m)))] 64, .vec (encT 30 3) (List.range m) 66, .own [.a encBool m s.4] 4])) := by kernel_rfl
set_option maxRecDepth 100000 in
theorem t25_reg {n m : Nat} {s : Mc} : (exec cfgM 100 reg25 (fr 21 n25a [.ptr 4 0, .lit .i64 0]) (mcS n m s)).bind (canonK 7 [(0,0)] 21 n25b) =
 

 (.ret (.normal, [.lit .i64 (0 : Int), .sli 6 (.c 0) 1 (.v m) (some (.v m)), .int .i64 (↑m : Int), .lit .i64 (0 : Int)], [.ro encLook [PUnit.unit], .own [.c (.sli 2 (.c 0) 1 (.v n) (some (.v n))), .c (.int .i64 s.2)] 70, .own [.a (encInt IntKind.u32) n s.1] 35, .many encTk s.3 68, .own [.c (.ptr 1 0), .c (.sli 5 (.c 0) 1 (.v m) none), .c (.sli 6 (.c 0) 1 (.v m) (some (.v m)))] 64, .vec (encT 30 3) (List.range m) 66, .own [.a encBool m s.4] 4])) := by kernel_rfl
set_option maxRecDepth 100000 in
theorem t25_lp {n m : Nat} {s : Mc} {c : Int} {k : Nat} : (exec cfgM 100 lp25 (fr 21 n25b (v25 m c (k : Nat))) (mcS n m s)).bind (canonK 7 [(0,0)] 21 n25b) =
 

 (.br (decide ((↑k : Int) < (↑m : Int)))

 (.need (decide ((0 : Int) ≤ (↑k : Int)) && decide ((↑k : Int).toNat < m))

 (.need (decide ((↑k : Int).toNat < m))

 (.br (!s.4.getD (↑k : Int).toNat false)

 (.need (inR .i64 (c + (1 : Int)))

 (.need (inR .i64 ((↑k : Int) + (1 : Int)))

 (.ret (.normal, [.int .i64 (c + (1 : Int)), .sli 6 (.c 0) 1 (.v m) (some (.v m)), .int .i64 (↑m : Int), .int .i64 ((↑k : Int) + (1 : Int))], [.ro encLook [PUnit.unit], .own [.c (.sli 2 (.c 0) 1 (.v n) (some (.v n))), .c (.int .i64 s.2)] 70, .own [.a (encInt IntKind.u32) n s.1] 35, .many encTk s.3 68, .own [.c (.ptr 1 0), .c (.sli 5 (.c 0) 1 (.v m) none), .c (.sli 6 (.c 0) 1 (.v m) (some (.v m)))] 64, .vec (encT 30 3) (List.range m) 66, .own [.a encBool m s.4] 4]))))

 (.need (inR .i64 ((↑k : Int) + (1 : Int)))

 (.ret (.normal, [.int .i64 c, .sli 6 (.c 0) 1 (.v m) (some (.v m)), .int .i64 (↑m : Int), .int .i64 ((↑k : Int) + (1 : Int))], [.ro encLook [PUnit.unit], .own [.c (.sli 2 (.c 0) 1 (.v n) (some (.v n))), .c (.int .i64 s.2)] 70, .own [.a (encInt IntKind.u32) n s.1] 35, .many encTk s.3 68, .own [.c (.ptr 1 0), .c (.sli 5 (.c 0) 1 (.v m) none), .c (.sli 6 (.c 0) 1 (.v m) (some (.v m)))] 64, .vec (encT 30 3) (List.range m) 66, .own [.a encBool m s.4] 4]))))))

 (.ret (.exit 0, [.int .i64 c, .sli 6 (.c 0) 1 (.v m) (some (.v m)), .int .i64 (↑m : Int), .int .i64 (↑k : Int)], [.ro encLook [PUnit.unit], .own [.c (.sli 2 (.c 0) 1 (.v n) (some (.v n))), .c (.int .i64 s.2)] 70, .own [.a (encInt IntKind.u32) n s.1] 35, .many encTk s.3 68, .own [.c (.ptr 1 0), .c (.sli 5 (.c 0) 1 (.v m) none), .c (.sli 6 (.c 0) 1 (.v m) (some (.v m)))] 64, .vec (encT 30 3) (List.range m) 66, .own [.a encBool m s.4] 4]))) := by kernel_rfl
set_option maxRecDepth 100000 in
theorem t25_end {n m : Nat} {s : Mc} {c : Int} {k : Nat} : (exec cfgM 100 end25 (fr 21 n25b (v25 m c (k : Nat))) (mcS n m s)).bind (canonK 7 [(0,0)] 21 [2]) =
 

 (.ret (.ret, [.int .i64 c], [.ro encLook [PUnit.unit], .own [.c (.sli 2 (.c 0) 1 (.v n) (some (.v n))), .c (.int .i64 s.2)] 70, .own [.a (encInt IntKind.u32) n s.1] 35, .many encTk s.3 68, .own [.c (.ptr 1 0), .c (.sli 5 (.c 0) 1 (.v m) none), .c (.sli 6 (.c 0) 1 (.v m) (some (.v m)))] 64, .vec (encT 30 3) (List.range m) 66, .own [.a encBool m s.4] 4])) := by kernel_rfl
end Go.Proofs.YtafipmkobdhigaaDoor

/- Layer 11: what a machine's Left comes to. -/
namespace Go.Proofs.YtafipmkobdhigaaDoor
open Go Go.Proofs.YtafipmkobdhigaaDoor.Sx
set_option linter.unusedVariables false
theorem b25_eq : Tryd.f13.body = some b25 := by kernel_rfl
theorem leftP_take {ds : List Bool} {k : Nat} (hk : k < ds.length) : leftP (ds.take (k + 1)) = leftP (ds.take k) + (if ds.getD k false then 0 else 1) := by
  unfold leftP
  rw [List.take_add_one, List.filter_append, List.length_append]
  have : ds[k]?.toList = [ds[k]] := by simp [hk]
  rw [this]
  have h2 : ds.getD k false = ds[k] := by simp [List.getD_eq_getElem?_getD, hk]
  rw [h2]
  cases ds[k] <;> simp
theorem leftP_le (ds : List Bool) : 0 ≤ leftP ds ∧ leftP ds ≤ ds.length := by
  unfold leftP
  have := List.length_filter_le (fun b => !b) ds
  omega
abbrev Q25 (env0 : Env) (n m : Nat) (s : Mc) (w0 : World) : Exit → Act → World → Prop := bodyPost Tryd.prog Tryd.f13 (Ends1 env0 (mcS n m s) w0 (.int .i64 (leftP s.ds)) (mcS n m s))
def Inv25 (env0 : Env) (n m : Nat) (s : Mc) (w0 : World) (k : Nat) (a : Act) (w : World) : Prop :=
  k ≤ m ∧ ∃ env, AtK env0 [(0, 0)] ⟨w0, inFoot env0 (mcS n m s)⟩ env (fr 21 n25b (v25 m (leftP (s.ds.take k)) (k : Nat))) (mcS n m s) a w
theorem left_call {n m : Nat} {s : Mc} (hd : s.ds.length = m) (hm : m ≤ 1000) :
    ∀ (env : Env) (w : World) (vs : List Value), GlOk cfgM.gl env → Rep env (mcS n m s) w → DenL env [.ptr 4 0] vs → Calls cfgM.P 13 ⟨vs⟩ w (Ends1 env (mcS n m s) w (.int .i64 (leftP s.ds)) (mcS n m s)) := by
  intro env w vs hg hr hdv
  have hb0 : env.length = 7 := hr.len
  refine AtK.begin (c := cfgM) Tryd.func13 b25_eq hg hr hdv fun a hA => ?_
  refine pieceNTK2 (c := cfgM) cfgM_ok 2 n25a (t25_pre (n := n) (m := m) (s := s)) (by omega) (by simp) hA ?_
  refine all_ret fun env1 a1 w1 hA1 => ?_
  simp only [Ex.to, Exit.then]
  refine (show c25.wp Tryd.prog (Q25 env n m s w) a1 w1 from wpS (by kernel_rfl) (wpS (by kernel_rfl) ?_))
  refine pieceTK2 (c := cfgM) cfgM_ok n25b (t25_reg (n := n) (m := m) (s := s)) (by omega) (by simp) hA1 ?_
  refine all_ret fun env2 a2 w2 hA2 => ?_
  simp only [Ex.to, Exit.then]
  have hA3 := hA2.on fun h => h.gvals (v25 m (leftP (s.ds.take 0)) ((0 : Nat) : Int)) rfl
  refine wpB 0 (by kernel_rfl) (wpL (by kernel_rfl) (Inv25 env n m s w) (fun k => m - k) 0 ⟨Nat.zero_le _, env2, hA3⟩ ?_)
  rintro k a w' ⟨hk, env3, hA⟩
  refine (show lp25.wp Tryd.prog _ a w' from ?_)
  refine pieceTK2 (c := cfgM) cfgM_ok n25b (t25_lp (n := n) (m := m) (s := s)) (by omega) (by simp) hA ?_
  have hle := leftP_le (s.ds.take k)
  have hlt : (s.ds.take k).length ≤ m := by simp; omega
  refine all_brp (by simp only [decide_eq_true_eq]; exact Iff.rfl) (fun h1 => ?_) (fun h1 => ?_)
  · have hk' : k < m := by omega
    have ht := leftP_take (ds := s.ds) (k := k) (by omega)
    simp only [Int.toNat_natCast]
    refine all_needq (by simp only [decide_eq_true_eq, Bool.and_eq_true]; exact Iff.rfl) (by omega) ?_
    refine all_needq (by simp only [decide_eq_true_eq]; exact Iff.rfl) (by omega) ?_
    have nx : ∀ {c' : Int}, leftP (s.ds.take (k + 1)) = c' → ∀ {env' a' w''}, AtK env [(0, 0)] ⟨w, inFoot env (mcS n m s)⟩ env' (fr 21 n25b (v25 m c' ((k : Int) + 1))) (mcS n m s) a' w'' → ∃ k', Inv25 env n m s w k' a' w'' ∧ m - k' < m - k := by
      intro c' hc env' a' w'' h
      subst hc
      exact ⟨k + 1, ⟨by omega, env', h⟩, by omega⟩
    refine all_br (fun hb => ?_) (fun hb => ?_)
    · have hb' : s.ds.getD k false = false := by simpa using hb
      rw [hb'] at ht
      refine all_needq (by simp only [inR_i64]; exact Iff.rfl) (by omega) ?_
      refine all_needq (by simp only [inR_i64]; exact Iff.rfl) (by omega) ?_
      exact all_ret fun _ _ _ h => nx (by simpa using ht) h
    · have hb' : s.ds.getD k false = true := by simpa using hb
      rw [hb'] at ht
      refine all_needq (by simp only [inR_i64]; exact Iff.rfl) (by omega) ?_
      exact all_ret fun _ _ _ h => nx (by simpa using ht) h
  · have hkm : k = m := by omega
    subst hkm
    refine all_ret fun env4 a4 w4 hA4 => ?_
    simp only [Ex.to, Exit.then, Exit.inBlock, if_true]
    rw [List.take_of_length_le (by omega)] at hA4
    refine (show end25.wp Tryd.prog (Q25 env n k s w) a4 w4 from ?_)
    refine pieceTK2 (c := cfgM) cfgM_ok [2] (t25_end (n := n) (m := k) (s := s)) (by omega) (by simp) hA4 ?_
    exact all_ret fun _ _ _ h => h.out (c := cfgM) (by kernel_rfl)
noncomputable def gLeft (n m : Nat) (s : Mc) (args : List SVal) (st : St) : T (SVal × St) := match args with
  | [.ptr 4 0] => .eq (st = mcS n m s ∧ s.ds.length = m ∧ m ≤ 1000) (.ret (.int .i64 (leftP s.ds), mcS n m s))
  | _ => .no 175
theorem gLeft_ok {n m : Nat} {s : Mc} (args : List SVal) (S : St) (v : SVal) (S' : St) (h : (gLeft n m s args S).at (v, S')) : PreOk cfgM 7 13 args S v S' := by
  unfold gLeft at h
  split at h
  · obtain ⟨⟨rfl, hd, hm⟩, h⟩ := h
    simp only [T.at, Prod.mk.injEq] at h
    obtain ⟨rfl, rfl⟩ := h
    exact ⟨left_call hd hm, rfl, rfl, mcS_ro, mcS_ren, rfl⟩
  · exact h.elim
/-- with a machine's picks, what is left of it, and memory -/
noncomputable def cfgR (n m : Nat) (s : Mc) : Cfg := { P := Tryd.prog, ex := exI, gl := [(0, 0)], sm := fun f => match f with | 9 => some (smPre 7 (gPick n m s)) | 13 => some (smPre 7 (gLeft n m s)) | 30 => some (smPre 3 gLoad) | _ => none }
theorem cfgR_ok {n m : Nat} {s : Mc} : SmOk (cfgR n m s) := by
  intro f g h
  simp only [cfgR] at h
  split at h
  · simp only [Option.some.injEq] at h; subst h
    exact smPre_ok (c := cfgM) (gl_lt (by omega)) gPick_ok
  · simp only [Option.some.injEq] at h; subst h
    exact smPre_ok (c := cfgM) (gl_lt (by omega)) gLeft_ok
  · simp only [Option.some.injEq] at h; subst h
    exact smPre_ok (c := cfgW) (gl_lt (by omega)) load_ok
  · cases h
end Go.Proofs.YtafipmkobdhigaaDoor

/- Layer 11: rounds: pieces. -/
namespace Go.Proofs.YtafipmkobdhigaaDoor
open Go Go.Proofs.YtafipmkobdhigaaDoor.Sx
set_option linter.unusedVariables false
noncomputable def b26 : Code := Tryd.f12.body.getD .skip
noncomputable def blk26 : Code := lft (restC 2 b26)
noncomputable def end26 : Code := rgt (restC 2 b26)
noncomputable def lp26 : Code := lft (lft blk26)
noncomputable def tm26 : Code := lft lp26
noncomputable def bb26 : Code := lft (rgt lp26)
noncomputable def r26 : Code := lft (lft bb26)
noncomputable def blk26k : Code := rgt (lft bb26)
noncomputable def lp26k : Code := lft (lft blk26k)
noncomputable def inc26 : Code := rgt bb26
abbrev n26a : List Nat := [0, 1, 5]
abbrev n26b : List Nat := [0, 1, 5, 18, 19, 20]
abbrev v26 (most n : Int) : List SVal := [.ptr 4 0, .int .i64 most, .int .i64 n]
abbrev v26k (most n : Int) (m : Nat) (k : Int) : List SVal := v26 most n ++ [.sli 5 (.c 0) 1 (.v m) none, .int .i64 (m : Nat), .int .i64 k]
end Go.Proofs.YtafipmkobdhigaaDoor

namespace Go.Proofs.YtafipmkobdhigaaDoor
open Go Go.Proofs.YtafipmkobdhigaaDoor.Sx
set_option linter.unusedVariables false
set_option maxRecDepth 100000 in
theorem t26_pre {n m : Nat} {s : Mc} {most : Int} : (execN cfgM 100 2 b26 ([.ptr 4 0, .int .i64 most] ++ List.replicate 28 .bad) (mcS n m s)).bind (canonK 7 [(0,0)] 30 n26a) =
 

 (.ret (.normal, [.ptr 4 0, .int .i64 most, .lit .i64 (0 : Int)], [.ro encLook [PUnit.unit], .own [.c (.sli 2 (.c 0) 1 (.v n) (some (.v n))), .c (.int .i64 s.2)] 70, .own [.a (encInt IntKind.u32) n s.1] 35, .many encTk s.3 68, .own [.c (.ptr 1 0), .c (.sli 5 (.c 0) 1 (.v m) none), .c (.sli 6 (.c 0) 1 (.v m) (some (.v m)))] 64, .vec (encT 30 3) (List.range m) 66, .own [.a encBool m s.4] 4])) := by kernel_rfl
set_option maxRecDepth 100000 in
theorem t26_tm {n m : Nat} {s : Mc} {most : Int} {r : Nat} : (exec (cfgR n m s) 100 tm26 (fr 30 n26a (v26 most (r : Nat))) (mcS n m s)).bind (canonK 7 [(0,0)] 30 n26a) =
 

 (.br (decide ((↑r : Int) < most))

 (.eq ([Blk.ro encLook [PUnit.unit], .own [.c (.sli 2 (.c 0) 1 (.v n) (some (.v n))), .c (.int .i64 s.2)] 70, .own [.a (encInt IntKind.u32) n s.1] 35, .many encTk s.3 68, .own [.c (.ptr 1 0), .c (.sli 5 (.c 0) 1 (.v m) none), .c (.sli 6 (.c 0) 1 (.v m) (some (.v m)))] 64, .vec (encT 30 3) (List.range m) 66, .own [.a encBool m s.4] 4] = [Blk.ro encLook [PUnit.unit], .own [.c (.sli 2 (.c 0) 1 (.v n) (some (.v n))), .c (.int .i64 s.2)] 70, .own [.a (encInt IntKind.u32) n s.1] 35, .many encTk s.3 68, .own [.c (.ptr 1 0), .c (.sli 5 (.c 0) 1 (.v m) none), .c (.sli 6 (.c 0) 1 (.v m) (some (.v m)))] 64, .vec (encT 30 3) (List.range m) 66, .own [.a encBool m s.4] 4] ∧ s.4.length = m ∧ m ≤ 1000)

 (.br (decide ((0 : Int) < leftP s.4))

 (.ret (.normal, [.ptr 4 0, .int .i64 most, .int .i64 (↑r : Int)], [.ro encLook [PUnit.unit], .own [.c (.sli 2 (.c 0) 1 (.v n) (some (.v n))), .c (.int .i64 s.2)] 70, .own [.a (encInt IntKind.u32) n s.1] 35, .many encTk s.3 68, .own [.c (.ptr 1 0), .c (.sli 5 (.c 0) 1 (.v m) none), .c (.sli 6 (.c 0) 1 (.v m) (some (.v m)))] 64, .vec (encT 30 3) (List.range m) 66, .own [.a encBool m s.4] 4]))

 (.ret (.exit 0, [.ptr 4 0, .int .i64 most, .int .i64 (↑r : Int)], [.ro encLook [PUnit.unit], .own [.c (.sli 2 (.c 0) 1 (.v n) (some (.v n))), .c (.int .i64 s.2)] 70, .own [.a (encInt IntKind.u32) n s.1] 35, .many encTk s.3 68, .own [.c (.ptr 1 0), .c (.sli 5 (.c 0) 1 (.v m) none), .c (.sli 6 (.c 0) 1 (.v m) (some (.v m)))] 64, .vec (encT 30 3) (List.range m) 66, .own [.a encBool m s.4] 4]))))

 (.ret (.exit 0, [.ptr 4 0, .int .i64 most, .int .i64 (↑r : Int)], [.ro encLook [PUnit.unit], .own [.c (.sli 2 (.c 0) 1 (.v n) (some (.v n))), .c (.int .i64 s.2)] 70, .own [.a (encInt IntKind.u32) n s.1] 35, .many encTk s.3 68, .own [.c (.ptr 1 0), .c (.sli 5 (.c 0) 1 (.v m) none), .c (.sli 6 (.c 0) 1 (.v m) (some (.v m)))] 64, .vec (encT 30 3) (List.range m) 66, .own [.a encBool m s.4] 4]))) := by kernel_rfl
set_option maxRecDepth 100000 in
theorem t26_r {n m : Nat} {s : Mc} {most : Int} {r : Nat} : (exec cfgM 100 r26 (fr 30 n26a (v26 most (r : Nat))) (mcS n m s)).bind (canonK 7 [(0,0)] 30 n26b) =
 

 (.ret (.normal, [.ptr 4 0, .int .i64 most, .int .i64 (↑r : Int), .sli 5 (.c 0) 1 (.v m) none, .int .i64 (↑m : Int), .lit .i64 (0 : Int)], [.ro encLook [PUnit.unit], .own [.c (.sli 2 (.c 0) 1 (.v n) (some (.v n))), .c (.int .i64 s.2)] 70, .own [.a (encInt IntKind.u32) n s.1] 35, .many encTk s.3 68, .own [.c (.ptr 1 0), .c (.sli 5 (.c 0) 1 (.v m) none), .c (.sli 6 (.c 0) 1 (.v m) (some (.v m)))] 64, .vec (encT 30 3) (List.range m) 66, .own [.a encBool m s.4] 4])) := by kernel_rfl
set_option maxRecDepth 100000 in
theorem t26_in {n m : Nat} {s : Mc} {most : Int} {r k : Nat} : (exec (cfgR n m s) 100 lp26k (fr 30 n26b (v26k most (r : Nat) m (k : Nat))) (mcS n m s)).bind (canonK 7 [(0,0)] 30 n26b) =
 

 (.br (decide ((↑k : Int) < (↑m : Int)))

 (.eq ([Blk.ro encLook [PUnit.unit], .own [.c (.sli 2 (.c 0) 1 (.v n) (some (.v n))), .c (.int .i64 s.2)] 70, .own [.a (encInt IntKind.u32) n s.1] 35, .many encTk s.3 68, .own [.c (.ptr 1 0), .c (.sli 5 (.c 0) 1 (.v m) none), .c (.sli 6 (.c 0) 1 (.v m) (some (.v m)))] 64, .vec (encT 30 3) (List.range m) 66, .own [.a encBool m s.4] 4] = [Blk.ro encLook [PUnit.unit], .own [.c (.sli 2 (.c 0) 1 (.v n) (some (.v n))), .c (.int .i64 s.2)] 70, .own [.a (encInt IntKind.u32) n s.1] 35, .many encTk s.3 68, .own [.c (.ptr 1 0), .c (.sli 5 (.c 0) 1 (.v m) none), .c (.sli 6 (.c 0) 1 (.v m) (some (.v m)))] 64, .vec (encT 30 3) (List.range m) 66, .own [.a encBool m s.4] 4] ∧ McOk n m s)

 (.need (inR .i64 ((↑k : Int) + (1 : Int)))

 (.ret (.normal, [.ptr 4 0, .int .i64 most, .int .i64 (↑r : Int), .sli 5 (.c 0) 1 (.v m) none, .int .i64 (↑m : Int), .int .i64 ((↑k : Int) + (1 : Int))], [.ro encLook [PUnit.unit], .own [.c (.sli 2 (.c 0) 1 (.v n) (some (.v n))), .c (.int .i64 (pickP m s (↑k : Int)).c)] 70, .own [.a (encInt IntKind.u32) n (pickP m s (↑k : Int)).l] 35, .many encTk (pickP m s (↑k : Int)).xs 68, .own [.c (.ptr 1 0), .c (.sli 5 (.c 0) 1 (.v m) none), .c (.sli 6 (.c 0) 1 (.v m) (some (.v m)))] 64, .vec (encT 30 3) (List.range m) 66, .own [.a encBool m (pickP m s (↑k : Int)).ds] 4]))))

 (.ret (.exit 2, [.ptr 4 0, .int .i64 most, .int .i64 (↑r : Int), .sli 5 (.c 0) 1 (.v m) none, .int .i64 (↑m : Int), .int .i64 (↑k : Int)], [.ro encLook [PUnit.unit], .own [.c (.sli 2 (.c 0) 1 (.v n) (some (.v n))), .c (.int .i64 s.2)] 70, .own [.a (encInt IntKind.u32) n s.1] 35, .many encTk s.3 68, .own [.c (.ptr 1 0), .c (.sli 5 (.c 0) 1 (.v m) none), .c (.sli 6 (.c 0) 1 (.v m) (some (.v m)))] 64, .vec (encT 30 3) (List.range m) 66, .own [.a encBool m s.4] 4]))) := by kernel_rfl
set_option maxRecDepth 100000 in
theorem t26_inc {n m : Nat} {s : Mc} {most : Int} {r : Nat} : (exec cfgM 100 inc26 (fr 30 n26a (v26 most (r : Nat))) (mcS n m s)).bind (canonK 7 [(0,0)] 30 n26a) =
 

 (.need (inR .i64 ((↑r : Int) + (1 : Int)))

 (.ret (.normal, [.ptr 4 0, .int .i64 most, .int .i64 ((↑r : Int) + (1 : Int))], [.ro encLook [PUnit.unit], .own [.c (.sli 2 (.c 0) 1 (.v n) (some (.v n))), .c (.int .i64 s.2)] 70, .own [.a (encInt IntKind.u32) n s.1] 35, .many encTk s.3 68, .own [.c (.ptr 1 0), .c (.sli 5 (.c 0) 1 (.v m) none), .c (.sli 6 (.c 0) 1 (.v m) (some (.v m)))] 64, .vec (encT 30 3) (List.range m) 66, .own [.a encBool m s.4] 4]))) := by kernel_rfl
set_option maxRecDepth 100000 in
theorem t26_end {n m : Nat} {s : Mc} {most : Int} {r : Nat} : (exec cfgM 100 end26 (fr 30 n26a (v26 most (r : Nat))) (mcS n m s)).bind (canonK 7 [(0,0)] 30 [4]) =
 

 (.ret (.ret, [.int .i64 (↑r : Int)], [.ro encLook [PUnit.unit], .own [.c (.sli 2 (.c 0) 1 (.v n) (some (.v n))), .c (.int .i64 s.2)] 70, .own [.a (encInt IntKind.u32) n s.1] 35, .many encTk s.3 68, .own [.c (.ptr 1 0), .c (.sli 5 (.c 0) 1 (.v m) none), .c (.sli 6 (.c 0) 1 (.v m) (some (.v m)))] 64, .vec (encT 30 3) (List.range m) 66, .own [.a encBool m s.4] 4])) := by kernel_rfl
end Go.Proofs.YtafipmkobdhigaaDoor

/- Layer 11: what a machine's Round comes to. -/
namespace Go.Proofs.YtafipmkobdhigaaDoor
open Go Go.Proofs.YtafipmkobdhigaaDoor.Sx
set_option linter.unusedVariables false
/-- the first picks of a round -/
def passP (m : Nat) (s : Mc) : Nat → Mc
  | 0 => s
  | k + 1 => pickP m (passP m s k) (k : Nat)
/-- how many rounds there are, at most so many -/
def stopP (m : Nat) : Mc → Nat → Nat
  | _, 0 => 0
  | s, f + 1 => if leftP s.ds = 0 then 0 else stopP m (passP m s m) f + 1
/-- what they leave -/
def endP (m : Nat) : Mc → Nat → Mc
  | s, 0 => s
  | s, f + 1 => if leftP s.ds = 0 then s else endP m (passP m s m) f
theorem tk_step {t : Tk} (h : TkOk t) (l : List Int) : TkOk (tkP t l) := by
  obtain ⟨a, n, r, ph, c, p⟩ := t
  obtain ⟨h1, h2, h3, h4, h5⟩ := h
  simp only at h1 h2 h3 h4 h5
  unfold tkP stepP
  cases ht : p == r with
  | true => simp only [ht]; exact ⟨h1, h2, h3, h4, h5⟩
  | false =>
    have ht' := beq_eq_false_iff_ne.1 ht
    simp only [ht]
    match ph, h4 with
    | 0, _ =>
      simp only
      split
      · refine ⟨h1, h2, h3, ?_, ?_⟩
        · simp only; split <;> omega
        · simp only; simp only [if_true] at h5; split <;> (rename_i e; revert e; split <;> simp <;> omega)
      · exact ⟨h1, h2, h3, by simp, h5⟩
    | 1, _ =>
      simp only
      split <;> exact ⟨h1, h2, h3, by simp, by simpa using h5⟩
    | 2, _ =>
      simp only
      split
      · exact ⟨h1, h2, by simp only [passTk]; omega, by simp [passTk], by simp [passTk] at h5 ⊢; omega⟩
      · exact ⟨h1, h2, h3, by simp, h5⟩
    | 3, _ =>
      simp only
      split
      · split
        · exact ⟨h1, h2, by simp only [passTk]; omega, by simp [passTk], by simp [passTk] at h5 ⊢; omega⟩
        · exact ⟨h1, h2, h3, by simp, h5⟩
      · exact ⟨h1, h2, h3, by simp, h5⟩
theorem ok_pick {n m : Nat} {s : Mc} (h : McOk n m s) (i : Int) : McOk n m (pickP m s i) := by
  unfold pickP
  split
  · rename_i hb
    have hb := (inP_iff _ _).1 hb
    split
    · exact h
    · refine ⟨by simp only [wordsP]; rw [step_len]; exact h.l, by simp [h.xs], by simp [h.ds], fun j hj => ?_⟩
      by_cases hji : j = i.toNat
      · subst hji
        show TkOk ((s.xs.set i.toNat _).getD i.toNat encTk.dflt)
        rw [Sx.getD_set_self (by rw [h.xs]; omega)]
        exact tk_step (h.tk _ (by omega)) _
      · show TkOk ((s.xs.set i.toNat _).getD j encTk.dflt)
        rw [Sx.getD_set_ne (fun e => hji e.symm)]
        exact h.tk j hj
  · exact h
theorem ok_pass {n m : Nat} {s : Mc} (h : McOk n m s) : ∀ k, McOk n m (passP m s k)
  | 0 => h
  | k + 1 => ok_pick (ok_pass h k) _
theorem stopP_le (m : Nat) : ∀ (f : Nat) (s : Mc), stopP m s f ≤ f
  | 0, s => by simp [stopP]
  | f + 1, s => by
    simp only [stopP]
    split
    · omega
    · have := stopP_le m f (passP m s m); omega
theorem b26_eq : Tryd.f12.body = some b26 := by kernel_rfl
abbrev Q26 (env0 : Env) (n m : Nat) (s0 : Mc) (most : Int) (w0 : World) : Exit → Act → World → Prop := bodyPost Tryd.prog Tryd.f12 (Ends1 env0 (mcS n m s0) w0 (.int .i64 (stopP m s0 most.toNat : Nat)) (mcS n m (endP m s0 most.toNat)))
structure Ix26 where
  r : Nat
  s : Mc
def Inv26 (env0 : Env) (n m : Nat) (s0 : Mc) (most : Int) (w0 : World) (j : Ix26) (a : Act) (w : World) : Prop :=
  (j.r ≤ most.toNat ∧ McOk n m j.s ∧ stopP m s0 most.toNat = j.r + stopP m j.s (most.toNat - j.r) ∧ endP m s0 most.toNat = endP m j.s (most.toNat - j.r)) ∧
  ∃ env, AtK env0 [(0, 0)] ⟨w0, inFoot env0 (mcS n m s0)⟩ env (fr 30 n26a (v26 most (j.r : Nat))) (mcS n m j.s) a w
def Inv26k (env0 : Env) (n m : Nat) (s0 : Mc) (most : Int) (w0 : World) (r : Nat) (s : Mc) (k : Nat) (a : Act) (w : World) : Prop :=
  k ≤ m ∧ ∃ env, AtK env0 [(0, 0)] ⟨w0, inFoot env0 (mcS n m s0)⟩ env (fr 30 n26b (v26k most (r : Nat) m (k : Nat))) (mcS n m (passP m s k)) a w
theorem AtKfew {base : Env} {gl : List (Nat × Nat)} {w0 : From} {env : Env} {n : Nat} {names extra : List Nat} {vals ev : List SVal} {st : St} {a : Act} {w : World} (h : AtK base gl w0 env (fr n (names ++ extra) (vals ++ ev)) st a w) (hl : names.length = vals.length) :
    AtK base gl w0 env (fr n names vals) st a w := ⟨h.at'.few hl, h.more⟩
theorem round_call {n m : Nat} {s : Mc} (hs : McOk n m s) (hm : m ≤ 1000) {most : Int} (hmost : most ≤ 1000000) :
    ∀ (env : Env) (w : World) (vs : List Value), GlOk cfgM.gl env → Rep env (mcS n m s) w → DenL env [.ptr 4 0, .int .i64 most] vs →
      Calls cfgM.P 12 ⟨vs⟩ w (Ends1 env (mcS n m s) w (.int .i64 (stopP m s most.toNat : Nat)) (mcS n m (endP m s most.toNat))) := by
  intro env w vs hg hr hdv
  have hb0 : env.length = 7 := hr.len
  refine AtK.begin (c := cfgM) Tryd.func12 b26_eq hg hr hdv fun a hA => ?_
  refine pieceNTK2 (c := cfgM) cfgM_ok 2 n26a (t26_pre (n := n) (m := m) (s := s)) (by omega) (by simp) hA ?_
  refine all_ret fun env1 a1 w1 hA1 => ?_
  simp only [Ex.to, Exit.then]
  refine (show (restC 2 b26).wp Tryd.prog (Q26 env n m s most w) a1 w1 from wpS (by kernel_rfl) ?_)
  have hA2 := hA1.on fun h => h.gvals (v26 most ((0 : Nat) : Int)) rfl
  refine wpB 0 (by kernel_rfl) (wpL (by kernel_rfl) (Inv26 env n m s most w) (fun j => most.toNat - j.r) ⟨0, s⟩ ⟨⟨Nat.zero_le _, hs, by simp, by simp⟩, env1, hA2⟩ ?_)
  rintro ⟨r, s1⟩ a w' ⟨⟨hr', ok, e1, e2⟩, env3, hA⟩
  simp only at hr' ok e1 e2 hA ⊢
  have out : (most.toNat = r ∨ leftP s1.ds = 0) → ∀ {env' : Env} {a' : Act} {w'' : World}, AtK env [(0, 0)] ⟨w, inFoot env (mcS n m s)⟩ env' (fr 30 n26a (v26 most (r : Nat))) (mcS n m s1) a' w'' → end26.wp Tryd.prog (Q26 env n m s most w) a' w'' := by
    intro hc env' a' w'' h
    have hz : stopP m s1 (most.toNat - r) = 0 ∧ endP m s1 (most.toNat - r) = s1 := by
      rcases hc with hc | hc
      · rw [hc, Nat.sub_self]; exact ⟨rfl, rfl⟩
      · cases most.toNat - r with
        | zero => exact ⟨rfl, rfl⟩
        | succ f => simp [stopP, endP, hc]
    refine pieceTK2 (c := cfgM) cfgM_ok [4] (t26_end (n := n) (m := m) (s := s1)) (by omega) (by simp) h ?_
    refine all_ret fun envZ aZ wZ h => ?_
    have h' : AtK env [(0, 0)] ⟨w, inFoot env (mcS n m s)⟩ envZ (fr 30 [4] [.int .i64 (stopP m s most.toNat : Nat)]) (mcS n m (endP m s most.toNat)) aZ wZ := by
      rw [e1, e2, hz.1, hz.2]; exact h
    exact h'.out (c := cfgM) (by kernel_rfl)
  refine (show lp26.wp Tryd.prog _ a w' from wpS (by kernel_rfl) ?_)
  refine pieceTK2 (c := cfgR n m s1) cfgR_ok n26a (t26_tm (n := n) (m := m) (s := s1)) (by omega) (by simp) hA ?_
  refine all_brp (by simp only [decide_eq_true_eq]; exact Iff.rfl) (fun h1 => ?_) (fun h1 => all_ret fun _ _ _ h => by
    simp only [Ex.to, Exit.then, Exit.inBlock, if_true]
    exact out (by omega) h)
  refine all_eq ⟨rfl, ok.ds, hm⟩ ?_
  refine all_brp (by simp only [decide_eq_true_eq]; exact Iff.rfl) (fun h2 => all_ret fun env4 a4 w4 hA4 => ?_) (fun h2 => all_ret fun _ _ _ h => by
    simp only [Ex.to, Exit.then, Exit.inBlock, if_true]
    have := leftP_le s1.ds
    exact out (.inr (by omega)) h)
  refine (show (rgt lp26).wp Tryd.prog _ a4 w4 from wpB 1 (by kernel_rfl) ?_)
  refine (show bb26.wp Tryd.prog _ a4 w4 from wpS (by kernel_rfl) (wpS (by kernel_rfl) ?_))
  refine pieceTK2 (c := cfgM) cfgM_ok n26b (t26_r (n := n) (m := m) (s := s1)) (by omega) (by simp) hA4 ?_
  refine all_ret fun env5 a5 w5 hA5 => ?_
  simp only [Ex.to, Exit.then]
  have hA6 := hA5.on fun h => h.gvals (v26k most (r : Nat) m ((0 : Nat) : Int)) rfl
  refine wpB 2 (by kernel_rfl) (wpL (by kernel_rfl) (Inv26k env n m s most w r s1) (fun k => m - k) 0 ⟨Nat.zero_le _, env5, hA6⟩ ?_)
  rintro k a6 w6 ⟨hk, env7, hA7⟩
  refine (show lp26k.wp Tryd.prog _ a6 w6 from ?_)
  refine pieceTK2 (c := cfgR n m (passP m s1 k)) cfgR_ok n26b (t26_in (n := n) (m := m) (s := passP m s1 k)) (by omega) (by simp) hA7 ?_
  refine all_brp (by simp only [decide_eq_true_eq]; exact Iff.rfl) (fun h3 => ?_) (fun h3 => ?_)
  · refine all_eq ⟨rfl, ok_pass ok k⟩ ?_
    refine all_needq (by simp only [inR_i64]; exact Iff.rfl) (by omega) ?_
    refine all_ret fun env8 a8 w8 hA8 => ?_
    exact ⟨k + 1, ⟨by omega, env8, hA8⟩, by omega⟩
  · have hkm : k = m := by omega
    subst hkm
    refine all_ret fun env8 a8 w8 hA8 => ?_
    simp only [Ex.to, Exit.then, Exit.inBlock, if_true]
    have hA9 := AtKfew (names := n26a) (extra := [18, 19, 20]) (vals := v26 most (r : Nat)) (ev := [.sli 5 (.c 0) 1 (.v k) none, .int .i64 (k : Nat), .int .i64 (k : Nat)]) hA8 rfl
    refine (show inc26.wp Tryd.prog _ a8 w8 from ?_)
    refine pieceTK2 (c := cfgM) cfgM_ok n26a (t26_inc (n := n) (m := k) (s := passP k s1 k)) (by omega) (by simp) hA9 ?_
    refine all_needq (by simp only [inR_i64]; exact Iff.rfl) (by omega) ?_
    refine all_ret fun env10 a10 w10 hA10 => ?_
    have hlt : r < most.toNat := by omega
    have hsub : most.toNat - r = (most.toNat - (r + 1)) + 1 := by omega
    have hne : ¬ leftP s1.ds = 0 := by omega
    refine ⟨⟨r + 1, passP k s1 k⟩, ⟨⟨by simp only; omega, ok_pass ok k, ?_, ?_⟩, env10, hA10⟩, by simp only; omega⟩
    · simp only; rw [e1, hsub, stopP, if_neg hne]; omega
    · simp only; rw [e2, hsub, endP, if_neg hne]
noncomputable def gRound (n m : Nat) (s : Mc) (args : List SVal) (st : St) : T (SVal × St) := match args with
  | [.ptr 4 0, a] => match asI a with
    | some (.i64, most, _) => .eq (st = mcS n m s ∧ McOk n m s ∧ m ≤ 1000 ∧ most ≤ 1000000) (.ret (.int .i64 (stopP m s most.toNat : Nat), mcS n m (endP m s most.toNat)))
    | _ => .no 176
  | _ => .no 177
theorem gRound_ok {n m : Nat} {s : Mc} (args : List SVal) (S : St) (v : SVal) (S' : St) (h : (gRound n m s args S).at (v, S')) : PreOk cfgM 7 12 args S v S' := by
  unfold gRound at h
  split at h
  · rename_i a
    split at h
    · rename_i most la h1
      obtain ⟨⟨rfl, hs, hm, hmost⟩, h⟩ := h
      simp only [T.at, Prod.mk.injEq] at h
      obtain ⟨rfl, rfl⟩ := h
      refine ⟨fun env w vs hg hr hd => ?_, rfl, rfl, mcS_ro, mcS_ren, by simp only [renL, asI_ren h1]; rfl⟩
      obtain ⟨u, us, rfl, h4, u2, us2, rfl, h5, rfl⟩ := hd
      exact round_call hs hm hmost env w _ hg hr ⟨_, _, rfl, h4, _, _, rfl, asI_int h1 h5, rfl⟩
    · exact h.elim
  · exact h.elim
/-- with rounds alone -/
noncomputable def cfgS (n m : Nat) (s : Mc) : Cfg := { P := Tryd.prog, ex := exI, gl := [(0, 0)], sm := fun f => match f with | 12 => some (smPre 7 (gRound n m s)) | _ => none }
theorem cfgS_ok {n m : Nat} {s : Mc} : SmOk (cfgS n m s) := by
  intro f g h
  simp only [cfgS] at h
  split at h
  · simp only [Option.some.injEq] at h; subst h
    exact smPre_ok (c := cfgM) (gl_lt (by omega)) gRound_ok
  · cases h
end Go.Proofs.YtafipmkobdhigaaDoor

/- Layer 11: the making of waiters: pieces and states. -/
namespace Go.Proofs.YtafipmkobdhigaaDoor
open Go Go.Proofs.YtafipmkobdhigaaDoor.Sx
set_option linter.unusedVariables false
noncomputable def smNew : List SVal → St → T (SVal × St) := smAny cfgW 100 24
theorem new_sel (fn : Func) (b : Code) (p : Code × Array Oper × Code) (h1 : Tryd.prog.funcs[24]? = some fn) (h2 : fn.body = some b) (h3 : partsAny b = some p) : Region.noSelect p.2.1 = true := by
  rw [Tryd.func24] at h1
  simp only [Option.some.injEq] at h1; subst h1
  have h4 : (Tryd.f24.body.bind partsAny).elim false (fun q => Region.noSelect q.2.1) = true := by kernel_rfl
  rw [h2] at h4
  simp only [Option.bind_some, h3] at h4
  exact h4
noncomputable def cfgT : Cfg := { P := Tryd.prog, ex := exI, gl := [(0, 0)], sm := fun f => match f with | 24 => some smNew | _ => none }
theorem cfgT_ok : SmOk cfgT := by
  intro f g h
  simp only [cfgT] at h
  split at h
  · simp only [Option.some.injEq] at h; subst h
    exact smAny_ok cfgW_ok (by kernel_rfl) new_sel
  · cases h
/-- an object of a family, by its place -/
def encP (id : Nat) : Enc Nat where
  tag := .other
  shut := false
  shutOk := by simp
  sz := 1
  enc x := [.pto id x 0]
  dec l := match l with
    | [.pto i x j] => match Nat.decEq i id, Nat.decEq j 0 with
      | .isTrue _, .isTrue _ => some x
      | _, _ => none
    | _ => none
  dflt := 0
  top := some (id + 1)
  topOk := by
    intro k hk m hm x
    simp only [Option.some.injEq] at hk; subst hk
    simp [renL, ren, idx_pref hm (Nat.lt_succ_self id)]
  pos := by omega
  len _ := rfl
  ok := by
    intro env l x vs h hd
    split at h
    · split at h
      · rename_i h1 h2 _ _
        subst h1 h2
        simp only [Option.some.injEq] at h; subst h
        exact hd
      · cases h
    · cases h
/-- what comes in -/
structure In1 where
  picks : List Int
  cap' : Nat
abbrev picksV (p : In1) (i : Nat) : SVal := .sli i (.c 0) 1 (.v p.picks.length) (some (.v p.cap'))
abbrev s0 (p : In1) : St := [lookB, .ro (encInt .i64) p.picks]
noncomputable def b7 : Code := Tryd.f7.body.getD .skip
noncomputable def c7 : Code := restC 4 b7
noncomputable def reg7 : Code := lft (lft c7)
noncomputable def blk7 : Code := rgt (lft c7)
noncomputable def round7 : Code := lft (lft blk7)
noncomputable def end7 : Code := rgt c7
noncomputable def tm7 : Code := lft round7
noncomputable def rr7 : Code := rgt round7
noncomputable def bb7 : Code := lft (lft rr7)
noncomputable def inc7 : Code := rgt rr7
abbrev n7a : List Nat := [0, 1, 6, 8, 9]
abbrev n7b : List Nat := [0, 1, 6, 8, 9, 10]
abbrev n7c : List Nat := [0, 1, 6, 8, 9, 10, 11, 12]
abbrev s7a (p : In1) : St := s0 p ++ [.own [.c (.sli 3 (.c 0) 1 (.c 2) (some (.c 2))), .c (.lit .i64 0)] 70, .own [.c (.lit .u32 0), .c (.lit .u32 0)] 35]
abbrev s7 (p : In1) (xs : List Tk) (ts : List Nat) : St := s7a p ++ [.many encTk xs 68, .vec (encP 4) ts 30, .vec (encT 30 4) ts 66]
abbrev v7a (n r : Int) (m : Nat) : List SVal := [.int .i64 n, .int .i64 r, .ptr 2 0, .sli 5 (.c 0) 1 (.v m) none, .sli 6 (.c 0) 1 (.v m) none]
abbrev v7 (n r : Int) (ts : List Nat) (i : Int) : List SVal := v7a n r ts.length ++ [.int .i64 i]
def boundOf (r : Int) : Int := imin (imax r 0) 1000
end Go.Proofs.YtafipmkobdhigaaDoor

namespace Go.Proofs.YtafipmkobdhigaaDoor
open Go Go.Proofs.YtafipmkobdhigaaDoor.Sx
set_option linter.unusedVariables false
set_option maxRecDepth 100000 in
theorem u_pre {p : In1} {n r : Int} : (execN cfgT 100 4 b7 ([.int .i64 n, .int .i64 r] ++ List.replicate 53 .bad) (s0 p)).bind (canonK 2 [(0,0)] 55 n7a) =
 

 (.ret (.normal, [.int .i64 n, .int .i64 r, .ptr 2 0, .sli 4 (.c 0) 1 (.c 0) (some (.c 0)), .sli 5 (.c 0) 1 (.c 0) (some (.c 0))], [.ro encLook [PUnit.unit], .ro (encInt IntKind.i64) p.1, .own [.c (.sli 3 (.c 0) 1 (.c 2) (some (.c 2))), .c (.lit .i64 (0 : Int))] 70, .own [.c (.lit .u32 (0 : Int)), .c (.lit .u32 (0 : Int))] 35, .own [] 30, .own [] 66])) := by kernel_rfl
set_option maxRecDepth 100000 in
theorem u_reg {p : In1} {n r : Int} : (exec cfgT 100 reg7 (fr 55 n7a (v7a n r 0)) (s7 p [] [])).bind (canonK 5 [(0,0)] 55 n7b) =
 

 (.ret (.normal, [.int .i64 n, .int .i64 r, .ptr 2 0, .sli 5 (.c 0) 1 (.v 0) none, .sli 6 (.c 0) 1 (.v 0) none, .lit .i64 (0 : Int)], [.ro encLook [PUnit.unit], .ro (encInt IntKind.i64) p.1, .own [.c (.sli 3 (.c 0) 1 (.c 2) (some (.c 2))), .c (.lit .i64 (0 : Int))] 70, .own [.c (.lit .u32 (0 : Int)), .c (.lit .u32 (0 : Int))] 35, .many encTk [] 68, .vec (encP 4) [] 30, .vec (encT 30 4) [] 66])) := by kernel_rfl
set_option maxRecDepth 100000 in
theorem u_tm {p : In1} {n r : Int} {xs : List Tk} {ts : List Nat} {i : Nat} : (exec cfgT 100 tm7 (fr 55 n7b (v7 n r ts (i : Nat))) (s7 p xs ts)).bind (canonK 5 [(0,0)] 55 n7b) =
 

 (.br (decide ((↑i : Int) < n))

 (.ret (.normal, [.int .i64 n, .int .i64 r, .ptr 2 0, .sli 5 (.c 0) 1 (.v ts.length) none, .sli 6 (.c 0) 1 (.v ts.length) none, .int .i64 (↑i : Int)], [.ro encLook [PUnit.unit], .ro (encInt IntKind.i64) p.1, .own [.c (.sli 3 (.c 0) 1 (.c 2) (some (.c 2))), .c (.lit .i64 (0 : Int))] 70, .own [.c (.lit .u32 (0 : Int)), .c (.lit .u32 (0 : Int))] 35, .many encTk xs 68, .vec (encP 4) ts 30, .vec (encT 30 4) ts 66]))

 (.ret (.exit 0, [.int .i64 n, .int .i64 r, .ptr 2 0, .sli 5 (.c 0) 1 (.v ts.length) none, .sli 6 (.c 0) 1 (.v ts.length) none, .int .i64 (↑i : Int)], [.ro encLook [PUnit.unit], .ro (encInt IntKind.i64) p.1, .own [.c (.sli 3 (.c 0) 1 (.c 2) (some (.c 2))), .c (.lit .i64 (0 : Int))] 70, .own [.c (.lit .u32 (0 : Int)), .c (.lit .u32 (0 : Int))] 35, .many encTk xs 68, .vec (encP 4) ts 30, .vec (encT 30 4) ts 66]))) := by kernel_rfl
set_option maxRecDepth 100000 in
theorem u_mk {p : In1} {n r : Int} {xs : List Tk} {ts : List Nat} {i : Nat} : (execN cfgT 100 1 bb7 (fr 55 n7b (v7 n r ts (i : Nat))) (s7 p xs ts)).bind (canonK 5 [(0,0)] 55 n7c) =
 

 (.br (decide (n < (1 : Int)))

 (.ret (.normal, [.int .i64 n, .int .i64 r, .ptr 2 0, .sli 5 (.c 0) 1 (.v ts.length) none, .sli 6 (.c 0) 1 (.v ts.length) none, .int .i64 (↑i : Int), .pnil, .lit .i64 (110 : Int)], [.ro encLook [PUnit.unit], .ro (encInt IntKind.i64) p.1, .own [.c (.sli 3 (.c 0) 1 (.c 2) (some (.c 2))), .c (.lit .i64 (0 : Int))] 70, .own [.c (.lit .u32 (0 : Int)), .c (.lit .u32 (0 : Int))] 35, .many encTk xs 68, .vec (encP 4) ts 30, .vec (encT 30 4) ts 66]))

 (.br (decide ((8 : Int) < n))

 (.ret (.normal, [.int .i64 n, .int .i64 r, .ptr 2 0, .sli 5 (.c 0) 1 (.v ts.length) none, .sli 6 (.c 0) 1 (.v ts.length) none, .int .i64 (↑i : Int), .pnil, .lit .i64 (110 : Int)], [.ro encLook [PUnit.unit], .ro (encInt IntKind.i64) p.1, .own [.c (.sli 3 (.c 0) 1 (.c 2) (some (.c 2))), .c (.lit .i64 (0 : Int))] 70, .own [.c (.lit .u32 (0 : Int)), .c (.lit .u32 (0 : Int))] 35, .many encTk xs 68, .vec (encP 4) ts 30, .vec (encT 30 4) ts 66]))

 (.ret (.normal, [.int .i64 n, .int .i64 r, .ptr 2 0, .sli 5 (.c 0) 1 (.v ts.length) none, .sli 6 (.c 0) 1 (.v ts.length) none, .int .i64 (↑i : Int), .ptr 7 0, .lit .i64 (0 : Int)], [.ro encLook [PUnit.unit], .ro (encInt IntKind.i64) p.1, .own [.c (.sli 3 (.c 0) 1 (.c 2) (some (.c 2))), .c (.lit .i64 (0 : Int))] 70, .own [.c (.lit .u32 (0 : Int)), .c (.lit .u32 (0 : Int))] 35, .many encTk xs 68, .vec (encP 4) ts 30, .vec (encT 30 4) ts 66, .own [.c (.lit .i64 (0 : Int)), .c (.int .i64 n), .c (.int .i64 (imin (imax r (0 : Int)) (1000 : Int))), .c (.lit .i64 (0 : Int)), .c (.lit .i64 (0 : Int)), .c (.lit .i64 (0 : Int))] 68])))) := by kernel_rfl
set_option maxRecDepth 100000 in
theorem u_app {p : In1} {n r : Int} {xs : List Tk} {ts : List Nat} {i : Nat} : (exec cfgT 100 (restC 1 bb7) (fr 55 n7c (v7 n r ts (i : Nat) ++ [.pto 4 i 0, .lit .i64 0])) (s7 p xs ts ++ [.gone])).bind (canonK 5 [(0,0)] 55 n7b) =
 

 (.need (true)

 (.need (decide (ts.length = ts.length))

 (.need (roomy (ts.length + 1) 8)

 (.need (true)

 (.need (decide (ts.length = ts.length))

 (.need (roomy (ts.length + 1) 16)

 (.ret (.normal, [.int .i64 n, .int .i64 r, .ptr 2 0, .sli 5 (.c 0) 1 (.v (ts.length + 1)) none, .sli 6 (.c 0) 1 (.v (ts.length + 1)) none, .int .i64 (↑i : Int)], [.ro encLook [PUnit.unit], .ro (encInt IntKind.i64) p.1, .own [.c (.sli 3 (.c 0) 1 (.c 2) (some (.c 2))), .c (.lit .i64 (0 : Int))] 70, .own [.c (.lit .u32 (0 : Int)), .c (.lit .u32 (0 : Int))] 35, .many encTk xs 68, .vec (encP 4) (ts ++ [i]) 30, .vec (encT 30 4) (ts ++ [i]) 66])))))))) := by kernel_rfl
set_option maxRecDepth 100000 in
theorem u_inc {p : In1} {n r : Int} {xs : List Tk} {ts : List Nat} {i : Nat} : (exec cfgT 100 inc7 (fr 55 n7b (v7 n r ts (i : Nat))) (s7 p xs ts)).bind (canonK 5 [(0,0)] 55 n7b) =
 

 (.need (inR .i64 ((↑i : Int) + (1 : Int)))

 (.ret (.normal, [.int .i64 n, .int .i64 r, .ptr 2 0, .sli 5 (.c 0) 1 (.v ts.length) none, .sli 6 (.c 0) 1 (.v ts.length) none, .int .i64 ((↑i : Int) + (1 : Int))], [.ro encLook [PUnit.unit], .ro (encInt IntKind.i64) p.1, .own [.c (.sli 3 (.c 0) 1 (.c 2) (some (.c 2))), .c (.lit .i64 (0 : Int))] 70, .own [.c (.lit .u32 (0 : Int)), .c (.lit .u32 (0 : Int))] 35, .many encTk xs 68, .vec (encP 4) ts 30, .vec (encT 30 4) ts 66]))) := by kernel_rfl
set_option maxRecDepth 100000 in
theorem u_end {p : In1} {n r : Int} {xs : List Tk} {ts : List Nat} {i : Nat} : (exec cfgT 100 end7 (fr 55 n7b (v7 n r ts (i : Nat))) (s7 p xs ts)).bind (canonK 5 [(0,0)] 55 [4, 5]) =
 

 (.eq (anyP cfgW 100 24 [.ptr 2 0, .sli 6 (.c 0) 1 (.v ts.length) none] [.ro encLook [PUnit.unit], .ro (encInt IntKind.i64) p.1, .own [.c (.sli 3 (.c 0) 1 (.c 2) (some (.c 2))), .c (.lit .i64 (0 : Int))] 70, .own [.c (.lit .u32 (0 : Int)), .c (.lit .u32 (0 : Int))] 35, .many encTk xs 68, .vec (encP 4) ts 30, .vec (encT 30 4) ts 66])

 (.need (decide (0 + ts.length ≤ ts.length))

 (.need (decide (0 + ts.length ≤ ts.length))

 (.need (roomy (List.take ts.length (List.drop 0 ts)).length 16)

 (.need (decide ((0 : Int) ≤ (↑ts.length : Int)))

 (.need (decide ((↑ts.length : Int) * (1 : Int) ≤ (140737488355328 : Int)))

 (.need (decide ((↑ts.length : Int) ≤ (4611686018427387904 : Int)))

 (.ret (.ret, [.ptr 5 0, .sli 8 (.c 0) 1 (.v ts.length) none], [.ro encLook [PUnit.unit], .ro (encInt IntKind.i64) p.1, .own [.c (.sli 3 (.c 0) 1 (.c 2) (some (.c 2))), .c (.lit .i64 (0 : Int))] 70, .own [.c (.lit .u32 (0 : Int)), .c (.lit .u32 (0 : Int))] 35, .many encTk xs 68, .own [.c (.ptr 2 0), .c (.sli 6 (.c 0) 1 (.v (List.take ts.length (List.drop 0 ts)).length) none), .c (.sli 7 (.c 0) 1 (.v (↑ts.length : Int).toNat) (some (.v (↑ts.length : Int).toNat)))] 64, .vec (encT 30 4) (List.take ts.length (List.drop 0 ts)) 66, .own [.a encBool (↑ts.length : Int).toNat (List.replicate (↑ts.length : Int).toNat false)] 4, .vec (encP 4) ts 30]))))))))) := by kernel_rfl
end Go.Proofs.YtafipmkobdhigaaDoor

/- Layer 11: what the making of waiters comes to. -/
namespace Go.Proofs.YtafipmkobdhigaaDoor
open Go Go.Proofs.YtafipmkobdhigaaDoor.Sx
set_option linter.unusedVariables false
def newTk (n : Nat) (r : Int) : Tk := ⟨0, n, boundOf r, 0, 0, 0⟩
abbrev toS (p : In1) (xs : List Tk) (m : Nat) : St := s7a p ++ [.many encTk xs 68, .own [.c (.ptr 2 0), .c (.sli 6 (.c 0) 1 (.v m) none), .c (.sli 7 (.c 0) 1 (.v m) (some (.v m)))] 64, .vec (encT 30 4) (List.range m) 66, .own [.a encBool m (List.replicate m false)] 4, .vec (encP 4) (List.range m) 30]
abbrev toV (m : Nat) : SVal := .tup [.ptr 5 0, .sli 8 (.c 0) 1 (.v m) none]
set_option maxRecDepth 100000 in
theorem new_s (p : In1) (xs : List Tk) (ts : List Nat) (hn : ts.length ≤ 8) : anyP cfgW 100 24 [.ptr 2 0, .sli 6 (.c 0) 1 (.v ts.length) none] (s7 p xs ts) := by
  let A : List Bool := [decide (0 + ts.length ≤ ts.length), decide (0 + ts.length ≤ ts.length), roomy (List.take ts.length (List.drop 0 ts)).length 16]
  let M : List Bool := [decide (0 ≤ (ts.length : Int)), decide ((ts.length : Int) * 1 ≤ 140737488355328), decide ((ts.length : Int) ≤ 4611686018427387904)]
  have h0 : (anyTP cfgW 100 24 [.ptr 2 0, .sli 6 (.c 0) 1 (.v ts.length) none] (s7 p xs ts)).lineB = some (A ++ M ++ A ++ M ++ A ++ M ++ M ++ A ++ A ++ M ++ M ++ A ++ M ++ A) := by kernel_rfl
  have h1 : (anyTP cfgW 100 24 [.ptr 2 0, .sli 6 (.c 0) 1 (.v ts.length) none] (s7 p xs ts)).lineP = some True := by kernel_rfl
  have hA : ∀ b ∈ A, b = true := by
    intro b hb
    simp only [A, List.mem_cons, List.not_mem_nil, or_false] at hb
    rcases hb with rfl | rfl | rfl
    · simp
    · simp
    · rw [roomy_iff]; simp; omega
  have hM : ∀ b ∈ M, b = true := by
    intro b hb
    simp only [M, List.mem_cons, List.not_mem_nil, or_false] at hb
    rcases hb with rfl | rfl | rfl <;> simp <;> omega
  refine anyP_line h0 h1 (fun b hb => ?_) trivial (by kernel_rfl)
  simp only [List.mem_append] at hb
  rcases hb with ((((((((((((hb | hb) | hb) | hb) | hb) | hb) | hb) | hb) | hb) | hb) | hb) | hb) | hb) | hb <;> first | exact hA b hb | exact hM b hb
abbrev Qw (env0 : Env) (p : In1) (w0 : World) (n : Nat) (r : Int) : Exit → Act → World → Prop := bodyPost Tryd.prog Tryd.f7 (Ends1 env0 (s0 p) w0 (toV n) (toS p (List.replicate n (newTk n r)) n))
abbrev atw (env0 : Env) (w0 : World) (p : In1) (n : Nat) (r : Int) (i : Nat) (a : Act) (w : World) : Prop :=
  ∃ env, AtK env0 [(0, 0)] ⟨w0, inFoot env0 (s0 p)⟩ env (fr 55 n7b (v7 (n : Nat) r (List.range i) (i : Nat))) (s7 p (List.replicate i (newTk n r)) (List.range i)) a w
def Invw (env0 : Env) (w0 : World) (p : In1) (n : Nat) (r : Int) (i : Nat) (a : Act) (w : World) : Prop := i ≤ n ∧ atw env0 w0 p n r i a w
theorem endw_ok {env0 : Env} {w0 : World} (hb0 : env0.length = 2) {p : In1} {n : Nat} (hn : n ≤ 8) {r : Int} {a : Act} {w : World} (hA : atw env0 w0 p n r n a w) : end7.wp Tryd.prog (Qw env0 p w0 n r) a w := by
  obtain ⟨env, hA⟩ := hA
  refine pieceTK2 (c := cfgT) cfgT_ok [4, 5] u_end (by omega) (by simp) hA ?_
  have hl : (List.range n).length = n := by simp
  have ht : List.take n (List.range n) = List.range n := List.take_of_length_le (by simp)
  refine all_eq (new_s p _ _ (by simpa using hn)) ?_
  simp only [List.drop_zero, hl, ht, Int.toNat_natCast]
  repeat' (first
    | refine all_needq (by simp only [decide_eq_true_eq, roomy_iff, List.length_range]; exact Iff.rfl) (by omega) ?_
    | refine all_ret (fun _ _ _ hA' => ?_))
  exact hA'.out (c := cfgT) (by kernel_rfl)
abbrev Rw (env0 : Env) (w0 : World) (p : In1) (n : Nat) (r : Int) (i : Nat) : Exit → Act → World → Prop :=
  Exit.then (fun a' w' => ∃ k, Invw env0 w0 p n r k a' w' ∧ n - k < n - i) (Exit.inBlock 0 (Exit.then (end7.wp Tryd.prog (Qw env0 p w0 n r)) (Qw env0 p w0 n r)))
theorem incw_ok {env0 : Env} {w0 : World} (hb0 : env0.length = 2) {p : In1} {n : Nat} (hn : n ≤ 8) {r : Int} {i : Nat} (hi : i < n) {env : Env} {a : Act} {w : World}
    (hA : AtK env0 [(0, 0)] ⟨w0, inFoot env0 (s0 p)⟩ env (fr 55 n7b (v7 (n : Nat) r (List.range (i + 1)) (i : Nat))) (s7 p (List.replicate (i + 1) (newTk n r)) (List.range (i + 1))) a w) : inc7.wp Tryd.prog (Rw env0 w0 p n r i) a w := by
  refine pieceTK2 (c := cfgT) cfgT_ok n7b u_inc (by omega) (by simp) hA ?_
  refine all_needp (by simp only [inR_i64]; exact Iff.rfl) (by omega) fun _ => all_ret fun env' a' w' hA' => ?_
  exact ⟨i + 1, ⟨by omega, env', hA'⟩, by omega⟩
set_option maxHeartbeats 1000000 in
theorem roundw_ok {env0 : Env} {w0 : World} (hb0 : env0.length = 2) {p : In1} {n : Nat} (h1 : 1 ≤ n) (hn : n ≤ 8) {r : Int} {i : Nat} (hi : i ≤ n) {a : Act} {w : World} (hA : atw env0 w0 p n r i a w) : round7.wp Tryd.prog (Rw env0 w0 p n r i) a w := by
  obtain ⟨env, hA⟩ := hA
  refine wpS (by kernel_rfl) ?_
  refine pieceTK2 (c := cfgT) cfgT_ok n7b u_tm (by omega) (by simp) hA ?_
  refine all_brp (by simp only [decide_eq_true_eq]; exact Iff.rfl) (fun h2 => all_ret fun env1 a1 w1 hA1 => ?_) (fun h2 => all_ret fun env1 a1 w1 h => by
    have hin : i = n := by omega
    subst hin
    simp only [Ex.to, Exit.then, Exit.inBlock, if_true]
    exact endw_ok hb0 hn ⟨env1, h⟩)
  have hin : i < n := by omega
  refine (show rr7.wp Tryd.prog (Rw env0 w0 p n r i) a1 w1 from wpS (by kernel_rfl) (wpB 1 (by kernel_rfl) ?_))
  refine (show bb7.wp Tryd.prog (Exit.inBlock 1 (Exit.then (inc7.wp Tryd.prog (Rw env0 w0 p n r i)) (Rw env0 w0 p n r i))) a1 w1 from ?_)
  refine pieceNTK2 (c := cfgT) cfgT_ok 1 n7c u_mk (by omega) (by simp) hA1 ?_
  refine all_brp (by simp only [decide_eq_true_eq]; exact Iff.rfl) (fun h => by exfalso; omega) (fun _ => ?_)
  refine all_brp (by simp only [decide_eq_true_eq]; exact Iff.rfl) (fun h => by exfalso; omega) (fun _ => ?_)
  refine all_ret fun env2 a2 w2 hA2 => ?_
  dsimp only at hA2
  simp only [Ex.to, Exit.then]
  obtain ⟨env3, hA3⟩ := hA2.join 4 7 (by omega) (by omega) (E := encTk) (xs := List.replicate i (newTk n r)) rfl rfl (newTk n r) (fun env cs h => by
      simpa [segCells, Seg.cells, encTk, encOf, newTk, boundOf, DenL, Den] using h) (v7 (n : Nat) r (List.range i) (i : Nat) ++ [SVal.pto 4 i 0, SVal.lit .i64 0]) (fun env' hj hm => ⟨hm _, hm _, hm _, hm _, hm _, hm _, fun v h => by
      have := hj v 0 h
      rwa [List.length_replicate] at this, hm _, trivial⟩)
  refine pieceTK2 (c := cfgT) cfgT_ok n7b (u_app (xs := List.replicate i (newTk n r) ++ [newTk n r]) (ts := List.range i)) (by omega) (by simp) hA3 ?_
  have hlr : (List.range i).length = i := by simp
  rw [hlr]
  refine all_need rfl fun _ => ?_
  refine all_need (decide_eq_true rfl) fun _ => ?_
  refine all_needq (by simp only [roomy_iff]; exact Iff.rfl) (by omega) ?_
  refine all_need rfl fun _ => ?_
  refine all_need (decide_eq_true rfl) fun _ => ?_
  refine all_needq (by simp only [roomy_iff]; exact Iff.rfl) (by omega) ?_
  refine all_ret fun env4 a4 w4 hA4 => ?_
  simp only [Ex.to, Exit.inBlock, Exit.then]
  rw [← List.replicate_succ', ← List.range_succ] at hA4
  have hlr' : (List.range (i + 1)).length = i + 1 := by simp
  refine incw_ok hb0 hn hin (env := env4) ?_
  rw [v7, hlr']
  exact hA4
theorem b7_eq : Tryd.f7.body = some b7 := by kernel_rfl
theorem waiters_call {p : In1} {n : Nat} (h1 : 1 ≤ n) (hn : n ≤ 8) {r : Int} : ∀ (env : Env) (w : World) (vs : List Value), GlOk cfgM.gl env → Rep env (s0 p) w → DenL env [.int .i64 (n : Nat), .int .i64 r] vs →
    Calls cfgM.P 7 ⟨vs⟩ w (Ends1 env (s0 p) w (toV n) (toS p (List.replicate n (newTk n r)) n)) := by
  intro env w vs hg hr hd
  have hb0 : env.length = 2 := hr.len
  refine AtK.begin (c := cfgT) Tryd.func7 b7_eq hg hr hd fun a hA => ?_
  refine pieceNTK2 (c := cfgT) cfgT_ok 4 n7a (u_pre (p := p) (n := (n : Nat)) (r := r)) (by omega) (by simp) hA ?_
  repeat' (first | refine all_need rfl (fun _ => ?_) | refine all_eq rfl ?_)
  refine all_ret fun env1 a1 w1 hA1 => ?_
  simp only [Ex.to, Exit.then]
  obtain ⟨env2, hA2⟩ := hA1.void 4 (encInt .i64) rfl
  obtain ⟨env3, hA3⟩ := hA2.void 5 (encInt .i64) rfl
  have hA4 := hA3.many0 encTk 68
  have hA5 := hA4.perm [0, 1, 2, 3, 8, 6, 7] (by kernel_rfl) (by kernel_rfl) (st' := s7a p ++ [.many encTk [] 68, .vec (encInt .i64) [] 30, .vec (encInt .i64) [] 66]) (vals' := v7a (n : Nat) r 0) rfl rfl (by rw [hb0]; rfl)
  have hA6 := hA5.on fun h => h.typede 5 (E' := encP 4) (ys := []) rfl rfl rfl (fun cs h => h)
  have hA7 := hA6.on fun h => h.typede 6 (E' := encT 30 4) (ys := []) rfl rfl rfl (fun cs h => h)
  refine wpS (by kernel_rfl) (wpS (by kernel_rfl) ?_)
  refine pieceTK2 (c := cfgT) cfgT_ok n7b (u_reg (p := p) (n := (n : Nat)) (r := r)) (by omega) (by simp) hA7 ?_
  refine all_ret fun env8 a8 w8 hA8 => ?_
  simp only [Ex.to, Exit.then]
  have hA9 := hA8.on fun h => h.gvals (v7 (n : Nat) r (List.range 0) ((0 : Nat) : Int)) rfl
  refine wpB 0 (by kernel_rfl) (wpL (by kernel_rfl) (Invw env w p n r) (fun i => n - i) 0 ⟨Nat.zero_le _, env8, hA9⟩ ?_)
  rintro i a w ⟨h2, hA⟩
  exact roundw_ok hb0 h1 hn h2 hA
end Go.Proofs.YtafipmkobdhigaaDoor

/- BarrierTogether, BarrierEnds: pieces and states. -/
namespace Go.Proofs.YtafipmkobdhigaaDoor
open Go Go.Proofs.YtafipmkobdhigaaDoor.Sx
set_option linter.unusedVariables false
/-- ahead of the loops -/
noncomputable def cfgL (p : In1) (n : Nat) (r : Int) : Cfg := { P := Tryd.prog, ex := exI, gl := [(0, 0)], sm := fun g => match g with
  | 7 => some (smEq [.int .i64 (n : Nat), .int .i64 r] (s0 p) (1 ≤ n ∧ n ≤ 8) (toV n) (toS p (List.replicate n (newTk n r)) n))
  | 8 => some (smClosed [0] [lookB] (.bl true))
  | _ => none }
noncomputable def b3 : Code := Tryd.f3.body.getD .skip
noncomputable def c3 : Code := restC 4 b3
noncomputable def reg3 : Code := lft (lft c3)
noncomputable def blk3 : Code := rgt (lft c3)
noncomputable def end3 : Code := rgt c3
noncomputable def round3 : Code := lft (lft blk3)
noncomputable def tm3 : Code := lft round3
noncomputable def bb3 : Code := lft (lft (rgt round3))
noncomputable def inc3 : Code := rgt (rgt round3)
noncomputable def in3 : Code := lft (restC 3 bb3)
noncomputable def lp3 : Code := lft (lft (rgt in3))
noncomputable def chk3 : Code := rgt (restC 3 bb3)
abbrev n3a : List Nat := [2, 7, 8, 9]
abbrev n3b : List Nat := [2, 7, 8, 9, 10]
abbrev n3c : List Nat := [2, 7, 8, 9, 10, 11, 12, 13]
abbrev n3d : List Nat := [2, 7, 8, 9, 10, 11, 12, 13, 14]
abbrev v3 (p : In1) (m : Nat) : List SVal := [picksV p 8, .int .i64 (m : Nat), .ptr 4 0, .sli 7 (.c 0) 1 (.v m) none]
abbrev s5 (p : In1) (m : Nat) (s : Mc) : St := mcS 2 m s ++ [.vec (encP 3) (List.range m) 30, .ro (encInt .i64) p.picks]
end Go.Proofs.YtafipmkobdhigaaDoor

namespace Go.Proofs.YtafipmkobdhigaaDoor
open Go Go.Proofs.YtafipmkobdhigaaDoor.Sx
set_option linter.unusedVariables false
set_option maxRecDepth 100000 in
theorem t3_pre {p : In1} {z r : Int} : (execN (cfgL p (1 + z.tmod 8).toNat r) 100 4 b3 ([.int .u8 z, .int .u8 r, picksV p 1] ++ List.replicate 101 .bad) (s0 p)).bind (canonK 9 [(0,0)] 104 n3a) =
 

 (.need (inR .i64 z)

 (.need (true)

 (.need (inR .i64 ((1 : Int) + z.tmod (8 : Int)))

 (.need (inR .i64 r)

 (.eq ([SVal.int .i64 ((1 : Int) + z.tmod (8 : Int)), .int .i64 r] = [SVal.int .i64 (↑((1 : Int) + z.tmod (8 : Int)).toNat : Int), .int .i64 r] ∧ [Blk.ro encLook [PUnit.unit], .ro (encInt IntKind.i64) p.1] = [Blk.ro encLook [PUnit.unit], .ro (encInt IntKind.i64) p.1] ∧ 1 ≤ ((1 : Int) + z.tmod (8 : Int)).toNat ∧ ((1 : Int) + z.tmod (8 : Int)).toNat ≤ 8)

 (.eq (some [Blk.ro encLook [PUnit.unit]] = some [Blk.ro encLook [PUnit.unit]])

 (.ret (.normal, [.sli 1 (.c 0) 1 (.v p.1.length) (some (.v p.2)), .int .i64 ((1 : Int) + z.tmod (8 : Int)), .ptr 5 0, .sli 8 (.c 0) 1 (.v ((1 : Int) + z.tmod (8 : Int)).toNat) none], [.ro encLook [PUnit.unit], .ro (encInt IntKind.i64) p.1, .own [.c (.sli 3 (.c 0) 1 (.c 2) (some (.c 2))), .c (.lit .i64 (0 : Int))] 70, .own [.c (.lit .u32 (0 : Int)), .c (.lit .u32 (0 : Int))] 35, .many encTk (List.replicate ((1 : Int) + z.tmod (8 : Int)).toNat { at' := (0 : Int), n := (↑((1 : Int) + z.tmod (8 : Int)).toNat : Int), rounds := boundOf r, phase := 0, came := (0 : Int), passed := (0 : Int) }) 68, .own [.c (.ptr 2 0), .c (.sli 6 (.c 0) 1 (.v ((1 : Int) + z.tmod (8 : Int)).toNat) none), .c (.sli 7 (.c 0) 1 (.v ((1 : Int) + z.tmod (8 : Int)).toNat) (some (.v ((1 : Int) + z.tmod (8 : Int)).toNat)))] 64, .vec (encT 30 4) (List.range ((1 : Int) + z.tmod (8 : Int)).toNat) 66, .own [.a encBool ((1 : Int) + z.tmod (8 : Int)).toNat (List.replicate ((1 : Int) + z.tmod (8 : Int)).toNat false)] 4, .vec (encP 4) (List.range ((1 : Int) + z.tmod (8 : Int)).toNat) 30])))))))) := by kernel_rfl
set_option maxRecDepth 100000 in
theorem t3_reg {p : In1} {m : Nat} {s : Mc} : (exec cfgM 100 reg3 (fr 104 n3a (v3 p m)) (s5 p m s)).bind (canonK 9 [(0,0)] 104 n3b) =
 

 (.ret (.normal, [.sli 8 (.c 0) 1 (.v p.1.length) (some (.v p.2)), .int .i64 (↑m : Int), .ptr 4 0, .sli 7 (.c 0) 1 (.v m) none, .lit .i64 (0 : Int)], [.ro encLook [PUnit.unit], .own [.c (.sli 2 (.c 0) 1 (.v 2) (some (.v 2))), .c (.int .i64 s.2)] 70, .own [.a (encInt IntKind.u32) 2 s.1] 35, .many encTk s.3 68, .own [.c (.ptr 1 0), .c (.sli 5 (.c 0) 1 (.v m) none), .c (.sli 6 (.c 0) 1 (.v m) (some (.v m)))] 64, .vec (encT 30 3) (List.range m) 66, .own [.a encBool m s.4] 4, .vec (encP 3) (List.range m) 30, .ro (encInt IntKind.i64) p.1])) := by kernel_rfl
set_option maxRecDepth 100000 in
theorem t3_tm {p : In1} {m : Nat} {s : Mc} {i : Nat} : (exec cfgM 100 tm3 (fr 104 n3b (v3 p m ++ [.int .i64 (i : Nat)])) (s5 p m s)).bind (canonK 9 [(0,0)] 104 n3b) =
 

 (.br (decide ((↑i : Int) < (↑p.1.length : Int)))

 (.br (decide ((↑i : Int) < (300 : Int)))

 (.ret (.normal, [.sli 8 (.c 0) 1 (.v p.1.length) (some (.v p.2)), .int .i64 (↑m : Int), .ptr 4 0, .sli 7 (.c 0) 1 (.v m) none, .int .i64 (↑i : Int)], [.ro encLook [PUnit.unit], .own [.c (.sli 2 (.c 0) 1 (.v 2) (some (.v 2))), .c (.int .i64 s.2)] 70, .own [.a (encInt IntKind.u32) 2 s.1] 35, .many encTk s.3 68, .own [.c (.ptr 1 0), .c (.sli 5 (.c 0) 1 (.v m) none), .c (.sli 6 (.c 0) 1 (.v m) (some (.v m)))] 64, .vec (encT 30 3) (List.range m) 66, .own [.a encBool m s.4] 4, .vec (encP 3) (List.range m) 30, .ro (encInt IntKind.i64) p.1]))

 (.ret (.exit 0, [.sli 8 (.c 0) 1 (.v p.1.length) (some (.v p.2)), .int .i64 (↑m : Int), .ptr 4 0, .sli 7 (.c 0) 1 (.v m) none, .int .i64 (↑i : Int)], [.ro encLook [PUnit.unit], .own [.c (.sli 2 (.c 0) 1 (.v 2) (some (.v 2))), .c (.int .i64 s.2)] 70, .own [.a (encInt IntKind.u32) 2 s.1] 35, .many encTk s.3 68, .own [.c (.ptr 1 0), .c (.sli 5 (.c 0) 1 (.v m) none), .c (.sli 6 (.c 0) 1 (.v m) (some (.v m)))] 64, .vec (encT 30 3) (List.range m) 66, .own [.a encBool m s.4] 4, .vec (encP 3) (List.range m) 30, .ro (encInt IntKind.i64) p.1])))

 (.ret (.exit 0, [.sli 8 (.c 0) 1 (.v p.1.length) (some (.v p.2)), .int .i64 (↑m : Int), .ptr 4 0, .sli 7 (.c 0) 1 (.v m) none, .int .i64 (↑i : Int)], [.ro encLook [PUnit.unit], .own [.c (.sli 2 (.c 0) 1 (.v 2) (some (.v 2))), .c (.int .i64 s.2)] 70, .own [.a (encInt IntKind.u32) 2 s.1] 35, .many encTk s.3 68, .own [.c (.ptr 1 0), .c (.sli 5 (.c 0) 1 (.v m) none), .c (.sli 6 (.c 0) 1 (.v m) (some (.v m)))] 64, .vec (encT 30 3) (List.range m) 66, .own [.a encBool m s.4] 4, .vec (encP 3) (List.range m) 30, .ro (encInt IntKind.i64) p.1]))) := by kernel_rfl
set_option maxRecDepth 100000 in
theorem t3_a {p : In1} {m : Nat} {s : Mc} {i : Nat} : (execN (cfgQ 2 m s) 100 3 bb3 (fr 104 n3b (v3 p m ++ [.int .i64 (i : Nat)])) (s5 p m s)).bind (canonK 9 [(0,0)] 104 n3c) =
 

 (.need (decide ((0 : Int) ≤ (↑i : Int)) && decide ((↑i : Int).toNat < p.1.length))

 (.need (decide ((↑i : Int).toNat < p.1.length))

 (.eq ([Blk.ro encLook [PUnit.unit], .own [.c (.sli 2 (.c 0) 1 (.v 2) (some (.v 2))), .c (.int .i64 s.2)] 70, .own [.a (encInt IntKind.u32) 2 s.1] 35, .many encTk s.3 68, .own [.c (.ptr 1 0), .c (.sli 5 (.c 0) 1 (.v m) none), .c (.sli 6 (.c 0) 1 (.v m) (some (.v m)))] 64, .vec (encT 30 3) (List.range m) 66, .own [.a encBool m s.4] 4] = [Blk.ro encLook [PUnit.unit], .own [.c (.sli 2 (.c 0) 1 (.v 2) (some (.v 2))), .c (.int .i64 s.2)] 70, .own [.a (encInt IntKind.u32) 2 s.1] 35, .many encTk s.3 68, .own [.c (.ptr 1 0), .c (.sli 5 (.c 0) 1 (.v m) none), .c (.sli 6 (.c 0) 1 (.v m) (some (.v m)))] 64, .vec (encT 30 3) (List.range m) 66, .own [.a encBool m s.4] 4] ∧ McOk 2 m s)

 (.need (decide (0 < m))

 (.need (decide (0 < (List.range m).length))

 (.need (decide ((List.range m).getD 0 0 < (pickP m s (p.1.getD (↑i : Int).toNat (0 : Int))).xs.length))

 (.need (decide (0 < m))

 (.need (decide (0 < (List.range m).length))

 (.need (decide ((List.range m).getD 0 0 < (pickP m s (p.1.getD (↑i : Int).toNat (0 : Int))).xs.length))
 (.eq (T.need (decide ((0 : Nat) < (List.range m).length)) (T.ret (((encP (3 : Nat)).enc ((List.range m).getD ((0 : Nat) / (encP (3 : Nat)).sz) (encP (3 : Nat)).dflt)).getD (0 : Nat) SVal.bad)) = T.need (decide ((0 : Nat) < (List.range m).length)) (T.ret (((encP (3 : Nat)).enc ((List.range m).getD ((0 : Nat) / (encP (3 : Nat)).sz) (encP (3 : Nat)).dflt)).getD (0 : Nat) SVal.bad)))
 (.eq (T.need (decide ((0 : Nat) < (List.range m).length)) (T.ret (((encP (3 : Nat)).enc ((List.range m).getD ((0 : Nat) / (encP (3 : Nat)).sz) (encP (3 : Nat)).dflt)).getD (0 : Nat) SVal.bad)) = T.need (decide ((0 : Nat) < (List.range m).length)) (T.ret (((encP (3 : Nat)).enc ((List.range m).getD ((0 : Nat) / (encP (3 : Nat)).sz) (encP (3 : Nat)).dflt)).getD (0 : Nat) SVal.bad)))
 (.eq (T.need (decide ((0 : Nat) < (List.range m).length)) (T.ret (((encP (3 : Nat)).enc ((List.range m).getD ((0 : Nat) / (encP (3 : Nat)).sz) (encP (3 : Nat)).dflt)).getD (0 : Nat) SVal.bad)) = T.need (decide ((0 : Nat) < (List.range m).length)) (T.ret (((encP (3 : Nat)).enc ((List.range m).getD ((0 : Nat) / (encP (3 : Nat)).sz) (encP (3 : Nat)).dflt)).getD (0 : Nat) SVal.bad)))

 (.need (decide (0 < m))

 (.need (decide (0 < (List.range m).length))

 (.need (decide ((List.range m).getD 0 0 < (pickP m s (p.1.getD (↑i : Int).toNat (0 : Int))).xs.length))

 (.ret (.normal, [.sli 8 (.c 0) 1 (.v p.1.length) (some (.v p.2)), .int .i64 (↑m : Int), .ptr 4 0, .sli 7 (.c 0) 1 (.v m) none, .int .i64 (↑i : Int), .int .i64 ((pickP m s (p.1.getD (↑i : Int).toNat (0 : Int))).xs.getD ((List.range m).getD 0 0) { at' := (0 : Int), n := (0 : Int), rounds := (0 : Int), phase := 0, came := (0 : Int), passed := (0 : Int) }).came, .int .i64 ((pickP m s (p.1.getD (↑i : Int).toNat (0 : Int))).xs.getD ((List.range m).getD 0 0) { at' := (0 : Int), n := (0 : Int), rounds := (0 : Int), phase := 0, came := (0 : Int), passed := (0 : Int) }).passed, .int .i64 ((pickP m s (p.1.getD (↑i : Int).toNat (0 : Int))).xs.getD ((List.range m).getD 0 0) { at' := (0 : Int), n := (0 : Int), rounds := (0 : Int), phase := 0, came := (0 : Int), passed := (0 : Int) }).passed], [.ro encLook [PUnit.unit], .own [.c (.sli 2 (.c 0) 1 (.v 2) (some (.v 2))), .c (.int .i64 (pickP m s (p.1.getD (↑i : Int).toNat (0 : Int))).c)] 70, .own [.a (encInt IntKind.u32) 2 (pickP m s (p.1.getD (↑i : Int).toNat (0 : Int))).l] 35, .many encTk (pickP m s (p.1.getD (↑i : Int).toNat (0 : Int))).xs 68, .own [.c (.ptr 1 0), .c (.sli 5 (.c 0) 1 (.v m) none), .c (.sli 6 (.c 0) 1 (.v m) (some (.v m)))] 64, .vec (encT 30 3) (List.range m) 66, .own [.a encBool m (pickP m s (p.1.getD (↑i : Int).toNat (0 : Int))).ds] 4, .vec (encP 3) (List.range m) 30, .ro (encInt IntKind.i64) p.1]))))))))))))))))) := by kernel_rfl
set_option maxRecDepth 100000 in
theorem t3_k {p : In1} {m : Nat} {s : Mc} {i : Nat} {a b c : Int} : (exec cfgM 100 (lft in3) (fr 104 n3c (v3 p m ++ [.int .i64 (i : Nat), .int .i64 a, .int .i64 b, .int .i64 c])) (s5 p m s)).bind (canonK 9 [(0,0)] 104 n3d) =
 

 (.ret (.normal, [.sli 8 (.c 0) 1 (.v p.1.length) (some (.v p.2)), .int .i64 (↑m : Int), .ptr 4 0, .sli 7 (.c 0) 1 (.v m) none, .int .i64 (↑i : Int), .int .i64 a, .int .i64 b, .int .i64 c, .lit .i64 (0 : Int)], [.ro encLook [PUnit.unit], .own [.c (.sli 2 (.c 0) 1 (.v 2) (some (.v 2))), .c (.int .i64 s.2)] 70, .own [.a (encInt IntKind.u32) 2 s.1] 35, .many encTk s.3 68, .own [.c (.ptr 1 0), .c (.sli 5 (.c 0) 1 (.v m) none), .c (.sli 6 (.c 0) 1 (.v m) (some (.v m)))] 64, .vec (encT 30 3) (List.range m) 66, .own [.a encBool m s.4] 4, .vec (encP 3) (List.range m) 30, .ro (encInt IntKind.i64) p.1])) := by kernel_rfl
set_option maxRecDepth 100000 in
theorem t3_in {p : In1} {m : Nat} {s : Mc} {i k : Nat} {a b c : Int} : (exec cfgM 100 lp3 (fr 104 n3d (v3 p m ++ [.int .i64 (i : Nat), .int .i64 a, .int .i64 b, .int .i64 c, .int .i64 (k : Nat)])) (s5 p m s)).bind (canonK 9 [(0,0)] 104 n3d) =
 

 (.br (decide ((↑k : Int) < (↑m : Int)))

 (.need (decide ((0 : Int) ≤ (↑k : Int)) && decide ((↑k : Int).toNat < m))

 (.need (decide ((↑k : Int).toNat < (List.range m).length))

 (.need (decide ((List.range m).getD (↑k : Int).toNat 0 < s.3.length))

 (.need (decide ((0 : Int) ≤ (↑k : Int)) && decide ((↑k : Int).toNat < m))

 (.need (decide ((↑k : Int).toNat < (List.range m).length))

 (.need (decide ((List.range m).getD (↑k : Int).toNat 0 < s.3.length))
 (.eq (T.need (decide ((↑k : Int).toNat < (List.range m).length)) (T.ret (((encP (3 : Nat)).enc ((List.range m).getD (↑k : Int).toNat (encP (3 : Nat)).dflt)).getD (0 : Nat) SVal.bad)) = T.need (decide ((↑k : Int).toNat < (List.range m).length)) (T.ret (((encP (3 : Nat)).enc ((List.range m).getD (↑k : Int).toNat (encP (3 : Nat)).dflt)).getD (0 : Nat) SVal.bad)))
 (.eq (T.need (decide ((↑k : Int).toNat < (List.range m).length)) (T.ret (((encP (3 : Nat)).enc ((List.range m).getD (↑k : Int).toNat (encP (3 : Nat)).dflt)).getD (0 : Nat) SVal.bad)) = T.need (decide ((↑k : Int).toNat < (List.range m).length)) (T.ret (((encP (3 : Nat)).enc ((List.range m).getD (↑k : Int).toNat (encP (3 : Nat)).dflt)).getD (0 : Nat) SVal.bad)))
 (.eq (T.need (decide ((↑k : Int).toNat < (List.range m).length)) (T.ret (((encP (3 : Nat)).enc ((List.range m).getD (↑k : Int).toNat (encP (3 : Nat)).dflt)).getD (0 : Nat) SVal.bad)) = T.need (decide ((↑k : Int).toNat < (List.range m).length)) (T.ret (((encP (3 : Nat)).enc ((List.range m).getD (↑k : Int).toNat (encP (3 : Nat)).dflt)).getD (0 : Nat) SVal.bad)))

 (.br (decide ((s.3.getD ((List.range m).getD (↑k : Int).toNat 0) { at' := (0 : Int), n := (0 : Int), rounds := (0 : Int), phase := 0, came := (0 : Int), passed := (0 : Int) }).came < (s.3.getD ((List.range m).getD (↑k : Int).toNat 0) { at' := (0 : Int), n := (0 : Int), rounds := (0 : Int), phase := 0, came := (0 : Int), passed := (0 : Int) }).passed))

 (.ret (.ret, [.sli 8 (.c 0) 1 (.v p.1.length) (some (.v p.2)), .int .i64 (↑m : Int), .ptr 4 0, .sli 7 (.c 0) 1 (.v m) none, .int .i64 (↑i : Int), .int .i64 a, .int .i64 b, .int .i64 c, .int .i64 (↑k : Int)], [.ro encLook [PUnit.unit], .own [.c (.sli 2 (.c 0) 1 (.v 2) (some (.v 2))), .c (.int .i64 s.2)] 70, .own [.a (encInt IntKind.u32) 2 s.1] 35, .many encTk s.3 68, .own [.c (.ptr 1 0), .c (.sli 5 (.c 0) 1 (.v m) none), .c (.sli 6 (.c 0) 1 (.v m) (some (.v m)))] 64, .vec (encT 30 3) (List.range m) 66, .own [.a encBool m s.4] 4, .vec (encP 3) (List.range m) 30, .ro (encInt IntKind.i64) p.1]))

 (.need (inR .i64 ((s.3.getD ((List.range m).getD (↑k : Int).toNat 0) { at' := (0 : Int), n := (0 : Int), rounds := (0 : Int), phase := 0, came := (0 : Int), passed := (0 : Int) }).passed + (1 : Int)))

 (.br (decide ((s.3.getD ((List.range m).getD (↑k : Int).toNat 0) { at' := (0 : Int), n := (0 : Int), rounds := (0 : Int), phase := 0, came := (0 : Int), passed := (0 : Int) }).passed + (1 : Int) < (s.3.getD ((List.range m).getD (↑k : Int).toNat 0) { at' := (0 : Int), n := (0 : Int), rounds := (0 : Int), phase := 0, came := (0 : Int), passed := (0 : Int) }).came))

 (.ret (.ret, [.sli 8 (.c 0) 1 (.v p.1.length) (some (.v p.2)), .int .i64 (↑m : Int), .ptr 4 0, .sli 7 (.c 0) 1 (.v m) none, .int .i64 (↑i : Int), .int .i64 a, .int .i64 b, .int .i64 c, .int .i64 (↑k : Int)], [.ro encLook [PUnit.unit], .own [.c (.sli 2 (.c 0) 1 (.v 2) (some (.v 2))), .c (.int .i64 s.2)] 70, .own [.a (encInt IntKind.u32) 2 s.1] 35, .many encTk s.3 68, .own [.c (.ptr 1 0), .c (.sli 5 (.c 0) 1 (.v m) none), .c (.sli 6 (.c 0) 1 (.v m) (some (.v m)))] 64, .vec (encT 30 3) (List.range m) 66, .own [.a encBool m s.4] 4, .vec (encP 3) (List.range m) 30, .ro (encInt IntKind.i64) p.1]))

 (.need (inR .i64 ((↑k : Int) + (1 : Int)))

 (.ret (.normal, [.sli 8 (.c 0) 1 (.v p.1.length) (some (.v p.2)), .int .i64 (↑m : Int), .ptr 4 0, .sli 7 (.c 0) 1 (.v m) none, .int .i64 (↑i : Int), .int .i64 (imin a (s.3.getD ((List.range m).getD (↑k : Int).toNat 0) { at' := (0 : Int), n := (0 : Int), rounds := (0 : Int), phase := 0, came := (0 : Int), passed := (0 : Int) }).came), .int .i64 (imax b (s.3.getD ((List.range m).getD (↑k : Int).toNat 0) { at' := (0 : Int), n := (0 : Int), rounds := (0 : Int), phase := 0, came := (0 : Int), passed := (0 : Int) }).passed), .int .i64 (imin c (s.3.getD ((List.range m).getD (↑k : Int).toNat 0) { at' := (0 : Int), n := (0 : Int), rounds := (0 : Int), phase := 0, came := (0 : Int), passed := (0 : Int) }).passed), .int .i64 ((↑k : Int) + (1 : Int))], [.ro encLook [PUnit.unit], .own [.c (.sli 2 (.c 0) 1 (.v 2) (some (.v 2))), .c (.int .i64 s.2)] 70, .own [.a (encInt IntKind.u32) 2 s.1] 35, .many encTk s.3 68, .own [.c (.ptr 1 0), .c (.sli 5 (.c 0) 1 (.v m) none), .c (.sli 6 (.c 0) 1 (.v m) (some (.v m)))] 64, .vec (encT 30 3) (List.range m) 66, .own [.a encBool m s.4] 4, .vec (encP 3) (List.range m) 30, .ro (encInt IntKind.i64) p.1])))))))))))))))

 (.ret (.exit 2, [.sli 8 (.c 0) 1 (.v p.1.length) (some (.v p.2)), .int .i64 (↑m : Int), .ptr 4 0, .sli 7 (.c 0) 1 (.v m) none, .int .i64 (↑i : Int), .int .i64 a, .int .i64 b, .int .i64 c, .int .i64 (↑k : Int)], [.ro encLook [PUnit.unit], .own [.c (.sli 2 (.c 0) 1 (.v 2) (some (.v 2))), .c (.int .i64 s.2)] 70, .own [.a (encInt IntKind.u32) 2 s.1] 35, .many encTk s.3 68, .own [.c (.ptr 1 0), .c (.sli 5 (.c 0) 1 (.v m) none), .c (.sli 6 (.c 0) 1 (.v m) (some (.v m)))] 64, .vec (encT 30 3) (List.range m) 66, .own [.a encBool m s.4] 4, .vec (encP 3) (List.range m) 30, .ro (encInt IntKind.i64) p.1]))) := by kernel_rfl
set_option maxRecDepth 100000 in
theorem t3_chk {p : In1} {m : Nat} {s : Mc} {i : Nat} {a b c : Int} : (exec cfgM 100 chk3 (fr 104 n3c (v3 p m ++ [.int .i64 (i : Nat), .int .i64 a, .int .i64 b, .int .i64 c])) (s5 p m s)).bind (canonK 9 [(0,0)] 104 n3b) =
 

 (.br (decide (a < b))

 (.ret (.ret, [.sli 8 (.c 0) 1 (.v p.1.length) (some (.v p.2)), .int .i64 (↑m : Int), .ptr 4 0, .sli 7 (.c 0) 1 (.v m) none, .int .i64 (↑i : Int)], [.ro encLook [PUnit.unit], .own [.c (.sli 2 (.c 0) 1 (.v 2) (some (.v 2))), .c (.int .i64 s.2)] 70, .own [.a (encInt IntKind.u32) 2 s.1] 35, .many encTk s.3 68, .own [.c (.ptr 1 0), .c (.sli 5 (.c 0) 1 (.v m) none), .c (.sli 6 (.c 0) 1 (.v m) (some (.v m)))] 64, .vec (encT 30 3) (List.range m) 66, .own [.a encBool m s.4] 4, .vec (encP 3) (List.range m) 30, .ro (encInt IntKind.i64) p.1]))

 (.need (inR .i64 (c + (1 : Int)))

 (.br (decide (c + (1 : Int) < b))

 (.ret (.ret, [.sli 8 (.c 0) 1 (.v p.1.length) (some (.v p.2)), .int .i64 (↑m : Int), .ptr 4 0, .sli 7 (.c 0) 1 (.v m) none, .int .i64 (↑i : Int)], [.ro encLook [PUnit.unit], .own [.c (.sli 2 (.c 0) 1 (.v 2) (some (.v 2))), .c (.int .i64 s.2)] 70, .own [.a (encInt IntKind.u32) 2 s.1] 35, .many encTk s.3 68, .own [.c (.ptr 1 0), .c (.sli 5 (.c 0) 1 (.v m) none), .c (.sli 6 (.c 0) 1 (.v m) (some (.v m)))] 64, .vec (encT 30 3) (List.range m) 66, .own [.a encBool m s.4] 4, .vec (encP 3) (List.range m) 30, .ro (encInt IntKind.i64) p.1]))

 (.ret (.normal, [.sli 8 (.c 0) 1 (.v p.1.length) (some (.v p.2)), .int .i64 (↑m : Int), .ptr 4 0, .sli 7 (.c 0) 1 (.v m) none, .int .i64 (↑i : Int)], [.ro encLook [PUnit.unit], .own [.c (.sli 2 (.c 0) 1 (.v 2) (some (.v 2))), .c (.int .i64 s.2)] 70, .own [.a (encInt IntKind.u32) 2 s.1] 35, .many encTk s.3 68, .own [.c (.ptr 1 0), .c (.sli 5 (.c 0) 1 (.v m) none), .c (.sli 6 (.c 0) 1 (.v m) (some (.v m)))] 64, .vec (encT 30 3) (List.range m) 66, .own [.a encBool m s.4] 4, .vec (encP 3) (List.range m) 30, .ro (encInt IntKind.i64) p.1]))))) := by kernel_rfl
set_option maxRecDepth 100000 in
theorem t3_inc {p : In1} {m : Nat} {s : Mc} {i : Nat} : (exec cfgM 100 inc3 (fr 104 n3b (v3 p m ++ [.int .i64 (i : Nat)])) (s5 p m s)).bind (canonK 9 [(0,0)] 104 n3b) =
 

 (.need (inR .i64 ((↑i : Int) + (1 : Int)))

 (.ret (.normal, [.sli 8 (.c 0) 1 (.v p.1.length) (some (.v p.2)), .int .i64 (↑m : Int), .ptr 4 0, .sli 7 (.c 0) 1 (.v m) none, .int .i64 ((↑i : Int) + (1 : Int))], [.ro encLook [PUnit.unit], .own [.c (.sli 2 (.c 0) 1 (.v 2) (some (.v 2))), .c (.int .i64 s.2)] 70, .own [.a (encInt IntKind.u32) 2 s.1] 35, .many encTk s.3 68, .own [.c (.ptr 1 0), .c (.sli 5 (.c 0) 1 (.v m) none), .c (.sli 6 (.c 0) 1 (.v m) (some (.v m)))] 64, .vec (encT 30 3) (List.range m) 66, .own [.a encBool m s.4] 4, .vec (encP 3) (List.range m) 30, .ro (encInt IntKind.i64) p.1]))) := by kernel_rfl
set_option maxRecDepth 100000 in
theorem t3_end {p : In1} {m : Nat} {s : Mc} {i : Nat} : (exec cfgM 100 end3 (fr 104 n3b (v3 p m ++ [.int .i64 (i : Nat)])) (s5 p m s)).bind (canonK 9 [(0,0)] 104 [6]) =
 

 (.ret (.ret, [.bl true], [.ro encLook [PUnit.unit], .own [.c (.sli 2 (.c 0) 1 (.v 2) (some (.v 2))), .c (.int .i64 s.2)] 70, .own [.a (encInt IntKind.u32) 2 s.1] 35, .many encTk s.3 68, .own [.c (.ptr 1 0), .c (.sli 5 (.c 0) 1 (.v m) none), .c (.sli 6 (.c 0) 1 (.v m) (some (.v m)))] 64, .vec (encT 30 3) (List.range m) 66, .own [.a encBool m s.4] 4, .vec (encP 3) (List.range m) 30, .ro (encInt IntKind.i64) p.1])) := by kernel_rfl
end Go.Proofs.YtafipmkobdhigaaDoor

/- Layer 11, plain: waiters of one barrier. -/
namespace Go.Proofs.YtafipmkobdhigaaDoor
open Go Go.Proofs.YtafipmkobdhigaaDoor.Sx
set_option linter.unusedVariables false
theorem w32_mod (x : Int) : IntKind.u32.wrap x = x % 4294967296 := by
  simp [IntKind.wrap, IntKind.signed, IntKind.bits]
theorem low_u32 (x : Int) : ((low .u32 x : Nat) : Int) = x % 4294967296 := by
  have : 0 ≤ x % 4294967296 := by omega
  simp only [low, IntKind.bits]
  omega
theorem low_lt (x : Int) : low .u32 x < 4294967296 := by
  have := low_u32 x
  omega
theorem and_mask (x : Int) : bitop .and .u32 x 4294967295 = x % 4294967296 := by
  have h1 : low .u32 4294967295 = 2 ^ 32 - 1 := by decide
  have h2 := low_lt x
  simp only [bitop, h1, Nat.and_two_pow_sub_one_eq_mod, w32_mod]
  rw [Nat.mod_eq_of_lt (by omega), low_u32]
  omega
theorem and_zero (x : Int) : bitop .and .u32 x 0 = 0 := by
  have h1 : low .u32 0 = 0 := by decide
  simp only [bitop, h1, Nat.and_zero, w32_mod]
  rfl
theorem or_zero (x : Int) : bitop .or .u32 x 0 = x % 4294967296 := by
  have h1 : low .u32 0 = 0 := by decide
  simp only [bitop, h1, Nat.or_zero, w32_mod, low_u32]
  omega
theorem zero_or (x : Int) : bitop .or .u32 0 x = x % 4294967296 := by
  have h1 : low .u32 0 = 0 := by decide
  simp only [bitop, h1, Nat.zero_or, w32_mod, low_u32]
  omega
theorem incP_ok (x : Int) : incP x = (x + 1) % 4294967296 := by
  simp only [incP, and_mask, or_zero, w32_mod]; omega
theorem setP_ok (x v : Int) : setP x v = v % 4294967296 := by
  simp only [setP, and_zero, zero_or, w32_mod]; omega
def b01 (b : Bool) : Int := if b then 1 else 0
def cnt (f : Nat → Bool) (k : Nat) : Int := (((List.range k).filter f).length : Nat)
theorem cnt_succ (f : Nat → Bool) (k : Nat) : cnt f (k + 1) = cnt f k + b01 (f k) := by
  unfold cnt
  rw [List.range_succ, List.filter_append, List.length_append]
  cases h : f k <;> simp [h, b01]
theorem cnt_zero (f : Nat → Bool) : cnt f 0 = 0 := rfl
theorem b01_le (b : Bool) : 0 ≤ b01 b ∧ b01 b ≤ 1 := by cases b <;> decide
theorem cnt_bound (f : Nat → Bool) : ∀ k : Nat, 0 ≤ cnt f k ∧ cnt f k ≤ k
  | 0 => by rw [cnt_zero]; omega
  | k + 1 => by
    have h1 := cnt_bound f k
    have h2 := b01_le (f k)
    rw [cnt_succ]; push_cast; omega
theorem cnt_congr {f g : Nat → Bool} : ∀ {k : Nat}, (∀ j, j < k → f j = g j) → cnt f k = cnt g k
  | 0, _ => rfl
  | k + 1, h => by rw [cnt_succ, cnt_succ, cnt_congr fun j hj => h j (by omega), h k (by omega)]
/-- one more -/
theorem cnt_more {f g : Nat → Bool} {i : Nat} : ∀ {k : Nat}, i < k → f i = false → g i = true → (∀ j, j < k → j ≠ i → g j = f j) → cnt g k = cnt f k + 1
  | 0, h, _, _, _ => by omega
  | k + 1, h, h1, h2, h3 => by
    rw [cnt_succ, cnt_succ]
    by_cases hik : i = k
    · subst hik
      rw [h1, h2, cnt_congr (f := g) (g := f) fun j hj => h3 j (by omega) (by omega)]
      simp [b01]
    · rw [cnt_more (f := f) (g := g) (i := i) (k := k) (by omega) h1 h2 fun j hj => h3 j (by omega), h3 k (by omega) (fun e => hik e.symm)]
      omega
theorem cnt_all {f : Nat → Bool} : ∀ {k : Nat}, cnt f k = k → ∀ j, j < k → f j = true
  | 0, _, j, hj => by omega
  | k + 1, h, j, hj => by
    rw [cnt_succ] at h
    have h1 := cnt_bound f k
    have h2 := b01_le (f k)
    push_cast at h
    by_cases hjk : j = k
    · subst hjk
      cases hf : f j with
      | true => rfl
      | false => rw [hf] at h; simp [b01] at h; omega
    · exact cnt_all (k := k) (by omega) j (by omega)
theorem cnt_full {f : Nat → Bool} : ∀ {k : Nat}, (∀ j, j < k → f j = true) → cnt f k = k
  | 0, _ => rfl
  | k + 1, h => by rw [cnt_succ, cnt_full fun j hj => h j (by omega), h k (by omega)]; simp [b01]
theorem cnt_none {f : Nat → Bool} : ∀ {k : Nat}, (∀ j, j < k → f j = false) → cnt f k = 0
  | 0, _ => rfl
  | k + 1, h => by rw [cnt_succ, cnt_none fun j hj => h j (by omega), h k (by omega)]; simp [b01]
theorem senseP_ok {c : Int} (h : 0 ≤ c ∧ c < 4294967296) : senseP c = c % 2 := by
  unfold senseP
  rw [w32_mod, Int.tmod_eq_emod_of_nonneg (by omega)]; omega
/-! ## a waiter of m, at 0 -/
structure Plain (m : Nat) (R : Int) (t : Tk) : Prop where
  at' : t.at' = 0
  n : t.n = (m : Nat)
  rounds : t.rounds = R
theorem step_stop {t : Tk} {l : List Int} (h : t.passed = t.rounds) : stepP t l = (t, l, true) := by
  have : (t.passed == t.rounds) = true := beq_iff_eq.2 h
  simp [stepP, this]
theorem step_0 {m : Nat} {R : Int} {t : Tk} (ht : Plain m R t) (hm : 1 ≤ m ∧ m ≤ 8) {A G : Int} (hA : 0 ≤ A ∧ A ≤ 8) (h : t.passed ≠ R) (hp : t.phase = 0) : stepP t [A, G] = ({t with came := t.came + 1, phase := if A = (m : Int) - 1 then 1 else 3}, [A + 1, G], false) := by
  obtain ⟨a, n, r, ph, c, p⟩ := t
  obtain ⟨h1, h2, h3⟩ := ht
  simp only at h1 h2 h3 hp h
  subst h1 h2 h3 hp
  have e : (p == r) = false := beq_eq_false_iff_ne.2 h
  have e2 : (A + 1) % 4294967296 = A + 1 := by omega
  have e3 : IntKind.u32.wrap ((m : Int) - 1) = (m : Int) - 1 := by rw [w32_mod]; omega
  by_cases hq : A = (m : Int) - 1
  · have e4 : (A == (m : Int) - 1) = true := beq_iff_eq.2 hq
    simp [stepP, e, inP, incP_ok, e2, e3, e4, hq]
    omega
  · have e4 : (A == (m : Int) - 1) = false := beq_eq_false_iff_ne.2 hq
    simp [stepP, e, inP, incP_ok, e2, e3, e4, hq]
theorem step_1 {m : Nat} {R : Int} {t : Tk} (ht : Plain m R t) {A G : Int} (h : t.passed ≠ R) (hp : t.phase = 1) : stepP t [A, G] = ({t with phase := 2}, [0, G], false) := by
  obtain ⟨a, n, r, ph, c, p⟩ := t
  obtain ⟨h1, h2, h3⟩ := ht
  simp only at h1 h2 h3 hp h
  subst h1 h2 h3 hp
  have e : (p == r) = false := beq_eq_false_iff_ne.2 h
  simp [stepP, e, inP, setP_ok]
theorem step_2 {m : Nat} {R : Int} {t : Tk} (ht : Plain m R t) {A G : Int} (h : t.passed ≠ R) (hc : 0 ≤ t.came ∧ t.came < 4294967296) (hp : t.phase = 2) : stepP t [A, G] = (passTk t, [A, t.came % 2], t.passed + 1 == R) := by
  obtain ⟨a, n, r, ph, c, p⟩ := t
  obtain ⟨h1, h2, h3⟩ := ht
  simp only at h1 h2 h3 hp h hc
  subst h1 h2 h3 hp
  have e : (p == r) = false := beq_eq_false_iff_ne.2 h
  have e2 : c % 2 % 4294967296 = c % 2 := by omega
  simp [stepP, e, inP, setP_ok, senseP_ok hc, e2]
theorem step_3 {m : Nat} {R : Int} {t : Tk} (ht : Plain m R t) {A G : Int} (h : t.passed ≠ R) (hc : 0 ≤ t.came ∧ t.came < 4294967296) (hp : t.phase = 3) : stepP t [A, G] = (if G = t.came % 2 then passTk t else t, [A, G], if G = t.came % 2 then t.passed + 1 == R else false) := by
  obtain ⟨a, n, r, ph, c, p⟩ := t
  obtain ⟨h1, h2, h3⟩ := ht
  simp only at h1 h2 h3 hp h hc
  subst h1 h2 h3 hp
  have e : (p == r) = false := beq_eq_false_iff_ne.2 h
  by_cases hq : G = c % 2
  · have e4 : (G == c % 2) = true := beq_iff_eq.2 hq
    simp [stepP, e, inP, senseP_ok hc, e4, hq]
  · have e4 : (G == c % 2) = false := beq_eq_false_iff_ne.2 hq
    simp [stepP, e, inP, senseP_ok hc, e4, hq]
end Go.Proofs.YtafipmkobdhigaaDoor

/- Layer 11, plain: nobody is ahead. -/
namespace Go.Proofs.YtafipmkobdhigaaDoor
open Go Go.Proofs.YtafipmkobdhigaaDoor.Sx
set_option linter.unusedVariables false
/-- who has come to the round that is under way -/
def hereB (K : Int) (s : Mc) (j : Nat) : Bool := decide ((tkAt s j).came = K + 1)
/-- where one stands in round K -/
def Stands (K R : Int) (t : Tk) : Prop :=
  (t.came = K ∧ t.phase = 0 ∧ t.passed = K) ∨ (t.came = K ∧ t.phase = 3 ∧ t.passed = K - 1 ∧ 1 ≤ K) ∨ (t.came = K + 1 ∧ t.passed = K ∧ K < R ∧ 1 ≤ t.phase ∧ t.phase ≤ 3)
/-- nobody resets, or one is about to -/
def Mode (m : Nat) (K A : Int) (s : Mc) : Prop :=
  ((∀ i, i < m → (tkAt s i).phase = 0 ∨ (tkAt s i).phase = 3) ∧ A = cnt (hereB K s) m ∧ A < m) ∨
  (∃ i, i < m ∧ ((tkAt s i).phase = 1 ∧ A = m ∨ (tkAt s i).phase = 2 ∧ A = 0) ∧ (∀ j, j < m → j ≠ i → (tkAt s j).phase = 3) ∧ ∀ j, j < m → (tkAt s j).came = K + 1)
structure Inv (m : Nat) (R K A G : Int) (s : Mc) : Prop where
  l : s.l = [A, G]
  xs : s.xs.length = m
  ds : s.ds.length = m
  m8 : 1 ≤ m ∧ m ≤ 8
  kB : 0 ≤ K ∧ K ≤ R
  rB : R ≤ 1000
  g : G = K % 2
  plain : ∀ i, i < m → Plain m R (tkAt s i)
  stands : ∀ i, i < m → Stands K R (tkAt s i)
  mode : Mode m K A s
  done : ∀ i, i < m → s.ds.getD i false = true → (tkAt s i).passed = R
theorem Stands.ok {m : Nat} {K R : Int} {t : Tk} (h : Stands K R t) (hp : Plain m R t) (hm : 1 ≤ m ∧ m ≤ 8) (hK : 0 ≤ K ∧ K ≤ R) (hR : R ≤ 1000) : TkOk t := by
  obtain ⟨h1, h2, h3⟩ := hp
  refine ⟨by omega, by omega, ?_, ?_, ?_⟩
  · rcases h with h | h | h <;> omega
  · rcases h with h | h | h <;> omega
  · rcases h with ⟨a, b, c⟩ | ⟨a, b, c, d⟩ | ⟨a, b, c, d, e⟩
    · rw [if_pos b]; omega
    · rw [if_neg (by omega)]; omega
    · rw [if_neg (by omega)]; omega
theorem Inv.ok {m : Nat} {R K A G : Int} {s : Mc} (h : Inv m R K A G s) : McOk 2 m s :=
  ⟨by rw [h.l]; rfl, h.xs, h.ds, fun i hi => (h.stands i hi).ok (h.plain i hi) h.m8 h.kB h.rB⟩
theorem Inv.aB {m : Nat} {R K A G : Int} {s : Mc} (h : Inv m R K A G s) : 0 ≤ A ∧ A ≤ 8 := by
  have hm := h.m8
  rcases h.mode with ⟨_, h2, h3⟩ | ⟨i, _, h2 | h2, _⟩
  · have := cnt_bound (hereB K s) m; omega
  · omega
  · omega
theorem tkAt_set {s : Mc} {l : List Int} {c : Int} {ds : List Bool} {i : Nat} (hi : i < s.xs.length) (t : Tk) (j : Nat) : tkAt ⟨l, c, s.xs.set i t, ds⟩ j = if j = i then t else tkAt s j := by
  by_cases h : j = i
  · subst h; simp only [tkAt, if_true]; exact Sx.getD_set_self hi _ _
  · simp only [tkAt, h, if_false]; exact Sx.getD_set_ne (fun e => h e.symm) _ _
theorem getD_ds {ds : List Bool} {i j : Nat} {b : Bool} (h : (ds.set i b).getD j false = true) : (j = i ∧ b = true) ∨ (j ≠ i ∧ ds.getD j false = true) := by
  by_cases hji : j = i
  · subst hji
    rcases Nat.lt_or_ge j ds.length with hl | hl
    · rw [Sx.getD_set_self hl] at h; exact .inl ⟨rfl, h⟩
    · rw [List.getD_eq_getElem?_getD, List.getElem?_eq_none (by simpa using hl)] at h; simp at h
  · rw [Sx.getD_set_ne (fun e => hji e.symm)] at h; exact .inr ⟨hji, h⟩
/-- what a pick did -/
inductive Did (m : Nat) (R : Int) (s s' : Mc) (i : Nat) : Int → Int → Prop where
  | stop (K : Int) (h : (tkAt s i).passed = R) (hx : ∀ j, tkAt s' j = tkAt s j) (hd : s'.ds = s.ds.set i true) : Did m R s s' i K K
  | come (K : Int) (hK : K < R) (h0 : (tkAt s i).phase = 0) (h : (tkAt s i).came = K) (hx : ∀ j, j ≠ i → tkAt s' j = tkAt s j) (h1 : (tkAt s' i).came = K + 1) (hd : s'.ds = s.ds.set i false) : Did m R s s' i K K
  | clear (K : Int) (hK : K < R) (h : (tkAt s i).phase = 1) (hx : ∀ j, j ≠ i → tkAt s' j = tkAt s j) (h1 : (tkAt s' i).phase = 2) (hd : s'.ds = s.ds.set i false) : Did m R s s' i K K
  | turn (K : Int) (hK : K < R) (h : (tkAt s i).phase = 2) (hx : ∀ j, j ≠ i → tkAt s' j = tkAt s j) : Did m R s s' i K (K + 1)
  | pass (K : Int) (h : (tkAt s i).phase = 3 ∧ (tkAt s i).came = K) (hx : ∀ j, j ≠ i → tkAt s' j = tkAt s j) (h1 : (tkAt s' i).phase = 0 ∧ (tkAt s' i).came = K ∧ (tkAt s' i).passed = K) (hd : s'.ds = s.ds.set i (K == R)) : Did m R s s' i K K
  | wait (K : Int) (hK : K < R) (h : (tkAt s i).phase = 3 ∧ (tkAt s i).came = K + 1) (hx : ∀ j, tkAt s' j = tkAt s j) (hd : s'.ds = s.ds.set i false) : Did m R s s' i K K
set_option maxHeartbeats 1000000 in
theorem Inv.pick {m : Nat} {R K A G : Int} {s : Mc} (h : Inv m R K A G s) {i : Nat} (hi : i < m) (hd : s.ds.getD i false = false) :
    ∃ K' A' G', Inv m R K' A' G' (pickP m s (i : Nat)) ∧ Did m R s (pickP m s (i : Nat)) i K K' := by
  have hin : inP (i : Int) m = true := by rw [inP_iff]; omega
  have hit : ((i : Nat) : Int).toNat = i := by simp
  have hxl : i < s.xs.length := by rw [h.xs]; exact hi
  have hdl : i < s.ds.length := by rw [h.ds]; exact hi
  have hpl := h.plain i hi
  have hst := h.stands i hi
  have hm := h.m8
  have hK := h.kB
  have hR := h.rB
  have hA := h.aB
  have e0 : pickP m s (i : Nat) = ⟨(stepP (tkAt s i) [A, G]).2.1, usesP (tkAt s i) [A, G] s.c, s.xs.set i (stepP (tkAt s i) [A, G]).1, s.ds.set i (stepP (tkAt s i) [A, G]).2.2⟩ := by
    simp only [pickP, hin, hit, hd, wordsP, tkP, doneP, h.l]
  have plain' : ∀ {t : Tk} {l c ds}, Plain m R t → ∀ j, j < m → Plain m R (tkAt ⟨l, c, s.xs.set i t, ds⟩ j) := by
    intro t l c ds ht j hj
    rw [tkAt_set hxl]; split
    · exact ht
    · exact h.plain j hj
  have done' : ∀ {t : Tk} {l c b}, (b = true → t.passed = R) → ∀ j, j < m → (s.ds.set i b).getD j false = true → (tkAt ⟨l, c, s.xs.set i t, s.ds.set i b⟩ j).passed = R := by
    intro t l c b hb j hj hj'
    rw [tkAt_set hxl]
    rcases getD_ds hj' with ⟨rfl, h1⟩ | ⟨h2, h1⟩
    · rw [if_pos rfl]; exact hb h1
    · rw [if_neg h2]; exact h.done j hj h1
  by_cases hp : (tkAt s i).passed = R
  · have hpr : (tkAt s i).passed = (tkAt s i).rounds := by rw [hpl.rounds]; exact hp
    rw [step_stop hpr] at e0
    have hx : ∀ {l c ds} (j : Nat), tkAt ⟨l, c, s.xs.set i (tkAt s i), ds⟩ j = tkAt s j := fun j => by rw [tkAt_set hxl]; split <;> simp_all
    refine ⟨K, A, G, ?_, .stop K hp (fun j => by rw [e0]; exact hx j) (by rw [e0])⟩
    rw [e0]
    refine ⟨rfl, by simp [h.xs], by simp [h.ds], hm, hK, hR, h.g, plain' hpl, fun j hj => by rw [hx]; exact h.stands j hj, ?_, done' fun _ => hp⟩
    rcases h.mode with ⟨h1, h2, h3⟩ | ⟨k, h1, h2, h3, h4⟩
    · refine .inl ⟨fun j hj => by rw [hx]; exact h1 j hj, ?_, h3⟩
      rw [h2]; exact cnt_congr fun j hj => by rw [hereB, hereB, hx]
    · exact .inr ⟨k, h1, by rw [hx]; exact h2, fun j hj hjk => by rw [hx]; exact h3 j hj hjk, fun j hj => by rw [hx]; exact h4 j hj⟩
  have hcb : 0 ≤ (tkAt s i).came ∧ (tkAt s i).came < 4294967296 := by rcases hst with h | h | h <;> omega
  rcases hst with ⟨s1, s2, s3⟩ | ⟨s1, s2, s3, s4⟩ | ⟨s1, s2, s3, s4, s5⟩
  · -- comes
    have hKR : K < R := by omega
    rcases h.mode with ⟨h1, h2, h3⟩ | ⟨k, h1, h2, h3, h4⟩
    · rw [step_0 hpl hm hA hp s2] at e0
      have hx : ∀ {l c ds} (j : Nat), tkAt ⟨l, c, s.xs.set i {tkAt s i with came := (tkAt s i).came + 1, phase := if A = (m : Int) - 1 then 1 else 3}, ds⟩ j = if j = i then {tkAt s i with came := (tkAt s i).came + 1, phase := if A = (m : Int) - 1 then 1 else 3} else tkAt s j := fun j => tkAt_set hxl _ j
      refine ⟨K, A + 1, G, ?_, .come K hKR s2 s1 (fun j hj => by rw [e0, hx, if_neg hj]) (by rw [e0, hx, if_pos rfl]; simp only; omega) (by rw [e0])⟩
      rw [e0]
      have hcn : cnt (hereB K ⟨[A + 1, G], usesP (tkAt s i) [A, G] s.c, s.xs.set i {tkAt s i with came := (tkAt s i).came + 1, phase := if A = (m : Int) - 1 then 1 else 3}, s.ds.set i false⟩) m = cnt (hereB K s) m + 1 := by
        refine cnt_more (i := i) hi ?_ ?_ fun j hj hji => ?_
        · exact decide_eq_false (by omega)
        · rw [hereB, hx, if_pos rfl]; exact decide_eq_true (by simp only; omega)
        · rw [hereB, hereB, hx, if_neg hji]
      refine ⟨rfl, by simp [h.xs], by simp [h.ds], hm, hK, hR, h.g, plain' ⟨hpl.at', hpl.n, hpl.rounds⟩, fun j hj => ?_, ?_, done' fun e => by cases e⟩
      · rw [hx]; split
        · refine .inr (.inr ⟨by simp only; omega, s3, hKR, ?_, ?_⟩) <;> simp only <;> split <;> omega
        · exact h.stands j hj
      · by_cases hq : A = (m : Int) - 1
        · right
          have hall := cnt_all (f := hereB K _) (k := m) (by rw [hcn, ← h2]; omega)
          have hc1 : ∀ j, j < m → (tkAt _ j).came = K + 1 := fun j hj => of_decide_eq_true (hall j hj)
          refine ⟨i, hi, .inl ⟨by rw [hx, if_pos rfl]; simp only; rw [if_pos hq], by omega⟩, fun j hj hji => ?_, hc1⟩
          have h5 := hc1 j hj
          rw [hx, if_neg hji] at h5 ⊢
          rcases h1 j hj with h6 | h6
          · rcases h.stands j hj with ⟨a, b, c⟩ | ⟨a, b, c, d⟩ | ⟨a, b, c, d, e⟩ <;> omega
          · exact h6
        · left
          refine ⟨fun j hj => ?_, by rw [hcn, h2], ?_⟩
          · rw [hx]; split
            · right; simp [hq]
            · exact h1 j hj
          · have := cnt_bound (hereB K s) m; omega
    · have := h4 i hi; omega
  · -- late
    have hsn : G = (tkAt s i).came % 2 := by rw [h.g, s1]
    rw [step_3 hpl hp hcb s2, if_pos hsn, if_pos hsn] at e0
    have hx : ∀ {l c ds} (j : Nat), tkAt ⟨l, c, s.xs.set i (passTk (tkAt s i)), ds⟩ j = if j = i then passTk (tkAt s i) else tkAt s j := fun j => tkAt_set hxl _ j
    have hb : ((tkAt s i).passed + 1 == R) = (K == R) := by rw [show (tkAt s i).passed + 1 = K by omega]
    rw [hb] at e0
    refine ⟨K, A, G, ?_, .pass K ⟨s2, s1⟩ (fun j hj => by rw [e0, hx, if_neg hj]) (by rw [e0, hx, if_pos rfl]; exact ⟨rfl, s1, by simp only [passTk]; omega⟩) (by rw [e0])⟩
    rw [e0]
    refine ⟨rfl, by simp [h.xs], by simp [h.ds], hm, hK, hR, h.g, plain' ⟨hpl.at', hpl.n, hpl.rounds⟩, fun j hj => ?_, ?_, done' fun e => by have := beq_iff_eq.1 e; simp only [passTk]; omega⟩
    · rw [hx]; split
      · exact .inl ⟨s1, rfl, by simp only [passTk]; omega⟩
      · exact h.stands j hj
    · rcases h.mode with ⟨h1, h2, h3⟩ | ⟨k, h1, h2, h3, h4⟩
      · refine .inl ⟨fun j hj => ?_, ?_, h3⟩
        · rw [hx]; split
          · exact .inl rfl
          · exact h1 j hj
        · rw [h2]; refine cnt_congr fun j hj => ?_
          rw [hereB, hereB, hx]; split
          · rename_i e; subst e; rfl
          · rfl
      · have := h4 i hi; omega
  · -- came
    have hph : (tkAt s i).phase = 1 ∨ (tkAt s i).phase = 2 ∨ (tkAt s i).phase = 3 := by omega
    rcases hph with h1 | h1 | h1
    · -- clears
      rw [step_1 hpl hp h1] at e0
      have hx : ∀ {l c ds} (j : Nat), tkAt ⟨l, c, s.xs.set i {tkAt s i with phase := 2}, ds⟩ j = if j = i then {tkAt s i with phase := 2} else tkAt s j := fun j => tkAt_set hxl _ j
      refine ⟨K, 0, G, ?_, .clear K s3 h1 (fun j hj => by rw [e0, hx, if_neg hj]) (by rw [e0, hx, if_pos rfl]) (by rw [e0])⟩
      rw [e0]
      refine ⟨rfl, by simp [h.xs], by simp [h.ds], hm, hK, hR, h.g, plain' ⟨hpl.at', hpl.n, hpl.rounds⟩, fun j hj => ?_, ?_, done' fun e => by cases e⟩
      · rw [hx]; split
        · exact .inr (.inr ⟨s1, s2, s3, by simp, by simp⟩)
        · exact h.stands j hj
      · rcases h.mode with ⟨m1, m2, m3⟩ | ⟨k, m1, m2, m3, m4⟩
        · have := m1 i hi; omega
        · have hki : k = i := by
            by_cases e : i = k
            · exact e.symm
            · have := m3 i hi e; omega
          subst hki
          refine .inr ⟨k, hi, .inr ⟨by rw [hx, if_pos rfl], rfl⟩, fun j hj hjk => by rw [hx, if_neg hjk]; exact m3 j hj hjk, fun j hj => ?_⟩
          rw [hx]; split
          · exact s1
          · exact m4 j hj
    · -- turns
      rw [step_2 hpl hp hcb h1] at e0
      have hx : ∀ {l c ds} (j : Nat), tkAt ⟨l, c, s.xs.set i (passTk (tkAt s i)), ds⟩ j = if j = i then passTk (tkAt s i) else tkAt s j := fun j => tkAt_set hxl _ j
      rcases h.mode with ⟨m1, m2, m3⟩ | ⟨k, m1, m2, m3, m4⟩
      · have := m1 i hi; omega
      · have hki : k = i := by
          by_cases e : i = k
          · exact e.symm
          · have := m3 i hi e; omega
        subst hki
        have hA0 : A = 0 := by rcases m2 with ⟨e, _⟩ | ⟨_, e⟩ <;> omega
        refine ⟨K + 1, A, (tkAt s k).came % 2, ?_, .turn K s3 h1 (fun j hj => by rw [e0, hx, if_neg hj])⟩
        rw [e0]
        have hst' : ∀ j, j < m → j ≠ k → (tkAt s j).came = K + 1 ∧ (tkAt s j).phase = 3 ∧ (tkAt s j).passed = K := fun j hj hjk => by
          have a1 := m3 j hj hjk
          have a2 := m4 j hj
          rcases h.stands j hj with a | a | a <;> omega
        refine ⟨rfl, by simp [h.xs], by simp [h.ds], hm, by omega, hR, by rw [s1], plain' ⟨hpl.at', hpl.n, hpl.rounds⟩, fun j hj => ?_, ?_, done' fun e => by have := beq_iff_eq.1 e; simp only [passTk]; omega⟩
        · rw [hx]; split
          · exact .inl ⟨s1, rfl, by simp only [passTk]; omega⟩
          · rename_i hjk
            have := hst' j hj hjk
            exact .inr (.inl ⟨this.1, this.2.1, by omega, by omega⟩)
        · refine .inl ⟨fun j hj => ?_, ?_, by omega⟩
          · rw [hx]; split
            · exact .inl rfl
            · rename_i hjk; exact .inr (hst' j hj hjk).2.1
          · rw [hA0]; symm
            refine cnt_none fun j hj => ?_
            rw [hereB, hx]; split
            · exact decide_eq_false (by simp only [passTk]; omega)
            · rename_i hjk
              have := (hst' j hj hjk).1
              exact decide_eq_false (by omega)
    · -- waits
      have hsn : ¬ G = (tkAt s i).came % 2 := by rw [h.g, s1]; omega
      rw [step_3 hpl hp hcb h1, if_neg hsn, if_neg hsn] at e0
      have hx : ∀ {l c ds} (j : Nat), tkAt ⟨l, c, s.xs.set i (tkAt s i), ds⟩ j = tkAt s j := fun j => by rw [tkAt_set hxl]; split <;> simp_all
      refine ⟨K, A, G, ?_, .wait K s3 ⟨h1, s1⟩ (fun j => by rw [e0]; exact hx j) (by rw [e0])⟩
      rw [e0]
      refine ⟨rfl, by simp [h.xs], by simp [h.ds], hm, hK, hR, h.g, plain' hpl, fun j hj => by rw [hx]; exact h.stands j hj, ?_, done' fun e => by cases e⟩
      rcases h.mode with ⟨h1, h2, h3⟩ | ⟨k, h1, h2, h3, h4⟩
      · refine .inl ⟨fun j hj => by rw [hx]; exact h1 j hj, ?_, h3⟩
        rw [h2]; exact cnt_congr fun j hj => by rw [hereB, hereB, hx]
      · exact .inr ⟨k, h1, by rw [hx]; exact h2, fun j hj hjk => by rw [hx]; exact h3 j hj hjk, fun j hj => by rw [hx]; exact h4 j hj⟩
end Go.Proofs.YtafipmkobdhigaaDoor

