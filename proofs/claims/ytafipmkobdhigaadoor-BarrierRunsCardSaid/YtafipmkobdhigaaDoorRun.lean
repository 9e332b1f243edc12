/- BarrierRuns holds for every input: a play takes as many rounds as a machine of such waiters. -/
import Derived.Test.YtafipmkobdhigaaDoorRna
import Derived.Test.YtafipmkobdhigaaDoorSxC
namespace Go.Proofs.YtafipmkobdhigaaDoor
open Go Go.Proofs.YtafipmkobdhigaaDoor.Sx
set_option linter.unusedVariables false
set_option maxRecDepth 100000 in
theorem t22_run {m : Nat} {s : Mc} {L : List Int} {r : Int} : (execN (cfgPl m s L 0) 100 1 (restC 1 end22) (fr 48 [3, 4, 15] [.int .i64 r, listW L 3, .ptr 5 0]) (plM m s L)).bind (canonK 8 [(0,0)] 48 [3, 15]) =
 

 (.eq ([SVal.ptr 5 0, .sli 3 (.c 0) 1 (.v L.length) none] = [SVal.ptr 5 0, .sli 3 (.c 0) 1 (.v L.length) none] ∧ [Blk.ro encLook [PUnit.unit], .own [.c (.sli 2 (.c 0) 1 (.v 3) (some (.v 3))), .c (.int .i64 s.2)] 70, .own [.a (encInt IntKind.u32) 3 s.1] 35, .vec (encInt IntKind.i64) L 3, .many encTk s.3 68, .own [.c (.ptr 1 0), .c (.sli 6 (.c 0) 1 (.v m) none), .c (.sli 7 (.c 0) 1 (.v m) (some (.v m)))] 64, .vec (encT 30 4) (List.range m) 66, .own [.a encBool m s.4] 4] = [Blk.ro encLook [PUnit.unit], .own [.c (.sli 2 (.c 0) 1 (.v 3) (some (.v 3))), .c (.int .i64 s.2)] 70, .own [.a (encInt IntKind.u32) 3 s.1] 35, .vec (encInt IntKind.i64) L 3, .many encTk s.3 68, .own [.c (.ptr 1 0), .c (.sli 6 (.c 0) 1 (.v m) none), .c (.sli 7 (.c 0) 1 (.v m) (some (.v m)))] 64, .vec (encT 30 4) (List.range m) 66, .own [.a encBool m s.4] 4] ∧ McOk 3 m s ∧ L.length ≤ 1000000)

 (.ret (.normal, [.int .i64 r, .ptr 5 0], [.ro encLook [PUnit.unit], .own [.c (.sli 2 (.c 0) 1 (.v 3) (some (.v 3))), .c (.int .i64 (runP m s L).c)] 70, .own [.a (encInt IntKind.u32) 3 (runP m s L).l] 35, .vec (encInt IntKind.i64) L 3, .many encTk (runP m s L).xs 68, .own [.c (.ptr 1 0), .c (.sli 6 (.c 0) 1 (.v m) none), .c (.sli 7 (.c 0) 1 (.v m) (some (.v m)))] 64, .vec (encT 30 4) (List.range m) 66, .own [.a encBool m (runP m s L).ds] 4]))) := by kernel_rfl
set_option maxRecDepth 100000 in
theorem t22_fin {m : Nat} {s : Mc} {L : List Int} {r : Int} : (exec (cfgPl m s L (10 * boundOf r + 10)) 100 (restC 2 end22) (fr 48 [3, 15] [.int .i64 r, .ptr 5 0]) (plM m s L)).bind (canonK 8 [(0,0)] 48 [10, 11]) =
 

 (.need (inR .i64 ((10 : Int) * imin (imax r (0 : Int)) (1000 : Int)))

 (.need (inR .i64 ((10 : Int) * imin (imax r (0 : Int)) (1000 : Int) + (10 : Int)))

 (.eq ([SVal.ptr 5 0, .int .i64 ((10 : Int) * imin (imax r (0 : Int)) (1000 : Int) + (10 : Int))] = [SVal.ptr 5 0, .int .i64 ((10 : Int) * boundOf r + (10 : Int))] ∧ [Blk.ro encLook [PUnit.unit], .own [.c (.sli 2 (.c 0) 1 (.v 3) (some (.v 3))), .c (.int .i64 s.2)] 70, .own [.a (encInt IntKind.u32) 3 s.1] 35, .vec (encInt IntKind.i64) L 3, .many encTk s.3 68, .own [.c (.ptr 1 0), .c (.sli 6 (.c 0) 1 (.v m) none), .c (.sli 7 (.c 0) 1 (.v m) (some (.v m)))] 64, .vec (encT 30 4) (List.range m) 66, .own [.a encBool m s.4] 4] = [Blk.ro encLook [PUnit.unit], .own [.c (.sli 2 (.c 0) 1 (.v 3) (some (.v 3))), .c (.int .i64 s.2)] 70, .own [.a (encInt IntKind.u32) 3 s.1] 35, .vec (encInt IntKind.i64) L 3, .many encTk s.3 68, .own [.c (.ptr 1 0), .c (.sli 6 (.c 0) 1 (.v m) none), .c (.sli 7 (.c 0) 1 (.v m) (some (.v m)))] 64, .vec (encT 30 4) (List.range m) 66, .own [.a encBool m s.4] 4] ∧ McOk 3 m s ∧ m ≤ 1000 ∧ (10 : Int) * boundOf r + (10 : Int) ≤ (1000000 : Int))

 (.ret (.ret, [.int .i64 (↑(stopP m s ((10 : Int) * boundOf r + (10 : Int)).toNat) : Int), .lit .i64 (0 : Int)], [.ro encLook [PUnit.unit], .own [.c (.sli 2 (.c 0) 1 (.v 3) (some (.v 3))), .c (.int .i64 (endP m s ((10 : Int) * boundOf r + (10 : Int)).toNat).c)] 70, .own [.a (encInt IntKind.u32) 3 (endP m s ((10 : Int) * boundOf r + (10 : Int)).toNat).l] 35, .vec (encInt IntKind.i64) L 3, .many encTk (endP m s ((10 : Int) * boundOf r + (10 : Int)).toNat).xs 68, .own [.c (.ptr 1 0), .c (.sli 6 (.c 0) 1 (.v m) none), .c (.sli 7 (.c 0) 1 (.v m) (some (.v m)))] 64, .vec (encT 30 4) (List.range m) 66, .own [.a encBool m (endP m s ((10 : Int) * boundOf r + (10 : Int)).toNat).ds] 4]))))) := by kernel_rfl
end Go.Proofs.YtafipmkobdhigaaDoor

/- BarrierRuns: what a play comes to. -/
namespace Go.Proofs.YtafipmkobdhigaaDoor
open Go Go.Proofs.YtafipmkobdhigaaDoor.Sx
set_option linter.unusedVariables false
theorem b22_eq : Tryd.f22.body = some b22 := by kernel_rfl
theorem AtKvec0 {base : Env} {gl : List (Nat × Nat)} {w0 : From} {env : Env} {ts : List SVal} {st : St} {a : Act} {w : World} (h : AtK base gl w0 env ts st a w) {X : Type} (E : Enc X) (T : TypeId) : AtK base gl w0 (env ++ [⟨0, 0, 0, []⟩]) ts (st ++ [.vec E [] T]) a w := by
  obtain ⟨h, m, rfl⟩ := h
  exact ⟨h.push E T, m ++ [⟨0, 0, 0, []⟩], by simp⟩
def newTp (n : Nat) (r : Int) : Tk := ⟨1, n, boundOf r, 0, 0, 0⟩
abbrev atp (env0 : Env) (w0 : World) (l : List Int) (c : Int) (L : List Int) (n : Nat) (r : Int) (i : Nat) (a : Act) (w : World) : Prop :=
  ∃ env, AtK env0 [(0, 0)] ⟨w0, inFoot env0 (plyS l c L)⟩ env (fr 48 n22b (v22 (n : Nat) r L (List.range i).length (i : Nat))) (ply2 l c L (List.replicate i (newTp n r)) (List.range i)) a w
def Invp (env0 : Env) (w0 : World) (l : List Int) (c : Int) (L : List Int) (n : Nat) (r : Int) (i : Nat) (a : Act) (w : World) : Prop := i ≤ n ∧ atp env0 w0 l c L n r i a w
/-- the machine of a play -/
abbrev mcP (l : List Int) (c : Int) (n : Nat) (r : Int) : Mc := ⟨l, c, List.replicate n (newTp n r), List.replicate n false⟩
abbrev ranP (l : List Int) (c : Int) (L : List Int) (n : Nat) (r : Int) : Mc := runP n (mcP l c n r) L
abbrev Qp (env0 : Env) (w0 : World) (l : List Int) (c : Int) (L : List Int) (n : Nat) (r : Int) : Exit → Act → World → Prop :=
  bodyPost Tryd.prog Tryd.f22 (Ends1 env0 (plyS l c L) w0 (.tup [.int .i64 (stopP n (ranP l c L n r) (10 * boundOf r + 10).toNat : Nat), .lit .i64 0]) (plM n (endP n (ranP l c L n r) (10 * boundOf r + 10).toNat) L))
theorem bound_le (r : Int) : 0 ≤ boundOf r ∧ boundOf r ≤ 1000 := by
  unfold boundOf imin imax; split <;> split <;> omega
theorem okP {l : List Int} (hl : l.length = 3) {c : Int} {n : Nat} (h1 : 1 ≤ n) (hn : n ≤ 8) {r : Int} : McOk 3 n (mcP l c n r) := by
  have hb := bound_le r
  refine ⟨hl, by simp, by simp, fun i hi => ?_⟩
  have e : (List.replicate n (newTp n r)).getD i encTk.dflt = newTp n r := by simp [List.getD_eq_getElem?_getD, hi]
  show TkOk ((List.replicate n (newTp n r)).getD i encTk.dflt)
  rw [e]
  exact ⟨by simp [newTp], by simp [newTp]; omega, ⟨Int.le_refl _, hb.1, hb.2⟩, by simp [newTp], by simp [newTp]⟩
set_option maxRecDepth 100000 in
theorem new_p (l : List Int) (c : Int) (L : List Int) (xs : List Tk) (ts : List Nat) (hn : ts.length ≤ 8) : anyP cfgW 100 24 [.ptr 1 0, .sli 5 (.c 0) 1 (.v ts.length) none] (ply2 l c L xs ts) := by
  let A : List Bool := [decide (0 + ts.length ≤ ts.length), decide (0 + ts.length ≤ ts.length), roomy (List.take ts.length (List.drop 0 ts)).length 16]
  let M : List Bool := [decide (0 ≤ (ts.length : Int)), decide ((ts.length : Int) * 1 ≤ 140737488355328), decide ((ts.length : Int) ≤ 4611686018427387904)]
  have h0 : (anyTP cfgW 100 24 [.ptr 1 0, .sli 5 (.c 0) 1 (.v ts.length) none] (ply2 l c L xs ts)).lineB = some (A ++ M ++ A ++ M ++ A ++ M ++ M ++ A ++ A ++ M ++ M ++ A ++ M ++ A) := by kernel_rfl
  have h1 : (anyTP cfgW 100 24 [.ptr 1 0, .sli 5 (.c 0) 1 (.v ts.length) none] (ply2 l c L xs ts)).lineP = some True := by kernel_rfl
  have hA : ∀ b ∈ A, b = true := by
    intro b hb
    simp only [A, List.mem_cons, List.not_mem_nil, or_false] at hb
    rcases hb with rfl | rfl | rfl
    · simp
    · simp
    · rw [roomy_iff]; simp; omega
  have hM : ∀ b ∈ M, b = true := by
    intro b hb
    simp only [M, List.mem_cons, List.not_mem_nil, or_false] at hb
    rcases hb with rfl | rfl | rfl <;> simp <;> omega
  refine anyP_line h0 h1 (fun b hb => ?_) trivial (by kernel_rfl)
  simp only [List.mem_append] at hb
  rcases hb with ((((((((((((hb | hb) | hb) | hb) | hb) | hb) | hb) | hb) | hb) | hb) | hb) | hb) | hb) | hb <;> first | exact hA b hb | exact hM b hb
theorem endp_ok {env0 : Env} {w0 : World} (hb0 : env0.length = 4) {l : List Int} (hl : l.length = 3) {c : Int} {L : List Int} (hL : L.length ≤ 1000000) {n : Nat} (h1 : 1 ≤ n) (hn : n ≤ 8) {r : Int} {a : Act} {w : World} (hA : atp env0 w0 l c L n r n a w) : end22.wp Tryd.prog (Qp env0 w0 l c L n r) a w := by
  obtain ⟨env, hA⟩ := hA
  have hb := bound_le r
  refine pieceNTK2 (c := cfgT) cfgT_ok 1 [3, 4, 15] t22_new (by omega) (by simp) hA ?_
  have hlr : (List.range n).length = n := by simp
  have ht : List.take n (List.range n) = List.range n := List.take_of_length_le (by simp)
  refine all_eq (new_p l c L _ _ (by simpa using hn)) ?_
  simp only [List.drop_zero, hlr, ht, Int.toNat_natCast]
  repeat' (first
    | refine all_needq (by simp only [decide_eq_true_eq, roomy_iff, List.length_range]; exact Iff.rfl) (by omega) ?_
    | refine all_ret (fun env1 a1 w1 hA1 => ?_))
  simp only [Ex.to, Exit.then]
  have hok : McOk 3 n (mcP l c n r) := okP hl h1 hn
  refine pieceNTK2 (c := cfgPl n (mcP l c n r) L 0) cfgPl_ok 1 [3, 15] (t22_run (s := mcP l c n r)) (by omega) (by simp) hA1 ?_
  refine all_eq ⟨rfl, rfl, hok, hL⟩ (all_ret fun env2 a2 w2 hA2 => ?_)
  simp only [Ex.to, Exit.then]
  have hok2 : McOk 3 n (ranP l c L n r) := ok_run hok
  refine (show (restC 2 end22).wp Tryd.prog (Qp env0 w0 l c L n r) a2 w2 from ?_)
  refine pieceTK2 (c := cfgPl n (ranP l c L n r) L (10 * boundOf r + 10)) cfgPl_ok [10, 11] (t22_fin (s := ranP l c L n r)) (by omega) (by simp) hA2 ?_
  have e : imin (imax r 0) 1000 = boundOf r := rfl
  rw [e]
  refine all_needq (by simp only [inR_i64]; exact Iff.rfl) (by omega) ?_
  refine all_needq (by simp only [inR_i64]; exact Iff.rfl) (by omega) ?_
  refine all_eq ⟨rfl, rfl, hok2, by omega, by omega⟩ (all_ret fun env3 a3 w3 hA3 => ?_)
  exact hA3.out (c := cfgM) (by kernel_rfl)
end Go.Proofs.YtafipmkobdhigaaDoor

/- BarrierRuns: a play's loop, and its contract. -/
namespace Go.Proofs.YtafipmkobdhigaaDoor
open Go Go.Proofs.YtafipmkobdhigaaDoor.Sx
set_option linter.unusedVariables false
abbrev Rp (env0 : Env) (w0 : World) (l : List Int) (c : Int) (L : List Int) (n : Nat) (r : Int) (i : Nat) : Exit → Act → World → Prop :=
  Exit.then (fun a' w' => ∃ k, Invp env0 w0 l c L n r k a' w' ∧ n - k < n - i) (Exit.inBlock 0 (Exit.then (end22.wp Tryd.prog (Qp env0 w0 l c L n r)) (Qp env0 w0 l c L n r)))
theorem incp_ok {env0 : Env} {w0 : World} (hb0 : env0.length = 4) {l : List Int} {c : Int} {L : List Int} {n : Nat} (hn : n ≤ 8) {r : Int} {i : Nat} (hi : i < n) {env : Env} {a : Act} {w : World}
    (hA : AtK env0 [(0, 0)] ⟨w0, inFoot env0 (plyS l c L)⟩ env (fr 48 n22b (v22 (n : Nat) r L (List.range (i + 1)).length (i : Nat))) (ply2 l c L (List.replicate (i + 1) (newTp n r)) (List.range (i + 1))) a w) : inc22.wp Tryd.prog (Rp env0 w0 l c L n r i) a w := by
  refine pieceTK2 (c := cfgT) cfgT_ok n22b t22_inc (by omega) (by simp) hA ?_
  refine all_needp (by simp only [inR_i64]; exact Iff.rfl) (by omega) fun _ => all_ret fun env' a' w' hA' => ?_
  exact ⟨i + 1, ⟨by omega, env', hA'⟩, by omega⟩
set_option maxHeartbeats 1000000 in
theorem roundp_ok {env0 : Env} {w0 : World} (hb0 : env0.length = 4) {l : List Int} (hl : l.length = 3) {c : Int} {L : List Int} (hL : L.length ≤ 1000000) {n : Nat} (h1 : 1 ≤ n) (hn : n ≤ 8) {r : Int} {i : Nat} (hi : i ≤ n) {a : Act} {w : World} (hA : atp env0 w0 l c L n r i a w) : lp22.wp Tryd.prog (Rp env0 w0 l c L n r i) a w := by
  obtain ⟨env, hA⟩ := hA
  have hmx : imax (n : Int) 1 = n := by unfold imax; split <;> omega
  refine pieceNTK2 (c := cfgT) cfgT_ok 2 n22b t22_tm (by omega) (by simp) hA ?_
  rw [hmx]
  refine all_brp (by simp only [decide_eq_true_eq]; exact Iff.rfl) (fun h2 => all_ret fun env1 a1 w1 hA1 => ?_) (fun h2 => all_ret fun env1 a1 w1 h => by
    have hin : i = n := by omega
    subst hin
    simp only [Ex.to, Exit.then, Exit.inBlock, if_true]
    refine endp_ok hb0 hl hL h1 hn ⟨env1, ?_⟩
    rw [v22, hmx]
    exact h)
  have hin : i < n := by omega
  have hA1' : AtK env0 [(0, 0)] ⟨w0, inFoot env0 (plyS l c L)⟩ env1 (fr 48 n22b (v22 (n : Nat) r L (List.range i).length (i : Nat))) (ply2 l c L (List.replicate i (newTp n r)) (List.range i)) a1 w1 := by
    rw [v22, hmx]; exact hA1
  simp only [Ex.to, Exit.then]
  refine (show (restC 2 lp22).wp Tryd.prog (Rp env0 w0 l c L n r i) a1 w1 from wpS (by kernel_rfl) (wpB 1 (by kernel_rfl) ?_))
  refine (show bb22.wp Tryd.prog (Exit.inBlock 1 (Exit.then (inc22.wp Tryd.prog (Rp env0 w0 l c L n r i)) (Rp env0 w0 l c L n r i))) a1 w1 from ?_)
  refine pieceNTK2 (c := cfgT) cfgT_ok 1 n22c t22_mk (by omega) (by simp) hA1' ?_
  refine all_brp (by simp only [decide_eq_true_eq]; exact Iff.rfl) (fun h => by exfalso; omega) (fun _ => ?_)
  refine all_brp (by simp only [decide_eq_true_eq]; exact Iff.rfl) (fun h => by exfalso; omega) (fun _ => ?_)
  refine all_ret fun env2 a2 w2 hA2 => ?_
  dsimp only at hA2
  simp only [Ex.to, Exit.then]
  obtain ⟨env3, hA3⟩ := hA2.join 4 6 (by omega) (by omega) (E := encTk) (xs := List.replicate i (newTp n r)) rfl rfl (newTp n r) (fun env cs h => by
      simpa [segCells, Seg.cells, encTk, encOf, newTp, boundOf, DenL, Den] using h) (v22 (n : Nat) r L (List.range i).length (i : Nat) ++ [SVal.pto 4 i 0, SVal.lit .i64 0]) (fun env' hj hm => ⟨hm _, hm _, hm _, hm _, hm _, hm _, hm _, hm _, fun v h => by
      have := hj v 0 h
      rwa [List.length_replicate] at this, hm _, trivial⟩)
  refine pieceTK2 (c := cfgT) cfgT_ok n22b (t22_app (xs := List.replicate i (newTp n r) ++ [newTp n r]) (ts := List.range i)) (by omega) (by simp) hA3 ?_
  have hlr : (List.range i).length = i := by simp
  rw [hlr]
  refine all_need rfl fun _ => ?_
  refine all_need (decide_eq_true rfl) fun _ => ?_
  refine all_needq (by simp only [roomy_iff]; exact Iff.rfl) (by omega) ?_
  refine all_ret fun env4 a4 w4 hA4 => ?_
  simp only [Ex.to, Exit.inBlock, Exit.then]
  rw [← List.replicate_succ', ← List.range_succ] at hA4
  have hlr' : (List.range (i + 1)).length = i + 1 := by simp
  refine incp_ok hb0 hn hin (env := env4) ?_
  rw [v22, u22, hlr']
  exact hA4
/-- ahead of the loop -/
theorem ply_begin {l : List Int} {c : Int} {L : List Int} {n r : Int} {Q : Exit → Act → World → Prop} {env : Env} {w : World} (hb0 : env.length = 4) {a : Act} (hA : AtK env [(0, 0)] ⟨w, inFoot env (plyS l c L)⟩ env ([.ptr 1 0, .lit .i64 1, .int .i64 n, .int .i64 r, listW L 3] ++ List.replicate 43 .bad) (plyS l c L) a w)
    (hk : ∀ env' a' w', AtK env [(0, 0)] ⟨w, inFoot env (plyS l c L)⟩ env' (fr 48 n22b (v22 n r L 0 ((0 : Nat) : Int))) (ply2 l c L [] []) a' w' → blk22.wp Tryd.prog (Exit.then (end22.wp Tryd.prog Q) Q) a' w') : b22.wp Tryd.prog Q a w := by
  refine pieceNTK2 (c := cfgT) cfgT_ok 2 n22a t22_pre (by omega) (by simp) hA ?_
  refine all_ret fun env1 a1 w1 hA1 => ?_
  simp only [Ex.to, Exit.then]
  have hA2 := AtKvec0 (hA1.many0 encTk 68) (encT 30 4) (T := 66)
  have hle : env1.length = 4 := hA1.at'.rep.len
  have hA3 := hA2.on fun h => h.vals (u22 n r L 0) ⟨fun _ h => h, fun _ h => h, fun _ h => h, fun _ h => h, fun _ h => h, fun v hv => nil_den (by rw [show (5 : Nat) = (env1 ++ [(⟨0, 0, 0, []⟩ : Slot)]).length by simp [hle]]; simp) hv, trivial⟩
  refine (show c22.wp Tryd.prog Q a1 w1 from wpS (by kernel_rfl) (wpS (by kernel_rfl) ?_))
  refine pieceTK2 (c := cfgT) cfgT_ok n22b (t22_reg (l := l) (c := c) (L := L) (n := n) (r := r)) (by omega) (by simp) hA3 ?_
  refine all_ret fun env8 a8 w8 hA8 => ?_
  simp only [Ex.to, Exit.then]
  exact hk _ _ _ (hA8.on fun h => h.gvals (v22 n r L 0 ((0 : Nat) : Int)) rfl)
theorem play_ok {l : List Int} (hl : l.length = 3) {c : Int} {L : List Int} (hL : L.length ≤ 1000000) {n : Nat} (h1 : 1 ≤ n) (hn : n ≤ 8) {r : Int} : ∀ (env : Env) (w : World) (vs : List Value), GlOk cfgM.gl env → Rep env (plyS l c L) w → DenL env [.ptr 1 0, .lit .i64 1, .int .i64 (n : Nat), .int .i64 r, listW L 3] vs →
    Calls cfgM.P 22 ⟨vs⟩ w (Ends1 env (plyS l c L) w (.tup [.int .i64 (stopP n (ranP l c L n r) (10 * boundOf r + 10).toNat : Nat), .lit .i64 0]) (plM n (endP n (ranP l c L n r) (10 * boundOf r + 10).toNat) L)) := by
  intro env w vs hg hr hd
  have hb0 : env.length = 4 := hr.len
  refine AtK.begin (c := cfgT) Tryd.func22 b22_eq hg hr hd fun a hA => ?_
  refine ply_begin hb0 hA fun env9 a9 w9 hA9 => ?_
  refine wpB 0 (by kernel_rfl) (wpL (by kernel_rfl) (Invp env w l c L n r) (fun i => n - i) 0 ⟨Nat.zero_le _, env9, hA9⟩ ?_)
  rintro i a w ⟨h2, hA⟩
  exact roundp_ok hb0 hl hL h1 hn h2 hA
end Go.Proofs.YtafipmkobdhigaaDoor

/- BarrierRuns: a play of no waiters, or of too many. -/
namespace Go.Proofs.YtafipmkobdhigaaDoor
open Go Go.Proofs.YtafipmkobdhigaaDoor.Sx
set_option linter.unusedVariables false
theorem play_bad {l : List Int} {c : Int} {L : List Int} {n r : Int} (hn : n < 1 ∨ 8 < n) : ∀ (env : Env) (w : World) (vs : List Value), GlOk cfgM.gl env → Rep env (plyS l c L) w → DenL env [.ptr 1 0, .lit .i64 1, .int .i64 n, .int .i64 r, listW L 3] vs →
    Calls cfgM.P 22 ⟨vs⟩ w (Ends1 env (plyS l c L) w (.tup [.lit .i64 0, .lit .i64 110]) (plyS l c L ++ [.many encTk [] 68])) := by
  intro env w vs hg hr hd
  have hb0 : env.length = 4 := hr.len
  have hmx : 1 ≤ imax n 1 := by unfold imax; split <;> omega
  refine AtK.begin (c := cfgT) Tryd.func22 b22_eq hg hr hd fun a hA => ?_
  refine ply_begin hb0 hA fun env9 a9 w9 hA9 => ?_
  refine wpB 0 (by kernel_rfl) (wpL (by kernel_rfl) (fun (i : Nat) a' w' => ∃ env', AtK env [(0, 0)] ⟨w, inFoot env (plyS l c L)⟩ env' (fr 48 n22b (v22 n r L ([] : List Nat).length ((0 : Nat) : Int))) (ply2 l c L [] []) a' w') (fun i => i) 0 ⟨env9, hA9⟩ ?_)
  rintro i a w' ⟨env1, hA1⟩
  refine (show lp22.wp Tryd.prog _ a w' from ?_)
  refine pieceNTK2 (c := cfgT) cfgT_ok 2 n22b (t22_tm (xs := []) (ts := []) (i := 0)) (by omega) (by simp) hA1 ?_
  refine all_brp (by simp only [decide_eq_true_eq]; exact Iff.rfl) (fun h2 => all_ret fun env2 a2 w2 hA2 => ?_) (fun h2 => by exfalso; omega)
  simp only [Ex.to, Exit.then]
  refine (show (restC 2 lp22).wp Tryd.prog _ a2 w2 from wpS (by kernel_rfl) (wpB 1 (by kernel_rfl) ?_))
  refine (show bb22.wp Tryd.prog _ a2 w2 from ?_)
  refine pieceNTK2 (c := cfgT) cfgT_ok 1 n22c (t22_mk (xs := []) (ts := []) (i := 0)) (by omega) (by simp) hA2 ?_
  refine all_brp (by simp only [decide_eq_true_eq]; exact Iff.rfl) (fun h => all_ret fun env3 a3 w3 hA3 => ?_) (fun h => ?_)
  · simp only [Ex.to, Exit.then]
    refine wpS (by kernel_rfl) ?_
    refine pieceTK2 (c := cfgT) cfgT_ok [10, 11] (t22_er (xs := []) (ts := []) (i := 0)) (by omega) (by simp) hA3 ?_
    exact all_ret fun _ _ _ h => by simp only [Ex.to, Exit.then, Exit.inBlock]; exact h.out (c := cfgT) (by kernel_rfl)
  · refine all_brp (by simp only [decide_eq_true_eq]; exact Iff.rfl) (fun h => all_ret fun env3 a3 w3 hA3 => ?_) (fun h => by exfalso; omega)
    simp only [Ex.to, Exit.then]
    refine wpS (by kernel_rfl) ?_
    refine pieceTK2 (c := cfgT) cfgT_ok [10, 11] (t22_er (xs := []) (ts := []) (i := 0)) (by omega) (by simp) hA3 ?_
    exact all_ret fun _ _ _ h => by simp only [Ex.to, Exit.then, Exit.inBlock]; exact h.out (c := cfgT) (by kernel_rfl)
end Go.Proofs.YtafipmkobdhigaaDoor

/- BarrierRuns: the law's pieces. -/
namespace Go.Proofs.YtafipmkobdhigaaDoor
open Go Go.Proofs.YtafipmkobdhigaaDoor.Sx
set_option linter.unusedVariables false
noncomputable def b6 : Code := Tryd.f6.body.getD .skip
noncomputable def cfgAw : Cfg := { P := Tryd.prog, ex := exI, gl := [(0, 0)], sm := fun g => match g with
  | 8 => some (smClosed [0] [lookB] (.bl true))
  | _ => none }
theorem cfgAw_ok : SmOk cfgAw := by
  intro g h e
  simp only [cfgAw] at e
  split at e
  · simp only [Option.some.injEq] at e; subst e
    exact awake_ok
  · cases e
noncomputable def cfgEcho : Cfg := { P := Tryd.prog, ex := exI, gl := [(0, 0)], sm := fun g => match g with
  | 22 => some (fun args st => .ret (.tup args, st))
  | _ => none }
end Go.Proofs.YtafipmkobdhigaaDoor

/- BarrierRuns: a play in the law's state. -/
namespace Go.Proofs.YtafipmkobdhigaaDoor
open Go Go.Proofs.YtafipmkobdhigaaDoor.Sx
set_option linter.unusedVariables false
/-- ahead of a play: what is picked, three words, a copy of what is picked -/
abbrev st6 (l : List Int) (c : Int) (L P : List Int) : St := [lookB, .ro (encInt .i64) P, .own [.c (.sli 3 (.c 0) 1 (.v 3) (some (.v 3))), .c (.int .i64 c)] 70, .own [.a (encInt .u32) 3 l] 35, .gone, .vec (encInt .i64) L 3]
abbrev tail6 (b k : Nat) (n : Nat) (s : Mc) : St := [.many encTk s.xs 68, .own [.c (.ptr b 0), .c (.sli (k + 2) (.c 0) 1 (.v n) none), .c (.sli (k + 3) (.c 0) 1 (.v n) (some (.v n)))] 64, .vec (encT 30 k) (List.range n) 66, .own [.a encBool n s.ds] 4]
abbrev tail6R (b k : Nat) (mp : List Nat) (x : Nat) (n : Nat) (s : Mc) : St := [.many encTk s.xs 68, .own [.c (.ptr b 0), .c (.sli (k + 2) (.c 0) 1 (.v n) none), .c (.sli (k + 3) (.c 0) 1 (.v n) (some (.v n)))] 64, .vec (encRow 0) (renRows mp (encT 30 x) (List.range n)) 66, .own [.a encBool n s.ds] 4]
abbrev pl6 (n : Nat) (s : Mc) (L P : List Int) : St := st6 s.l s.c L P ++ tail6 2 6 n s
theorem plyS_ro {l l' : List Int} {c c' : Int} {L : List Int} : roSame (plyS l c L) (plyS l' c' L) := roSame_cons (.inr rfl) (roSame_cons (.inl rfl) (roSame_cons (.inl rfl) (roSame_cons (.inl rfl) roSame_nil)))
theorem tail6R_plain {b k : Nat} {mp : List Nat} {x n : Nat} {s : Mc} : ∀ B ∈ tail6R b k mp x n s, plainB B = true := by
  intro B h
  simp only [List.mem_cons, List.not_mem_nil, or_false] at h
  rcases h with rfl | rfl | rfl | rfl <;> rfl
theorem tail6_eqv {b k : Nat} {mp : List Nat} {x n : Nat} {s : Mc} (h : idx x mp 0 = some k) : EqvSt (tail6R b k mp x n s) (tail6 b k n s) := ⟨.inl rfl, .inl rfl, rowsT h, .inl rfl, trivial⟩
set_option maxRecDepth 100000 in
theorem play_5 {l : List Int} {c : Int} {L P : List Int} {n : Nat} {s : Mc} {A : List SVal} {f : FuncId} {x : Int} (hA : renL (List.range 4) A = A)
    (hC : ∀ (env : Env) (w : World) (vs : List Value), GlOk cfgM.gl env → Rep env (plyS l c L) w → DenL env A vs → Calls cfgM.P f ⟨vs⟩ w (Ends1 env (plyS l c L) w (.tup [.int .i64 x, .lit .i64 0]) (plM n s L)))
    (env : Env) (w : World) (vs : List Value) (hg : GlOk cfgM.gl env) (hr : Rep env (plyS l c L ++ [.ro (encInt .i64) P, .gone]) w) (hd : DenL env A vs) :
    Calls cfgM.P f ⟨vs⟩ w (Ends1 env (plyS l c L ++ [.ro (encInt .i64) P, .gone]) w (.tup [.int .i64 x, .lit .i64 0]) (plyS s.l s.c L ++ ([.ro (encInt .i64) P, .gone] ++ tail6 1 6 n s))) := by
  have h := frameNew (c := cfgM) (n := 4) hC [.ro (encInt .i64) P, .gone] rfl hA (gl_lt (by simp)) (by kernel_rfl) (Sa := plyS s.l s.c L) (Sb := tail6R 1 6 (newMap 4 4 2) 4 n s) (s' := .tup [.int .i64 x, .lit .i64 0]) (by kernel_rfl) (by kernel_rfl) rfl plyS_ro tail6R_plain rfl env w vs hg hr hd
  refine h.mono ?_
  rintro en w' ⟨env', v, h1, h2, h3, h4⟩
  obtain ⟨r, g⟩ := rep_eqv h3 (EqvSt.app EqvSt.rfl' (EqvSt.app EqvSt.rfl' (tail6_eqv (s := s) (n := n) (b := 1) (k := 6) (mp := newMap 4 4 2) (x := 4) rfl)))
  exact ⟨env', v, h1, ⟨h2.more, h2.size, h2.keep, fun x hl hx => h2.foot x hl (g x hx), h2.calm⟩, r, h4⟩
set_option maxRecDepth 100000 in
theorem play_6 {l : List Int} {c : Int} {L P : List Int} {n : Nat} {s : Mc} {A A0 : List SVal} {f : FuncId} {x : Int} (hA : renL (List.range 4) A = A) (hA0 : renL [0, 2, 3, 5, 1, 4] A0 = A)
    (hC : ∀ (env : Env) (w : World) (vs : List Value), GlOk cfgM.gl env → Rep env (plyS l c L) w → DenL env A vs → Calls cfgM.P f ⟨vs⟩ w (Ends1 env (plyS l c L) w (.tup [.int .i64 x, .lit .i64 0]) (plM n s L))) :
    ∀ (env : Env) (w : World) (vs : List Value), GlOk cfgM.gl env → Rep env (st6 l c L P) w → DenL env A0 vs → Calls cfgM.P f ⟨vs⟩ w (Ends1 env (st6 l c L P) w (.tup [.int .i64 x, .lit .i64 0]) (pl6 n s L P)) :=
  permNew (c := cfgM) (n := 4) [0, 2, 3, 5, 1, 4] [0, 4, 1, 2, 5, 3] (play_5 hA hC) rfl rfl rfl rfl rfl rfl rfl (S0 := plyS l c L ++ [.ro (encInt .i64) P, .gone]) (by kernel_rfl) EqvSt.rfl'
    (st0' := st6 s.l s.c L P ++ tail6R 2 6 (invNew [0, 4, 1, 2, 5, 3] 6 4) 6 n s) (by kernel_rfl) (EqvSt.app EqvSt.rfl' (tail6_eqv rfl)) hA0 rfl
end Go.Proofs.YtafipmkobdhigaaDoor

/- BarrierRuns, plain: what a play leaves. -/
namespace Go.Proofs.YtafipmkobdhigaaDoor
open Go Go.Proofs.YtafipmkobdhigaaDoor.Sx
set_option linter.unusedVariables false
abbrev mcW (c : Int) (n : Nat) (r : Int) : Mc := ⟨[0, 0], c, List.replicate n (newTk n r), List.replicate n false⟩
theorem rel_start {n : Nat} {r c c' : Int} : Rel n (mcP [0, 0, 0] c n r) (mcW c' n r) := by
  refine ⟨fun j hj => ?_, rfl, ⟨0, 0, rfl, rfl⟩, by simp, by simp⟩
  have e : (List.replicate n (newTp n r)).getD j encTk.dflt = newTp n r := by simp [List.getD_eq_getElem?_getD, hj]
  have e' : (List.replicate n (newTk n r)).getD j encTk.dflt = newTk n r := by simp [List.getD_eq_getElem?_getD, hj]
  show RelT ((List.replicate n (newTp n r)).getD j encTk.dflt) ((List.replicate n (newTk n r)).getD j encTk.dflt)
  rw [e, e']
  exact ⟨⟨rfl, rfl⟩, rfl, rfl, rfl, rfl, rfl⟩
theorem runs_law {n : Nat} (hn : 1 ≤ n ∧ n ≤ 8) {r : Int} (hr : 0 ≤ r ∧ r ≤ 19) {c c' : Int} {L : List Int} :
    (endP n (ranP [0, 0, 0] c L n r) (10 * boundOf r + 10).toNat).l = [0, 0, r % 2] ∧ stopP n (ranP [0, 0, 0] c L n r) (10 * boundOf r + 10).toNat = stopP n (runP n (mcW c' n r) L) (10 * r + 10).toNat := by
  have hb : boundOf r = r := by unfold boundOf imin imax; split <;> split <;> omega
  rw [hb]
  have h1 := rel_run L (rel_start (n := n) (r := r) (c := c) (c' := c'))
  obtain ⟨h2, h3⟩ := rel_end (10 * r + 10).toNat h1
  refine ⟨?_, h3⟩
  have h0 : Inv n (boundOf r) 0 0 0 (mcW c' n r) := inv_start hn
  rw [hb] at h0
  obtain ⟨K, A, G, hi⟩ := inv_run L h0
  obtain ⟨M, T, ht⟩ := hi.todo
  have hM := ht.bound hi.kB
  have hK := hi.kB
  obtain ⟨K', A', G', hi', hl⟩ := endP_ok (10 * r + 10).toNat hi ht (by omega)
  obtain ⟨e1, e2, _⟩ := hi'.fin hl
  obtain ⟨a, b, e3, e4⟩ := h2.l
  have e5 := hi'.l
  have e6 := hi'.g
  rw [e4] at e5
  simp only [List.cons.injEq, and_true] at e5
  show (endP n (runP n (mcP [0, 0, 0] c n r) L) (10 * r + 10).toNat).l = _
  rw [e3, e5.1, e5.2, e2, e6, e1]
end Go.Proofs.YtafipmkobdhigaaDoor

/- BarrierRuns: the second machine, behind the play's memory. -/
namespace Go.Proofs.YtafipmkobdhigaaDoor
open Go Go.Proofs.YtafipmkobdhigaaDoor.Sx
set_option linter.unusedVariables false
/-- the law's state behind a play -/
abbrev st4 (l : List Int) (c : Int) (P : List Int) : St := [lookB, .ro (encInt .i64) P, .own [.c (.sli 3 (.c 0) 1 (.v 3) (some (.v 3))), .c (.int .i64 c)] 70, .own [.a (encInt .u32) 3 l] 35]
/-- with a machine of waiters -/
abbrev st10 (l : List Int) (c : Int) (P : List Int) (n : Nat) (t : Mc) : St := st4 l c P ++ [.own [.c (.sli 5 (.c 0) 1 (.v 2) (some (.v 2))), .c (.int .i64 t.c)] 70, .own [.a (encInt .u32) 2 t.l] 35] ++ tail6 4 6 n t
abbrev rest10 (l : List Int) (c : Int) : St := [.own [.c (.sli 9 (.c 0) 1 (.v 3) (some (.v 3))), .c (.int .i64 c)] 70, .own [.a (encInt .u32) 3 l] 35]
abbrev ids10 : List Nat := [0, 4, 5, 6, 7, 8, 9, 1, 2, 3]
abbrev inv10 : List Nat := [0, 7, 8, 9, 1, 2, 3, 4, 5, 6]
abbrev s10R (l : List Int) (c : Int) (P : List Int) (n : Nat) (t : Mc) : St := memS 2 t.l t.c ++ tail6R 1 3 ids10 6 n t ++ [.ro (encInt .i64) P] ++ rest10 l c
abbrev s10B (l : List Int) (c : Int) (P : List Int) (n : Nat) (t : Mc) : St := st4 l c P ++ [.own [.c (.sli 5 (.c 0) 1 (.v 2) (some (.v 2))), .c (.int .i64 t.c)] 70, .own [.a (encInt .u32) 2 t.l] 35] ++ tail6R 4 6 inv10 3 n t
set_option maxRecDepth 100000 in
theorem s10_ren {l : List Int} {c : Int} {P : List Int} {n : Nat} {t : Mc} : renSt ids10 (st10 l c P n t) ids10 = some (s10R l c P n t) := by kernel_rfl
theorem s10_eqv {l : List Int} {c : Int} {P : List Int} {n : Nat} {t : Mc} : EqvSt (s10R l c P n t) (runS 2 n t P ++ rest10 l c) :=
  ⟨.inl rfl, .inl rfl, .inl rfl, .inl rfl, .inl rfl, rowsT rfl, .inl rfl, .inl rfl, .inl rfl, .inl rfl, trivial⟩
set_option maxRecDepth 100000 in
theorem s10_back {l : List Int} {c : Int} {P : List Int} {n : Nat} {t : Mc} : renSt inv10 (runS 2 n t P ++ rest10 l c) inv10 = some (s10B l c P n t) := by kernel_rfl
theorem s10_beqv {l : List Int} {c : Int} {P : List Int} {n : Nat} {t : Mc} : EqvSt (s10B l c P n t) (st10 l c P n t) :=
  ⟨.inl rfl, .inl rfl, .inl rfl, .inl rfl, .inl rfl, .inl rfl, .inl rfl, .inl rfl, rowsT rfl, .inl rfl, trivial⟩
theorem secCall {k : Cfg} (hc : k.gl = [(0, 0)]) {f : FuncId} {A A0 : List SVal} {l : List Int} {c : Int} {P : List Int} {n : Nat} {t t' : Mc} {v : SVal}
    (hC : ∀ (env : Env) (w : World) (vs : List Value), GlOk k.gl env → Rep env (runS 2 n t P ++ rest10 l c) w → DenL env A vs → Calls k.P f ⟨vs⟩ w (Ends1 env (runS 2 n t P ++ rest10 l c) w v (runS 2 n t' P ++ rest10 l c)))
    (hA : renL ids10 A0 = A) (hv : ren inv10 v = v) :
    ∀ (env : Env) (w : World) (vs : List Value), GlOk k.gl env → Rep env (st10 l c P n t) w → DenL env A0 vs → Calls k.P f ⟨vs⟩ w (Ends1 env (st10 l c P n t) w v (st10 l c P n t')) :=
  permCall ids10 inv10 hC rfl rfl (by rw [hc]; rfl) rfl rfl (by rfl) s10_ren s10_eqv s10_back s10_beqv hA hv
theorem runS_ren' {n m : Nat} {s : Mc} {L : List Int} : renSt (List.range 8) (runS n m s L) (List.range 8) = some (runS n m s L) := by kernel_rfl
theorem runS_ro {n m : Nat} {s s' : Mc} {L : List Int} : roSame (runS n m s L) (runS n m s' L) :=
  roSame_cons (.inr rfl) (roSame_cons (.inl rfl) (roSame_cons (.inl rfl) (roSame_cons (.inl rfl) (roSame_cons (.inl rfl) (roSame_cons (.inl rfl) (roSame_cons (.inl rfl) (roSame_cons (.inr rfl) roSame_nil)))))))
abbrev wordsB (a b d : Int) : Blk := .own [.c (.int .u32 a), .c (.int .u32 b), .c (.int .u32 d)] 35
theorem s10_self {l : List Int} {c : Int} {P : List Int} {n : Nat} {t : Mc} : renSt (List.range 10) (st10 l c P n t) (List.range 10) = some (st10 l c P n t) := by kernel_rfl
theorem s10_ro {l : List Int} {c : Int} {P : List Int} {n : Nat} {t t' : Mc} : roSame (st10 l c P n t) (st10 l c P n t') :=
  roSame_cons (.inr rfl) (roSame_cons (.inr rfl) (roSame_cons (.inl rfl) (roSame_cons (.inl rfl) (roSame_cons (.inl rfl) (roSame_cons (.inl rfl) (roSame_cons (.inl rfl) (roSame_cons (.inl rfl) (roSame_cons (.inl rfl) (roSame_cons (.inl rfl) roSame_nil)))))))))
/-- the second machine's calls -/
noncomputable def cfg10 (l : List Int) (c : Int) (P : List Int) (cap n : Nat) (t : Mc) (most : Int) (W : Blk) : Cfg := { P := Tryd.prog, ex := exI, gl := [(0, 0)], sm := fun f => match f with
  | 23 => some (smEq [.ptr 7 0, listV P cap 1] (st10 l c P n t) (McOk 2 n t ∧ P.length ≤ 1000000) (.int .i64 (runN n t P)) (st10 l c P n (runP n t P)))
  | 12 => some (smEq [.ptr 7 0, .int .i64 most] (st10 l c P n t ++ [W]) (McOk 2 n t ∧ n ≤ 1000 ∧ most ≤ 1000000) (.int .i64 (stopP n t most.toNat : Nat)) (st10 l c P n (endP n t most.toNat) ++ [W]))
  | _ => none }
theorem cfg10_ok {l : List Int} {c : Int} {P : List Int} {cap n : Nat} {t : Mc} {most : Int} {W : Blk} : SmOk (cfg10 l c P cap n t most W) := by
  intro f g h
  simp only [cfg10] at h
  split at h
  · simp only [Option.some.injEq] at h; subst h
    exact smEq_ok (c := cfg10 l c P cap n t most W) fun h => secCall (k := cfgM) rfl (frame (c := cfgM) (run_call (cap := cap) h.1 h.2) (rest10 l c) rfl rfl (gl_lt (by simp)) runS_ren' runS_ro) rfl rfl
  · simp only [Option.some.injEq] at h; subst h
    exact smEq_ok (c := cfg10 l c P cap n t most W) fun h => frame (c := cfgM) (secCall (k := cfgM) rfl (frame (c := cfgM) (round_call h.1 h.2.1 h.2.2) ([.ro (encInt .i64) P] ++ rest10 l c) rfl rfl (gl_lt (by simp)) mcS_ren mcS_ro) rfl rfl) [W] rfl rfl (gl_lt (by simp)) s10_self s10_ro
  · cases h
end Go.Proofs.YtafipmkobdhigaaDoor

/- BarrierRuns: the makers in the law's states. -/
namespace Go.Proofs.YtafipmkobdhigaaDoor
open Go Go.Proofs.YtafipmkobdhigaaDoor.Sx
set_option linter.unusedVariables false
abbrev wS (xs : List Tk) (m : Nat) : St := [.own [.c (.sli 5 (.c 0) 1 (.c 2) (some (.c 2))), .c (.lit .i64 0)] 70, .own [.c (.lit .u32 0), .c (.lit .u32 0)] 35, .many encTk xs 68, .own [.c (.ptr 4 0), .c (.sli 8 (.c 0) 1 (.v m) none), .c (.sli 9 (.c 0) 1 (.v m) (some (.v m)))] 64,
  .vec (encT 30 6) (List.range m) 66, .own [.a encBool m (List.replicate m false)] 4, .vec (encP 6) (List.range m) 30]
abbrev wR (mp : List Nat) (xs : List Tk) (m : Nat) : St := [.own [.c (.sli 5 (.c 0) 1 (.c 2) (some (.c 2))), .c (.lit .i64 0)] 70, .own [.c (.lit .u32 0), .c (.lit .u32 0)] 35, .many encTk xs 68, .own [.c (.ptr 4 0), .c (.sli 8 (.c 0) 1 (.v m) none), .c (.sli 9 (.c 0) 1 (.v m) (some (.v m)))] 64,
  .vec (encRow 0) (renRows mp (encT 30 4) (List.range m)) 66, .own [.a encBool m (List.replicate m false)] 4, .vec (encRow 0) (renRows mp (encP 4) (List.range m)) 30]
theorem wR_plain {mp : List Nat} {xs : List Tk} {m : Nat} : ∀ B ∈ wR mp xs m, plainB B = true := by
  intro B h
  simp only [List.mem_cons, List.not_mem_nil, or_false] at h
  rcases h with rfl | rfl | rfl | rfl | rfl | rfl | rfl <;> rfl
theorem s0_ro {p : In1} : roSame (s0 p) (s0 p) := roSame_cons (.inr rfl) (roSame_cons (.inr rfl) roSame_nil)
set_option maxRecDepth 100000 in
theorem waiters_4 {p : In1} {l : List Int} {c : Int} {n : Nat} (h1 : 1 ≤ n) (hn : n ≤ 8) {r : Int} (env : Env) (w : World) (vs : List Value) (hg : GlOk cfgM.gl env) (hr : Rep env (st4 l c p.picks) w) (hd : DenL env [.int .i64 (n : Nat), .int .i64 r] vs) :
    Calls cfgM.P 7 ⟨vs⟩ w (Ends1 env (st4 l c p.picks) w (.tup [.ptr 7 0, .sli 10 (.c 0) 1 (.v n) none]) (st4 l c p.picks ++ wS (List.replicate n (newTk n r)) n)) := by
  have h := frameNew (c := cfgM) (n := 7) (waiters_call (p := p) h1 hn) [.own [.c (.sli 3 (.c 0) 1 (.v 3) (some (.v 3))), .c (.int .i64 c)] 70, .own [.a (encInt .u32) 3 l] 35] rfl rfl (gl_lt (by simp)) (by kernel_rfl) (Sa := s0 p) (Sb := wR (newMap 2 7 2) (List.replicate n (newTk n r)) n) (s' := .tup [.ptr 7 0, .sli 10 (.c 0) 1 (.v n) none]) (by kernel_rfl) (by kernel_rfl) rfl s0_ro wR_plain rfl env w vs hg hr hd
  refine h.mono ?_
  rintro en w' ⟨env', v, h1, h2, h3, h4⟩
  obtain ⟨q, g⟩ := rep_eqv (s' := st4 l c p.picks ++ wS (List.replicate n (newTk n r)) n) h3 ⟨.inl rfl, .inl rfl, .inl rfl, .inl rfl, .inl rfl, .inl rfl, .inl rfl, .inl rfl, rowsT rfl, .inl rfl, rowsP rfl, trivial⟩
  exact ⟨env', v, h1, ⟨h2.more, h2.size, h2.keep, fun x hl hx => h2.foot x hl (g x hx), h2.calm⟩, q, h4⟩
abbrev endR (P : List Int) (n : Nat) (r : Int) : Mc := endP n (ranP [0, 0, 0] 0 P n r) (10 * boundOf r + 10).toNat
abbrev gotR (P : List Int) (n : Nat) (r : Int) : Int := (stopP n (ranP [0, 0, 0] 0 P n r) (10 * boundOf r + 10).toNat : Nat)
noncomputable def cfg4 (p : In1) (n : Nat) (r : Int) (l : List Int) (c : Int) : Cfg := { P := Tryd.prog, ex := exI, gl := [(0, 0)], sm := fun f => match f with
  | 22 => some (smEq [.ptr 2 0, .lit .i64 1, .int .i64 (n : Nat), .int .i64 r, listW p.picks 5] (st6 [0, 0, 0] 0 p.picks p.picks) (p.picks.length ≤ 1000000 ∧ 1 ≤ n ∧ n ≤ 8) (.tup [.int .i64 (gotR p.picks n r), .lit .i64 0]) (pl6 n (endR p.picks n r) p.picks p.picks))
  | 7 => some (smEq [.int .i64 (n : Nat), .int .i64 r] (st4 l c p.picks) (1 ≤ n ∧ n ≤ 8) (.tup [.ptr 7 0, .sli 10 (.c 0) 1 (.v n) none]) (st4 l c p.picks ++ wS (List.replicate n (newTk n r)) n))
  | _ => none }
theorem cfg4_ok {p : In1} {n : Nat} {r : Int} {l : List Int} {c : Int} : SmOk (cfg4 p n r l c) := by
  intro f g h
  simp only [cfg4] at h
  split at h
  · simp only [Option.some.injEq] at h; subst h
    exact smEq_ok (c := cfg4 p n r l c) fun h => play_6 (A := [.ptr 1 0, .lit .i64 1, .int .i64 (n : Nat), .int .i64 r, listW p.picks 3]) rfl rfl (play_ok rfl h.1 h.2.1 h.2.2)
  · simp only [Option.some.injEq] at h; subst h
    exact smEq_ok (c := cfg4 p n r l c) fun h => waiters_4 h.1 h.2
  · cases h
end Go.Proofs.YtafipmkobdhigaaDoor

namespace Go.Proofs.YtafipmkobdhigaaDoor
open Go Go.Proofs.YtafipmkobdhigaaDoor.Sx
set_option linter.unusedVariables false
set_option maxRecDepth 100000 in
theorem t6_pre {p : In1} {n z : Int} : (execN cfgAw 100 4 b6 ([.int .i64 n, .int .u8 z, picksV p 1] ++ List.replicate 108 .bad) (s0 p)).bind (canonK 2 [(0,0)] 111 [0, 1, 2, 7, 6]) =
 

 (.br (decide ((300 : Int) < (↑p.1.length : Int)))

 (.eq (some [Blk.ro encLook [PUnit.unit]] = some [Blk.ro encLook [PUnit.unit]])

 (.ret (.ret, [.int .i64 n, .int .u8 z, .sli 1 (.c 0) 1 (.v p.1.length) (some (.v p.2)), .bad, .bl true], [.ro encLook [PUnit.unit], .ro (encInt IntKind.i64) p.1])))

 (.eq (some [Blk.ro encLook [PUnit.unit]] = some [Blk.ro encLook [PUnit.unit]])

 (.ret (.normal, [.int .i64 n, .int .u8 z, .sli 1 (.c 0) 1 (.v p.1.length) (some (.v p.2)), .ptr 2 0, .bl false], [.ro encLook [PUnit.unit], .ro (encInt IntKind.i64) p.1, .own [.c (.sli 3 (.c 0) 1 (.c 3) (some (.c 3))), .c (.lit .i64 (0 : Int))] 70, .own [.c (.lit .u32 (0 : Int)), .c (.lit .u32 (0 : Int)), .c (.lit .u32 (0 : Int))] 35])))) := by kernel_rfl
set_option maxRecDepth 100000 in
theorem t6_play {p : In1} {n : Nat} {z : Int} : (execN (cfg4 p n (z.tmod 20) [] 0) 100 1 (restC 4 b6) (fr 111 [0, 1, 2, 7] [.int .i64 (n : Nat), .int .u8 z, picksV p 1, .ptr 2 0]) (st4 [0, 0, 0] 0 p.picks)).bind (canonK 4 [(0,0)] 111 [0, 1, 2, 7, 9, 10]) =
 

 (.need (inR .i64 z)

 (.need (true)

 (.need (decide (0 + p.1.length ≤ p.1.length))

 (.need (decide (0 + p.1.length ≤ p.1.length))

 (.need (roomy (List.take p.1.length (List.drop 0 p.1)).length 8)

 (.eq ([SVal.ptr 2 0, .lit .i64 (1 : Int), .int .i64 (↑n : Int), .int .i64 (z.tmod (20 : Int)), .sli 5 (.c 0) 1 (.v (List.take p.1.length (List.drop 0 p.1)).length) none] = [SVal.ptr 2 0, .lit .i64 (1 : Int), .int .i64 (↑n : Int), .int .i64 (z.tmod (20 : Int)), .sli 5 (.c 0) 1 (.v p.1.length) none] ∧ [Blk.ro encLook [PUnit.unit], .ro (encInt IntKind.i64) p.1, .own [.c (.sli 3 (.c 0) 1 (.v 3) (some (.v 3))), .c (.int .i64 (0 : Int))] 70, .own [.a (encInt IntKind.u32) 3 [(0 : Int), (0 : Int), (0 : Int)]] 35, .gone, .vec (encInt IntKind.i64) (List.take p.1.length (List.drop 0 p.1)) 3] = [Blk.ro encLook [PUnit.unit], .ro (encInt IntKind.i64) p.1, .own [.c (.sli 3 (.c 0) 1 (.v 3) (some (.v 3))), .c (.int .i64 (0 : Int))] 70, .own [.a (encInt IntKind.u32) 3 [(0 : Int), (0 : Int), (0 : Int)]] 35, .gone, .vec (encInt IntKind.i64) p.1 3] ∧ p.1.length ≤ 1000000 ∧ 1 ≤ n ∧ n ≤ 8)

 (.ret (.normal, [.int .i64 (↑n : Int), .int .u8 z, .sli 1 (.c 0) 1 (.v p.1.length) (some (.v p.2)), .ptr 2 0, .int .i64 (↑(stopP n (ranP [(0 : Int), (0 : Int), (0 : Int)] (0 : Int) p.1 n (z.tmod (20 : Int))) ((10 : Int) * boundOf (z.tmod (20 : Int)) + (10 : Int)).toNat) : Int), .lit .i64 (0 : Int)], [.ro encLook [PUnit.unit], .ro (encInt IntKind.i64) p.1, .own [.c (.sli 3 (.c 0) 1 (.v 3) (some (.v 3))), .c (.int .i64 (endR p.picks n (z.tmod (20 : Int))).2)] 70, .own [.a (encInt IntKind.u32) 3 (endR p.picks n (z.tmod (20 : Int))).1] 35])))))))) := by kernel_rfl
set_option maxRecDepth 100000 in
theorem t6_n {p : In1} {n : Nat} {z g : Int} {l : List Int} {c : Int} : (execN cfgM 100 1 (restC 5 b6) (fr 111 [0, 1, 2, 7, 9, 10] [.int .i64 (n : Nat), .int .u8 z, picksV p 1, .ptr 2 0, .int .i64 g, .lit .i64 0]) (st4 l c p.picks)).bind (canonK 4 [(0,0)] 111 [0, 1, 2, 7, 9, 10]) =
 

 (.br (decide ((↑n : Int) < (1 : Int)))

 (.ret (.ret, [.int .i64 (↑n : Int), .int .u8 z, .sli 1 (.c 0) 1 (.v p.1.length) (some (.v p.2)), .ptr 2 0, .int .i64 g, .lit .i64 (0 : Int)], [.ro encLook [PUnit.unit], .ro (encInt IntKind.i64) p.1, .own [.c (.sli 3 (.c 0) 1 (.v 3) (some (.v 3))), .c (.int .i64 c)] 70, .own [.a (encInt IntKind.u32) 3 l] 35]))

 (.br (decide ((8 : Int) < (↑n : Int)))

 (.ret (.ret, [.int .i64 (↑n : Int), .int .u8 z, .sli 1 (.c 0) 1 (.v p.1.length) (some (.v p.2)), .ptr 2 0, .int .i64 g, .lit .i64 (0 : Int)], [.ro encLook [PUnit.unit], .ro (encInt IntKind.i64) p.1, .own [.c (.sli 3 (.c 0) 1 (.v 3) (some (.v 3))), .c (.int .i64 c)] 70, .own [.a (encInt IntKind.u32) 3 l] 35]))

 (.ret (.normal, [.int .i64 (↑n : Int), .int .u8 z, .sli 1 (.c 0) 1 (.v p.1.length) (some (.v p.2)), .ptr 2 0, .int .i64 g, .lit .i64 (0 : Int)], [.ro encLook [PUnit.unit], .ro (encInt IntKind.i64) p.1, .own [.c (.sli 3 (.c 0) 1 (.v 3) (some (.v 3))), .c (.int .i64 c)] 70, .own [.a (encInt IntKind.u32) 3 l] 35])))) := by kernel_rfl
set_option maxRecDepth 100000 in
theorem t6_w {p : In1} {n : Nat} {z g : Int} {l : List Int} {c : Int} : (execN (cfg4 p n (z.tmod 20) l c) 100 2 (restC 6 b6) (fr 111 [0, 1, 2, 7, 9, 10] [.int .i64 (n : Nat), .int .u8 z, picksV p 1, .ptr 2 0, .int .i64 g, .lit .i64 0]) (st4 l c p.picks)).bind (canonK 10 [(0,0)] 111 [1, 2, 7, 9, 10, 11]) =
 

 (.need (inR .i64 z)

 (.need (true)

 (.eq ([SVal.int .i64 (↑n : Int), .int .i64 (z.tmod (20 : Int))] = [SVal.int .i64 (↑n : Int), .int .i64 (z.tmod (20 : Int))] ∧ [Blk.ro encLook [PUnit.unit], .ro (encInt IntKind.i64) p.1, .own [.c (.sli 3 (.c 0) 1 (.v 3) (some (.v 3))), .c (.int .i64 c)] 70, .own [.a (encInt IntKind.u32) 3 l] 35] = [Blk.ro encLook [PUnit.unit], .ro (encInt IntKind.i64) p.1, .own [.c (.sli 3 (.c 0) 1 (.v 3) (some (.v 3))), .c (.int .i64 c)] 70, .own [.a (encInt IntKind.u32) 3 l] 35] ∧ 1 ≤ n ∧ n ≤ 8)

 (.ret (.normal, [.int .u8 z, .sli 1 (.c 0) 1 (.v p.1.length) (some (.v p.2)), .ptr 2 0, .int .i64 g, .lit .i64 (0 : Int), .ptr 7 0], [.ro encLook [PUnit.unit], .ro (encInt IntKind.i64) p.1, .own [.c (.sli 3 (.c 0) 1 (.v 3) (some (.v 3))), .c (.int .i64 c)] 70, .own [.a (encInt IntKind.u32) 3 l] 35, .own [.c (.sli 5 (.c 0) 1 (.c 2) (some (.c 2))), .c (.lit .i64 (0 : Int))] 70, .own [.c (.lit .u32 (0 : Int)), .c (.lit .u32 (0 : Int))] 35, .many encTk (List.replicate n { at' := (0 : Int), n := (↑n : Int), rounds := boundOf (z.tmod (20 : Int)), phase := 0, came := (0 : Int), passed := (0 : Int) }) 68, .own [.c (.ptr 4 0), .c (.sli 8 (.c 0) 1 (.v n) none), .c (.sli 9 (.c 0) 1 (.v n) (some (.v n)))] 64, .vec (encT 30 6) (List.range n) 66, .own [.a encBool n (List.replicate n false)] 4]))))) := by kernel_rfl
set_option maxRecDepth 100000 in
theorem t6_run {p : In1} {n : Nat} {z g a b d : Int} {c : Int} {t : Mc} : (execN (cfg10 [a, b, d] c p.picks p.cap' n t 0 .gone) 100 2 (restC 8 b6) (fr 111 [1, 2, 7, 9, 10, 11] [.int .u8 z, picksV p 1, .ptr 2 0, .int .i64 g, .lit .i64 0, .ptr 7 0]) (st10 [a, b, d] c p.picks n t)).bind (canonK 10 [(0,0)] 111 [1, 9, 10, 11, 13]) =
 

 (.eq ([SVal.ptr 7 0, .sli 1 (.c 0) 1 (.v p.1.length) (some (.v p.2))] = [SVal.ptr 7 0, .sli 1 (.c 0) 1 (.v p.1.length) (some (.v p.2))] ∧ [Blk.ro encLook [PUnit.unit], .ro (encInt IntKind.i64) p.1, .own [.c (.sli 3 (.c 0) 1 (.v 3) (some (.v 3))), .c (.int .i64 c)] 70, .own [.a (encInt IntKind.u32) 3 [a, b, d]] 35, .own [.c (.sli 5 (.c 0) 1 (.v 2) (some (.v 2))), .c (.int .i64 t.2)] 70, .own [.a (encInt IntKind.u32) 2 t.1] 35, .many encTk t.3 68, .own [.c (.ptr 4 0), .c (.sli 8 (.c 0) 1 (.v n) none), .c (.sli 9 (.c 0) 1 (.v n) (some (.v n)))] 64, .vec (encT 30 6) (List.range n) 66, .own [.a encBool n t.4] 4] = [Blk.ro encLook [PUnit.unit], .ro (encInt IntKind.i64) p.1, .own [.c (.sli 3 (.c 0) 1 (.v 3) (some (.v 3))), .c (.int .i64 c)] 70, .own [.a (encInt IntKind.u32) 3 [a, b, d]] 35, .own [.c (.sli 5 (.c 0) 1 (.v 2) (some (.v 2))), .c (.int .i64 t.2)] 70, .own [.a (encInt IntKind.u32) 2 t.1] 35, .many encTk t.3 68, .own [.c (.ptr 4 0), .c (.sli 8 (.c 0) 1 (.v n) none), .c (.sli 9 (.c 0) 1 (.v n) (some (.v n)))] 64, .vec (encT 30 6) (List.range n) 66, .own [.a encBool n t.4] 4] ∧ McOk 2 n t ∧ p.1.length ≤ 1000000)

 (.need (true)

 (.need (decide ((3 : Int) * (↑4 : Int) ≤ (140737488355328 : Int)))

 (.need (true)

 (.need (decide (3 ≤ 3))

 (.need (decide (3 = 3))

 (.need (decide (3 = 3))

 (.need (((true)))

 (.ret (.normal, [.int .u8 z, .int .i64 g, .lit .i64 (0 : Int), .ptr 7 0, .sli 10 (.c 0) 1 (.v 3) (some (.v 3))], [.ro encLook [PUnit.unit], .ro (encInt IntKind.i64) p.1, .own [.c (.sli 3 (.c 0) 1 (.v 3) (some (.v 3))), .c (.int .i64 c)] 70, .own [.a (encInt IntKind.u32) 3 [a, b, d]] 35, .own [.c (.sli 5 (.c 0) 1 (.v 2) (some (.v 2))), .c (.int .i64 (runP n t p.1).c)] 70, .own [.a (encInt IntKind.u32) 2 (runP n t p.1).l] 35, .many encTk (runP n t p.1).xs 68, .own [.c (.ptr 4 0), .c (.sli 8 (.c 0) 1 (.v n) none), .c (.sli 9 (.c 0) 1 (.v n) (some (.v n)))] 64, .vec (encT 30 6) (List.range n) 66, .own [.a encBool n (runP n t p.1).ds] 4, .own [.a (encInt IntKind.u32) 3 (List.take 3 (List.drop 0 [a, b, d]))] 35])))))))))) := by kernel_rfl
set_option maxRecDepth 100000 in
theorem t6_end {p : In1} {n : Nat} {z g a b d : Int} {c : Int} {t : Mc} : (exec (cfg10 [a, b, d] c p.picks p.cap' n t (10 * z.tmod 20 + 10) (wordsB a b d)) 100 (restC 10 b6) (fr 111 [1, 9, 10, 11, 13] [.int .u8 z, .int .i64 g, .lit .i64 0, .ptr 7 0, .sli 10 (.c 0) 1 (.c 3) (some (.c 3))]) (st10 [a, b, d] c p.picks n t ++ [.own [.c (.int .u32 a), .c (.int .u32 b), .c (.int .u32 d)] 35])).bind (canonK 10 [(0,0)] 111 [6]) =
 

 (.need (inR .i64 z)

 (.need (true)

 (.need (inR .i64 ((10 : Int) * z.tmod (20 : Int)))

 (.need (inR .i64 ((10 : Int) * z.tmod (20 : Int) + (10 : Int)))

 (.eq ([SVal.ptr 7 0, .int .i64 ((10 : Int) * z.tmod (20 : Int) + (10 : Int))] = [SVal.ptr 7 0, .int .i64 ((10 : Int) * z.tmod (20 : Int) + (10 : Int))] ∧ [Blk.ro encLook [PUnit.unit], .ro (encInt IntKind.i64) p.1, .own [.c (.sli 3 (.c 0) 1 (.v 3) (some (.v 3))), .c (.int .i64 c)] 70, .own [.a (encInt IntKind.u32) 3 [a, b, d]] 35, .own [.c (.sli 5 (.c 0) 1 (.v 2) (some (.v 2))), .c (.int .i64 t.2)] 70, .own [.a (encInt IntKind.u32) 2 t.1] 35, .many encTk t.3 68, .own [.c (.ptr 4 0), .c (.sli 8 (.c 0) 1 (.v n) none), .c (.sli 9 (.c 0) 1 (.v n) (some (.v n)))] 64, .vec (encT 30 6) (List.range n) 66, .own [.a encBool n t.4] 4, .own [.c (.int .u32 a), .c (.int .u32 b), .c (.int .u32 d)] 35] = [Blk.ro encLook [PUnit.unit], .ro (encInt IntKind.i64) p.1, .own [.c (.sli 3 (.c 0) 1 (.v 3) (some (.v 3))), .c (.int .i64 c)] 70, .own [.a (encInt IntKind.u32) 3 [a, b, d]] 35, .own [.c (.sli 5 (.c 0) 1 (.v 2) (some (.v 2))), .c (.int .i64 t.2)] 70, .own [.a (encInt IntKind.u32) 2 t.1] 35, .many encTk t.3 68, .own [.c (.ptr 4 0), .c (.sli 8 (.c 0) 1 (.v n) none), .c (.sli 9 (.c 0) 1 (.v n) (some (.v n)))] 64, .vec (encT 30 6) (List.range n) 66, .own [.a encBool n t.4] 4, .own [.c (.int .u32 a), .c (.int .u32 b), .c (.int .u32 d)] 35] ∧ McOk 2 n t ∧ n ≤ 1000 ∧ (10 : Int) * z.tmod (20 : Int) + (10 : Int) ≤ (1000000 : Int))

 (.br (g == (↑(stopP n t ((10 : Int) * z.tmod (20 : Int) + (10 : Int)).toNat) : Int))

 (.br (a == (0 : Int))

 (.br (b == (0 : Int))

 (.need (inR .u32 z)

 (.need (true)

 (.need (true)

 (.ret (.ret, [.sb (d == (z.tmod (20 : Int)).tmod (2 : Int))], [.ro encLook [PUnit.unit], .ro (encInt IntKind.i64) p.1, .own [.c (.sli 3 (.c 0) 1 (.v 3) (some (.v 3))), .c (.int .i64 c)] 70, .own [.a (encInt IntKind.u32) 3 [a, b, d]] 35, .own [.c (.sli 5 (.c 0) 1 (.v 2) (some (.v 2))), .c (.int .i64 (endP n t ((10 : Int) * z.tmod (20 : Int) + (10 : Int)).toNat).c)] 70, .own [.a (encInt IntKind.u32) 2 (endP n t ((10 : Int) * z.tmod (20 : Int) + (10 : Int)).toNat).l] 35, .many encTk (endP n t ((10 : Int) * z.tmod (20 : Int) + (10 : Int)).toNat).xs 68, .own [.c (.ptr 4 0), .c (.sli 8 (.c 0) 1 (.v n) none), .c (.sli 9 (.c 0) 1 (.v n) (some (.v n)))] 64, .vec (encT 30 6) (List.range n) 66, .own [.a encBool n (endP n t ((10 : Int) * z.tmod (20 : Int) + (10 : Int)).toNat).ds] 4])))))

 (.ret (.ret, [.bl false], [.ro encLook [PUnit.unit], .ro (encInt IntKind.i64) p.1, .own [.c (.sli 3 (.c 0) 1 (.v 3) (some (.v 3))), .c (.int .i64 c)] 70, .own [.a (encInt IntKind.u32) 3 [a, b, d]] 35, .own [.c (.sli 5 (.c 0) 1 (.v 2) (some (.v 2))), .c (.int .i64 (endP n t ((10 : Int) * z.tmod (20 : Int) + (10 : Int)).toNat).c)] 70, .own [.a (encInt IntKind.u32) 2 (endP n t ((10 : Int) * z.tmod (20 : Int) + (10 : Int)).toNat).l] 35, .many encTk (endP n t ((10 : Int) * z.tmod (20 : Int) + (10 : Int)).toNat).xs 68, .own [.c (.ptr 4 0), .c (.sli 8 (.c 0) 1 (.v n) none), .c (.sli 9 (.c 0) 1 (.v n) (some (.v n)))] 64, .vec (encT 30 6) (List.range n) 66, .own [.a encBool n (endP n t ((10 : Int) * z.tmod (20 : Int) + (10 : Int)).toNat).ds] 4])))

 (.ret (.ret, [.bl false], [.ro encLook [PUnit.unit], .ro (encInt IntKind.i64) p.1, .own [.c (.sli 3 (.c 0) 1 (.v 3) (some (.v 3))), .c (.int .i64 c)] 70, .own [.a (encInt IntKind.u32) 3 [a, b, d]] 35, .own [.c (.sli 5 (.c 0) 1 (.v 2) (some (.v 2))), .c (.int .i64 (endP n t ((10 : Int) * z.tmod (20 : Int) + (10 : Int)).toNat).c)] 70, .own [.a (encInt IntKind.u32) 2 (endP n t ((10 : Int) * z.tmod (20 : Int) + (10 : Int)).toNat).l] 35, .many encTk (endP n t ((10 : Int) * z.tmod (20 : Int) + (10 : Int)).toNat).xs 68, .own [.c (.ptr 4 0), .c (.sli 8 (.c 0) 1 (.v n) none), .c (.sli 9 (.c 0) 1 (.v n) (some (.v n)))] 64, .vec (encT 30 6) (List.range n) 66, .own [.a encBool n (endP n t ((10 : Int) * z.tmod (20 : Int) + (10 : Int)).toNat).ds] 4])))

 (.ret (.ret, [.bl false], [.ro encLook [PUnit.unit], .ro (encInt IntKind.i64) p.1, .own [.c (.sli 3 (.c 0) 1 (.v 3) (some (.v 3))), .c (.int .i64 c)] 70, .own [.a (encInt IntKind.u32) 3 [a, b, d]] 35, .own [.c (.sli 5 (.c 0) 1 (.v 2) (some (.v 2))), .c (.int .i64 (endP n t ((10 : Int) * z.tmod (20 : Int) + (10 : Int)).toNat).c)] 70, .own [.a (encInt IntKind.u32) 2 (endP n t ((10 : Int) * z.tmod (20 : Int) + (10 : Int)).toNat).l] 35, .many encTk (endP n t ((10 : Int) * z.tmod (20 : Int) + (10 : Int)).toNat).xs 68, .own [.c (.ptr 4 0), .c (.sli 8 (.c 0) 1 (.v n) none), .c (.sli 9 (.c 0) 1 (.v n) (some (.v n)))] 64, .vec (encT 30 6) (List.range n) 66, .own [.a encBool n (endP n t ((10 : Int) * z.tmod (20 : Int) + (10 : Int)).toNat).ds] 4])))))))) := by kernel_rfl
end Go.Proofs.YtafipmkobdhigaaDoor

/- BarrierRuns: the good way. -/
namespace Go.Proofs.YtafipmkobdhigaaDoor
open Go Go.Proofs.YtafipmkobdhigaaDoor.Sx
set_option linter.unusedVariables false
abbrev Q6 (w0 : From) : Exit → Act → World → Prop := bodyPost Tryd.prog Tryd.f6 (Said w0)
theorem good6 {w0 : From} {p : In1} {n : Nat} (h1 : 1 ≤ n) (hn : n ≤ 8) {z : Int} (hz : 0 ≤ z ∧ z ≤ 255) (hL : p.picks.length ≤ 300) {env : Env} {a : Act} {w : World}
    (hA : At [(0, 0)] w0 env (fr 111 [0, 1, 2, 7] [.int .i64 (n : Nat), .int .u8 z, picksV p 1, .ptr 2 0]) (st4 [0, 0, 0] 0 p.picks) a w) : (restC 4 b6).wp Tryd.prog (Q6 w0) a w := by
  have ht : List.take p.picks.length (List.drop 0 p.picks) = p.picks := by simp
  have hr : 0 ≤ z.tmod 20 ∧ z.tmod 20 ≤ 19 := by rw [Int.tmod_eq_emod_of_nonneg hz.1]; omega
  refine pieceNT0 (c := cfg4 p n (z.tmod 20) [] 0) cfg4_ok 1 [0, 1, 2, 7, 9, 10] t6_play hA ?_
  rw [ht]
  refine all_needq (by simp only [inR_i64]; exact Iff.rfl) (by omega) ?_
  refine all_need rfl fun _ => ?_
  refine all_needq (by simp only [decide_eq_true_eq]; exact Iff.rfl) (by omega) ?_
  refine all_needq (by simp only [decide_eq_true_eq]; exact Iff.rfl) (by omega) ?_
  refine all_needq (by simp only [roomy_iff]; exact Iff.rfl) (by omega) ?_
  refine all_eq ⟨rfl, rfl, by omega, h1, hn⟩ (all_ret fun env1 a1 w1 hA1 => ?_)
  obtain ⟨e1, e2⟩ := runs_law (n := n) ⟨h1, hn⟩ hr (c := 0) (c' := 0) (L := p.picks)
  simp only [Ex.to, Exit.then]
  have hA2 : At [(0, 0)] w0 env1 (fr 111 [0, 1, 2, 7, 9, 10] [.int .i64 (n : Nat), .int .u8 z, picksV p 1, .ptr 2 0, .int .i64 (gotR p.picks n (z.tmod 20)), .lit .i64 0]) (st4 [0, 0, z.tmod 20 % 2] (endR p.picks n (z.tmod 20)).c p.picks) a1 w1 := by
    rw [← e1]; exact hA1
  generalize (endR p.picks n (z.tmod 20)).c = c at *
  have hg : gotR p.picks n (z.tmod 20) = (stopP n (runP n (mcW 0 n (z.tmod 20)) p.picks) (10 * z.tmod 20 + 10).toNat : Nat) := by rw [← e2]
  generalize gotR p.picks n (z.tmod 20) = g at *
  refine (show (restC 5 b6).wp Tryd.prog (Q6 w0) a1 w1 from ?_)
  refine pieceNT0 (c := cfgM) cfgM_ok 1 [0, 1, 2, 7, 9, 10] t6_n hA2 ?_
  refine all_brp (by simp only [decide_eq_true_eq]; exact Iff.rfl) (fun h => by exfalso; omega) (fun _ => ?_)
  refine all_brp (by simp only [decide_eq_true_eq]; exact Iff.rfl) (fun h => by exfalso; omega) (fun _ => ?_)
  refine all_ret fun env2 a2 w2 hA3 => ?_
  simp only [Ex.to, Exit.then]
  refine (show (restC 6 b6).wp Tryd.prog (Q6 w0) a2 w2 from ?_)
  refine pieceNT0 (c := cfg4 p n (z.tmod 20) [0, 0, z.tmod 20 % 2] c) cfg4_ok 2 [1, 2, 7, 9, 10, 11] t6_w hA3 ?_
  refine all_needq (by simp only [inR_i64]; exact Iff.rfl) (by omega) ?_
  refine all_need rfl fun _ => ?_
  refine all_eq ⟨rfl, rfl, h1, hn⟩ (all_ret fun env3 a3 w3 hA4 => ?_)
  simp only [Ex.to, Exit.then]
  have hA5 := At.segs hA4 5 (l' := [.a (encInt .u32) 2 [0, 0]]) rfl (by intro s hs; rw [List.mem_singleton.1 hs]; rfl) (fun cs h => by simpa [segCells, Seg.cells, encInt, DenL, Den] using h)
  have hA6 : At [(0, 0)] w0 env3 (fr 111 [1, 2, 7, 9, 10, 11] [.int .u8 z, picksV p 1, .ptr 2 0, .int .i64 g, .lit .i64 0, .ptr 7 0]) (st10 [0, 0, z.tmod 20 % 2] c p.picks n (mcW 0 n (z.tmod 20))) a3 w3 := hA5.gen rfl
  have hok : McOk 2 n (mcW 0 n (z.tmod 20)) := (inv_start (r := z.tmod 20) (c := 0) ⟨h1, hn⟩).ok
  generalize mcW 0 n (z.tmod 20) = t at *
  refine (show (restC 8 b6).wp Tryd.prog (Q6 w0) a3 w3 from ?_)
  refine pieceNT0 (c := cfg10 [0, 0, z.tmod 20 % 2] c p.picks p.cap' n t 0 .gone) cfg10_ok 2 [1, 9, 10, 11, 13] t6_run hA6 ?_
  refine all_eq ⟨rfl, rfl, hok, by omega⟩ ?_
  refine all_need rfl fun _ => ?_
  refine all_need (by decide) fun _ => ?_
  refine all_need rfl fun _ => ?_
  refine all_need (by decide) fun _ => ?_
  refine all_need (by decide) fun _ => ?_
  refine all_need (by decide) fun _ => ?_
  refine all_need rfl fun _ => ?_
  refine all_ret fun env4 a4 w4 hA7 => ?_
  simp only [Ex.to, Exit.then]
  have hA8 := At.segs hA7 10 (l' := [.c (.int .u32 0), .c (.int .u32 0), .c (.int .u32 (z.tmod 20 % 2))]) rfl (by intro s hs; simp only [List.mem_cons, List.not_mem_nil, or_false] at hs; rcases hs with rfl | rfl | rfl <;> trivial) (fun cs h => by simpa [segCells, Seg.cells, encInt, DenL, Den] using h)
  have hA9 := hA8.gvals [SVal.int .u8 z, SVal.int .i64 g, SVal.lit .i64 0, SVal.ptr 7 0, SVal.sli 10 (.c 0) 1 (.c 3) (some (.c 3))] rfl
  have hok2 : McOk 2 n (runP n t p.picks) := ok_run hok
  refine (show (restC 10 b6).wp Tryd.prog (Q6 w0) a4 w4 from ?_)
  refine pieceT0 (c := cfg10 [0, 0, z.tmod 20 % 2] c p.picks p.cap' n (runP n t p.picks) (10 * z.tmod 20 + 10) (wordsB 0 0 (z.tmod 20 % 2))) cfg10_ok [6] (t6_end (a := 0) (b := 0) (d := z.tmod 20 % 2) (t := runP n t p.picks)) hA9 ?_
  refine all_needq (by simp only [inR_i64]; exact Iff.rfl) (by omega) ?_
  refine all_need rfl fun _ => ?_
  refine all_needq (by simp only [inR_i64]; exact Iff.rfl) (by omega) ?_
  refine all_needq (by simp only [inR_i64]; exact Iff.rfl) (by omega) ?_
  refine all_eq ⟨rfl, rfl, hok2, by omega, by omega⟩ ?_
  rw [hg]
  refine all_brp (by simp only [beq_iff_eq]; exact Iff.rfl) (fun _ => ?_) (fun h => by exact (h trivial).elim)
  refine all_br (fun _ => ?_) (fun h => by cases h)
  refine all_br (fun _ => ?_) (fun h => by cases h)
  refine all_needq (by simp only [inR_u32]; exact Iff.rfl) (by omega) ?_
  refine all_need rfl fun _ => ?_
  refine all_need rfl fun _ => ?_
  refine all_ret fun env5 a5 w5 hB => ?_
  have hB2 := hB.gvals [.bl true] (by rw [show (z.tmod 20 % 2 == (z.tmod 20).tmod 2) = true by rw [Int.tmod_eq_emod_of_nonneg hr.1]; exact beq_self_eq_true _]; rfl)
  exact hB2.said (by kernel_rfl)
end Go.Proofs.YtafipmkobdhigaaDoor

/- BarrierRuns: the bad way. -/
namespace Go.Proofs.YtafipmkobdhigaaDoor
open Go Go.Proofs.YtafipmkobdhigaaDoor.Sx
set_option linter.unusedVariables false
set_option maxRecDepth 100000 in
theorem play_b5 {l : List Int} {c : Int} {L P : List Int} {n r : Int} (hn : n < 1 ∨ 8 < n)
    (env : Env) (w : World) (vs : List Value) (hg : GlOk cfgM.gl env) (hr : Rep env (plyS l c L ++ [.ro (encInt .i64) P, .gone]) w) (hd : DenL env [.ptr 1 0, .lit .i64 1, .int .i64 n, .int .i64 r, listW L 3] vs) :
    Calls cfgM.P 22 ⟨vs⟩ w (Ends1 env (plyS l c L ++ [.ro (encInt .i64) P, .gone]) w (.tup [.lit .i64 0, .lit .i64 110]) (plyS l c L ++ ([.ro (encInt .i64) P, .gone] ++ [.many encTk [] 68]))) :=
  frameNew (c := cfgM) (n := 1) (play_bad hn) [.ro (encInt .i64) P, .gone] rfl rfl (gl_lt (by simp)) (by kernel_rfl) (Sa := plyS l c L) (Sb := [.many encTk [] 68]) (by kernel_rfl) (by kernel_rfl) rfl plyS_ro (by intro B h; rw [List.mem_singleton.1 h]; rfl) rfl env w vs hg hr hd
set_option maxRecDepth 100000 in
theorem play_b6 {l : List Int} {c : Int} {L P : List Int} {n r : Int} (hn : n < 1 ∨ 8 < n) :
    ∀ (env : Env) (w : World) (vs : List Value), GlOk cfgM.gl env → Rep env (st6 l c L P) w → DenL env [.ptr 2 0, .lit .i64 1, .int .i64 n, .int .i64 r, listW L 5] vs → Calls cfgM.P 22 ⟨vs⟩ w (Ends1 env (st6 l c L P) w (.tup [.lit .i64 0, .lit .i64 110]) (st6 l c L P ++ [.many encTk [] 68])) :=
  permNew (c := cfgM) (n := 1) [0, 2, 3, 5, 1, 4] [0, 4, 1, 2, 5, 3] (play_b5 hn) rfl rfl rfl rfl rfl rfl rfl (S0 := plyS l c L ++ [.ro (encInt .i64) P, .gone]) (by kernel_rfl) EqvSt.rfl'
    (st0' := st6 l c L P ++ [.many encTk [] 68]) (by kernel_rfl) EqvSt.rfl' rfl rfl
noncomputable def cfg6b (p : In1) (n r : Int) : Cfg := { P := Tryd.prog, ex := exI, gl := [(0, 0)], sm := fun f => match f with
  | 22 => some (smEq [.ptr 2 0, .lit .i64 1, .int .i64 n, .int .i64 r, listW p.picks 5] (st6 [0, 0, 0] 0 p.picks p.picks) (n < 1 ∨ 8 < n) (.tup [.lit .i64 0, .lit .i64 110]) (st6 [0, 0, 0] 0 p.picks p.picks ++ [.many encTk [] 68]))
  | _ => none }
theorem cfg6b_ok {p : In1} {n r : Int} : SmOk (cfg6b p n r) := by
  intro f g h
  simp only [cfg6b] at h
  split at h
  · simp only [Option.some.injEq] at h; subst h
    exact smEq_ok (c := cfg6b p n r) fun h => play_b6 h
  · cases h
end Go.Proofs.YtafipmkobdhigaaDoor

namespace Go.Proofs.YtafipmkobdhigaaDoor
open Go Go.Proofs.YtafipmkobdhigaaDoor.Sx
set_option linter.unusedVariables false
set_option maxRecDepth 100000 in
theorem t6_pb {p : In1} {n z : Int} : (execN (cfg6b p n (z.tmod 20)) 100 1 (restC 4 b6) (fr 111 [0, 1, 2, 7] [.int .i64 n, .int .u8 z, picksV p 1, .ptr 2 0]) (st4 [0, 0, 0] 0 p.picks)).bind (canonK 2 [(0,0)] 111 [0, 9, 10]) =
 

 (.need (inR .i64 z)

 (.need (true)

 (.need (decide (0 + p.1.length ≤ p.1.length))

 (.need (decide (0 + p.1.length ≤ p.1.length))

 (.need (roomy (List.take p.1.length (List.drop 0 p.1)).length 8)

 (.eq ([SVal.ptr 2 0, .lit .i64 (1 : Int), .int .i64 n, .int .i64 (z.tmod (20 : Int)), .sli 5 (.c 0) 1 (.v (List.take p.1.length (List.drop 0 p.1)).length) none] = [SVal.ptr 2 0, .lit .i64 (1 : Int), .int .i64 n, .int .i64 (z.tmod (20 : Int)), .sli 5 (.c 0) 1 (.v p.1.length) none] ∧ [Blk.ro encLook [PUnit.unit], .ro (encInt IntKind.i64) p.1, .own [.c (.sli 3 (.c 0) 1 (.v 3) (some (.v 3))), .c (.int .i64 (0 : Int))] 70, .own [.a (encInt IntKind.u32) 3 [(0 : Int), (0 : Int), (0 : Int)]] 35, .gone, .vec (encInt IntKind.i64) (List.take p.1.length (List.drop 0 p.1)) 3] = [Blk.ro encLook [PUnit.unit], .ro (encInt IntKind.i64) p.1, .own [.c (.sli 3 (.c 0) 1 (.v 3) (some (.v 3))), .c (.int .i64 (0 : Int))] 70, .own [.a (encInt IntKind.u32) 3 [(0 : Int), (0 : Int), (0 : Int)]] 35, .gone, .vec (encInt IntKind.i64) p.1 3] ∧ (n < (1 : Int) ∨ (8 : Int) < n))

 (.ret (.normal, [.int .i64 n, .lit .i64 (0 : Int), .lit .i64 (110 : Int)], [.ro encLook [PUnit.unit], .ro (encInt IntKind.i64) p.1])))))))) := by kernel_rfl
set_option maxRecDepth 100000 in
theorem t6_nb {p : In1} {n : Int} : (execN cfgM 100 1 (restC 5 b6) (fr 111 [0, 9, 10] [.int .i64 n, .lit .i64 0, .lit .i64 110]) (s0 p)).bind (canonK 2 [(0,0)] 111 [6]) =
 

 (.br (decide (n < (1 : Int)))

 (.ret (.ret, [.bl true], [.ro encLook [PUnit.unit], .ro (encInt IntKind.i64) p.1]))

 (.br (decide ((8 : Int) < n))

 (.ret (.ret, [.bl true], [.ro encLook [PUnit.unit], .ro (encInt IntKind.i64) p.1]))

 (.ret (.normal, [.bad], [.ro encLook [PUnit.unit], .ro (encInt IntKind.i64) p.1])))) := by kernel_rfl
end Go.Proofs.YtafipmkobdhigaaDoor

/- BarrierRuns: the bad way's walk. -/
namespace Go.Proofs.YtafipmkobdhigaaDoor
open Go Go.Proofs.YtafipmkobdhigaaDoor.Sx
set_option linter.unusedVariables false
theorem bad6 {w0 : From} {p : In1} {n : Int} (hn : n < 1 ∨ 8 < n) {z : Int} (hz : 0 ≤ z ∧ z ≤ 255) (hL : p.picks.length ≤ 300) {env : Env} {a : Act} {w : World}
    (hA : At [(0, 0)] w0 env (fr 111 [0, 1, 2, 7] [.int .i64 n, .int .u8 z, picksV p 1, .ptr 2 0]) (st4 [0, 0, 0] 0 p.picks) a w) : (restC 4 b6).wp Tryd.prog (Q6 w0) a w := by
  have ht : List.take p.picks.length (List.drop 0 p.picks) = p.picks := by simp
  refine pieceNT0 (c := cfg6b p n (z.tmod 20)) cfg6b_ok 1 [0, 9, 10] t6_pb hA ?_
  rw [ht]
  refine all_needq (by simp only [inR_i64]; exact Iff.rfl) (by omega) ?_
  refine all_need rfl fun _ => ?_
  refine all_needq (by simp only [decide_eq_true_eq]; exact Iff.rfl) (by omega) ?_
  refine all_needq (by simp only [decide_eq_true_eq]; exact Iff.rfl) (by omega) ?_
  refine all_needq (by simp only [roomy_iff]; exact Iff.rfl) (by omega) ?_
  refine all_eq ⟨rfl, rfl, hn⟩ (all_ret fun env1 a1 w1 hA1 => ?_)
  simp only [Ex.to, Exit.then]
  refine (show (restC 5 b6).wp Tryd.prog (Q6 w0) a1 w1 from ?_)
  refine pieceNT0 (c := cfgM) cfgM_ok 1 [6] t6_nb hA1 ?_
  refine all_brp (by simp only [decide_eq_true_eq]; exact Iff.rfl) (fun h => ?_) (fun _ => ?_)
  · exact all_ret fun _ _ _ hB => hB.said (by kernel_rfl)
  · refine all_brp (by simp only [decide_eq_true_eq]; exact Iff.rfl) (fun h => ?_) (fun h => by exfalso; omega)
    exact all_ret fun _ _ _ hB => hB.said (by kernel_rfl)
end Go.Proofs.YtafipmkobdhigaaDoor

/- BarrierRuns: its call. -/
namespace Go.Proofs.YtafipmkobdhigaaDoor
open Go Go.Proofs.YtafipmkobdhigaaDoor.Sx
set_option linter.unusedVariables false
theorem b6_eq : Tryd.f6.body = some b6 := by kernel_rfl
theorem barrierRuns_call {p : In1} {n z : Int} (hz : 0 ≤ z ∧ z ≤ 255) {e0 e1 : Slot} (he : e0.blk = 0 ∧ e0.off = 0) {w : World} {v' : Value} (hr : Rep [e0, e1] (s0 p) w) (hv' : Den [e0, e1] (picksV p 1) v') :
    Calls Tryd.prog 6 ⟨[.int .i64 n, .int .u8 z, v']⟩ w (Said ⟨w, fun _ => False⟩) := by
  refine call_begin (c := cfgAw) Tryd.func6 b6_eq (args := [.int .i64 n, .int .u8 z, picksV p 1]) (by
    intro q hq
    rw [List.mem_singleton.1 hq]
    exact ⟨e0, rfl, he⟩) hr ⟨_, _, rfl, by simp [Den], _, _, rfl, by simp [Den], _, _, rfl, hv', rfl⟩ (F := fun _ => False) (fun x h => noFoot2 x h) ?_
  intro a hA
  refine pieceNT0 (c := cfgAw) cfgAw_ok 4 [0, 1, 2, 7, 6] t6_pre hA ?_
  refine all_brp (by simp only [decide_eq_true_eq]; exact Iff.rfl) (fun h => ?_) (fun h => ?_)
  · exact all_eq rfl (all_ret fun _ _ _ hB => hB.said (by kernel_rfl))
  · refine all_eq rfl (all_ret fun env1 a1 w1 hA1 => ?_)
    simp only [Ex.to, Exit.then]
    have hA2 := At.few (names := [0, 1, 2, 7]) (extra := [6]) (vals := [.int .i64 n, .int .u8 z, picksV p 1, .ptr 2 0]) (ev := [.bl false]) hA1 rfl
    have hA3 := At.segs hA2 3 (l' := [.a (encInt .u32) 3 [0, 0, 0]]) rfl (by intro s hs; rw [List.mem_singleton.1 hs]; rfl) (fun cs h => by simpa [segCells, Seg.cells, encInt, DenL, Den] using h)
    have hA4 : At [(0, 0)] ⟨w, fun _ => False⟩ env1 (fr 111 [0, 1, 2, 7] [.int .i64 n, .int .u8 z, picksV p 1, .ptr 2 0]) (st4 [0, 0, 0] 0 p.picks) a1 w1 := hA3.gen rfl
    by_cases hn : 1 ≤ n ∧ n ≤ 8
    · obtain ⟨m, rfl⟩ : ∃ m : Nat, n = (m : Int) := ⟨n.toNat, by omega⟩
      exact good6 (by omega) (by omega) hz (by omega) hA4
    · exact bad6 (by omega) hz (by omega) hA4
end Go.Proofs.YtafipmkobdhigaaDoor

/- BarrierRuns: its row and its card. -/
namespace Go.Proofs.YtafipmkobdhigaaDoor
open Go Go.Proofs.YtafipmkobdhigaaDoor.Sx Go.ChangeShapes Go.WideShapes Go.ChangeAt Go.RowKit
set_option linter.unusedVariables false
set_option maxRecDepth 100000 in
theorem barrierRuns_lifted (os : Os) (started : os.Started) (H : Type) (enc : TypeId × Value → H) :
    ReturnsInHanded {} Tryd.checked os 6 .any (fun w args => (Rows.barrierRunsSpec.pre enc Tryd.prog Tryd.f6 [] false w args ∧ laidMetH Tryd.prog laid1 w) ∧ sizedMet enc Tryd.prog Tryd.f6 (OpenSpec.ofChange Rows.barrierRunsSpec) false w args)
      (Rows.barrierRunsSpec.post enc Tryd.prog Tryd.f6 false true false false) := by
  refine returnsInHanded_of_change_and (C := Tryd.checked) (X := fun w _ => laidMetH Tryd.prog laid1 w) (fun _ _ _ hh h => h.of_heap hh) Tryd.own started (by kernel_rfl) Tryd.func6
    (ChangeSpec.witness_shaped (enc := enc) (C := Tryd.checked) (os := os) (X := fun w _ => laidMetH Tryd.prog laid1 w) false (World.doorLaid Tryd.prog 400 os) #[.int .i64 0, .int .u8 0, .slice none 0 0] 8 rfl (World.shaped_of_RefB (by kernel_rfl) (by kernel_rfl)) (by kernel_rfl) (by kernel_rfl) (by kernel_rfl) (door_met os _)) ?_
  intro W base args ds gs before hval0 hW _ _ hL _
  have hval : ∀ (j : Nat) t v, Tryd.f6.params[j]? = some t → args[j]? = some v → Value.okWide Tryd.prog W .any base t v := hval0
  have hW' := hW
  obtain ⟨p, q, hA0, hV, rfl, hfz, hnd⟩ := hW
  have hA : DataW.TrodAll enc Tryd.prog W 0 (fun _ => true) true Tryd.f6.params.toList args.toList ds p := hA0
  rw [Tryd.params6] at hA hval
  obtain ⟨v0, v1, v2, d0, d1, d2, p0, p1, p2, rfl, rfl, rfl, h0, h1, h2⟩ := trodAll_three hA
  obtain ⟨rfl, rfl⟩ := trodVars_none hV
  obtain ⟨z, rfl, rfl, rfl, wz⟩ := open_int Tryd.underlying3 (hval 0 3 v0 rfl rfl) h0
  obtain ⟨r, rfl, rfl, rfl, wr⟩ := open_int Tryd.underlying5 (hval 1 5 v1 rfl rfl) h1
  clear hA0 hval0
  have hlt2 : ∀ x ∈ p2, x.block < W.heap.size := fun x hx => by simpa using hW'.lt x (by simp [hx])
  obtain ⟨e0, he, hr0⟩ := of_laid hL
  have fin : ∀ e W', Said ⟨W, fun _ => False⟩ e W' → ∃ v, e = .returned v ∧ Rows.barrierRunsSpec.post enc Tryd.prog Tryd.f6 false true false false W #[.int .i64 z, .int .u8 r, v2] v W' := by
    rintro e W' ⟨rfl, hsz, hk, hc⟩
    have hk' : ∀ x, x < W.heap.size → W'.heap[x]? = W.heap[x]? := fun x hx => hk x hx (fun h => h)
    refine ⟨_, rfl, _, _, _, [], _, [], hW', ⟨[], [], shut_bool Tryd.underlying4 true, rfl, rfl⟩, trodAll_mk3 (shut_int Tryd.underlying3 wz) (shut_int Tryd.underlying5 wr) (trod_same Tryd.laidOut (by kernel_rfl) (of_decide_eq_true (by kernel_rfl)) h2 hk' hlt2), rfl, keptBut_of _ hc hk', fun h => by cases h⟩
  obtain ⟨ys, cap', e2, hr2, hd2⟩ := open_sli (encInt .i64) Tryd.underlying22 (by kernel_rfl) open_i64 rfl (hval 2 22 v2 rfl rfl) h2
  obtain ⟨hr, _⟩ := ro_add hr0 (by intro b hb e; rw [List.mem_singleton.1 hb]; rfl) rfl hr2
  have hv' : Den ([e0] ++ [e2]) (picksV ⟨ys, cap'⟩ 1) v2 := den_add (env := [e0]) (n := 1) hd2 rfl
  exact (barrierRuns_call (p := ⟨ys, cap'⟩) (wf_u8 wr) he hr hv').mono fun e W' h => fin e W' h
theorem barrierRuns_row : Rows.BarrierRunsSaid :=
  OpenClaim.holds_of_wide 6 Tryd.f6 rfl rfl rfl rfl rfl rfl rfl ⟨rfl, rfl, rfl, rfl, rfl⟩ rfl rfl rfl rfl rfl (by kernel_rfl) Tryd.func6 (by kernel_rfl)
    (of_decide_eq_true (by kernel_rfl)) (by unfold Func.isWrapper; first | (rw [if_pos (by decide +kernel)]; kernel_rfl) | (rw [if_neg (by decide +kernel)]; exact ⟨rfl, rfl⟩))
    (fun os started H enc _ => barrierRuns_lifted os started H enc)
theorem barrierRuns_holds : Rows.BarrierRunsCardSaid :=
  Claim7.holds_tied_plain_at .later [] [.data] true _ _ barrierRuns_row (fun _ h => by cases h) (by kernel_rfl) (fun _ h => by cases h) barrierRuns_row_tie rfl ⟨rfl, rfl⟩ (by kernel_rfl) rfl
    (fun f fn hf hfn => by
      obtain rfl : f = 6 := Option.some.inj ((show Tryd.prog.funcNamed "purlin/purlinlaw11.BarrierRuns" = some 6 by kernel_rfl).symm.trans hf) |>.symm
      obtain rfl : fn = Tryd.f6 := (Option.some.inj (Tryd.func6.symm.trans hfn)).symm
      exact ⟨by kernel_rfl, fun j t ht => by
        rw [Tryd.params6] at ht
        have hm : t ∈ [3, 5, 22] := by simpa using Array.mem_of_getElem? ht
        have hall : ([3, 5, 22].all fun u => !Tryd.prog.wantsStandIn u) = true := by kernel_rfl
        exact (show Tryd.prog.wantsStandIn t = false by simpa using List.all_eq_true.1 hall t hm)⟩)
    (by kernel_rfl)
end Go.Proofs.YtafipmkobdhigaaDoor

