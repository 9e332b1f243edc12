/- BarrierPlays holds for every input: waiters and the document's waiters go together, step by step. -/
import Derived.Test.YtafipmkobdhigaaDoorWts
import Derived.Test.YtafipmkobdhigaaDoorCards
import Derived.Test.YtafipmkobdhigaaDoorTie
import Derived.ProofKit
import Derived.LaidMore
import Derived.OpenShut
import Derived.Stop.Joined
import Derived.Test.YtafipmkobdhigaaDoorSxC
/- BarrierTogether: its loops. -/
namespace Go.Proofs.YtafipmkobdhigaaDoor
open Go Go.Proofs.YtafipmkobdhigaaDoor.Sx
set_option linter.unusedVariables false
theorem pick_stays {m : Nat} {s : Mc} {k : Int} (h : inP k m = false ∨ s.ds.getD k.toNat false = true) : pickP m s k = s := by
  unfold pickP
  rcases h with h | h
  · rw [h]
  · rw [h]; split <;> rfl
theorem pick_cases (m : Nat) (s : Mc) (k : Int) : pickP m s k = s ∨ ∃ i, i < m ∧ s.ds.getD i false = false ∧ k = (i : Nat) := by
  cases h1 : inP k m with
  | false => exact .inl (pick_stays (.inl h1))
  | true =>
    cases h2 : s.ds.getD k.toNat false with
    | true => exact .inl (pick_stays (.inr h2))
    | false =>
      have := (inP_iff _ _).1 h1
      exact .inr ⟨k.toNat, by omega, h2, by omega⟩
theorem inv_pick {m : Nat} {R K A G : Int} {s : Mc} (h : Inv m R K A G s) (k : Int) : ∃ K' A' G', Inv m R K' A' G' (pickP m s k) := by
  rcases pick_cases m s k with e | ⟨i, hi, hd, rfl⟩
  · rw [e]; exact ⟨_, _, _, h⟩
  · obtain ⟨K', A', G', h', _⟩ := h.pick hi hd
    exact ⟨_, _, _, h'⟩
theorem xsD {m : Nat} {s : Mc} (hx : s.xs.length = m) {k : Nat} (hk : k < m) (d : Tk) : s.xs.getD k d = tkAt s k := by
  simp only [tkAt, List.getD_eq_getElem?_getD]
  rw [List.getElem?_eq_getElem (by omega)]; rfl
abbrev Q3 (w0 : From) : Exit → Act → World → Prop := bodyPost Tryd.prog Tryd.f3 (Said w0)
structure Ix3 where
  i : Nat
  s : Mc
def Inv3 (w0 : From) (p : In1) (m : Nat) (j : Ix3) (a : Act) (w : World) : Prop :=
  j.i ≤ 300 ∧ (∃ R K A G, Inv m R K A G j.s) ∧ ∃ env, At [(0, 0)] w0 env (fr 104 n3b (v3 p m ++ [.int .i64 (j.i : Nat)])) (s5 p m j.s) a w
abbrev R3 (w0 : From) (p : In1) (m : Nat) (i : Nat) : Exit → Act → World → Prop :=
  Exit.then (fun a' w' => ∃ k, Inv3 w0 p m k a' w' ∧ 300 - k.i < 300 - i) (Exit.inBlock 0 (Exit.then (end3.wp Tryd.prog (Q3 w0)) (Q3 w0)))
abbrev K3 (w0 : From) (p : In1) (m : Nat) (i : Nat) : Exit → Act → World → Prop :=
  Exit.inBlock 1 (Exit.then (inc3.wp Tryd.prog (R3 w0 p m i)) (R3 w0 p m i))
theorem end3_ok {w0 : From} {p : In1} {m : Nat} {s : Mc} {i : Nat} {env : Env} {a : Act} {w : World} (h : At [(0, 0)] w0 env (fr 104 n3b (v3 p m ++ [.int .i64 (i : Nat)])) (s5 p m s) a w) : end3.wp Tryd.prog (Q3 w0) a w :=
  pieceT0 (c := cfgM) cfgM_ok [6] t3_end h (all_ret fun env' a' w' hA' => hA'.said (by kernel_rfl))
theorem inc3_ok {w0 : From} {p : In1} {m : Nat} {i : Nat} (hi : i < 300) {s : Mc} (hinv : ∃ R K A G, Inv m R K A G s) {env : Env} {a : Act} {w : World} (h : At [(0, 0)] w0 env (fr 104 n3b (v3 p m ++ [.int .i64 (i : Nat)])) (s5 p m s) a w) : inc3.wp Tryd.prog (R3 w0 p m i) a w := by
  refine pieceT0 (c := cfgM) cfgM_ok n3b t3_inc h ?_
  refine all_needp (by simp only [inR_i64]; exact Iff.rfl) (by omega) fun _ => all_ret fun env' a' w' hA' => ?_
  exact ⟨⟨i + 1, s⟩, ⟨by simp only; omega, hinv, env', hA'⟩, by simp only; omega⟩
/-- the least that came, the most that passed, the least that passed -/
def Span (K R x y z : Int) : Prop := K ≤ x ∧ x ≤ 1001 ∧ y ≤ K ∧ -1 ≤ y ∧ K - 1 ≤ z ∧ z ≤ 1001
theorem chk3_ok {w0 : From} {p : In1} {m : Nat} {i : Nat} (hi : i < 300) {s : Mc} {R K A G : Int} (hinv : Inv m R K A G s) {x y z : Int} (hs : Span K R x y z) {env : Env} {a : Act} {w : World}
    (hA : At [(0, 0)] w0 env (fr 104 n3c (v3 p m ++ [.int .i64 (i : Nat), .int .i64 x, .int .i64 y, .int .i64 z])) (s5 p m s) a w) : chk3.wp Tryd.prog (K3 w0 p m i) a w := by
  obtain ⟨h1, h2, h3, h4, h5, h6⟩ := hs
  have hK := hinv.kB
  have hR := hinv.rB
  refine pieceT0 (c := cfgM) cfgM_ok n3b t3_chk hA ?_
  repeat' (first
    | refine all_needq (by simp only [inR_i64]; exact Iff.rfl) (by omega) ?_
    | (refine all_brp (by simp only [decide_eq_true_eq]; exact Iff.rfl) (fun _ => ?_) (fun _ => ?_) <;> try (exfalso; omega)))
  refine all_ret fun env' a' w' hA' => ?_
  simp only [Ex.to, K3, Exit.inBlock, Exit.then]
  exact inc3_ok hi ⟨R, K, A, G, hinv⟩ hA'
structure Ix3k where
  k : Nat
  x : Int
  y : Int
  z : Int
def Inv3k (w0 : From) (p : In1) (m : Nat) (s : Mc) (K R : Int) (i : Nat) (j : Ix3k) (a : Act) (w : World) : Prop :=
  j.k ≤ m ∧ Span K R j.x j.y j.z ∧ ∃ env, At [(0, 0)] w0 env (fr 104 n3d (v3 p m ++ [.int .i64 (i : Nat), .int .i64 j.x, .int .i64 j.y, .int .i64 j.z, .int .i64 (j.k : Nat)])) (s5 p m s) a w
theorem Stands.num {K R : Int} {t : Tk} (h : Stands K R t) (hK : 0 ≤ K ∧ K ≤ R) (hR : R ≤ 1000) : (t.came = t.passed ∨ t.came = t.passed + 1) ∧ K ≤ t.came ∧ t.came ≤ 1001 ∧ t.passed ≤ K ∧ 0 ≤ t.passed ∧ K - 1 ≤ t.passed := by
  rcases h with h | h | h <;> omega
theorem imin_eq (a b : Int) : imin a b = if a ≤ b then a else b := by unfold imin; split <;> split <;> omega
theorem imax_eq (a b : Int) : imax a b = if a ≤ b then b else a := by unfold imax; split <;> split <;> omega
set_option maxHeartbeats 1000000 in
theorem in3_ok {w0 : From} {p : In1} {m : Nat} {i : Nat} (hi : i < 300) {s : Mc} {R K A G : Int} (hinv : Inv m R K A G s) {j : Ix3k} (hj : j.k ≤ m) (hs : Span K R j.x j.y j.z) {env : Env} {a : Act} {w : World}
    (hA : At [(0, 0)] w0 env (fr 104 n3d (v3 p m ++ [.int .i64 (i : Nat), .int .i64 j.x, .int .i64 j.y, .int .i64 j.z, .int .i64 (j.k : Nat)])) (s5 p m s) a w) :
    lp3.wp Tryd.prog (Exit.then (fun a' w' => ∃ j', Inv3k w0 p m s K R i j' a' w' ∧ m - j'.k < m - j.k) (Exit.inBlock 2 (Exit.then (chk3.wp Tryd.prog (K3 w0 p m i)) (K3 w0 p m i)))) a w := by
  obtain ⟨k, x, y, z⟩ := j
  simp only at hj hs hA ⊢
  have hxl := hinv.xs
  have hm8 := hinv.m8
  refine pieceT0 (c := cfgM) cfgM_ok n3d t3_in hA ?_
  refine all_brp (by simp only [decide_eq_true_eq]; exact Iff.rfl) (fun h1 => ?_) (fun h1 => ?_)
  · have hk' : k < m := by omega
    have hr : (List.range m).getD k 0 = k := getD_range hk'
    have hlr : (List.range m).length = m := by simp
    have hT := fun d => xsD hxl hk' d
    have hn := (hinv.stands k hk').num hinv.kB hinv.rB
    simp only [Int.toNat_natCast, hr, hlr, hT]
    repeat' (first
      | refine all_needq (by simp only [decide_eq_true_eq, Bool.and_eq_true, inR_i64]; exact Iff.rfl) (by omega) ?_
      | (refine all_brp (by simp only [decide_eq_true_eq]; exact Iff.rfl) (fun _ => ?_) (fun _ => ?_) <;> try (exfalso; omega))
      | refine all_eq (by first | rfl | trivial) ?_)
    refine all_ret fun env' a' w' hA' => ?_
    refine ⟨⟨k + 1, imin x (tkAt s k).came, imax y (tkAt s k).passed, imin z (tkAt s k).passed⟩, ⟨by simp only; omega, ?_, env', hA'⟩, by simp only; omega⟩
    unfold Span at hs ⊢
    simp only [imin_eq, imax_eq]
    split <;> split <;> split <;> omega
  · have hkm : k = m := by omega
    subst hkm
    refine all_ret fun env' a' w' hA' => ?_
    simp only [Ex.to, Exit.then, Exit.inBlock, if_true]
    exact chk3_ok hi hinv hs (At.few (names := n3c) (extra := [14]) (vals := v3 p k ++ [.int .i64 (i : Nat), .int .i64 x, .int .i64 y, .int .i64 z]) (ev := [.int .i64 (k : Nat)]) hA' rfl)
set_option maxRecDepth 10000 in
set_option maxHeartbeats 1000000 in
theorem round3_ok {w0 : From} {p : In1} {m : Nat} {j : Ix3} {a : Act} {w : World} (h : Inv3 w0 p m j a w) : round3.wp Tryd.prog (R3 w0 p m j.i) a w := by
  obtain ⟨i, s⟩ := j
  obtain ⟨hi, ⟨R, K, A, G, hinv⟩, env, hA⟩ := h
  simp only at hi hinv hA ⊢
  have out : ∀ {env' : Env} {a' : Act} {w' : World}, At [(0, 0)] w0 env' (fr 104 n3b (v3 p m ++ [.int .i64 (i : Nat)])) (s5 p m s) a' w' → R3 w0 p m i (.exit 0) a' w' := by
    intro env' a' w' h
    simp only [R3, Exit.then, Exit.inBlock, if_true]
    exact end3_ok h
  refine wpS (by kernel_rfl) ?_
  refine pieceT0 (c := cfgM) cfgM_ok n3b t3_tm hA ?_
  refine all_brp (by simp only [decide_eq_true_eq]; exact Iff.rfl) (fun h1 => ?_) (fun h1 => all_ret fun _ _ _ h => out h)
  refine all_brp (by simp only [decide_eq_true_eq]; exact Iff.rfl) (fun h2 => all_ret fun env1 a1 w1 hA1 => ?_) (fun h2 => all_ret fun _ _ _ h => out h)
  refine (show (rgt round3).wp Tryd.prog (R3 w0 p m i) a1 w1 from wpS (by kernel_rfl) (wpB 1 (by kernel_rfl) ?_))
  refine (show bb3.wp Tryd.prog (K3 w0 p m i) a1 w1 from ?_)
  refine pieceNT0 (c := cfgQ 2 m s) cfgQ_ok 3 n3c t3_a hA1 ?_
  obtain ⟨K', A', G', hinv'⟩ := inv_pick hinv (p.picks.getD (i : Int).toNat 0)
  have hok := hinv.ok
  generalize pickP m s (p.picks.getD (i : Int).toNat 0) = s' at *
  have hm8 := hinv'.m8
  have hr : (List.range m).getD 0 0 = 0 := getD_range (by omega)
  have hlr : (List.range m).length = m := by simp
  have hxl := hinv'.xs
  have hT := fun d => xsD hxl (k := 0) (by omega) d
  have hn := (hinv'.stands 0 (by omega)).num hinv'.kB hinv'.rB
  simp only [hr, hlr, hT]
  repeat' (first
    | refine all_needq (by simp only [decide_eq_true_eq, Bool.and_eq_true, inR_i64]; exact Iff.rfl) (by omega) ?_
    | refine all_eq (by first | rfl | trivial | exact ⟨rfl, hok⟩ | exact ⟨trivial, hok⟩) ?_)
  refine all_ret fun env2 a2 w2 hA2 => ?_
  simp only [Ex.to, Exit.then]
  refine (show (restC 3 bb3).wp Tryd.prog (K3 w0 p m i) a2 w2 from wpS (by kernel_rfl) (show in3.wp Tryd.prog (Exit.then (chk3.wp Tryd.prog (K3 w0 p m i)) (K3 w0 p m i)) a2 w2 from wpS (by kernel_rfl) ?_))
  refine pieceT0 (c := cfgM) cfgM_ok n3d t3_k hA2 (all_ret fun env3 a3 w3 hA5 => ?_)
  simp only [Ex.to, Exit.then]
  have hA6 := hA5.gvals (v3 p m ++ [SVal.int .i64 (i : Nat), SVal.int .i64 (tkAt s' 0).came, SVal.int .i64 (tkAt s' 0).passed, SVal.int .i64 (tkAt s' 0).passed, SVal.int .i64 ((0 : Nat) : Int)]) rfl
  refine wpB 2 (by kernel_rfl) (wpL (by kernel_rfl) (Inv3k w0 p m s' K' R i) (fun j => m - j.k) ⟨0, (tkAt s' 0).came, (tkAt s' 0).passed, (tkAt s' 0).passed⟩ ⟨Nat.zero_le _, by unfold Span; simp only; omega, env3, hA6⟩ ?_)
  rintro j a w ⟨h1, h2, env, h3⟩
  exact in3_ok (by omega) hinv' h1 h2 h3
end Go.Proofs.YtafipmkobdhigaaDoor

/- Layer 11: awake. -/
namespace Go.Proofs.YtafipmkobdhigaaDoor
open Go Go.Proofs.YtafipmkobdhigaaDoor.Sx
set_option linter.unusedVariables false
def nA0 : List SVal := [(SVal.ptr (4 : Nat) (0 : Nat)), (SVal.sli (15 : Nat) (NN.c (0 : Nat)) (1 : Nat) (NN.c (1 : Nat)) none)]
def nS0 : St := [(Blk.ro encLook [PUnit.unit]), (Blk.own [Seg.c (SVal.lit IntKind.u32 (0 : Int)), Seg.c (SVal.lit IntKind.u32 (1 : Int))] (35 : Nat)), (Blk.own [Seg.c (SVal.sli (1 : Nat) (NN.c (0 : Nat)) (1 : Nat) (NN.c (2 : Nat)) (some (NN.c (2 : Nat)))), Seg.c (SVal.lit IntKind.i64 (6 : Int))] (70 : Nat)), (Blk.own [Seg.c (SVal.lit IntKind.u32 (0 : Int)), Seg.c (SVal.lit IntKind.u32 (0 : Int))] (35 : Nat)), (Blk.own [Seg.c (SVal.sli (3 : Nat) (NN.c (0 : Nat)) (1 : Nat) (NN.c (2 : Nat)) (some (NN.c (2 : Nat)))), Seg.c (SVal.lit IntKind.i64 (0 : Int))] (70 : Nat)), (Blk.own [Seg.c (SVal.lit IntKind.i64 (0 : Int)), Seg.c (SVal.lit IntKind.i64 (2 : Int)), Seg.c (SVal.lit IntKind.i64 (2 : Int)), Seg.c (SVal.lit IntKind.i64 (0 : Int)), Seg.c (SVal.lit IntKind.i64 (1 : Int)), Seg.c (SVal.lit IntKind.i64 (1 : Int))] (68 : Nat)), (Blk.own [Seg.c (SVal.lit IntKind.i64 (0 : Int)), Seg.c (SVal.lit IntKind.i64 (2 : Int)), Seg.c (SVal.lit IntKind.i64 (2 : Int)), Seg.c (SVal.lit IntKind.i64 (0 : Int)), Seg.c (SVal.lit IntKind.i64 (1 : Int)), Seg.c (SVal.lit IntKind.i64 (1 : Int))] (68 : Nat)), (Blk.own [Seg.c (SVal.lit IntKind.u32 (4294967295 : Int)), Seg.c (SVal.lit IntKind.u32 (0 : Int)), Seg.c (SVal.lit IntKind.u32 (1 : Int))] (74 : Nat)), (Blk.own [Seg.c (SVal.lit IntKind.u32 (4294967295 : Int)), Seg.c (SVal.lit IntKind.u32 (0 : Int)), Seg.c (SVal.lit IntKind.u32 (0 : Int))] (74 : Nat)), (Blk.own [Seg.c (SVal.lit IntKind.u32 (4294967295 : Int)), Seg.c (SVal.lit IntKind.u32 (0 : Int)), Seg.c (SVal.lit IntKind.u32 (1 : Int))] (74 : Nat)), (Blk.own [Seg.c (SVal.lit IntKind.u32 (0 : Int)), Seg.c (SVal.lit IntKind.u32 (0 : Int)), Seg.c (SVal.lit IntKind.u32 (0 : Int))] (74 : Nat)), (Blk.own [Seg.c (SVal.lit IntKind.u32 (0 : Int)), Seg.c (SVal.lit IntKind.u32 (1 : Int)), Seg.c (SVal.lit IntKind.u32 (0 : Int))] (74 : Nat)), (Blk.own [Seg.c (SVal.lit IntKind.u32 (4294967295 : Int)), Seg.c (SVal.lit IntKind.u32 (0 : Int)), Seg.c (SVal.lit IntKind.u32 (0 : Int))] (74 : Nat)), (Blk.own [Seg.c (SVal.lit IntKind.i64 (0 : Int)), Seg.c (SVal.lit IntKind.i64 (1 : Int)), Seg.c (SVal.lit IntKind.i64 (3 : Int)), Seg.c (SVal.lit IntKind.i64 (0 : Int)), Seg.c (SVal.lit IntKind.i64 (0 : Int)), Seg.c (SVal.lit IntKind.i64 (0 : Int))] (68 : Nat)), (Blk.own [Seg.c (SVal.ifc (30 : Nat) (SVal.ptr (13 : Nat) (0 : Nat)))] (66 : Nat)), (Blk.vec (encRow 0) [[SVal.ifc (30 : Nat) (SVal.ptr (13 : Nat) (0 : Nat))]] (66 : Nat))]
abbrev nE0 : T SVal := (T.ret (SVal.sli (17 : Nat) (NN.c (0 : Nat)) (1 : Nat) (NN.v (1 : Nat)) none))
abbrev nE1 : T SVal := (T.need true (T.ret (SVal.ifc (30 : Nat) (SVal.ptr (13 : Nat) (0 : Nat)))))
set_option maxRecDepth 100000 in
theorem awake_val : (callF cfgT 1000 8 [] [lookB]).valE = some (anyP cfgW (100 : Nat) (24 : Nat) nA0 nS0 ∧ nE0 = nE0 ∧ nE1 = nE1 ∧ nE0 = nE0 ∧ nE1 = nE1 ∧ nE0 = nE0 ∧ nE1 = nE1 ∧ nE0 = nE0 ∧ nE1 = nE1 ∧ nE0 = nE0 ∧ nE1 = nE1 ∧ nE0 = nE0 ∧ nE1 = nE1 ∧ nE0 = nE0 ∧ nE1 = nE1 ∧ nE0 = nE0 ∧ nE1 = nE1 ∧ nE0 = nE0 ∧ nE1 = nE1 ∧ True, .bl true) := by kernel_rfl
set_option maxRecDepth 100000 in
theorem awake_props (h0 : anyP cfgW (100 : Nat) (24 : Nat) nA0 nS0) : anyP cfgW (100 : Nat) (24 : Nat) nA0 nS0 ∧ nE0 = nE0 ∧ nE1 = nE1 ∧ nE0 = nE0 ∧ nE1 = nE1 ∧ nE0 = nE0 ∧ nE1 = nE1 ∧ nE0 = nE0 ∧ nE1 = nE1 ∧ nE0 = nE0 ∧ nE1 = nE1 ∧ nE0 = nE0 ∧ nE1 = nE1 ∧ nE0 = nE0 ∧ nE1 = nE1 ∧ nE0 = nE0 ∧ nE1 = nE1 ∧ nE0 = nE0 ∧ nE1 = nE1 ∧ True := ⟨h0, rfl, rfl, rfl, rfl, rfl, rfl, rfl, rfl, rfl, rfl, rfl, rfl, rfl, rfl, rfl, rfl, rfl, rfl, trivial⟩
set_option maxRecDepth 100000 in
theorem new0 : anyP cfgW 100 24 nA0 nS0 := by
  have h1 : (anyTP cfgW 100 24 nA0 nS0).asks = some True := by kernel_rfl
  exact anyP_closed h1 trivial (by kernel_rfl)
theorem awake_ok (args : List SVal) (st : St) (s : SVal) (st' : St) (env : Env) (w : World) (vs : List Value) (hat : (smClosed [0] [lookB] (.bl true) args st).at (s, st')) (hg : GlOk [(0, 0)] env) (hr : Rep env st w) (hd : DenL env args vs) :
    Calls Tryd.prog 8 ⟨vs⟩ w fun e w' => ∃ env' v, e = .returned v ∧ Ext env st w env' st' w' ∧ Rep env' st' w' ∧ Den env' s v := by
  refine smClosedE_ok cfgT_ok awake_val (awake_props new0) (by kernel_rfl) rfl rfl ?_ args st s st' env w vs hat hg hr hd
  intro b hb e
  rw [List.mem_singleton.1 hb]; rfl
end Go.Proofs.YtafipmkobdhigaaDoor

/- Layer 11: the package's variable, and how a card is closed. -/
namespace Go.Proofs.YtafipmkobdhigaaDoor
open Go Go.Proofs.YtafipmkobdhigaaDoor.Sx Go.ChangeShapes Go.WideShapes Go.ChangeAt Go.RowKit
set_option linter.unusedVariables false
abbrev laid1 : List (String × DataW Unit) := [("purlin/mem.look", Rows.laid_purlin_mem_look)]
theorem Tryd.own : ownKnob Tryd.prog.godebug = none := by kernel_rfl
theorem Tryd.laidOut : laidOutB Tryd.prog = true := by kernel_rfl
theorem gLook : Tryd.prog.globalNamed "purlin/mem.look" = some 0 := by kernel_rfl
theorem tLook : (Tryd.prog.globals[0]?).map (·.type) = some 74 := by kernel_rfl
/-- the door's own heap meets the condition -/
theorem door_met (os : Os) (args : Array Value) : laidMetH Tryd.prog laid1 ((World.doorLaid Tryd.prog 400 os).forCall (fun _ _ => 0) ⟨#[], args, []⟩).memory :=
  laidMetH_of_parts3 (fuel := 8) (laidMet_of_run' 8 (by kernel_rfl) (by kernel_rfl)) (by kernel_rfl) (by kernel_rfl)
set_option maxRecDepth 100000 in
/-- what the condition gives -/
theorem of_laid {W : World} (h : laidMetH Tryd.prog laid1 W) : ∃ e : Slot, (e.blk = 0 ∧ e.off = 0) ∧ Rep [e] [lookB] W := by
  rw [MakeChecks.laidMetH_plain _ _ _ (by kernel_rfl)] at h
  obtain ⟨ps, ⟨g0, t0, cs0, f0, p0, q0, hg0, ht0, hv0, hd0, _, _⟩, _, _⟩ := h
  obtain rfl := Option.some.inj (gLook.symm.trans hg0)
  obtain rfl := Option.some.inj (tLook.symm.trans ht0)
  obtain ⟨xs, m, _, hx, hlen, hxl, hf⟩ := DataW.trod_struct Tryd.underlying74 hd0
  have hC : Tryd.prog.cellsOf 74 = 3 := by kernel_rfl
  have k23 : Tryd.prog.cellsOf 35 = 1 := by kernel_rfl
  rw [hC] at hlen
  obtain ⟨l⟩ := cs0
  simp only at hlen hf
  match l, hlen with
  | [c0, c1, c2], _ =>
    match xs, hxl, hx with
    | [y0, y1, y2], _, hx =>
      have f0 : DataW.trod _ Tryd.prog W 0 _ false m 35 (([c0, c1, c2].drop 0).take (Tryd.prog.cellsOf 35)) = some y0 := hf 0 _ rfl
      have f1 : DataW.trod _ Tryd.prog W 0 _ false m 35 (([c0, c1, c2].drop 1).take (Tryd.prog.cellsOf 35)) = some y1 := hf 1 _ rfl
      have f2 : DataW.trod _ Tryd.prog W 0 _ false m 35 (([c0, c1, c2].drop 2).take (Tryd.prog.cellsOf 35)) = some y2 := hf 2 _ rfl
      rw [k23] at f0 f1 f2
      obtain ⟨a0, h0, e0, _⟩ := DataW.trod_int Tryd.underlying35 f0
      obtain ⟨a1, h1, e1, _⟩ := DataW.trod_int Tryd.underlying35 f1
      obtain ⟨a2, h2, e2, _⟩ := DataW.trod_int Tryd.underlying35 f2
      simp at h0 h1 h2
      subst h0 h1 h2 e0 e1 e2
      simp [Rows.laid_purlin_mem_look] at hx
      obtain ⟨⟨rfl, rfl, rfl⟩, _⟩ := hx
      have hc := fun i => World.var?_cell hg0 hv0 i
      have hsz : 0 < W.heap.size := by
        have := hc 0
        simp only [World.cell?] at this
        rcases Nat.eq_zero_or_pos W.heap.size with h | h
        · rw [Array.getElem?_eq_none (by omega)] at this; simp at this
        · exact h
      refine ⟨⟨0, 0, 0, []⟩, ⟨rfl, rfl⟩, rfl, ?_, ?_, ?_⟩
      · intro id sl b he hb
        match id with
        | 0 =>
          simp only [List.getElem?_cons_zero, Option.some.injEq] at he hb
          subst he hb
          refine ⟨[.int .u32 4294967295, .int .u32 0, .int .u32 0], by simp [encLook, encOf, DenL, Den], fun i hi => ?_⟩
          have := hc i
          simpa using this
        | n + 1 => simp at he
      · intro i j e f b c hij he hf' hb' hc' x hx''
        match i, j with
        | 0, 0 => exact (hij rfl).elim
        | i + 1, _ => simp at he
        | 0, j + 1 => simp at hf'
      · intro id sl b he hb x hx
        match id with
        | 0 =>
          simp only [List.getElem?_cons_zero, Option.some.injEq] at he hb
          subst he hb
          simp [Blk.supp] at hx
          omega
        | n + 1 => simp at he
theorem wf_u8 {n : Int} (h : (Lit.int .u8 n).wf = true) : 0 ≤ n ∧ n ≤ 255 := by simp [Lit.wf, IntKind.min, IntKind.max, IntKind.signed, IntKind.bits] at h; omega
theorem wf_u32 {n : Int} (h : (Lit.int .u32 n).wf = true) : 0 ≤ n ∧ n < 4294967296 := by simp [Lit.wf, IntKind.min, IntKind.max, IntKind.signed, IntKind.bits] at h; omega
theorem open_i64 {H : Type} {enc : TypeId × Value → H} {w : World} {base : Nat} {spare : Nat → Bool} {held : Bool} (n : Nat) (cs : List Value) (y : DataW H × List MemPlace) (h : DataW.trod enc Tryd.prog w base spare held n 3 cs = some y) :
    ∃ x : Int, DenL [] ((encInt .i64).enc x) cs := by
  cases n with
  | zero => simp [DataW.trod] at h
  | succ n =>
    obtain ⟨a, h0, _, hw⟩ := DataW.trod_int Tryd.underlying3 h
    subst h0
    exact ⟨a, by simp [encInt, DenL, Den]⟩
end Go.Proofs.YtafipmkobdhigaaDoor

/- BarrierPlays, plain: a waiter and the document's go together. -/
namespace Go.Proofs.YtafipmkobdhigaaDoor
open Go Go.Proofs.YtafipmkobdhigaaDoor.Sx
set_option linter.unusedVariables false
/-- the document's waiter -/
structure Rf where
  at' : Int
  n : Int
  rounds : Int
  next : Nat
  came : Int
  passed : Int
  done : Bool
abbrev u32P (x : Int) : Int := IntKind.u32.wrap x
/-- the word that its next step uses -/
def atR (r : Rf) : Int := match decide ((2 : Int) < r.next) with
  | true => r.at' + 1
  | false => r.at'
/-- is there a step -/
def okR (r : Rf) (l : List Int) : Bool := !(r.passed == r.rounds) && inP (atR r) l.length
abbrev ownR (r : Rf) : Int := u32P (r.came.tmod 2)
/-- the waiter behind a step that is one -/
def rfP (r : Rf) (l : List Int) : Rf := match r.next with
  | 1 => {r with came := r.came + 1, next := match (l.set (atR r).toNat (u32P (l.getD (atR r).toNat 0 + 1))).getD (atR r).toNat 0 == u32P r.n with | true => 2 | false => 4, done := r.passed == r.rounds}
  | 2 => {r with next := 3, done := r.passed == r.rounds}
  | 3 => {r with passed := r.passed + 1, next := 1, done := r.passed + 1 == r.rounds}
  | _ => match l.getD (atR r).toNat 0 == ownR r with
    | true => {r with passed := r.passed + 1, next := 1, done := r.passed + 1 == r.rounds}
    | false => {r with done := r.passed == r.rounds}
/-- the words behind it -/
def rwP (r : Rf) (l : List Int) : List Int := match r.next with
  | 1 => l.set (atR r).toNat (u32P (l.getD (atR r).toNat 0 + 1))
  | 2 => l.set (atR r).toNat 0
  | 3 => l.set (atR r).toNat (ownR r)
  | _ => l
def rStep (r : Rf) (l : List Int) : Rf × List Int := match okR r l with
  | true => (rfP r l, rwP r l)
  | false => ({r with done := true}, l)
structure Rel (t : Tk) (r : Rf) : Prop where
  at' : t.at' = r.at'
  n : t.n = r.n
  rounds : t.rounds = r.rounds
  came : t.came = r.came
  passed : t.passed = r.passed
  next : r.next = t.phase + 1
  ok : TkOk t
  done : r.done = false
abbrev U32s (l : List Int) : Prop := ∀ x ∈ l, 0 ≤ x ∧ x < 4294967296
theorem u32s_getD {l : List Int} (h : U32s l) (i : Nat) : 0 ≤ l.getD i 0 ∧ l.getD i 0 < 4294967296 := by
  rw [List.getD_eq_getElem?_getD]
  cases hi : l[i]? with
  | none => simp
  | some x => simpa using h x (List.mem_of_getElem? hi)
theorem u32s_set {l : List Int} (h : U32s l) (i : Nat) {x : Int} (hx : 0 ≤ x ∧ x < 4294967296) : U32s (l.set i x) := by
  intro y hy
  rcases List.mem_or_eq_of_mem_set hy with h1 | rfl
  · exact h y h1
  · exact hx
/-- what a step of both comes to -/
structure Both (t : Tk) (r : Rf) (l : List Int) : Prop where
  done : doneP t l = (rStep r l).1.done
  words : wordsP t l = (rStep r l).2
  came : (tkP t l).came = (rStep r l).1.came
  passed : (tkP t l).passed = (rStep r l).1.passed
  u32 : U32s (wordsP t l)
  rel : (rStep r l).1.done = false → Rel (tkP t l) (rStep r l).1
theorem both_mk {t t' : Tk} {r r' : Rf} {l l' : List Int} {d : Bool} (hs : stepP t l = (t', l', d)) (hr : rStep r l = (r', l')) (hd : d = r'.done) (hc : t'.came = r'.came) (hp : t'.passed = r'.passed) (hu : U32s l') (hrel : r'.done = false → Rel t' r') : Both t r l := by
  refine ⟨?_, ?_, ?_, ?_, ?_, ?_⟩
  · rw [doneP, hs, hr]; exact hd
  · rw [wordsP, hs, hr]
  · rw [tkP, hs, hr]; exact hc
  · rw [tkP, hs, hr]; exact hp
  · rw [wordsP, hs]; exact hu
  · rw [tkP, hs, hr]; exact hrel
theorem both_step {t : Tk} {r : Rf} {l : List Int} (h : Rel t r) (hl : U32s l) : Both t r l := by
  obtain ⟨at', n, rounds, phase, came, passed⟩ := t
  obtain ⟨at2, n2, rounds2, next, came2, passed2, done⟩ := r
  obtain ⟨h1, h2, h3, h4, h5, h6, ⟨h7, h8, h9, h10, h11⟩, h12⟩ := h
  simp only at h1 h2 h3 h4 h5 h6 h7 h8 h9 h10 h11 h12
  subst h1 h2 h3 h4 h5 h6 h12
  have hw : ∀ x, u32P x = x % 4294967296 := w32_mod
  have hcb : 0 ≤ came ∧ came ≤ 1001 := by split at h11 <;> omega
  have hown : u32P (came.tmod 2) = came % 2 := by
    rw [hw, Int.tmod_eq_emod_of_nonneg hcb.1]; omega
  have hsn : senseP came = came % 2 := by
    show (IntKind.u32.wrap came).tmod 2 = _
    rw [w32_mod, Int.emod_eq_of_lt (by omega) (by omega), Int.tmod_eq_emod_of_nonneg hcb.1]
  by_cases h0 : passed = rounds
  · have hq : (passed == rounds) = true := beq_iff_eq.2 h0
    exact both_mk (t' := ⟨at', n, rounds, phase, came, passed⟩) (r' := ⟨at', n, rounds, phase + 1, came, passed, true⟩) (l' := l) (d := true) (by simp [stepP, hq]) (by simp [rStep, okR, hq]) rfl rfl rfl hl (fun h => by cases h)
  · have h2 : (passed == rounds) = false := by simpa using h0
    match phase, h10 with
    | 0, _ =>
      simp only [if_true] at h11
      cases hb : inP at' l.length with
      | true =>
        have hb' := (inP_iff _ _).1 hb
        have hg := u32s_getD hl at'.toNat
        have hset : ∀ v, (l.set at'.toNat v).getD at'.toNat 0 = v := fun v => Sx.getD_set_self (by omega) _ _
        have hl' : U32s (l.set at'.toNat ((l.getD at'.toNat 0 + 1) % 4294967296)) := u32s_set hl _ (by omega)
        by_cases hq : (l.getD at'.toNat 0 + 1) % 4294967296 = n
        · have q1 : (l.getD at'.toNat 0 == IntKind.u32.wrap (n - 1)) = true := by rw [beq_iff_eq, w32_mod]; omega
          have q2 : ((l.getD at'.toNat 0 + 1) % 4294967296 == n % 4294967296) = true := by rw [beq_iff_eq]; omega
          exact both_mk (t' := ⟨at', n, rounds, 1, came + 1, passed⟩) (r' := ⟨at', n, rounds, 2, came + 1, passed, false⟩) (l' := l.set at'.toNat ((l.getD at'.toNat 0 + 1) % 4294967296)) (d := false) (by simp only [stepP, h2, hb, q1, incP_ok]) (by simp [-List.getD_eq_getElem?_getD, rStep, okR, h2, atR, hb, rfP, rwP, hset, hw, q2]) rfl rfl rfl hl'
            (fun _ => ⟨rfl, rfl, rfl, rfl, rfl, rfl, ⟨h7, h8, h9, by simp, by simp only; omega⟩, rfl⟩)
        · have q1 : (l.getD at'.toNat 0 == IntKind.u32.wrap (n - 1)) = false := by rw [beq_eq_false_iff_ne, w32_mod]; omega
          have q2 : ((l.getD at'.toNat 0 + 1) % 4294967296 == n % 4294967296) = false := by rw [beq_eq_false_iff_ne]; omega
          exact both_mk (t' := ⟨at', n, rounds, 3, came + 1, passed⟩) (r' := ⟨at', n, rounds, 4, came + 1, passed, false⟩) (l' := l.set at'.toNat ((l.getD at'.toNat 0 + 1) % 4294967296)) (d := false) (by simp only [stepP, h2, hb, q1, incP_ok]) (by simp [-List.getD_eq_getElem?_getD, rStep, okR, h2, atR, hb, rfP, rwP, hset, hw, q2]) rfl rfl rfl hl'
            (fun _ => ⟨rfl, rfl, rfl, rfl, rfl, rfl, ⟨h7, h8, h9, by simp, by simp only; omega⟩, rfl⟩)
      | false =>
        exact both_mk (t' := ⟨at', n, rounds, 0, came, passed⟩) (r' := ⟨at', n, rounds, 1, came, passed, true⟩) (l' := l) (d := true) (by simp only [stepP, h2, hb]) (by simp [rStep, okR, h2, atR, hb]) rfl rfl rfl hl (fun h => by cases h)
    | 1, _ =>
      cases hb : inP at' l.length with
      | true =>
        exact both_mk (t' := ⟨at', n, rounds, 2, came, passed⟩) (r' := ⟨at', n, rounds, 3, came, passed, false⟩) (l' := l.set at'.toNat 0) (d := false) (by simp only [stepP, h2, hb, setP_ok]; rfl) (by simp [rStep, okR, h2, atR, hb, rfP, rwP]) rfl rfl rfl (u32s_set hl _ (by omega))
          (fun _ => ⟨rfl, rfl, rfl, rfl, rfl, rfl, ⟨h7, h8, h9, by simp, by simp only at h11 ⊢; omega⟩, rfl⟩)
      | false =>
        exact both_mk (t' := ⟨at', n, rounds, 2, came, passed⟩) (r' := ⟨at', n, rounds, 2, came, passed, true⟩) (l' := l) (d := true) (by simp only [stepP, h2, hb]) (by simp [rStep, okR, h2, atR, hb]) rfl rfl rfl hl (fun h => by cases h)
    | 2, _ =>
      cases hb : inP (at' + 1) l.length with
      | true =>
        exact both_mk (t' := ⟨at', n, rounds, 0, came, passed + 1⟩) (r' := ⟨at', n, rounds, 1, came, passed + 1, passed + 1 == rounds⟩) (l' := l.set (at' + 1).toNat (came % 2)) (d := passed + 1 == rounds) (by simp only [stepP, h2, hb, setP_ok, passTk, hsn]; rw [show came % 2 % 4294967296 = came % 2 by omega]) (by simp [rStep, okR, h2, atR, hb, rfP, rwP, hown]) rfl rfl rfl (u32s_set hl _ (by omega))
          (fun hd => ⟨rfl, rfl, rfl, rfl, rfl, rfl, ⟨h7, h8, by simp only; omega, by simp, by simp at h11 ⊢; omega⟩, hd⟩)
      | false =>
        exact both_mk (t' := ⟨at', n, rounds, 2, came, passed⟩) (r' := ⟨at', n, rounds, 3, came, passed, true⟩) (l' := l) (d := true) (by simp only [stepP, h2, hb]) (by simp [rStep, okR, h2, atR, hb]) rfl rfl rfl hl (fun h => by cases h)
    | 3, _ =>
      cases hb : inP (at' + 1) l.length with
      | true =>
        cases hq : l.getD (at' + 1).toNat 0 == came % 2 with
        | true =>
          exact both_mk (t' := ⟨at', n, rounds, 0, came, passed + 1⟩) (r' := ⟨at', n, rounds, 1, came, passed + 1, passed + 1 == rounds⟩) (l' := l) (d := passed + 1 == rounds) (by simp only [stepP, h2, hb, passTk, hsn, hq]) (by simp [-List.getD_eq_getElem?_getD, rStep, okR, h2, atR, hb, rfP, rwP, hown, hq]) rfl rfl rfl hl
            (fun hd => ⟨rfl, rfl, rfl, rfl, rfl, rfl, ⟨h7, h8, by simp only; omega, by simp, by simp at h11 ⊢; omega⟩, hd⟩)
        | false =>
          exact both_mk (t' := ⟨at', n, rounds, 3, came, passed⟩) (r' := ⟨at', n, rounds, 4, came, passed, false⟩) (l' := l) (d := false) (by simp only [stepP, h2, hb, hsn, hq]) (by simp [-List.getD_eq_getElem?_getD, rStep, okR, h2, atR, hb, rfP, rwP, hown, hq]) rfl rfl rfl hl
            (fun hd => ⟨rfl, rfl, rfl, rfl, rfl, rfl, ⟨h7, h8, h9, by simp, h11⟩, hd⟩)
      | false =>
        exact both_mk (t' := ⟨at', n, rounds, 3, came, passed⟩) (r' := ⟨at', n, rounds, 4, came, passed, true⟩) (l' := l) (d := true) (by simp only [stepP, h2, hb]) (by simp [rStep, okR, h2, atR, hb]) rfl rfl rfl hl (fun h => by cases h)
end Go.Proofs.YtafipmkobdhigaaDoor

/- BarrierPlays: pieces and states. -/
namespace Go.Proofs.YtafipmkobdhigaaDoor
open Go Go.Proofs.YtafipmkobdhigaaDoor.Sx
set_option linter.unusedVariables false
/-- a waiter out of raw numbers -/
structure K9 where
  at' : Int
  n : Int
  rounds : Int
def encK : Enc K9 := encOf 2 (fun k => [.int .i64 k.at', .int .i64 k.n, .int .i64 k.rounds]) ⟨0, 0, 0⟩ (fun _ => rfl) (by intro env env' x vs h; simpa [DenL, Den] using h)
def getI (k : IntKind) (s : SVal) : Option Int := match asI s with
  | some (k', x, _) => match decEq k' k with
    | .isTrue _ => some x
    | .isFalse _ => none
  | none => none
theorem getI_den {env : Env} {k : IntKind} {s : SVal} {x : Int} {v : Value} (h : getI k s = some x) (hd : Den env s v) : Den env (.int k x) v := by
  unfold getI at h
  split at h
  · rename_i k' y b h1
    split at h
    · rename_i h2 _
      subst h2
      simp only [Option.some.injEq] at h; subst h
      rw [asI_den h1 hd]; simp [Den]
    · cases h
  · cases h
theorem asB_sb {env : Env} {s : SVal} {x b : Bool} {v : Value} (h : asB s = some (x, b)) (hd : Den env s v) : Den env (.sb x) v := by
  rw [asB_den h hd]; simp [Den]
def encRf : Enc Rf where
  tag := .other
  shut := true
  sz := 7
  enc r := [.int .i64 r.at', .int .i64 r.n, .int .i64 r.rounds, .int .i64 r.next, .int .i64 r.came, .int .i64 r.passed, .sb r.done]
  dec l := match l with
    | [a, b, c, n, t, v, d] => match getI .i64 a, getI .i64 b, getI .i64 c, getI .i64 n, getI .i64 t, getI .i64 v, asB d with
      | some a, some b, some c, some (.ofNat n), some t, some v, some (d, _) => some ⟨a, b, c, n, t, v, d⟩
      | _, _, _, _, _, _, _ => none
    | _ => none
  dflt := ⟨0, 0, 0, 0, 0, 0, false⟩
  pos := by omega
  len := fun _ => rfl
  ok := by
    intro env l x vs h hd
    split at h
    · split at h
      · rename_i h1 h2 h3 h4 h5 h6 h7
        simp only [Option.some.injEq] at h; subst h
        obtain ⟨u1, k1, rfl, d1, u2, k2, rfl, d2, u3, k3, rfl, d3, u4, k4, rfl, d4, u5, k5, rfl, d5, u6, k6, rfl, d6, u7, k7, rfl, d7, rfl⟩ := hd
        exact ⟨_, _, rfl, getI_den h1 d1, _, _, rfl, getI_den h2 d2, _, _, rfl, getI_den h3 d3, _, _, rfl, getI_den h4 d4, _, _, rfl, getI_den h5 d5, _, _, rfl, getI_den h6 d6, _, _, rfl, asB_sb h7 d7, rfl⟩
      · cases h
    · cases h
  shutOk := fun _ => by intro env env' x vs h; simpa [DenL, Den] using h
/-- what comes in -/
structure InP where
  kinds : List K9
  cap : Nat
  picks : List Int
  cap' : Nat
abbrev kindsV (p : InP) (i : Nat) : SVal := .sli i (.c 0) 3 (.v p.kinds.length) (some (.v p.cap))
abbrev pickV (p : InP) (i : Nat) : SVal := .sli i (.c 0) 1 (.v p.picks.length) (some (.v p.cap'))
abbrev s0P (p : InP) : St := [lookB, .ro encK p.kinds, .ro (encInt .i64) p.picks]
noncomputable def b9 : Code := Tryd.f5.body.getD .skip
noncomputable def c9 : Code := restC 6 b9
noncomputable def reg9 : Code := lft (lft c9)
noncomputable def blk9 : Code := rgt (lft c9)
noncomputable def round9 : Code := lft (lft blk9)
noncomputable def tm9 : Code := lft round9
noncomputable def bb9 : Code := lft (lft (rgt round9))
noncomputable def inc9 : Code := rgt (rgt round9)
noncomputable def d9 : Code := rgt c9
noncomputable def reg9b : Code := lft (lft d9)
noncomputable def blk9b : Code := rgt (lft d9)
noncomputable def round9b : Code := lft (lft blk9b)
noncomputable def tm9b : Code := lft round9b
noncomputable def bb9b : Code := lft (lft (rgt round9b))
noncomputable def inc9b : Code := rgt (rgt round9b)
noncomputable def end9 : Code := rgt d9
/-- ahead of the loops -/
noncomputable def cfgA : Cfg := { P := Tryd.prog, ex := exI, gl := [(0, 0)], sm := fun g => match g with
  | 8 => some (smClosed [0] [lookB] (.bl true))
  | _ => none }
theorem cfgA_ok : SmOk cfgA := by
  intro g h e
  simp only [cfgA] at e
  split at e
  · simp only [Option.some.injEq] at e; subst e
    exact awake_ok
  · cases e
/-- the law's state in its first loop -/
abbrev memF (f0 f1 : Int) : List Int := [f0, f1, 0, 0]
abbrev s9 (p : InP) (l : List Int) (c : Int) (xs : List Tk) (m : Nat) (rs : List Rf) (lw : List Int) : St :=
  famS 4 l c xs ++ [.ro encK p.kinds, .ro (encInt .i64) p.picks, .vec (encInt .u32) lw 35, .vec (encP 3) (List.range m) 30, .vec encRf rs 48]
abbrev n9a : List Nat := [0, 2, 7, 9, 10, 11]
abbrev n9p : List Nat := [0, 2, 7, 9, 10, 11, 6]
abbrev n9b : List Nat := [0, 2, 7, 9, 10, 11, 12]
abbrev n9c : List Nat := [0, 2, 7, 9, 10, 11, 12, 13, 14, 15]
abbrev v9 (p : InP) (m : Nat) : List SVal := [kindsV p 4, pickV p 5, .ptr 1 0, .sli 6 (.c 0) 1 (.v 4) none, .sli 7 (.c 0) 1 (.v m) none, .sli 8 (.c 0) 7 (.v m) none]
/-- in its second -/
abbrev s9b (p : InP) (l : List Int) (c : Int) (xs : List Tk) (m : Nat) (rs : List Rf) (lw : List Int) : St :=
  famS 4 l c xs ++ [.ro (encInt .i64) p.picks, .vec (encInt .u32) lw 35, .vec (encP 3) (List.range m) 30, .vec encRf rs 48]
abbrev n9d : List Nat := [2, 7, 9, 10, 11]
abbrev n9e : List Nat := [2, 7, 9, 10, 11, 16]
abbrev n9f : List Nat := [2, 7, 9, 10, 11, 16, 17]
abbrev n9g : List Nat := [2, 7, 9, 10, 11, 16, 17, 18]
abbrev v9b (p : InP) (m n : Nat) : List SVal := [pickV p 4, .ptr 1 0, .sli 5 (.c 0) 1 (.v n) none, .sli 6 (.c 0) 1 (.v m) none, .sli 7 (.c 0) 7 (.v m) none]
abbrev kB (k : K9) : Blk := .own [.c (.int .i64 k.at'), .c (.int .i64 k.n), .c (.int .i64 k.rounds)] 44
abbrev rfA (r : Rf) (n : SVal) : SVal := .agg [.int .i64 r.at', .int .i64 r.n, .int .i64 r.rounds, n, .int .i64 r.came, .int .i64 r.passed, .sb r.done]
noncomputable def b14 : Code := Tryd.f18.body.getD .skip
end Go.Proofs.YtafipmkobdhigaaDoor

namespace Go.Proofs.YtafipmkobdhigaaDoor
open Go Go.Proofs.YtafipmkobdhigaaDoor.Sx
set_option linter.unusedVariables false
set_option maxRecDepth 100000 in
theorem x_pre {p : InP} {f0 f1 : Int} : (execN cfgA 100 6 b9 ([kindsV p 1, .agg [.int .u32 f0, .int .u32 f1], pickV p 2] ++ List.replicate 206 .bad) (s0P p)).bind (canonK 0 [(0,0)] 209 n9p) =
 

 (.eq (some [Blk.ro encLook [PUnit.unit]] = some [Blk.ro encLook [PUnit.unit]])

 (.br (decide ((9 : Int) < (↑p.1.length : Int)))

 (.eq (some [Blk.ro encLook [PUnit.unit]] = some [Blk.ro encLook [PUnit.unit]])

 (.ret (.ret, [.sli 1 (.c 0) 3 (.v p.1.length) (some (.v p.2)), .sli 2 (.c 0) 1 (.v p.3.length) (some (.v p.4)), .ptr 3 0, .bad, .bad, .bad, .bl true], [.ro encLook [PUnit.unit], .ro encK p.1, .ro (encInt IntKind.i64) p.3, .own [.c (.sli 4 (.c 0) 1 (.c 4) (some (.c 4))), .c (.lit .i64 (0 : Int))] 70, .own [.c (.lit .u32 (0 : Int)), .c (.lit .u32 (0 : Int)), .c (.lit .u32 (0 : Int)), .c (.lit .u32 (0 : Int))] 35])))

 (.need (true)

 (.need (true)

 (.need (true)
 (.eq (T.ret (SVal.int IntKind.u32 f0) = T.ret (SVal.int IntKind.u32 f0))
 (.eq (T.ret (SVal.int IntKind.u32 (bitop BinOp.or IntKind.u32 (0 : Int) f0)) = T.ret (SVal.int IntKind.u32 (bitop BinOp.or IntKind.u32 (0 : Int) f0)))

 (.need (true)

 (.need (true)

 (.need (true)
 (.eq (T.ret (SVal.int IntKind.u32 f1) = T.ret (SVal.int IntKind.u32 f1))
 (.eq (T.ret (SVal.int IntKind.u32 (bitop BinOp.or IntKind.u32 (0 : Int) f1)) = T.ret (SVal.int IntKind.u32 (bitop BinOp.or IntKind.u32 (0 : Int) f1)))

 (.ret (.normal, [.sli 1 (.c 0) 3 (.v p.1.length) (some (.v p.2)), .sli 2 (.c 0) 1 (.v p.3.length) (some (.v p.4)), .ptr 3 0, .sli 5 (.c 0) 1 (.c 4) (some (.c 4)), .sli 6 (.c 0) 1 (.c 0) (some (.c 0)), .sli 7 (.c 0) 7 (.c 0) (some (.c 0)), .bl false], [.ro encLook [PUnit.unit], .ro encK p.1, .ro (encInt IntKind.i64) p.3, .own [.c (.sli 4 (.c 0) 1 (.c 4) (some (.c 4))), .c (.lit .i64 (2 : Int))] 70, .own [.c (.int .u32 (IntKind.u32.wrap (bitop BinOp.or IntKind.u32 (0 : Int) f0 + (0 : Int)))), .c (.int .u32 (IntKind.u32.wrap (bitop BinOp.or IntKind.u32 (0 : Int) f1 + (0 : Int)))), .c (.lit .u32 (0 : Int)), .c (.lit .u32 (0 : Int))] 35, .own [.c (.int .u32 f0), .c (.int .u32 f1), .c (.lit .u32 (0 : Int)), .c (.lit .u32 (0 : Int))] 35, .own [] 30, .own [] 48])))))))))))))) := by kernel_rfl
set_option maxRecDepth 100000 in
theorem x_reg {p : InP} {l : List Int} {c : Int} {xs : List Tk} {m : Nat} {rs : List Rf} {lw : List Int} : (exec cfgM 100 reg9 (fr 209 n9a (v9 p m)) (s9 p l c xs m rs lw)).bind (canonK 6 [(0,0)] 209 n9b) =
 

 (.ret (.normal, [.sli 4 (.c 0) 3 (.v p.1.length) (some (.v p.2)), .sli 5 (.c 0) 1 (.v p.3.length) (some (.v p.4)), .ptr 1 0, .sli 6 (.c 0) 1 (.v 4) none, .sli 7 (.c 0) 1 (.v m) none, .sli 8 (.c 0) 7 (.v m) none, .lit .i64 (0 : Int)], [.ro encLook [PUnit.unit], .own [.c (.sli 2 (.c 0) 1 (.v 4) (some (.v 4))), .c (.int .i64 c)] 70, .own [.a (encInt IntKind.u32) 4 l] 35, .many encTk xs 68, .ro encK p.1, .ro (encInt IntKind.i64) p.3, .vec (encInt IntKind.u32) lw 35, .vec (encP 3) (List.range m) 30, .vec encRf rs 48])) := by kernel_rfl
set_option maxRecDepth 100000 in
theorem x_tm {p : InP} {l : List Int} {c : Int} {xs : List Tk} {m : Nat} {rs : List Rf} {lw : List Int} {i : Nat} : (exec cfgM 100 tm9 (fr 209 n9b (v9 p m ++ [.int .i64 (i : Nat)])) (s9 p l c xs m rs lw)).bind (canonK 6 [(0,0)] 209 n9b) =
 

 (.br (decide ((↑i : Int) < (↑p.1.length : Int)))

 (.ret (.normal, [.sli 4 (.c 0) 3 (.v p.1.length) (some (.v p.2)), .sli 5 (.c 0) 1 (.v p.3.length) (some (.v p.4)), .ptr 1 0, .sli 6 (.c 0) 1 (.v 4) none, .sli 7 (.c 0) 1 (.v m) none, .sli 8 (.c 0) 7 (.v m) none, .int .i64 (↑i : Int)], [.ro encLook [PUnit.unit], .own [.c (.sli 2 (.c 0) 1 (.v 4) (some (.v 4))), .c (.int .i64 c)] 70, .own [.a (encInt IntKind.u32) 4 l] 35, .many encTk xs 68, .ro encK p.1, .ro (encInt IntKind.i64) p.3, .vec (encInt IntKind.u32) lw 35, .vec (encP 3) (List.range m) 30, .vec encRf rs 48]))

 (.ret (.exit 0, [.sli 4 (.c 0) 3 (.v p.1.length) (some (.v p.2)), .sli 5 (.c 0) 1 (.v p.3.length) (some (.v p.4)), .ptr 1 0, .sli 6 (.c 0) 1 (.v 4) none, .sli 7 (.c 0) 1 (.v m) none, .sli 8 (.c 0) 7 (.v m) none, .int .i64 (↑i : Int)], [.ro encLook [PUnit.unit], .own [.c (.sli 2 (.c 0) 1 (.v 4) (some (.v 4))), .c (.int .i64 c)] 70, .own [.a (encInt IntKind.u32) 4 l] 35, .many encTk xs 68, .ro encK p.1, .ro (encInt IntKind.i64) p.3, .vec (encInt IntKind.u32) lw 35, .vec (encP 3) (List.range m) 30, .vec encRf rs 48]))) := by kernel_rfl
set_option maxRecDepth 100000 in
theorem x_mk {p : InP} {l : List Int} {c : Int} {xs : List Tk} {m : Nat} {rs : List Rf} {lw : List Int} {i : Nat} : (execN cfgM 100 3 bb9 (fr 209 n9b (v9 p m ++ [.int .i64 (i : Nat)])) (s9 p l c xs m rs lw)).bind (canonK 6 [(0,0)] 209 n9c) =
 

 (.need (decide ((0 : Int) ≤ (↑i : Int)) && decide ((↑i : Int).toNat < p.1.length))

 (.need (decide ((↑i : Int).toNat < p.1.length))

 (.need (decide ((↑i : Int).toNat < p.1.length))

 (.need (decide ((↑i : Int).toNat < p.1.length))

 (.br (decide ((1000 : Int) < (p.1.getD (↑i : Int).toNat { at' := (0 : Int), n := (0 : Int), rounds := (0 : Int) }).at'))

 (.br (decide ((p.1.getD (↑i : Int).toNat { at' := (0 : Int), n := (0 : Int), rounds := (0 : Int) }).n < (1 : Int)))

 (.ret (.normal, [.sli 4 (.c 0) 3 (.v p.1.length) (some (.v p.2)), .sli 5 (.c 0) 1 (.v p.3.length) (some (.v p.4)), .ptr 1 0, .sli 6 (.c 0) 1 (.v 4) none, .sli 7 (.c 0) 1 (.v m) none, .sli 8 (.c 0) 7 (.v m) none, .int .i64 (↑i : Int), .ptr 9 0, .pnil, .lit .i64 (110 : Int)], [.ro encLook [PUnit.unit], .own [.c (.sli 2 (.c 0) 1 (.v 4) (some (.v 4))), .c (.int .i64 c)] 70, .own [.a (encInt IntKind.u32) 4 l] 35, .many encTk xs 68, .ro encK p.1, .ro (encInt IntKind.i64) p.3, .vec (encInt IntKind.u32) lw 35, .vec (encP 3) (List.range m) 30, .vec encRf rs 48, .own [.c (.lit .i64 (0 : Int)), .c (.int .i64 (p.1.getD (↑i : Int).toNat { at' := (0 : Int), n := (0 : Int), rounds := (0 : Int) }).n), .c (.int .i64 (p.1.getD (↑i : Int).toNat { at' := (0 : Int), n := (0 : Int), rounds := (0 : Int) }).rounds)] 44]))

 (.br (decide ((8 : Int) < (p.1.getD (↑i : Int).toNat { at' := (0 : Int), n := (0 : Int), rounds := (0 : Int) }).n))

 (.ret (.normal, [.sli 4 (.c 0) 3 (.v p.1.length) (some (.v p.2)), .sli 5 (.c 0) 1 (.v p.3.length) (some (.v p.4)), .ptr 1 0, .sli 6 (.c 0) 1 (.v 4) none, .sli 7 (.c 0) 1 (.v m) none, .sli 8 (.c 0) 7 (.v m) none, .int .i64 (↑i : Int), .ptr 9 0, .pnil, .lit .i64 (110 : Int)], [.ro encLook [PUnit.unit], .own [.c (.sli 2 (.c 0) 1 (.v 4) (some (.v 4))), .c (.int .i64 c)] 70, .own [.a (encInt IntKind.u32) 4 l] 35, .many encTk xs 68, .ro encK p.1, .ro (encInt IntKind.i64) p.3, .vec (encInt IntKind.u32) lw 35, .vec (encP 3) (List.range m) 30, .vec encRf rs 48, .own [.c (.lit .i64 (0 : Int)), .c (.int .i64 (p.1.getD (↑i : Int).toNat { at' := (0 : Int), n := (0 : Int), rounds := (0 : Int) }).n), .c (.int .i64 (p.1.getD (↑i : Int).toNat { at' := (0 : Int), n := (0 : Int), rounds := (0 : Int) }).rounds)] 44]))

 (.ret (.normal, [.sli 4 (.c 0) 3 (.v p.1.length) (some (.v p.2)), .sli 5 (.c 0) 1 (.v p.3.length) (some (.v p.4)), .ptr 1 0, .sli 6 (.c 0) 1 (.v 4) none, .sli 7 (.c 0) 1 (.v m) none, .sli 8 (.c 0) 7 (.v m) none, .int .i64 (↑i : Int), .ptr 9 0, .ptr 10 0, .lit .i64 (0 : Int)], [.ro encLook [PUnit.unit], .own [.c (.sli 2 (.c 0) 1 (.v 4) (some (.v 4))), .c (.int .i64 c)] 70, .own [.a (encInt IntKind.u32) 4 l] 35, .many encTk xs 68, .ro encK p.1, .ro (encInt IntKind.i64) p.3, .vec (encInt IntKind.u32) lw 35, .vec (encP 3) (List.range m) 30, .vec encRf rs 48, .own [.c (.lit .i64 (0 : Int)), .c (.int .i64 (p.1.getD (↑i : Int).toNat { at' := (0 : Int), n := (0 : Int), rounds := (0 : Int) }).n), .c (.int .i64 (p.1.getD (↑i : Int).toNat { at' := (0 : Int), n := (0 : Int), rounds := (0 : Int) }).rounds)] 44, .own [.c (.lit .i64 (0 : Int)), .c (.int .i64 (p.1.getD (↑i : Int).toNat { at' := (0 : Int), n := (0 : Int), rounds := (0 : Int) }).n), .c (.int .i64 (imin (imax (p.1.getD (↑i : Int).toNat { at' := (0 : Int), n := (0 : Int), rounds := (0 : Int) }).rounds (0 : Int)) (1000 : Int))), .c (.lit .i64 (0 : Int)), .c (.lit .i64 (0 : Int)), .c (.lit .i64 (0 : Int))] 68]))))

 (.br (decide ((p.1.getD (↑i : Int).toNat { at' := (0 : Int), n := (0 : Int), rounds := (0 : Int) }).at' < (-1000 : Int)))

 (.br (decide ((p.1.getD (↑i : Int).toNat { at' := (0 : Int), n := (0 : Int), rounds := (0 : Int) }).n < (1 : Int)))

 (.ret (.normal, [.sli 4 (.c 0) 3 (.v p.1.length) (some (.v p.2)), .sli 5 (.c 0) 1 (.v p.3.length) (some (.v p.4)), .ptr 1 0, .sli 6 (.c 0) 1 (.v 4) none, .sli 7 (.c 0) 1 (.v m) none, .sli 8 (.c 0) 7 (.v m) none, .int .i64 (↑i : Int), .ptr 9 0, .pnil, .lit .i64 (110 : Int)], [.ro encLook [PUnit.unit], .own [.c (.sli 2 (.c 0) 1 (.v 4) (some (.v 4))), .c (.int .i64 c)] 70, .own [.a (encInt IntKind.u32) 4 l] 35, .many encTk xs 68, .ro encK p.1, .ro (encInt IntKind.i64) p.3, .vec (encInt IntKind.u32) lw 35, .vec (encP 3) (List.range m) 30, .vec encRf rs 48, .own [.c (.lit .i64 (0 : Int)), .c (.int .i64 (p.1.getD (↑i : Int).toNat { at' := (0 : Int), n := (0 : Int), rounds := (0 : Int) }).n), .c (.int .i64 (p.1.getD (↑i : Int).toNat { at' := (0 : Int), n := (0 : Int), rounds := (0 : Int) }).rounds)] 44]))

 (.br (decide ((8 : Int) < (p.1.getD (↑i : Int).toNat { at' := (0 : Int), n := (0 : Int), rounds := (0 : Int) }).n))

 (.ret (.normal, [.sli 4 (.c 0) 3 (.v p.1.length) (some (.v p.2)), .sli 5 (.c 0) 1 (.v p.3.length) (some (.v p.4)), .ptr 1 0, .sli 6 (.c 0) 1 (.v 4) none, .sli 7 (.c 0) 1 (.v m) none, .sli 8 (.c 0) 7 (.v m) none, .int .i64 (↑i : Int), .ptr 9 0, .pnil, .lit .i64 (110 : Int)], [.ro encLook [PUnit.unit], .own [.c (.sli 2 (.c 0) 1 (.v 4) (some (.v 4))), .c (.int .i64 c)] 70, .own [.a (encInt IntKind.u32) 4 l] 35, .many encTk xs 68, .ro encK p.1, .ro (encInt IntKind.i64) p.3, .vec (encInt IntKind.u32) lw 35, .vec (encP 3) (List.range m) 30, .vec encRf rs 48, .own [.c (.lit .i64 (0 : Int)), .c (.int .i64 (p.1.getD (↑i : Int).toNat { at' := (0 : Int), n := (0 : Int), rounds := (0 : Int) }).n), .c (.int .i64 (p.1.getD (↑i : Int).toNat { at' := (0 : Int), n := (0 : Int), rounds := (0 : Int) }).rounds)] 44]))

 (.ret (.normal, [.sli 4 (.c 0) 3 (.v p.1.length) (some (.v p.2)), .sli 5 (.c 0) 1 (.v p.3.length) (some (.v p.4)), .ptr 1 0, .sli 6 (.c 0) 1 (.v 4) none, .sli 7 (.c 0) 1 (.v m) none, .sli 8 (.c 0) 7 (.v m) none, .int .i64 (↑i : Int), .ptr 9 0, .ptr 10 0, .lit .i64 (0 : Int)], [.ro encLook [PUnit.unit], .own [.c (.sli 2 (.c 0) 1 (.v 4) (some (.v 4))), .c (.int .i64 c)] 70, .own [.a (encInt IntKind.u32) 4 l] 35, .many encTk xs 68, .ro encK p.1, .ro (encInt IntKind.i64) p.3, .vec (encInt IntKind.u32) lw 35, .vec (encP 3) (List.range m) 30, .vec encRf rs 48, .own [.c (.lit .i64 (0 : Int)), .c (.int .i64 (p.1.getD (↑i : Int).toNat { at' := (0 : Int), n := (0 : Int), rounds := (0 : Int) }).n), .c (.int .i64 (p.1.getD (↑i : Int).toNat { at' := (0 : Int), n := (0 : Int), rounds := (0 : Int) }).rounds)] 44, .own [.c (.lit .i64 (0 : Int)), .c (.int .i64 (p.1.getD (↑i : Int).toNat { at' := (0 : Int), n := (0 : Int), rounds := (0 : Int) }).n), .c (.int .i64 (imin (imax (p.1.getD (↑i : Int).toNat { at' := (0 : Int), n := (0 : Int), rounds := (0 : Int) }).rounds (0 : Int)) (1000 : Int))), .c (.lit .i64 (0 : Int)), .c (.lit .i64 (0 : Int)), .c (.lit .i64 (0 : Int))] 68]))))

 (.br (decide ((p.1.getD (↑i : Int).toNat { at' := (0 : Int), n := (0 : Int), rounds := (0 : Int) }).n < (1 : Int)))

 (.ret (.normal, [.sli 4 (.c 0) 3 (.v p.1.length) (some (.v p.2)), .sli 5 (.c 0) 1 (.v p.3.length) (some (.v p.4)), .ptr 1 0, .sli 6 (.c 0) 1 (.v 4) none, .sli 7 (.c 0) 1 (.v m) none, .sli 8 (.c 0) 7 (.v m) none, .int .i64 (↑i : Int), .ptr 9 0, .pnil, .lit .i64 (110 : Int)], [.ro encLook [PUnit.unit], .own [.c (.sli 2 (.c 0) 1 (.v 4) (some (.v 4))), .c (.int .i64 c)] 70, .own [.a (encInt IntKind.u32) 4 l] 35, .many encTk xs 68, .ro encK p.1, .ro (encInt IntKind.i64) p.3, .vec (encInt IntKind.u32) lw 35, .vec (encP 3) (List.range m) 30, .vec encRf rs 48, .own [.c (.int .i64 (p.1.getD (↑i : Int).toNat { at' := (0 : Int), n := (0 : Int), rounds := (0 : Int) }).at'), .c (.int .i64 (p.1.getD (↑i : Int).toNat { at' := (0 : Int), n := (0 : Int), rounds := (0 : Int) }).n), .c (.int .i64 (p.1.getD (↑i : Int).toNat { at' := (0 : Int), n := (0 : Int), rounds := (0 : Int) }).rounds)] 44]))

 (.br (decide ((8 : Int) < (p.1.getD (↑i : Int).toNat { at' := (0 : Int), n := (0 : Int), rounds := (0 : Int) }).n))

 (.ret (.normal, [.sli 4 (.c 0) 3 (.v p.1.length) (some (.v p.2)), .sli 5 (.c 0) 1 (.v p.3.length) (some (.v p.4)), .ptr 1 0, .sli 6 (.c 0) 1 (.v 4) none, .sli 7 (.c 0) 1 (.v m) none, .sli 8 (.c 0) 7 (.v m) none, .int .i64 (↑i : Int), .ptr 9 0, .pnil, .lit .i64 (110 : Int)], [.ro encLook [PUnit.unit], .own [.c (.sli 2 (.c 0) 1 (.v 4) (some (.v 4))), .c (.int .i64 c)] 70, .own [.a (encInt IntKind.u32) 4 l] 35, .many encTk xs 68, .ro encK p.1, .ro (encInt IntKind.i64) p.3, .vec (encInt IntKind.u32) lw 35, .vec (encP 3) (List.range m) 30, .vec encRf rs 48, .own [.c (.int .i64 (p.1.getD (↑i : Int).toNat { at' := (0 : Int), n := (0 : Int), rounds := (0 : Int) }).at'), .c (.int .i64 (p.1.getD (↑i : Int).toNat { at' := (0 : Int), n := (0 : Int), rounds := (0 : Int) }).n), .c (.int .i64 (p.1.getD (↑i : Int).toNat { at' := (0 : Int), n := (0 : Int), rounds := (0 : Int) }).rounds)] 44]))

 (.ret (.normal, [.sli 4 (.c 0) 3 (.v p.1.length) (some (.v p.2)), .sli 5 (.c 0) 1 (.v p.3.length) (some (.v p.4)), .ptr 1 0, .sli 6 (.c 0) 1 (.v 4) none, .sli 7 (.c 0) 1 (.v m) none, .sli 8 (.c 0) 7 (.v m) none, .int .i64 (↑i : Int), .ptr 9 0, .ptr 10 0, .lit .i64 (0 : Int)], [.ro encLook [PUnit.unit], .own [.c (.sli 2 (.c 0) 1 (.v 4) (some (.v 4))), .c (.int .i64 c)] 70, .own [.a (encInt IntKind.u32) 4 l] 35, .many encTk xs 68, .ro encK p.1, .ro (encInt IntKind.i64) p.3, .vec (encInt IntKind.u32) lw 35, .vec (encP 3) (List.range m) 30, .vec encRf rs 48, .own [.c (.int .i64 (p.1.getD (↑i : Int).toNat { at' := (0 : Int), n := (0 : Int), rounds := (0 : Int) }).at'), .c (.int .i64 (p.1.getD (↑i : Int).toNat { at' := (0 : Int), n := (0 : Int), rounds := (0 : Int) }).n), .c (.int .i64 (p.1.getD (↑i : Int).toNat { at' := (0 : Int), n := (0 : Int), rounds := (0 : Int) }).rounds)] 44, .own [.c (.int .i64 (p.1.getD (↑i : Int).toNat { at' := (0 : Int), n := (0 : Int), rounds := (0 : Int) }).at'), .c (.int .i64 (p.1.getD (↑i : Int).toNat { at' := (0 : Int), n := (0 : Int), rounds := (0 : Int) }).n), .c (.int .i64 (imin (imax (p.1.getD (↑i : Int).toNat { at' := (0 : Int), n := (0 : Int), rounds := (0 : Int) }).rounds (0 : Int)) (1000 : Int))), .c (.lit .i64 (0 : Int)), .c (.lit .i64 (0 : Int)), .c (.lit .i64 (0 : Int))] 68])))))))))) := by kernel_rfl
set_option maxRecDepth 100000 in
theorem x_inc {p : InP} {l : List Int} {c : Int} {xs : List Tk} {m : Nat} {rs : List Rf} {lw : List Int} {i : Nat} : (exec cfgM 100 inc9 (fr 209 n9b (v9 p m ++ [.int .i64 (i : Nat)])) (s9 p l c xs m rs lw)).bind (canonK 6 [(0,0)] 209 n9b) =
 

 (.need (inR .i64 ((↑i : Int) + (1 : Int)))

 (.ret (.normal, [.sli 4 (.c 0) 3 (.v p.1.length) (some (.v p.2)), .sli 5 (.c 0) 1 (.v p.3.length) (some (.v p.4)), .ptr 1 0, .sli 6 (.c 0) 1 (.v 4) none, .sli 7 (.c 0) 1 (.v m) none, .sli 8 (.c 0) 7 (.v m) none, .int .i64 ((↑i : Int) + (1 : Int))], [.ro encLook [PUnit.unit], .own [.c (.sli 2 (.c 0) 1 (.v 4) (some (.v 4))), .c (.int .i64 c)] 70, .own [.a (encInt IntKind.u32) 4 l] 35, .many encTk xs 68, .ro encK p.1, .ro (encInt IntKind.i64) p.3, .vec (encInt IntKind.u32) lw 35, .vec (encP 3) (List.range m) 30, .vec encRf rs 48]))) := by kernel_rfl
set_option maxRecDepth 100000 in
theorem x_regb {p : InP} {l : List Int} {c : Int} {xs : List Tk} {m : Nat} {rs : List Rf} {lw : List Int} : (exec cfgM 100 reg9b (fr 209 n9b ([.bad] ++ v9b p m 4 ++ [.bad])) (s9b p l c xs m rs lw)).bind (canonK 5 [(0,0)] 209 n9e) =
 

 (.ret (.normal, [.sli 4 (.c 0) 1 (.v p.3.length) (some (.v p.4)), .ptr 1 0, .sli 5 (.c 0) 1 (.v 4) none, .sli 6 (.c 0) 1 (.v m) none, .sli 7 (.c 0) 7 (.v m) none, .lit .i64 (0 : Int)], [.ro encLook [PUnit.unit], .own [.c (.sli 2 (.c 0) 1 (.v 4) (some (.v 4))), .c (.int .i64 c)] 70, .own [.a (encInt IntKind.u32) 4 l] 35, .many encTk xs 68, .ro (encInt IntKind.i64) p.3, .vec (encInt IntKind.u32) lw 35, .vec (encP 3) (List.range m) 30, .vec encRf rs 48])) := by kernel_rfl
set_option maxRecDepth 100000 in
theorem x_tmb {p : InP} {l : List Int} {c : Int} {xs : List Tk} {m : Nat} {rs : List Rf} {lw : List Int} {i : Nat} : (exec cfgM 100 tm9b (fr 209 n9e (v9b p m lw.length ++ [.int .i64 (i : Nat)])) (s9b p l c xs m rs lw)).bind (canonK 5 [(0,0)] 209 n9e) =
 

 (.br (decide ((↑i : Int) < (↑p.3.length : Int)))

 (.br (decide ((↑i : Int) < (120 : Int)))

 (.ret (.normal, [.sli 4 (.c 0) 1 (.v p.3.length) (some (.v p.4)), .ptr 1 0, .sli 5 (.c 0) 1 (.v lw.length) none, .sli 6 (.c 0) 1 (.v m) none, .sli 7 (.c 0) 7 (.v m) none, .int .i64 (↑i : Int)], [.ro encLook [PUnit.unit], .own [.c (.sli 2 (.c 0) 1 (.v 4) (some (.v 4))), .c (.int .i64 c)] 70, .own [.a (encInt IntKind.u32) 4 l] 35, .many encTk xs 68, .ro (encInt IntKind.i64) p.3, .vec (encInt IntKind.u32) lw 35, .vec (encP 3) (List.range m) 30, .vec encRf rs 48]))

 (.ret (.exit 2, [.sli 4 (.c 0) 1 (.v p.3.length) (some (.v p.4)), .ptr 1 0, .sli 5 (.c 0) 1 (.v lw.length) none, .sli 6 (.c 0) 1 (.v m) none, .sli 7 (.c 0) 7 (.v m) none, .int .i64 (↑i : Int)], [.ro encLook [PUnit.unit], .own [.c (.sli 2 (.c 0) 1 (.v 4) (some (.v 4))), .c (.int .i64 c)] 70, .own [.a (encInt IntKind.u32) 4 l] 35, .many encTk xs 68, .ro (encInt IntKind.i64) p.3, .vec (encInt IntKind.u32) lw 35, .vec (encP 3) (List.range m) 30, .vec encRf rs 48])))

 (.ret (.exit 2, [.sli 4 (.c 0) 1 (.v p.3.length) (some (.v p.4)), .ptr 1 0, .sli 5 (.c 0) 1 (.v lw.length) none, .sli 6 (.c 0) 1 (.v m) none, .sli 7 (.c 0) 7 (.v m) none, .int .i64 (↑i : Int)], [.ro encLook [PUnit.unit], .own [.c (.sli 2 (.c 0) 1 (.v 4) (some (.v 4))), .c (.int .i64 c)] 70, .own [.a (encInt IntKind.u32) 4 l] 35, .many encTk xs 68, .ro (encInt IntKind.i64) p.3, .vec (encInt IntKind.u32) lw 35, .vec (encP 3) (List.range m) 30, .vec encRf rs 48]))) := by kernel_rfl
set_option maxRecDepth 100000 in
theorem x_incb {p : InP} {l : List Int} {c : Int} {xs : List Tk} {m : Nat} {rs : List Rf} {lw : List Int} {i : Nat} : (exec cfgM 100 inc9b (fr 209 n9e (v9b p m lw.length ++ [.int .i64 (i : Nat)])) (s9b p l c xs m rs lw)).bind (canonK 5 [(0,0)] 209 n9e) =
 

 (.need (inR .i64 ((↑i : Int) + (1 : Int)))

 (.ret (.normal, [.sli 4 (.c 0) 1 (.v p.3.length) (some (.v p.4)), .ptr 1 0, .sli 5 (.c 0) 1 (.v lw.length) none, .sli 6 (.c 0) 1 (.v m) none, .sli 7 (.c 0) 7 (.v m) none, .int .i64 ((↑i : Int) + (1 : Int))], [.ro encLook [PUnit.unit], .own [.c (.sli 2 (.c 0) 1 (.v 4) (some (.v 4))), .c (.int .i64 c)] 70, .own [.a (encInt IntKind.u32) 4 l] 35, .many encTk xs 68, .ro (encInt IntKind.i64) p.3, .vec (encInt IntKind.u32) lw 35, .vec (encP 3) (List.range m) 30, .vec encRf rs 48]))) := by kernel_rfl
set_option maxRecDepth 100000 in
theorem x_endb {p : InP} {l : List Int} {c : Int} {xs : List Tk} {m : Nat} {rs : List Rf} {lw : List Int} {i : Nat} : (exec cfgM 100 end9 (fr 209 n9e (v9b p m lw.length ++ [.int .i64 (i : Nat)])) (s9b p l c xs m rs lw)).bind (canonK 5 [(0,0)] 209 [6]) =
 

 (.ret (.ret, [.bl true], [.ro encLook [PUnit.unit], .own [.c (.sli 2 (.c 0) 1 (.v 4) (some (.v 4))), .c (.int .i64 c)] 70, .own [.a (encInt IntKind.u32) 4 l] 35, .many encTk xs 68, .ro (encInt IntKind.i64) p.3])) := by kernel_rfl
set_option maxRecDepth 100000 in
theorem x_k {p : InP} {l : List Int} {c : Int} {xs : List Tk} {m : Nat} {rs : List Rf} {lw : List Int} {i : Nat} : (execN cfgM 100 2 bb9b (fr 209 n9e (v9b p m lw.length ++ [.int .i64 (i : Nat)])) (s9b p l c xs m rs lw)).bind (canonK 5 [(0,0)] 209 n9f) =
 

 (.need (decide ((0 : Int) ≤ (↑i : Int)) && decide ((↑i : Int).toNat < p.3.length))

 (.need (decide ((↑i : Int).toNat < p.3.length))

 (.br (decide (p.3.getD (↑i : Int).toNat (0 : Int) < (0 : Int)))

 (.ret (.exit 3, [.sli 4 (.c 0) 1 (.v p.3.length) (some (.v p.4)), .ptr 1 0, .sli 5 (.c 0) 1 (.v lw.length) none, .sli 6 (.c 0) 1 (.v m) none, .sli 7 (.c 0) 7 (.v m) none, .int .i64 (↑i : Int), .int .i64 (p.3.getD (↑i : Int).toNat (0 : Int))], [.ro encLook [PUnit.unit], .own [.c (.sli 2 (.c 0) 1 (.v 4) (some (.v 4))), .c (.int .i64 c)] 70, .own [.a (encInt IntKind.u32) 4 l] 35, .many encTk xs 68, .ro (encInt IntKind.i64) p.3, .vec (encInt IntKind.u32) lw 35, .vec (encP 3) (List.range m) 30, .vec encRf rs 48]))

 (.br (decide ((↑m : Int) ≤ p.3.getD (↑i : Int).toNat (0 : Int)))

 (.ret (.exit 3, [.sli 4 (.c 0) 1 (.v p.3.length) (some (.v p.4)), .ptr 1 0, .sli 5 (.c 0) 1 (.v lw.length) none, .sli 6 (.c 0) 1 (.v m) none, .sli 7 (.c 0) 7 (.v m) none, .int .i64 (↑i : Int), .int .i64 (p.3.getD (↑i : Int).toNat (0 : Int))], [.ro encLook [PUnit.unit], .own [.c (.sli 2 (.c 0) 1 (.v 4) (some (.v 4))), .c (.int .i64 c)] 70, .own [.a (encInt IntKind.u32) 4 l] 35, .many encTk xs 68, .ro (encInt IntKind.i64) p.3, .vec (encInt IntKind.u32) lw 35, .vec (encP 3) (List.range m) 30, .vec encRf rs 48]))

 (.need (decide ((0 : Int) ≤ p.3.getD (↑i : Int).toNat (0 : Int)) && decide ((p.3.getD (↑i : Int).toNat (0 : Int)).toNat < m))

 (.need (decide ((p.3.getD (↑i : Int).toNat (0 : Int)).toNat < rs.length))

 (.br ((rs.getD (p.3.getD (↑i : Int).toNat (0 : Int)).toNat { at' := (0 : Int), n := (0 : Int), rounds := (0 : Int), next := 0, came := (0 : Int), passed := (0 : Int), done := false }).done)

 (.ret (.exit 3, [.sli 4 (.c 0) 1 (.v p.3.length) (some (.v p.4)), .ptr 1 0, .sli 5 (.c 0) 1 (.v lw.length) none, .sli 6 (.c 0) 1 (.v m) none, .sli 7 (.c 0) 7 (.v m) none, .int .i64 (↑i : Int), .int .i64 (p.3.getD (↑i : Int).toNat (0 : Int))], [.ro encLook [PUnit.unit], .own [.c (.sli 2 (.c 0) 1 (.v 4) (some (.v 4))), .c (.int .i64 c)] 70, .own [.a (encInt IntKind.u32) 4 l] 35, .many encTk xs 68, .ro (encInt IntKind.i64) p.3, .vec (encInt IntKind.u32) lw 35, .vec (encP 3) (List.range m) 30, .vec encRf rs 48]))

 (.ret (.normal, [.sli 4 (.c 0) 1 (.v p.3.length) (some (.v p.4)), .ptr 1 0, .sli 5 (.c 0) 1 (.v lw.length) none, .sli 6 (.c 0) 1 (.v m) none, .sli 7 (.c 0) 7 (.v m) none, .int .i64 (↑i : Int), .int .i64 (p.3.getD (↑i : Int).toNat (0 : Int))], [.ro encLook [PUnit.unit], .own [.c (.sli 2 (.c 0) 1 (.v 4) (some (.v 4))), .c (.int .i64 c)] 70, .own [.a (encInt IntKind.u32) 4 l] 35, .many encTk xs 68, .ro (encInt IntKind.i64) p.3, .vec (encInt IntKind.u32) lw 35, .vec (encP 3) (List.range m) 30, .vec encRf rs 48]))))))))) := by kernel_rfl
set_option maxRecDepth 100000 in
theorem x_nil {p : InP} {l : List Int} {c : Int} {xs : List Tk} {m : Nat} {rs : List Rf} {lw : List Int} {i : Nat} {q : K9} : (exec cfgM 100 (restC 3 bb9) (fr 209 n9c (v9 p m ++ [.int .i64 (i : Nat), .ptr 9 0, .pnil, .lit .i64 110])) (s9 p l c xs m rs lw ++ [kB q])).bind (canonK 6 [(0,0)] 209 n9b) =
 

 (.br (decide ((1 : Int) ≤ q.2))

 (.br (!false == decide (q.2 ≤ (8 : Int)))

 (.ret (.ret, [.sli 4 (.c 0) 3 (.v p.1.length) (some (.v p.2)), .sli 5 (.c 0) 1 (.v p.3.length) (some (.v p.4)), .ptr 1 0, .sli 6 (.c 0) 1 (.v 4) none, .sli 7 (.c 0) 1 (.v m) none, .sli 8 (.c 0) 7 (.v m) none, .int .i64 (↑i : Int)], [.ro encLook [PUnit.unit], .own [.c (.sli 2 (.c 0) 1 (.v 4) (some (.v 4))), .c (.int .i64 c)] 70, .own [.a (encInt IntKind.u32) 4 l] 35, .many encTk xs 68, .ro encK p.1, .ro (encInt IntKind.i64) p.3, .vec (encInt IntKind.u32) lw 35, .vec (encP 3) (List.range m) 30, .vec encRf rs 48]))

 (.ret (.normal, [.sli 4 (.c 0) 3 (.v p.1.length) (some (.v p.2)), .sli 5 (.c 0) 1 (.v p.3.length) (some (.v p.4)), .ptr 1 0, .sli 6 (.c 0) 1 (.v 4) none, .sli 7 (.c 0) 1 (.v m) none, .sli 8 (.c 0) 7 (.v m) none, .int .i64 (↑i : Int)], [.ro encLook [PUnit.unit], .own [.c (.sli 2 (.c 0) 1 (.v 4) (some (.v 4))), .c (.int .i64 c)] 70, .own [.a (encInt IntKind.u32) 4 l] 35, .many encTk xs 68, .ro encK p.1, .ro (encInt IntKind.i64) p.3, .vec (encInt IntKind.u32) lw 35, .vec (encP 3) (List.range m) 30, .vec encRf rs 48])))

 (.ret (.normal, [.sli 4 (.c 0) 3 (.v p.1.length) (some (.v p.2)), .sli 5 (.c 0) 1 (.v p.3.length) (some (.v p.4)), .ptr 1 0, .sli 6 (.c 0) 1 (.v 4) none, .sli 7 (.c 0) 1 (.v m) none, .sli 8 (.c 0) 7 (.v m) none, .int .i64 (↑i : Int)], [.ro encLook [PUnit.unit], .own [.c (.sli 2 (.c 0) 1 (.v 4) (some (.v 4))), .c (.int .i64 c)] 70, .own [.a (encInt IntKind.u32) 4 l] 35, .many encTk xs 68, .ro encK p.1, .ro (encInt IntKind.i64) p.3, .vec (encInt IntKind.u32) lw 35, .vec (encP 3) (List.range m) 30, .vec encRf rs 48]))) := by kernel_rfl
set_option maxRecDepth 100000 in
theorem x_app {p : InP} {l : List Int} {c : Int} {xs : List Tk} {m : Nat} {rs : List Rf} {lw : List Int} {i k : Nat} {q : K9} : (exec cfgM 100 (restC 3 bb9) (fr 209 n9c (v9 p m ++ [.int .i64 (i : Nat), .ptr 9 0, .pto 3 k 0, .lit .i64 0])) (s9 p l c xs m rs lw ++ [kB q, .gone])).bind (canonK 6 [(0,0)] 209 n9b) =
 

 (.br (decide ((1 : Int) ≤ q.2))

 (.br (!true == decide (q.2 ≤ (8 : Int)))

 (.ret (.ret, [.sli 4 (.c 0) 3 (.v p.1.length) (some (.v p.2)), .sli 5 (.c 0) 1 (.v p.3.length) (some (.v p.4)), .ptr 1 0, .sli 6 (.c 0) 1 (.v 4) none, .sli 7 (.c 0) 1 (.v m) none, .sli 8 (.c 0) 7 (.v m) none, .int .i64 (↑i : Int)], [.ro encLook [PUnit.unit], .own [.c (.sli 2 (.c 0) 1 (.v 4) (some (.v 4))), .c (.int .i64 c)] 70, .own [.a (encInt IntKind.u32) 4 l] 35, .many encTk xs 68, .ro encK p.1, .ro (encInt IntKind.i64) p.3, .vec (encInt IntKind.u32) lw 35, .vec (encP 3) (List.range m) 30, .vec encRf rs 48]))

 (.need (true)

 (.need (decide (m = (List.range m).length))

 (.need (roomy ((List.range m).length + 1) 8)

 (.br (decide (q.3 < (0 : Int)))

 (.need (true)

 (.need (decide (m = rs.length))

 (.need (roomy (rs.length + 1) 56)
 (.eq (T.ret (SVal.int IntKind.i64 q.1) = T.ret (SVal.int IntKind.i64 q.1))
 (.eq (T.ret (SVal.int IntKind.i64 q.1) = T.ret (SVal.int IntKind.i64 q.1))
 (.eq (T.ret (SVal.int IntKind.i64 q.1) = T.ret (SVal.int IntKind.i64 q.1))
 (.eq (T.ret (SVal.int IntKind.i64 q.2) = T.ret (SVal.int IntKind.i64 q.2))
 (.eq (T.ret (SVal.int IntKind.i64 q.2) = T.ret (SVal.int IntKind.i64 q.2))
 (.eq (T.ret (SVal.int IntKind.i64 q.2) = T.ret (SVal.int IntKind.i64 q.2))
 (.eq (T.ret (SVal.int IntKind.i64 q.3) = T.ret (SVal.int IntKind.i64 q.3))
 (.eq (T.ret (SVal.int IntKind.i64 q.3) = T.ret (SVal.int IntKind.i64 q.3))
 (.eq (T.ret (SVal.int IntKind.i64 q.3) = T.ret (SVal.int IntKind.i64 q.3))

 (.ret (.normal, [.sli 4 (.c 0) 3 (.v p.1.length) (some (.v p.2)), .sli 5 (.c 0) 1 (.v p.3.length) (some (.v p.4)), .ptr 1 0, .sli 6 (.c 0) 1 (.v 4) none, .sli 7 (.c 0) 1 (.v (m + 1)) none, .sli 8 (.c 0) 7 (.v (m + 1)) none, .int .i64 (↑i : Int)], [.ro encLook [PUnit.unit], .own [.c (.sli 2 (.c 0) 1 (.v 4) (some (.v 4))), .c (.int .i64 c)] 70, .own [.a (encInt IntKind.u32) 4 l] 35, .many encTk xs 68, .ro encK p.1, .ro (encInt IntKind.i64) p.3, .vec (encInt IntKind.u32) lw 35, .vec (encP 3) (List.range m ++ [k]) 30, .vec encRf (rs ++ [{ at' := q.1, n := q.2, rounds := (0 : Int), next := 1, came := (0 : Int), passed := (0 : Int), done := false }]) 48]))))))))))))))

 (.br (decide ((1000 : Int) < q.3))

 (.need (true)

 (.need (decide (m = rs.length))

 (.need (roomy (rs.length + 1) 56)
 (.eq (T.ret (SVal.int IntKind.i64 q.1) = T.ret (SVal.int IntKind.i64 q.1))
 (.eq (T.ret (SVal.int IntKind.i64 q.1) = T.ret (SVal.int IntKind.i64 q.1))
 (.eq (T.ret (SVal.int IntKind.i64 q.1) = T.ret (SVal.int IntKind.i64 q.1))
 (.eq (T.ret (SVal.int IntKind.i64 q.2) = T.ret (SVal.int IntKind.i64 q.2))
 (.eq (T.ret (SVal.int IntKind.i64 q.2) = T.ret (SVal.int IntKind.i64 q.2))
 (.eq (T.ret (SVal.int IntKind.i64 q.2) = T.ret (SVal.int IntKind.i64 q.2))
 (.eq (T.ret (SVal.int IntKind.i64 q.3) = T.ret (SVal.int IntKind.i64 q.3))
 (.eq (T.ret (SVal.int IntKind.i64 q.3) = T.ret (SVal.int IntKind.i64 q.3))
 (.eq (T.ret (SVal.int IntKind.i64 q.3) = T.ret (SVal.int IntKind.i64 q.3))

 (.ret (.normal, [.sli 4 (.c 0) 3 (.v p.1.length) (some (.v p.2)), .sli 5 (.c 0) 1 (.v p.3.length) (some (.v p.4)), .ptr 1 0, .sli 6 (.c 0) 1 (.v 4) none, .sli 7 (.c 0) 1 (.v (m + 1)) none, .sli 8 (.c 0) 7 (.v (m + 1)) none, .int .i64 (↑i : Int)], [.ro encLook [PUnit.unit], .own [.c (.sli 2 (.c 0) 1 (.v 4) (some (.v 4))), .c (.int .i64 c)] 70, .own [.a (encInt IntKind.u32) 4 l] 35, .many encTk xs 68, .ro encK p.1, .ro (encInt IntKind.i64) p.3, .vec (encInt IntKind.u32) lw 35, .vec (encP 3) (List.range m ++ [k]) 30, .vec encRf (rs ++ [{ at' := q.1, n := q.2, rounds := (1000 : Int), next := 1, came := (0 : Int), passed := (0 : Int), done := false }]) 48]))))))))))))))

 (.need (true)

 (.need (decide (m = rs.length))

 (.need (roomy (rs.length + 1) 56)
 (.eq (T.ret (SVal.int IntKind.i64 q.1) = T.ret (SVal.int IntKind.i64 q.1))
 (.eq (T.ret (SVal.int IntKind.i64 q.1) = T.ret (SVal.int IntKind.i64 q.1))
 (.eq (T.ret (SVal.int IntKind.i64 q.1) = T.ret (SVal.int IntKind.i64 q.1))
 (.eq (T.ret (SVal.int IntKind.i64 q.2) = T.ret (SVal.int IntKind.i64 q.2))
 (.eq (T.ret (SVal.int IntKind.i64 q.2) = T.ret (SVal.int IntKind.i64 q.2))
 (.eq (T.ret (SVal.int IntKind.i64 q.2) = T.ret (SVal.int IntKind.i64 q.2))
 (.eq (T.ret (SVal.int IntKind.i64 q.3) = T.ret (SVal.int IntKind.i64 q.3))
 (.eq (T.ret (SVal.int IntKind.i64 q.3) = T.ret (SVal.int IntKind.i64 q.3))
 (.eq (T.ret (SVal.int IntKind.i64 q.3) = T.ret (SVal.int IntKind.i64 q.3))

 (.ret (.normal, [.sli 4 (.c 0) 3 (.v p.1.length) (some (.v p.2)), .sli 5 (.c 0) 1 (.v p.3.length) (some (.v p.4)), .ptr 1 0, .sli 6 (.c 0) 1 (.v 4) none, .sli 7 (.c 0) 1 (.v (m + 1)) none, .sli 8 (.c 0) 7 (.v (m + 1)) none, .int .i64 (↑i : Int)], [.ro encLook [PUnit.unit], .own [.c (.sli 2 (.c 0) 1 (.v 4) (some (.v 4))), .c (.int .i64 c)] 70, .own [.a (encInt IntKind.u32) 4 l] 35, .many encTk xs 68, .ro encK p.1, .ro (encInt IntKind.i64) p.3, .vec (encInt IntKind.u32) lw 35, .vec (encP 3) (List.range m ++ [k]) 30, .vec encRf (rs ++ [{ at' := q.1, n := q.2, rounds := q.3, next := 1, came := (0 : Int), passed := (0 : Int), done := false }]) 48]))))))))))))))))))))

 (.ret (.ret, [.sli 4 (.c 0) 3 (.v p.1.length) (some (.v p.2)), .sli 5 (.c 0) 1 (.v p.3.length) (some (.v p.4)), .ptr 1 0, .sli 6 (.c 0) 1 (.v 4) none, .sli 7 (.c 0) 1 (.v m) none, .sli 8 (.c 0) 7 (.v m) none, .int .i64 (↑i : Int)], [.ro encLook [PUnit.unit], .own [.c (.sli 2 (.c 0) 1 (.v 4) (some (.v 4))), .c (.int .i64 c)] 70, .own [.a (encInt IntKind.u32) 4 l] 35, .many encTk xs 68, .ro encK p.1, .ro (encInt IntKind.i64) p.3, .vec (encInt IntKind.u32) lw 35, .vec (encP 3) (List.range m) 30, .vec encRf rs 48]))) := by kernel_rfl
end Go.Proofs.YtafipmkobdhigaaDoor

namespace Go.Proofs.YtafipmkobdhigaaDoor
open Go Go.Proofs.YtafipmkobdhigaaDoor.Sx
set_option linter.unusedVariables false
set_option maxRecDepth 100000 in
theorem x_ref1 {p : InP} {l : List Int} {c : Int} {xs : List Tk} {m : Nat} {rs : List Rf} {lw : List Int} {r : Rf} : (exec cfgM 100 b14 ([rfA r (.lit .i64 1), .sli 5 (.c 0) 1 (.v lw.length) none] ++ List.replicate 99 .bad) (s9b p l c xs m rs lw)).bind (canonK 8 [(0,0)] 101 [4, 5]) =
 

 (.br (r.6 == r.3)

 (.ret (.ret, [.ptr 8 0, .sli 5 (.c 0) 1 (.v lw.length) none], [.ro encLook [PUnit.unit], .own [.c (.sli 2 (.c 0) 1 (.v 4) (some (.v 4))), .c (.int .i64 c)] 70, .own [.a (encInt IntKind.u32) 4 l] 35, .many encTk xs 68, .ro (encInt IntKind.i64) p.3, .vec (encInt IntKind.u32) lw 35, .vec (encP 3) (List.range m) 30, .vec encRf rs 48, .own [.c (.int .i64 r.1), .c (.int .i64 r.2), .c (.int .i64 r.3), .c (.lit .i64 (1 : Int)), .c (.int .i64 r.5), .c (.int .i64 r.6), .c (.bl true)] 48]))

 (.br (decide (r.1 < (0 : Int)))

 (.ret (.ret, [.ptr 8 0, .sli 5 (.c 0) 1 (.v lw.length) none], [.ro encLook [PUnit.unit], .own [.c (.sli 2 (.c 0) 1 (.v 4) (some (.v 4))), .c (.int .i64 c)] 70, .own [.a (encInt IntKind.u32) 4 l] 35, .many encTk xs 68, .ro (encInt IntKind.i64) p.3, .vec (encInt IntKind.u32) lw 35, .vec (encP 3) (List.range m) 30, .vec encRf rs 48, .own [.c (.int .i64 r.1), .c (.int .i64 r.2), .c (.int .i64 r.3), .c (.lit .i64 (1 : Int)), .c (.int .i64 r.5), .c (.int .i64 r.6), .c (.bl true)] 48]))

 (.br (decide ((↑lw.length : Int) ≤ r.1))

 (.ret (.ret, [.ptr 8 0, .sli 5 (.c 0) 1 (.v lw.length) none], [.ro encLook [PUnit.unit], .own [.c (.sli 2 (.c 0) 1 (.v 4) (some (.v 4))), .c (.int .i64 c)] 70, .own [.a (encInt IntKind.u32) 4 l] 35, .many encTk xs 68, .ro (encInt IntKind.i64) p.3, .vec (encInt IntKind.u32) lw 35, .vec (encP 3) (List.range m) 30, .vec encRf rs 48, .own [.c (.int .i64 r.1), .c (.int .i64 r.2), .c (.int .i64 r.3), .c (.lit .i64 (1 : Int)), .c (.int .i64 r.5), .c (.int .i64 r.6), .c (.bl true)] 48]))

 (.need (decide (0 + lw.length ≤ lw.length))

 (.need (decide (0 + lw.length ≤ lw.length))

 (.need (roomy (List.take lw.length (List.drop 0 lw)).length 4)

 (.need (true)

 (.need (decide ((0 : Int) ≤ r.1) && decide (r.1.toNat < (List.take lw.length (List.drop 0 lw)).length))

 (.need (decide (r.1.toNat < (List.take lw.length (List.drop 0 lw)).length))

 (.need (decide ((0 : Int) ≤ r.1) && decide (r.1.toNat < (List.take lw.length (List.drop 0 lw)).length))

 (.need (decide (r.1.toNat < (List.take lw.length (List.drop 0 lw)).length))

 (.need (inR .i64 (r.5 + (1 : Int)))

 (.need (decide ((0 : Int) ≤ r.1) && decide (r.1.toNat < (List.take lw.length (List.drop 0 lw)).length))

 (.need (decide (r.1.toNat < ((List.take lw.length (List.drop 0 lw)).set r.1.toNat (IntKind.u32.wrap ((List.take lw.length (List.drop 0 lw)).getD r.1.toNat (0 : Int) + (1 : Int)))).length))

 (.br (((List.take lw.length (List.drop 0 lw)).set r.1.toNat (IntKind.u32.wrap ((List.take lw.length (List.drop 0 lw)).getD r.1.toNat (0 : Int) + (1 : Int)))).getD r.1.toNat (0 : Int) == IntKind.u32.wrap r.2)

 (.ret (.ret, [.ptr 8 0, .sli 9 (.c 0) 1 (.v (List.take lw.length (List.drop 0 lw)).length) none], [.ro encLook [PUnit.unit], .own [.c (.sli 2 (.c 0) 1 (.v 4) (some (.v 4))), .c (.int .i64 c)] 70, .own [.a (encInt IntKind.u32) 4 l] 35, .many encTk xs 68, .ro (encInt IntKind.i64) p.3, .vec (encInt IntKind.u32) lw 35, .vec (encP 3) (List.range m) 30, .vec encRf rs 48, .own [.c (.int .i64 r.1), .c (.int .i64 r.2), .c (.int .i64 r.3), .c (.lit .i64 (2 : Int)), .c (.int .i64 (r.5 + (1 : Int))), .c (.int .i64 r.6), .c (.sb (r.6 == r.3))] 48, .vec (encInt IntKind.u32) ((List.take lw.length (List.drop 0 lw)).set r.1.toNat (IntKind.u32.wrap ((List.take lw.length (List.drop 0 lw)).getD r.1.toNat (0 : Int) + (1 : Int)))) 35]))

 (.ret (.ret, [.ptr 8 0, .sli 9 (.c 0) 1 (.v (List.take lw.length (List.drop 0 lw)).length) none], [.ro encLook [PUnit.unit], .own [.c (.sli 2 (.c 0) 1 (.v 4) (some (.v 4))), .c (.int .i64 c)] 70, .own [.a (encInt IntKind.u32) 4 l] 35, .many encTk xs 68, .ro (encInt IntKind.i64) p.3, .vec (encInt IntKind.u32) lw 35, .vec (encP 3) (List.range m) 30, .vec encRf rs 48, .own [.c (.int .i64 r.1), .c (.int .i64 r.2), .c (.int .i64 r.3), .c (.lit .i64 (4 : Int)), .c (.int .i64 (r.5 + (1 : Int))), .c (.int .i64 r.6), .c (.sb (r.6 == r.3))] 48, .vec (encInt IntKind.u32) ((List.take lw.length (List.drop 0 lw)).set r.1.toNat (IntKind.u32.wrap ((List.take lw.length (List.drop 0 lw)).getD r.1.toNat (0 : Int) + (1 : Int)))) 35]))))))))))))))))) := by kernel_rfl
set_option maxRecDepth 100000 in
theorem x_ref2 {p : InP} {l : List Int} {c : Int} {xs : List Tk} {m : Nat} {rs : List Rf} {lw : List Int} {r : Rf} : (exec cfgM 100 b14 ([rfA r (.lit .i64 2), .sli 5 (.c 0) 1 (.v lw.length) none] ++ List.replicate 99 .bad) (s9b p l c xs m rs lw)).bind (canonK 8 [(0,0)] 101 [4, 5]) =
 

 (.br (r.6 == r.3)

 (.ret (.ret, [.ptr 8 0, .sli 5 (.c 0) 1 (.v lw.length) none], [.ro encLook [PUnit.unit], .own [.c (.sli 2 (.c 0) 1 (.v 4) (some (.v 4))), .c (.int .i64 c)] 70, .own [.a (encInt IntKind.u32) 4 l] 35, .many encTk xs 68, .ro (encInt IntKind.i64) p.3, .vec (encInt IntKind.u32) lw 35, .vec (encP 3) (List.range m) 30, .vec encRf rs 48, .own [.c (.int .i64 r.1), .c (.int .i64 r.2), .c (.int .i64 r.3), .c (.lit .i64 (2 : Int)), .c (.int .i64 r.5), .c (.int .i64 r.6), .c (.bl true)] 48]))

 (.br (decide (r.1 < (0 : Int)))

 (.ret (.ret, [.ptr 8 0, .sli 5 (.c 0) 1 (.v lw.length) none], [.ro encLook [PUnit.unit], .own [.c (.sli 2 (.c 0) 1 (.v 4) (some (.v 4))), .c (.int .i64 c)] 70, .own [.a (encInt IntKind.u32) 4 l] 35, .many encTk xs 68, .ro (encInt IntKind.i64) p.3, .vec (encInt IntKind.u32) lw 35, .vec (encP 3) (List.range m) 30, .vec encRf rs 48, .own [.c (.int .i64 r.1), .c (.int .i64 r.2), .c (.int .i64 r.3), .c (.lit .i64 (2 : Int)), .c (.int .i64 r.5), .c (.int .i64 r.6), .c (.bl true)] 48]))

 (.br (decide ((↑lw.length : Int) ≤ r.1))

 (.ret (.ret, [.ptr 8 0, .sli 5 (.c 0) 1 (.v lw.length) none], [.ro encLook [PUnit.unit], .own [.c (.sli 2 (.c 0) 1 (.v 4) (some (.v 4))), .c (.int .i64 c)] 70, .own [.a (encInt IntKind.u32) 4 l] 35, .many encTk xs 68, .ro (encInt IntKind.i64) p.3, .vec (encInt IntKind.u32) lw 35, .vec (encP 3) (List.range m) 30, .vec encRf rs 48, .own [.c (.int .i64 r.1), .c (.int .i64 r.2), .c (.int .i64 r.3), .c (.lit .i64 (2 : Int)), .c (.int .i64 r.5), .c (.int .i64 r.6), .c (.bl true)] 48]))

 (.need (decide (0 + lw.length ≤ lw.length))

 (.need (decide (0 + lw.length ≤ lw.length))

 (.need (roomy (List.take lw.length (List.drop 0 lw)).length 4)

 (.need (true)

 (.need (decide ((0 : Int) ≤ r.1) && decide (r.1.toNat < (List.take lw.length (List.drop 0 lw)).length))

 (.need (decide (r.1.toNat < (List.take lw.length (List.drop 0 lw)).length))

 (.ret (.ret, [.ptr 8 0, .sli 9 (.c 0) 1 (.v (List.take lw.length (List.drop 0 lw)).length) none], [.ro encLook [PUnit.unit], .own [.c (.sli 2 (.c 0) 1 (.v 4) (some (.v 4))), .c (.int .i64 c)] 70, .own [.a (encInt IntKind.u32) 4 l] 35, .many encTk xs 68, .ro (encInt IntKind.i64) p.3, .vec (encInt IntKind.u32) lw 35, .vec (encP 3) (List.range m) 30, .vec encRf rs 48, .own [.c (.int .i64 r.1), .c (.int .i64 r.2), .c (.int .i64 r.3), .c (.lit .i64 (3 : Int)), .c (.int .i64 r.5), .c (.int .i64 r.6), .c (.sb (r.6 == r.3))] 48, .vec (encInt IntKind.u32) ((List.take lw.length (List.drop 0 lw)).set r.1.toNat (0 : Int)) 35]))))))))))) := by kernel_rfl
set_option maxRecDepth 100000 in
theorem x_ref3 {p : InP} {l : List Int} {c : Int} {xs : List Tk} {m : Nat} {rs : List Rf} {lw : List Int} {r : Rf} : (exec cfgM 100 b14 ([rfA r (.lit .i64 3), .sli 5 (.c 0) 1 (.v lw.length) none] ++ List.replicate 99 .bad) (s9b p l c xs m rs lw)).bind (canonK 8 [(0,0)] 101 [4, 5]) =
 

 (.need (inR .i64 (r.1 + (1 : Int)))

 (.br (r.6 == r.3)

 (.ret (.ret, [.ptr 8 0, .sli 5 (.c 0) 1 (.v lw.length) none], [.ro encLook [PUnit.unit], .own [.c (.sli 2 (.c 0) 1 (.v 4) (some (.v 4))), .c (.int .i64 c)] 70, .own [.a (encInt IntKind.u32) 4 l] 35, .many encTk xs 68, .ro (encInt IntKind.i64) p.3, .vec (encInt IntKind.u32) lw 35, .vec (encP 3) (List.range m) 30, .vec encRf rs 48, .own [.c (.int .i64 r.1), .c (.int .i64 r.2), .c (.int .i64 r.3), .c (.lit .i64 (3 : Int)), .c (.int .i64 r.5), .c (.int .i64 r.6), .c (.bl true)] 48]))

 (.br (decide (r.1 + (1 : Int) < (0 : Int)))

 (.ret (.ret, [.ptr 8 0, .sli 5 (.c 0) 1 (.v lw.length) none], [.ro encLook [PUnit.unit], .own [.c (.sli 2 (.c 0) 1 (.v 4) (some (.v 4))), .c (.int .i64 c)] 70, .own [.a (encInt IntKind.u32) 4 l] 35, .many encTk xs 68, .ro (encInt IntKind.i64) p.3, .vec (encInt IntKind.u32) lw 35, .vec (encP 3) (List.range m) 30, .vec encRf rs 48, .own [.c (.int .i64 r.1), .c (.int .i64 r.2), .c (.int .i64 r.3), .c (.lit .i64 (3 : Int)), .c (.int .i64 r.5), .c (.int .i64 r.6), .c (.bl true)] 48]))

 (.br (decide ((↑lw.length : Int) ≤ r.1 + (1 : Int)))

 (.ret (.ret, [.ptr 8 0, .sli 5 (.c 0) 1 (.v lw.length) none], [.ro encLook [PUnit.unit], .own [.c (.sli 2 (.c 0) 1 (.v 4) (some (.v 4))), .c (.int .i64 c)] 70, .own [.a (encInt IntKind.u32) 4 l] 35, .many encTk xs 68, .ro (encInt IntKind.i64) p.3, .vec (encInt IntKind.u32) lw 35, .vec (encP 3) (List.range m) 30, .vec encRf rs 48, .own [.c (.int .i64 r.1), .c (.int .i64 r.2), .c (.int .i64 r.3), .c (.lit .i64 (3 : Int)), .c (.int .i64 r.5), .c (.int .i64 r.6), .c (.bl true)] 48]))

 (.need (decide (0 + lw.length ≤ lw.length))

 (.need (decide (0 + lw.length ≤ lw.length))

 (.need (roomy (List.take lw.length (List.drop 0 lw)).length 4)

 (.need (true)

 (.need (decide ((0 : Int) ≤ r.1 + (1 : Int)) && decide ((r.1 + (1 : Int)).toNat < (List.take lw.length (List.drop 0 lw)).length))

 (.need (decide ((r.1 + (1 : Int)).toNat < (List.take lw.length (List.drop 0 lw)).length))

 (.need (inR .i64 (r.6 + (1 : Int)))

 (.ret (.ret, [.ptr 8 0, .sli 9 (.c 0) 1 (.v (List.take lw.length (List.drop 0 lw)).length) none], [.ro encLook [PUnit.unit], .own [.c (.sli 2 (.c 0) 1 (.v 4) (some (.v 4))), .c (.int .i64 c)] 70, .own [.a (encInt IntKind.u32) 4 l] 35, .many encTk xs 68, .ro (encInt IntKind.i64) p.3, .vec (encInt IntKind.u32) lw 35, .vec (encP 3) (List.range m) 30, .vec encRf rs 48, .own [.c (.int .i64 r.1), .c (.int .i64 r.2), .c (.int .i64 r.3), .c (.lit .i64 (1 : Int)), .c (.int .i64 r.5), .c (.int .i64 (r.6 + (1 : Int))), .c (.sb (r.6 + (1 : Int) == r.3))] 48, .vec (encInt IntKind.u32) ((List.take lw.length (List.drop 0 lw)).set (r.1 + (1 : Int)).toNat (IntKind.u32.wrap (r.5.tmod (2 : Int)))) 35]))))))))))))) := by kernel_rfl
set_option maxRecDepth 100000 in
theorem x_ref4 {p : InP} {l : List Int} {c : Int} {xs : List Tk} {m : Nat} {rs : List Rf} {lw : List Int} {r : Rf} : (exec cfgM 100 b14 ([rfA r (.lit .i64 4), .sli 5 (.c 0) 1 (.v lw.length) none] ++ List.replicate 99 .bad) (s9b p l c xs m rs lw)).bind (canonK 8 [(0,0)] 101 [4, 5]) =
 

 (.need (inR .i64 (r.1 + (1 : Int)))

 (.br (r.6 == r.3)

 (.ret (.ret, [.ptr 8 0, .sli 5 (.c 0) 1 (.v lw.length) none], [.ro encLook [PUnit.unit], .own [.c (.sli 2 (.c 0) 1 (.v 4) (some (.v 4))), .c (.int .i64 c)] 70, .own [.a (encInt IntKind.u32) 4 l] 35, .many encTk xs 68, .ro (encInt IntKind.i64) p.3, .vec (encInt IntKind.u32) lw 35, .vec (encP 3) (List.range m) 30, .vec encRf rs 48, .own [.c (.int .i64 r.1), .c (.int .i64 r.2), .c (.int .i64 r.3), .c (.lit .i64 (4 : Int)), .c (.int .i64 r.5), .c (.int .i64 r.6), .c (.bl true)] 48]))

 (.br (decide (r.1 + (1 : Int) < (0 : Int)))

 (.ret (.ret, [.ptr 8 0, .sli 5 (.c 0) 1 (.v lw.length) none], [.ro encLook [PUnit.unit], .own [.c (.sli 2 (.c 0) 1 (.v 4) (some (.v 4))), .c (.int .i64 c)] 70, .own [.a (encInt IntKind.u32) 4 l] 35, .many encTk xs 68, .ro (encInt IntKind.i64) p.3, .vec (encInt IntKind.u32) lw 35, .vec (encP 3) (List.range m) 30, .vec encRf rs 48, .own [.c (.int .i64 r.1), .c (.int .i64 r.2), .c (.int .i64 r.3), .c (.lit .i64 (4 : Int)), .c (.int .i64 r.5), .c (.int .i64 r.6), .c (.bl true)] 48]))

 (.br (decide ((↑lw.length : Int) ≤ r.1 + (1 : Int)))

 (.ret (.ret, [.ptr 8 0, .sli 5 (.c 0) 1 (.v lw.length) none], [.ro encLook [PUnit.unit], .own [.c (.sli 2 (.c 0) 1 (.v 4) (some (.v 4))), .c (.int .i64 c)] 70, .own [.a (encInt IntKind.u32) 4 l] 35, .many encTk xs 68, .ro (encInt IntKind.i64) p.3, .vec (encInt IntKind.u32) lw 35, .vec (encP 3) (List.range m) 30, .vec encRf rs 48, .own [.c (.int .i64 r.1), .c (.int .i64 r.2), .c (.int .i64 r.3), .c (.lit .i64 (4 : Int)), .c (.int .i64 r.5), .c (.int .i64 r.6), .c (.bl true)] 48]))

 (.need (decide (0 + lw.length ≤ lw.length))

 (.need (decide (0 + lw.length ≤ lw.length))

 (.need (roomy (List.take lw.length (List.drop 0 lw)).length 4)

 (.need (true)

 (.need (decide ((0 : Int) ≤ r.1 + (1 : Int)) && decide ((r.1 + (1 : Int)).toNat < (List.take lw.length (List.drop 0 lw)).length))

 (.need (decide ((r.1 + (1 : Int)).toNat < (List.take lw.length (List.drop 0 lw)).length))

 (.br ((List.take lw.length (List.drop 0 lw)).getD (r.1 + (1 : Int)).toNat (0 : Int) == IntKind.u32.wrap (r.5.tmod (2 : Int)))

 (.need (inR .i64 (r.6 + (1 : Int)))

 (.ret (.ret, [.ptr 8 0, .sli 9 (.c 0) 1 (.v (List.take lw.length (List.drop 0 lw)).length) none], [.ro encLook [PUnit.unit], .own [.c (.sli 2 (.c 0) 1 (.v 4) (some (.v 4))), .c (.int .i64 c)] 70, .own [.a (encInt IntKind.u32) 4 l] 35, .many encTk xs 68, .ro (encInt IntKind.i64) p.3, .vec (encInt IntKind.u32) lw 35, .vec (encP 3) (List.range m) 30, .vec encRf rs 48, .own [.c (.int .i64 r.1), .c (.int .i64 r.2), .c (.int .i64 r.3), .c (.lit .i64 (1 : Int)), .c (.int .i64 r.5), .c (.int .i64 (r.6 + (1 : Int))), .c (.sb (r.6 + (1 : Int) == r.3))] 48, .vec (encInt IntKind.u32) (List.take lw.length (List.drop 0 lw)) 35])))

 (.ret (.ret, [.ptr 8 0, .sli 9 (.c 0) 1 (.v (List.take lw.length (List.drop 0 lw)).length) none], [.ro encLook [PUnit.unit], .own [.c (.sli 2 (.c 0) 1 (.v 4) (some (.v 4))), .c (.int .i64 c)] 70, .own [.a (encInt IntKind.u32) 4 l] 35, .many encTk xs 68, .ro (encInt IntKind.i64) p.3, .vec (encInt IntKind.u32) lw 35, .vec (encP 3) (List.range m) 30, .vec encRf rs 48, .own [.c (.int .i64 r.1), .c (.int .i64 r.2), .c (.int .i64 r.3), .c (.lit .i64 (4 : Int)), .c (.int .i64 r.5), .c (.int .i64 r.6), .c (.sb (r.6 == r.3))] 48, .vec (encInt IntKind.u32) (List.take lw.length (List.drop 0 lw)) 35]))))))))))))) := by kernel_rfl
end Go.Proofs.YtafipmkobdhigaaDoor

/- BarrierPlays: the document's step. -/
namespace Go.Proofs.YtafipmkobdhigaaDoor
open Go Go.Proofs.YtafipmkobdhigaaDoor.Sx
set_option linter.unusedVariables false
theorem b14_eq : Tryd.f18.body = some b14 := by kernel_rfl
abbrev rfB (r : Rf) : Blk := .own [.c (.int .i64 r.at'), .c (.int .i64 r.n), .c (.int .i64 r.rounds), .c (.int .i64 r.next), .c (.int .i64 r.came), .c (.int .i64 r.passed), .c (.sb r.done)] 48
abbrev rfV (r : Rf) : SVal := rfA r (.int .i64 r.next)
abbrev outR (r : Rf) : Rf := {r with done := true}
theorem rfP_1t {at' n rounds came passed : Int} {done : Bool} {lw : List Int} (h : ((lw.set at'.toNat (u32P (lw.getD at'.toNat 0 + 1))).getD at'.toNat 0 == u32P n) = true) :
    rfP ⟨at', n, rounds, 1, came, passed, done⟩ lw = ⟨at', n, rounds, 2, came + 1, passed, passed == rounds⟩ := by
  have h' : ((lw.set (atR ⟨at', n, rounds, 1, came, passed, done⟩).toNat (u32P (lw.getD (atR ⟨at', n, rounds, 1, came, passed, done⟩).toNat 0 + 1))).getD (atR ⟨at', n, rounds, 1, came, passed, done⟩).toNat 0 == u32P n) = _ := h
  simp only [rfP, h']
theorem rfP_1f {at' n rounds came passed : Int} {done : Bool} {lw : List Int} (h : ((lw.set at'.toNat (u32P (lw.getD at'.toNat 0 + 1))).getD at'.toNat 0 == u32P n) = false) :
    rfP ⟨at', n, rounds, 1, came, passed, done⟩ lw = ⟨at', n, rounds, 4, came + 1, passed, passed == rounds⟩ := by
  have h' : ((lw.set (atR ⟨at', n, rounds, 1, came, passed, done⟩).toNat (u32P (lw.getD (atR ⟨at', n, rounds, 1, came, passed, done⟩).toNat 0 + 1))).getD (atR ⟨at', n, rounds, 1, came, passed, done⟩).toNat 0 == u32P n) = _ := h
  simp only [rfP, h']
theorem rfP_4t {at' n rounds came passed : Int} {done : Bool} {lw : List Int} (h : (lw.getD (at' + 1).toNat 0 == u32P (came.tmod 2)) = true) :
    rfP ⟨at', n, rounds, 4, came, passed, done⟩ lw = ⟨at', n, rounds, 1, came, passed + 1, passed + 1 == rounds⟩ := by
  have h' : (lw.getD (atR ⟨at', n, rounds, 4, came, passed, done⟩).toNat 0 == ownR ⟨at', n, rounds, 4, came, passed, done⟩) = true := h
  simp only [rfP, h']
theorem rfP_4f {at' n rounds came passed : Int} {done : Bool} {lw : List Int} (h : (lw.getD (at' + 1).toNat 0 == u32P (came.tmod 2)) = false) :
    rfP ⟨at', n, rounds, 4, came, passed, done⟩ lw = ⟨at', n, rounds, 4, came, passed, passed == rounds⟩ := by
  have h' : (lw.getD (atR ⟨at', n, rounds, 4, came, passed, done⟩).toNat 0 == ownR ⟨at', n, rounds, 4, came, passed, done⟩) = false := h
  simp only [rfP, h']
set_option maxHeartbeats 1000000 in
theorem ref_ok {p : InP} {l : List Int} {c : Int} {xs : List Tk} {m : Nat} {rs : List Rf} {lw : List Int} {r : Rf} (hn : 1 ≤ r.next ∧ r.next ≤ 4) (ha : -1000 ≤ r.at' ∧ r.at' ≤ 1000) (hl : 0 ≤ r.came ∧ r.came ≤ 2000 ∧ 0 ≤ r.passed ∧ r.passed ≤ 2000) (hw : lw.length ≤ 50) (hk : okR r lw = true) :
    ∀ (env : Env) (w : World) (vs : List Value), GlOk cfgM.gl env → Rep env (s9b p l c xs m rs lw) w → DenL env [rfV r, .sli 5 (.c 0) 1 (.v lw.length) none] vs →
    Calls cfgM.P 18 ⟨vs⟩ w (Ends1 env (s9b p l c xs m rs lw) w (.tup [rfV (rfP r lw), .sli 9 (.c 0) 1 (.v lw.length) none]) (s9b p l c xs m rs lw ++ [rfB (rfP r lw), .vec (encInt .u32) (rwP r lw) 35])) := by
  intro env w vs hg hr hd
  obtain ⟨at', n, rounds, next, came, passed, done⟩ := r
  simp only [okR, Bool.and_eq_true, Bool.not_eq_true', beq_eq_false_iff_ne, inP_iff] at hk
  simp only at hl hn ha
  have htk : List.take lw.length (List.drop 0 lw) = lw := by simp
  match next, hn with
  | 1, _ =>
    simp only [atR] at hk
    have hk' : (¬ passed = rounds ∧ 0 ≤ at' ∧ at' < (lw.length : Int)) := hk
    refine AtK.begin (c := cfgM) Tryd.func18 b14_eq (args := [rfA ⟨at', n, rounds, 1, came, passed, done⟩ (.lit .i64 1), .sli 5 (.c 0) 1 (.v lw.length) none]) hg hr hd fun a hA => ?_
    refine pieceTK2 (c := cfgM) cfgM_ok [4, 5] x_ref1 (by rw [hr.len]; simp) (by simp) hA ?_
    rw [htk]
    simp only [List.length_set]
    repeat' (first
      | (refine all_brp (by simp only [decide_eq_true_eq, Bool.not_eq_true', decide_eq_false_iff_not, beq_iff_eq]; exact Iff.rfl) (fun _ => ?_) (fun _ => ?_) <;> try (exfalso; omega))
      | refine all_needq (by simp only [decide_eq_true_eq, Bool.and_eq_true, inR_i64, roomy_iff]; exact Iff.rfl) (by omega) ?_
      | refine all_need rfl (fun _ => ?_)
      | refine all_eq rfl ?_)
    all_goals
      rename_i hx
      refine all_ret fun env' a' w' hA' => ?_
      have h2 := hA'.on fun h => h.gen (st' := s9b p l c xs m rs lw ++ [rfB (rfP (⟨at', n, rounds, 1, came, passed, done⟩ : Rf) lw), .vec (encInt .u32) (rwP (⟨at', n, rounds, 1, came, passed, done⟩ : Rf) lw) 35]) (by first | (rw [rfP_1t (beq_iff_eq.2 hx)]; rfl) | (rw [rfP_1f (beq_eq_false_iff_ne.2 hx)]; rfl))
      exact h2.out (c := cfgM) (by kernel_rfl)
  | 2, _ =>
    simp only [atR] at hk
    have hk' : (¬ passed = rounds ∧ 0 ≤ at' ∧ at' < (lw.length : Int)) := hk
    refine AtK.begin (c := cfgM) Tryd.func18 b14_eq (args := [rfA ⟨at', n, rounds, 2, came, passed, done⟩ (.lit .i64 2), .sli 5 (.c 0) 1 (.v lw.length) none]) hg hr hd fun a hA => ?_
    refine pieceTK2 (c := cfgM) cfgM_ok [4, 5] x_ref2 (by rw [hr.len]; simp) (by simp) hA ?_
    rw [htk]
    simp only [List.length_set]
    repeat' (first
      | (refine all_brp (by simp only [decide_eq_true_eq, Bool.not_eq_true', decide_eq_false_iff_not, beq_iff_eq]; exact Iff.rfl) (fun _ => ?_) (fun _ => ?_) <;> try (exfalso; omega))
      | refine all_needq (by simp only [decide_eq_true_eq, Bool.and_eq_true, inR_i64, roomy_iff]; exact Iff.rfl) (by omega) ?_
      | refine all_need rfl (fun _ => ?_)
      | refine all_eq rfl ?_)
    all_goals
      refine all_ret fun env' a' w' hA' => ?_
      have h2 := hA'.on fun h => h.gen (st' := s9b p l c xs m rs lw ++ [rfB (rfP (⟨at', n, rounds, 2, came, passed, done⟩ : Rf) lw), .vec (encInt .u32) (rwP (⟨at', n, rounds, 2, came, passed, done⟩ : Rf) lw) 35]) rfl
      exact h2.out (c := cfgM) (by kernel_rfl)
  | 3, _ =>
    simp only [atR] at hk
    have hk' : (¬ passed = rounds ∧ 0 ≤ at' + 1 ∧ at' + 1 < (lw.length : Int)) := hk
    refine AtK.begin (c := cfgM) Tryd.func18 b14_eq (args := [rfA ⟨at', n, rounds, 3, came, passed, done⟩ (.lit .i64 3), .sli 5 (.c 0) 1 (.v lw.length) none]) hg hr hd fun a hA => ?_
    refine pieceTK2 (c := cfgM) cfgM_ok [4, 5] x_ref3 (by rw [hr.len]; simp) (by simp) hA ?_
    rw [htk]
    simp only [List.length_set]
    repeat' (first
      | (refine all_brp (by simp only [decide_eq_true_eq, Bool.not_eq_true', decide_eq_false_iff_not, beq_iff_eq]; exact Iff.rfl) (fun _ => ?_) (fun _ => ?_) <;> try (exfalso; omega))
      | refine all_needq (by simp only [decide_eq_true_eq, Bool.and_eq_true, inR_i64, roomy_iff]; exact Iff.rfl) (by omega) ?_
      | refine all_need rfl (fun _ => ?_)
      | refine all_eq rfl ?_)
    all_goals
      refine all_ret fun env' a' w' hA' => ?_
      have h2 := hA'.on fun h => h.gen (st' := s9b p l c xs m rs lw ++ [rfB (rfP (⟨at', n, rounds, 3, came, passed, done⟩ : Rf) lw), .vec (encInt .u32) (rwP (⟨at', n, rounds, 3, came, passed, done⟩ : Rf) lw) 35]) rfl
      exact h2.out (c := cfgM) (by kernel_rfl)
  | 4, _ =>
    simp only [atR] at hk
    have hk' : (¬ passed = rounds ∧ 0 ≤ at' + 1 ∧ at' + 1 < (lw.length : Int)) := hk
    refine AtK.begin (c := cfgM) Tryd.func18 b14_eq (args := [rfA ⟨at', n, rounds, 4, came, passed, done⟩ (.lit .i64 4), .sli 5 (.c 0) 1 (.v lw.length) none]) hg hr hd fun a hA => ?_
    refine pieceTK2 (c := cfgM) cfgM_ok [4, 5] x_ref4 (by rw [hr.len]; simp) (by simp) hA ?_
    rw [htk]
    simp only [List.length_set]
    repeat' (first
      | (refine all_brp (by simp only [decide_eq_true_eq, Bool.not_eq_true', decide_eq_false_iff_not, beq_iff_eq]; exact Iff.rfl) (fun _ => ?_) (fun _ => ?_) <;> try (exfalso; omega))
      | refine all_needq (by simp only [decide_eq_true_eq, Bool.and_eq_true, inR_i64, roomy_iff]; exact Iff.rfl) (by omega) ?_
      | refine all_need rfl (fun _ => ?_)
      | refine all_eq rfl ?_)
    all_goals
      rename_i hx
      refine all_ret fun env' a' w' hA' => ?_
      have h2 := hA'.on fun h => h.gen (st' := s9b p l c xs m rs lw ++ [rfB (rfP (⟨at', n, rounds, 4, came, passed, done⟩ : Rf) lw), .vec (encInt .u32) (rwP (⟨at', n, rounds, 4, came, passed, done⟩ : Rf) lw) 35]) (by first | (rw [rfP_4t (beq_iff_eq.2 hx)]; rfl) | (rw [rfP_4f (beq_eq_false_iff_ne.2 hx)]; rfl))
      exact h2.out (c := cfgM) (by kernel_rfl)
set_option maxHeartbeats 1000000 in
theorem ref_no {p : InP} {l : List Int} {c : Int} {xs : List Tk} {m : Nat} {rs : List Rf} {lw : List Int} {r : Rf} (hn : 1 ≤ r.next ∧ r.next ≤ 4) (ha : -1000 ≤ r.at' ∧ r.at' ≤ 1000) (hl : 0 ≤ r.came ∧ r.came ≤ 2000 ∧ 0 ≤ r.passed ∧ r.passed ≤ 2000) (hw : lw.length ≤ 50) (hk : okR r lw = false) :
    ∀ (env : Env) (w : World) (vs : List Value), GlOk cfgM.gl env → Rep env (s9b p l c xs m rs lw) w → DenL env [rfV r, .sli 5 (.c 0) 1 (.v lw.length) none] vs →
    Calls cfgM.P 18 ⟨vs⟩ w (Ends1 env (s9b p l c xs m rs lw) w (.tup [rfV (outR r), .sli 5 (.c 0) 1 (.v lw.length) none]) (s9b p l c xs m rs lw ++ [rfB (outR r)])) := by
  intro env w vs hg hr hd
  obtain ⟨at', n, rounds, next, came, passed, done⟩ := r
  rw [← Bool.not_eq_true] at hk
  simp only [okR, Bool.and_eq_true, Bool.not_eq_true', beq_eq_false_iff_ne, inP_iff] at hk
  simp only at hl hn ha
  have htk : List.take lw.length (List.drop 0 lw) = lw := by simp
  match next, hn with
  | 1, _ =>
    simp only [atR] at hk
    have hk' : ¬(¬ passed = rounds ∧ 0 ≤ at' ∧ at' < (lw.length : Int)) := hk
    refine AtK.begin (c := cfgM) Tryd.func18 b14_eq (args := [rfA ⟨at', n, rounds, 1, came, passed, done⟩ (.lit .i64 1), .sli 5 (.c 0) 1 (.v lw.length) none]) hg hr hd fun a hA => ?_
    refine pieceTK2 (c := cfgM) cfgM_ok [4, 5] x_ref1 (by rw [hr.len]; simp) (by simp) hA ?_
    rw [htk]
    simp only [List.length_set]
    repeat' (first
      | (refine all_brp (by simp only [decide_eq_true_eq, Bool.not_eq_true', decide_eq_false_iff_not, beq_iff_eq]; exact Iff.rfl) (fun _ => ?_) (fun _ => ?_) <;> try (exfalso; omega))
      | refine all_needq (by simp only [decide_eq_true_eq, Bool.and_eq_true, inR_i64, roomy_iff]; exact Iff.rfl) (by omega) ?_
      | refine all_need rfl (fun _ => ?_)
      | refine all_eq rfl ?_)
    all_goals
      refine all_ret fun env' a' w' hA' => ?_
      have h2 := hA'.on fun h => h.gen (st' := s9b p l c xs m rs lw ++ [rfB (outR (⟨at', n, rounds, 1, came, passed, done⟩ : Rf))]) rfl
      exact h2.out (c := cfgM) (by kernel_rfl)
  | 2, _ =>
    simp only [atR] at hk
    have hk' : ¬(¬ passed = rounds ∧ 0 ≤ at' ∧ at' < (lw.length : Int)) := hk
    refine AtK.begin (c := cfgM) Tryd.func18 b14_eq (args := [rfA ⟨at', n, rounds, 2, came, passed, done⟩ (.lit .i64 2), .sli 5 (.c 0) 1 (.v lw.length) none]) hg hr hd fun a hA => ?_
    refine pieceTK2 (c := cfgM) cfgM_ok [4, 5] x_ref2 (by rw [hr.len]; simp) (by simp) hA ?_
    rw [htk]
    simp only [List.length_set]
    repeat' (first
      | (refine all_brp (by simp only [decide_eq_true_eq, Bool.not_eq_true', decide_eq_false_iff_not, beq_iff_eq]; exact Iff.rfl) (fun _ => ?_) (fun _ => ?_) <;> try (exfalso; omega))
      | refine all_needq (by simp only [decide_eq_true_eq, Bool.and_eq_true, inR_i64, roomy_iff]; exact Iff.rfl) (by omega) ?_
      | refine all_need rfl (fun _ => ?_)
      | refine all_eq rfl ?_)
    all_goals
      refine all_ret fun env' a' w' hA' => ?_
      have h2 := hA'.on fun h => h.gen (st' := s9b p l c xs m rs lw ++ [rfB (outR (⟨at', n, rounds, 2, came, passed, done⟩ : Rf))]) rfl
      exact h2.out (c := cfgM) (by kernel_rfl)
  | 3, _ =>
    simp only [atR] at hk
    have hk' : ¬(¬ passed = rounds ∧ 0 ≤ at' + 1 ∧ at' + 1 < (lw.length : Int)) := hk
    refine AtK.begin (c := cfgM) Tryd.func18 b14_eq (args := [rfA ⟨at', n, rounds, 3, came, passed, done⟩ (.lit .i64 3), .sli 5 (.c 0) 1 (.v lw.length) none]) hg hr hd fun a hA => ?_
    refine pieceTK2 (c := cfgM) cfgM_ok [4, 5] x_ref3 (by rw [hr.len]; simp) (by simp) hA ?_
    rw [htk]
    simp only [List.length_set]
    repeat' (first
      | (refine all_brp (by simp only [decide_eq_true_eq, Bool.not_eq_true', decide_eq_false_iff_not, beq_iff_eq]; exact Iff.rfl) (fun _ => ?_) (fun _ => ?_) <;> try (exfalso; omega))
      | refine all_needq (by simp only [decide_eq_true_eq, Bool.and_eq_true, inR_i64, roomy_iff]; exact Iff.rfl) (by omega) ?_
      | refine all_need rfl (fun _ => ?_)
      | refine all_eq rfl ?_)
    all_goals
      refine all_ret fun env' a' w' hA' => ?_
      have h2 := hA'.on fun h => h.gen (st' := s9b p l c xs m rs lw ++ [rfB (outR (⟨at', n, rounds, 3, came, passed, done⟩ : Rf))]) rfl
      exact h2.out (c := cfgM) (by kernel_rfl)
  | 4, _ =>
    simp only [atR] at hk
    have hk' : ¬(¬ passed = rounds ∧ 0 ≤ at' + 1 ∧ at' + 1 < (lw.length : Int)) := hk
    refine AtK.begin (c := cfgM) Tryd.func18 b14_eq (args := [rfA ⟨at', n, rounds, 4, came, passed, done⟩ (.lit .i64 4), .sli 5 (.c 0) 1 (.v lw.length) none]) hg hr hd fun a hA => ?_
    refine pieceTK2 (c := cfgM) cfgM_ok [4, 5] x_ref4 (by rw [hr.len]; simp) (by simp) hA ?_
    rw [htk]
    simp only [List.length_set]
    repeat' (first
      | (refine all_brp (by simp only [decide_eq_true_eq, Bool.not_eq_true', decide_eq_false_iff_not, beq_iff_eq]; exact Iff.rfl) (fun _ => ?_) (fun _ => ?_) <;> try (exfalso; omega))
      | refine all_needq (by simp only [decide_eq_true_eq, Bool.and_eq_true, inR_i64, roomy_iff]; exact Iff.rfl) (by omega) ?_
      | refine all_need rfl (fun _ => ?_)
      | refine all_eq rfl ?_)
    all_goals
      refine all_ret fun env' a' w' hA' => ?_
      have h2 := hA'.on fun h => h.gen (st' := s9b p l c xs m rs lw ++ [rfB (outR (⟨at', n, rounds, 4, came, passed, done⟩ : Rf))]) rfl
      exact h2.out (c := cfgM) (by kernel_rfl)
end Go.Proofs.YtafipmkobdhigaaDoor

/- BarrierPlays: the configurations of a round. -/
namespace Go.Proofs.YtafipmkobdhigaaDoor
open Go Go.Proofs.YtafipmkobdhigaaDoor.Sx
set_option linter.unusedVariables false
/-- what the document's step may be asked -/
structure RfOk (r : Rf) (lw : List Int) : Prop where
  next : 1 ≤ r.next ∧ r.next ≤ 4
  at' : -1000 ≤ r.at' ∧ r.at' ≤ 1000
  left : 0 ≤ r.came ∧ r.came ≤ 2000 ∧ 0 ≤ r.passed ∧ r.passed ≤ 2000
  len : lw.length ≤ 50
noncomputable def cfgRf (p : InP) (l : List Int) (c : Int) (xs : List Tk) (m : Nat) (rs : List Rf) (lw : List Int) (r : Rf) : Cfg := { P := Tryd.prog, ex := exI, gl := [(0, 0)], sm := fun g => match g with
  | 18 => some (smEq [rfV r, .sli 5 (.c 0) 1 (.v lw.length) none] (s9b p l c xs m rs lw) (RfOk r lw ∧ okR r lw = true) (.tup [rfV (rfP r lw), .sli 9 (.c 0) 1 (.v lw.length) none]) (s9b p l c xs m rs lw ++ [rfB (rfP r lw), .vec (encInt .u32) (rwP r lw) 35]))
  | _ => none }
theorem cfgRf_ok {p : InP} {l : List Int} {c : Int} {xs : List Tk} {m : Nat} {rs : List Rf} {lw : List Int} {r : Rf} : SmOk (cfgRf p l c xs m rs lw r) := by
  intro g h e
  simp only [cfgRf] at e
  split at e
  · simp only [Option.some.injEq] at e; subst e
    exact smEq_ok (c := cfgRf p l c xs m rs lw r) fun h => ref_ok h.1.next h.1.at' h.1.left h.1.len h.2
  · cases e
noncomputable def cfgN (p : InP) (l : List Int) (c : Int) (xs : List Tk) (m : Nat) (rs : List Rf) (lw : List Int) (r : Rf) : Cfg := { P := Tryd.prog, ex := exI, gl := [(0, 0)], sm := fun g => match g with
  | 18 => some (smEq [rfV r, .sli 5 (.c 0) 1 (.v lw.length) none] (s9b p l c xs m rs lw) (RfOk r lw ∧ okR r lw = false) (.tup [rfV (outR r), .sli 5 (.c 0) 1 (.v lw.length) none]) (s9b p l c xs m rs lw ++ [rfB (outR r)]))
  | _ => none }
theorem cfgN_ok {p : InP} {l : List Int} {c : Int} {xs : List Tk} {m : Nat} {rs : List Rf} {lw : List Int} {r : Rf} : SmOk (cfgN p l c xs m rs lw r) := by
  intro g h e
  simp only [cfgN] at e
  split at e
  · simp only [Option.some.injEq] at e; subst e
    exact smEq_ok (c := cfgN p l c xs m rs lw r) fun h => ref_no h.1.next h.1.at' h.1.left h.1.len h.2
  · cases e
/-- a row of the document's takers, a cell of it put -/
def setR (f : Rf → Rf) (rs : List Rf) (k : Nat) : List Rf := rs.set k (f (rs.getD k ⟨0, 0, 0, 0, 0, 0, false⟩))
def pR1 (r : Rf) (rs : List Rf) (k : Nat) : List Rf := setR (fun x => ⟨r.at', x.n, x.rounds, x.next, x.came, x.passed, x.done⟩) rs k
def pR2 (r : Rf) (rs : List Rf) (k : Nat) : List Rf := setR (fun x => ⟨x.at', r.n, x.rounds, x.next, x.came, x.passed, x.done⟩) (pR1 r rs k) k
def pR3 (r : Rf) (rs : List Rf) (k : Nat) : List Rf := setR (fun x => ⟨x.at', x.n, r.rounds, x.next, x.came, x.passed, x.done⟩) (pR2 r rs k) k
def pR4 (r : Rf) (rs : List Rf) (k : Nat) : List Rf := setR (fun x => ⟨x.at', x.n, x.rounds, r.next, x.came, x.passed, x.done⟩) (pR3 r rs k) k
def pR5 (r : Rf) (rs : List Rf) (k : Nat) : List Rf := setR (fun x => ⟨x.at', x.n, x.rounds, x.next, r.came, x.passed, x.done⟩) (pR4 r rs k) k
def pR6 (r : Rf) (rs : List Rf) (k : Nat) : List Rf := setR (fun x => ⟨x.at', x.n, x.rounds, x.next, x.came, r.passed, x.done⟩) (pR5 r rs k) k
def pR7 (r : Rf) (rs : List Rf) (k : Nat) : List Rf := setR (fun x => ⟨x.at', x.n, x.rounds, x.next, x.came, x.passed, r.done⟩) (pR6 r rs k) k
theorem setR_len (f : Rf → Rf) (rs : List Rf) (k : Nat) : (setR f rs k).length = rs.length := by simp [setR]
theorem setR_setR (f g : Rf → Rf) {rs : List Rf} {k : Nat} (h : k < rs.length) : setR g (setR f rs k) k = setR (fun x => g (f x)) rs k := by
  unfold setR
  rw [List.set_set, Sx.getD_set_self h]
theorem pR7_eq (r : Rf) {rs : List Rf} {k : Nat} (h : k < rs.length) : pR7 r rs k = rs.set k r := by
  simp only [pR7, pR6, pR5, pR4, pR3, pR2, pR1, setR_setR _ _ h]
  rfl
end Go.Proofs.YtafipmkobdhigaaDoor

namespace Go.Proofs.YtafipmkobdhigaaDoor
open Go Go.Proofs.YtafipmkobdhigaaDoor.Sx
set_option linter.unusedVariables false
set_option maxRecDepth 100000 in
theorem x_rok {p : InP} {l : List Int} {c : Int} {xs : List Tk} {m : Nat} {rs : List Rf} {lw : List Int} {r : Rf} {i : Nat} {k : Int} : (execN (cfgRf p l c xs m rs lw r) 100 2 (restC 2 bb9b) (fr 209 n9f (v9b p m lw.length ++ [.int .i64 (i : Nat), .int .i64 k])) (s9b p l c xs m rs lw)).bind (canonK 5 [(0,0)] 209 n9g) =
 (.need (decide ((0 : Int) ≤ k) && decide (k.toNat < m))
 (.need (decide (k.toNat < rs.length))
 (.need (decide (k.toNat < rs.length))
 (.need (decide (k.toNat < rs.length))
 (.need (decide (k.toNat < rs.length))
 (.need (decide (k.toNat < rs.length))
 (.need (decide (k.toNat < rs.length))
 (.need (decide (k.toNat < rs.length))
 (.eq ([SVal.agg [.int .i64 (rs.getD k.toNat { at' := (0 : Int), n := (0 : Int), rounds := (0 : Int), next := 0, came := (0 : Int), passed := (0 : Int), done := false }).at', .int .i64 (rs.getD k.toNat { at' := (0 : Int), n := (0 : Int), rounds := (0 : Int), next := 0, came := (0 : Int), passed := (0 : Int), done := false }).n, .int .i64 (rs.getD k.toNat { at' := (0 : Int), n := (0 : Int), rounds := (0 : Int), next := 0, came := (0 : Int), passed := (0 : Int), done := false }).rounds, .int .i64 (↑(rs.getD k.toNat { at' := (0 : Int), n := (0 : Int), rounds := (0 : Int), next := 0, came := (0 : Int), passed := (0 : Int), done := false }).next : Int), .int .i64 (rs.getD k.toNat { at' := (0 : Int), n := (0 : Int), rounds := (0 : Int), next := 0, came := (0 : Int), passed := (0 : Int), done := false }).came, .int .i64 (rs.getD k.toNat { at' := (0 : Int), n := (0 : Int), rounds := (0 : Int), next := 0, came := (0 : Int), passed := (0 : Int), done := false }).passed, .sb (rs.getD k.toNat { at' := (0 : Int), n := (0 : Int), rounds := (0 : Int), next := 0, came := (0 : Int), passed := (0 : Int), done := false }).done], .sli 5 (.c 0) 1 (.v lw.length) none] = [SVal.agg [.int .i64 r.1, .int .i64 r.2, .int .i64 r.3, .int .i64 (↑r.4 : Int), .int .i64 r.5, .int .i64 r.6, .sb r.7], .sli 5 (.c 0) 1 (.v lw.length) none] ∧ [Blk.ro encLook [PUnit.unit], .own [.c (.sli 2 (.c 0) 1 (.v 4) (some (.v 4))), .c (.int .i64 c)] 70, .own [.a (encInt IntKind.u32) 4 l] 35, .many encTk xs 68, .ro (encInt IntKind.i64) p.3, .vec (encInt IntKind.u32) lw 35, .vec (encP 3) (List.range m) 30, .vec encRf rs 48] = [Blk.ro encLook [PUnit.unit], .own [.c (.sli 2 (.c 0) 1 (.v 4) (some (.v 4))), .c (.int .i64 c)] 70, .own [.a (encInt IntKind.u32) 4 l] 35, .many encTk xs 68, .ro (encInt IntKind.i64) p.3, .vec (encInt IntKind.u32) lw 35, .vec (encP 3) (List.range m) 30, .vec encRf rs 48] ∧ RfOk r lw ∧ okR r lw = true)
 (.need (decide ((0 : Int) ≤ k) && decide (k.toNat < m))
 (.need (decide (k.toNat < rs.length))
 (.need (decide (k.toNat < (pR1 (rfP r lw) rs k.toNat).length))
 (.need (decide (k.toNat < (pR2 (rfP r lw) rs k.toNat).length))
 (.need (decide (k.toNat < (pR3 (rfP r lw) rs k.toNat).length))
 (.need (decide (k.toNat < (pR4 (rfP r lw) rs k.toNat).length))
 (.need (decide (k.toNat < (pR5 (rfP r lw) rs k.toNat).length))
 (.need (decide (k.toNat < (pR6 (rfP r lw) rs k.toNat).length))
 (.ret (.normal, [.sli 4 (.c 0) 1 (.v p.3.length) (some (.v p.4)), .ptr 1 0, .sli 5 (.c 0) 1 (.v lw.length) none, .sli 6 (.c 0) 1 (.v m) none, .sli 7 (.c 0) 7 (.v m) none, .int .i64 (↑i : Int), .int .i64 k, .ptr 8 0], [.ro encLook [PUnit.unit], .own [.c (.sli 2 (.c 0) 1 (.v 4) (some (.v 4))), .c (.int .i64 c)] 70, .own [.a (encInt IntKind.u32) 4 l] 35, .many encTk xs 68, .ro (encInt IntKind.i64) p.3, .vec (encInt IntKind.u32) (rwP r lw) 35, .vec (encP 3) (List.range m) 30, .vec encRf (pR7 (rfP r lw) rs k.toNat) 48, rfB (rfP r lw)]))))))))))))))))))) := by kernel_rfl
set_option maxRecDepth 100000 in
theorem x_rno {p : InP} {l : List Int} {c : Int} {xs : List Tk} {m : Nat} {rs : List Rf} {lw : List Int} {r : Rf} {i : Nat} {k : Int} : (execN (cfgN p l c xs m rs lw r) 100 2 (restC 2 bb9b) (fr 209 n9f (v9b p m lw.length ++ [.int .i64 (i : Nat), .int .i64 k])) (s9b p l c xs m rs lw)).bind (canonK 5 [(0,0)] 209 n9g) =
 (.need (decide ((0 : Int) ≤ k) && decide (k.toNat < m))
 (.need (decide (k.toNat < rs.length))
 (.need (decide (k.toNat < rs.length))
 (.need (decide (k.toNat < rs.length))
 (.need (decide (k.toNat < rs.length))
 (.need (decide (k.toNat < rs.length))
 (.need (decide (k.toNat < rs.length))
 (.need (decide (k.toNat < rs.length))
 (.eq ([SVal.agg [.int .i64 (rs.getD k.toNat { at' := (0 : Int), n := (0 : Int), rounds := (0 : Int), next := 0, came := (0 : Int), passed := (0 : Int), done := false }).at', .int .i64 (rs.getD k.toNat { at' := (0 : Int), n := (0 : Int), rounds := (0 : Int), next := 0, came := (0 : Int), passed := (0 : Int), done := false }).n, .int .i64 (rs.getD k.toNat { at' := (0 : Int), n := (0 : Int), rounds := (0 : Int), next := 0, came := (0 : Int), passed := (0 : Int), done := false }).rounds, .int .i64 (↑(rs.getD k.toNat { at' := (0 : Int), n := (0 : Int), rounds := (0 : Int), next := 0, came := (0 : Int), passed := (0 : Int), done := false }).next : Int), .int .i64 (rs.getD k.toNat { at' := (0 : Int), n := (0 : Int), rounds := (0 : Int), next := 0, came := (0 : Int), passed := (0 : Int), done := false }).came, .int .i64 (rs.getD k.toNat { at' := (0 : Int), n := (0 : Int), rounds := (0 : Int), next := 0, came := (0 : Int), passed := (0 : Int), done := false }).passed, .sb (rs.getD k.toNat { at' := (0 : Int), n := (0 : Int), rounds := (0 : Int), next := 0, came := (0 : Int), passed := (0 : Int), done := false }).done], .sli 5 (.c 0) 1 (.v lw.length) none] = [SVal.agg [.int .i64 r.1, .int .i64 r.2, .int .i64 r.3, .int .i64 (↑r.4 : Int), .int .i64 r.5, .int .i64 r.6, .sb r.7], .sli 5 (.c 0) 1 (.v lw.length) none] ∧ [Blk.ro encLook [PUnit.unit], .own [.c (.sli 2 (.c 0) 1 (.v 4) (some (.v 4))), .c (.int .i64 c)] 70, .own [.a (encInt IntKind.u32) 4 l] 35, .many encTk xs 68, .ro (encInt IntKind.i64) p.3, .vec (encInt IntKind.u32) lw 35, .vec (encP 3) (List.range m) 30, .vec encRf rs 48] = [Blk.ro encLook [PUnit.unit], .own [.c (.sli 2 (.c 0) 1 (.v 4) (some (.v 4))), .c (.int .i64 c)] 70, .own [.a (encInt IntKind.u32) 4 l] 35, .many encTk xs 68, .ro (encInt IntKind.i64) p.3, .vec (encInt IntKind.u32) lw 35, .vec (encP 3) (List.range m) 30, .vec encRf rs 48] ∧ RfOk r lw ∧ okR r lw = false)
 (.need (decide ((0 : Int) ≤ k) && decide (k.toNat < m))
 (.need (decide (k.toNat < rs.length))
 (.need (decide (k.toNat < (pR1 (outR r) rs k.toNat).length))
 (.need (decide (k.toNat < (pR2 (outR r) rs k.toNat).length))
 (.need (decide (k.toNat < (pR3 (outR r) rs k.toNat).length))
 (.need (decide (k.toNat < (pR4 (outR r) rs k.toNat).length))
 (.need (decide (k.toNat < (pR5 (outR r) rs k.toNat).length))
 (.need (decide (k.toNat < (pR6 (outR r) rs k.toNat).length))
 (.ret (.normal, [.sli 4 (.c 0) 1 (.v p.3.length) (some (.v p.4)), .ptr 1 0, .sli 5 (.c 0) 1 (.v lw.length) none, .sli 6 (.c 0) 1 (.v m) none, .sli 7 (.c 0) 7 (.v m) none, .int .i64 (↑i : Int), .int .i64 k, .ptr 8 0], [.ro encLook [PUnit.unit], .own [.c (.sli 2 (.c 0) 1 (.v 4) (some (.v 4))), .c (.int .i64 c)] 70, .own [.a (encInt IntKind.u32) 4 l] 35, .many encTk xs 68, .ro (encInt IntKind.i64) p.3, .vec (encInt IntKind.u32) lw 35, .vec (encP 3) (List.range m) 30, .vec encRf (pR7 (outR r) rs k.toNat) 48, rfB (outR r)]))))))))))))))))))) := by kernel_rfl
end Go.Proofs.YtafipmkobdhigaaDoor

/- BarrierPlays: the second half of a round. -/
namespace Go.Proofs.YtafipmkobdhigaaDoor
open Go Go.Proofs.YtafipmkobdhigaaDoor.Sx
set_option linter.unusedVariables false
abbrev s9g (p : InP) (l : List Int) (c : Int) (xs : List Tk) (m : Nat) (rs : List Rf) (lw : List Int) (r : Rf) : St := s9b p l c xs m rs lw ++ [rfB r]
abbrev v9g (p : InP) (m n : Nat) (i : Nat) (k : Int) : List SVal := v9b p m n ++ [.int .i64 (i : Nat), .int .i64 k, .ptr 8 0]
end Go.Proofs.YtafipmkobdhigaaDoor

/- Layer 11: comparing two rows of words: pieces. -/
namespace Go.Proofs.YtafipmkobdhigaaDoor
open Go Go.Proofs.YtafipmkobdhigaaDoor.Sx
set_option linter.unusedVariables false
abbrev sSm (p : InP) (c : Int) (xs : List Tk) (m : Nat) (rs : List Rf) (r : Rf) (a b : List Int) : St := s9b p a c xs m rs b ++ [rfB r, .own [.a (encInt .u32) 4 a] 35]
abbrev vSm (b : List Int) : List SVal := [.sli 9 (.c 0) 1 (.v 4) (some (.v 4)), .sli 5 (.c 0) 1 (.v b.length) none]
noncomputable def b16 : Code := Tryd.f20.body.getD .skip
noncomputable def c16 : Code := restC 2 b16
noncomputable def reg16 : Code := lft (lft c16)
noncomputable def blk16 : Code := rgt (lft c16)
noncomputable def round16 : Code := lft (lft blk16)
noncomputable def tm16 : Code := lft round16
noncomputable def bb16 : Code := lft (lft (rgt round16))
noncomputable def inc16 : Code := rgt (rgt round16)
noncomputable def end16 : Code := rgt c16
end Go.Proofs.YtafipmkobdhigaaDoor

namespace Go.Proofs.YtafipmkobdhigaaDoor
open Go Go.Proofs.YtafipmkobdhigaaDoor.Sx
set_option linter.unusedVariables false
set_option maxRecDepth 100000 in
theorem sm_pre {p : InP} {c : Int} {xs : List Tk} {m : Nat} {rs : List Rf} {r : Rf} {a b : List Int} : (execN cfgM 100 2 b16 (vSm b ++ List.replicate 24 .bad) (sSm p c xs m rs r a b)).bind (canonK 10 [(0,0)] 26 [0, 1, 4]) =
 

 (.br ((4 : Int) != (↑b.length : Int))

 (.ret (.ret, [.sli 9 (.c 0) 1 (.v 4) (some (.v 4)), .sli 5 (.c 0) 1 (.v b.length) none, .bl false], [.ro encLook [PUnit.unit], .own [.c (.sli 2 (.c 0) 1 (.v 4) (some (.v 4))), .c (.int .i64 c)] 70, .own [.a (encInt IntKind.u32) 4 a] 35, .many encTk xs 68, .ro (encInt IntKind.i64) p.3, .vec (encInt IntKind.u32) b 35, .vec (encP 3) (List.range m) 30, .vec encRf rs 48, .own [.c (.int .i64 r.1), .c (.int .i64 r.2), .c (.int .i64 r.3), .c (.int .i64 (↑r.4 : Int)), .c (.int .i64 r.5), .c (.int .i64 r.6), .c (.sb r.7)] 48, .own [.a (encInt IntKind.u32) 4 a] 35]))

 (.ret (.normal, [.sli 9 (.c 0) 1 (.v 4) (some (.v 4)), .sli 5 (.c 0) 1 (.v b.length) none, .bl false], [.ro encLook [PUnit.unit], .own [.c (.sli 2 (.c 0) 1 (.v 4) (some (.v 4))), .c (.int .i64 c)] 70, .own [.a (encInt IntKind.u32) 4 a] 35, .many encTk xs 68, .ro (encInt IntKind.i64) p.3, .vec (encInt IntKind.u32) b 35, .vec (encP 3) (List.range m) 30, .vec encRf rs 48, .own [.c (.int .i64 r.1), .c (.int .i64 r.2), .c (.int .i64 r.3), .c (.int .i64 (↑r.4 : Int)), .c (.int .i64 r.5), .c (.int .i64 r.6), .c (.sb r.7)] 48, .own [.a (encInt IntKind.u32) 4 a] 35]))) := by kernel_rfl
set_option maxRecDepth 100000 in
theorem sm_reg {p : InP} {c : Int} {xs : List Tk} {m : Nat} {rs : List Rf} {r : Rf} {a b : List Int} : (exec cfgM 100 reg16 (fr 26 [0, 1] (vSm b)) (sSm p c xs m rs r a b)).bind (canonK 10 [(0,0)] 26 [0, 1, 5]) =
 

 (.ret (.normal, [.sli 9 (.c 0) 1 (.v 4) (some (.v 4)), .sli 5 (.c 0) 1 (.v b.length) none, .lit .i64 (0 : Int)], [.ro encLook [PUnit.unit], .own [.c (.sli 2 (.c 0) 1 (.v 4) (some (.v 4))), .c (.int .i64 c)] 70, .own [.a (encInt IntKind.u32) 4 a] 35, .many encTk xs 68, .ro (encInt IntKind.i64) p.3, .vec (encInt IntKind.u32) b 35, .vec (encP 3) (List.range m) 30, .vec encRf rs 48, .own [.c (.int .i64 r.1), .c (.int .i64 r.2), .c (.int .i64 r.3), .c (.int .i64 (↑r.4 : Int)), .c (.int .i64 r.5), .c (.int .i64 r.6), .c (.sb r.7)] 48, .own [.a (encInt IntKind.u32) 4 a] 35])) := by kernel_rfl
set_option maxRecDepth 100000 in
theorem sm_tm {p : InP} {c : Int} {xs : List Tk} {m : Nat} {rs : List Rf} {r : Rf} {a b : List Int} {i : Nat} : (exec cfgM 100 tm16 (fr 26 [0, 1, 5] (vSm b ++ [.int .i64 (i : Nat)])) (sSm p c xs m rs r a b)).bind (canonK 10 [(0,0)] 26 [0, 1, 5]) =
 

 (.br (decide ((↑i : Int) < (4 : Int)))

 (.ret (.normal, [.sli 9 (.c 0) 1 (.v 4) (some (.v 4)), .sli 5 (.c 0) 1 (.v b.length) none, .int .i64 (↑i : Int)], [.ro encLook [PUnit.unit], .own [.c (.sli 2 (.c 0) 1 (.v 4) (some (.v 4))), .c (.int .i64 c)] 70, .own [.a (encInt IntKind.u32) 4 a] 35, .many encTk xs 68, .ro (encInt IntKind.i64) p.3, .vec (encInt IntKind.u32) b 35, .vec (encP 3) (List.range m) 30, .vec encRf rs 48, .own [.c (.int .i64 r.1), .c (.int .i64 r.2), .c (.int .i64 r.3), .c (.int .i64 (↑r.4 : Int)), .c (.int .i64 r.5), .c (.int .i64 r.6), .c (.sb r.7)] 48, .own [.a (encInt IntKind.u32) 4 a] 35]))

 (.ret (.exit 0, [.sli 9 (.c 0) 1 (.v 4) (some (.v 4)), .sli 5 (.c 0) 1 (.v b.length) none, .int .i64 (↑i : Int)], [.ro encLook [PUnit.unit], .own [.c (.sli 2 (.c 0) 1 (.v 4) (some (.v 4))), .c (.int .i64 c)] 70, .own [.a (encInt IntKind.u32) 4 a] 35, .many encTk xs 68, .ro (encInt IntKind.i64) p.3, .vec (encInt IntKind.u32) b 35, .vec (encP 3) (List.range m) 30, .vec encRf rs 48, .own [.c (.int .i64 r.1), .c (.int .i64 r.2), .c (.int .i64 r.3), .c (.int .i64 (↑r.4 : Int)), .c (.int .i64 r.5), .c (.int .i64 r.6), .c (.sb r.7)] 48, .own [.a (encInt IntKind.u32) 4 a] 35]))) := by kernel_rfl
set_option maxRecDepth 100000 in
theorem sm_bb {p : InP} {c : Int} {xs : List Tk} {m : Nat} {rs : List Rf} {r : Rf} {a b : List Int} {i : Nat} : (exec cfgM 100 bb16 (fr 26 [0, 1, 5] (vSm b ++ [.int .i64 (i : Nat)])) (sSm p c xs m rs r a b)).bind (canonK 10 [(0,0)] 26 [0, 1, 5, 4]) =
 

 (.need (decide ((0 : Int) ≤ (↑i : Int)) && decide ((↑i : Int).toNat < 4))

 (.need (decide ((↑i : Int).toNat < 4))

 (.need (decide ((0 : Int) ≤ (↑i : Int)) && decide ((↑i : Int).toNat < b.length))

 (.need (decide ((↑i : Int).toNat < b.length))

 (.br (a.getD (↑i : Int).toNat (0 : Int) != b.getD (↑i : Int).toNat (0 : Int))

 (.ret (.ret, [.sli 9 (.c 0) 1 (.v 4) (some (.v 4)), .sli 5 (.c 0) 1 (.v b.length) none, .int .i64 (↑i : Int), .bl false], [.ro encLook [PUnit.unit], .own [.c (.sli 2 (.c 0) 1 (.v 4) (some (.v 4))), .c (.int .i64 c)] 70, .own [.a (encInt IntKind.u32) 4 a] 35, .many encTk xs 68, .ro (encInt IntKind.i64) p.3, .vec (encInt IntKind.u32) b 35, .vec (encP 3) (List.range m) 30, .vec encRf rs 48, .own [.c (.int .i64 r.1), .c (.int .i64 r.2), .c (.int .i64 r.3), .c (.int .i64 (↑r.4 : Int)), .c (.int .i64 r.5), .c (.int .i64 r.6), .c (.sb r.7)] 48, .own [.a (encInt IntKind.u32) 4 a] 35]))

 (.ret (.normal, [.sli 9 (.c 0) 1 (.v 4) (some (.v 4)), .sli 5 (.c 0) 1 (.v b.length) none, .int .i64 (↑i : Int), .bad], [.ro encLook [PUnit.unit], .own [.c (.sli 2 (.c 0) 1 (.v 4) (some (.v 4))), .c (.int .i64 c)] 70, .own [.a (encInt IntKind.u32) 4 a] 35, .many encTk xs 68, .ro (encInt IntKind.i64) p.3, .vec (encInt IntKind.u32) b 35, .vec (encP 3) (List.range m) 30, .vec encRf rs 48, .own [.c (.int .i64 r.1), .c (.int .i64 r.2), .c (.int .i64 r.3), .c (.int .i64 (↑r.4 : Int)), .c (.int .i64 r.5), .c (.int .i64 r.6), .c (.sb r.7)] 48, .own [.a (encInt IntKind.u32) 4 a] 35]))))))) := by kernel_rfl
set_option maxRecDepth 100000 in
theorem sm_inc {p : InP} {c : Int} {xs : List Tk} {m : Nat} {rs : List Rf} {r : Rf} {a b : List Int} {i : Nat} : (exec cfgM 100 inc16 (fr 26 [0, 1, 5] (vSm b ++ [.int .i64 (i : Nat)])) (sSm p c xs m rs r a b)).bind (canonK 10 [(0,0)] 26 [0, 1, 5]) =
 

 (.need (inR .i64 ((↑i : Int) + (1 : Int)))

 (.ret (.normal, [.sli 9 (.c 0) 1 (.v 4) (some (.v 4)), .sli 5 (.c 0) 1 (.v b.length) none, .int .i64 ((↑i : Int) + (1 : Int))], [.ro encLook [PUnit.unit], .own [.c (.sli 2 (.c 0) 1 (.v 4) (some (.v 4))), .c (.int .i64 c)] 70, .own [.a (encInt IntKind.u32) 4 a] 35, .many encTk xs 68, .ro (encInt IntKind.i64) p.3, .vec (encInt IntKind.u32) b 35, .vec (encP 3) (List.range m) 30, .vec encRf rs 48, .own [.c (.int .i64 r.1), .c (.int .i64 r.2), .c (.int .i64 r.3), .c (.int .i64 (↑r.4 : Int)), .c (.int .i64 r.5), .c (.int .i64 r.6), .c (.sb r.7)] 48, .own [.a (encInt IntKind.u32) 4 a] 35]))) := by kernel_rfl
set_option maxRecDepth 100000 in
theorem sm_end {p : InP} {c : Int} {xs : List Tk} {m : Nat} {rs : List Rf} {r : Rf} {a b : List Int} {i : Nat} : (exec cfgM 100 end16 (fr 26 [0, 1, 5] (vSm b ++ [.int .i64 (i : Nat)])) (sSm p c xs m rs r a b)).bind (canonK 10 [(0,0)] 26 [4]) =
 

 (.ret (.ret, [.bl true], [.ro encLook [PUnit.unit], .own [.c (.sli 2 (.c 0) 1 (.v 4) (some (.v 4))), .c (.int .i64 c)] 70, .own [.a (encInt IntKind.u32) 4 a] 35, .many encTk xs 68, .ro (encInt IntKind.i64) p.3, .vec (encInt IntKind.u32) b 35, .vec (encP 3) (List.range m) 30, .vec encRf rs 48, .own [.c (.int .i64 r.1), .c (.int .i64 r.2), .c (.int .i64 r.3), .c (.int .i64 (↑r.4 : Int)), .c (.int .i64 r.5), .c (.int .i64 r.6), .c (.sb r.7)] 48, .own [.a (encInt IntKind.u32) 4 a] 35])) := by kernel_rfl
end Go.Proofs.YtafipmkobdhigaaDoor

/- Layer 11: two rows of the same words are the same. -/
namespace Go.Proofs.YtafipmkobdhigaaDoor
open Go Go.Proofs.YtafipmkobdhigaaDoor.Sx
set_option linter.unusedVariables false
theorem b16_eq : Tryd.f20.body = some b16 := by kernel_rfl
theorem same_call {p : InP} {c : Int} {xs : List Tk} {m : Nat} {rs : List Rf} {r : Rf} {a : List Int} (hl : a.length = 4) : ∀ (env : Env) (w : World) (vs : List Value), GlOk cfgM.gl env → Rep env (sSm p c xs m rs r a a) w → DenL env (vSm a) vs →
    Calls cfgM.P 20 ⟨vs⟩ w (Ends1 env (sSm p c xs m rs r a a) w (.bl true) (sSm p c xs m rs r a a)) := by
  intro env w vs hg hr hd
  have hb0 : env.length = 10 := hr.len
  refine AtK.begin (c := cfgM) Tryd.func20 b16_eq hg hr hd fun a0 hA => ?_
  refine pieceNTK2 (c := cfgM) cfgM_ok 2 [0, 1, 4] sm_pre (by omega) (by simp) hA ?_
  refine all_brp (by simp only [bne_iff_ne, ne_eq]; exact Iff.rfl) (fun h => by exfalso; first | exact h rfl | exact h trivial | (apply h; omega)) (fun _ => ?_)
  refine all_ret fun env1 a1 w1 hA1 => ?_
  simp only [Ex.to, Exit.then]
  have hA2 : AtK env [(0, 0)] ⟨w, inFoot env (sSm p c xs m rs r a a)⟩ env1 (fr 26 [0, 1] (vSm a)) (sSm p c xs m rs r a a) a1 w1 := hA1.on fun h => At.few (names := [0, 1]) (extra := [4]) (vals := vSm a) (ev := [.bl false]) h rfl
  refine wpS (by kernel_rfl) (wpS (by kernel_rfl) ?_)
  refine pieceTK2 (c := cfgM) cfgM_ok [0, 1, 5] sm_reg (by omega) (by simp) hA2 ?_
  refine all_ret fun env3 a3 w3 hA3 => ?_
  simp only [Ex.to, Exit.then]
  have hA4 := hA3.on fun h => h.gvals (vSm a ++ [.int .i64 ((0 : Nat) : Int)]) rfl
  refine wpB 0 (by kernel_rfl) (wpL (by kernel_rfl) (fun (i : Nat) a' w' => i ≤ a.length ∧ ∃ env', AtK env [(0, 0)] ⟨w, inFoot env (sSm p c xs m rs r a a)⟩ env' (fr 26 [0, 1, 5] (vSm a ++ [SVal.int IntKind.i64 ((i : Nat) : Int)])) (sSm p c xs m rs r a a) a' w') (fun (i : Nat) => a.length - i) (0 : Nat) ⟨Nat.zero_le _, env3, hA4⟩ ?_)
  rintro i a' w' ⟨hi, env', hA⟩
  refine (show round16.wp _ _ _ _ from wpS (by kernel_rfl) ?_)
  refine pieceTK2 (c := cfgM) cfgM_ok [0, 1, 5] sm_tm (by omega) (by simp) hA ?_
  refine all_brp (by simp only [decide_eq_true_eq]; exact Iff.rfl) (fun h1 => all_ret fun env1 a1 w1 hA1 => ?_) (fun h1 => all_ret fun env1 a1 w1 hA1 => ?_)
  · simp only [Ex.to, Exit.then]
    have hi' : i < a.length := by omega
    refine (show (rgt round16).wp _ _ _ _ from wpS (by kernel_rfl) (wpB 1 (by kernel_rfl) ?_))
    refine (show bb16.wp _ _ _ _ from ?_)
    refine pieceTK2 (c := cfgM) cfgM_ok [0, 1, 5, 4] sm_bb (by omega) (by simp) hA1 ?_
    simp only [Int.toNat_natCast]
    repeat' (first
      | refine all_needq (by simp only [decide_eq_true_eq, Bool.and_eq_true]; exact Iff.rfl) (by omega) ?_
      | refine all_brp (by simp only [bne_iff_ne, ne_eq]; exact Iff.rfl) (fun h => by exfalso; first | exact h rfl | exact h trivial | (apply h; omega)) (fun _ => ?_))
    refine all_ret fun env2 a2 w2 hA2 => ?_
    simp only [Ex.to, Exit.inBlock, Exit.then]
    have hA3 : AtK env [(0, 0)] ⟨w, inFoot env (sSm p c xs m rs r a a)⟩ env2 (fr 26 [0, 1, 5] (vSm a ++ [.int .i64 (i : Nat)])) (sSm p c xs m rs r a a) a2 w2 := hA2.on fun h => At.few (names := [0, 1, 5]) (extra := [4]) (vals := vSm a ++ [.int .i64 (i : Nat)]) (ev := [.bad]) h rfl
    refine (show inc16.wp _ _ _ _ from ?_)
    refine pieceTK2 (c := cfgM) cfgM_ok [0, 1, 5] sm_inc (by omega) (by simp) hA3 ?_
    refine all_needp (by simp only [inR_i64]; exact Iff.rfl) (by omega) fun _ => all_ret fun env4 a4 w4 hA4 => ?_
    exact ⟨i + 1, ⟨by omega, env4, hA4⟩, by omega⟩
  · simp only [Ex.to, Exit.then, Exit.inBlock, if_true]
    refine (show end16.wp _ _ _ _ from ?_)
    refine pieceTK2 (c := cfgM) cfgM_ok [4] sm_end (by omega) (by simp) hA1 ?_
    exact all_ret fun env4 a4 w4 hA4 => hA4.out (c := cfgM) (by kernel_rfl)
end Go.Proofs.YtafipmkobdhigaaDoor

/- BarrierPlays: the words and their likeness, in a round's state. -/
namespace Go.Proofs.YtafipmkobdhigaaDoor
open Go Go.Proofs.YtafipmkobdhigaaDoor.Sx
set_option linter.unusedVariables false
theorem ends_new {c : Cfg} (hsm : SmOk c) {n : Nat} {f : FuncId} {args : List SVal} {S : St} {t : T (SVal × St)} (ht : callF c n f args S = t) (hcal : callable c.P f = true) {s : SVal} {S' : St} (h : All (fun r => r = (s, S')) t) :
    ∀ (env : Env) (w : World) (vs : List Value), GlOk c.gl env → Rep env S w → DenL env args vs → Calls c.P f ⟨vs⟩ w (Ends1 env S w s S') := by
  intro env w vs hg hr hd
  obtain ⟨x, h1, rfl⟩ := T.all_at h.h
  rw [← ht] at h1
  exact (callF_ok hsm n f args S s S' env w vs h1 hcal hg hr hd).mono fun e w' he => he
set_option maxRecDepth 100000 in
theorem t_words {p : InP} {l : List Int} {c : Int} {xs : List Tk} {m : Nat} {rs : List Rf} {lw : List Int} {r : Rf} : callF cfgM 100 21 [.ptr 1 0] (s9g p l c xs m rs lw r) =
  (.need true (.need true (.need true (.need (decide (4 ≤ l.length)) (.need (decide (4 = (List.take 4 (List.drop 0 l)).length)) (.need (decide (4 = (List.take 4 (List.drop 0 l)).length * 1)) (.need ((List.take 4 (List.drop 0 l)).all fun x => ((encInt .u32).enc x).all scalar)
   (.ret (.sli 9 (.c 0) 1 (.v 4) (some (.v 4)), s9g p l c xs m rs lw r ++ [.own [.a (encInt .u32) (List.take 4 (List.drop 0 l)).length (List.take 4 (List.drop 0 l))] 35]))))))))) := by kernel_rfl
theorem scalar_all (l : List Int) : (l.all fun x => ((encInt .u32).enc x).all scalar) = true := by
  rw [List.all_eq_true]; intro x _; rfl
theorem words_call {p : InP} {l : List Int} {c : Int} {xs : List Tk} {m : Nat} {rs : List Rf} {lw : List Int} {r : Rf} (hl : l.length = 4) : ∀ (env : Env) (w : World) (vs : List Value), GlOk cfgM.gl env → Rep env (s9g p l c xs m rs lw r) w → DenL env [.ptr 1 0] vs →
    Calls cfgM.P 21 ⟨vs⟩ w (Ends1 env (s9g p l c xs m rs lw r) w (.sli 9 (.c 0) 1 (.v 4) (some (.v 4))) (s9g p l c xs m rs lw r ++ [.own [.a (encInt .u32) 4 l] 35])) := by
  refine ends_new cfgM_ok t_words (by kernel_rfl) ?_
  have h4 : List.take 4 (List.drop 0 l) = l := by rw [List.drop_zero, List.take_of_length_le (by omega)]
  rw [h4, hl]
  exact all_need rfl fun _ => all_need rfl fun _ => all_need rfl fun _ => all_need (by decide) fun _ => all_need (by decide) fun _ => all_need (by decide) fun _ => all_need (scalar_all l) fun _ => all_ret rfl
/-- the second half of a round: a taker's step, the words, their likeness -/
noncomputable def cfgE (p : InP) (l : List Int) (c : Int) (xs : List Tk) (l2 : List Int) (c2 : Int) (xs2 : List Tk) (m : Nat) (rs : List Rf) (r : Rf) : Cfg := { P := Tryd.prog, ex := exI, gl := [(0, 0)], sm := fun f => match f with
  | 19 => some (smPre 4 (gStep 4 l c xs))
  | 21 => some (smEq [.ptr 1 0] (s9g p l2 c2 xs2 m rs l2 r) (l2.length = 4) (.sli 9 (.c 0) 1 (.v 4) (some (.v 4))) (s9g p l2 c2 xs2 m rs l2 r ++ [.own [.a (encInt .u32) 4 l2] 35]))
  | 20 => some (smEq (vSm l2) (sSm p c2 xs2 m rs r l2 l2) (l2.length = 4) (.bl true) (sSm p c2 xs2 m rs r l2 l2))
  | _ => none }
theorem cfgE_ok {p : InP} {l : List Int} {c : Int} {xs : List Tk} {l2 : List Int} {c2 : Int} {xs2 : List Tk} {m : Nat} {rs : List Rf} {r : Rf} : SmOk (cfgE p l c xs l2 c2 xs2 m rs r) := by
  intro f g h
  simp only [cfgE] at h
  split at h
  · simp only [Option.some.injEq] at h; subst h
    exact smPre_ok (c := cfgM) (gl_lt (by omega)) gStep_ok
  · simp only [Option.some.injEq] at h; subst h
    exact smEq_ok (c := cfgE p l c xs l2 c2 xs2 m rs r) fun h => words_call h
  · simp only [Option.some.injEq] at h; subst h
    exact smEq_ok (c := cfgE p l c xs l2 c2 xs2 m rs r) fun h => same_call h
  · cases h
end Go.Proofs.YtafipmkobdhigaaDoor

namespace Go.Proofs.YtafipmkobdhigaaDoor
open Go Go.Proofs.YtafipmkobdhigaaDoor.Sx
set_option linter.unusedVariables false
set_option maxRecDepth 100000 in
theorem x_step {p : InP} {l : List Int} {c : Int} {xs : List Tk} {l2 : List Int} {c2 : Int} {xs2 : List Tk} {m : Nat} {rs : List Rf} {lw : List Int} {r : Rf} {i : Nat} {k : Int} : (exec (cfgE p l c xs l2 c2 xs2 m rs r) 100 (restC 4 bb9b) (fr 209 n9g (v9g p m lw.length i k)) (s9g p l c xs m rs lw r)).bind (canonK 5 [(0,0)] 209 n9e) =
 

 (.need (decide ((0 : Int) ≤ k) && decide (k.toNat < m))

 (.need (decide (k.toNat < (List.range m).length))

 (.eq ([Blk.ro encLook [PUnit.unit], .own [.c (.sli 2 (.c 0) 1 (.v 4) (some (.v 4))), .c (.int .i64 c)] 70, .own [.a (encInt IntKind.u32) 4 l] 35, .many encTk xs 68] = [Blk.ro encLook [PUnit.unit], .own [.c (.sli 2 (.c 0) 1 (.v 4) (some (.v 4))), .c (.int .i64 c)] 70, .own [.a (encInt IntKind.u32) 4 l] 35, .many encTk xs 68] ∧ l.length = 4 ∧ (List.range m).getD k.toNat 0 < xs.length ∧ TkOk (xs.getD ((List.range m).getD k.toNat 0) encTk.dflt))

 (.br (!doneP (xs.getD ((List.range m).getD k.toNat 0) { at' := (0 : Int), n := (0 : Int), rounds := (0 : Int), phase := 0, came := (0 : Int), passed := (0 : Int) }) l == r.7)
 (.eq (T.need (decide (k.toNat < (List.range m).length)) (T.ret (((encP (3 : Nat)).enc ((List.range m).getD k.toNat (encP (3 : Nat)).dflt)).getD (0 : Nat) SVal.bad)) = T.need (decide (k.toNat < (List.range m).length)) (T.ret (((encP (3 : Nat)).enc ((List.range m).getD k.toNat (encP (3 : Nat)).dflt)).getD (0 : Nat) SVal.bad)))
 (.eq (T.ret (SVal.sb r.7) = T.ret (SVal.sb r.7))
 (.eq (T.ret (SVal.sb r.7) = T.ret (SVal.sb r.7))

 (.ret (.ret, [.sli 4 (.c 0) 1 (.v p.3.length) (some (.v p.4)), .ptr 1 0, .sli 5 (.c 0) 1 (.v lw.length) none, .sli 6 (.c 0) 1 (.v m) none, .sli 7 (.c 0) 7 (.v m) none, .int .i64 (↑i : Int)], [.ro encLook [PUnit.unit], .own [.c (.sli 2 (.c 0) 1 (.v 4) (some (.v 4))), .c (.int .i64 (usesP (xs.getD ((List.range m).getD k.toNat 0) { at' := (0 : Int), n := (0 : Int), rounds := (0 : Int), phase := 0, came := (0 : Int), passed := (0 : Int) }) l c))] 70, .own [.a (encInt IntKind.u32) 4 (wordsP (xs.getD ((List.range m).getD k.toNat 0) { at' := (0 : Int), n := (0 : Int), rounds := (0 : Int), phase := 0, came := (0 : Int), passed := (0 : Int) }) l)] 35, .many encTk (xs.set ((List.range m).getD k.toNat 0) (tkP (xs.getD ((List.range m).getD k.toNat 0) { at' := (0 : Int), n := (0 : Int), rounds := (0 : Int), phase := 0, came := (0 : Int), passed := (0 : Int) }) l)) 68, .ro (encInt IntKind.i64) p.3, .vec (encInt IntKind.u32) lw 35, .vec (encP 3) (List.range m) 30, .vec encRf rs 48])))))

 (.eq ([SVal.ptr 1 0] = [SVal.ptr 1 0] ∧ [Blk.ro encLook [PUnit.unit], .own [.c (.sli 2 (.c 0) 1 (.v 4) (some (.v 4))), .c (.int .i64 (usesP (xs.getD ((List.range m).getD k.toNat 0) { at' := (0 : Int), n := (0 : Int), rounds := (0 : Int), phase := 0, came := (0 : Int), passed := (0 : Int) }) l c))] 70, .own [.a (encInt IntKind.u32) 4 (wordsP (xs.getD ((List.range m).getD k.toNat 0) { at' := (0 : Int), n := (0 : Int), rounds := (0 : Int), phase := 0, came := (0 : Int), passed := (0 : Int) }) l)] 35, .many encTk (xs.set ((List.range m).getD k.toNat 0) (tkP (xs.getD ((List.range m).getD k.toNat 0) { at' := (0 : Int), n := (0 : Int), rounds := (0 : Int), phase := 0, came := (0 : Int), passed := (0 : Int) }) l)) 68, .ro (encInt IntKind.i64) p.3, .vec (encInt IntKind.u32) lw 35, .vec (encP 3) (List.range m) 30, .vec encRf rs 48, .own [.c (.int .i64 r.1), .c (.int .i64 r.2), .c (.int .i64 r.3), .c (.int .i64 (↑r.4 : Int)), .c (.int .i64 r.5), .c (.int .i64 r.6), .c (.sb r.7)] 48] = [Blk.ro encLook [PUnit.unit], .own [.c (.sli 2 (.c 0) 1 (.v 4) (some (.v 4))), .c (.int .i64 c2)] 70, .own [.a (encInt IntKind.u32) 4 l2] 35, .many encTk xs2 68, .ro (encInt IntKind.i64) p.3, .vec (encInt IntKind.u32) l2 35, .vec (encP 3) (List.range m) 30, .vec encRf rs 48, .own [.c (.int .i64 r.1), .c (.int .i64 r.2), .c (.int .i64 r.3), .c (.int .i64 (↑r.4 : Int)), .c (.int .i64 r.5), .c (.int .i64 r.6), .c (.sb r.7)] 48] ∧ l2.length = 4)

 (.eq ([SVal.sli 9 (.c 0) 1 (.v 4) (some (.v 4)), .sli 5 (.c 0) 1 (.v lw.length) none] = [SVal.sli 9 (.c 0) 1 (.v 4) (some (.v 4)), .sli 5 (.c 0) 1 (.v l2.length) none] ∧ [Blk.ro encLook [PUnit.unit], .own [.c (.sli 2 (.c 0) 1 (.v 4) (some (.v 4))), .c (.int .i64 c2)] 70, .own [.a (encInt IntKind.u32) 4 l2] 35, .many encTk xs2 68, .ro (encInt IntKind.i64) p.3, .vec (encInt IntKind.u32) l2 35, .vec (encP 3) (List.range m) 30, .vec encRf rs 48, .own [.c (.int .i64 r.1), .c (.int .i64 r.2), .c (.int .i64 r.3), .c (.int .i64 (↑r.4 : Int)), .c (.int .i64 r.5), .c (.int .i64 r.6), .c (.sb r.7)] 48, .own [.a (encInt IntKind.u32) 4 l2] 35] = [Blk.ro encLook [PUnit.unit], .own [.c (.sli 2 (.c 0) 1 (.v 4) (some (.v 4))), .c (.int .i64 c2)] 70, .own [.a (encInt IntKind.u32) 4 l2] 35, .many encTk xs2 68, .ro (encInt IntKind.i64) p.3, .vec (encInt IntKind.u32) l2 35, .vec (encP 3) (List.range m) 30, .vec encRf rs 48, .own [.c (.int .i64 r.1), .c (.int .i64 r.2), .c (.int .i64 r.3), .c (.int .i64 (↑r.4 : Int)), .c (.int .i64 r.5), .c (.int .i64 r.6), .c (.sb r.7)] 48, .own [.a (encInt IntKind.u32) 4 l2] 35] ∧ l2.length = 4)

 (.need (decide ((0 : Int) ≤ k) && decide (k.toNat < m))

 (.need (decide (k.toNat < (List.range m).length))

 (.need (decide ((List.range m).getD k.toNat 0 < xs2.length))

 (.br ((xs2.getD ((List.range m).getD k.toNat 0) { at' := (0 : Int), n := (0 : Int), rounds := (0 : Int), phase := 0, came := (0 : Int), passed := (0 : Int) }).came != r.5)
 (.eq (T.need (decide (k.toNat < (List.range m).length)) (T.ret (((encP (3 : Nat)).enc ((List.range m).getD k.toNat (encP (3 : Nat)).dflt)).getD (0 : Nat) SVal.bad)) = T.need (decide (k.toNat < (List.range m).length)) (T.ret (((encP (3 : Nat)).enc ((List.range m).getD k.toNat (encP (3 : Nat)).dflt)).getD (0 : Nat) SVal.bad)))
 (.eq (T.ret (SVal.sb r.7) = T.ret (SVal.sb r.7))
 (.eq (T.ret (SVal.sb r.7) = T.ret (SVal.sb r.7))
 (.eq (T.need (decide (k.toNat < (List.range m).length)) (T.ret (((encP (3 : Nat)).enc ((List.range m).getD k.toNat (encP (3 : Nat)).dflt)).getD (0 : Nat) SVal.bad)) = T.need (decide (k.toNat < (List.range m).length)) (T.ret (((encP (3 : Nat)).enc ((List.range m).getD k.toNat (encP (3 : Nat)).dflt)).getD (0 : Nat) SVal.bad)))
 (.eq (T.ret (SVal.int IntKind.i64 r.5) = T.ret (SVal.int IntKind.i64 r.5))
 (.eq (T.ret (SVal.int IntKind.i64 r.5) = T.ret (SVal.int IntKind.i64 r.5))

 (.ret (.ret, [.sli 4 (.c 0) 1 (.v p.3.length) (some (.v p.4)), .ptr 1 0, .sli 5 (.c 0) 1 (.v lw.length) none, .sli 6 (.c 0) 1 (.v m) none, .sli 7 (.c 0) 7 (.v m) none, .int .i64 (↑i : Int)], [.ro encLook [PUnit.unit], .own [.c (.sli 2 (.c 0) 1 (.v 4) (some (.v 4))), .c (.int .i64 c2)] 70, .own [.a (encInt IntKind.u32) 4 l2] 35, .many encTk xs2 68, .ro (encInt IntKind.i64) p.3, .vec (encInt IntKind.u32) l2 35, .vec (encP 3) (List.range m) 30, .vec encRf rs 48]))))))))

 (.need (decide ((0 : Int) ≤ k) && decide (k.toNat < m))

 (.need (decide (k.toNat < (List.range m).length))

 (.need (decide ((List.range m).getD k.toNat 0 < xs2.length))
 (.eq (T.need (decide (k.toNat < (List.range m).length)) (T.ret (((encP (3 : Nat)).enc ((List.range m).getD k.toNat (encP (3 : Nat)).dflt)).getD (0 : Nat) SVal.bad)) = T.need (decide (k.toNat < (List.range m).length)) (T.ret (((encP (3 : Nat)).enc ((List.range m).getD k.toNat (encP (3 : Nat)).dflt)).getD (0 : Nat) SVal.bad)))
 (.eq (T.ret (SVal.sb r.7) = T.ret (SVal.sb r.7))
 (.eq (T.ret (SVal.sb r.7) = T.ret (SVal.sb r.7))
 (.eq (T.need (decide (k.toNat < (List.range m).length)) (T.ret (((encP (3 : Nat)).enc ((List.range m).getD k.toNat (encP (3 : Nat)).dflt)).getD (0 : Nat) SVal.bad)) = T.need (decide (k.toNat < (List.range m).length)) (T.ret (((encP (3 : Nat)).enc ((List.range m).getD k.toNat (encP (3 : Nat)).dflt)).getD (0 : Nat) SVal.bad)))
 (.eq (T.ret (SVal.int IntKind.i64 r.5) = T.ret (SVal.int IntKind.i64 r.5))
 (.eq (T.ret (SVal.int IntKind.i64 r.5) = T.ret (SVal.int IntKind.i64 r.5))
 (.eq (T.need (decide (k.toNat < (List.range m).length)) (T.ret (((encP (3 : Nat)).enc ((List.range m).getD k.toNat (encP (3 : Nat)).dflt)).getD (0 : Nat) SVal.bad)) = T.need (decide (k.toNat < (List.range m).length)) (T.ret (((encP (3 : Nat)).enc ((List.range m).getD k.toNat (encP (3 : Nat)).dflt)).getD (0 : Nat) SVal.bad)))
 (.eq (T.ret (SVal.int IntKind.i64 r.6) = T.ret (SVal.int IntKind.i64 r.6))
 (.eq (T.ret (SVal.int IntKind.i64 r.6) = T.ret (SVal.int IntKind.i64 r.6))

 (.br ((xs2.getD ((List.range m).getD k.toNat 0) { at' := (0 : Int), n := (0 : Int), rounds := (0 : Int), phase := 0, came := (0 : Int), passed := (0 : Int) }).passed != r.6)

 (.ret (.ret, [.sli 4 (.c 0) 1 (.v p.3.length) (some (.v p.4)), .ptr 1 0, .sli 5 (.c 0) 1 (.v lw.length) none, .sli 6 (.c 0) 1 (.v m) none, .sli 7 (.c 0) 7 (.v m) none, .int .i64 (↑i : Int)], [.ro encLook [PUnit.unit], .own [.c (.sli 2 (.c 0) 1 (.v 4) (some (.v 4))), .c (.int .i64 c2)] 70, .own [.a (encInt IntKind.u32) 4 l2] 35, .many encTk xs2 68, .ro (encInt IntKind.i64) p.3, .vec (encInt IntKind.u32) l2 35, .vec (encP 3) (List.range m) 30, .vec encRf rs 48]))

 (.ret (.normal, [.sli 4 (.c 0) 1 (.v p.3.length) (some (.v p.4)), .ptr 1 0, .sli 5 (.c 0) 1 (.v lw.length) none, .sli 6 (.c 0) 1 (.v m) none, .sli 7 (.c 0) 7 (.v m) none, .int .i64 (↑i : Int)], [.ro encLook [PUnit.unit], .own [.c (.sli 2 (.c 0) 1 (.v 4) (some (.v 4))), .c (.int .i64 c2)] 70, .own [.a (encInt IntKind.u32) 4 l2] 35, .many encTk xs2 68, .ro (encInt IntKind.i64) p.3, .vec (encInt IntKind.u32) l2 35, .vec (encP 3) (List.range m) 30, .vec encRf rs 48]))))))))))))))))))))))))) := by kernel_rfl
end Go.Proofs.YtafipmkobdhigaaDoor

/- BarrierPlays: a round. -/
namespace Go.Proofs.YtafipmkobdhigaaDoor
open Go Go.Proofs.YtafipmkobdhigaaDoor.Sx
set_option linter.unusedVariables false
abbrev Q9 (w0 : From) : Exit → Act → World → Prop := bodyPost Tryd.prog Tryd.f3 (Said w0)
structure Ix9 where
  i : Nat
  l : List Int
  c : Int
  xs : List Tk
  rs : List Rf
structure Pair (m : Nat) (l : List Int) (xs : List Tk) (rs : List Rf) : Prop where
  len : l.length = 4
  u32 : U32s l
  lx : xs.length = m
  lr : rs.length = m
  rel : ∀ k, k < m → (rs.getD k encRf.dflt).done = false → Rel (xs.getD k encTk.dflt) (rs.getD k encRf.dflt)
def Inv9 (w0 : From) (p : InP) (m : Nat) (j : Ix9) (a : Act) (w : World) : Prop :=
  j.i ≤ 120 ∧ Pair m j.l j.xs j.rs ∧ ∃ env, At [(0, 0)] w0 env (fr 209 n9e (v9b p m j.l.length ++ [.int .i64 (j.i : Nat)])) (s9b p j.l j.c j.xs m j.rs j.l) a w
abbrev R9 (w0 : From) (p : InP) (m : Nat) (i : Nat) : Exit → Act → World → Prop :=
  Exit.then (fun a' w' => ∃ k, Inv9 w0 p m k a' w' ∧ 120 - k.i < 120 - i) (Exit.inBlock 2 (Exit.then (end9.wp Tryd.prog (Q9 w0)) (Q9 w0)))
abbrev K9' (w0 : From) (p : InP) (m : Nat) (i : Nat) : Exit → Act → World → Prop :=
  Exit.inBlock 3 (Exit.then (inc9b.wp Tryd.prog (R9 w0 p m i)) (R9 w0 p m i))
theorem end9_ok {w0 : From} {p : InP} {m : Nat} {l : List Int} {c : Int} {xs : List Tk} {rs : List Rf} {i : Nat} {env : Env} {a : Act} {w : World} (h : At [(0, 0)] w0 env (fr 209 n9e (v9b p m l.length ++ [.int .i64 (i : Nat)])) (s9b p l c xs m rs l) a w) : end9.wp Tryd.prog (Q9 w0) a w :=
  pieceT0 (c := cfgM) cfgM_ok [6] x_endb h (all_ret fun env' a' w' hA' => hA'.said (by kernel_rfl))
theorem inc9_ok {w0 : From} {p : InP} {m : Nat} {i : Nat} (hi : i < 120) {l : List Int} {c : Int} {xs : List Tk} {rs : List Rf} (hp : Pair m l xs rs) {env : Env} {a : Act} {w : World} (h : At [(0, 0)] w0 env (fr 209 n9e (v9b p m l.length ++ [.int .i64 (i : Nat)])) (s9b p l c xs m rs l) a w) : inc9b.wp Tryd.prog (R9 w0 p m i) a w := by
  refine pieceT0 (c := cfgM) cfgM_ok n9e x_incb h ?_
  refine all_needp (by simp only [inR_i64]; exact Iff.rfl) (by omega) fun _ => all_ret fun env' a' w' hA' => ?_
  exact ⟨⟨i + 1, l, c, xs, rs⟩, ⟨by simp only; omega, hp, env', hA'⟩, by simp only; omega⟩
theorem rel_ok {t : Tk} {r : Rf} {l : List Int} (h : Rel t r) (hl : l.length = 4) : RfOk r l := by
  have h1 := h.ok
  have h2 := h1.rounds; have h3 := h1.came
  refine ⟨?_, ?_, ?_, by omega⟩
  · rw [h.next]; have := h1.phase; omega
  · rw [← h.at']; exact h1.at'
  · rw [← h.came, ← h.passed]; split at h3 <;> omega
theorem rw_len (r : Rf) (l : List Int) : (rwP r l).length = l.length := by
  unfold rwP; split <;> simp
theorem rStep_len (r : Rf) (l : List Int) : (rStep r l).2.length = l.length := by
  unfold rStep; split
  · exact rw_len r l
  · rfl
theorem pair_step {m : Nat} {l : List Int} {xs : List Tk} {rs : List Rf} (h : Pair m l xs rs) {k : Nat} (hk : k < m) (hd : (rs.getD k encRf.dflt).done = false) :
    Both (xs.getD k encTk.dflt) (rs.getD k encRf.dflt) l ∧ Pair m (rStep (rs.getD k encRf.dflt) l).2 (xs.set k (tkP (xs.getD k encTk.dflt) l)) (rs.set k (rStep (rs.getD k encRf.dflt) l).1) := by
  have hb := both_step (h.rel k hk hd) h.u32
  refine ⟨hb, by rw [rStep_len]; exact h.len, by rw [← hb.words]; exact hb.u32, by simp [h.lx], by simp [h.lr], fun j hj hdj => ?_⟩
  by_cases hjk : j = k
  · subst hjk
    rw [Sx.getD_set_self (by rw [h.lr]; exact hj)] at hdj
    rw [Sx.getD_set_self (by rw [h.lx]; exact hj), Sx.getD_set_self (by rw [h.lr]; exact hj)]
    exact hb.rel hdj
  · rw [Sx.getD_set_ne (fun h => hjk h.symm)] at hdj ⊢
    rw [Sx.getD_set_ne (fun h => hjk h.symm)]
    exact h.rel j hj hdj
end Go.Proofs.YtafipmkobdhigaaDoor

/- BarrierPlays: its rounds. -/
namespace Go.Proofs.YtafipmkobdhigaaDoor
open Go Go.Proofs.YtafipmkobdhigaaDoor.Sx
set_option linter.unusedVariables false
set_option maxHeartbeats 1000000 in
/-- behind the document's step -/
theorem step9_ok {w0 : From} {p : InP} {m : Nat} {i : Nat} (hi : i < 120) {l : List Int} {c : Int} {xs : List Tk} {rs : List Rf} (hp : Pair m l xs rs) {k : Int} (h0 : 0 ≤ k) (hk : k.toNat < m)
    (hd : (rs.getD k.toNat encRf.dflt).done = false) {env : Env} {a : Act} {w : World}
    (h : At [(0, 0)] w0 env (fr 209 n9g (v9g p m (rStep (rs.getD k.toNat encRf.dflt) l).2.length i k)) (s9g p l c xs m (rs.set k.toNat (rStep (rs.getD k.toNat encRf.dflt) l).1) (rStep (rs.getD k.toNat encRf.dflt) l).2 (rStep (rs.getD k.toNat encRf.dflt) l).1) a w) :
    (restC 4 bb9b).wp Tryd.prog (K9' w0 p m i) a w := by
  obtain ⟨hb, hp'⟩ := pair_step hp hk hd
  have hr : (List.range m).getD k.toNat 0 = k.toNat := getD_range hk
  have hx : xs.getD ((List.range m).getD k.toNat 0) ⟨0, 0, 0, 0, 0, 0⟩ = xs.getD k.toNat encTk.dflt := by rw [hr]; rfl
  have hrel := hp.rel _ hk hd
  generalize hq : (rStep (rs.getD k.toNat encRf.dflt) l).1 = r' at *
  generalize hw : (rStep (rs.getD k.toNat encRf.dflt) l).2 = l' at *
  generalize hrs' : rs.set k.toNat r' = rs' at *
  have b1 := hb.done; have b2 := hb.words; have b3 := hb.came; have b4 := hb.passed
  rw [hq] at b1 b3 b4
  rw [hw] at b2
  refine pieceT0 (c := cfgE p l c xs l' (usesP (xs.getD k.toNat encTk.dflt) l c) (xs.set k.toNat (tkP (xs.getD k.toNat encTk.dflt) l)) m rs' r') cfgE_ok n9e x_step h ?_
  rw [hx, hr]
  have hxx : (xs.set k.toNat (tkP (xs.getD k.toNat encTk.dflt) l)).getD k.toNat ⟨0, 0, 0, 0, 0, 0⟩ = tkP (xs.getD k.toNat encTk.dflt) l := Sx.getD_set_self (by rw [hp.lx]; exact hk) _ _
  have hxl : (xs.set k.toNat (tkP (xs.getD k.toNat encTk.dflt) l)).length = m := hp'.lx
  rw [hxx, hxl, List.length_range]
  have hw4 : wordsP (xs.getD k.toNat encTk.dflt) l = l' := b2
  rw [hw4]
  refine all_needq (by simp only [decide_eq_true_eq, Bool.and_eq_true]; exact Iff.rfl) (by omega) ?_
  refine all_needq (by simp only [decide_eq_true_eq]; exact Iff.rfl) (by omega) ?_
  refine all_eq ⟨rfl, hp.len, by rw [hp.lx]; exact hk, hrel.ok⟩ ?_
  refine all_brp (by simp only [Bool.not_eq_true', beq_eq_false_iff_ne, ne_eq]; exact Iff.rfl) (fun h => by exact (h b1).elim) (fun _ => ?_)
  refine all_eq ⟨rfl, rfl, hp'.len⟩ (all_eq ⟨rfl, rfl, hp'.len⟩ ?_)
  refine all_needq (by simp only [decide_eq_true_eq, Bool.and_eq_true]; exact Iff.rfl) (by omega) ?_
  refine all_needq (by simp only [decide_eq_true_eq]; exact Iff.rfl) (by omega) ?_
  refine all_needq (by simp only [decide_eq_true_eq]; exact Iff.rfl) (by omega) ?_
  refine all_brp (by simp only [bne_iff_ne, ne_eq]; exact Iff.rfl) (fun h => by exact (h b3).elim) (fun _ => ?_)
  refine all_needq (by simp only [decide_eq_true_eq, Bool.and_eq_true]; exact Iff.rfl) (by omega) ?_
  refine all_needq (by simp only [decide_eq_true_eq]; exact Iff.rfl) (by omega) ?_
  refine all_needq (by simp only [decide_eq_true_eq]; exact Iff.rfl) (by omega) ?_
  repeat' (first | refine all_eq rfl ?_)
  refine all_brp (by simp only [bne_iff_ne, ne_eq]; exact Iff.rfl) (fun h => by exact (h b4).elim) (fun _ => ?_)
  refine all_ret fun env' a' w' hA' => ?_
  simp only [Ex.to, Exit.inBlock, Exit.then]
  exact inc9_ok hi hp' hA'
set_option maxHeartbeats 1000000 in
theorem round9b_ok {w0 : From} {p : InP} {m : Nat} {j : Ix9} {a : Act} {w : World} (h : Inv9 w0 p m j a w) : round9b.wp Tryd.prog (R9 w0 p m j.i) a w := by
  obtain ⟨i, l, c, xs, rs⟩ := j
  obtain ⟨hi, hp, env, hA⟩ := h
  simp only at hi hp hA ⊢
  have out : ∀ {env' : Env} {a' : Act} {w' : World}, At [(0, 0)] w0 env' (fr 209 n9e (v9b p m l.length ++ [.int .i64 (i : Nat)])) (s9b p l c xs m rs l) a' w' → R9 w0 p m i (.exit 2) a' w' := by
    intro env' a' w' h
    simp only [R9, Exit.then, Exit.inBlock, if_true]
    exact end9_ok h
  refine wpS (by kernel_rfl) ?_
  refine pieceT0 (c := cfgM) cfgM_ok n9e x_tmb hA ?_
  refine all_brp (by simp only [decide_eq_true_eq]; exact Iff.rfl) (fun h1 => ?_) (fun h1 => all_ret fun _ _ _ h => out h)
  refine all_brp (by simp only [decide_eq_true_eq]; exact Iff.rfl) (fun h3 => all_ret fun env1 a1 w1 hA1 => ?_) (fun h2 => all_ret fun _ _ _ h => out h)
  have hi2 : i < 120 := by omega
  refine (show (rgt round9b).wp Tryd.prog (R9 w0 p m i) a1 w1 from wpS (by kernel_rfl) (wpB 3 (by kernel_rfl) ?_))
  refine (show bb9b.wp Tryd.prog (K9' w0 p m i) a1 w1 from ?_)
  have next : ∀ {env' : Env} {a' : Act} {w' : World} {k : Int}, At [(0, 0)] w0 env' (fr 209 n9f (v9b p m l.length ++ [.int .i64 (i : Nat), .int .i64 k])) (s9b p l c xs m rs l) a' w' → K9' w0 p m i (.exit 3) a' w' := by
    intro env' a' w' k h
    simp only [K9', Exit.inBlock, if_true, Exit.then]
    exact inc9_ok hi2 hp (At.few (names := n9e) (extra := [17]) (vals := v9b p m l.length ++ [.int .i64 (i : Nat)]) (ev := [.int .i64 k]) h rfl)
  refine pieceNT0 (c := cfgM) cfgM_ok 2 n9f x_k hA1 ?_
  generalize p.picks.getD (i : Int).toNat 0 = k
  refine all_needq (by simp only [decide_eq_true_eq, Bool.and_eq_true]; exact Iff.rfl) (by omega) ?_
  refine all_needq (by simp only [decide_eq_true_eq]; exact Iff.rfl) (by omega) ?_
  refine all_brp (by simp only [decide_eq_true_eq]; exact Iff.rfl) (fun k0 => all_ret fun _ _ _ h => next h) (fun k0 => ?_)
  refine all_brp (by simp only [decide_eq_true_eq]; exact Iff.rfl) (fun k1 => all_ret fun _ _ _ h => next h) (fun k1 => ?_)
  have hkm : k.toNat < m := by omega
  have hlr := hp.lr
  refine all_needq (by simp only [decide_eq_true_eq, Bool.and_eq_true]; exact Iff.rfl) (by omega) ?_
  refine all_needq (by simp only [decide_eq_true_eq]; exact Iff.rfl) (by omega) ?_
  refine all_br (fun kd => all_ret fun _ _ _ h => next h) (fun kd => ?_)
  have kd' : (rs.getD k.toNat encRf.dflt).done = false := kd
  refine all_ret fun env2 a2 w2 hA2 => ?_
  simp only [Ex.to, Exit.then]
  have hrel := hp.rel _ hkm kd'
  have hok := rel_ok hrel hp.len
  have hst : rStep (rs.getD k.toNat encRf.dflt) l = match okR (rs.getD k.toNat encRf.dflt) l with | true => (rfP (rs.getD k.toNat encRf.dflt) l, rwP (rs.getD k.toNat encRf.dflt) l) | false => (outR (rs.getD k.toNat encRf.dflt), l) := rfl
  have hfin := fun {env a w} => step9_ok (w0 := w0) (p := p) (i := i) hi2 (c := c) hp (by omega) hkm kd' (env := env) (a := a) (w := w)
  cases hq : okR (rs.getD k.toNat encRf.dflt) l with
  | true =>
    simp only [hq] at hst
    rw [hst] at hfin
    refine pieceNT0 (c := cfgRf p l c xs m rs l (rs.getD k.toNat encRf.dflt)) cfgRf_ok 2 n9g x_rok hA2 ?_
    have hp7 := pR7_eq (rfP (rs.getD k.toNat encRf.dflt) l) (rs := rs) (k := k.toNat) (by omega)
    rw [hp7]
    simp only [pR1, pR2, pR3, pR4, pR5, pR6, setR_len]
    repeat' (first
      | refine all_needq (by simp only [decide_eq_true_eq, Bool.and_eq_true]; exact Iff.rfl) (by omega) ?_
      | refine all_eq ⟨by first | exact True.intro | rfl, by first | exact True.intro | rfl, hok, hq⟩ ?_)
    refine all_ret fun env3 a3 w3 hA3 => ?_
    simp only [Ex.to, Exit.then]
    refine hfin (env := env3) ?_
    simp only [rw_len]
    exact hA3
  | false =>
    simp only [hq] at hst
    rw [hst] at hfin
    refine pieceNT0 (c := cfgN p l c xs m rs l (rs.getD k.toNat encRf.dflt)) cfgN_ok 2 n9g x_rno hA2 ?_
    have hp7 := pR7_eq (outR (rs.getD k.toNat encRf.dflt)) (rs := rs) (k := k.toNat) (by omega)
    rw [hp7]
    simp only [pR1, pR2, pR3, pR4, pR5, pR6, setR_len]
    repeat' (first
      | refine all_needq (by simp only [decide_eq_true_eq, Bool.and_eq_true]; exact Iff.rfl) (by omega) ?_
      | refine all_eq ⟨by first | exact True.intro | rfl, by first | exact True.intro | rfl, hok, hq⟩ ?_)
    refine all_ret fun env3 a3 w3 hA3 => ?_
    simp only [Ex.to, Exit.then]
    exact hfin (env := env3) hA3
end Go.Proofs.YtafipmkobdhigaaDoor

/- BarrierPlays: the making of both kinds of waiters. -/
namespace Go.Proofs.YtafipmkobdhigaaDoor
open Go Go.Proofs.YtafipmkobdhigaaDoor.Sx
set_option linter.unusedVariables false
/-- raw numbers, brought nearer -/
def nkP (k : K9) : K9 := ⟨if 1000 < k.at' then 0 else if k.at' < -1000 then 0 else k.at', k.n, k.rounds⟩
abbrev mkT (q : K9) : Tk := ⟨q.at', q.n, imin (imax q.rounds 0) 1000, 0, 0, 0⟩
abbrev mkR' (q : K9) : Rf := ⟨q.at', q.n, if q.rounds < 0 then 0 else if 1000 < q.rounds then 1000 else q.rounds, 1, 0, 0, false⟩
def okK (k : K9) : Bool := decide (1 ≤ k.n ∧ k.n ≤ 8)
/-- of which there may be a waiter -/
def ksP (p : InP) (i : Nat) : List K9 := ((p.kinds.take i).map nkP).filter okK
def xsK (p : InP) (i : Nat) : List Tk := (ksP p i).map mkT
def rsK (p : InP) (i : Nat) : List Rf := (ksP p i).map mkR'
def mK (p : InP) (i : Nat) : Nat := (ksP p i).length
theorem nk_at (k : K9) : -1000 ≤ (nkP k).at' ∧ (nkP k).at' ≤ 1000 := by
  unfold nkP
  simp only; repeat' split
  all_goals omega
theorem mk_rel {q : K9} (h1 : -1000 ≤ q.at' ∧ q.at' ≤ 1000) (h2 : okK q = true) : Rel (mkT q) (mkR' q) := by
  have h2 := of_decide_eq_true h2
  have hi : imin (imax q.rounds 0) 1000 = if q.rounds < 0 then 0 else if 1000 < q.rounds then 1000 else q.rounds := by
    unfold imin imax; repeat' split
    all_goals omega
  refine ⟨rfl, rfl, hi, rfl, rfl, rfl, ⟨h1, h2, ?_, by simp, by simp⟩, rfl⟩
  simp only [hi]
  repeat' split
  all_goals omega
theorem xsK_len {p : InP} {i : Nat} : (xsK p i).length = mK p i := by simp [xsK, mK]
theorem rsK_len {p : InP} {i : Nat} : (rsK p i).length = mK p i := by simp [rsK, mK]
theorem mK_le {p : InP} {i : Nat} : mK p i ≤ p.kinds.length := by
  unfold mK ksP
  refine Nat.le_trans (List.length_filter_le _ _) ?_
  simp; omega
theorem ksP_succ {p : InP} {i : Nat} (h : i < p.kinds.length) : ksP p (i + 1) = ksP p i ++ (if okK (nkP (p.kinds.getD i encK.dflt)) then [nkP (p.kinds.getD i encK.dflt)] else []) := by
  unfold ksP
  have e : p.kinds.getD i encK.dflt = p.kinds[i] := by simp [List.getD_eq_getElem?_getD, h]
  rw [e, List.take_add_one, List.map_append, List.filter_append]
  congr 1
  rw [List.getElem?_eq_getElem h]
  simp only [Option.toList, List.map_cons, List.map_nil, List.filter_cons, List.filter_nil]
theorem ks_ok {p : InP} {i : Nat} : ∀ q ∈ ksP p i, (-1000 ≤ q.at' ∧ q.at' ≤ 1000) ∧ okK q = true := by
  intro q hq
  unfold ksP at hq
  obtain ⟨h1, h2⟩ := List.mem_filter.1 hq
  obtain ⟨k, _, rfl⟩ := List.mem_map.1 h1
  exact ⟨nk_at k, h2⟩
theorem pair_start {p : InP} {i : Nat} {l : List Int} (h : l.length = 4) (hu : U32s l) : Pair (mK p i) l (xsK p i) (rsK p i) := by
  refine ⟨h, hu, xsK_len, rsK_len, fun k hk _ => ?_⟩
  have hk' : k < (ksP p i).length := hk
  have h1 : (xsK p i).getD k encTk.dflt = mkT (ksP p i)[k] := by simp [xsK, List.getD_eq_getElem?_getD, hk']
  have h2 : (rsK p i).getD k encRf.dflt = mkR' (ksP p i)[k] := by simp [rsK, List.getD_eq_getElem?_getD, hk']
  rw [h1, h2]
  obtain ⟨h3, h4⟩ := ks_ok (p := p) (i := i) _ (List.getElem_mem hk')
  exact mk_rel h3 h4
abbrev at9 (w0 : From) (p : InP) (l : List Int) (i : Nat) (a : Act) (w : World) : Prop :=
  ∃ env, AtK [] [(0, 0)] w0 env (fr 209 n9b (v9 p (mK p i) ++ [.int .i64 (i : Nat)])) (s9 p l 2 (xsK p i) (mK p i) (rsK p i) l) a w
def InvK (w0 : From) (p : InP) (l : List Int) (i : Nat) (a : Act) (w : World) : Prop := i ≤ p.kinds.length ∧ at9 w0 p l i a w
abbrev RK (w0 : From) (p : InP) (l : List Int) (i : Nat) : Exit → Act → World → Prop :=
  Exit.then (fun a' w' => ∃ k, InvK w0 p l k a' w' ∧ p.kinds.length - k < p.kinds.length - i) (Exit.inBlock 0 (Exit.then (d9.wp Tryd.prog (Q9 w0)) (Q9 w0)))
abbrev KK (w0 : From) (p : InP) (l : List Int) (i : Nat) : Exit → Act → World → Prop :=
  Exit.inBlock 1 (Exit.then (inc9.wp Tryd.prog (RK w0 p l i)) (RK w0 p l i))
set_option maxHeartbeats 1000000 in
theorem incK_ok {w0 : From} {p : InP} (h6 : p.kinds.length ≤ 9) {l : List Int} {i : Nat} (hi : i < p.kinds.length) {env : Env} {a : Act} {w : World}
    (h : AtK [] [(0, 0)] w0 env (fr 209 n9b (v9 p (mK p (i + 1)) ++ [.int .i64 (i : Nat)])) (s9 p l 2 (xsK p (i + 1)) (mK p (i + 1)) (rsK p (i + 1)) l) a w) : inc9.wp Tryd.prog (RK w0 p l i) a w := by
  refine pieceTK2 (c := cfgM) cfgM_ok n9b x_inc (by simp) (by simp) h ?_
  refine all_needp (by simp only [inR_i64]; exact Iff.rfl) (by omega) fun _ => all_ret fun env'' a'' w'' hA' => ?_
  exact ⟨i + 1, ⟨by omega, env'', hA'⟩, by omega⟩
set_option maxHeartbeats 1000000 in
/-- none is made -/
theorem nil9_ok {w0 : From} {p : InP} (h6 : p.kinds.length ≤ 9) {l : List Int} {i : Nat} (hi : i < p.kinds.length) {q : K9} (hq : nkP (p.kinds.getD i encK.dflt) = q) (hk : okK q = false) {env : Env} {a : Act} {w : World}
    (h : AtK [] [(0, 0)] w0 env (fr 209 n9c (v9 p (mK p i) ++ [.int .i64 (i : Nat), .ptr 9 0, .pnil, .lit .i64 110])) (s9 p l 2 (xsK p i) (mK p i) (rsK p i) l ++ [kB q]) a w) :
    (restC 3 bb9).wp Tryd.prog (KK w0 p l i) a w := by
  have hk' := of_decide_eq_false hk
  have hs := ksP_succ hi
  rw [hq, hk] at hs
  simp only [Bool.false_eq_true, if_false, List.append_nil] at hs
  have fin : ∀ {env' a' w'}, AtK [] [(0, 0)] w0 env' (fr 209 n9b (v9 p (mK p i) ++ [.int .i64 (i : Nat)])) (s9 p l 2 (xsK p i) (mK p i) (rsK p i) l) a' w' → inc9.wp Tryd.prog (RK w0 p l i) a' w' := by
    intro env' a' w' h
    refine incK_ok h6 hi (env := env') ?_
    simp only [mK, xsK, rsK, hs] at h ⊢
    exact h
  refine pieceTK2 (c := cfgM) cfgM_ok n9b x_nil (by simp) (by simp) h ?_
  refine all_brp (by simp only [decide_eq_true_eq]; exact Iff.rfl) (fun h1 => ?_) (fun h1 => ?_)
  · refine all_brp (by simp only [Bool.not_eq_true', beq_eq_false_iff_ne, ne_eq, Bool.false_eq, decide_eq_false_iff_not, Decidable.not_not]; exact Iff.rfl) (fun h2 => by exfalso; omega) (fun h2 => ?_)
    refine all_ret fun env' a' w' h => ?_
    simp only [Ex.to, Exit.inBlock, Exit.then]
    exact fin h
  · refine all_ret fun env' a' w' h => ?_
    simp only [Ex.to, Exit.inBlock, Exit.then]
    exact fin h
set_option maxHeartbeats 1000000 in
/-- behind the new waiter -/
theorem app9_ok {w0 : From} {p : InP} (h6 : p.kinds.length ≤ 9) {l : List Int} {i : Nat} (hi : i < p.kinds.length) {q : K9} (hq : nkP (p.kinds.getD i encK.dflt) = q) (hk : okK q = true) {env : Env} {a : Act} {w : World}
    (h : AtK [] [(0, 0)] w0 env (fr 209 n9c (v9 p (mK p i) ++ [.int .i64 (i : Nat), .ptr 9 0, .ptr 10 0, .lit .i64 0])) (s9 p l 2 (xsK p i) (mK p i) (rsK p i) l ++ [kB q, tkB (mkT q) (.lit .i64 0)]) a w) :
    (restC 3 bb9).wp Tryd.prog (KK w0 p l i) a w := by
  have hk' := of_decide_eq_true hk
  have hs := ksP_succ hi
  rw [hq, hk] at hs
  simp only [if_true] at hs
  have hxl := xsK_len (p := p) (i := i)
  have hrl := rsK_len (p := p) (i := i)
  have hml := mK_le (p := p) (i := i)
  obtain ⟨env3, hA3⟩ := h.join 3 10 (by omega) (by simp) (E := encTk) (xs := xsK p i) rfl rfl (mkT q) (fun env cs h => by
      simpa [segCells, Seg.cells, encTk, encOf, DenL, Den] using h) (v9 p (mK p i) ++ [SVal.int .i64 (i : Nat), SVal.ptr 9 0, SVal.pto 3 (mK p i) 0, SVal.lit .i64 0]) (fun env' hj hm => ⟨hm _, hm _, hm _, hm _, hm _, hm _, hm _, hm _, fun v h => by
      have := hj v 0 h
      rwa [hxl] at this, hm _, trivial⟩)
  refine pieceTK2 (c := cfgM) cfgM_ok n9b (x_app (xs := xsK p i ++ [mkT q]) (m := mK p i) (k := mK p i) (rs := rsK p i) (q := q)) (by simp) (by simp) hA3 ?_
  rw [List.length_range, hrl, ← List.range_succ]
  have hm1 : mK p (i + 1) = mK p i + 1 := by simp only [mK, hs, List.length_append, List.length_singleton]
  have hx1 : xsK p (i + 1) = xsK p i ++ [mkT q] := by simp only [xsK, hs, List.map_append, List.map_cons, List.map_nil]
  have hr1 : rsK p (i + 1) = rsK p i ++ [mkR' q] := by simp only [rsK, hs, List.map_append, List.map_cons, List.map_nil]
  have fin : ∀ {n : Int}, (if q.rounds < 0 then 0 else if 1000 < q.rounds then 1000 else q.rounds) = n → ∀ {env' a' w'}, AtK [] [(0, 0)] w0 env' (fr 209 n9b (v9 p (mK p i + 1) ++ [.int .i64 (i : Nat)])) (s9 p l 2 (xsK p i ++ [mkT q]) (mK p i + 1) (rsK p i ++ [⟨q.at', q.n, n, 1, 0, 0, false⟩]) l) a' w' → inc9.wp Tryd.prog (RK w0 p l i) a' w' := by
    intro n hn env' a' w' h
    subst hn
    refine incK_ok h6 hi (env := env') ?_
    rw [hm1, hx1, hr1]
    exact h
  refine all_brp (by simp only [decide_eq_true_eq]; exact Iff.rfl) (fun h1 => ?_) (fun h1 => by exfalso; omega)
  refine all_brp (by simp only [Bool.not_eq_true', beq_eq_false_iff_ne, ne_eq, Bool.true_eq, decide_eq_true_eq]; exact Iff.rfl) (fun h2 => by exfalso; omega) (fun h2 => ?_)
  refine all_need rfl fun _ => all_need (decide_eq_true rfl) fun _ => ?_
  refine all_needq (by simp only [roomy_iff]; exact Iff.rfl) (by omega) ?_
  refine all_brp (by simp only [decide_eq_true_eq]; exact Iff.rfl) (fun h3 => ?_) (fun h3 => ?_)
  · refine all_need rfl fun _ => all_need (decide_eq_true rfl) fun _ => ?_
    refine all_needq (by simp only [roomy_iff]; exact Iff.rfl) (by omega) ?_
    repeat' (first | refine all_eq rfl ?_)
    refine all_ret fun env' a' w' h => ?_
    simp only [Ex.to, Exit.inBlock, Exit.then]
    exact fin (if_pos h3) h
  · refine all_brp (by simp only [decide_eq_true_eq]; exact Iff.rfl) (fun h4 => ?_) (fun h4 => ?_)
    · refine all_need rfl fun _ => all_need (decide_eq_true rfl) fun _ => ?_
      refine all_needq (by simp only [roomy_iff]; exact Iff.rfl) (by omega) ?_
      repeat' (first | refine all_eq rfl ?_)
      refine all_ret fun env' a' w' h => ?_
      simp only [Ex.to, Exit.inBlock, Exit.then]
      exact fin (by rw [if_neg h3, if_pos h4]) h
    · refine all_need rfl fun _ => all_need (decide_eq_true rfl) fun _ => ?_
      refine all_needq (by simp only [roomy_iff]; exact Iff.rfl) (by omega) ?_
      repeat' (first | refine all_eq rfl ?_)
      refine all_ret fun env' a' w' h => ?_
      simp only [Ex.to, Exit.inBlock, Exit.then]
      exact fin (by rw [if_neg h3, if_neg h4]) h
set_option maxHeartbeats 1000000 in
theorem round9_ok {w0 : From} {p : InP} (h6 : p.kinds.length ≤ 9) {l : List Int} (hl : l.length = 4)
    (hd9 : ∀ {env : Env} {a : Act} {w : World}, AtK [] [(0, 0)] w0 env (fr 209 n9b (v9 p (mK p p.kinds.length) ++ [.int .i64 (p.kinds.length : Nat)])) (s9 p l 2 (xsK p p.kinds.length) (mK p p.kinds.length) (rsK p p.kinds.length) l) a w → d9.wp Tryd.prog (Q9 w0) a w)
    {i : Nat} {a : Act} {w : World} (h : InvK w0 p l i a w) : round9.wp Tryd.prog (RK w0 p l i) a w := by
  obtain ⟨hi, env, hA⟩ := h
  refine wpS (by kernel_rfl) ?_
  refine pieceTK2 (c := cfgM) cfgM_ok n9b x_tm (by simp) (by simp) hA ?_
  refine all_brp (by simp only [decide_eq_true_eq]; exact Iff.rfl) (fun h1 => all_ret fun env1 a1 w1 hA1 => ?_) (fun h1 => all_ret fun env1 a1 w1 hA1 => ?_)
  · simp only [Ex.to, Exit.then]
    have hi' : i < p.kinds.length := by omega
    refine (show (rgt round9).wp Tryd.prog (RK w0 p l i) a1 w1 from wpS (by kernel_rfl) (wpB 1 (by kernel_rfl) ?_))
    refine (show bb9.wp Tryd.prog (KK w0 p l i) a1 w1 from ?_)
    refine pieceNTK2 (c := cfgM) cfgM_ok 3 n9c x_mk (by simp) (by simp) hA1 ?_
    simp only [Int.toNat_natCast]
    have hfin := fun {q : K9} (hq) (hk) {env a w} => app9_ok (w0 := w0) h6 (l := l) hi' (q := q) hq hk (env := env) (a := a) (w := w)
    have hnil := fun {q : K9} (hq) (hk) {env a w} => nil9_ok (w0 := w0) h6 (l := l) hi' (q := q) hq hk (env := env) (a := a) (w := w)
    rw [show encK.dflt = (⟨0, 0, 0⟩ : K9) from rfl] at hfin hnil
    refine all_needq (by simp only [decide_eq_true_eq, Bool.and_eq_true]; exact Iff.rfl) (by omega) ?_
    refine all_needq (by simp only [decide_eq_true_eq]; exact Iff.rfl) (by omega) ?_
    refine all_needq (by simp only [decide_eq_true_eq]; exact Iff.rfl) (by omega) ?_
    refine all_needq (by simp only [decide_eq_true_eq]; exact Iff.rfl) (by omega) ?_
    refine all_brp (by simp only [decide_eq_true_eq]; exact Iff.rfl) (fun c1 => ?_) (fun c1 => ?_)
    · have e : nkP (p.kinds.getD i ⟨0, 0, 0⟩) = ⟨0, (p.kinds.getD i ⟨0, 0, 0⟩).n, (p.kinds.getD i ⟨0, 0, 0⟩).rounds⟩ := by simp only [nkP, c1, if_true]
      refine all_brp (by simp only [decide_eq_true_eq]; exact Iff.rfl) (fun d1 => all_ret fun env' a' w' h => hnil e (by simp only [okK, decide_eq_false_iff_not]; omega) (h.on fun h => h.gen rfl)) (fun d1 => ?_)
      refine all_brp (by simp only [decide_eq_true_eq]; exact Iff.rfl) (fun d2 => all_ret fun env' a' w' h => hnil e (by simp only [okK, decide_eq_false_iff_not]; omega) (h.on fun h => h.gen rfl)) (fun d2 => ?_)
      exact all_ret fun env' a' w' h => hfin e (by simp only [okK, decide_eq_true_eq]; omega) (h.on fun h => h.gen rfl)
    · refine all_brp (by simp only [decide_eq_true_eq]; exact Iff.rfl) (fun c2 => ?_) (fun c2 => ?_)
      · have e : nkP (p.kinds.getD i ⟨0, 0, 0⟩) = ⟨0, (p.kinds.getD i ⟨0, 0, 0⟩).n, (p.kinds.getD i ⟨0, 0, 0⟩).rounds⟩ := by simp only [nkP, c1, c2, if_true, if_false]
        refine all_brp (by simp only [decide_eq_true_eq]; exact Iff.rfl) (fun d1 => all_ret fun env' a' w' h => hnil e (by simp only [okK, decide_eq_false_iff_not]; omega) (h.on fun h => h.gen rfl)) (fun d1 => ?_)
        refine all_brp (by simp only [decide_eq_true_eq]; exact Iff.rfl) (fun d2 => all_ret fun env' a' w' h => hnil e (by simp only [okK, decide_eq_false_iff_not]; omega) (h.on fun h => h.gen rfl)) (fun d2 => ?_)
        exact all_ret fun env' a' w' h => hfin e (by simp only [okK, decide_eq_true_eq]; omega) (h.on fun h => h.gen rfl)
      · have e : nkP (p.kinds.getD i ⟨0, 0, 0⟩) = ⟨(p.kinds.getD i ⟨0, 0, 0⟩).at', (p.kinds.getD i ⟨0, 0, 0⟩).n, (p.kinds.getD i ⟨0, 0, 0⟩).rounds⟩ := by simp only [nkP, c1, c2, if_false]
        refine all_brp (by simp only [decide_eq_true_eq]; exact Iff.rfl) (fun d1 => all_ret fun env' a' w' h => hnil e (by simp only [okK, decide_eq_false_iff_not]; omega) (h.on fun h => h.gen rfl)) (fun d1 => ?_)
        refine all_brp (by simp only [decide_eq_true_eq]; exact Iff.rfl) (fun d2 => all_ret fun env' a' w' h => hnil e (by simp only [okK, decide_eq_false_iff_not]; omega) (h.on fun h => h.gen rfl)) (fun d2 => ?_)
        exact all_ret fun env' a' w' h => hfin e (by simp only [okK, decide_eq_true_eq]; omega) (h.on fun h => h.gen rfl)
  · have : i = p.kinds.length := by omega
    subst this
    simp only [Ex.to, Exit.then, Exit.inBlock, if_true]
    exact hd9 hA1
end Go.Proofs.YtafipmkobdhigaaDoor

/- BarrierPlays: its call. -/
namespace Go.Proofs.YtafipmkobdhigaaDoor
open Go Go.Proofs.YtafipmkobdhigaaDoor.Sx
set_option linter.unusedVariables false
theorem b9_eq : Tryd.f5.body = some b9 := by kernel_rfl
set_option maxHeartbeats 1000000 in
theorem d9_ok {w0 : From} {p : InP} {l : List Int} (hl : l.length = 4) (hu : U32s l) {env : Env} {a : Act} {w : World}
    (h : AtK [] [(0, 0)] w0 env (fr 209 n9b (v9 p (mK p p.kinds.length) ++ [.int .i64 (p.kinds.length : Nat)])) (s9 p l 2 (xsK p p.kinds.length) (mK p p.kinds.length) (rsK p p.kinds.length) l) a w) : d9.wp Tryd.prog (Q9 w0) a w := by
  have hp := pair_start (p := p) (i := p.kinds.length) hl hu
  generalize xsK p p.kinds.length = xs at *
  generalize rsK p p.kinds.length = rs at *
  generalize mK p p.kinds.length = m at *
  have h1 := h.at'.vals ([.bad, pickV p 5, .ptr 1 0, .sli 6 (.c 0) 1 (.v 4) none, .sli 7 (.c 0) 1 (.v m) none, .sli 8 (.c 0) 7 (.v m) none, .bad]) ⟨fun _ _ => by simp [Den], fun _ h => h, fun _ h => h, fun _ h => h, fun _ h => h, fun _ h => h, fun _ _ => by simp [Den], trivial⟩
  have h2 := h1.perm [0, 1, 2, 3, 5, 6, 7, 8] (by kernel_rfl) (by kernel_rfl) (st' := s9b p l 2 xs m rs l) (vals' := [.bad] ++ v9b p m 4 ++ [.bad]) (by kernel_rfl) (by kernel_rfl)
  refine wpS (by kernel_rfl) (wpS (by kernel_rfl) ?_)
  refine pieceT0 (c := cfgM) cfgM_ok n9e x_regb h2 (all_ret fun env3 a3 w3 hA3 => ?_)
  simp only [Ex.to, Exit.then]
  have hA4 := hA3.gvals (v9b p m 4 ++ [SVal.int .i64 ((0 : Nat) : Int)]) rfl
  refine wpB 2 (by kernel_rfl) (wpL (by kernel_rfl) (Inv9 w0 p m) (fun j => 120 - j.i) ⟨0, l, 2, xs, rs⟩ ⟨by simp, hp, env3, by simp only [hl]; exact hA4⟩ ?_)
  intro j a w h
  exact round9b_ok h
theorem noFootP {e0 e1 e2 : Slot} {p : InP} (x : Nat) (h : inFoot [e0, e1, e2] (s0P p) x) : False := by
  obtain ⟨id, e, b, he, hb, hx⟩ := h
  match id with
  | 0 => simp at hb; subst hb; cases hx
  | 1 => simp at hb; subst hb; cases hx
  | 2 => simp at hb; subst hb; cases hx
  | n + 3 => simp at hb
set_option maxHeartbeats 1000000 in
theorem barrierPlays_call {p : InP} {f0 f1 : Int} (hf0 : 0 ≤ f0 ∧ f0 < 4294967296) (hf1 : 0 ≤ f1 ∧ f1 < 4294967296) {e0 e1 e2 : Slot} (he : e0.blk = 0 ∧ e0.off = 0) {w : World} {v v' : Value} (hr : Rep [e0, e1, e2] (s0P p) w) (hv : Den [e0, e1, e2] (kindsV p 1) v) (hv' : Den [e0, e1, e2] (pickV p 2) v') :
    Calls Tryd.prog 5 ⟨[v, .agg ⟨[.int .u32 f0, .int .u32 f1]⟩, v']⟩ w (Said ⟨w, fun _ => False⟩) := by
  refine call_begin (c := cfgA) Tryd.func5 b9_eq (args := [kindsV p 1, .agg [.int .u32 f0, .int .u32 f1], pickV p 2]) (by
    intro q hq
    rw [List.mem_singleton.1 hq]
    exact ⟨e0, rfl, he⟩) hr ⟨_, _, rfl, hv, _, _, rfl, ⟨_, rfl, _, _, rfl, rfl, _, _, rfl, rfl, rfl⟩, _, _, rfl, hv', rfl⟩ (F := fun _ => False) (fun x h => noFootP x h) ?_
  intro a hA
  refine pieceNT0 (c := cfgA) cfgA_ok 6 n9p x_pre hA ?_
  refine all_eq rfl ?_
  refine all_brp (by simp only [decide_eq_true_eq]; exact Iff.rfl) (fun h6 => all_eq rfl (all_ret fun env1 a1 w1 hA1 => ?_)) (fun h6 => ?_)
  · exact hA1.said (by kernel_rfl)
  repeat' (first | refine all_need rfl (fun _ => ?_) | refine all_eq rfl ?_)
  refine all_ret fun env1 a1 w1 hA1 => ?_
  simp only [Ex.to, Exit.then]
  have hA1' := At.few (names := n9a) (extra := [6]) (vals := [kindsV p 1, pickV p 2, .ptr 3 0, .sli 5 (.c 0) 1 (.c 4) (some (.c 4)), .sli 6 (.c 0) 1 (.c 0) (some (.c 0)), .sli 7 (.c 0) 7 (.c 0) (some (.c 0))]) (ev := [.bl false]) hA1 rfl
  obtain ⟨env2, hA2⟩ := hA1'.void 6 (encInt .i64) rfl
  obtain ⟨env3, hA3⟩ := hA2.void 7 (encRow 6) rfl
  have s0 : setP 0 f0 = f0 := by rw [setP_ok]; omega
  have s1 : setP 0 f1 = f1 := by rw [setP_ok]; omega
  obtain ⟨env4, hA4⟩ := hA3.vecd 5 (encInt .u32) (memF f0 f1) rfl (fun env cs h => by simpa [segCells, Seg.cells, encInt, DenL, Den] using h) rfl
    [kindsV p 1, pickV p 2, .ptr 3 0, .sli 10 (.c 0) 1 (.v 4) none, .sli 8 (.c 0) 1 (.v 0) none, .sli 9 (.c 0) 7 (.v 0) none] (fun env' hm h1 h2 => ⟨hm _, hm _, hm _, h1 1, hm _, hm _, trivial⟩)
  have hA5 := hA4.many0 encTk 68
  have hA6 := hA5.perm [0, 3, 4, 11, 1, 2, 10, 8, 9] (by kernel_rfl) (by kernel_rfl) (st' := [lookB, .own [.c (.sli 2 (.c 0) 1 (.c 4) (some (.c 4))), .c (.lit .i64 2)] 70, .own [.c (.int .u32 (setP 0 f0)), .c (.int .u32 (setP 0 f1)), .c (.lit .u32 0), .c (.lit .u32 0)] 35, .many encTk [] 68, .ro encK p.kinds, .ro (encInt .i64) p.picks, .vec (encInt .u32) (memF f0 f1) 35, .vec (encInt .i64) [] 30, .vec (encRow 6) [] 48]) (vals' := v9 p 0) (by kernel_rfl) (by kernel_rfl)
  have hA7 := hA6.typede 7 (E' := encP 3) (ys := []) rfl rfl rfl (fun cs h => h)
  have hA8 := hA7.typede 8 (E' := encRf) (ys := []) rfl rfl rfl (fun cs h => h)
  have hA9 := hA8.segs 2 (l' := [.a (encInt .u32) 4 (memF f0 f1)]) rfl (by intro s hs; rw [List.mem_singleton.1 hs]; rfl) (fun cs h => by simpa [segCells, Seg.cells, encInt, DenL, Den, s0, s1] using h)
  have hA10 : AtK [] [(0, 0)] ⟨w, fun _ => False⟩ _ (fr 209 n9a (v9 p 0)) (s9 p (memF f0 f1) 2 [] 0 [] (memF f0 f1)) a1 w1 := ⟨hA9.gen rfl, _, rfl⟩
  refine (show c9.wp Tryd.prog (Q9 ⟨w, fun _ => False⟩) a1 w1 from wpS (by kernel_rfl) (wpS (by kernel_rfl) ?_))
  refine pieceTK2 (c := cfgM) cfgM_ok n9b x_reg (by simp) (by simp) hA10 (all_ret fun env11 a11 w11 hA11 => ?_)
  simp only [Ex.to, Exit.then]
  have hA12 := hA11.on fun h => h.gvals (v9 p 0 ++ [SVal.int .i64 ((0 : Nat) : Int)]) rfl
  have h6' : p.kinds.length ≤ 9 := by omega
  have hu : U32s (memF f0 f1) := by
    intro x hx
    simp only [List.mem_cons, List.not_mem_nil, or_false] at hx
    rcases hx with rfl | rfl | rfl | rfl <;> omega
  refine wpB 0 (by kernel_rfl) (wpL (by kernel_rfl) (InvK ⟨w, fun _ => False⟩ p (memF f0 f1)) (fun i => p.kinds.length - i) 0 ⟨Nat.zero_le _, env11, hA12⟩ ?_)
  intro i a w h
  exact round9_ok h6' rfl (fun h => d9_ok rfl hu h) h
end Go.Proofs.YtafipmkobdhigaaDoor

/- BarrierPlays: its row and its card. -/
namespace Go.Proofs.YtafipmkobdhigaaDoor
open Go Go.Proofs.YtafipmkobdhigaaDoor.Sx Go.ChangeShapes Go.WideShapes Go.ChangeAt Go.RowKit
set_option linter.unusedVariables false
theorem open_two {H : Type} {enc : TypeId × Value → H} {W W0 : World} {r : Reach} {b0 base : Nat} {spare : Nat → Bool} {held : Bool} {v : Value} {d : DataW H} {ps : List MemPlace} (hval : Value.okWide Tryd.prog W0 r b0 36 v) (hd : DataW.Trod enc Tryd.prog W base spare held 36 v d ps) :
    ∃ a b, v = .agg #[.int .u32 a, .int .u32 b] ∧ (0 ≤ a ∧ a < 4294967296) ∧ (0 ≤ b ∧ b < 4294967296) := by
  have hv : ∃ cs, v = .agg cs := by
    simp only [Value.okWide, Tryd.underlying36] at hval
    obtain ⟨cs, e, _⟩ := hval
    exact ⟨cs, e⟩
  obtain ⟨cs, rfl⟩ := hv
  obtain ⟨fuel, hf⟩ := hd
  obtain ⟨xs, m, _, _, hlen, hxl, hel⟩ := DataW.trod_array Tryd.underlying36 hf
  have k36 : Tryd.prog.cellsOf 36 = 2 := by kernel_rfl
  have k35 : Tryd.prog.cellsOf 35 = 1 := by kernel_rfl
  rw [k36] at hlen
  rw [k35] at hel
  obtain ⟨l⟩ := cs
  simp only [Value.cells] at hlen hel
  match l, hlen with
  | [c0, c1], _ =>
    match xs, hxl with
    | [y0, y1], _ =>
      have f0 : DataW.trod _ Tryd.prog W base spare held m 35 [c0] = some y0 := hel 0 (by omega)
      have f1 : DataW.trod _ Tryd.prog W base spare held m 35 [c1] = some y1 := hel 1 (by omega)
      obtain ⟨a0, h0, e0, w0⟩ := DataW.trod_int Tryd.underlying35 f0
      obtain ⟨a1, h1, e1, w1⟩ := DataW.trod_int Tryd.underlying35 f1
      simp at h0 h1
      subst h0 h1
      exact ⟨a0, a1, rfl, wf_u32 w0, wf_u32 w1⟩
theorem open_k3 {H : Type} {enc : TypeId × Value → H} {w : World} {base : Nat} {spare : Nat → Bool} {held : Bool} (n : Nat) (cs : List Value) (y : DataW H × List MemPlace) (h : DataW.trod enc Tryd.prog w base spare held n 44 cs = some y) :
    ∃ x : K9, DenL [] (encK.enc x) cs := by
  obtain ⟨xs, m, _, _, hlen, hxl, hf⟩ := DataW.trod_struct Tryd.underlying44 h
  have hC : Tryd.prog.cellsOf 44 = 3 := by kernel_rfl
  rw [hC] at hlen
  match cs, hlen with
  | [c0, c1, c2], _ =>
    match xs, hxl with
    | [y0, y1, y2], _ =>
      have f0 : DataW.trod enc Tryd.prog w base spare held m 3 (([c0, c1, c2].drop 0).take (Tryd.prog.cellsOf 3)) = some y0 := hf 0 _ rfl
      have f1 : DataW.trod enc Tryd.prog w base spare held m 3 (([c0, c1, c2].drop 1).take (Tryd.prog.cellsOf 3)) = some y1 := hf 1 _ rfl
      have f2 : DataW.trod enc Tryd.prog w base spare held m 3 (([c0, c1, c2].drop 2).take (Tryd.prog.cellsOf 3)) = some y2 := hf 2 _ rfl
      have k0 : Tryd.prog.cellsOf 3 = 1 := by kernel_rfl
      rw [k0] at f0 f1 f2
      obtain ⟨a, h0, _⟩ := DataW.trod_int Tryd.underlying3 f0
      obtain ⟨b, h1, _⟩ := DataW.trod_int Tryd.underlying3 f1
      obtain ⟨c, h2, _⟩ := DataW.trod_int Tryd.underlying3 f2
      simp at h0 h1 h2
      subst h0 h1 h2
      exact ⟨⟨a, b, c⟩, by simp [encK, encOf, DenL, Den]⟩
set_option maxRecDepth 100000 in
theorem barrierPlays_lifted (os : Os) (started : os.Started) (H : Type) (enc : TypeId × Value → H) :
    ReturnsInHanded {} Tryd.checked os 5 .any (fun w args => (Rows.barrierPlaysSpec.pre enc Tryd.prog Tryd.f5 [] false w args ∧ laidMetH Tryd.prog laid1 w) ∧ sizedMet enc Tryd.prog Tryd.f5 (OpenSpec.ofChange Rows.barrierPlaysSpec) false w args)
      (Rows.barrierPlaysSpec.post enc Tryd.prog Tryd.f5 false true false false) := by
  refine returnsInHanded_of_change_and (C := Tryd.checked) (X := fun w _ => laidMetH Tryd.prog laid1 w) (fun _ _ _ hh h => h.of_heap hh) Tryd.own started (by kernel_rfl) Tryd.func5
    (ChangeSpec.witness_shaped (enc := enc) (C := Tryd.checked) (os := os) (X := fun w _ => laidMetH Tryd.prog laid1 w) false (World.doorLaid Tryd.prog 400 os) #[.slice none 0 0, .agg #[.int .u32 0, .int .u32 0], .slice none 0 0] 8 rfl (World.shaped_of_RefB (by kernel_rfl) (by kernel_rfl)) (by kernel_rfl) (by kernel_rfl) (by kernel_rfl) (door_met os _)) ?_
  intro W base args ds gs before hval0 hW _ _ hL _
  have hval : ∀ (j : Nat) t v, Tryd.f5.params[j]? = some t → args[j]? = some v → Value.okWide Tryd.prog W .any base t v := hval0
  have hW' := hW
  obtain ⟨p, q, hA0, hV, rfl, hfz, hnd⟩ := hW
  have hA : DataW.TrodAll enc Tryd.prog W 0 (fun _ => true) true Tryd.f5.params.toList args.toList ds p := hA0
  rw [Tryd.params5] at hA hval
  obtain ⟨v0, v1, v2, d0, d1, d2, p0, p1, p2, rfl, rfl, rfl, h0, h1, h2⟩ := trodAll_three hA
  obtain ⟨rfl, rfl⟩ := trodVars_none hV
  obtain ⟨f, g, rfl, wf, wg⟩ := open_two (hval 1 36 v1 rfl rfl) h1
  clear hA0 hval0
  have hlt0 : ∀ x ∈ p0, x.block < W.heap.size := fun x hx => by simpa using hW'.lt x (by simp [hx])
  have hlt1 : ∀ x ∈ p1, x.block < W.heap.size := fun x hx => by simpa using hW'.lt x (by simp [hx])
  have hlt2 : ∀ x ∈ p2, x.block < W.heap.size := fun x hx => by simpa using hW'.lt x (by simp [hx])
  obtain ⟨e0, he, hr0⟩ := of_laid hL
  have fin : ∀ e W', Said ⟨W, fun _ => False⟩ e W' → ∃ v, e = .returned v ∧ Rows.barrierPlaysSpec.post enc Tryd.prog Tryd.f5 false true false false W #[v0, .agg #[.int .u32 f, .int .u32 g], v2] v W' := by
    rintro e W' ⟨rfl, hsz, hk, hc⟩
    have hk' : ∀ x, x < W.heap.size → W'.heap[x]? = W.heap[x]? := fun x hx => hk x hx (fun h => h)
    refine ⟨_, rfl, _, _, _, [], _, [], hW', ⟨[], [], shut_bool Tryd.underlying4 true, rfl, rfl⟩, trodAll_mk3 (trod_same Tryd.laidOut (by kernel_rfl) (of_decide_eq_true (by kernel_rfl)) h0 hk' hlt0) (trod_same Tryd.laidOut (by kernel_rfl) (of_decide_eq_true (by kernel_rfl)) h1 hk' hlt1) (trod_same Tryd.laidOut (by kernel_rfl) (of_decide_eq_true (by kernel_rfl)) h2 hk' hlt2), rfl, keptBut_of _ hc hk', fun h => by cases h⟩
  obtain ⟨xs, cap, e1, hr1, hd1⟩ := open_sli encK Tryd.underlying34 (by kernel_rfl) open_k3 rfl (hval 0 34 v0 rfl rfl) h0
  obtain ⟨ys, cap', e2, hr2, hd2⟩ := open_sli (encInt .i64) Tryd.underlying22 (by kernel_rfl) open_i64 rfl (hval 2 22 v2 rfl rfl) h2
  obtain ⟨hr3, hn3⟩ := ro_add hr0 (by intro b hb e; rw [List.mem_singleton.1 hb]; rfl) rfl hr1
  obtain ⟨hr, _⟩ := ro_add hr3 hn3 rfl hr2
  have hv : Den ([e0, e1] ++ [e2]) (kindsV ⟨xs, cap, ys, cap'⟩ 1) v0 := den_wide (den_add (env := [e0]) (n := 1) hd1 rfl)
  have hv' : Den ([e0, e1] ++ [e2]) (pickV ⟨xs, cap, ys, cap'⟩ 2) v2 := den_add (env := [e0, e1]) (n := 2) hd2 rfl
  exact (barrierPlays_call (p := ⟨xs, cap, ys, cap'⟩) wf wg he hr hv hv').mono fun e W' h => fin e W' h
theorem barrierPlays_row : Rows.BarrierPlaysSaid :=
  OpenClaim.holds_of_wide 5 Tryd.f5 rfl rfl rfl rfl rfl rfl rfl ⟨rfl, rfl, rfl, rfl, rfl⟩ rfl rfl rfl rfl rfl (by kernel_rfl) Tryd.func5 (by kernel_rfl)
    (of_decide_eq_true (by kernel_rfl)) (by unfold Func.isWrapper; first | (rw [if_pos (by decide +kernel)]; kernel_rfl) | (rw [if_neg (by decide +kernel)]; exact ⟨rfl, rfl⟩))
    (fun os started H enc _ => barrierPlays_lifted os started H enc)
theorem barrierPlays_holds : Rows.BarrierPlaysCardSaid :=
  Claim7.holds_tied_plain_at .later [] [.data] true _ _ barrierPlays_row (fun _ h => by cases h) (by kernel_rfl) (fun _ h => by cases h) barrierPlays_row_tie rfl ⟨rfl, rfl⟩ (by kernel_rfl) rfl
    (fun f fn hf hfn => by
      obtain rfl : f = 5 := Option.some.inj ((show Tryd.prog.funcNamed "purlin/purlinlaw11.BarrierPlays" = some 5 by kernel_rfl).symm.trans hf) |>.symm
      obtain rfl : fn = Tryd.f5 := (Option.some.inj (Tryd.func5.symm.trans hfn)).symm
      exact ⟨by kernel_rfl, fun j t ht => by
        rw [Tryd.params5] at ht
        have hm : t ∈ [34, 36, 22] := by simpa using Array.mem_of_getElem? ht
        have hall : ([34, 36, 22].all fun u => !Tryd.prog.wantsStandIn u) = true := by kernel_rfl
        exact (show Tryd.prog.wantsStandIn t = false by simpa using List.all_eq_true.1 hall t hm)⟩)
    (by kernel_rfl)
end Go.Proofs.YtafipmkobdhigaaDoor

