/- Waiters: what a Run comes to, and a play's machine. -/
import Derived.Test.YtafipmkobdhigaaDoorWts
import Derived.Test.YtafipmkobdhigaaDoorCards
import Derived.Test.YtafipmkobdhigaaDoorTie
import Derived.ProofKit
import Derived.LaidMore
import Derived.OpenShut
import Derived.Stop.Joined
import Derived.Test.YtafipmkobdhigaaDoorSxC
/- BarrierTogether: its loops. -/
namespace Go.Proofs.YtafipmkobdhigaaDoor
open Go Go.Proofs.YtafipmkobdhigaaDoor.Sx
set_option linter.unusedVariables false
theorem pick_stays {m : Nat} {s : Mc} {k : Int} (h : inP k m = false ∨ s.ds.getD k.toNat false = true) : pickP m s k = s := by
  unfold pickP
  rcases h with h | h
  · rw [h]
  · rw [h]; split <;> rfl
theorem pick_cases (m : Nat) (s : Mc) (k : Int) : pickP m s k = s ∨ ∃ i, i < m ∧ s.ds.getD i false = false ∧ k = (i : Nat) := by
  cases h1 : inP k m with
  | false => exact .inl (pick_stays (.inl h1))
  | true =>
    cases h2 : s.ds.getD k.toNat false with
    | true => exact .inl (pick_stays (.inr h2))
    | false =>
      have := (inP_iff _ _).1 h1
      exact .inr ⟨k.toNat, by omega, h2, by omega⟩
theorem inv_pick {m : Nat} {R K A G : Int} {s : Mc} (h : Inv m R K A G s) (k : Int) : ∃ K' A' G', Inv m R K' A' G' (pickP m s k) := by
  rcases pick_cases m s k with e | ⟨i, hi, hd, rfl⟩
  · rw [e]; exact ⟨_, _, _, h⟩
  · obtain ⟨K', A', G', h', _⟩ := h.pick hi hd
    exact ⟨_, _, _, h'⟩
theorem xsD {m : Nat} {s : Mc} (hx : s.xs.length = m) {k : Nat} (hk : k < m) (d : Tk) : s.xs.getD k d = tkAt s k := by
  simp only [tkAt, List.getD_eq_getElem?_getD]
  rw [List.getElem?_eq_getElem (by omega)]; rfl
abbrev Q3 (w0 : From) : Exit → Act → World → Prop := bodyPost Tryd.prog Tryd.f3 (Said w0)
structure Ix3 where
  i : Nat
  s : Mc
def Inv3 (w0 : From) (p : In1) (m : Nat) (j : Ix3) (a : Act) (w : World) : Prop :=
  j.i ≤ 300 ∧ (∃ R K A G, Inv m R K A G j.s) ∧ ∃ env, At [(0, 0)] w0 env (fr 104 n3b (v3 p m ++ [.int .i64 (j.i : Nat)])) (s5 p m j.s) a w
abbrev R3 (w0 : From) (p : In1) (m : Nat) (i : Nat) : Exit → Act → World → Prop :=
  Exit.then (fun a' w' => ∃ k, Inv3 w0 p m k a' w' ∧ 300 - k.i < 300 - i) (Exit.inBlock 0 (Exit.then (end3.wp Tryd.prog (Q3 w0)) (Q3 w0)))
abbrev K3 (w0 : From) (p : In1) (m : Nat) (i : Nat) : Exit → Act → World → Prop :=
  Exit.inBlock 1 (Exit.then (inc3.wp Tryd.prog (R3 w0 p m i)) (R3 w0 p m i))
theorem end3_ok {w0 : From} {p : In1} {m : Nat} {s : Mc} {i : Nat} {env : Env} {a : Act} {w : World} (h : At [(0, 0)] w0 env (fr 104 n3b (v3 p m ++ [.int .i64 (i : Nat)])) (s5 p m s) a w) : end3.wp Tryd.prog (Q3 w0) a w :=
  pieceT0 (c := cfgM) cfgM_ok [6] t3_end h (all_ret fun env' a' w' hA' => hA'.said (by kernel_rfl))
theorem inc3_ok {w0 : From} {p : In1} {m : Nat} {i : Nat} (hi : i < 300) {s : Mc} (hinv : ∃ R K A G, Inv m R K A G s) {env : Env} {a : Act} {w : World} (h : At [(0, 0)] w0 env (fr 104 n3b (v3 p m ++ [.int .i64 (i : Nat)])) (s5 p m s) a w) : inc3.wp Tryd.prog (R3 w0 p m i) a w := by
  refine pieceT0 (c := cfgM) cfgM_ok n3b t3_inc h ?_
  refine all_needp (by simp only [inR_i64]; exact Iff.rfl) (by omega) fun _ => all_ret fun env' a' w' hA' => ?_
  exact ⟨⟨i + 1, s⟩, ⟨by simp only; omega, hinv, env', hA'⟩, by simp only; omega⟩
/-- the least that came, the most that passed, the least that passed -/
def Span (K R x y z : Int) : Prop := K ≤ x ∧ x ≤ 1001 ∧ y ≤ K ∧ -1 ≤ y ∧ K - 1 ≤ z ∧ z ≤ 1001
theorem chk3_ok {w0 : From} {p : In1} {m : Nat} {i : Nat} (hi : i < 300) {s : Mc} {R K A G : Int} (hinv : Inv m R K A G s) {x y z : Int} (hs : Span K R x y z) {env : Env} {a : Act} {w : World}
    (hA : At [(0, 0)] w0 env (fr 104 n3c (v3 p m ++ [.int .i64 (i : Nat), .int .i64 x, .int .i64 y, .int .i64 z])) (s5 p m s) a w) : chk3.wp Tryd.prog (K3 w0 p m i) a w := by
  obtain ⟨h1, h2, h3, h4, h5, h6⟩ := hs
  have hK := hinv.kB
  have hR := hinv.rB
  refine pieceT0 (c := cfgM) cfgM_ok n3b t3_chk hA ?_
  repeat' (first
    | refine all_needq (by simp only [inR_i64]; exact Iff.rfl) (by omega) ?_
    | (refine all_brp (by simp only [decide_eq_true_eq]; exact Iff.rfl) (fun _ => ?_) (fun _ => ?_) <;> try (exfalso; omega)))
  refine all_ret fun env' a' w' hA' => ?_
  simp only [Ex.to, K3, Exit.inBlock, Exit.then]
  exact inc3_ok hi ⟨R, K, A, G, hinv⟩ hA'
structure Ix3k where
  k : Nat
  x : Int
  y : Int
  z : Int
def Inv3k (w0 : From) (p : In1) (m : Nat) (s : Mc) (K R : Int) (i : Nat) (j : Ix3k) (a : Act) (w : World) : Prop :=
  j.k ≤ m ∧ Span K R j.x j.y j.z ∧ ∃ env, At [(0, 0)] w0 env (fr 104 n3d (v3 p m ++ [.int .i64 (i : Nat), .int .i64 j.x, .int .i64 j.y, .int .i64 j.z, .int .i64 (j.k : Nat)])) (s5 p m s) a w
theorem Stands.num {K R : Int} {t : Tk} (h : Stands K R t) (hK : 0 ≤ K ∧ K ≤ R) (hR : R ≤ 1000) : (t.came = t.passed ∨ t.came = t.passed + 1) ∧ K ≤ t.came ∧ t.came ≤ 1001 ∧ t.passed ≤ K ∧ 0 ≤ t.passed ∧ K - 1 ≤ t.passed := by
  rcases h with h | h | h <;> omega
theorem imin_eq (a b : Int) : imin a b = if a ≤ b then a else b := by unfold imin; split <;> split <;> omega
theorem imax_eq (a b : Int) : imax a b = if a ≤ b then b else a := by unfold imax; split <;> split <;> omega
set_option maxHeartbeats 1000000 in
theorem in3_ok {w0 : From} {p : In1} {m : Nat} {i : Nat} (hi : i < 300) {s : Mc} {R K A G : Int} (hinv : Inv m R K A G s) {j : Ix3k} (hj : j.k ≤ m) (hs : Span K R j.x j.y j.z) {env : Env} {a : Act} {w : World}
    (hA : At [(0, 0)] w0 env (fr 104 n3d (v3 p m ++ [.int .i64 (i : Nat), .int .i64 j.x, .int .i64 j.y, .int .i64 j.z, .int .i64 (j.k : Nat)])) (s5 p m s) a w) :
    lp3.wp Tryd.prog (Exit.then (fun a' w' => ∃ j', Inv3k w0 p m s K R i j' a' w' ∧ m - j'.k < m - j.k) (Exit.inBlock 2 (Exit.then (chk3.wp Tryd.prog (K3 w0 p m i)) (K3 w0 p m i)))) a w := by
  obtain ⟨k, x, y, z⟩ := j
  simp only at hj hs hA ⊢
  have hxl := hinv.xs
  have hm8 := hinv.m8
  refine pieceT0 (c := cfgM) cfgM_ok n3d t3_in hA ?_
  refine all_brp (by simp only [decide_eq_true_eq]; exact Iff.rfl) (fun h1 => ?_) (fun h1 => ?_)
  · have hk' : k < m := by omega
    have hr : (List.range m).getD k 0 = k := getD_range hk'
    have hlr : (List.range m).length = m := by simp
    have hT := fun d => xsD hxl hk' d
    have hn := (hinv.stands k hk').num hinv.kB hinv.rB
    simp only [Int.toNat_natCast, hr, hlr, hT]
    repeat' (first
      | refine all_needq (by simp only [decide_eq_true_eq, Bool.and_eq_true, inR_i64]; exact Iff.rfl) (by omega) ?_
      | (refine all_brp (by simp only [decide_eq_true_eq]; exact Iff.rfl) (fun _ => ?_) (fun _ => ?_) <;> try (exfalso; omega))
      | refine all_eq (by first | rfl | trivial) ?_)
    refine all_ret fun env' a' w' hA' => ?_
    refine ⟨⟨k + 1, imin x (tkAt s k).came, imax y (tkAt s k).passed, imin z (tkAt s k).passed⟩, ⟨by simp only; omega, ?_, env', hA'⟩, by simp only; omega⟩
    unfold Span at hs ⊢
    simp only [imin_eq, imax_eq]
    split <;> split <;> split <;> omega
  · have hkm : k = m := by omega
    subst hkm
    refine all_ret fun env' a' w' hA' => ?_
    simp only [Ex.to, Exit.then, Exit.inBlock, if_true]
    exact chk3_ok hi hinv hs (At.few (names := n3c) (extra := [14]) (vals := v3 p k ++ [.int .i64 (i : Nat), .int .i64 x, .int .i64 y, .int .i64 z]) (ev := [.int .i64 (k : Nat)]) hA' rfl)
set_option maxRecDepth 10000 in
set_option maxHeartbeats 1000000 in
theorem round3_ok {w0 : From} {p : In1} {m : Nat} {j : Ix3} {a : Act} {w : World} (h : Inv3 w0 p m j a w) : round3.wp Tryd.prog (R3 w0 p m j.i) a w := by
  obtain ⟨i, s⟩ := j
  obtain ⟨hi, ⟨R, K, A, G, hinv⟩, env, hA⟩ := h
  simp only at hi hinv hA ⊢
  have out : ∀ {env' : Env} {a' : Act} {w' : World}, At [(0, 0)] w0 env' (fr 104 n3b (v3 p m ++ [.int .i64 (i : Nat)])) (s5 p m s) a' w' → R3 w0 p m i (.exit 0) a' w' := by
    intro env' a' w' h
    simp only [R3, Exit.then, Exit.inBlock, if_true]
    exact end3_ok h
  refine wpS (by kernel_rfl) ?_
  refine pieceT0 (c := cfgM) cfgM_ok n3b t3_tm hA ?_
  refine all_brp (by simp only [decide_eq_true_eq]; exact Iff.rfl) (fun h1 => ?_) (fun h1 => all_ret fun _ _ _ h => out h)
  refine all_brp (by simp only [decide_eq_true_eq]; exact Iff.rfl) (fun h2 => all_ret fun env1 a1 w1 hA1 => ?_) (fun h2 => all_ret fun _ _ _ h => out h)
  refine (show (rgt round3).wp Tryd.prog (R3 w0 p m i) a1 w1 from wpS (by kernel_rfl) (wpB 1 (by kernel_rfl) ?_))
  refine (show bb3.wp Tryd.prog (K3 w0 p m i) a1 w1 from ?_)
  refine pieceNT0 (c := cfgQ 2 m s) cfgQ_ok 3 n3c t3_a hA1 ?_
  obtain ⟨K', A', G', hinv'⟩ := inv_pick hinv (p.picks.getD (i : Int).toNat 0)
  have hok := hinv.ok
  generalize pickP m s (p.picks.getD (i : Int).toNat 0) = s' at *
  have hm8 := hinv'.m8
  have hr : (List.range m).getD 0 0 = 0 := getD_range (by omega)
  have hlr : (List.range m).length = m := by simp
  have hxl := hinv'.xs
  have hT := fun d => xsD hxl (k := 0) (by omega) d
  have hn := (hinv'.stands 0 (by omega)).num hinv'.kB hinv'.rB
  simp only [hr, hlr, hT]
  repeat' (first
    | refine all_needq (by simp only [decide_eq_true_eq, Bool.and_eq_true, inR_i64]; exact Iff.rfl) (by omega) ?_
    | refine all_eq (by first | rfl | trivial | exact ⟨rfl, hok⟩ | exact ⟨trivial, hok⟩) ?_)
  refine all_ret fun env2 a2 w2 hA2 => ?_
  simp only [Ex.to, Exit.then]
  refine (show (restC 3 bb3).wp Tryd.prog (K3 w0 p m i) a2 w2 from wpS (by kernel_rfl) (show in3.wp Tryd.prog (Exit.then (chk3.wp Tryd.prog (K3 w0 p m i)) (K3 w0 p m i)) a2 w2 from wpS (by kernel_rfl) ?_))
  refine pieceT0 (c := cfgM) cfgM_ok n3d t3_k hA2 (all_ret fun env3 a3 w3 hA5 => ?_)
  simp only [Ex.to, Exit.then]
  have hA6 := hA5.gvals (v3 p m ++ [SVal.int .i64 (i : Nat), SVal.int .i64 (tkAt s' 0).came, SVal.int .i64 (tkAt s' 0).passed, SVal.int .i64 (tkAt s' 0).passed, SVal.int .i64 ((0 : Nat) : Int)]) rfl
  refine wpB 2 (by kernel_rfl) (wpL (by kernel_rfl) (Inv3k w0 p m s' K' R i) (fun j => m - j.k) ⟨0, (tkAt s' 0).came, (tkAt s' 0).passed, (tkAt s' 0).passed⟩ ⟨Nat.zero_le _, by unfold Span; simp only; omega, env3, hA6⟩ ?_)
  rintro j a w ⟨h1, h2, env, h3⟩
  exact in3_ok (by omega) hinv' h1 h2 h3
end Go.Proofs.YtafipmkobdhigaaDoor

/- Layer 11, plain: rounds bring all to the end. -/
namespace Go.Proofs.YtafipmkobdhigaaDoor
open Go Go.Proofs.YtafipmkobdhigaaDoor.Sx
set_option linter.unusedVariables false
def Late (K : Int) (s : Mc) (j : Nat) : Prop := (tkAt s j).came = K ∧ (tkAt s j).phase = 3
def Early (K : Int) (s : Mc) (j : Nat) : Prop := (tkAt s j).came = K ∧ (tkAt s j).phase = 0
def Open (s : Mc) (j : Nat) : Prop := s.ds.getD j false = false
/-- what is still to do at most, and who is to be picked for it -/
inductive Todo (m : Nat) (R K : Int) (s : Mc) : Int → (Nat → Prop) → Prop where
  | late (hK : K < R) (h : ∃ j, j < m ∧ Late K s j) : Todo m R K s (4 * (R - K) + 1) (Late K s)
  | early (hK : K < R) (h0 : ∀ j, j < m → ¬ Late K s j) (h : ∃ j, j < m ∧ Early K s j) : Todo m R K s (4 * (R - K)) (Early K s)
  | clear (hK : K < R) (i : Nat) (hi : i < m) (h : (tkAt s i).phase = 1) (h1 : ∀ j, j < m → j ≠ i → (tkAt s j).phase = 3) (h2 : ∀ j, j < m → (tkAt s j).came = K + 1) : Todo m R K s (4 * (R - K) - 1) (fun j => j = i)
  | turn (hK : K < R) (i : Nat) (hi : i < m) (h : (tkAt s i).phase = 2) (h1 : ∀ j, j < m → j ≠ i → (tkAt s j).phase = 3) (h2 : ∀ j, j < m → (tkAt s j).came = K + 1) : Todo m R K s (4 * (R - K) - 2) (fun j => j = i)
  | last (hK : K = R) (h : ∃ j, j < m ∧ Open s j) : Todo m R K s 1 (Open s)
  | over (hK : K = R) (h : ∀ j, j < m → ¬ Open s j) : Todo m R K s 0 (fun _ => False)
theorem Inv.todo {m : Nat} {R K A G : Int} {s : Mc} (h : Inv m R K A G s) : ∃ M L, Todo m R K s M L := by
  have hK := h.kB
  by_cases hKR : K = R
  · by_cases ho : ∃ j, j < m ∧ Open s j
    · exact ⟨_, _, .last hKR ho⟩
    · exact ⟨_, _, .over hKR fun j hj hj' => ho ⟨j, hj, hj'⟩⟩
  · have hlt : K < R := by omega
    by_cases hl : ∃ j, j < m ∧ Late K s j
    · exact ⟨_, _, .late hlt hl⟩
    have hl' : ∀ j, j < m → ¬ Late K s j := fun j hj hj' => hl ⟨j, hj, hj'⟩
    by_cases he : ∃ j, j < m ∧ Early K s j
    · exact ⟨_, _, .early hlt hl' he⟩
    have he' : ∀ j, j < m → ¬ Early K s j := fun j hj hj' => he ⟨j, hj, hj'⟩
    have hc : ∀ j, j < m → (tkAt s j).came = K + 1 := by
      intro j hj
      rcases h.stands j hj with ⟨a, b, c⟩ | ⟨a, b, c, d⟩ | ⟨a, b, c, d, e⟩
      · exact (he' j hj ⟨a, b⟩).elim
      · exact (hl' j hj ⟨a, b⟩).elim
      · exact a
    rcases h.mode with ⟨h1, h2, h3⟩ | ⟨i, h1, h2 | h2, h3, h4⟩
    · have : cnt (hereB K s) m = m := cnt_full fun j hj => decide_eq_true (hc j hj)
      omega
    · exact ⟨_, _, .clear hlt i h1 h2.1 h3 h4⟩
    · exact ⟨_, _, .turn hlt i h1 h2.1 h3 h4⟩
theorem Todo.bound {m : Nat} {R K : Int} {s : Mc} {M : Int} {L : Nat → Prop} (h : Todo m R K s M L) (hK : 0 ≤ K ∧ K ≤ R) : 0 ≤ M ∧ M ≤ 4 * (R - K) + 1 := by
  cases h <;> omega
theorem Todo.some {m : Nat} {R K : Int} {s : Mc} {M : Int} {L : Nat → Prop} (h : Todo m R K s M L) : M = 0 ∨ ∃ j, j < m ∧ L j := by
  cases h with
  | late hK h => exact .inr h
  | early hK h0 h => exact .inr h
  | clear hK i hi h h1 h2 => exact .inr ⟨i, hi, rfl⟩
  | turn hK i hi h h1 h2 => exact .inr ⟨i, hi, rfl⟩
  | last hK h => exact .inr h
  | over hK h => exact .inl rfl
/-- less is to do, or it is not this one's to do any more -/
theorem todo_did {m : Nat} {R K K' A G A' G' : Int} {s s' : Mc} {j : Nat} (h : Inv m R K A G s) (hj : j < m) (h' : Inv m R K' A' G' s') (hopen : Open s j) (hd : Did m R s s' j K K') {M : Int} {L : Nat → Prop} (ht : Todo m R K s M L) {M' : Int} {L' : Nat → Prop} (ht' : Todo m R K' s' M' L') :
    M' < M ∨ (M' = M ∧ ∀ k, k < m → L' k → L k ∧ k ≠ j) := by
  have hdl : j < s.ds.length := by rw [h.ds]; exact hj
  have hb := ht'.bound h'.kB
  have hst := h.stands j hj
  have hst' := h'.stands j hj
  have hKB := h.kB
  -- K < R: what became of the one, and the others
  have main : K' = K → K < R → (∀ k, k ≠ j → tkAt s' k = tkAt s k) → (Late K s' j → False) → (Early K s' j → Late K s j) → ((tkAt s j).came = K + 1 → (tkAt s' j).came = K + 1) → ((tkAt s j).phase = 1 → (tkAt s' j).phase = 2) → ((tkAt s j).phase = 2 → False) → ((tkAt s j).came = K + 1 → (tkAt s j).phase = 3 → (tkAt s' j).phase = 3) →
      M' < M ∨ (M' = M ∧ ∀ k, k < m → L' k → L k ∧ k ≠ j) := by
    intro e hKR hx hl he hc hp1 hp2 hp3
    subst e
    have hlate : ∀ k, Late K' s' k → Late K' s k ∧ k ≠ j := fun k hk => by
      by_cases hkj : k = j
      · subst hkj; exact (hl hk).elim
      · refine ⟨?_, hkj⟩; unfold Late at hk ⊢; rwa [hx k hkj] at hk
    have hearly : ∀ k, Early K' s' k → (Early K' s k ∧ k ≠ j) ∨ Late K' s j := fun k hk => by
      by_cases hkj : k = j
      · subst hkj; exact .inr (he hk)
      · refine .inl ⟨?_, hkj⟩; unfold Early at hk ⊢; rwa [hx k hkj] at hk
    have hcame : (∀ k, k < m → (tkAt s k).came = K' + 1) → ∀ k, k < m → (tkAt s' k).came = K' + 1 := fun hall k hk => by
      by_cases hkj : k = j
      · subst hkj; exact hc (hall k hk)
      · rw [hx k hkj]; exact hall k hk
    cases ht with
    | last e _ => omega
    | over e _ => omega
    | late hK h1 =>
      cases ht' with
      | late _ h2 => exact .inr ⟨rfl, fun k _ hk => hlate k hk⟩
      | early _ _ _ => left; omega
      | clear _ _ _ _ _ _ => left; omega
      | turn _ _ _ _ _ _ => left; omega
      | last e _ => omega
      | over e _ => omega
    | early hK h0 h1 =>
      cases ht' with
      | late _ h2 =>
        obtain ⟨k, hk, hk'⟩ := h2
        exact (h0 k hk (hlate k hk').1).elim
      | early _ _ _ =>
        refine .inr ⟨rfl, fun k hk hk' => ?_⟩
        rcases hearly k hk' with h3 | h3
        · exact h3
        · exact (h0 j hj h3).elim
      | clear _ _ _ _ _ _ => left; omega
      | turn _ _ _ _ _ _ => left; omega
      | last e _ => omega
      | over e _ => omega
    | clear hK i hi hph h1 h2 =>
      have hc' := hcame h2
      cases ht' with
      | late _ h3 =>
        obtain ⟨k, hk, hk'⟩ := h3
        have := hc' k hk
        have := hk'.1
        omega
      | early _ _ h3 =>
        obtain ⟨k, hk, hk'⟩ := h3
        have := hc' k hk
        have := hk'.1
        omega
      | clear _ i' hi' hph' h1' h2' =>
        refine .inr ⟨rfl, fun k hk hk' => ?_⟩
        subst hk'
        by_cases hkj : k = j
        · subst hkj
          by_cases hki : k = i
          · subst hki; have := hp1 hph; omega
          · have := hp3 (h2 k hk) (h1 k hk hki); omega
        · refine ⟨?_, hkj⟩
          rw [hx k hkj] at hph'
          refine Classical.byContradiction fun hne => ?_
          have := h1 k hk hne
          omega
      | turn _ _ _ _ _ _ => left; omega
      | last e _ => omega
      | over e _ => omega
    | turn hK i hi hph h1 h2 =>
      have hc' := hcame h2
      have hij : i ≠ j := fun e => by subst e; exact hp2 hph
      cases ht' with
      | late _ h3 =>
        obtain ⟨k, hk, hk'⟩ := h3
        have := hc' k hk
        have := hk'.1
        omega
      | early _ _ h3 =>
        obtain ⟨k, hk, hk'⟩ := h3
        have := hc' k hk
        have := hk'.1
        omega
      | clear _ i' hi' hph' h1' h2' =>
        have e1 : (tkAt s' i).phase = 2 := by rw [hx i hij]; exact hph
        by_cases e : i = i'
        · subst e; omega
        · have := h1' i hi e; omega
      | turn _ i' hi' hph' h1' h2' =>
        refine .inr ⟨rfl, fun k hk hk' => ?_⟩
        subst hk'
        have e1 : (tkAt s' i).phase = 2 := by rw [hx i hij]; exact hph
        by_cases e : i = k
        · subst e; exact ⟨rfl, hij⟩
        · have := h1' i hi e; omega
      | last e _ => omega
      | over e _ => omega
  -- K = R
  have fin : K' = K → K = R → s'.ds = s.ds.set j true → M' < M ∨ (M' = M ∧ ∀ k, k < m → L' k → L k ∧ k ≠ j) := by
    intro e hKR hds
    subst e
    have hop : ∀ k, Open s' k → Open s k ∧ k ≠ j := fun k hk => by
      by_cases hkj : k = j
      · subst hkj
        unfold Open at hk
        rw [hds, Sx.getD_set_self hdl] at hk; cases hk
      · refine ⟨?_, hkj⟩
        unfold Open at hk ⊢
        rwa [hds, Sx.getD_set_ne (fun e => hkj e.symm)] at hk
    cases ht with
    | late hK _ => omega
    | early hK _ _ => omega
    | clear hK _ _ _ _ _ => omega
    | turn hK _ _ _ _ _ => omega
    | over _ h1 => exact (h1 j hj hopen).elim
    | last _ h1 =>
      cases ht' with
      | late hK _ => omega
      | early hK _ _ => omega
      | clear hK _ _ _ _ _ => omega
      | turn hK _ _ _ _ _ => omega
      | over _ _ => left; omega
      | last _ _ => exact .inr ⟨rfl, fun k _ hk => hop k hk⟩
  cases hd with
  | stop hp hx hds =>
    refine fin rfl ?_ hds
    rcases hst with a | a | a <;> omega
  | come hKR h0 hc hx h1 hds =>
    refine main rfl hKR hx (fun hl => ?_) (fun he => ?_) (fun _ => h1) (fun e => by omega) (fun e => by omega) (fun e => by omega)
    · have := hl.1; omega
    · have := he.1; omega
  | clear hKR hp hx h1 hds =>
    refine main rfl hKR hx (fun hl => ?_) (fun he => ?_) (fun hc => ?_) (fun _ => h1) (fun e => by omega) (fun _ e => by omega)
    · have := hl.2; omega
    · have := he.2; omega
    · rcases hst' with a | a | a <;> omega
  | turn hKR hp hx =>
    left
    cases ht <;> omega
  | pass hp hx h1 hds =>
    rcases Int.lt_or_le K R with hKR | hKR
    · refine main rfl hKR hx (fun hl => ?_) (fun he => hp.symm) (fun e => by omega) (fun e => by omega) (fun e => by omega) (fun e => by omega)
      have := hl.2; omega
    · have e : K = R := by omega
      refine fin rfl e ?_
      rw [hds, beq_iff_eq.2 e]
  | wait hKR hp hx hds =>
    refine main rfl hKR (fun k _ => hx k) (fun hl => ?_) (fun he => ?_) (fun _ => by rw [hx]; exact hp.2) (fun e => by omega) (fun e => by omega) (fun _ _ => by rw [hx]; exact hp.1)
    · have := hl.1; rw [hx] at this; omega
    · have := he.1; rw [hx] at this; omega
theorem not_todo {m : Nat} {R K A G : Int} {s : Mc} {j : Nat} (h : Inv m R K A G s) (hj : j < m) (hd : s.ds.getD j false = true) {M : Int} {L : Nat → Prop} (ht : Todo m R K s M L) : ¬ L j := by
  have hp := h.done j hj hd
  have hst := h.stands j hj
  have hK := h.kB
  cases ht with
  | late hK' _ => intro hl; rcases hst with a | a | a <;> omega
  | early hK' _ _ => intro hl; rcases hst with a | a | a <;> omega
  | clear hK' _ _ _ _ _ => intro hl; rcases hst with a | a | a <;> omega
  | turn hK' _ _ _ _ _ => intro hl; rcases hst with a | a | a <;> omega
  | last _ _ => intro hl; unfold Open at hl; rw [hd] at hl; cases hl
  | over _ _ => exact id
theorem pass_todo {m : Nat} {R K A G : Int} {s : Mc} (h : Inv m R K A G s) {M : Int} {L : Nat → Prop} (ht : Todo m R K s M L) : ∀ k, k ≤ m →
    ∃ K' A' G' M' L', Inv m R K' A' G' (passP m s k) ∧ Todo m R K' (passP m s k) M' L' ∧ (M' < M ∨ (M' = M ∧ ∀ j, j < m → L' j → k ≤ j))
  | 0, _ => ⟨K, A, G, M, L, h, ht, .inr ⟨rfl, fun _ _ _ => Nat.zero_le _⟩⟩
  | k + 1, hk => by
    obtain ⟨K1, A1, G1, M1, L1, h1, ht1, hor⟩ := pass_todo h ht k (by omega)
    show ∃ K' A' G' M' L', Inv m R K' A' G' (pickP m (passP m s k) (k : Nat)) ∧ Todo m R K' (pickP m (passP m s k) (k : Nat)) M' L' ∧ (M' < M ∨ (M' = M ∧ ∀ j, j < m → L' j → k + 1 ≤ j))
    generalize passP m s k = s1 at *
    have hkm : k < m := by omega
    cases hd : s1.ds.getD k false with
    | true =>
      rw [pick_stays (.inr (by simpa using hd))]
      refine ⟨K1, A1, G1, M1, L1, h1, ht1, ?_⟩
      rcases hor with hlt | ⟨e, hall⟩
      · exact .inl hlt
      · refine .inr ⟨e, fun j hj hL => ?_⟩
        have := hall j hj hL
        have hne : j ≠ k := fun e => by subst e; exact not_todo h1 hkm hd ht1 hL
        omega
    | false =>
      obtain ⟨K2, A2, G2, h2, hdid⟩ := h1.pick hkm hd
      obtain ⟨M2, L2, ht2⟩ := h2.todo
      refine ⟨K2, A2, G2, M2, L2, h2, ht2, ?_⟩
      rcases todo_did h1 hkm h2 hd hdid ht1 ht2 with hlt | ⟨e, hall⟩
      · rcases hor with hlt' | ⟨e', _⟩
        · exact .inl (by omega)
        · exact .inl (by omega)
      · rcases hor with hlt' | ⟨e', hall'⟩
        · exact .inl (by omega)
        · refine .inr ⟨by omega, fun j hj hL => ?_⟩
          obtain ⟨a, b⟩ := hall j hj hL
          have := hall' j hj a
          omega
theorem left_zero {ds : List Bool} (h : ∀ j, j < ds.length → ds.getD j false = true) : leftP ds = 0 := by
  unfold leftP
  have : ds.filter (fun b => !b) = [] := by
    rw [List.filter_eq_nil_iff]
    intro b hb
    obtain ⟨j, hj, rfl⟩ := List.mem_iff_getElem.1 hb
    have := h j hj
    simp [List.getD_eq_getElem?_getD, hj] at this
    simp [this]
  rw [this]; rfl
theorem all_of_left {ds : List Bool} (h : leftP ds = 0) : ∀ j, j < ds.length → ds.getD j false = true := by
  intro j hj
  unfold leftP at h
  have h0 : (ds.filter fun b => !b) = [] := List.length_eq_zero_iff.1 (by omega)
  rw [List.filter_eq_nil_iff] at h0
  have := h0 ds[j] (List.getElem_mem hj)
  simp [List.getD_eq_getElem?_getD, hj]
  simpa using this
theorem over_left {m : Nat} {R K A G : Int} {s : Mc} (h : Inv m R K A G s) {L : Nat → Prop} (ht : Todo m R K s 0 L) : leftP s.ds = 0 := by
  refine left_zero fun j hj => ?_
  have hj' : j < m := by rw [← h.ds]; exact hj
  have key : ∀ {M : Int}, M = 0 → Todo m R K s M L → ∀ j, j < m → ¬ Open s j := by
    intro M hM ht
    cases ht with
    | late hK _ => omega
    | early hK _ _ => omega
    | clear hK _ _ _ _ _ => omega
    | turn hK _ _ _ _ _ => omega
    | last _ _ => omega
    | over _ h1 => exact h1
  have := key rfl ht j hj'
  unfold Open at this
  cases hd : s.ds.getD j false with
  | true => rfl
  | false => exact (this hd).elim
theorem endP_ok {m : Nat} {R : Int} : ∀ (f : Nat) {K A G : Int} {s : Mc} {M : Int} {L : Nat → Prop}, Inv m R K A G s → Todo m R K s M L → M ≤ f → ∃ K' A' G', Inv m R K' A' G' (endP m s f) ∧ leftP (endP m s f).ds = 0
  | 0, K, A, G, s, M, L, h, ht, hf => by
    have hb := ht.bound h.kB
    have e : M = 0 := by omega
    subst e
    exact ⟨K, A, G, h, over_left h ht⟩
  | f + 1, K, A, G, s, M, L, h, ht, hf => by
    simp only [endP]
    split
    · rename_i hl; exact ⟨K, A, G, h, hl⟩
    · rename_i hl
      obtain ⟨K1, A1, G1, M1, L1, h1, ht1, hor⟩ := pass_todo h ht m (Nat.le_refl _)
      have hlt : M1 < M := by
        rcases hor with hlt | ⟨e, hall⟩
        · exact hlt
        · rcases ht1.some with e0 | ⟨j, hj, hL⟩
          · rw [e0] at e
            subst e
            exact (hl (over_left h ht)).elim
          · have := hall j hj hL; omega
      exact endP_ok f h1 ht1 (by omega)
/-- all are done: all have passed all rounds -/
theorem Inv.fin {m : Nat} {R K A G : Int} {s : Mc} (h : Inv m R K A G s) (hl : leftP s.ds = 0) : K = R ∧ A = 0 ∧ ∀ j, j < m → (tkAt s j).passed = R ∧ (tkAt s j).came = R := by
  have ha := all_of_left hl
  have hp : ∀ j, j < m → (tkAt s j).passed = R := fun j hj => h.done j hj (ha j (by rw [h.ds]; exact hj))
  have hm := h.m8
  have hK := h.kB
  have h0 := h.stands 0 (by omega)
  have h00 := hp 0 (by omega)
  have e : K = R := by rcases h0 with a | a | a <;> omega
  have hc : ∀ j, j < m → (tkAt s j).came = R ∧ (tkAt s j).phase = 0 := fun j hj => by
    have := hp j hj
    rcases h.stands j hj with a | a | a <;> omega
  refine ⟨e, ?_, fun j hj => ⟨hp j hj, (hc j hj).1⟩⟩
  rcases h.mode with ⟨h1, h2, h3⟩ | ⟨i, h1, h2, h3, h4⟩
  · rw [h2]; exact cnt_none fun j hj => decide_eq_false (by have := (hc j hj).1; omega)
  · have := h4 i h1; have := (hc i h1).1; omega
/-- at the beginning -/
theorem inv_start {m : Nat} (hm : 1 ≤ m ∧ m ≤ 8) {r : Int} {c : Int} : Inv m (boundOf r) 0 0 0 ⟨[0, 0], c, List.replicate m (newTk m r), List.replicate m false⟩ := by
  have hR : 0 ≤ boundOf r ∧ boundOf r ≤ 1000 := by unfold boundOf; rw [imin_eq, imax_eq]; split <;> split <;> omega
  have ht : ∀ i, i < m → tkAt ⟨[0, 0], c, List.replicate m (newTk m r), List.replicate m false⟩ i = newTk m r := by
    intro i hi
    show (List.replicate m (newTk m r)).getD i encTk.dflt = _
    simp [List.getD_eq_getElem?_getD, hi]
  refine ⟨rfl, by simp, by simp, hm, by omega, hR.2, rfl, fun i hi => by rw [ht i hi]; exact ⟨rfl, rfl, rfl⟩, fun i hi => by rw [ht i hi]; exact .inl ⟨rfl, rfl, rfl⟩, .inl ⟨fun i hi => by rw [ht i hi]; exact .inl rfl, ?_, by omega⟩, fun i hi h => ?_⟩
  · symm; refine cnt_none fun j hj => ?_
    rw [hereB, ht j hj]; rfl
  · rw [Sx.getD_replicate] at h; cases h
end Go.Proofs.YtafipmkobdhigaaDoor

/- BarrierEnds: pieces and states. -/
namespace Go.Proofs.YtafipmkobdhigaaDoor
open Go Go.Proofs.YtafipmkobdhigaaDoor.Sx
set_option linter.unusedVariables false
/-- with rounds, what is left behind them, and memory -/
noncomputable def cfgU (n m : Nat) (s s2 : Mc) : Cfg := { P := Tryd.prog, ex := exI, gl := [(0, 0)], sm := fun f => match f with | 12 => some (smPre 7 (gRound n m s)) | 13 => some (smPre 7 (gLeft n m s2)) | 30 => some (smPre 3 gLoad) | _ => none }
theorem cfgU_ok {n m : Nat} {s s2 : Mc} : SmOk (cfgU n m s s2) := by
  intro f g h
  simp only [cfgU] at h
  split at h
  · simp only [Option.some.injEq] at h; subst h
    exact smPre_ok (c := cfgM) (gl_lt (by omega)) gRound_ok
  · simp only [Option.some.injEq] at h; subst h
    exact smPre_ok (c := cfgM) (gl_lt (by omega)) gLeft_ok
  · simp only [Option.some.injEq] at h; subst h
    exact smPre_ok (c := cfgW) (gl_lt (by omega)) load_ok
  · cases h
noncomputable def b4 : Code := Tryd.f4.body.getD .skip
noncomputable def c4 : Code := restC 4 b4
noncomputable def reg4 : Code := lft (lft c4)
noncomputable def blk4 : Code := rgt (lft c4)
noncomputable def round4 : Code := lft (lft blk4)
noncomputable def rest4 : Code := rgt c4
noncomputable def chk4 : Code := lft rest4
noncomputable def in4 : Code := lft (rgt rest4)
noncomputable def lp4 : Code := lft (lft (rgt in4))
noncomputable def end4 : Code := rgt (rgt rest4)
abbrev n4a : List Nat := [2, 7, 8, 9, 10]
abbrev n4b : List Nat := [2, 7, 8, 9, 10, 11]
abbrev n4c : List Nat := [2, 7, 8, 9, 10, 12]
abbrev v4 (p : In1) (m : Nat) (r : Int) : List SVal := [picksV p 8, .int .i64 (m : Nat), .int .i64 r, .ptr 4 0, .sli 7 (.c 0) 1 (.v m) none]
end Go.Proofs.YtafipmkobdhigaaDoor

namespace Go.Proofs.YtafipmkobdhigaaDoor
open Go Go.Proofs.YtafipmkobdhigaaDoor.Sx
set_option linter.unusedVariables false
set_option maxRecDepth 100000 in
theorem t4_pre {p : In1} {z y : Int} : (execN (cfgL p (1 + z.tmod 8).toNat (y.tmod 20)) 100 4 b4 ([.int .u8 z, .int .u8 y, picksV p 1] ++ List.replicate 80 .bad) (s0 p)).bind (canonK 9 [(0,0)] 83 n4a) =
 

 (.need (inR .i64 z)

 (.need (true)

 (.need (inR .i64 ((1 : Int) + z.tmod (8 : Int)))

 (.need (inR .i64 y)

 (.need (true)

 (.eq ([SVal.int .i64 ((1 : Int) + z.tmod (8 : Int)), .int .i64 (y.tmod (20 : Int))] = [SVal.int .i64 (↑((1 : Int) + z.tmod (8 : Int)).toNat : Int), .int .i64 (y.tmod (20 : Int))] ∧ [Blk.ro encLook [PUnit.unit], .ro (encInt IntKind.i64) p.1] = [Blk.ro encLook [PUnit.unit], .ro (encInt IntKind.i64) p.1] ∧ 1 ≤ ((1 : Int) + z.tmod (8 : Int)).toNat ∧ ((1 : Int) + z.tmod (8 : Int)).toNat ≤ 8)

 (.eq (some [Blk.ro encLook [PUnit.unit]] = some [Blk.ro encLook [PUnit.unit]])

 (.ret (.normal, [.sli 1 (.c 0) 1 (.v p.1.length) (some (.v p.2)), .int .i64 ((1 : Int) + z.tmod (8 : Int)), .int .i64 (y.tmod (20 : Int)), .ptr 5 0, .sli 8 (.c 0) 1 (.v ((1 : Int) + z.tmod (8 : Int)).toNat) none], [.ro encLook [PUnit.unit], .ro (encInt IntKind.i64) p.1, .own [.c (.sli 3 (.c 0) 1 (.c 2) (some (.c 2))), .c (.lit .i64 (0 : Int))] 70, .own [.c (.lit .u32 (0 : Int)), .c (.lit .u32 (0 : Int))] 35, .many encTk (List.replicate ((1 : Int) + z.tmod (8 : Int)).toNat { at' := (0 : Int), n := (↑((1 : Int) + z.tmod (8 : Int)).toNat : Int), rounds := boundOf (y.tmod (20 : Int)), phase := 0, came := (0 : Int), passed := (0 : Int) }) 68, .own [.c (.ptr 2 0), .c (.sli 6 (.c 0) 1 (.v ((1 : Int) + z.tmod (8 : Int)).toNat) none), .c (.sli 7 (.c 0) 1 (.v ((1 : Int) + z.tmod (8 : Int)).toNat) (some (.v ((1 : Int) + z.tmod (8 : Int)).toNat)))] 64, .vec (encT 30 4) (List.range ((1 : Int) + z.tmod (8 : Int)).toNat) 66, .own [.a encBool ((1 : Int) + z.tmod (8 : Int)).toNat (List.replicate ((1 : Int) + z.tmod (8 : Int)).toNat false)] 4, .vec (encP 4) (List.range ((1 : Int) + z.tmod (8 : Int)).toNat) 30]))))))))) := by kernel_rfl
set_option maxRecDepth 100000 in
theorem t4_reg {p : In1} {m : Nat} {r : Int} {s : Mc} : (exec cfgM 100 reg4 (fr 83 n4a (v4 p m r)) (s5 p m s)).bind (canonK 9 [(0,0)] 83 n4b) =
 

 (.ret (.normal, [.sli 8 (.c 0) 1 (.v p.1.length) (some (.v p.2)), .int .i64 (↑m : Int), .int .i64 r, .ptr 4 0, .sli 7 (.c 0) 1 (.v m) none, .lit .i64 (0 : Int)], [.ro encLook [PUnit.unit], .own [.c (.sli 2 (.c 0) 1 (.v 2) (some (.v 2))), .c (.int .i64 s.2)] 70, .own [.a (encInt IntKind.u32) 2 s.1] 35, .many encTk s.3 68, .own [.c (.ptr 1 0), .c (.sli 5 (.c 0) 1 (.v m) none), .c (.sli 6 (.c 0) 1 (.v m) (some (.v m)))] 64, .vec (encT 30 3) (List.range m) 66, .own [.a encBool m s.4] 4, .vec (encP 3) (List.range m) 30, .ro (encInt IntKind.i64) p.1])) := by kernel_rfl
set_option maxRecDepth 100000 in
theorem t4_round {p : In1} {m : Nat} {r : Int} {s : Mc} {i : Nat} : (exec (cfgQ 2 m s) 100 round4 (fr 83 n4b (v4 p m r ++ [.int .i64 (i : Nat)])) (s5 p m s)).bind (canonK 9 [(0,0)] 83 n4b) =
 

 (.br (decide ((↑i : Int) < (↑p.1.length : Int)))

 (.br (decide ((↑i : Int) < (300 : Int)))

 (.need (decide ((0 : Int) ≤ (↑i : Int)) && decide ((↑i : Int).toNat < p.1.length))

 (.need (decide ((↑i : Int).toNat < p.1.length))

 (.eq ([Blk.ro encLook [PUnit.unit], .own [.c (.sli 2 (.c 0) 1 (.v 2) (some (.v 2))), .c (.int .i64 s.2)] 70, .own [.a (encInt IntKind.u32) 2 s.1] 35, .many encTk s.3 68, .own [.c (.ptr 1 0), .c (.sli 5 (.c 0) 1 (.v m) none), .c (.sli 6 (.c 0) 1 (.v m) (some (.v m)))] 64, .vec (encT 30 3) (List.range m) 66, .own [.a encBool m s.4] 4] = [Blk.ro encLook [PUnit.unit], .own [.c (.sli 2 (.c 0) 1 (.v 2) (some (.v 2))), .c (.int .i64 s.2)] 70, .own [.a (encInt IntKind.u32) 2 s.1] 35, .many encTk s.3 68, .own [.c (.ptr 1 0), .c (.sli 5 (.c 0) 1 (.v m) none), .c (.sli 6 (.c 0) 1 (.v m) (some (.v m)))] 64, .vec (encT 30 3) (List.range m) 66, .own [.a encBool m s.4] 4] ∧ McOk 2 m s)

 (.need (inR .i64 ((↑i : Int) + (1 : Int)))

 (.ret (.normal, [.sli 8 (.c 0) 1 (.v p.1.length) (some (.v p.2)), .int .i64 (↑m : Int), .int .i64 r, .ptr 4 0, .sli 7 (.c 0) 1 (.v m) none, .int .i64 ((↑i : Int) + (1 : Int))], [.ro encLook [PUnit.unit], .own [.c (.sli 2 (.c 0) 1 (.v 2) (some (.v 2))), .c (.int .i64 (pickP m s (p.1.getD (↑i : Int).toNat (0 : Int))).c)] 70, .own [.a (encInt IntKind.u32) 2 (pickP m s (p.1.getD (↑i : Int).toNat (0 : Int))).l] 35, .many encTk (pickP m s (p.1.getD (↑i : Int).toNat (0 : Int))).xs 68, .own [.c (.ptr 1 0), .c (.sli 5 (.c 0) 1 (.v m) none), .c (.sli 6 (.c 0) 1 (.v m) (some (.v m)))] 64, .vec (encT 30 3) (List.range m) 66, .own [.a encBool m (pickP m s (p.1.getD (↑i : Int).toNat (0 : Int))).ds] 4, .vec (encP 3) (List.range m) 30, .ro (encInt IntKind.i64) p.1]))))))

 (.ret (.exit 0, [.sli 8 (.c 0) 1 (.v p.1.length) (some (.v p.2)), .int .i64 (↑m : Int), .int .i64 r, .ptr 4 0, .sli 7 (.c 0) 1 (.v m) none, .int .i64 (↑i : Int)], [.ro encLook [PUnit.unit], .own [.c (.sli 2 (.c 0) 1 (.v 2) (some (.v 2))), .c (.int .i64 s.2)] 70, .own [.a (encInt IntKind.u32) 2 s.1] 35, .many encTk s.3 68, .own [.c (.ptr 1 0), .c (.sli 5 (.c 0) 1 (.v m) none), .c (.sli 6 (.c 0) 1 (.v m) (some (.v m)))] 64, .vec (encT 30 3) (List.range m) 66, .own [.a encBool m s.4] 4, .vec (encP 3) (List.range m) 30, .ro (encInt IntKind.i64) p.1])))

 (.ret (.exit 0, [.sli 8 (.c 0) 1 (.v p.1.length) (some (.v p.2)), .int .i64 (↑m : Int), .int .i64 r, .ptr 4 0, .sli 7 (.c 0) 1 (.v m) none, .int .i64 (↑i : Int)], [.ro encLook [PUnit.unit], .own [.c (.sli 2 (.c 0) 1 (.v 2) (some (.v 2))), .c (.int .i64 s.2)] 70, .own [.a (encInt IntKind.u32) 2 s.1] 35, .many encTk s.3 68, .own [.c (.ptr 1 0), .c (.sli 5 (.c 0) 1 (.v m) none), .c (.sli 6 (.c 0) 1 (.v m) (some (.v m)))] 64, .vec (encT 30 3) (List.range m) 66, .own [.a encBool m s.4] 4, .vec (encP 3) (List.range m) 30, .ro (encInt IntKind.i64) p.1]))) := by kernel_rfl
set_option maxRecDepth 100000 in
theorem t4_chk {p : In1} {m : Nat} {r : Int} {s : Mc} {i : Nat} : (exec (cfgU 2 m s (endP m s (5 * r + 1).toNat)) 100 chk4 (fr 83 n4b (v4 p m r ++ [.int .i64 (i : Nat)])) (s5 p m s)).bind (canonK 9 [(0,0)] 83 n4a) =
 

 (.need (inR .i64 ((5 : Int) * r))

 (.need (inR .i64 ((5 : Int) * r + (1 : Int)))

 (.eq ([Blk.ro encLook [PUnit.unit], .own [.c (.sli 2 (.c 0) 1 (.v 2) (some (.v 2))), .c (.int .i64 s.2)] 70, .own [.a (encInt IntKind.u32) 2 s.1] 35, .many encTk s.3 68, .own [.c (.ptr 1 0), .c (.sli 5 (.c 0) 1 (.v m) none), .c (.sli 6 (.c 0) 1 (.v m) (some (.v m)))] 64, .vec (encT 30 3) (List.range m) 66, .own [.a encBool m s.4] 4] = [Blk.ro encLook [PUnit.unit], .own [.c (.sli 2 (.c 0) 1 (.v 2) (some (.v 2))), .c (.int .i64 s.2)] 70, .own [.a (encInt IntKind.u32) 2 s.1] 35, .many encTk s.3 68, .own [.c (.ptr 1 0), .c (.sli 5 (.c 0) 1 (.v m) none), .c (.sli 6 (.c 0) 1 (.v m) (some (.v m)))] 64, .vec (encT 30 3) (List.range m) 66, .own [.a encBool m s.4] 4] ∧ McOk 2 m s ∧ m ≤ 1000 ∧ (5 : Int) * r + (1 : Int) ≤ (1000000 : Int))

 (.need (inR .i64 ((5 : Int) * r))

 (.need (inR .i64 ((5 : Int) * r + (1 : Int)))

 (.br (decide ((5 : Int) * r + (1 : Int) < (↑(stopP m s ((5 : Int) * r + (1 : Int)).toNat) : Int)))

 (.ret (.ret, [.sli 8 (.c 0) 1 (.v p.1.length) (some (.v p.2)), .int .i64 (↑m : Int), .int .i64 r, .ptr 4 0, .sli 7 (.c 0) 1 (.v m) none], [.ro encLook [PUnit.unit], .own [.c (.sli 2 (.c 0) 1 (.v 2) (some (.v 2))), .c (.int .i64 (endP m s ((5 : Int) * r + (1 : Int)).toNat).c)] 70, .own [.a (encInt IntKind.u32) 2 (endP m s ((5 : Int) * r + (1 : Int)).toNat).l] 35, .many encTk (endP m s ((5 : Int) * r + (1 : Int)).toNat).xs 68, .own [.c (.ptr 1 0), .c (.sli 5 (.c 0) 1 (.v m) none), .c (.sli 6 (.c 0) 1 (.v m) (some (.v m)))] 64, .vec (encT 30 3) (List.range m) 66, .own [.a encBool m (endP m s ((5 : Int) * r + (1 : Int)).toNat).ds] 4, .vec (encP 3) (List.range m) 30, .ro (encInt IntKind.i64) p.1]))

 (.eq ([Blk.ro encLook [PUnit.unit], .own [.c (.sli 2 (.c 0) 1 (.v 2) (some (.v 2))), .c (.int .i64 (endP m s ((5 : Int) * r + (1 : Int)).toNat).c)] 70, .own [.a (encInt IntKind.u32) 2 (endP m s ((5 : Int) * r + (1 : Int)).toNat).l] 35, .many encTk (endP m s ((5 : Int) * r + (1 : Int)).toNat).xs 68, .own [.c (.ptr 1 0), .c (.sli 5 (.c 0) 1 (.v m) none), .c (.sli 6 (.c 0) 1 (.v m) (some (.v m)))] 64, .vec (encT 30 3) (List.range m) 66, .own [.a encBool m (endP m s ((5 : Int) * r + (1 : Int)).toNat).ds] 4] = [Blk.ro encLook [PUnit.unit], .own [.c (.sli 2 (.c 0) 1 (.v 2) (some (.v 2))), .c (.int .i64 (endP m s ((5 : Int) * r + (1 : Int)).toNat).c)] 70, .own [.a (encInt IntKind.u32) 2 (endP m s ((5 : Int) * r + (1 : Int)).toNat).l] 35, .many encTk (endP m s ((5 : Int) * r + (1 : Int)).toNat).xs 68, .own [.c (.ptr 1 0), .c (.sli 5 (.c 0) 1 (.v m) none), .c (.sli 6 (.c 0) 1 (.v m) (some (.v m)))] 64, .vec (encT 30 3) (List.range m) 66, .own [.a encBool m (endP m s ((5 : Int) * r + (1 : Int)).toNat).ds] 4] ∧ (endP m s ((5 : Int) * r + (1 : Int)).toNat).ds.length = m ∧ m ≤ 1000)

 (.br (leftP (endP m s ((5 : Int) * r + (1 : Int)).toNat).ds != (0 : Int))

 (.ret (.ret, [.sli 8 (.c 0) 1 (.v p.1.length) (some (.v p.2)), .int .i64 (↑m : Int), .int .i64 r, .ptr 4 0, .sli 7 (.c 0) 1 (.v m) none], [.ro encLook [PUnit.unit], .own [.c (.sli 2 (.c 0) 1 (.v 2) (some (.v 2))), .c (.int .i64 (endP m s ((5 : Int) * r + (1 : Int)).toNat).c)] 70, .own [.a (encInt IntKind.u32) 2 (endP m s ((5 : Int) * r + (1 : Int)).toNat).l] 35, .many encTk (endP m s ((5 : Int) * r + (1 : Int)).toNat).xs 68, .own [.c (.ptr 1 0), .c (.sli 5 (.c 0) 1 (.v m) none), .c (.sli 6 (.c 0) 1 (.v m) (some (.v m)))] 64, .vec (encT 30 3) (List.range m) 66, .own [.a encBool m (endP m s ((5 : Int) * r + (1 : Int)).toNat).ds] 4, .vec (encP 3) (List.range m) 30, .ro (encInt IntKind.i64) p.1]))

 (.ret (.normal, [.sli 8 (.c 0) 1 (.v p.1.length) (some (.v p.2)), .int .i64 (↑m : Int), .int .i64 r, .ptr 4 0, .sli 7 (.c 0) 1 (.v m) none], [.ro encLook [PUnit.unit], .own [.c (.sli 2 (.c 0) 1 (.v 2) (some (.v 2))), .c (.int .i64 (endP m s ((5 : Int) * r + (1 : Int)).toNat).c)] 70, .own [.a (encInt IntKind.u32) 2 (endP m s ((5 : Int) * r + (1 : Int)).toNat).l] 35, .many encTk (endP m s ((5 : Int) * r + (1 : Int)).toNat).xs 68, .own [.c (.ptr 1 0), .c (.sli 5 (.c 0) 1 (.v m) none), .c (.sli 6 (.c 0) 1 (.v m) (some (.v m)))] 64, .vec (encT 30 3) (List.range m) 66, .own [.a encBool m (endP m s ((5 : Int) * r + (1 : Int)).toNat).ds] 4, .vec (encP 3) (List.range m) 30, .ro (encInt IntKind.i64) p.1])))))))))) := by kernel_rfl
set_option maxRecDepth 100000 in
theorem t4_k {p : In1} {m : Nat} {r : Int} {s : Mc} : (exec cfgM 100 (lft in4) (fr 83 n4a (v4 p m r)) (s5 p m s)).bind (canonK 9 [(0,0)] 83 n4c) =
 

 (.ret (.normal, [.sli 8 (.c 0) 1 (.v p.1.length) (some (.v p.2)), .int .i64 (↑m : Int), .int .i64 r, .ptr 4 0, .sli 7 (.c 0) 1 (.v m) none, .lit .i64 (0 : Int)], [.ro encLook [PUnit.unit], .own [.c (.sli 2 (.c 0) 1 (.v 2) (some (.v 2))), .c (.int .i64 s.2)] 70, .own [.a (encInt IntKind.u32) 2 s.1] 35, .many encTk s.3 68, .own [.c (.ptr 1 0), .c (.sli 5 (.c 0) 1 (.v m) none), .c (.sli 6 (.c 0) 1 (.v m) (some (.v m)))] 64, .vec (encT 30 3) (List.range m) 66, .own [.a encBool m s.4] 4, .vec (encP 3) (List.range m) 30, .ro (encInt IntKind.i64) p.1])) := by kernel_rfl
set_option maxRecDepth 100000 in
theorem t4_in {p : In1} {m : Nat} {r : Int} {s : Mc} {k : Nat} : (exec cfgM 100 lp4 (fr 83 n4c (v4 p m r ++ [.int .i64 (k : Nat)])) (s5 p m s)).bind (canonK 9 [(0,0)] 83 n4c) =
 

 (.br (decide ((↑k : Int) < (↑m : Int)))

 (.need (decide ((0 : Int) ≤ (↑k : Int)) && decide ((↑k : Int).toNat < m))

 (.need (decide ((↑k : Int).toNat < (List.range m).length))

 (.need (decide ((List.range m).getD (↑k : Int).toNat 0 < s.3.length))

 (.br ((s.3.getD ((List.range m).getD (↑k : Int).toNat 0) { at' := (0 : Int), n := (0 : Int), rounds := (0 : Int), phase := 0, came := (0 : Int), passed := (0 : Int) }).passed != r)

 (.ret (.ret, [.sli 8 (.c 0) 1 (.v p.1.length) (some (.v p.2)), .int .i64 (↑m : Int), .int .i64 r, .ptr 4 0, .sli 7 (.c 0) 1 (.v m) none, .int .i64 (↑k : Int)], [.ro encLook [PUnit.unit], .own [.c (.sli 2 (.c 0) 1 (.v 2) (some (.v 2))), .c (.int .i64 s.2)] 70, .own [.a (encInt IntKind.u32) 2 s.1] 35, .many encTk s.3 68, .own [.c (.ptr 1 0), .c (.sli 5 (.c 0) 1 (.v m) none), .c (.sli 6 (.c 0) 1 (.v m) (some (.v m)))] 64, .vec (encT 30 3) (List.range m) 66, .own [.a encBool m s.4] 4, .vec (encP 3) (List.range m) 30, .ro (encInt IntKind.i64) p.1]))

 (.need (decide ((0 : Int) ≤ (↑k : Int)) && decide ((↑k : Int).toNat < m))

 (.need (decide ((↑k : Int).toNat < (List.range m).length))

 (.need (decide ((List.range m).getD (↑k : Int).toNat 0 < s.3.length))

 (.br ((s.3.getD ((List.range m).getD (↑k : Int).toNat 0) { at' := (0 : Int), n := (0 : Int), rounds := (0 : Int), phase := 0, came := (0 : Int), passed := (0 : Int) }).came != r)

 (.ret (.ret, [.sli 8 (.c 0) 1 (.v p.1.length) (some (.v p.2)), .int .i64 (↑m : Int), .int .i64 r, .ptr 4 0, .sli 7 (.c 0) 1 (.v m) none, .int .i64 (↑k : Int)], [.ro encLook [PUnit.unit], .own [.c (.sli 2 (.c 0) 1 (.v 2) (some (.v 2))), .c (.int .i64 s.2)] 70, .own [.a (encInt IntKind.u32) 2 s.1] 35, .many encTk s.3 68, .own [.c (.ptr 1 0), .c (.sli 5 (.c 0) 1 (.v m) none), .c (.sli 6 (.c 0) 1 (.v m) (some (.v m)))] 64, .vec (encT 30 3) (List.range m) 66, .own [.a encBool m s.4] 4, .vec (encP 3) (List.range m) 30, .ro (encInt IntKind.i64) p.1]))

 (.need (inR .i64 ((↑k : Int) + (1 : Int)))

 (.ret (.normal, [.sli 8 (.c 0) 1 (.v p.1.length) (some (.v p.2)), .int .i64 (↑m : Int), .int .i64 r, .ptr 4 0, .sli 7 (.c 0) 1 (.v m) none, .int .i64 ((↑k : Int) + (1 : Int))], [.ro encLook [PUnit.unit], .own [.c (.sli 2 (.c 0) 1 (.v 2) (some (.v 2))), .c (.int .i64 s.2)] 70, .own [.a (encInt IntKind.u32) 2 s.1] 35, .many encTk s.3 68, .own [.c (.ptr 1 0), .c (.sli 5 (.c 0) 1 (.v m) none), .c (.sli 6 (.c 0) 1 (.v m) (some (.v m)))] 64, .vec (encT 30 3) (List.range m) 66, .own [.a encBool m s.4] 4, .vec (encP 3) (List.range m) 30, .ro (encInt IntKind.i64) p.1])))))))))))

 (.ret (.exit 2, [.sli 8 (.c 0) 1 (.v p.1.length) (some (.v p.2)), .int .i64 (↑m : Int), .int .i64 r, .ptr 4 0, .sli 7 (.c 0) 1 (.v m) none, .int .i64 (↑k : Int)], [.ro encLook [PUnit.unit], .own [.c (.sli 2 (.c 0) 1 (.v 2) (some (.v 2))), .c (.int .i64 s.2)] 70, .own [.a (encInt IntKind.u32) 2 s.1] 35, .many encTk s.3 68, .own [.c (.ptr 1 0), .c (.sli 5 (.c 0) 1 (.v m) none), .c (.sli 6 (.c 0) 1 (.v m) (some (.v m)))] 64, .vec (encT 30 3) (List.range m) 66, .own [.a encBool m s.4] 4, .vec (encP 3) (List.range m) 30, .ro (encInt IntKind.i64) p.1]))) := by kernel_rfl
set_option maxRecDepth 100000 in
theorem t4_end {p : In1} {m : Nat} {r : Int} {s : Mc} {k : Nat} : (exec cfgM 100 end4 (fr 83 n4c (v4 p m r ++ [.int .i64 (k : Nat)])) (s5 p m s)).bind (canonK 9 [(0,0)] 83 [6]) =
 

 (.ret (.ret, [.bl true], [.ro encLook [PUnit.unit], .own [.c (.sli 2 (.c 0) 1 (.v 2) (some (.v 2))), .c (.int .i64 s.2)] 70, .own [.a (encInt IntKind.u32) 2 s.1] 35, .many encTk s.3 68, .own [.c (.ptr 1 0), .c (.sli 5 (.c 0) 1 (.v m) none), .c (.sli 6 (.c 0) 1 (.v m) (some (.v m)))] 64, .vec (encT 30 3) (List.range m) 66, .own [.a encBool m s.4] 4, .vec (encP 3) (List.range m) 30, .ro (encInt IntKind.i64) p.1])) := by kernel_rfl
end Go.Proofs.YtafipmkobdhigaaDoor

/- Layer 11: awake. -/
namespace Go.Proofs.YtafipmkobdhigaaDoor
open Go Go.Proofs.YtafipmkobdhigaaDoor.Sx
set_option linter.unusedVariables false
def nA0 : List SVal := [(SVal.ptr (4 : Nat) (0 : Nat)), (SVal.sli (15 : Nat) (NN.c (0 : Nat)) (1 : Nat) (NN.c (1 : Nat)) none)]
def nS0 : St := [(Blk.ro encLook [PUnit.unit]), (Blk.own [Seg.c (SVal.lit IntKind.u32 (0 : Int)), Seg.c (SVal.lit IntKind.u32 (1 : Int))] (35 : Nat)), (Blk.own [Seg.c (SVal.sli (1 : Nat) (NN.c (0 : Nat)) (1 : Nat) (NN.c (2 : Nat)) (some (NN.c (2 : Nat)))), Seg.c (SVal.lit IntKind.i64 (6 : Int))] (70 : Nat)), (Blk.own [Seg.c (SVal.lit IntKind.u32 (0 : Int)), Seg.c (SVal.lit IntKind.u32 (0 : Int))] (35 : Nat)), (Blk.own [Seg.c (SVal.sli (3 : Nat) (NN.c (0 : Nat)) (1 : Nat) (NN.c (2 : Nat)) (some (NN.c (2 : Nat)))), Seg.c (SVal.lit IntKind.i64 (0 : Int))] (70 : Nat)), (Blk.own [Seg.c (SVal.lit IntKind.i64 (0 : Int)), Seg.c (SVal.lit IntKind.i64 (2 : Int)), Seg.c (SVal.lit IntKind.i64 (2 : Int)), Seg.c (SVal.lit IntKind.i64 (0 : Int)), Seg.c (SVal.lit IntKind.i64 (1 : Int)), Seg.c (SVal.lit IntKind.i64 (1 : Int))] (68 : Nat)), (Blk.own [Seg.c (SVal.lit IntKind.i64 (0 : Int)), Seg.c (SVal.lit IntKind.i64 (2 : Int)), Seg.c (SVal.lit IntKind.i64 (2 : Int)), Seg.c (SVal.lit IntKind.i64 (0 : Int)), Seg.c (SVal.lit IntKind.i64 (1 : Int)), Seg.c (SVal.lit IntKind.i64 (1 : Int))] (68 : Nat)), (Blk.own [Seg.c (SVal.lit IntKind.u32 (4294967295 : Int)), Seg.c (SVal.lit IntKind.u32 (0 : Int)), Seg.c (SVal.lit IntKind.u32 (1 : Int))] (74 : Nat)), (Blk.own [Seg.c (SVal.lit IntKind.u32 (4294967295 : Int)), Seg.c (SVal.lit IntKind.u32 (0 : Int)), Seg.c (SVal.lit IntKind.u32 (0 : Int))] (74 : Nat)), (Blk.own [Seg.c (SVal.lit IntKind.u32 (4294967295 : Int)), Seg.c (SVal.lit IntKind.u32 (0 : Int)), Seg.c (SVal.lit IntKind.u32 (1 : Int))] (74 : Nat)), (Blk.own [Seg.c (SVal.lit IntKind.u32 (0 : Int)), Seg.c (SVal.lit IntKind.u32 (0 : Int)), Seg.c (SVal.lit IntKind.u32 (0 : Int))] (74 : Nat)), (Blk.own [Seg.c (SVal.lit IntKind.u32 (0 : Int)), Seg.c (SVal.lit IntKind.u32 (1 : Int)), Seg.c (SVal.lit IntKind.u32 (0 : Int))] (74 : Nat)), (Blk.own [Seg.c (SVal.lit IntKind.u32 (4294967295 : Int)), Seg.c (SVal.lit IntKind.u32 (0 : Int)), Seg.c (SVal.lit IntKind.u32 (0 : Int))] (74 : Nat)), (Blk.own [Seg.c (SVal.lit IntKind.i64 (0 : Int)), Seg.c (SVal.lit IntKind.i64 (1 : Int)), Seg.c (SVal.lit IntKind.i64 (3 : Int)), Seg.c (SVal.lit IntKind.i64 (0 : Int)), Seg.c (SVal.lit IntKind.i64 (0 : Int)), Seg.c (SVal.lit IntKind.i64 (0 : Int))] (68 : Nat)), (Blk.own [Seg.c (SVal.ifc (30 : Nat) (SVal.ptr (13 : Nat) (0 : Nat)))] (66 : Nat)), (Blk.vec (encRow 0) [[SVal.ifc (30 : Nat) (SVal.ptr (13 : Nat) (0 : Nat))]] (66 : Nat))]
abbrev nE0 : T SVal := (T.ret (SVal.sli (17 : Nat) (NN.c (0 : Nat)) (1 : Nat) (NN.v (1 : Nat)) none))
abbrev nE1 : T SVal := (T.need true (T.ret (SVal.ifc (30 : Nat) (SVal.ptr (13 : Nat) (0 : Nat)))))
set_option maxRecDepth 100000 in
theorem awake_val : (callF cfgT 1000 8 [] [lookB]).valE = some (anyP cfgW (100 : Nat) (24 : Nat) nA0 nS0 ∧ nE0 = nE0 ∧ nE1 = nE1 ∧ nE0 = nE0 ∧ nE1 = nE1 ∧ nE0 = nE0 ∧ nE1 = nE1 ∧ nE0 = nE0 ∧ nE1 = nE1 ∧ nE0 = nE0 ∧ nE1 = nE1 ∧ nE0 = nE0 ∧ nE1 = nE1 ∧ nE0 = nE0 ∧ nE1 = nE1 ∧ nE0 = nE0 ∧ nE1 = nE1 ∧ nE0 = nE0 ∧ nE1 = nE1 ∧ True, .bl true) := by kernel_rfl
set_option maxRecDepth 100000 in
theorem awake_props (h0 : anyP cfgW (100 : Nat) (24 : Nat) nA0 nS0) : anyP cfgW (100 : Nat) (24 : Nat) nA0 nS0 ∧ nE0 = nE0 ∧ nE1 = nE1 ∧ nE0 = nE0 ∧ nE1 = nE1 ∧ nE0 = nE0 ∧ nE1 = nE1 ∧ nE0 = nE0 ∧ nE1 = nE1 ∧ nE0 = nE0 ∧ nE1 = nE1 ∧ nE0 = nE0 ∧ nE1 = nE1 ∧ nE0 = nE0 ∧ nE1 = nE1 ∧ nE0 = nE0 ∧ nE1 = nE1 ∧ nE0 = nE0 ∧ nE1 = nE1 ∧ True := ⟨h0, rfl, rfl, rfl, rfl, rfl, rfl, rfl, rfl, rfl, rfl, rfl, rfl, rfl, rfl, rfl, rfl, rfl, rfl, trivial⟩
set_option maxRecDepth 100000 in
theorem new0 : anyP cfgW 100 24 nA0 nS0 := by
  have h1 : (anyTP cfgW 100 24 nA0 nS0).asks = some True := by kernel_rfl
  exact anyP_closed h1 trivial (by kernel_rfl)
theorem awake_ok (args : List SVal) (st : St) (s : SVal) (st' : St) (env : Env) (w : World) (vs : List Value) (hat : (smClosed [0] [lookB] (.bl true) args st).at (s, st')) (hg : GlOk [(0, 0)] env) (hr : Rep env st w) (hd : DenL env args vs) :
    Calls Tryd.prog 8 ⟨vs⟩ w fun e w' => ∃ env' v, e = .returned v ∧ Ext env st w env' st' w' ∧ Rep env' st' w' ∧ Den env' s v := by
  refine smClosedE_ok cfgT_ok awake_val (awake_props new0) (by kernel_rfl) rfl rfl ?_ args st s st' env w vs hat hg hr hd
  intro b hb e
  rw [List.mem_singleton.1 hb]; rfl
end Go.Proofs.YtafipmkobdhigaaDoor

/- BarrierTogether, BarrierEnds: their calls. -/
namespace Go.Proofs.YtafipmkobdhigaaDoor
open Go Go.Proofs.YtafipmkobdhigaaDoor.Sx
set_option linter.unusedVariables false
theorem cfgL_ok {p : In1} {n : Nat} {r : Int} : SmOk (cfgL p n r) := by
  intro g h e
  simp only [cfgL] at e
  split at e
  · simp only [Option.some.injEq] at e; subst e
    exact smEq_ok (c := cfgL p n r) fun hn => waiters_call hn.1 hn.2
  · simp only [Option.some.injEq] at e; subst e
    exact awake_ok
  · cases e
theorem noFoot2 {e0 e1 : Slot} {p : In1} (x : Nat) (h : inFoot [e0, e1] (s0 p) x) : False := by
  obtain ⟨id, e, b, he, hb, hx⟩ := h
  match id with
  | 0 => simp at hb; subst hb; cases hx
  | 1 => simp at hb; subst hb; cases hx
  | n + 2 => simp at hb
/-- the state that the making leaves, in the laws' order of names -/
theorem to_law {w0 : From} {p : In1} {m : Nat} {r : Int} {env : Env} {n : Nat} {names : List Nat} {vals vals' : List SVal} {a : Act} {w : World}
    (h : At [(0, 0)] w0 env (fr n names vals) (toS p (List.replicate m (newTk m r)) m) a w) (hv : renL [0, 2, 3, 4, 5, 6, 7, 8, 1] vals = vals') :
    ∃ env', At [(0, 0)] w0 env' (fr n names vals') (s5 p m ⟨[0, 0], 0, List.replicate m (newTk m r), List.replicate m false⟩) a w := by
  have h1 := h.perm [0, 2, 3, 4, 5, 6, 7, 8, 1] (by kernel_rfl) (by rfl) (st' := [lookB, .own [.c (.sli 2 (.c 0) 1 (.c 2) (some (.c 2))), .c (.lit .i64 0)] 70, .own [.c (.lit .u32 0), .c (.lit .u32 0)] 35, .many encTk (List.replicate m (newTk m r)) 68, machB m,
        .vec (encRow 0) (renRows [0, 2, 3, 4, 5, 6, 7, 8, 1] (encT 30 4) (List.range m)) 66, .own [.a encBool m (List.replicate m false)] 4,
        .vec (encRow 0) (renRows [0, 2, 3, 4, 5, 6, 7, 8, 1] (encP 4) (List.range m)) 30, .ro (encInt .i64) p.picks]) (by kernel_rfl) hv
  have h2 := h1.retype 5 (E := encT 30 4) (m := [0, 2, 3, 4, 5, 6, 7, 8, 1]) (xs := List.range m) rfl (encT 30 3) rfl (fun x => rfl)
  have h3 := h2.retype 7 (E := encP 4) (m := [0, 2, 3, 4, 5, 6, 7, 8, 1]) (xs := List.range m) rfl (encP 3) rfl (fun x => rfl)
  have h4 := h3.segs 2 (l' := [.a (encInt .u32) 2 [0, 0]]) rfl (by intro s hs; rw [List.mem_singleton.1 hs]; rfl) (fun cs h => by simpa [segCells, Seg.cells, encInt, DenL, Den] using h)
  exact ⟨_, h4.gen rfl⟩
theorem tmod8 {z : Int} (h : 0 ≤ z ∧ z ≤ 255) : 1 ≤ (1 + z.tmod 8).toNat ∧ (1 + z.tmod 8).toNat ≤ 8 ∧ ((1 + z.tmod 8).toNat : Int) = 1 + z.tmod 8 := by
  rw [Int.tmod_eq_emod_of_nonneg h.1]; omega
theorem b3_eq : Tryd.f3.body = some b3 := by kernel_rfl
set_option maxRecDepth 10000 in
theorem barrierTogether_call {p : In1} {z r : Int} (hz : 0 ≤ z ∧ z ≤ 255) (hr' : 0 ≤ r ∧ r ≤ 255) {e0 e1 : Slot} (he : e0.blk = 0 ∧ e0.off = 0) {w : World} {v' : Value} (hr : Rep [e0, e1] (s0 p) w) (hv' : Den [e0, e1] (picksV p 1) v') :
    Calls Tryd.prog 3 ⟨[.int .u8 z, .int .u8 r, v']⟩ w (Said ⟨w, fun _ => False⟩) := by
  have hm := tmod8 hz
  have ht := Int.tmod_eq_emod_of_nonneg (b := 8) hz.1
  refine call_begin (c := cfgL p (1 + z.tmod 8).toNat r) Tryd.func3 b3_eq (args := [.int .u8 z, .int .u8 r, picksV p 1]) (by
    intro q hq
    rw [List.mem_singleton.1 hq]
    exact ⟨e0, rfl, he⟩) hr ⟨_, _, rfl, by simp [Den], _, _, rfl, by simp [Den], _, _, rfl, hv', rfl⟩ (F := fun _ => False) (fun x h => noFoot2 x h) ?_
  intro a hA
  refine pieceNT0 (c := cfgL p (1 + z.tmod 8).toNat r) cfgL_ok 4 n3a t3_pre hA ?_
  refine all_needq (by simp only [inR_i64]; exact Iff.rfl) (by omega) ?_
  refine all_need rfl fun _ => ?_
  refine all_needq (by simp only [inR_i64]; exact Iff.rfl) (by omega) ?_
  refine all_needq (by simp only [inR_i64]; exact Iff.rfl) (by omega) ?_
  have e3 := hm.2.2
  generalize (1 + z.tmod 8).toNat = m at *
  rw [← e3]
  refine all_eq ⟨rfl, rfl, hm.1, hm.2.1⟩ (all_eq rfl (all_ret fun env1 a1 w1 hA1 => ?_))
  simp only [Ex.to, Exit.then]
  obtain ⟨env2, hA2⟩ := to_law hA1 rfl
  have hinv := inv_start (m := m) ⟨hm.1, hm.2.1⟩ (r := r) (c := 0)
  generalize (⟨[0, 0], 0, List.replicate m (newTk m r), List.replicate m false⟩ : Mc) = s0' at *
  refine (show c3.wp Tryd.prog (Q3 ⟨w, fun _ => False⟩) a1 w1 from wpS (by kernel_rfl) (wpS (by kernel_rfl) ?_))
  have hA4 : At [(0, 0)] ⟨w, fun _ => False⟩ env2 (fr 104 n3a (v3 p m)) (s5 p m s0') a1 w1 := hA2
  refine pieceT0 (c := cfgM) cfgM_ok n3b t3_reg hA4 (all_ret fun env3 a3 w3 hA5 => ?_)
  simp only [Ex.to, Exit.then]
  have hA6 := hA5.gvals (v3 p m ++ [SVal.int .i64 ((0 : Nat) : Int)]) rfl
  refine wpB 0 (by kernel_rfl) (wpL (by kernel_rfl) (Inv3 ⟨w, fun _ => False⟩ p m) (fun j => 300 - j.i) ⟨0, s0'⟩ ⟨by simp, ⟨_, _, _, _, hinv⟩, env3, hA6⟩ ?_)
  intro j a w h
  exact round3_ok h
abbrev Q4 (w0 : From) : Exit → Act → World → Prop := bodyPost Tryd.prog Tryd.f4 (Said w0)
structure Ix4 where
  i : Nat
  s : Mc
def Inv4 (w0 : From) (p : In1) (m : Nat) (r : Int) (j : Ix4) (a : Act) (w : World) : Prop :=
  j.i ≤ 300 ∧ (∃ K A G, Inv m r K A G j.s) ∧ ∃ env, At [(0, 0)] w0 env (fr 83 n4b (v4 p m r ++ [.int .i64 (j.i : Nat)])) (s5 p m j.s) a w
def Inv4k (w0 : From) (p : In1) (m : Nat) (r : Int) (s : Mc) (k : Nat) (a : Act) (w : World) : Prop :=
  k ≤ m ∧ ∃ env, At [(0, 0)] w0 env (fr 83 n4c (v4 p m r ++ [.int .i64 (k : Nat)])) (s5 p m s) a w
set_option maxHeartbeats 1000000 in
theorem rest4_ok {w0 : From} {p : In1} {m : Nat} {r : Int} (hr : 0 ≤ r ∧ r ≤ 19) {s : Mc} {K A G : Int} (hinv : Inv m r K A G s) {i : Nat} {env : Env} {a : Act} {w : World} (h : At [(0, 0)] w0 env (fr 83 n4b (v4 p m r ++ [.int .i64 (i : Nat)])) (s5 p m s) a w) : rest4.wp Tryd.prog (Q4 w0) a w := by
  have hm8 := hinv.m8
  have hK := hinv.kB
  obtain ⟨M, L, ht⟩ := hinv.todo
  have hb := ht.bound hK
  obtain ⟨K', A', G', hinv', hl⟩ := endP_ok (5 * r + 1).toNat hinv ht (by omega)
  have hfin := (hinv'.fin hl).2.2
  have hst := stopP_le m (5 * r + 1).toNat s
  have hxl := hinv'.xs
  refine wpS (by kernel_rfl) ?_
  refine pieceT0 (c := cfgU 2 m s (endP m s (5 * r + 1).toNat)) cfgU_ok n4a t4_chk h ?_
  refine all_needq (by simp only [inR_i64]; exact Iff.rfl) (by omega) ?_
  refine all_needq (by simp only [inR_i64]; exact Iff.rfl) (by omega) ?_
  refine all_eq ⟨rfl, hinv.ok, by omega, by omega⟩ ?_
  refine all_needq (by simp only [inR_i64]; exact Iff.rfl) (by omega) ?_
  refine all_needq (by simp only [inR_i64]; exact Iff.rfl) (by omega) ?_
  refine all_brp (by simp only [decide_eq_true_eq]; exact Iff.rfl) (fun h => by exfalso; omega) (fun _ => ?_)
  refine all_eq ⟨rfl, hinv'.ds, by omega⟩ ?_
  rw [hl]
  refine all_br (fun h => by cases h) (fun _ => ?_)
  refine all_ret fun env1 a1 w1 hA1 => ?_
  generalize endP m s (5 * r + 1).toNat = s' at *
  simp only [Ex.to, Exit.then]
  refine (show (rgt rest4).wp Tryd.prog (Q4 w0) a1 w1 from wpS (by kernel_rfl) (show in4.wp Tryd.prog (Exit.then (end4.wp Tryd.prog (Q4 w0)) (Q4 w0)) a1 w1 from wpS (by kernel_rfl) ?_))
  refine pieceT0 (c := cfgM) cfgM_ok n4c t4_k hA1 (all_ret fun env2 a2 w2 hA2 => ?_)
  simp only [Ex.to, Exit.then]
  have hA3 := hA2.gvals (v4 p m r ++ [SVal.int .i64 ((0 : Nat) : Int)]) rfl
  refine wpB 2 (by kernel_rfl) (wpL (by kernel_rfl) (Inv4k w0 p m r s') (fun k => m - k) 0 ⟨Nat.zero_le _, env2, hA3⟩ ?_)
  rintro k a w ⟨hk, env, hA⟩
  refine (show lp4.wp Tryd.prog _ a w from ?_)
  refine pieceT0 (c := cfgM) cfgM_ok n4c t4_in hA ?_
  refine all_brp (by simp only [decide_eq_true_eq]; exact Iff.rfl) (fun h1 => ?_) (fun h1 => ?_)
  · have hk' : k < m := by omega
    have hrr : (List.range m).getD k 0 = k := getD_range hk'
    have hlr : (List.range m).length = m := by simp
    have hT := fun d => xsD hxl hk' d
    have hf := hfin k hk'
    simp only [Int.toNat_natCast, hrr, hlr, hT, hf.1, hf.2]
    repeat' (first
      | refine all_needq (by simp only [decide_eq_true_eq, Bool.and_eq_true, inR_i64]; exact Iff.rfl) (by omega) ?_
      | refine all_brp (by simp only [bne_iff_ne, ne_eq]; exact Iff.rfl) (fun h => by exact (h trivial).elim) (fun _ => ?_))
    refine all_ret fun env' a' w' hA' => ?_
    exact ⟨k + 1, ⟨by omega, env', hA'⟩, by omega⟩
  · refine all_ret fun env' a' w' hA' => ?_
    simp only [Ex.to, Exit.then, Exit.inBlock, if_true]
    exact pieceT0 (c := cfgM) cfgM_ok [6] t4_end hA' (all_ret fun env' a' w' hA' => hA'.said (by kernel_rfl))
set_option maxHeartbeats 1000000 in
theorem round4_ok {w0 : From} {p : In1} {m : Nat} {r : Int} (hr : 0 ≤ r ∧ r ≤ 19) {j : Ix4} {a : Act} {w : World} (h : Inv4 w0 p m r j a w) :
    round4.wp Tryd.prog (Exit.then (fun a' w' => ∃ k, Inv4 w0 p m r k a' w' ∧ 300 - k.i < 300 - j.i) (Exit.inBlock 0 (Exit.then (rest4.wp Tryd.prog (Q4 w0)) (Q4 w0)))) a w := by
  obtain ⟨i, s⟩ := j
  obtain ⟨hi, ⟨K, A, G, hinv⟩, env, hA⟩ := h
  simp only at hi hinv hA ⊢
  refine pieceT0 (c := cfgQ 2 m s) cfgQ_ok n4b t4_round hA ?_
  refine all_brp (by simp only [decide_eq_true_eq]; exact Iff.rfl) (fun h1 => ?_) (fun h1 => all_ret fun _ _ _ h => by
    simp only [Ex.to, Exit.then, Exit.inBlock, if_true]; exact rest4_ok hr hinv h)
  refine all_brp (by simp only [decide_eq_true_eq]; exact Iff.rfl) (fun h2 => ?_) (fun h1 => all_ret fun _ _ _ h => by
    simp only [Ex.to, Exit.then, Exit.inBlock, if_true]; exact rest4_ok hr hinv h)
  refine all_needq (by simp only [decide_eq_true_eq, Bool.and_eq_true]; exact Iff.rfl) (by omega) ?_
  refine all_needq (by simp only [decide_eq_true_eq]; exact Iff.rfl) (by omega) ?_
  refine all_eq ⟨rfl, hinv.ok⟩ ?_
  refine all_needq (by simp only [inR_i64]; exact Iff.rfl) (by omega) ?_
  refine all_ret fun env' a' w' hA' => ?_
  exact ⟨⟨i + 1, _⟩, ⟨by simp only; omega, inv_pick hinv _, env', hA'⟩, by simp only; omega⟩
theorem b4_eq : Tryd.f4.body = some b4 := by kernel_rfl
set_option maxRecDepth 10000 in
theorem barrierEnds_call {p : In1} {z y : Int} (hz : 0 ≤ z ∧ z ≤ 255) (hy : 0 ≤ y ∧ y ≤ 255) {e0 e1 : Slot} (he : e0.blk = 0 ∧ e0.off = 0) {w : World} {v' : Value} (hr : Rep [e0, e1] (s0 p) w) (hv' : Den [e0, e1] (picksV p 1) v') :
    Calls Tryd.prog 4 ⟨[.int .u8 z, .int .u8 y, v']⟩ w (Said ⟨w, fun _ => False⟩) := by
  have hm := tmod8 hz
  have ht := Int.tmod_eq_emod_of_nonneg (b := 8) hz.1
  have ht2 := Int.tmod_eq_emod_of_nonneg (b := 20) hy.1
  refine call_begin (c := cfgL p (1 + z.tmod 8).toNat (y.tmod 20)) Tryd.func4 b4_eq (args := [.int .u8 z, .int .u8 y, picksV p 1]) (by
    intro q hq
    rw [List.mem_singleton.1 hq]
    exact ⟨e0, rfl, he⟩) hr ⟨_, _, rfl, by simp [Den], _, _, rfl, by simp [Den], _, _, rfl, hv', rfl⟩ (F := fun _ => False) (fun x h => noFoot2 x h) ?_
  intro a hA
  refine pieceNT0 (c := cfgL p (1 + z.tmod 8).toNat (y.tmod 20)) cfgL_ok 4 n4a t4_pre hA ?_
  repeat' (first
    | refine all_needq (by simp only [inR_i64]; exact Iff.rfl) (by omega) ?_
    | refine all_need rfl (fun _ => ?_))
  have e3 := hm.2.2
  have hrB : 0 ≤ y.tmod 20 ∧ y.tmod 20 ≤ 19 := by omega
  generalize (1 + z.tmod 8).toNat = m at *
  rw [← e3]
  refine all_eq ⟨rfl, rfl, hm.1, hm.2.1⟩ (all_eq rfl (all_ret fun env1 a1 w1 hA1 => ?_))
  simp only [Ex.to, Exit.then]
  obtain ⟨env2, hA2⟩ := to_law hA1 rfl
  generalize y.tmod 20 = r at *
  have hinv := inv_start (m := m) ⟨hm.1, hm.2.1⟩ (r := r) (c := 0)
  have hbo : boundOf r = r := by unfold boundOf; rw [imin_eq, imax_eq]; split <;> split <;> omega
  rw [hbo] at hinv
  generalize (⟨[0, 0], 0, List.replicate m (newTk m r), List.replicate m false⟩ : Mc) = s0' at *
  refine (show c4.wp Tryd.prog (Q4 ⟨w, fun _ => False⟩) a1 w1 from wpS (by kernel_rfl) (wpS (by kernel_rfl) ?_))
  have hA4 : At [(0, 0)] ⟨w, fun _ => False⟩ env2 (fr 83 n4a (v4 p m r)) (s5 p m s0') a1 w1 := hA2
  refine pieceT0 (c := cfgM) cfgM_ok n4b t4_reg hA4 (all_ret fun env3 a3 w3 hA5 => ?_)
  simp only [Ex.to, Exit.then]
  have hA6 := hA5.gvals (v4 p m r ++ [SVal.int .i64 ((0 : Nat) : Int)]) rfl
  refine wpB 0 (by kernel_rfl) (wpL (by kernel_rfl) (Inv4 ⟨w, fun _ => False⟩ p m r) (fun j => 300 - j.i) ⟨0, s0'⟩ ⟨by simp, ⟨_, _, _, hinv⟩, env3, hA6⟩ ?_)
  intro j a w h
  exact round4_ok hrB h
end Go.Proofs.YtafipmkobdhigaaDoor

/- Layer 11: the package's variable, and how a card is closed. -/
namespace Go.Proofs.YtafipmkobdhigaaDoor
open Go Go.Proofs.YtafipmkobdhigaaDoor.Sx Go.ChangeShapes Go.WideShapes Go.ChangeAt Go.RowKit
set_option linter.unusedVariables false
abbrev laid1 : List (String × DataW Unit) := [("purlin/mem.look", Rows.laid_purlin_mem_look)]
theorem Tryd.own : ownKnob Tryd.prog.godebug = none := by kernel_rfl
theorem Tryd.laidOut : laidOutB Tryd.prog = true := by kernel_rfl
theorem gLook : Tryd.prog.globalNamed "purlin/mem.look" = some 0 := by kernel_rfl
theorem tLook : (Tryd.prog.globals[0]?).map (·.type) = some 74 := by kernel_rfl
/-- the door's own heap meets the condition -/
theorem door_met (os : Os) (args : Array Value) : laidMetH Tryd.prog laid1 ((World.doorLaid Tryd.prog 400 os).forCall (fun _ _ => 0) ⟨#[], args, []⟩).memory :=
  laidMetH_of_parts3 (fuel := 8) (laidMet_of_run' 8 (by kernel_rfl) (by kernel_rfl)) (by kernel_rfl) (by kernel_rfl)
set_option maxRecDepth 100000 in
/-- what the condition gives -/
theorem of_laid {W : World} (h : laidMetH Tryd.prog laid1 W) : ∃ e : Slot, (e.blk = 0 ∧ e.off = 0) ∧ Rep [e] [lookB] W := by
  rw [MakeChecks.laidMetH_plain _ _ _ (by kernel_rfl)] at h
  obtain ⟨ps, ⟨g0, t0, cs0, f0, p0, q0, hg0, ht0, hv0, hd0, _, _⟩, _, _⟩ := h
  obtain rfl := Option.some.inj (gLook.symm.trans hg0)
  obtain rfl := Option.some.inj (tLook.symm.trans ht0)
  obtain ⟨xs, m, _, hx, hlen, hxl, hf⟩ := DataW.trod_struct Tryd.underlying74 hd0
  have hC : Tryd.prog.cellsOf 74 = 3 := by kernel_rfl
  have k23 : Tryd.prog.cellsOf 35 = 1 := by kernel_rfl
  rw [hC] at hlen
  obtain ⟨l⟩ := cs0
  simp only at hlen hf
  match l, hlen with
  | [c0, c1, c2], _ =>
    match xs, hxl, hx with
    | [y0, y1, y2], _, hx =>
      have f0 : DataW.trod _ Tryd.prog W 0 _ false m 35 (([c0, c1, c2].drop 0).take (Tryd.prog.cellsOf 35)) = some y0 := hf 0 _ rfl
      have f1 : DataW.trod _ Tryd.prog W 0 _ false m 35 (([c0, c1, c2].drop 1).take (Tryd.prog.cellsOf 35)) = some y1 := hf 1 _ rfl
      have f2 : DataW.trod _ Tryd.prog W 0 _ false m 35 (([c0, c1, c2].drop 2).take (Tryd.prog.cellsOf 35)) = some y2 := hf 2 _ rfl
      rw [k23] at f0 f1 f2
      obtain ⟨a0, h0, e0, _⟩ := DataW.trod_int Tryd.underlying35 f0
      obtain ⟨a1, h1, e1, _⟩ := DataW.trod_int Tryd.underlying35 f1
      obtain ⟨a2, h2, e2, _⟩ := DataW.trod_int Tryd.underlying35 f2
      simp at h0 h1 h2
      subst h0 h1 h2 e0 e1 e2
      simp [Rows.laid_purlin_mem_look] at hx
      obtain ⟨⟨rfl, rfl, rfl⟩, _⟩ := hx
      have hc := fun i => World.var?_cell hg0 hv0 i
      have hsz : 0 < W.heap.size := by
        have := hc 0
        simp only [World.cell?] at this
        rcases Nat.eq_zero_or_pos W.heap.size with h | h
        · rw [Array.getElem?_eq_none (by omega)] at this; simp at this
        · exact h
      refine ⟨⟨0, 0, 0, []⟩, ⟨rfl, rfl⟩, rfl, ?_, ?_, ?_⟩
      · intro id sl b he hb
        match id with
        | 0 =>
          simp only [List.getElem?_cons_zero, Option.some.injEq] at he hb
          subst he hb
          refine ⟨[.int .u32 4294967295, .int .u32 0, .int .u32 0], by simp [encLook, encOf, DenL, Den], fun i hi => ?_⟩
          have := hc i
          simpa using this
        | n + 1 => simp at he
      · intro i j e f b c hij he hf' hb' hc' x hx''
        match i, j with
        | 0, 0 => exact (hij rfl).elim
        | i + 1, _ => simp at he
        | 0, j + 1 => simp at hf'
      · intro id sl b he hb x hx
        match id with
        | 0 =>
          simp only [List.getElem?_cons_zero, Option.some.injEq] at he hb
          subst he hb
          simp [Blk.supp] at hx
          omega
        | n + 1 => simp at he
theorem wf_u8 {n : Int} (h : (Lit.int .u8 n).wf = true) : 0 ≤ n ∧ n ≤ 255 := by simp [Lit.wf, IntKind.min, IntKind.max, IntKind.signed, IntKind.bits] at h; omega
theorem wf_u32 {n : Int} (h : (Lit.int .u32 n).wf = true) : 0 ≤ n ∧ n < 4294967296 := by simp [Lit.wf, IntKind.min, IntKind.max, IntKind.signed, IntKind.bits] at h; omega
theorem open_i64 {H : Type} {enc : TypeId × Value → H} {w : World} {base : Nat} {spare : Nat → Bool} {held : Bool} (n : Nat) (cs : List Value) (y : DataW H × List MemPlace) (h : DataW.trod enc Tryd.prog w base spare held n 3 cs = some y) :
    ∃ x : Int, DenL [] ((encInt .i64).enc x) cs := by
  cases n with
  | zero => simp [DataW.trod] at h
  | succ n =>
    obtain ⟨a, h0, _, hw⟩ := DataW.trod_int Tryd.underlying3 h
    subst h0
    exact ⟨a, by simp [encInt, DenL, Den]⟩
end Go.Proofs.YtafipmkobdhigaaDoor

/- BarrierRuns, plain: the machine of a play at the words 1, 2 of three, beside one at the words 0, 1 of two. -/
namespace Go.Proofs.YtafipmkobdhigaaDoor
open Go Go.Proofs.YtafipmkobdhigaaDoor.Sx
set_option linter.unusedVariables false
structure RelT (x y : Tk) : Prop where
  ax : x.at' = 1 ∧ y.at' = 0
  n : x.n = y.n
  rounds : x.rounds = y.rounds
  phase : x.phase = y.phase
  came : x.came = y.came
  passed : x.passed = y.passed
def RelL (l l' : List Int) : Prop := ∃ a b : Int, l = [0, a, b] ∧ l' = [a, b]
theorem rel_step {x y : Tk} {l l' : List Int} (h : RelT x y) (hl : RelL l l') :
    RelT (stepP x l).1 (stepP y l').1 ∧ RelL (stepP x l).2.1 (stepP y l').2.1 ∧ (stepP x l).2.2 = (stepP y l').2.2 := by
  obtain ⟨xa, xn, xr, xp, xc, xs⟩ := x
  obtain ⟨ya, yn, yr, yp, yc, ys⟩ := y
  obtain ⟨⟨h1, h2⟩, h3, h4, h5, h6, h7⟩ := h
  obtain ⟨a, b, rfl, rfl⟩ := hl
  simp only at h1 h2 h3 h4 h5 h6 h7
  subst h1 h2 h3 h4 h5 h6 h7
  have hL : RelL [0, a, b] [a, b] := ⟨a, b, rfl, rfl⟩
  have i1 : ∀ x y z : Int, inP 1 [x, y, z].length = true := fun _ _ _ => rfl
  have i2 : ∀ x y z : Int, inP (1 + 1) [x, y, z].length = true := fun _ _ _ => rfl
  have j0 : ∀ x y : Int, inP 0 [x, y].length = true := fun _ _ => rfl
  have j1 : ∀ x y : Int, inP (0 + 1) [x, y].length = true := fun _ _ => rfl
  have g1 : ∀ x y z : Int, [x, y, z].getD (1 : Int).toNat 0 = y := fun _ _ _ => rfl
  have g2 : ∀ x y z : Int, [x, y, z].getD (1 + 1 : Int).toNat 0 = z := fun _ _ _ => rfl
  have k0 : ∀ x y : Int, [x, y].getD (0 : Int).toNat 0 = x := fun _ _ => rfl
  have k1 : ∀ x y : Int, [x, y].getD (0 + 1 : Int).toNat 0 = y := fun _ _ => rfl
  unfold stepP
  simp only
  cases hps : (xs == xr) with
  | true => exact ⟨⟨⟨rfl, rfl⟩, rfl, rfl, rfl, rfl, rfl⟩, hL, rfl⟩
  | false =>
    match xp with
    | 0 =>
      simp only [i1, j0, g1, k0]
      exact ⟨⟨⟨rfl, rfl⟩, rfl, rfl, rfl, rfl, rfl⟩, ⟨_, _, rfl, rfl⟩, by trivial⟩
    | 1 =>
      simp only [i1, j0, g1, k0]
      exact ⟨⟨⟨rfl, rfl⟩, rfl, rfl, rfl, rfl, rfl⟩, ⟨_, _, rfl, rfl⟩, by trivial⟩
    | 2 =>
      simp only [i2, j1, g2, k1]
      exact ⟨⟨⟨rfl, rfl⟩, rfl, rfl, rfl, rfl, rfl⟩, ⟨_, _, rfl, rfl⟩, by trivial⟩
    | n + 3 =>
      simp only [i2, j1, g2, k1]
      cases (b == senseP xc) with
      | true => exact ⟨⟨⟨rfl, rfl⟩, rfl, rfl, rfl, rfl, rfl⟩, ⟨_, _, rfl, rfl⟩, rfl⟩
      | false => exact ⟨⟨⟨rfl, rfl⟩, rfl, rfl, rfl, rfl, rfl⟩, ⟨_, _, rfl, rfl⟩, rfl⟩
structure Rel (m : Nat) (s t : Mc) : Prop where
  tk : ∀ j, j < m → RelT (tkAt s j) (tkAt t j)
  ds : s.ds = t.ds
  l : RelL s.l t.l
  xs : s.xs.length = m ∧ t.xs.length = m
theorem rel_pick {m : Nat} {s t : Mc} (h : Rel m s t) (k : Int) : Rel m (pickP m s k) (pickP m t k) ∧ errP m s k = errP m t k := by
  obtain ⟨hs, ht⟩ := h.xs
  unfold pickP errP
  rw [← h.ds]
  cases hk : inP k m with
  | false => exact ⟨h, rfl⟩
  | true =>
    cases hd : s.ds.getD k.toNat false with
    | true => exact ⟨h, rfl⟩
    | false =>
      have hk' := (inP_iff _ _).1 hk
      obtain ⟨r1, r2, r3⟩ := rel_step (h.tk k.toNat (by omega)) h.l
      refine ⟨⟨fun j hj => ?_, ?_, r2, by simp [hs], by simp [ht]⟩, rfl⟩
      · by_cases hjk : j = k.toNat
        · subst hjk
          simp only [tkAt]
          rw [Sx.getD_set_self (by omega), Sx.getD_set_self (by omega)]
          exact r1
        · simp only [tkAt]
          rw [Sx.getD_set_ne (fun e => hjk e.symm), Sx.getD_set_ne (fun e => hjk e.symm)]
          exact h.tk j hj
      · simp only [doneP, r3, h.ds]
theorem rel_pass {m : Nat} {s t : Mc} (h : Rel m s t) : ∀ k, Rel m (passP m s k) (passP m t k)
  | 0 => h
  | k + 1 => (rel_pick (rel_pass h k) _).1
theorem rel_end {m : Nat} : ∀ (f : Nat) {s t : Mc}, Rel m s t → Rel m (endP m s f) (endP m t f) ∧ stopP m s f = stopP m t f
  | 0, s, t, h => ⟨h, rfl⟩
  | f + 1, s, t, h => by
    have hl : leftP s.ds = leftP t.ds := congrArg leftP h.ds
    have ih := rel_end f (rel_pass h m)
    simp only [endP, stopP, hl]
    split
    · exact ⟨h, rfl⟩
    · exact ⟨ih.1, by rw [ih.2]⟩
/-- all picks of a list -/
def runP (m : Nat) (s : Mc) (l : List Int) : Mc := l.foldl (pickP m) s
theorem rel_run {m : Nat} : ∀ (l : List Int) {s t : Mc}, Rel m s t → Rel m (runP m s l) (runP m t l)
  | [], _, _, h => h
  | k :: l, _, _, h => rel_run l (rel_pick h k).1
theorem inv_run {m : Nat} {R : Int} : ∀ (l : List Int) {K A G : Int} {s : Mc}, Inv m R K A G s → ∃ K' A' G', Inv m R K' A' G' (runP m s l)
  | [], _, _, _, _, h => ⟨_, _, _, h⟩
  | k :: l, _, _, _, s, h => by
    have h' : ∃ K' A' G', Inv m R K' A' G' (pickP m s k) := by
      by_cases h1 : inP k m = false ∨ s.ds.getD k.toNat false = true
      · rw [show pickP m s k = s by
          unfold pickP
          rcases h1 with h1 | h1
          · rw [h1]
          · rw [h1]; split <;> rfl]
        exact ⟨_, _, _, h⟩
      · have h2 : inP k m = true := by cases e : inP k m with | true => rfl | false => exact (h1 (.inl e)).elim
        have h3 : s.ds.getD k.toNat false = false := by cases e : s.ds.getD k.toNat false with | false => rfl | true => exact (h1 (.inr e)).elim
        have h4 := (inP_iff _ _).1 h2
        have e : k = ((k.toNat : Nat) : Int) := by omega
        rw [e]
        obtain ⟨_, _, _, h', _⟩ := h.pick (i := k.toNat) (by omega) h3
        exact ⟨_, _, _, h'⟩
    obtain ⟨_, _, _, h'⟩ := h'
    exact inv_run l h'
end Go.Proofs.YtafipmkobdhigaaDoor

/- Layer 11: a machine's Run: pieces. -/
namespace Go.Proofs.YtafipmkobdhigaaDoor
open Go Go.Proofs.YtafipmkobdhigaaDoor.Sx
set_option linter.unusedVariables false
noncomputable def b23 : Code := Tryd.f23.body.getD .skip
noncomputable def c23 : Code := restC 2 b23
noncomputable def reg23 : Code := lft (lft c23)
noncomputable def blk23 : Code := rgt (lft c23)
noncomputable def lp23 : Code := lft (lft blk23)
noncomputable def end23 : Code := rgt c23
abbrev n23a : List Nat := [0, 1, 5]
abbrev n23b : List Nat := [0, 5, 8, 9, 10]
abbrev runS (n m : Nat) (s : Mc) (L : List Int) : St := mcS n m s ++ [.ro (encInt .i64) L]
abbrev listV (L : List Int) (cap : Nat) (i : Nat) : SVal := .sli i (.c 0) 1 (.v L.length) (some (.v cap))
abbrev v23 (L : List Int) (cap : Nat) (c i : Int) : List SVal := [.ptr 4 0, .int .i64 c, listV L cap 7, .int .i64 (L.length : Nat), .int .i64 i]
end Go.Proofs.YtafipmkobdhigaaDoor

namespace Go.Proofs.YtafipmkobdhigaaDoor
open Go Go.Proofs.YtafipmkobdhigaaDoor.Sx
set_option linter.unusedVariables false
set_option maxRecDepth 100000 in
theorem t23_pre {n m : Nat} {s : Mc} {L : List Int} {cap : Nat} : (execN cfgM 100 2 b23 ([.ptr 4 0, listV L cap 7] ++ List.replicate 20 .bad) (runS n m s L)).bind (canonK 8 [(0,0)] 22 n23a) =
 

 (.ret (.normal, [.ptr 4 0, .sli 7 (.c 0) 1 (.v L.length) (some (.v cap)), .lit .i64 (0 : Int)], [.ro encLook [PUnit.unit], .own [.c (.sli 2 (.c 0) 1 (.v n) (some (.v n))), .c (.int .i64 s.2)] 70, .own [.a (encInt IntKind.u32) n s.1] 35, .many encTk s.3 68, .own [.c (.ptr 1 0), .c (.sli 5 (.c 0) 1 (.v m) none), .c (.sli 6 (.c 0) 1 (.v m) (some (.v m)))] 64, .vec (encT 30 3) (List.range m) 66, .own [.a encBool m s.4] 4, .ro (encInt IntKind.i64) L])) := by kernel_rfl
set_option maxRecDepth 100000 in
theorem t23_reg {n m : Nat} {s : Mc} {L : List Int} {cap : Nat} : (exec cfgM 100 reg23 (fr 22 n23a [.ptr 4 0, listV L cap 7, .lit .i64 0]) (runS n m s L)).bind (canonK 8 [(0,0)] 22 n23b) =
 

 (.ret (.normal, [.ptr 4 0, .lit .i64 (0 : Int), .sli 7 (.c 0) 1 (.v L.length) (some (.v cap)), .int .i64 (↑L.length : Int), .lit .i64 (0 : Int)], [.ro encLook [PUnit.unit], .own [.c (.sli 2 (.c 0) 1 (.v n) (some (.v n))), .c (.int .i64 s.2)] 70, .own [.a (encInt IntKind.u32) n s.1] 35, .many encTk s.3 68, .own [.c (.ptr 1 0), .c (.sli 5 (.c 0) 1 (.v m) none), .c (.sli 6 (.c 0) 1 (.v m) (some (.v m)))] 64, .vec (encT 30 3) (List.range m) 66, .own [.a encBool m s.4] 4, .ro (encInt IntKind.i64) L])) := by kernel_rfl
set_option maxRecDepth 100000 in
theorem t23_lp {n m : Nat} {s : Mc} {L : List Int} {cap : Nat} {c : Int} {i : Nat} : (exec (cfgQ n m s) 100 lp23 (fr 22 n23b (v23 L cap c (i : Nat))) (runS n m s L)).bind (canonK 8 [(0,0)] 22 n23b) =
 

 (.br (decide ((↑i : Int) < (↑L.length : Int)))

 (.need (decide ((0 : Int) ≤ (↑i : Int)) && decide ((↑i : Int).toNat < L.length))

 (.need (decide ((↑i : Int).toNat < L.length))

 (.eq ([Blk.ro encLook [PUnit.unit], .own [.c (.sli 2 (.c 0) 1 (.v n) (some (.v n))), .c (.int .i64 s.2)] 70, .own [.a (encInt IntKind.u32) n s.1] 35, .many encTk s.3 68, .own [.c (.ptr 1 0), .c (.sli 5 (.c 0) 1 (.v m) none), .c (.sli 6 (.c 0) 1 (.v m) (some (.v m)))] 64, .vec (encT 30 3) (List.range m) 66, .own [.a encBool m s.4] 4] = [Blk.ro encLook [PUnit.unit], .own [.c (.sli 2 (.c 0) 1 (.v n) (some (.v n))), .c (.int .i64 s.2)] 70, .own [.a (encInt IntKind.u32) n s.1] 35, .many encTk s.3 68, .own [.c (.ptr 1 0), .c (.sli 5 (.c 0) 1 (.v m) none), .c (.sli 6 (.c 0) 1 (.v m) (some (.v m)))] 64, .vec (encT 30 3) (List.range m) 66, .own [.a encBool m s.4] 4] ∧ McOk n m s)

 (.br (errP m s (L.getD (↑i : Int).toNat (0 : Int)) == (0 : Int))

 (.need (inR .i64 (c + (1 : Int)))

 (.need (inR .i64 ((↑i : Int) + (1 : Int)))

 (.ret (.normal, [.ptr 4 0, .int .i64 (c + (1 : Int)), .sli 7 (.c 0) 1 (.v L.length) (some (.v cap)), .int .i64 (↑L.length : Int), .int .i64 ((↑i : Int) + (1 : Int))], [.ro encLook [PUnit.unit], .own [.c (.sli 2 (.c 0) 1 (.v n) (some (.v n))), .c (.int .i64 (pickP m s (L.getD (↑i : Int).toNat (0 : Int))).c)] 70, .own [.a (encInt IntKind.u32) n (pickP m s (L.getD (↑i : Int).toNat (0 : Int))).l] 35, .many encTk (pickP m s (L.getD (↑i : Int).toNat (0 : Int))).xs 68, .own [.c (.ptr 1 0), .c (.sli 5 (.c 0) 1 (.v m) none), .c (.sli 6 (.c 0) 1 (.v m) (some (.v m)))] 64, .vec (encT 30 3) (List.range m) 66, .own [.a encBool m (pickP m s (L.getD (↑i : Int).toNat (0 : Int))).ds] 4, .ro (encInt IntKind.i64) L]))))

 (.need (inR .i64 ((↑i : Int) + (1 : Int)))

 (.ret (.normal, [.ptr 4 0, .int .i64 c, .sli 7 (.c 0) 1 (.v L.length) (some (.v cap)), .int .i64 (↑L.length : Int), .int .i64 ((↑i : Int) + (1 : Int))], [.ro encLook [PUnit.unit], .own [.c (.sli 2 (.c 0) 1 (.v n) (some (.v n))), .c (.int .i64 (pickP m s (L.getD (↑i : Int).toNat (0 : Int))).c)] 70, .own [.a (encInt IntKind.u32) n (pickP m s (L.getD (↑i : Int).toNat (0 : Int))).l] 35, .many encTk (pickP m s (L.getD (↑i : Int).toNat (0 : Int))).xs 68, .own [.c (.ptr 1 0), .c (.sli 5 (.c 0) 1 (.v m) none), .c (.sli 6 (.c 0) 1 (.v m) (some (.v m)))] 64, .vec (encT 30 3) (List.range m) 66, .own [.a encBool m (pickP m s (L.getD (↑i : Int).toNat (0 : Int))).ds] 4, .ro (encInt IntKind.i64) L])))))))

 (.ret (.exit 0, [.ptr 4 0, .int .i64 c, .sli 7 (.c 0) 1 (.v L.length) (some (.v cap)), .int .i64 (↑L.length : Int), .int .i64 (↑i : Int)], [.ro encLook [PUnit.unit], .own [.c (.sli 2 (.c 0) 1 (.v n) (some (.v n))), .c (.int .i64 s.2)] 70, .own [.a (encInt IntKind.u32) n s.1] 35, .many encTk s.3 68, .own [.c (.ptr 1 0), .c (.sli 5 (.c 0) 1 (.v m) none), .c (.sli 6 (.c 0) 1 (.v m) (some (.v m)))] 64, .vec (encT 30 3) (List.range m) 66, .own [.a encBool m s.4] 4, .ro (encInt IntKind.i64) L]))) := by kernel_rfl
set_option maxRecDepth 100000 in
theorem t23_end {n m : Nat} {s : Mc} {L : List Int} {cap : Nat} {c : Int} {i : Nat} : (exec cfgM 100 end23 (fr 22 n23b (v23 L cap c (i : Nat))) (runS n m s L)).bind (canonK 8 [(0,0)] 22 [4]) =
 

 (.ret (.ret, [.int .i64 c], [.ro encLook [PUnit.unit], .own [.c (.sli 2 (.c 0) 1 (.v n) (some (.v n))), .c (.int .i64 s.2)] 70, .own [.a (encInt IntKind.u32) n s.1] 35, .many encTk s.3 68, .own [.c (.ptr 1 0), .c (.sli 5 (.c 0) 1 (.v m) none), .c (.sli 6 (.c 0) 1 (.v m) (some (.v m)))] 64, .vec (encT 30 3) (List.range m) 66, .own [.a encBool m s.4] 4, .ro (encInt IntKind.i64) L])) := by kernel_rfl
end Go.Proofs.YtafipmkobdhigaaDoor

/- Layer 11: what a machine's Run comes to. -/
namespace Go.Proofs.YtafipmkobdhigaaDoor
open Go Go.Proofs.YtafipmkobdhigaaDoor.Sx
set_option linter.unusedVariables false
theorem b23_eq : Tryd.f23.body = some b23 := by kernel_rfl
/-- how many steps are done -/
def runN (m : Nat) : Mc → List Int → Int
  | _, [] => 0
  | s, k :: l => (if errP m s k = 0 then 1 else 0) + runN m (pickP m s k) l
theorem runN_snoc {m : Nat} {k : Int} : ∀ {l : List Int} {s : Mc}, runN m s (l ++ [k]) = runN m s l + (if errP m (runP m s l) k = 0 then 1 else 0)
  | [], s => by simp only [List.nil_append, runN, runP, List.foldl_nil]; omega
  | x :: l, s => by
    simp only [List.cons_append, runN, runN_snoc (l := l), runP, List.foldl_cons]; omega
theorem runN_le {m : Nat} : ∀ {l : List Int} {s : Mc}, 0 ≤ runN m s l ∧ runN m s l ≤ l.length
  | [], s => by simp [runN]
  | x :: l, s => by
    have := runN_le (m := m) (l := l) (s := pickP m s x)
    simp only [runN, List.length_cons]; split <;> omega
theorem runP_snoc {m : Nat} {k : Int} {l : List Int} {s : Mc} : runP m s (l ++ [k]) = pickP m (runP m s l) k := by simp [runP]
theorem take_succ' {L : List Int} {i : Nat} (h : i < L.length) : L.take (i + 1) = L.take i ++ [L.getD i 0] := by
  rw [List.take_add_one]; simp [List.getD_eq_getElem?_getD, h]
theorem ok_run {n m : Nat} : ∀ {l : List Int} {s : Mc}, McOk n m s → McOk n m (runP m s l)
  | [], _, h => h
  | k :: l, _, h => ok_run (l := l) (ok_pick h k)
abbrev Q23 (env0 : Env) (n m : Nat) (s : Mc) (L : List Int) (w0 : World) : Exit → Act → World → Prop := bodyPost Tryd.prog Tryd.f23 (Ends1 env0 (runS n m s L) w0 (.int .i64 (runN m s L)) (runS n m (runP m s L) L))
def Inv23 (env0 : Env) (n m : Nat) (s : Mc) (L : List Int) (cap : Nat) (w0 : World) (i : Nat) (a : Act) (w : World) : Prop :=
  i ≤ L.length ∧ ∃ env, AtK env0 [(0, 0)] ⟨w0, inFoot env0 (runS n m s L)⟩ env (fr 22 n23b (v23 L cap (runN m s (L.take i)) (i : Nat))) (runS n m (runP m s (L.take i)) L) a w
theorem run_call {n m : Nat} {s : Mc} (hs : McOk n m s) {L : List Int} (hL : L.length ≤ 1000000) {cap : Nat} :
    ∀ (env : Env) (w : World) (vs : List Value), GlOk cfgM.gl env → Rep env (runS n m s L) w → DenL env [.ptr 4 0, listV L cap 7] vs → Calls cfgM.P 23 ⟨vs⟩ w (Ends1 env (runS n m s L) w (.int .i64 (runN m s L)) (runS n m (runP m s L) L)) := by
  intro env w vs hg hr hdv
  have hb0 : env.length = 8 := hr.len
  refine AtK.begin (c := cfgM) Tryd.func23 b23_eq hg hr hdv fun a hA => ?_
  refine pieceNTK2 (c := cfgM) cfgM_ok 2 n23a (t23_pre (n := n) (m := m) (s := s) (L := L) (cap := cap)) (by omega) (by simp) hA ?_
  refine all_ret fun env1 a1 w1 hA1 => ?_
  simp only [Ex.to, Exit.then]
  refine (show c23.wp Tryd.prog (Q23 env n m s L w) a1 w1 from wpS (by kernel_rfl) (wpS (by kernel_rfl) ?_))
  refine pieceTK2 (c := cfgM) cfgM_ok n23b (t23_reg (n := n) (m := m) (s := s) (L := L) (cap := cap)) (by omega) (by simp) hA1 ?_
  refine all_ret fun env2 a2 w2 hA2 => ?_
  simp only [Ex.to, Exit.then]
  have hA3 := hA2.on fun h => h.gvals (v23 L cap (runN m s (L.take 0)) ((0 : Nat) : Int)) rfl
  refine wpB 0 (by kernel_rfl) (wpL (by kernel_rfl) (Inv23 env n m s L cap w) (fun k => L.length - k) 0 ⟨Nat.zero_le _, env2, hA3⟩ ?_)
  rintro i a w' ⟨hk, env3, hA⟩
  have hok : McOk n m (runP m s (L.take i)) := ok_run hs
  refine (show lp23.wp Tryd.prog _ a w' from ?_)
  refine pieceTK2 (c := cfgQ n m (runP m s (L.take i))) cfgQ_ok n23b (t23_lp (n := n) (m := m) (s := runP m s (L.take i)) (L := L) (cap := cap)) (by omega) (by simp) hA ?_
  have hle := runN_le (m := m) (l := L.take i) (s := s)
  have hlt : (L.take i).length ≤ i := by simp; omega
  refine all_brp (by simp only [decide_eq_true_eq]; exact Iff.rfl) (fun h1 => ?_) (fun h1 => ?_)
  · have hk' : i < L.length := by omega
    have hN := runN_snoc (m := m) (k := L.getD i 0) (l := L.take i) (s := s)
    have hP := runP_snoc (m := m) (k := L.getD i 0) (l := L.take i) (s := s)
    rw [← take_succ' hk'] at hN hP
    simp only [Int.toNat_natCast]
    refine all_needq (by simp only [decide_eq_true_eq, Bool.and_eq_true]; exact Iff.rfl) (by omega) ?_
    refine all_needq (by simp only [decide_eq_true_eq]; exact Iff.rfl) (by omega) ?_
    refine all_eq ⟨True.intro, hok⟩ ?_
    have nx : ∀ {c' : Int}, runN m s (L.take (i + 1)) = c' → ∀ {env' a' w''}, AtK env [(0, 0)] ⟨w, inFoot env (runS n m s L)⟩ env' (fr 22 n23b (v23 L cap c' ((i : Int) + 1))) (runS n m (pickP m (runP m s (L.take i)) (L.getD i 0)) L) a' w'' → ∃ k', Inv23 env n m s L cap w k' a' w'' ∧ L.length - k' < L.length - i := by
      intro c' hc env' a' w'' h
      subst hc
      rw [← hP] at h
      exact ⟨i + 1, ⟨by omega, env', h⟩, by omega⟩
    refine all_brp (by simp only [beq_iff_eq]; exact Iff.rfl) (fun hb => ?_) (fun hb => ?_)
    · rw [if_pos hb] at hN
      refine all_needq (by simp only [inR_i64]; exact Iff.rfl) (by omega) ?_
      refine all_needq (by simp only [inR_i64]; exact Iff.rfl) (by omega) ?_
      exact all_ret fun _ _ _ h => nx hN h
    · rw [if_neg hb] at hN
      refine all_needq (by simp only [inR_i64]; exact Iff.rfl) (by omega) ?_
      exact all_ret fun _ _ _ h => nx (by omega) h
  · have hkm : i = L.length := by omega
    subst hkm
    refine all_ret fun env4 a4 w4 hA4 => ?_
    simp only [Ex.to, Exit.then, Exit.inBlock, if_true]
    rw [List.take_of_length_le (Nat.le_refl _)] at hA4
    refine (show end23.wp Tryd.prog (Q23 env n m s L w) a4 w4 from ?_)
    refine pieceTK2 (c := cfgM) cfgM_ok [4] (t23_end (n := n) (m := m) (s := runP m s L) (L := L) (cap := cap)) (by omega) (by simp) hA4 ?_
    exact all_ret fun _ _ _ h => h.out (c := cfgM) (by kernel_rfl)
end Go.Proofs.YtafipmkobdhigaaDoor

/- Layer 11: a machine's Run over a list of its own: pieces. -/
namespace Go.Proofs.YtafipmkobdhigaaDoor
open Go Go.Proofs.YtafipmkobdhigaaDoor.Sx
set_option linter.unusedVariables false
abbrev runSv (n m : Nat) (s : Mc) (L : List Int) : St := mcS n m s ++ [.vec (encInt .i64) L 3]
abbrev listW (L : List Int) (i : Nat) : SVal := .sli i (.c 0) 1 (.v L.length) none
abbrev v23v (L : List Int) (c i : Int) : List SVal := [.ptr 4 0, .int .i64 c, listW L 7, .int .i64 (L.length : Nat), .int .i64 i]
end Go.Proofs.YtafipmkobdhigaaDoor

namespace Go.Proofs.YtafipmkobdhigaaDoor
open Go Go.Proofs.YtafipmkobdhigaaDoor.Sx
set_option linter.unusedVariables false
set_option maxRecDepth 100000 in
theorem t23v_pre {n m : Nat} {s : Mc} {L : List Int} : (execN cfgM 100 2 b23 ([.ptr 4 0, listW L 7] ++ List.replicate 20 .bad) (runSv n m s L)).bind (canonK 8 [(0,0)] 22 n23a) =
 

 (.ret (.normal, [.ptr 4 0, .sli 7 (.c 0) 1 (.v L.length) none, .lit .i64 (0 : Int)], [.ro encLook [PUnit.unit], .own [.c (.sli 2 (.c 0) 1 (.v n) (some (.v n))), .c (.int .i64 s.2)] 70, .own [.a (encInt IntKind.u32) n s.1] 35, .many encTk s.3 68, .own [.c (.ptr 1 0), .c (.sli 5 (.c 0) 1 (.v m) none), .c (.sli 6 (.c 0) 1 (.v m) (some (.v m)))] 64, .vec (encT 30 3) (List.range m) 66, .own [.a encBool m s.4] 4, .vec (encInt IntKind.i64) L 3])) := by kernel_rfl
set_option maxRecDepth 100000 in
theorem t23v_reg {n m : Nat} {s : Mc} {L : List Int} : (exec cfgM 100 reg23 (fr 22 n23a [.ptr 4 0, listW L 7, .lit .i64 0]) (runSv n m s L)).bind (canonK 8 [(0,0)] 22 n23b) =
 

 (.ret (.normal, [.ptr 4 0, .lit .i64 (0 : Int), .sli 7 (.c 0) 1 (.v L.length) none, .int .i64 (↑L.length : Int), .lit .i64 (0 : Int)], [.ro encLook [PUnit.unit], .own [.c (.sli 2 (.c 0) 1 (.v n) (some (.v n))), .c (.int .i64 s.2)] 70, .own [.a (encInt IntKind.u32) n s.1] 35, .many encTk s.3 68, .own [.c (.ptr 1 0), .c (.sli 5 (.c 0) 1 (.v m) none), .c (.sli 6 (.c 0) 1 (.v m) (some (.v m)))] 64, .vec (encT 30 3) (List.range m) 66, .own [.a encBool m s.4] 4, .vec (encInt IntKind.i64) L 3])) := by kernel_rfl
set_option maxRecDepth 100000 in
theorem t23v_lp {n m : Nat} {s : Mc} {L : List Int} {c : Int} {i : Nat} : (exec (cfgQ n m s) 100 lp23 (fr 22 n23b (v23v L c (i : Nat))) (runSv n m s L)).bind (canonK 8 [(0,0)] 22 n23b) =
 

 (.br (decide ((↑i : Int) < (↑L.length : Int)))

 (.need (decide ((0 : Int) ≤ (↑i : Int)) && decide ((↑i : Int).toNat < L.length))

 (.need (decide ((↑i : Int).toNat < L.length))

 (.eq ([Blk.ro encLook [PUnit.unit], .own [.c (.sli 2 (.c 0) 1 (.v n) (some (.v n))), .c (.int .i64 s.2)] 70, .own [.a (encInt IntKind.u32) n s.1] 35, .many encTk s.3 68, .own [.c (.ptr 1 0), .c (.sli 5 (.c 0) 1 (.v m) none), .c (.sli 6 (.c 0) 1 (.v m) (some (.v m)))] 64, .vec (encT 30 3) (List.range m) 66, .own [.a encBool m s.4] 4] = [Blk.ro encLook [PUnit.unit], .own [.c (.sli 2 (.c 0) 1 (.v n) (some (.v n))), .c (.int .i64 s.2)] 70, .own [.a (encInt IntKind.u32) n s.1] 35, .many encTk s.3 68, .own [.c (.ptr 1 0), .c (.sli 5 (.c 0) 1 (.v m) none), .c (.sli 6 (.c 0) 1 (.v m) (some (.v m)))] 64, .vec (encT 30 3) (List.range m) 66, .own [.a encBool m s.4] 4] ∧ McOk n m s)

 (.br (errP m s (L.getD (↑i : Int).toNat (0 : Int)) == (0 : Int))

 (.need (inR .i64 (c + (1 : Int)))

 (.need (inR .i64 ((↑i : Int) + (1 : Int)))

 (.ret (.normal, [.ptr 4 0, .int .i64 (c + (1 : Int)), .sli 7 (.c 0) 1 (.v L.length) none, .int .i64 (↑L.length : Int), .int .i64 ((↑i : Int) + (1 : Int))], [.ro encLook [PUnit.unit], .own [.c (.sli 2 (.c 0) 1 (.v n) (some (.v n))), .c (.int .i64 (pickP m s (L.getD (↑i : Int).toNat (0 : Int))).c)] 70, .own [.a (encInt IntKind.u32) n (pickP m s (L.getD (↑i : Int).toNat (0 : Int))).l] 35, .many encTk (pickP m s (L.getD (↑i : Int).toNat (0 : Int))).xs 68, .own [.c (.ptr 1 0), .c (.sli 5 (.c 0) 1 (.v m) none), .c (.sli 6 (.c 0) 1 (.v m) (some (.v m)))] 64, .vec (encT 30 3) (List.range m) 66, .own [.a encBool m (pickP m s (L.getD (↑i : Int).toNat (0 : Int))).ds] 4, .vec (encInt IntKind.i64) L 3]))))

 (.need (inR .i64 ((↑i : Int) + (1 : Int)))

 (.ret (.normal, [.ptr 4 0, .int .i64 c, .sli 7 (.c 0) 1 (.v L.length) none, .int .i64 (↑L.length : Int), .int .i64 ((↑i : Int) + (1 : Int))], [.ro encLook [PUnit.unit], .own [.c (.sli 2 (.c 0) 1 (.v n) (some (.v n))), .c (.int .i64 (pickP m s (L.getD (↑i : Int).toNat (0 : Int))).c)] 70, .own [.a (encInt IntKind.u32) n (pickP m s (L.getD (↑i : Int).toNat (0 : Int))).l] 35, .many encTk (pickP m s (L.getD (↑i : Int).toNat (0 : Int))).xs 68, .own [.c (.ptr 1 0), .c (.sli 5 (.c 0) 1 (.v m) none), .c (.sli 6 (.c 0) 1 (.v m) (some (.v m)))] 64, .vec (encT 30 3) (List.range m) 66, .own [.a encBool m (pickP m s (L.getD (↑i : Int).toNat (0 : Int))).ds] 4, .vec (encInt IntKind.i64) L 3])))))))

 (.ret (.exit 0, [.ptr 4 0, .int .i64 c, .sli 7 (.c 0) 1 (.v L.length) none, .int .i64 (↑L.length : Int), .int .i64 (↑i : Int)], [.ro encLook [PUnit.unit], .own [.c (.sli 2 (.c 0) 1 (.v n) (some (.v n))), .c (.int .i64 s.2)] 70, .own [.a (encInt IntKind.u32) n s.1] 35, .many encTk s.3 68, .own [.c (.ptr 1 0), .c (.sli 5 (.c 0) 1 (.v m) none), .c (.sli 6 (.c 0) 1 (.v m) (some (.v m)))] 64, .vec (encT 30 3) (List.range m) 66, .own [.a encBool m s.4] 4, .vec (encInt IntKind.i64) L 3]))) := by kernel_rfl
set_option maxRecDepth 100000 in
theorem t23v_end {n m : Nat} {s : Mc} {L : List Int} {c : Int} {i : Nat} : (exec cfgM 100 end23 (fr 22 n23b (v23v L c (i : Nat))) (runSv n m s L)).bind (canonK 8 [(0,0)] 22 [4]) =
 

 (.ret (.ret, [.int .i64 c], [.ro encLook [PUnit.unit], .own [.c (.sli 2 (.c 0) 1 (.v n) (some (.v n))), .c (.int .i64 s.2)] 70, .own [.a (encInt IntKind.u32) n s.1] 35, .many encTk s.3 68, .own [.c (.ptr 1 0), .c (.sli 5 (.c 0) 1 (.v m) none), .c (.sli 6 (.c 0) 1 (.v m) (some (.v m)))] 64, .vec (encT 30 3) (List.range m) 66, .own [.a encBool m s.4] 4, .vec (encInt IntKind.i64) L 3])) := by kernel_rfl
end Go.Proofs.YtafipmkobdhigaaDoor

/- Layer 11: what a machine's Run over a list of its own comes to. -/
namespace Go.Proofs.YtafipmkobdhigaaDoor
open Go Go.Proofs.YtafipmkobdhigaaDoor.Sx
set_option linter.unusedVariables false
abbrev Q23v (env0 : Env) (n m : Nat) (s : Mc) (L : List Int) (w0 : World) : Exit → Act → World → Prop := bodyPost Tryd.prog Tryd.f23 (Ends1 env0 (runSv n m s L) w0 (.int .i64 (runN m s L)) (runSv n m (runP m s L) L))
def Inv23v (env0 : Env) (n m : Nat) (s : Mc) (L : List Int) (w0 : World) (i : Nat) (a : Act) (w : World) : Prop :=
  i ≤ L.length ∧ ∃ env, AtK env0 [(0, 0)] ⟨w0, inFoot env0 (runSv n m s L)⟩ env (fr 22 n23b (v23v L (runN m s (L.take i)) (i : Nat))) (runSv n m (runP m s (L.take i)) L) a w
theorem run_callv {n m : Nat} {s : Mc} (hs : McOk n m s) {L : List Int} (hL : L.length ≤ 1000000) :
    ∀ (env : Env) (w : World) (vs : List Value), GlOk cfgM.gl env → Rep env (runSv n m s L) w → DenL env [.ptr 4 0, listW L 7] vs → Calls cfgM.P 23 ⟨vs⟩ w (Ends1 env (runSv n m s L) w (.int .i64 (runN m s L)) (runSv n m (runP m s L) L)) := by
  intro env w vs hg hr hdv
  have hb0 : env.length = 8 := hr.len
  refine AtK.begin (c := cfgM) Tryd.func23 b23_eq hg hr hdv fun a hA => ?_
  refine pieceNTK2 (c := cfgM) cfgM_ok 2 n23a (t23v_pre (n := n) (m := m) (s := s) (L := L)) (by omega) (by simp) hA ?_
  refine all_ret fun env1 a1 w1 hA1 => ?_
  simp only [Ex.to, Exit.then]
  refine (show c23.wp Tryd.prog (Q23v env n m s L w) a1 w1 from wpS (by kernel_rfl) (wpS (by kernel_rfl) ?_))
  refine pieceTK2 (c := cfgM) cfgM_ok n23b (t23v_reg (n := n) (m := m) (s := s) (L := L)) (by omega) (by simp) hA1 ?_
  refine all_ret fun env2 a2 w2 hA2 => ?_
  simp only [Ex.to, Exit.then]
  have hA3 := hA2.on fun h => h.gvals (v23v L (runN m s (L.take 0)) ((0 : Nat) : Int)) rfl
  refine wpB 0 (by kernel_rfl) (wpL (by kernel_rfl) (Inv23v env n m s L w) (fun k => L.length - k) 0 ⟨Nat.zero_le _, env2, hA3⟩ ?_)
  rintro i a w' ⟨hk, env3, hA⟩
  have hok : McOk n m (runP m s (L.take i)) := ok_run hs
  refine (show lp23.wp Tryd.prog _ a w' from ?_)
  refine pieceTK2 (c := cfgQ n m (runP m s (L.take i))) cfgQ_ok n23b (t23v_lp (n := n) (m := m) (s := runP m s (L.take i)) (L := L)) (by omega) (by simp) hA ?_
  have hle := runN_le (m := m) (l := L.take i) (s := s)
  have hlt : (L.take i).length ≤ i := by simp; omega
  refine all_brp (by simp only [decide_eq_true_eq]; exact Iff.rfl) (fun h1 => ?_) (fun h1 => ?_)
  · have hk' : i < L.length := by omega
    have hN := runN_snoc (m := m) (k := L.getD i 0) (l := L.take i) (s := s)
    have hP := runP_snoc (m := m) (k := L.getD i 0) (l := L.take i) (s := s)
    rw [← take_succ' hk'] at hN hP
    simp only [Int.toNat_natCast]
    refine all_needq (by simp only [decide_eq_true_eq, Bool.and_eq_true]; exact Iff.rfl) (by omega) ?_
    refine all_needq (by simp only [decide_eq_true_eq]; exact Iff.rfl) (by omega) ?_
    refine all_eq ⟨True.intro, hok⟩ ?_
    have nx : ∀ {c' : Int}, runN m s (L.take (i + 1)) = c' → ∀ {env' a' w''}, AtK env [(0, 0)] ⟨w, inFoot env (runSv n m s L)⟩ env' (fr 22 n23b (v23v L c' ((i : Int) + 1))) (runSv n m (pickP m (runP m s (L.take i)) (L.getD i 0)) L) a' w'' → ∃ k', Inv23v env n m s L w k' a' w'' ∧ L.length - k' < L.length - i := by
      intro c' hc env' a' w'' h
      subst hc
      rw [← hP] at h
      exact ⟨i + 1, ⟨by omega, env', h⟩, by omega⟩
    refine all_brp (by simp only [beq_iff_eq]; exact Iff.rfl) (fun hb => ?_) (fun hb => ?_)
    · rw [if_pos hb] at hN
      refine all_needq (by simp only [inR_i64]; exact Iff.rfl) (by omega) ?_
      refine all_needq (by simp only [inR_i64]; exact Iff.rfl) (by omega) ?_
      exact all_ret fun _ _ _ h => nx hN h
    · rw [if_neg hb] at hN
      refine all_needq (by simp only [inR_i64]; exact Iff.rfl) (by omega) ?_
      exact all_ret fun _ _ _ h => nx (by omega) h
  · have hkm : i = L.length := by omega
    subst hkm
    refine all_ret fun env4 a4 w4 hA4 => ?_
    simp only [Ex.to, Exit.then, Exit.inBlock, if_true]
    rw [List.take_of_length_le (Nat.le_refl _)] at hA4
    refine (show end23.wp Tryd.prog (Q23v env n m s L w) a4 w4 from ?_)
    refine pieceTK2 (c := cfgM) cfgM_ok [4] (t23v_end (n := n) (m := m) (s := runP m s L) (L := L)) (by omega) (by simp) hA4 ?_
    exact all_ret fun _ _ _ h => h.out (c := cfgM) (by kernel_rfl)
end Go.Proofs.YtafipmkobdhigaaDoor

/- BarrierRuns: a play: pieces and states. -/
namespace Go.Proofs.YtafipmkobdhigaaDoor
open Go Go.Proofs.YtafipmkobdhigaaDoor.Sx
set_option linter.unusedVariables false
noncomputable def b22 : Code := Tryd.f22.body.getD .skip
noncomputable def c22 : Code := restC 2 b22
noncomputable def reg22 : Code := lft (lft c22)
noncomputable def blk22 : Code := rgt (lft c22)
noncomputable def lp22 : Code := lft (lft blk22)
noncomputable def bb22 : Code := lft (lft (restC 2 lp22))
noncomputable def inc22 : Code := rgt (restC 2 lp22)
noncomputable def end22 : Code := rgt c22
abbrev n22a : List Nat := [0, 1, 2, 3, 4, 12]
abbrev n22b : List Nat := [0, 1, 2, 3, 4, 12, 17, 18]
abbrev n22c : List Nat := [0, 1, 2, 3, 4, 12, 17, 18, 13, 14]
/-- words, how often they were used, what is picked -/
abbrev plyS (l : List Int) (c : Int) (L : List Int) : St := memS 3 l c ++ [.vec (encInt .i64) L 3]
abbrev ply2 (l : List Int) (c : Int) (L : List Int) (xs : List Tk) (ts : List Nat) : St := plyS l c L ++ [.many encTk xs 68, .vec (encT 30 4) ts 66]
abbrev u22 (n r : Int) (L : List Int) (m : Nat) : List SVal := [.ptr 1 0, .lit .i64 1, .int .i64 n, .int .i64 r, listW L 3, .sli 5 (.c 0) 1 (.v m) none]
abbrev v22 (n r : Int) (L : List Int) (m : Nat) (i : Int) : List SVal := u22 n r L m ++ [.int .i64 (imax n 1), .int .i64 i]
end Go.Proofs.YtafipmkobdhigaaDoor

namespace Go.Proofs.YtafipmkobdhigaaDoor
open Go Go.Proofs.YtafipmkobdhigaaDoor.Sx
set_option linter.unusedVariables false
set_option maxRecDepth 100000 in
theorem t22_pre {l : List Int} {c : Int} {L : List Int} {n r : Int} : (execN cfgT 100 2 b22 ([.ptr 1 0, .lit .i64 1, .int .i64 n, .int .i64 r, listW L 3] ++ List.replicate 43 .bad) (plyS l c L)).bind (canonK 4 [(0,0)] 48 n22a) =
 

 (.ret (.normal, [.ptr 1 0, .lit .i64 (1 : Int), .int .i64 n, .int .i64 r, .sli 3 (.c 0) 1 (.v L.length) none, .snil], [.ro encLook [PUnit.unit], .own [.c (.sli 2 (.c 0) 1 (.v 3) (some (.v 3))), .c (.int .i64 c)] 70, .own [.a (encInt IntKind.u32) 3 l] 35, .vec (encInt IntKind.i64) L 3])) := by kernel_rfl
set_option maxRecDepth 100000 in
theorem t22_reg {l : List Int} {c : Int} {L : List Int} {n r : Int} : (exec cfgT 100 reg22 (fr 48 n22a (u22 n r L 0)) (ply2 l c L [] [])).bind (canonK 5 [(0,0)] 48 n22b) =
 

 (.ret (.normal, [.ptr 1 0, .lit .i64 (1 : Int), .int .i64 n, .int .i64 r, .sli 3 (.c 0) 1 (.v L.length) none, .sli 5 (.c 0) 1 (.v 0) none, .int .i64 (imax n (1 : Int)), .lit .i64 (0 : Int)], [.ro encLook [PUnit.unit], .own [.c (.sli 2 (.c 0) 1 (.v 3) (some (.v 3))), .c (.int .i64 c)] 70, .own [.a (encInt IntKind.u32) 3 l] 35, .vec (encInt IntKind.i64) L 3, .many encTk [] 68, .vec (encT 30 4) [] 66])) := by kernel_rfl
set_option maxRecDepth 100000 in
theorem t22_tm {l : List Int} {c : Int} {L : List Int} {n r : Int} {xs : List Tk} {ts : List Nat} {i : Nat} : (execN cfgT 100 2 lp22 (fr 48 n22b (v22 n r L ts.length (i : Nat))) (ply2 l c L xs ts)).bind (canonK 5 [(0,0)] 48 n22b) =
 

 (.br (decide ((↑i : Int) < imax n (1 : Int)))

 (.ret (.normal, [.ptr 1 0, .lit .i64 (1 : Int), .int .i64 n, .int .i64 r, .sli 3 (.c 0) 1 (.v L.length) none, .sli 5 (.c 0) 1 (.v ts.length) none, .int .i64 (imax n (1 : Int)), .int .i64 (↑i : Int)], [.ro encLook [PUnit.unit], .own [.c (.sli 2 (.c 0) 1 (.v 3) (some (.v 3))), .c (.int .i64 c)] 70, .own [.a (encInt IntKind.u32) 3 l] 35, .vec (encInt IntKind.i64) L 3, .many encTk xs 68, .vec (encT 30 4) ts 66]))

 (.ret (.exit 0, [.ptr 1 0, .lit .i64 (1 : Int), .int .i64 n, .int .i64 r, .sli 3 (.c 0) 1 (.v L.length) none, .sli 5 (.c 0) 1 (.v ts.length) none, .int .i64 (imax n (1 : Int)), .int .i64 (↑i : Int)], [.ro encLook [PUnit.unit], .own [.c (.sli 2 (.c 0) 1 (.v 3) (some (.v 3))), .c (.int .i64 c)] 70, .own [.a (encInt IntKind.u32) 3 l] 35, .vec (encInt IntKind.i64) L 3, .many encTk xs 68, .vec (encT 30 4) ts 66]))) := by kernel_rfl
set_option maxRecDepth 100000 in
theorem t22_mk {l : List Int} {c : Int} {L : List Int} {n r : Int} {xs : List Tk} {ts : List Nat} {i : Nat} : (execN cfgT 100 1 bb22 (fr 48 n22b (v22 n r L ts.length (i : Nat))) (ply2 l c L xs ts)).bind (canonK 5 [(0,0)] 48 n22c) =
 

 (.br (decide (n < (1 : Int)))

 (.ret (.normal, [.ptr 1 0, .lit .i64 (1 : Int), .int .i64 n, .int .i64 r, .sli 3 (.c 0) 1 (.v L.length) none, .sli 5 (.c 0) 1 (.v ts.length) none, .int .i64 (imax n (1 : Int)), .int .i64 (↑i : Int), .pnil, .lit .i64 (110 : Int)], [.ro encLook [PUnit.unit], .own [.c (.sli 2 (.c 0) 1 (.v 3) (some (.v 3))), .c (.int .i64 c)] 70, .own [.a (encInt IntKind.u32) 3 l] 35, .vec (encInt IntKind.i64) L 3, .many encTk xs 68, .vec (encT 30 4) ts 66]))

 (.br (decide ((8 : Int) < n))

 (.ret (.normal, [.ptr 1 0, .lit .i64 (1 : Int), .int .i64 n, .int .i64 r, .sli 3 (.c 0) 1 (.v L.length) none, .sli 5 (.c 0) 1 (.v ts.length) none, .int .i64 (imax n (1 : Int)), .int .i64 (↑i : Int), .pnil, .lit .i64 (110 : Int)], [.ro encLook [PUnit.unit], .own [.c (.sli 2 (.c 0) 1 (.v 3) (some (.v 3))), .c (.int .i64 c)] 70, .own [.a (encInt IntKind.u32) 3 l] 35, .vec (encInt IntKind.i64) L 3, .many encTk xs 68, .vec (encT 30 4) ts 66]))

 (.ret (.normal, [.ptr 1 0, .lit .i64 (1 : Int), .int .i64 n, .int .i64 r, .sli 3 (.c 0) 1 (.v L.length) none, .sli 5 (.c 0) 1 (.v ts.length) none, .int .i64 (imax n (1 : Int)), .int .i64 (↑i : Int), .ptr 6 0, .lit .i64 (0 : Int)], [.ro encLook [PUnit.unit], .own [.c (.sli 2 (.c 0) 1 (.v 3) (some (.v 3))), .c (.int .i64 c)] 70, .own [.a (encInt IntKind.u32) 3 l] 35, .vec (encInt IntKind.i64) L 3, .many encTk xs 68, .vec (encT 30 4) ts 66, .own [.c (.lit .i64 (1 : Int)), .c (.int .i64 n), .c (.int .i64 (imin (imax r (0 : Int)) (1000 : Int))), .c (.lit .i64 (0 : Int)), .c (.lit .i64 (0 : Int)), .c (.lit .i64 (0 : Int))] 68])))) := by kernel_rfl
set_option maxRecDepth 100000 in
theorem t22_er {l : List Int} {c : Int} {L : List Int} {n r : Int} {xs : List Tk} {ts : List Nat} {i : Nat} : (exec cfgT 100 (lft (restC 1 bb22)) (fr 48 n22c (v22 n r L ts.length (i : Nat) ++ [.pnil, .lit .i64 110])) (ply2 l c L xs ts)).bind (canonK 5 [(0,0)] 48 [10, 11]) =
 

 (.ret (.ret, [.lit .i64 (0 : Int), .lit .i64 (110 : Int)], [.ro encLook [PUnit.unit], .own [.c (.sli 2 (.c 0) 1 (.v 3) (some (.v 3))), .c (.int .i64 c)] 70, .own [.a (encInt IntKind.u32) 3 l] 35, .vec (encInt IntKind.i64) L 3, .many encTk xs 68])) := by kernel_rfl
set_option maxRecDepth 100000 in
theorem t22_app {l : List Int} {c : Int} {L : List Int} {n r : Int} {xs : List Tk} {ts : List Nat} {i : Nat} : (exec cfgT 100 (restC 1 bb22) (fr 48 n22c (v22 n r L ts.length (i : Nat) ++ [.pto 4 i 0, .lit .i64 0])) (ply2 l c L xs ts ++ [.gone])).bind (canonK 5 [(0,0)] 48 n22b) =
 

 (.need (true)

 (.need (decide (ts.length = ts.length))

 (.need (roomy (ts.length + 1) 16)

 (.ret (.normal, [.ptr 1 0, .lit .i64 (1 : Int), .int .i64 n, .int .i64 r, .sli 3 (.c 0) 1 (.v L.length) none, .sli 5 (.c 0) 1 (.v (ts.length + 1)) none, .int .i64 (imax n (1 : Int)), .int .i64 (↑i : Int)], [.ro encLook [PUnit.unit], .own [.c (.sli 2 (.c 0) 1 (.v 3) (some (.v 3))), .c (.int .i64 c)] 70, .own [.a (encInt IntKind.u32) 3 l] 35, .vec (encInt IntKind.i64) L 3, .many encTk xs 68, .vec (encT 30 4) (ts ++ [i]) 66]))))) := by kernel_rfl
set_option maxRecDepth 100000 in
theorem t22_inc {l : List Int} {c : Int} {L : List Int} {n r : Int} {xs : List Tk} {ts : List Nat} {i : Nat} : (exec cfgT 100 inc22 (fr 48 n22b (v22 n r L ts.length (i : Nat))) (ply2 l c L xs ts)).bind (canonK 5 [(0,0)] 48 n22b) =
 

 (.need (inR .i64 ((↑i : Int) + (1 : Int)))

 (.ret (.normal, [.ptr 1 0, .lit .i64 (1 : Int), .int .i64 n, .int .i64 r, .sli 3 (.c 0) 1 (.v L.length) none, .sli 5 (.c 0) 1 (.v ts.length) none, .int .i64 (imax n (1 : Int)), .int .i64 ((↑i : Int) + (1 : Int))], [.ro encLook [PUnit.unit], .own [.c (.sli 2 (.c 0) 1 (.v 3) (some (.v 3))), .c (.int .i64 c)] 70, .own [.a (encInt IntKind.u32) 3 l] 35, .vec (encInt IntKind.i64) L 3, .many encTk xs 68, .vec (encT 30 4) ts 66]))) := by kernel_rfl
set_option maxRecDepth 100000 in
theorem t22_new {l : List Int} {c : Int} {L : List Int} {n r : Int} {xs : List Tk} {ts : List Nat} {i : Nat} : (execN cfgT 100 1 end22 (fr 48 n22b (v22 n r L ts.length (i : Nat))) (ply2 l c L xs ts)).bind (canonK 5 [(0,0)] 48 [3, 4, 15]) =
 

 (.eq (anyP cfgW 100 24 [.ptr 1 0, .sli 5 (.c 0) 1 (.v ts.length) none] [.ro encLook [PUnit.unit], .own [.c (.sli 2 (.c 0) 1 (.v 3) (some (.v 3))), .c (.int .i64 c)] 70, .own [.a (encInt IntKind.u32) 3 l] 35, .vec (encInt IntKind.i64) L 3, .many encTk xs 68, .vec (encT 30 4) ts 66])

 (.need (decide (0 + ts.length ≤ ts.length))

 (.need (decide (0 + ts.length ≤ ts.length))

 (.need (roomy (List.take ts.length (List.drop 0 ts)).length 16)

 (.need (decide ((0 : Int) ≤ (↑ts.length : Int)))

 (.need (decide ((↑ts.length : Int) * (1 : Int) ≤ (140737488355328 : Int)))

 (.need (decide ((↑ts.length : Int) ≤ (4611686018427387904 : Int)))

 (.ret (.normal, [.int .i64 r, .sli 3 (.c 0) 1 (.v L.length) none, .ptr 5 0], [.ro encLook [PUnit.unit], .own [.c (.sli 2 (.c 0) 1 (.v 3) (some (.v 3))), .c (.int .i64 c)] 70, .own [.a (encInt IntKind.u32) 3 l] 35, .vec (encInt IntKind.i64) L 3, .many encTk xs 68, .own [.c (.ptr 1 0), .c (.sli 6 (.c 0) 1 (.v (List.take ts.length (List.drop 0 ts)).length) none), .c (.sli 7 (.c 0) 1 (.v (↑ts.length : Int).toNat) (some (.v (↑ts.length : Int).toNat)))] 64, .vec (encT 30 4) (List.take ts.length (List.drop 0 ts)) 66, .own [.a encBool (↑ts.length : Int).toNat (List.replicate (↑ts.length : Int).toNat false)] 4]))))))))) := by kernel_rfl
end Go.Proofs.YtafipmkobdhigaaDoor

/- BarrierRuns: the machine of a play, under its own names. -/
namespace Go.Proofs.YtafipmkobdhigaaDoor
open Go Go.Proofs.YtafipmkobdhigaaDoor.Sx
set_option linter.unusedVariables false
theorem rows_eq {X : Type} {E E' : Enc X} {mp : List Nat} (h1 : E.sz = 1) (h2 : E'.sz = 1) (h : ∀ x, ∃ v, E'.enc x = [v] ∧ renL mp (E.enc x) = [v]) {xs : List X} {T : TypeId} : EqvB (.vec (encRow 0) (renRows mp E xs) T) (.vec E' xs T) := by
  refine .inr ⟨_, _, _, _, _, _, _, rfl, rfl, by rw [h2]; rfl, by simp [renRows], ?_⟩
  induction xs with
  | nil => rfl
  | cons x xs ih =>
    obtain ⟨v, e1, e2⟩ := h x
    simp only [renRows, List.map_cons, List.flatMap_cons] at ih ⊢
    rw [ih, e1, e2]; rfl
theorem rowsT {mp : List Nat} {t a b : Nat} (h : idx a mp 0 = some b) {xs : List Nat} {T : TypeId} : EqvB (.vec (encRow 0) (renRows mp (encT t a) xs) T) (.vec (encT t b) xs T) :=
  rows_eq rfl rfl fun x => ⟨.ifc t (.pto b x 0), rfl, by simp [encT, renL, ren, h]⟩
theorem rowsP {mp : List Nat} {a b : Nat} (h : idx a mp 0 = some b) {xs : List Nat} {T : TypeId} : EqvB (.vec (encRow 0) (renRows mp (encP a) xs) T) (.vec (encP b) xs T) :=
  rows_eq rfl rfl fun x => ⟨.pto b x 0, rfl, by simp [encP, renL, ren, h]⟩
abbrev plM (m : Nat) (s : Mc) (L : List Int) : St := [lookB, .own [.c (.sli 2 (.c 0) 1 (.v 3) (some (.v 3))), .c (.int .i64 s.c)] 70, .own [.a (encInt .u32) 3 s.l] 35, .vec (encInt .i64) L 3, .many encTk s.xs 68,
  .own [.c (.ptr 1 0), .c (.sli 6 (.c 0) 1 (.v m) none), .c (.sli 7 (.c 0) 1 (.v m) (some (.v m)))] 64, .vec (encT 30 4) (List.range m) 66, .own [.a encBool m s.ds] 4]
abbrev idsP : List Nat := [0, 1, 2, 4, 5, 6, 7, 3]
abbrev invP : List Nat := [0, 1, 2, 7, 3, 4, 5, 6]
abbrev plR (m : Nat) (s : Mc) (L : List Int) : St := famS 3 s.l s.c s.xs ++ [.own [.c (.ptr 1 0), .c (.sli 5 (.c 0) 1 (.v m) none), .c (.sli 6 (.c 0) 1 (.v m) (some (.v m)))] 64, .vec (encRow 0) (renRows idsP (encT 30 4) (List.range m)) 66, .own [.a encBool m s.ds] 4, .vec (encInt .i64) L 3]
abbrev plB (m : Nat) (s : Mc) (L : List Int) : St := [lookB, .own [.c (.sli 2 (.c 0) 1 (.v 3) (some (.v 3))), .c (.int .i64 s.c)] 70, .own [.a (encInt .u32) 3 s.l] 35, .vec (encInt .i64) L 3, .many encTk s.xs 68,
  .own [.c (.ptr 1 0), .c (.sli 6 (.c 0) 1 (.v m) none), .c (.sli 7 (.c 0) 1 (.v m) (some (.v m)))] 64, .vec (encRow 0) (renRows invP (encT 30 3) (List.range m)) 66, .own [.a encBool m s.ds] 4]
set_option maxRecDepth 100000 in
theorem plM_ren {m : Nat} {s : Mc} {L : List Int} : renSt idsP (plM m s L) idsP = some (plR m s L) := by kernel_rfl
theorem plM_eqv {m : Nat} {s : Mc} {L : List Int} : EqvSt (plR m s L) (runSv 3 m s L) := ⟨.inl rfl, .inl rfl, .inl rfl, .inl rfl, .inl rfl, rowsT rfl, .inl rfl, .inl rfl, trivial⟩
set_option maxRecDepth 100000 in
theorem runSv_ren {m : Nat} {s : Mc} {L : List Int} : renSt invP (runSv 3 m s L) invP = some (plB m s L) := by kernel_rfl
theorem runSv_eqv {m : Nat} {s : Mc} {L : List Int} : EqvSt (plB m s L) (plM m s L) := ⟨.inl rfl, .inl rfl, .inl rfl, .inl rfl, .inl rfl, .inl rfl, rowsT rfl, .inl rfl, trivial⟩
theorem playCall {c : Cfg} (hc : c.gl = [(0, 0)]) {f : FuncId} {A A0 : List SVal} {m : Nat} {s s' : Mc} {L : List Int} {v : SVal}
    (hC : ∀ (env : Env) (w : World) (vs : List Value), GlOk c.gl env → Rep env (runSv 3 m s L) w → DenL env A vs → Calls c.P f ⟨vs⟩ w (Ends1 env (runSv 3 m s L) w v (runSv 3 m s' L)))
    (hA : renL idsP A0 = A) (hv : ren invP v = v) :
    ∀ (env : Env) (w : World) (vs : List Value), GlOk c.gl env → Rep env (plM m s L) w → DenL env A0 vs → Calls c.P f ⟨vs⟩ w (Ends1 env (plM m s L) w v (plM m s' L)) :=
  permCall idsP invP hC rfl rfl (by rw [hc]; rfl) rfl rfl (by rfl) plM_ren plM_eqv runSv_ren runSv_eqv hA hv
/-- the machine's calls -/
noncomputable def cfgPl (m : Nat) (s : Mc) (L : List Int) (most : Int) : Cfg := { P := Tryd.prog, ex := exI, gl := [(0, 0)], sm := fun f => match f with
  | 23 => some (smEq [.ptr 5 0, listW L 3] (plM m s L) (McOk 3 m s ∧ L.length ≤ 1000000) (.int .i64 (runN m s L)) (plM m (runP m s L) L))
  | 12 => some (smEq [.ptr 5 0, .int .i64 most] (plM m s L) (McOk 3 m s ∧ m ≤ 1000 ∧ most ≤ 1000000) (.int .i64 (stopP m s most.toNat : Nat)) (plM m (endP m s most.toNat) L))
  | _ => none }
theorem cfgPl_ok {m : Nat} {s : Mc} {L : List Int} {most : Int} : SmOk (cfgPl m s L most) := by
  intro f g h
  simp only [cfgPl] at h
  split at h
  · simp only [Option.some.injEq] at h; subst h
    exact smEq_ok (c := cfgPl m s L most) fun h => playCall (c := cfgM) rfl (run_callv h.1 h.2) rfl rfl
  · simp only [Option.some.injEq] at h; subst h
    exact smEq_ok (c := cfgPl m s L most) fun h => playCall (c := cfgM) rfl (frame (c := cfgM) (round_call h.1 h.2.1 h.2.2) [.vec (encInt .i64) L 3] rfl rfl (gl_lt (by simp)) mcS_ren mcS_ro) rfl rfl
  · cases h
end Go.Proofs.YtafipmkobdhigaaDoor

