/- RingSame holds for every input: at which index a ring begins doesn't matter. -/
import Derived.Test.YtplbncncnjiahaaDoorRgc
/- RingSame: two rings in one memory. -/
namespace Go.Proofs.YtplbncncnjiahaaDoor
open Go Go.Proofs.YtplbncncnjiahaaDoor.Sx
set_option linter.unusedVariables false
/-- a ring and its sides, from the name k on -/
abbrev mch (k : Nat) (w : List Int) (c : Int) (f g : Nat) (x : Snd) (y : Rcv) (L : List ByteArray) : St := [.own [.a (encInt .u32) 80 w] 40, .own [.c (.sli k (.c 0) 1 (.v 80) (some (.v 80))), .c (.int .i64 c)] 80] ++ sndS f (k + 2) x L ++ rcvS g (k + 5) y
/-- one side's state -/
structure Mc where
  w : List Int
  c : Int
  f : Nat
  g : Nat
  x : Snd
  y : Rcv
abbrev mcS (k : Nat) (m : Mc) (L : List ByteArray) : St := mch k m.w m.c m.f m.g m.x m.y L
abbrev tail7 (q : InR) : St := [.ro encStr q.ms, .ro (encInt .u8) q.ps, plB q 17 18]
abbrev s7 (q : InR) (m n : Mc) (L : List ByteArray) : St := [lookB] ++ mcS 1 m L ++ mcS 9 n L ++ tail7 q
abbrev v7 : List SVal := [.ptr 19 0, .ptr 2 0, .ptr 3 0, .ptr 6 0, .ptr 10 0, .ptr 11 0, .ptr 14 0]
abbrev n7 : List Nat := [3, 7, 8, 9, 12, 13, 14]
abbrev n7i : List Nat := [3, 7, 8, 9, 12, 13, 14, 17]
noncomputable def b7 : Code := Tryd.f7.body.getD .skip
noncomputable def c7 : Code := restC 5 b7
noncomputable def reg7 : Code := lft (lft c7)
noncomputable def blk7 : Code := rgt (lft c7)
noncomputable def round7 : Code := lft (lft blk7)
noncomputable def tm7 : Code := lft round7
noncomputable def bb7 : Code := lft (lft (rgt round7))
noncomputable def inc7 : Code := rgt (rgt round7)
noncomputable def end7 : Code := rgt c7
/-- a sender's step on the first ring, a second one's behind it -/
abbrev s7a (q : InR) (w : List Int) (c : Int) (f g : Nat) (x : Snd) (y : Rcv) (n : Mc) (L : List ByteArray) : St := memS 80 w c ++ [.own [.c (.int .i64 x.at'), .c (.int .i64 x.n), .c (.int .i64 x.z), .c (.fn (.func f) [.ptr 3 0] []), .c (.int .u32 x.head), .c (.int .u32 x.tail), .c (.int .i64 x.did), .c (.sli 4 (.c 0) 1 (.v L.length) none), .c (.sli 20 (.c 0) 1 (.v x.sent.length) none)] 76, .vec encStr L 9, .gone] ++ (rcvS g 6 y ++ mcS 9 n L ++ tail7 q ++ [.vec encBool x.sent 4])
abbrev s7b (q : InR) (w : List Int) (c : Int) (f g : Nat) (x : Snd) (y : Rcv) (v : List Int) (d : Int) (h e : Nat) (u : Snd) (t : Rcv) (L : List ByteArray) : St := memS 80 w c ++ [.own [.c (.int .i64 x.at'), .c (.int .i64 x.n), .c (.int .i64 x.z), .c (.fn (.func f) [.ptr 3 0] []), .c (.int .u32 x.head), .c (.int .u32 x.tail), .c (.int .i64 x.did), .c (.sli 4 (.c 0) 1 (.v L.length) none), .c (.sli 20 (.c 0) 1 (.v x.sent.length) none)] 76, .vec encStr L 9, .gone] ++ rcvS g 6 y ++
  [.own [.a (encInt .u32) 80 v] 40, .own [.c (.sli 9 (.c 0) 1 (.v 80) (some (.v 80))), .c (.int .i64 d)] 80, .own [.c (.int .i64 u.at'), .c (.int .i64 u.n), .c (.int .i64 u.z), .c (.fn (.func h) [.ptr 11 0] []), .c (.int .u32 u.head), .c (.int .u32 u.tail), .c (.int .i64 u.did), .c (.sli 12 (.c 0) 1 (.v L.length) none), .c (.sli 21 (.c 0) 1 (.v u.sent.length) none)] 76, .vec encStr L 9, .gone] ++ rcvS e 14 t ++ tail7 q ++ [.vec encBool x.sent 4, .vec encBool u.sent 4]
set_option maxRecDepth 100000 in
theorem step7a {q : InR} {w : List Int} {c : Int} {x : Snd} {y : Rcv} {n : Mc} {L : List ByteArray} (g : Nat) (h : SOk 80 w c x L ∧ x.p ≤ 3) (env : Env) (W : World) (vs : List Value) (hg : GlOk cfgK.gl env) (hr : Rep env (s7 q ⟨w, c, sfn x.p, g, x, y⟩ n L) W) (hd : DenL env [.ptr 3 0, .ptr 2 0] vs) :
    Calls cfgK.P 19 ⟨vs⟩ W (Ends1 env (s7 q ⟨w, c, sfn x.p, g, x, y⟩ n L) W (.sb (sStill (sNext x L w).1 L)) (s7a q (sNext x L w).2 (sC x L c) (sfn (sNext x L w).1.p) g (sNext x L w).1 y n L)) := by
  have hs := s_step h.1 h.2
  unfold SStep at hs
  generalize hx' : (sNext x L w).1 = x' at *
  generalize hw' : (sNext x L w).2 = w' at *
  generalize hc' : sC x L c = c' at *
  have hf := frameNew (c := cfgK) (n := 1) hs (rcvS g 6 y ++ mcS 9 n L ++ tail7 q) rfl rfl (gl_lt12 (by simp)) (by kernel_rfl) (Sa := memS 80 w' c' ++ [.own [.c (.int .i64 x'.at'), .c (.int .i64 x'.n), .c (.int .i64 x'.z), .c (.fn (.func (sfn x'.p)) [.ptr 3 0] []), .c (.int .u32 x'.head), .c (.int .u32 x'.tail), .c (.int .i64 x'.did), .c (.sli 4 (.c 0) 1 (.v L.length) none), .c (.sli 20 (.c 0) 1 (.v x'.sent.length) none)] 76, .vec encStr L 9, .gone]) (Sb := [.vec encBool x'.sent 4]) (s' := .sb (sStill x' L)) (by kernel_rfl) (by kernel_rfl) rfl
    (roPlain rfl (by
      intro i hi b hb
      match i, hi with
      | 1, _ => simp at hb; subst hb; rfl
      | 2, _ => simp at hb; subst hb; rfl
      | 3, _ => simp at hb; subst hb; rfl
      | 4, _ => simp at hb; subst hb; rfl
      | 5, _ => simp at hb; subst hb; rfl
      | n + 6, _ => simp at hb)) (by intro b hb; rw [List.mem_singleton.1 hb]; rfl) rfl
  exact hf env W vs hg hr hd
abbrev id7 : List Nat := [0, 9, 10, 11, 12, 13, 1, 2, 3, 4, 5, 6, 7, 8, 14, 15, 16, 17, 18, 19, 20]
abbrev iv7 : List Nat := [0, 6, 7, 8, 9, 10, 11, 12, 13, 1, 2, 3, 4, 5, 14, 15, 16, 17, 18, 19, 20]
set_option maxRecDepth 100000 in
theorem step7b {q : InR} {w : List Int} {c : Int} {f g : Nat} {x : Snd} {y : Rcv} {v : List Int} {d : Int} {u : Snd} {e : Nat} {t : Rcv} {L : List ByteArray} (h : SOk 80 v d u L ∧ u.p ≤ 3) (env : Env) (W : World) (vs : List Value) (hg : GlOk cfgK.gl env) (hr : Rep env (s7a q w c f g x y ⟨v, d, sfn u.p, e, u, t⟩ L) W) (hd : DenL env [.ptr 11 0, .ptr 10 0] vs) :
    Calls cfgK.P 19 ⟨vs⟩ W (Ends1 env (s7a q w c f g x y ⟨v, d, sfn u.p, e, u, t⟩ L) W (.sb (sStill (sNext u L v).1 L)) (s7b q w c f g x y (sNext u L v).2 (sC u L d) (sfn (sNext u L v).1.p) e (sNext u L v).1 t L)) := by
  have hs := s_step h.1 h.2
  unfold SStep at hs
  generalize hx' : (sNext u L v).1 = u' at *
  generalize hw' : (sNext u L v).2 = v' at *
  generalize hc' : sC u L d = d' at *
  have hf := frameNew (c := cfgK) (n := 1) hs [.own [.a (encInt .u32) 80 w] 40, .own [.c (.sli 6 (.c 0) 1 (.v 80) (some (.v 80))), .c (.int .i64 c)] 80, .own [.c (.int .i64 x.at'), .c (.int .i64 x.n), .c (.int .i64 x.z), .c (.fn (.func f) [.ptr 8 0] []), .c (.int .u32 x.head), .c (.int .u32 x.tail), .c (.int .i64 x.did), .c (.sli 9 (.c 0) 1 (.v L.length) none), .c (.sli 20 (.c 0) 1 (.v x.sent.length) none)] 76, .vec encStr L 9, .gone,
    .own [.c (.int .i64 y.at'), .c (.int .i64 y.n), .c (.int .i64 y.z), .c (.fn (.func g) [.ptr 11 0] []), .c (.int .u32 y.head), .c (.int .u32 y.tail), .c (.int .i64 y.did), .c (.int .i64 y.times), .c (.int .i64 y.ln), .c (.sli 12 (.c 0) 1 (.v y.b.length) none), .c (.sli 13 (.c 0) 1 (.v y.got.length) none)] 78, .vec (encInt .u8) y.b 5, .vec encStr y.got 9,
    .own [.c (.int .i64 t.at'), .c (.int .i64 t.n), .c (.int .i64 t.z), .c (.fn (.func e) [.ptr 14 0] []), .c (.int .u32 t.head), .c (.int .u32 t.tail), .c (.int .i64 t.did), .c (.int .i64 t.times), .c (.int .i64 t.ln), .c (.sli 15 (.c 0) 1 (.v t.b.length) none), .c (.sli 16 (.c 0) 1 (.v t.got.length) none)] 78, .vec (encInt .u8) t.b 5, .vec encStr t.got 9, .ro encStr q.ms, .ro (encInt .u8) q.ps, plB q 17 18, .vec encBool x.sent 4] rfl rfl (gl_lt12 (by simp)) (by kernel_rfl) (Sa := memS 80 v' d' ++ [.own [.c (.int .i64 u'.at'), .c (.int .i64 u'.n), .c (.int .i64 u'.z), .c (.fn (.func (sfn u'.p)) [.ptr 3 0] []), .c (.int .u32 u'.head), .c (.int .u32 u'.tail), .c (.int .i64 u'.did), .c (.sli 4 (.c 0) 1 (.v L.length) none), .c (.sli 21 (.c 0) 1 (.v u'.sent.length) none)] 76, .vec encStr L 9, .gone]) (Sb := [.vec encBool u'.sent 4]) (s' := .sb (sStill u' L)) (by kernel_rfl) (by kernel_rfl) rfl
    (roPlain rfl (by
      intro i hi b hb
      match i, hi with
      | 1, _ => simp at hb; subst hb; rfl
      | 2, _ => simp at hb; subst hb; rfl
      | 3, _ => simp at hb; subst hb; rfl
      | 4, _ => simp at hb; subst hb; rfl
      | 5, _ => simp at hb; subst hb; rfl
      | n + 6, _ => simp at hb)) (by intro b hb; rw [List.mem_singleton.1 hb]; rfl) rfl
  exact permNew (n := 1) (st := s7a q w c f g x y ⟨v, d, sfn u.p, e, u, t⟩ L) (S0 := _) (st0' := s7b q w c f g x y v' d' (sfn u'.p) e u' t L) (st' := s7b q w c f g x y v' d' (sfn u'.p) e u' t L) id7 iv7 hf rfl rfl rfl rfl rfl rfl (by rfl) (by kernel_rfl) EqvSt.rfl' (by kernel_rfl) EqvSt.rfl' rfl rfl env W vs hg hr hd
/-- a receiver's step on the first ring, a second one's behind it -/
abbrev rGone (f : Nat) (k i j : Nat) (y : Rcv) : St := [.own [.c (.int .i64 y.at'), .c (.int .i64 y.n), .c (.int .i64 y.z), .c (.fn (.func f) [.ptr k 0] []), .c (.int .u32 y.head), .c (.int .u32 y.tail), .c (.int .i64 y.did), .c (.int .i64 y.times), .c (.int .i64 y.ln), .c (.sli i (.c 0) 1 (.v y.b.length) none), .c (.sli j (.c 0) 1 (.v y.got.length) none)] 78, .gone, .gone]
abbrev s7c (q : InR) (w : List Int) (c : Int) (f g : Nat) (x : Snd) (y : Rcv) (n : Mc) (L : List ByteArray) : St := memS 80 w c ++ sndS f 3 x L ++ rGone g 6 20 21 y ++ mcS 9 n L ++ tail7 q ++ [.vec (encInt .u8) y.b 5, .vec encStr y.got 9]
abbrev s7d (q : InR) (w : List Int) (c : Int) (f g : Nat) (x : Snd) (y : Rcv) (v : List Int) (d : Int) (h e : Nat) (u : Snd) (t : Rcv) (L : List ByteArray) : St := memS 80 w c ++ sndS f 3 x L ++ rGone g 6 20 21 y ++
  ([.own [.a (encInt .u32) 80 v] 40, .own [.c (.sli 9 (.c 0) 1 (.v 80) (some (.v 80))), .c (.int .i64 d)] 80] ++ sndS h 11 u L ++ rGone e 14 22 23 t) ++ tail7 q ++ [.vec (encInt .u8) y.b 5, .vec encStr y.got 9, .vec (encInt .u8) t.b 5, .vec encStr t.got 9]
abbrev id7c : List Nat := [0, 1, 2, 6, 7, 8, 3, 4, 5, 9, 10, 11, 12, 13, 14, 15, 16, 17, 18, 19]
set_option maxRecDepth 100000 in
theorem step7c {q : InR} {w : List Int} {c : Int} {x : Snd} {y : Rcv} {n : Mc} {L : List ByteArray} (f : Nat) (h : ROk 80 w c y ∧ y.p ≤ 3) (env : Env) (W : World) (vs : List Value) (hg : GlOk cfgK.gl env) (hr : Rep env (s7 q ⟨w, c, f, rfn y.p, x, y⟩ n L) W) (hd : DenL env [.ptr 6 0, .ptr 2 0] vs) :
    Calls cfgK.P 20 ⟨vs⟩ W (Ends1 env (s7 q ⟨w, c, f, rfn y.p, x, y⟩ n L) W (.sb (rStill (rNext y w).1)) (s7c q (rNext y w).2 (rC y c) f (rfn (rNext y w).1.p) x (rNext y w).1 n L)) := by
  have hs := r_step h.1 h.2
  unfold RStep at hs
  generalize hx' : (rNext y w).1 = y' at *
  generalize hw' : (rNext y w).2 = w' at *
  generalize hc' : rC y c = c' at *
  have hf := frameNew (c := cfgK) (n := 2) hs (sndS f 6 x L ++ mcS 9 n L ++ tail7 q) rfl rfl (gl_lt12 (by simp)) (by kernel_rfl) (Sa := memS 80 w' c' ++ rGone (rfn y'.p) 3 20 21 y') (Sb := [.vec (encInt .u8) y'.b 5, .vec encStr y'.got 9]) (s' := .sb (rStill y')) (by kernel_rfl) (by kernel_rfl) rfl
    (roPlain rfl (by
      intro i hi b hb
      match i, hi with
      | 1, _ => simp at hb; subst hb; rfl
      | 2, _ => simp at hb; subst hb; rfl
      | 3, _ => simp at hb; subst hb; rfl
      | 4, _ => simp at hb; subst hb; rfl
      | 5, _ => simp at hb; subst hb; rfl
      | n + 6, _ => simp at hb)) (by
      intro b hb
      simp only [List.mem_cons, List.not_mem_nil, or_false] at hb
      rcases hb with rfl | rfl <;> rfl) rfl
  exact permNew (n := 2) (st := s7 q ⟨w, c, f, rfn y.p, x, y⟩ n L) (S0 := _) (st0' := s7c q w' c' f (rfn y'.p) x y' n L) (st' := s7c q w' c' f (rfn y'.p) x y' n L) id7c id7c hf rfl rfl rfl rfl rfl rfl (by rfl) (by kernel_rfl) EqvSt.rfl' (by kernel_rfl) EqvSt.rfl' rfl rfl env W vs hg hr hd
abbrev id7d : List Nat := [0, 9, 10, 14, 15, 16, 1, 2, 3, 4, 5, 6, 7, 8, 11, 12, 13, 17, 18, 19, 20, 21]
abbrev iv7d : List Nat := [0, 6, 7, 8, 9, 10, 11, 12, 13, 1, 2, 14, 15, 16, 3, 4, 5, 17, 18, 19, 20, 21]
set_option maxRecDepth 100000 in
theorem step7d {q : InR} {w : List Int} {c : Int} {f g : Nat} {x : Snd} {y : Rcv} {v : List Int} {d : Int} {u : Snd} {h : Nat} {t : Rcv} {L : List ByteArray} (ht : ROk 80 v d t ∧ t.p ≤ 3) (env : Env) (W : World) (vs : List Value) (hg : GlOk cfgK.gl env) (hr : Rep env (s7c q w c f g x y ⟨v, d, h, rfn t.p, u, t⟩ L) W) (hd : DenL env [.ptr 14 0, .ptr 10 0] vs) :
    Calls cfgK.P 20 ⟨vs⟩ W (Ends1 env (s7c q w c f g x y ⟨v, d, h, rfn t.p, u, t⟩ L) W (.sb (rStill (rNext t v).1)) (s7d q w c f g x y (rNext t v).2 (rC t d) h (rfn (rNext t v).1.p) u (rNext t v).1 L)) := by
  have hs := r_step ht.1 ht.2
  unfold RStep at hs
  generalize hx' : (rNext t v).1 = t' at *
  generalize hw' : (rNext t v).2 = v' at *
  generalize hc' : rC t d = d' at *
  have hf := frameNew (c := cfgK) (n := 2) hs ([.own [.a (encInt .u32) 80 w] 40, .own [.c (.sli 6 (.c 0) 1 (.v 80) (some (.v 80))), .c (.int .i64 c)] 80] ++ sndS f 8 x L ++ rGone g 11 20 21 y ++ sndS h 14 u L ++ tail7 q ++ [.vec (encInt .u8) y.b 5, .vec encStr y.got 9]) rfl rfl (gl_lt12 (by simp)) (by kernel_rfl) (Sa := memS 80 v' d' ++ rGone (rfn t'.p) 3 22 23 t') (Sb := [.vec (encInt .u8) t'.b 5, .vec encStr t'.got 9]) (s' := .sb (rStill t')) (by kernel_rfl) (by kernel_rfl) rfl
    (roPlain rfl (by
      intro i hi b hb
      match i, hi with
      | 1, _ => simp at hb; subst hb; rfl
      | 2, _ => simp at hb; subst hb; rfl
      | 3, _ => simp at hb; subst hb; rfl
      | 4, _ => simp at hb; subst hb; rfl
      | 5, _ => simp at hb; subst hb; rfl
      | n + 6, _ => simp at hb)) (by
      intro b hb
      simp only [List.mem_cons, List.not_mem_nil, or_false] at hb
      rcases hb with rfl | rfl <;> rfl) rfl
  exact permNew (n := 2) (st := s7c q w c f g x y ⟨v, d, h, rfn t.p, u, t⟩ L) (S0 := _) (st0' := s7d q w c f g x y v' d' h (rfn t'.p) u t' L) (st' := s7d q w c f g x y v' d' h (rfn t'.p) u t' L) id7d iv7d hf rfl rfl rfl rfl rfl rfl (by rfl) (by kernel_rfl) EqvSt.rfl' (by kernel_rfl) EqvSt.rfl' rfl rfl env W vs hg hr hd
end Go.Proofs.YtplbncncnjiahaaDoor

/- RingSame: its calls. -/
namespace Go.Proofs.YtplbncncnjiahaaDoor
open Go Go.Proofs.YtplbncncnjiahaaDoor.Sx
set_option linter.unusedVariables false
/-- two summaries of one function, by the object that it is called on -/
def sm2 (k : Nat) (a b : List SVal → St → T (SVal × St)) : List SVal → St → T (SVal × St) := fun args st => match args with
  | .ptr i _ :: _ => match Nat.beq i k with
    | true => a args st
    | false => b args st
  | _ => .no 400
theorem sm2_at {k : Nat} {a b : List SVal → St → T (SVal × St)} {args : List SVal} {st : St} {r : SVal × St} (h : (sm2 k a b args st).at r) : (a args st).at r ∨ (b args st).at r := by
  unfold sm2 at h
  split at h
  · split at h
    · exact .inl h
    · exact .inr h
  · exact h.elim
abbrev sC7 (m : Mc) (L : List ByteArray) (m1 : Mc) : Prop := m.f = sfn m.x.p ∧ (SOk 80 m.w m.c m.x L ∧ m.x.p ≤ 3) ∧ m1 = ⟨(sNext m.x L m.w).2, sC m.x L m.c, sfn (sNext m.x L m.w).1.p, m.g, (sNext m.x L m.w).1, m.y⟩
abbrev rC7 (m : Mc) (m1 : Mc) : Prop := m.g = rfn m.y.p ∧ (ROk 80 m.w m.c m.y ∧ m.y.p ≤ 3) ∧ m1 = ⟨(rNext m.y m.w).2, rC m.y m.c, m.f, rfn (rNext m.y m.w).1.p, m.x, (rNext m.y m.w).1⟩
noncomputable def cfg7 (q : InR) (m n m1 n1 m2 n2 : Mc) (L : List ByteArray) (b1 d1 b2 d2 : Bool) (P1 P2 P3 P4 : Prop) : Cfg := { P := Tryd.prog, ex := exI, gl := [(0, 0)], sm := fun F => match F with
  | 19 => some (sm2 3 (smEq [.ptr 3 0, .ptr 2 0] (s7 q m n L) P1 (.sb b1) (s7a q m1.w m1.c m1.f m.g m1.x m.y n L)) (smEq [.ptr 11 0, .ptr 10 0] (s7a q m1.w m1.c m1.f m.g m1.x m.y n L) P2 (.sb d1) (s7b q m1.w m1.c m1.f m.g m1.x m.y n1.w n1.c n1.f n.g n1.x n.y L)))
  | 20 => some (sm2 6 (smEq [.ptr 6 0, .ptr 2 0] (s7 q m n L) P3 (.sb b2) (s7c q m2.w m2.c m.f m2.g m.x m2.y n L)) (smEq [.ptr 14 0, .ptr 10 0] (s7c q m2.w m2.c m.f m2.g m.x m2.y n L) P4 (.sb d2) (s7d q m2.w m2.c m.f m2.g m.x m2.y n2.w n2.c n.f n2.g n.x n2.y L)))
  | _ => none }
theorem cfg7_ok {q : InR} {m n m1 n1 m2 n2 : Mc} {L : List ByteArray} {b1 d1 b2 d2 : Bool} {P1 P2 P3 P4 : Prop} (h1 : P1 → sC7 m L m1 ∧ b1 = sStill m1.x L) (h2 : P2 → sC7 n L n1 ∧ d1 = sStill n1.x L) (h3 : P3 → rC7 m m2 ∧ b2 = rStill m2.y) (h4 : P4 → rC7 n n2 ∧ d2 = rStill n2.y) : SmOk (cfg7 q m n m1 n1 m2 n2 L b1 d1 b2 d2 P1 P2 P3 P4) := by
  intro F G h
  simp only [cfg7] at h
  split at h
  · simp only [Option.some.injEq] at h; subst h
    intro args st s st' env w vs hat
    rcases sm2_at hat with hat | hat
    · refine smEq_ok (c := cfg7 q m n m1 n1 m2 n2 L b1 d1 b2 d2 P1 P2 P3 P4) (fun hp => ?_) args st s st' env w vs hat
      obtain ⟨⟨e1, e2, e3⟩, rfl⟩ := h1 hp
      obtain ⟨w, c, f, g, x, y⟩ := m
      simp only at e1
      subst e1 e3
      exact step7a g e2
    · refine smEq_ok (c := cfg7 q m n m1 n1 m2 n2 L b1 d1 b2 d2 P1 P2 P3 P4) (fun hp => ?_) args st s st' env w vs hat
      obtain ⟨⟨e1, e2, e3⟩, rfl⟩ := h2 hp
      obtain ⟨w, c, f, g, x, y⟩ := n
      simp only at e1
      subst e1 e3
      exact step7b e2
  · simp only [Option.some.injEq] at h; subst h
    intro args st s st' env w vs hat
    rcases sm2_at hat with hat | hat
    · refine smEq_ok (c := cfg7 q m n m1 n1 m2 n2 L b1 d1 b2 d2 P1 P2 P3 P4) (fun hp => ?_) args st s st' env w vs hat
      obtain ⟨⟨e1, e2, e3⟩, rfl⟩ := h3 hp
      obtain ⟨w, c, f, g, x, y⟩ := m
      simp only at e1
      subst e1 e3
      exact step7c f e2
    · refine smEq_ok (c := cfg7 q m n m1 n1 m2 n2 L b1 d1 b2 d2 P1 P2 P3 P4) (fun hp => ?_) args st s st' env w vs hat
      obtain ⟨⟨e1, e2, e3⟩, rfl⟩ := h4 hp
      obtain ⟨w, c, f, g, x, y⟩ := n
      simp only at e1
      subst e1 e3
      exact step7d e2
  · cases h
abbrev s7e (q : InR) (m n : Mc) (L : List ByteArray) (A B : List Bool) : St := s7 q m n L ++ [.own [.a encBool A.length A] 4, .own [.a encBool B.length B] 4]
abbrev s7g (q : InR) (m n : Mc) (L : List ByteArray) (A B : List Bool) (C D : List ByteArray) : St := s7 q m n L ++ [.own [.a encBool A.length A] 4, .own [.a encBool B.length B] 4, .gone, .vec encStr C 9, .gone, .vec encStr D 9]
abbrev id7e : List Nat := [0, 20, 21, 1, 2, 3, 4, 5, 6, 7, 8, 9, 10, 11, 12, 13, 14, 15, 16, 17, 18, 19]
abbrev iv7e : List Nat := [0, 3, 4, 5, 6, 7, 8, 9, 10, 11, 12, 13, 14, 15, 16, 17, 18, 19, 20, 21, 1, 2]
set_option maxRecDepth 100000 in
theorem sames7 {q : InR} {m n : Mc} {L : List ByteArray} {A : List Bool} (hA : A.length ≤ 1000000) (env : Env) (W : World) (vs : List Value) (hg : GlOk cfgM.gl env) (hr : Rep env (s7e q m n L A A) W) (hd : DenL env [.sli 20 (.c 0) 1 (.v A.length) (some (.v A.length)), .sli 21 (.c 0) 1 (.v A.length) (some (.v A.length))] vs) :
    Calls cfgM.P 23 ⟨vs⟩ W (Ends1 env (s7e q m n L A A) W (.bl true) (s7e q m n L A A)) := by
  have hs := sames_call (A := A) hA
  have hf := frame (c := cfgM) hs (mcS 3 m L ++ mcS 11 n L ++ [.ro encStr q.ms, .ro (encInt .u8) q.ps, plB q 19 20]) rfl rfl (gl_lt (by simp)) (by kernel_rfl) (roSame_refl _)
  exact permCall (st := s7e q m n L A A) (S0 := _) (st0' := s7e q m n L A A) (st' := s7e q m n L A A) id7e iv7e hf rfl rfl rfl rfl rfl (by rfl) (by kernel_rfl) EqvSt.rfl' (by kernel_rfl) EqvSt.rfl' rfl rfl env W vs hg hr hd
abbrev id7g : List Nat := [0, 23, 25, 1, 2, 3, 4, 5, 6, 7, 8, 9, 10, 11, 12, 13, 14, 15, 16, 17, 18, 19, 20, 21, 22, 24]
abbrev iv7g : List Nat := [0, 3, 4, 5, 6, 7, 8, 9, 10, 11, 12, 13, 14, 15, 16, 17, 18, 19, 20, 21, 22, 23, 24, 1, 25, 2]
set_option maxRecDepth 100000 in
theorem texts7 {q : InR} {m n : Mc} {L : List ByteArray} {A B : List Bool} {C : List ByteArray} (hA : C.length ≤ 1000000) (env : Env) (W : World) (vs : List Value) (hg : GlOk cfgM.gl env) (hr : Rep env (s7g q m n L A B C C) W) (hd : DenL env [.sli 23 (.c 0) 1 (.v C.length) none, .sli 25 (.c 0) 1 (.v C.length) none] vs) :
    Calls cfgM.P 24 ⟨vs⟩ W (Ends1 env (s7g q m n L A B C C) W (.bl true) (s7g q m n L A B C C)) := by
  have hs := texts_call (A := C) (B := C) rfl (by simp) (Nat.le_refl _) hA
  have hf := frame (c := cfgM) hs (mcS 3 m L ++ mcS 11 n L ++ [.ro encStr q.ms, .ro (encInt .u8) q.ps, plB q 19 20, .own [.a encBool A.length A] 4, .own [.a encBool B.length B] 4, .gone, .gone]) rfl rfl (gl_lt (by simp)) (by kernel_rfl) (roSame_refl _)
  exact permCall (st := s7g q m n L A B C C) (S0 := _) (st0' := s7g q m n L A B C C) (st' := s7g q m n L A B C C) id7g iv7g hf rfl rfl rfl rfl rfl (by rfl) (by kernel_rfl) EqvSt.rfl' (by kernel_rfl) EqvSt.rfl' rfl rfl env W vs hg hr hd
noncomputable def cfg7e (q : InR) (m n : Mc) (L : List ByteArray) (P : Prop) : Cfg := { P := Tryd.prog, ex := exI, gl := [(0, 0)], sm := fun F => match F with
  | 23 => some (smEq [.sli 20 (.c 0) 1 (.v m.x.sent.length) (some (.v m.x.sent.length)), .sli 21 (.c 0) 1 (.v n.x.sent.length) (some (.v n.x.sent.length))] (s7e q m n L (m.x.sent.take m.x.sent.length) (n.x.sent.take n.x.sent.length)) P (.bl true) (s7e q m n L (m.x.sent.take m.x.sent.length) (n.x.sent.take n.x.sent.length)))
  | 24 => some (smEq [.sli 23 (.c 0) 1 (.v (m.y.got.take m.y.got.length).length) none, .sli 25 (.c 0) 1 (.v (n.y.got.take n.y.got.length).length) none] (s7g q m n L (m.x.sent.take m.x.sent.length) (n.x.sent.take n.x.sent.length) (m.y.got.take m.y.got.length) (n.y.got.take n.y.got.length)) P (.bl true) (s7g q m n L (m.x.sent.take m.x.sent.length) (n.x.sent.take n.x.sent.length) (m.y.got.take m.y.got.length) (n.y.got.take n.y.got.length)))
  | _ => none }
theorem cfg7e_ok {q : InR} {m n : Mc} {L : List ByteArray} {P : Prop} (hP : P → m.x.sent = n.x.sent ∧ m.y.got = n.y.got ∧ m.x.sent.length ≤ 1000 ∧ m.y.got.length ≤ 1000) : SmOk (cfg7e q m n L P) := by
  intro F G h
  simp only [cfg7e] at h
  split at h
  · simp only [Option.some.injEq] at h; subst h
    refine smEq_ok (c := cfg7e q m n L P) fun h env w vs hg hr hd => ?_
    obtain ⟨e1, e2, h1, h2⟩ := hP h
    simp only [List.take_length, ← e1] at hr hd ⊢
    exact sames7 (by omega) env w vs hg hr hd
  · simp only [Option.some.injEq] at h; subst h
    refine smEq_ok (c := cfg7e q m n L P) fun h env w vs hg hr hd => ?_
    obtain ⟨e1, e2, h1, h2⟩ := hP h
    simp only [List.take_length, ← e2] at hr hd ⊢
    exact texts7 (by omega) env w vs hg hr hd
  · cases h
/-- the first making; the second one -/
abbrev qB7 (p s : Int) : Blk := .own [.c (.int .u8 p), .c (.int .u8 s)] 64
abbrev sM1 (q : InR) (p s : Int) : St := sB q ++ [plB q 1 2, qB7 p s]
abbrev sM2 (q : InR) (p s : Int) (n z h : Int) (L : List ByteArray) : St := sB q ++ [plB q 1 2, qB7 p s] ++ madeS 5 n z L h
theorem made_plain {k : Nat} {n z h : Int} {L : List ByteArray} : ∀ b ∈ madeS k n z L h, plainB b = true := by
  intro b hb
  simp only [List.mem_cons, List.mem_append, List.not_mem_nil, or_false] at hb
  rcases hb with (((rfl | rfl) | rfl | rfl | rfl) | rfl | rfl | rfl) | rfl <;> rfl
theorem both7a {q : InR} {p s : Int} (hh : 0 ≤ q.h ∧ q.h < 4294967296) (hs : 0 ≤ s ∧ s ≤ 255) (env : Env) (w : World) (vs : List Value) (hg : GlOk cfgM.gl env) (hr : Rep env (sM1 q p s) w) (hd : DenL env [plV q 1 2, .int .u8 p, .int .u8 s] vs) :
    Calls cfgM.P 25 ⟨vs⟩ w (Ends1 env (sM1 q p s) w (madeV 5 (nR p) (lAll q (zR s))) (sM1 q p s ++ madeS 5 (nR p) (zR s) (lAll q (zR s)) q.h)) := by
  have h := both_call (q := q) (p := p) (s := s) hh hs
  generalize nR p = n at *
  generalize zR s = z at *
  generalize lAll q z = L at *
  exact frameNew (c := cfgM) (n := 9) h [plB q 1 2, qB7 p s] rfl rfl (gl_lt (by simp)) (by kernel_rfl) (Sa := sB q) (Sb := madeS 5 n z L q.h) (s' := madeV 5 n L) (by kernel_rfl) (by kernel_rfl) rfl (roSame_refl _) made_plain rfl env w vs hg hr hd
theorem both7b {q : InR} {p s h0 : Int} (hh : 0 ≤ q.h ∧ q.h < 4294967296) (hs : 0 ≤ s ∧ s ≤ 255) (env : Env) (w : World) (vs : List Value) (hg : GlOk cfgM.gl env) (hr : Rep env (sM2 q p s (nR p) (zR s) h0 (lAll q (zR s))) w) (hd : DenL env [plV q 1 2, .int .u8 p, .int .u8 s] vs) :
    Calls cfgM.P 25 ⟨vs⟩ w (Ends1 env (sM2 q p s (nR p) (zR s) h0 (lAll q (zR s))) w (madeV 14 (nR p) (lAll q (zR s))) (sM2 q p s (nR p) (zR s) h0 (lAll q (zR s)) ++ madeS 14 (nR p) (zR s) (lAll q (zR s)) q.h)) := by
  have h := both_call (q := q) (p := p) (s := s) hh hs
  generalize nR p = n at *
  generalize zR s = z at *
  generalize lAll q z = L at *
  exact frameNew (c := cfgM) (n := 9) h ([plB q 1 2, qB7 p s] ++ madeS 5 n z L h0) rfl rfl (gl_lt (by simp)) (by kernel_rfl) (Sa := sB q) (Sb := madeS 14 n z L q.h) (s' := madeV 14 n L) (by kernel_rfl) (by kernel_rfl) rfl (roSame_refl _) made_plain rfl env w vs hg hr hd
noncomputable def cfg7m (A : List SVal) (S : St) (V : SVal) (X : St) (P : Prop) : Cfg := { P := Tryd.prog, ex := exI, gl := [(0, 0)], sm := fun f => match f with
  | 9 => some (smClosed [0] [lookB] (.bl true))
  | 25 => some (smEq A S P V (S ++ X))
  | _ => none }
theorem cfg7m_ok {A : List SVal} {S : St} {V : SVal} {X : St} {P : Prop} (hC : P → ∀ (env : Env) (w : World) (vs : List Value), GlOk cfgM.gl env → Rep env S w → DenL env A vs → Calls cfgM.P 25 ⟨vs⟩ w (Ends1 env S w V (S ++ X))) : SmOk (cfg7m A S V X P) := by
  intro F G h
  simp only [cfg7m] at h
  split at h
  · simp only [Option.some.injEq] at h; subst h
    exact smClosedS_ok cfg0_ok awake_val ⟨rfl, rfl, rfl, rfl, rfl, rfl, rfl, rfl, rfl, rfl, trivial⟩ (by kernel_rfl) rfl rfl (by intro b hb e; rw [List.mem_singleton.1 hb]; rfl)
  · simp only [Option.some.injEq] at h; subst h
    exact smEq_ok (c := cfg7m A S V X P) hC
  · cases h
end Go.Proofs.YtplbncncnjiahaaDoor

namespace Go.Proofs.YtplbncncnjiahaaDoor
open Go Go.Proofs.YtplbncncnjiahaaDoor.Sx
set_option linter.unusedVariables false
set_option maxRecDepth 100000 in
theorem g_a {q : InR} {p s oth n z : Int} {L : List ByteArray} {P : Prop} : (execN (cfg7m [plV q 1 2, .int .u8 p, .int .u8 s] (sM1 q p s) (madeV 5 n L) (madeS 5 n z L q.h) P) 100 2 b7 ([plV q 1 2, .int .u32 oth, .agg [.int .u8 p, .int .u8 s]] ++ List.replicate 95 .bad) (sB q)).bind (canonK 5 [(0,0)] 98 [1, 3, 5, 7, 8, 9, 10]) =
 

 (.eq ([SVal.agg [.int .u32 q.1, .int .u32 q.2, .sli 1 (.c 0) 1 (.v q.3.length) (some (.v q.4)), .sli 2 (.c 0) 1 (.v q.5.length) (some (.v q.6))], .int .u8 p, .int .u8 s] = [SVal.agg [.int .u32 q.1, .int .u32 q.2, .sli 1 (.c 0) 1 (.v q.3.length) (some (.v q.4)), .sli 2 (.c 0) 1 (.v q.5.length) (some (.v q.6))], .int .u8 p, .int .u8 s] ∧ [Blk.ro encLook [PUnit.unit], .ro encStr q.3, .ro (encInt IntKind.u8) q.5, .own [.c (.int .u32 q.1), .c (.int .u32 q.2), .c (.sli 1 (.c 0) 1 (.v q.3.length) (some (.v q.4))), .c (.sli 2 (.c 0) 1 (.v q.5.length) (some (.v q.6)))] 43, .own [.c (.int .u8 p), .c (.int .u8 s)] 64] = [Blk.ro encLook [PUnit.unit], .ro encStr q.3, .ro (encInt IntKind.u8) q.5, .own [.c (.int .u32 q.1), .c (.int .u32 q.2), .c (.sli 1 (.c 0) 1 (.v q.3.length) (some (.v q.4))), .c (.sli 2 (.c 0) 1 (.v q.5.length) (some (.v q.6)))] 43, .own [.c (.int .u8 p), .c (.int .u8 s)] 64] ∧ P)

 (.ret (.normal, [.int .u32 oth, .ptr 3 0, .ptr 4 0, .ptr 5 0, .ptr 7 0, .ptr 10 0, .sli 13 (.c 0) 1 (.v L.length) none], [.ro encLook [PUnit.unit], .ro encStr q.3, .ro (encInt IntKind.u8) q.5, .own [.c (.int .u32 q.1), .c (.int .u32 q.2), .c (.sli 1 (.c 0) 1 (.v q.3.length) (some (.v q.4))), .c (.sli 2 (.c 0) 1 (.v q.5.length) (some (.v q.6)))] 43, .own [.c (.int .u8 p), .c (.int .u8 s)] 64, .own [.c (.sli 6 (.c 0) 1 (.v 80) (some (.v 80))), .c (.int .i64 (2 : Int))] 80, .own [.a (encInt IntKind.u32) 80 (((List.replicate 80 (0 : Int)).set 0 q.1).set 1 q.1)] 40, .own [.c (.int .i64 (0 : Int)), .c (.int .i64 n), .c (.int .i64 z), .c (SVal.fn (Fn.func 30) [.ptr 7 0] []), .c (.int .u32 (0 : Int)), .c (.int .u32 (0 : Int)), .c (.int .i64 (0 : Int)), .c (.sli 8 (.c 0) 1 (.v L.length) none), .c (.sli 9 (.c 0) 1 (.v 0) none)] 76, .vec encStr L 9, .vec encBool [] 4, .own [.c (.int .i64 (0 : Int)), .c (.int .i64 n), .c (.int .i64 z), .c (SVal.fn (Fn.func 31) [.ptr 10 0] []), .c (.int .u32 (0 : Int)), .c (.int .u32 (0 : Int)), .c (.int .i64 (0 : Int)), .c (.int .i64 (40 : Int)), .c (.int .i64 (0 : Int)), .c (.sli 11 (.c 0) 1 (.v 0) none), .c (.sli 12 (.c 0) 1 (.v 0) none)] 78, .vec (encInt IntKind.u8) [] 5, .vec encStr [] 9, .vec encStr L 9]))) := by kernel_rfl
set_option maxRecDepth 100000 in
theorem g_b {q : InR} {p s oth n z : Int} {L : List ByteArray} : (execN cfgM 100 1 (restC 2 b7) (fr 98 [1, 3, 5, 7, 8, 9, 10] [.int .u32 oth, .ptr 3 0, .ptr 4 0, .ptr 6 0, .ptr 7 0, .ptr 10 0, .sli 13 (.c 0) 1 (.v L.length) none]) (sM2 q p s n z q.h L)).bind (canonK 14 [(0,0)] 98 [3, 5, 7, 8, 9, 10]) =
 

 (.ret (.normal, [.ptr 3 0, .ptr 4 0, .ptr 6 0, .ptr 7 0, .ptr 10 0, .sli 13 (.c 0) 1 (.v L.length) none], [.ro encLook [PUnit.unit], .ro encStr q.3, .ro (encInt IntKind.u8) q.5, .own [.c (.int .u32 oth), .c (.int .u32 q.2), .c (.sli 1 (.c 0) 1 (.v q.3.length) (some (.v q.4))), .c (.sli 2 (.c 0) 1 (.v q.5.length) (some (.v q.6)))] 43, .own [.c (.int .u8 p), .c (.int .u8 s)] 64, .own [.a (encInt IntKind.u32) 80 (((List.replicate 80 (0 : Int)).set 0 q.1).set 1 q.1)] 40, .own [.c (.sli 5 (.c 0) 1 (.v 80) (some (.v 80))), .c (.int .i64 (2 : Int))] 80, .own [.c (.int .i64 (0 : Int)), .c (.int .i64 n), .c (.int .i64 z), .c (SVal.fn (Fn.func 30) [.ptr 7 0] []), .c (.int .u32 (0 : Int)), .c (.int .u32 (0 : Int)), .c (.int .i64 (0 : Int)), .c (.sli 8 (.c 0) 1 (.v L.length) none), .c (.sli 9 (.c 0) 1 (.v 0) none)] 76, .vec encStr L 9, .vec encBool [] 4, .own [.c (.int .i64 (0 : Int)), .c (.int .i64 n), .c (.int .i64 z), .c (SVal.fn (Fn.func 31) [.ptr 10 0] []), .c (.int .u32 (0 : Int)), .c (.int .u32 (0 : Int)), .c (.int .i64 (0 : Int)), .c (.int .i64 (40 : Int)), .c (.int .i64 (0 : Int)), .c (.sli 11 (.c 0) 1 (.v 0) none), .c (.sli 12 (.c 0) 1 (.v 0) none)] 78, .vec (encInt IntKind.u8) [] 5, .vec encStr [] 9, .vec encStr L 9])) := by kernel_rfl
set_option maxRecDepth 100000 in
theorem g_c {q : InR} {p s n z h0 : Int} {L : List ByteArray} {P : Prop} : (execN (cfg7m [plV q 1 2, .int .u8 p, .int .u8 s] (sM2 q p s n z h0 L) (madeV 14 n L) (madeS 14 n z L q.h) P) 100 2 (restC 3 b7) (fr 98 [3, 5, 7, 8, 9, 10] [.ptr 3 0, .ptr 4 0, .ptr 6 0, .ptr 7 0, .ptr 10 0, .sli 13 (.c 0) 1 (.v L.length) none]) (sM2 q p s n z h0 L)).bind (canonK 0 [(0,0)] 98 n7) =
 

 (.eq ([SVal.agg [.int .u32 q.1, .int .u32 q.2, .sli 1 (.c 0) 1 (.v q.3.length) (some (.v q.4)), .sli 2 (.c 0) 1 (.v q.5.length) (some (.v q.6))], .int .u8 p, .int .u8 s] = [SVal.agg [.int .u32 q.1, .int .u32 q.2, .sli 1 (.c 0) 1 (.v q.3.length) (some (.v q.4)), .sli 2 (.c 0) 1 (.v q.5.length) (some (.v q.6))], .int .u8 p, .int .u8 s] ∧ [Blk.ro encLook [PUnit.unit], .ro encStr q.3, .ro (encInt IntKind.u8) q.5, .own [.c (.int .u32 q.1), .c (.int .u32 q.2), .c (.sli 1 (.c 0) 1 (.v q.3.length) (some (.v q.4))), .c (.sli 2 (.c 0) 1 (.v q.5.length) (some (.v q.6)))] 43, .own [.c (.int .u8 p), .c (.int .u8 s)] 64, .own [.a (encInt IntKind.u32) 80 (((List.replicate 80 (0 : Int)).set 0 h0).set 1 h0)] 40, .own [.c (.sli 5 (.c 0) 1 (.v 80) (some (.v 80))), .c (.int .i64 (2 : Int))] 80, .own [.c (.int .i64 (0 : Int)), .c (.int .i64 n), .c (.int .i64 z), .c (SVal.fn (Fn.func 30) [.ptr 7 0] []), .c (.int .u32 (0 : Int)), .c (.int .u32 (0 : Int)), .c (.int .i64 (0 : Int)), .c (.sli 8 (.c 0) 1 (.v L.length) none), .c (.sli 9 (.c 0) 1 (.v 0) none)] 76, .vec encStr L 9, .vec encBool [] 4, .own [.c (.int .i64 (0 : Int)), .c (.int .i64 n), .c (.int .i64 z), .c (SVal.fn (Fn.func 31) [.ptr 10 0] []), .c (.int .u32 (0 : Int)), .c (.int .u32 (0 : Int)), .c (.int .i64 (0 : Int)), .c (.int .i64 (40 : Int)), .c (.int .i64 (0 : Int)), .c (.sli 11 (.c 0) 1 (.v 0) none), .c (.sli 12 (.c 0) 1 (.v 0) none)] 78, .vec (encInt IntKind.u8) [] 5, .vec encStr [] 9, .vec encStr L 9] = [Blk.ro encLook [PUnit.unit], .ro encStr q.3, .ro (encInt IntKind.u8) q.5, .own [.c (.int .u32 q.1), .c (.int .u32 q.2), .c (.sli 1 (.c 0) 1 (.v q.3.length) (some (.v q.4))), .c (.sli 2 (.c 0) 1 (.v q.5.length) (some (.v q.6)))] 43, .own [.c (.int .u8 p), .c (.int .u8 s)] 64, .own [.a (encInt IntKind.u32) 80 (((List.replicate 80 (0 : Int)).set 0 h0).set 1 h0)] 40, .own [.c (.sli 5 (.c 0) 1 (.v 80) (some (.v 80))), .c (.int .i64 (2 : Int))] 80, .own [.c (.int .i64 (0 : Int)), .c (.int .i64 n), .c (.int .i64 z), .c (SVal.fn (Fn.func 30) [.ptr 7 0] []), .c (.int .u32 (0 : Int)), .c (.int .u32 (0 : Int)), .c (.int .i64 (0 : Int)), .c (.sli 8 (.c 0) 1 (.v L.length) none), .c (.sli 9 (.c 0) 1 (.v 0) none)] 76, .vec encStr L 9, .vec encBool [] 4, .own [.c (.int .i64 (0 : Int)), .c (.int .i64 n), .c (.int .i64 z), .c (SVal.fn (Fn.func 31) [.ptr 10 0] []), .c (.int .u32 (0 : Int)), .c (.int .u32 (0 : Int)), .c (.int .i64 (0 : Int)), .c (.int .i64 (40 : Int)), .c (.int .i64 (0 : Int)), .c (.sli 11 (.c 0) 1 (.v 0) none), .c (.sli 12 (.c 0) 1 (.v 0) none)] 78, .vec (encInt IntKind.u8) [] 5, .vec encStr [] 9, .vec encStr L 9] ∧ P)

 (.eq (some [Blk.ro encLook [PUnit.unit]] = some [Blk.ro encLook [PUnit.unit]])

 (.ret (.normal, [.ptr 1 0, .ptr 4 0, .ptr 6 0, .ptr 9 0, .ptr 12 0, .ptr 14 0, .ptr 17 0], [.ro encLook [PUnit.unit], .own [.c (.int .u32 q.1), .c (.int .u32 q.2), .c (.sli 2 (.c 0) 1 (.v q.3.length) (some (.v q.4))), .c (.sli 3 (.c 0) 1 (.v q.5.length) (some (.v q.6)))] 43, .ro encStr q.3, .ro (encInt IntKind.u8) q.5, .own [.c (.sli 5 (.c 0) 1 (.v 80) (some (.v 80))), .c (.int .i64 (2 : Int))] 80, .own [.a (encInt IntKind.u32) 80 (((List.replicate 80 (0 : Int)).set 0 h0).set 1 h0)] 40, .own [.c (.int .i64 (0 : Int)), .c (.int .i64 n), .c (.int .i64 z), .c (SVal.fn (Fn.func 30) [.ptr 6 0] []), .c (.int .u32 (0 : Int)), .c (.int .u32 (0 : Int)), .c (.int .i64 (0 : Int)), .c (.sli 7 (.c 0) 1 (.v L.length) none), .c (.sli 8 (.c 0) 1 (.v 0) none)] 76, .vec encStr L 9, .vec encBool [] 4, .own [.c (.int .i64 (0 : Int)), .c (.int .i64 n), .c (.int .i64 z), .c (SVal.fn (Fn.func 31) [.ptr 9 0] []), .c (.int .u32 (0 : Int)), .c (.int .u32 (0 : Int)), .c (.int .i64 (0 : Int)), .c (.int .i64 (40 : Int)), .c (.int .i64 (0 : Int)), .c (.sli 10 (.c 0) 1 (.v 0) none), .c (.sli 11 (.c 0) 1 (.v 0) none)] 78, .vec (encInt IntKind.u8) [] 5, .vec encStr [] 9, .own [.c (.sli 13 (.c 0) 1 (.v 80) (some (.v 80))), .c (.int .i64 (2 : Int))] 80, .own [.a (encInt IntKind.u32) 80 (((List.replicate 80 (0 : Int)).set 0 q.1).set 1 q.1)] 40, .own [.c (.int .i64 (0 : Int)), .c (.int .i64 n), .c (.int .i64 z), .c (SVal.fn (Fn.func 30) [.ptr 14 0] []), .c (.int .u32 (0 : Int)), .c (.int .u32 (0 : Int)), .c (.int .i64 (0 : Int)), .c (.sli 15 (.c 0) 1 (.v L.length) none), .c (.sli 16 (.c 0) 1 (.v 0) none)] 76, .vec encStr L 9, .vec encBool [] 4, .own [.c (.int .i64 (0 : Int)), .c (.int .i64 n), .c (.int .i64 z), .c (SVal.fn (Fn.func 31) [.ptr 17 0] []), .c (.int .u32 (0 : Int)), .c (.int .u32 (0 : Int)), .c (.int .i64 (0 : Int)), .c (.int .i64 (40 : Int)), .c (.int .i64 (0 : Int)), .c (.sli 18 (.c 0) 1 (.v 0) none), .c (.sli 19 (.c 0) 1 (.v 0) none)] 78, .vec (encInt IntKind.u8) [] 5, .vec encStr [] 9])))) := by kernel_rfl
set_option maxRecDepth 100000 in
theorem g_reg {q : InR} {m n : Mc} {L : List ByteArray} : (exec cfgM 100 reg7 (fr 98 n7 v7) (s7 q m n L)).bind (canonK 20 [(0,0)] 98 n7i) =
 

 (.ret (.normal, [.ptr 19 0, .ptr 2 0, .ptr 3 0, .ptr 6 0, .ptr 10 0, .ptr 11 0, .ptr 14 0, .lit .i64 (0 : Int)], [.ro encLook [PUnit.unit], .own [.a (encInt IntKind.u32) 80 m.1] 40, .own [.c (.sli 1 (.c 0) 1 (.v 80) (some (.v 80))), .c (.int .i64 m.2)] 80, .own [.c (.int .i64 m.x.1), .c (.int .i64 m.x.2), .c (.int .i64 m.x.3), .c (SVal.fn (Fn.func m.3) [.ptr 3 0] []), .c (.int .u32 m.x.4), .c (.int .u32 m.x.5), .c (.int .i64 m.x.6), .c (.sli 4 (.c 0) 1 (.v L.length) none), .c (.sli 5 (.c 0) 1 (.v m.x.7.length) none)] 76, .vec encStr L 9, .vec encBool m.x.7 4, .own [.c (.int .i64 m.y.1), .c (.int .i64 m.y.2), .c (.int .i64 m.y.3), .c (SVal.fn (Fn.func m.4) [.ptr 6 0] []), .c (.int .u32 m.y.4), .c (.int .u32 m.y.5), .c (.int .i64 m.y.6), .c (.int .i64 m.y.7), .c (.int .i64 m.y.8), .c (.sli 7 (.c 0) 1 (.v m.y.9.length) none), .c (.sli 8 (.c 0) 1 (.v m.y.10.length) none)] 78, .vec (encInt IntKind.u8) m.y.9 5, .vec encStr m.y.10 9, .own [.a (encInt IntKind.u32) 80 n.1] 40, .own [.c (.sli 9 (.c 0) 1 (.v 80) (some (.v 80))), .c (.int .i64 n.2)] 80, .own [.c (.int .i64 n.x.1), .c (.int .i64 n.x.2), .c (.int .i64 n.x.3), .c (SVal.fn (Fn.func n.3) [.ptr 11 0] []), .c (.int .u32 n.x.4), .c (.int .u32 n.x.5), .c (.int .i64 n.x.6), .c (.sli 12 (.c 0) 1 (.v L.length) none), .c (.sli 13 (.c 0) 1 (.v n.x.7.length) none)] 76, .vec encStr L 9, .vec encBool n.x.7 4, .own [.c (.int .i64 n.y.1), .c (.int .i64 n.y.2), .c (.int .i64 n.y.3), .c (SVal.fn (Fn.func n.4) [.ptr 14 0] []), .c (.int .u32 n.y.4), .c (.int .u32 n.y.5), .c (.int .i64 n.y.6), .c (.int .i64 n.y.7), .c (.int .i64 n.y.8), .c (.sli 15 (.c 0) 1 (.v n.y.9.length) none), .c (.sli 16 (.c 0) 1 (.v n.y.10.length) none)] 78, .vec (encInt IntKind.u8) n.y.9 5, .vec encStr n.y.10 9, .ro encStr q.3, .ro (encInt IntKind.u8) q.5, .own [.c (.int .u32 q.1), .c (.int .u32 q.2), .c (.sli 17 (.c 0) 1 (.v q.3.length) (some (.v q.4))), .c (.sli 18 (.c 0) 1 (.v q.5.length) (some (.v q.6)))] 43])) := by kernel_rfl
set_option maxRecDepth 100000 in
theorem g_tm {q : InR} {m n : Mc} {L : List ByteArray} {i : Nat} : (exec cfgM 100 tm7 (fr 98 n7i (v7 ++ [.int .i64 (i : Nat)])) (s7 q m n L)).bind (canonK 20 [(0,0)] 98 n7i) =
 

 (.br (decide ((↑i : Int) < (↑q.5.length : Int)))

 (.br (decide ((↑i : Int) < (250 : Int)))

 (.ret (.normal, [.ptr 19 0, .ptr 2 0, .ptr 3 0, .ptr 6 0, .ptr 10 0, .ptr 11 0, .ptr 14 0, .int .i64 (↑i : Int)], [.ro encLook [PUnit.unit], .own [.a (encInt IntKind.u32) 80 m.1] 40, .own [.c (.sli 1 (.c 0) 1 (.v 80) (some (.v 80))), .c (.int .i64 m.2)] 80, .own [.c (.int .i64 m.x.1), .c (.int .i64 m.x.2), .c (.int .i64 m.x.3), .c (SVal.fn (Fn.func m.3) [.ptr 3 0] []), .c (.int .u32 m.x.4), .c (.int .u32 m.x.5), .c (.int .i64 m.x.6), .c (.sli 4 (.c 0) 1 (.v L.length) none), .c (.sli 5 (.c 0) 1 (.v m.x.7.length) none)] 76, .vec encStr L 9, .vec encBool m.x.7 4, .own [.c (.int .i64 m.y.1), .c (.int .i64 m.y.2), .c (.int .i64 m.y.3), .c (SVal.fn (Fn.func m.4) [.ptr 6 0] []), .c (.int .u32 m.y.4), .c (.int .u32 m.y.5), .c (.int .i64 m.y.6), .c (.int .i64 m.y.7), .c (.int .i64 m.y.8), .c (.sli 7 (.c 0) 1 (.v m.y.9.length) none), .c (.sli 8 (.c 0) 1 (.v m.y.10.length) none)] 78, .vec (encInt IntKind.u8) m.y.9 5, .vec encStr m.y.10 9, .own [.a (encInt IntKind.u32) 80 n.1] 40, .own [.c (.sli 9 (.c 0) 1 (.v 80) (some (.v 80))), .c (.int .i64 n.2)] 80, .own [.c (.int .i64 n.x.1), .c (.int .i64 n.x.2), .c (.int .i64 n.x.3), .c (SVal.fn (Fn.func n.3) [.ptr 11 0] []), .c (.int .u32 n.x.4), .c (.int .u32 n.x.5), .c (.int .i64 n.x.6), .c (.sli 12 (.c 0) 1 (.v L.length) none), .c (.sli 13 (.c 0) 1 (.v n.x.7.length) none)] 76, .vec encStr L 9, .vec encBool n.x.7 4, .own [.c (.int .i64 n.y.1), .c (.int .i64 n.y.2), .c (.int .i64 n.y.3), .c (SVal.fn (Fn.func n.4) [.ptr 14 0] []), .c (.int .u32 n.y.4), .c (.int .u32 n.y.5), .c (.int .i64 n.y.6), .c (.int .i64 n.y.7), .c (.int .i64 n.y.8), .c (.sli 15 (.c 0) 1 (.v n.y.9.length) none), .c (.sli 16 (.c 0) 1 (.v n.y.10.length) none)] 78, .vec (encInt IntKind.u8) n.y.9 5, .vec encStr n.y.10 9, .ro encStr q.3, .ro (encInt IntKind.u8) q.5, .own [.c (.int .u32 q.1), .c (.int .u32 q.2), .c (.sli 17 (.c 0) 1 (.v q.3.length) (some (.v q.4))), .c (.sli 18 (.c 0) 1 (.v q.5.length) (some (.v q.6)))] 43]))

 (.ret (.exit 0, [.ptr 19 0, .ptr 2 0, .ptr 3 0, .ptr 6 0, .ptr 10 0, .ptr 11 0, .ptr 14 0, .int .i64 (↑i : Int)], [.ro encLook [PUnit.unit], .own [.a (encInt IntKind.u32) 80 m.1] 40, .own [.c (.sli 1 (.c 0) 1 (.v 80) (some (.v 80))), .c (.int .i64 m.2)] 80, .own [.c (.int .i64 m.x.1), .c (.int .i64 m.x.2), .c (.int .i64 m.x.3), .c (SVal.fn (Fn.func m.3) [.ptr 3 0] []), .c (.int .u32 m.x.4), .c (.int .u32 m.x.5), .c (.int .i64 m.x.6), .c (.sli 4 (.c 0) 1 (.v L.length) none), .c (.sli 5 (.c 0) 1 (.v m.x.7.length) none)] 76, .vec encStr L 9, .vec encBool m.x.7 4, .own [.c (.int .i64 m.y.1), .c (.int .i64 m.y.2), .c (.int .i64 m.y.3), .c (SVal.fn (Fn.func m.4) [.ptr 6 0] []), .c (.int .u32 m.y.4), .c (.int .u32 m.y.5), .c (.int .i64 m.y.6), .c (.int .i64 m.y.7), .c (.int .i64 m.y.8), .c (.sli 7 (.c 0) 1 (.v m.y.9.length) none), .c (.sli 8 (.c 0) 1 (.v m.y.10.length) none)] 78, .vec (encInt IntKind.u8) m.y.9 5, .vec encStr m.y.10 9, .own [.a (encInt IntKind.u32) 80 n.1] 40, .own [.c (.sli 9 (.c 0) 1 (.v 80) (some (.v 80))), .c (.int .i64 n.2)] 80, .own [.c (.int .i64 n.x.1), .c (.int .i64 n.x.2), .c (.int .i64 n.x.3), .c (SVal.fn (Fn.func n.3) [.ptr 11 0] []), .c (.int .u32 n.x.4), .c (.int .u32 n.x.5), .c (.int .i64 n.x.6), .c (.sli 12 (.c 0) 1 (.v L.length) none), .c (.sli 13 (.c 0) 1 (.v n.x.7.length) none)] 76, .vec encStr L 9, .vec encBool n.x.7 4, .own [.c (.int .i64 n.y.1), .c (.int .i64 n.y.2), .c (.int .i64 n.y.3), .c (SVal.fn (Fn.func n.4) [.ptr 14 0] []), .c (.int .u32 n.y.4), .c (.int .u32 n.y.5), .c (.int .i64 n.y.6), .c (.int .i64 n.y.7), .c (.int .i64 n.y.8), .c (.sli 15 (.c 0) 1 (.v n.y.9.length) none), .c (.sli 16 (.c 0) 1 (.v n.y.10.length) none)] 78, .vec (encInt IntKind.u8) n.y.9 5, .vec encStr n.y.10 9, .ro encStr q.3, .ro (encInt IntKind.u8) q.5, .own [.c (.int .u32 q.1), .c (.int .u32 q.2), .c (.sli 17 (.c 0) 1 (.v q.3.length) (some (.v q.4))), .c (.sli 18 (.c 0) 1 (.v q.5.length) (some (.v q.6)))] 43])))

 (.ret (.exit 0, [.ptr 19 0, .ptr 2 0, .ptr 3 0, .ptr 6 0, .ptr 10 0, .ptr 11 0, .ptr 14 0, .int .i64 (↑i : Int)], [.ro encLook [PUnit.unit], .own [.a (encInt IntKind.u32) 80 m.1] 40, .own [.c (.sli 1 (.c 0) 1 (.v 80) (some (.v 80))), .c (.int .i64 m.2)] 80, .own [.c (.int .i64 m.x.1), .c (.int .i64 m.x.2), .c (.int .i64 m.x.3), .c (SVal.fn (Fn.func m.3) [.ptr 3 0] []), .c (.int .u32 m.x.4), .c (.int .u32 m.x.5), .c (.int .i64 m.x.6), .c (.sli 4 (.c 0) 1 (.v L.length) none), .c (.sli 5 (.c 0) 1 (.v m.x.7.length) none)] 76, .vec encStr L 9, .vec encBool m.x.7 4, .own [.c (.int .i64 m.y.1), .c (.int .i64 m.y.2), .c (.int .i64 m.y.3), .c (SVal.fn (Fn.func m.4) [.ptr 6 0] []), .c (.int .u32 m.y.4), .c (.int .u32 m.y.5), .c (.int .i64 m.y.6), .c (.int .i64 m.y.7), .c (.int .i64 m.y.8), .c (.sli 7 (.c 0) 1 (.v m.y.9.length) none), .c (.sli 8 (.c 0) 1 (.v m.y.10.length) none)] 78, .vec (encInt IntKind.u8) m.y.9 5, .vec encStr m.y.10 9, .own [.a (encInt IntKind.u32) 80 n.1] 40, .own [.c (.sli 9 (.c 0) 1 (.v 80) (some (.v 80))), .c (.int .i64 n.2)] 80, .own [.c (.int .i64 n.x.1), .c (.int .i64 n.x.2), .c (.int .i64 n.x.3), .c (SVal.fn (Fn.func n.3) [.ptr 11 0] []), .c (.int .u32 n.x.4), .c (.int .u32 n.x.5), .c (.int .i64 n.x.6), .c (.sli 12 (.c 0) 1 (.v L.length) none), .c (.sli 13 (.c 0) 1 (.v n.x.7.length) none)] 76, .vec encStr L 9, .vec encBool n.x.7 4, .own [.c (.int .i64 n.y.1), .c (.int .i64 n.y.2), .c (.int .i64 n.y.3), .c (SVal.fn (Fn.func n.4) [.ptr 14 0] []), .c (.int .u32 n.y.4), .c (.int .u32 n.y.5), .c (.int .i64 n.y.6), .c (.int .i64 n.y.7), .c (.int .i64 n.y.8), .c (.sli 15 (.c 0) 1 (.v n.y.9.length) none), .c (.sli 16 (.c 0) 1 (.v n.y.10.length) none)] 78, .vec (encInt IntKind.u8) n.y.9 5, .vec encStr n.y.10 9, .ro encStr q.3, .ro (encInt IntKind.u8) q.5, .own [.c (.int .u32 q.1), .c (.int .u32 q.2), .c (.sli 17 (.c 0) 1 (.v q.3.length) (some (.v q.4))), .c (.sli 18 (.c 0) 1 (.v q.5.length) (some (.v q.6)))] 43]))) := by kernel_rfl
set_option maxRecDepth 100000 in
theorem g_bb {q : InR} {m n m1 n1 m2 n2 : Mc} {L : List ByteArray} {b1 d1 b2 d2 : Bool} {P1 P2 P3 P4 : Prop} {i : Nat} : (exec (cfg7 q m n m1 n1 m2 n2 L b1 d1 b2 d2 P1 P2 P3 P4) 100 bb7 (fr 98 n7i (v7 ++ [.int .i64 (i : Nat)])) (s7 q m n L)).bind (canonK 0 [(0,0)] 98 n7i) =
 

 (.need (decide ((0 : Int) ≤ (↑i : Int)) && decide ((↑i : Int).toNat < q.5.length))

 (.need (decide ((↑i : Int).toNat < q.5.length))

 (.br (bitop BinOp.and IntKind.u8 (q.5.getD (↑i : Int).toNat (0 : Int)) (1 : Int) == (0 : Int))

 (.eq ([SVal.ptr 3 0, .ptr 2 0] = [SVal.ptr 3 0, .ptr 2 0] ∧ [Blk.ro encLook [PUnit.unit], .own [.a (encInt IntKind.u32) 80 m.1] 40, .own [.c (.sli 1 (.c 0) 1 (.v 80) (some (.v 80))), .c (.int .i64 m.2)] 80, .own [.c (.int .i64 m.x.1), .c (.int .i64 m.x.2), .c (.int .i64 m.x.3), .c (SVal.fn (Fn.func m.3) [.ptr 3 0] []), .c (.int .u32 m.x.4), .c (.int .u32 m.x.5), .c (.int .i64 m.x.6), .c (.sli 4 (.c 0) 1 (.v L.length) none), .c (.sli 5 (.c 0) 1 (.v m.x.7.length) none)] 76, .vec encStr L 9, .vec encBool m.x.7 4, .own [.c (.int .i64 m.y.1), .c (.int .i64 m.y.2), .c (.int .i64 m.y.3), .c (SVal.fn (Fn.func m.4) [.ptr 6 0] []), .c (.int .u32 m.y.4), .c (.int .u32 m.y.5), .c (.int .i64 m.y.6), .c (.int .i64 m.y.7), .c (.int .i64 m.y.8), .c (.sli 7 (.c 0) 1 (.v m.y.9.length) none), .c (.sli 8 (.c 0) 1 (.v m.y.10.length) none)] 78, .vec (encInt IntKind.u8) m.y.9 5, .vec encStr m.y.10 9, .own [.a (encInt IntKind.u32) 80 n.1] 40, .own [.c (.sli 9 (.c 0) 1 (.v 80) (some (.v 80))), .c (.int .i64 n.2)] 80, .own [.c (.int .i64 n.x.1), .c (.int .i64 n.x.2), .c (.int .i64 n.x.3), .c (SVal.fn (Fn.func n.3) [.ptr 11 0] []), .c (.int .u32 n.x.4), .c (.int .u32 n.x.5), .c (.int .i64 n.x.6), .c (.sli 12 (.c 0) 1 (.v L.length) none), .c (.sli 13 (.c 0) 1 (.v n.x.7.length) none)] 76, .vec encStr L 9, .vec encBool n.x.7 4, .own [.c (.int .i64 n.y.1), .c (.int .i64 n.y.2), .c (.int .i64 n.y.3), .c (SVal.fn (Fn.func n.4) [.ptr 14 0] []), .c (.int .u32 n.y.4), .c (.int .u32 n.y.5), .c (.int .i64 n.y.6), .c (.int .i64 n.y.7), .c (.int .i64 n.y.8), .c (.sli 15 (.c 0) 1 (.v n.y.9.length) none), .c (.sli 16 (.c 0) 1 (.v n.y.10.length) none)] 78, .vec (encInt IntKind.u8) n.y.9 5, .vec encStr n.y.10 9, .ro encStr q.3, .ro (encInt IntKind.u8) q.5, .own [.c (.int .u32 q.1), .c (.int .u32 q.2), .c (.sli 17 (.c 0) 1 (.v q.3.length) (some (.v q.4))), .c (.sli 18 (.c 0) 1 (.v q.5.length) (some (.v q.6)))] 43] = [Blk.ro encLook [PUnit.unit], .own [.a (encInt IntKind.u32) 80 m.1] 40, .own [.c (.sli 1 (.c 0) 1 (.v 80) (some (.v 80))), .c (.int .i64 m.2)] 80, .own [.c (.int .i64 m.x.1), .c (.int .i64 m.x.2), .c (.int .i64 m.x.3), .c (SVal.fn (Fn.func m.3) [.ptr 3 0] []), .c (.int .u32 m.x.4), .c (.int .u32 m.x.5), .c (.int .i64 m.x.6), .c (.sli 4 (.c 0) 1 (.v L.length) none), .c (.sli 5 (.c 0) 1 (.v m.x.7.length) none)] 76, .vec encStr L 9, .vec encBool m.x.7 4, .own [.c (.int .i64 m.y.1), .c (.int .i64 m.y.2), .c (.int .i64 m.y.3), .c (SVal.fn (Fn.func m.4) [.ptr 6 0] []), .c (.int .u32 m.y.4), .c (.int .u32 m.y.5), .c (.int .i64 m.y.6), .c (.int .i64 m.y.7), .c (.int .i64 m.y.8), .c (.sli 7 (.c 0) 1 (.v m.y.9.length) none), .c (.sli 8 (.c 0) 1 (.v m.y.10.length) none)] 78, .vec (encInt IntKind.u8) m.y.9 5, .vec encStr m.y.10 9, .own [.a (encInt IntKind.u32) 80 n.1] 40, .own [.c (.sli 9 (.c 0) 1 (.v 80) (some (.v 80))), .c (.int .i64 n.2)] 80, .own [.c (.int .i64 n.x.1), .c (.int .i64 n.x.2), .c (.int .i64 n.x.3), .c (SVal.fn (Fn.func n.3) [.ptr 11 0] []), .c (.int .u32 n.x.4), .c (.int .u32 n.x.5), .c (.int .i64 n.x.6), .c (.sli 12 (.c 0) 1 (.v L.length) none), .c (.sli 13 (.c 0) 1 (.v n.x.7.length) none)] 76, .vec encStr L 9, .vec encBool n.x.7 4, .own [.c (.int .i64 n.y.1), .c (.int .i64 n.y.2), .c (.int .i64 n.y.3), .c (SVal.fn (Fn.func n.4) [.ptr 14 0] []), .c (.int .u32 n.y.4), .c (.int .u32 n.y.5), .c (.int .i64 n.y.6), .c (.int .i64 n.y.7), .c (.int .i64 n.y.8), .c (.sli 15 (.c 0) 1 (.v n.y.9.length) none), .c (.sli 16 (.c 0) 1 (.v n.y.10.length) none)] 78, .vec (encInt IntKind.u8) n.y.9 5, .vec encStr n.y.10 9, .ro encStr q.3, .ro (encInt IntKind.u8) q.5, .own [.c (.int .u32 q.1), .c (.int .u32 q.2), .c (.sli 17 (.c 0) 1 (.v q.3.length) (some (.v q.4))), .c (.sli 18 (.c 0) 1 (.v q.5.length) (some (.v q.6)))] 43] ∧ P1)

 (.eq ([SVal.ptr 11 0, .ptr 10 0] = [SVal.ptr 11 0, .ptr 10 0] ∧ [Blk.ro encLook [PUnit.unit], .own [.a (encInt IntKind.u32) 80 m1.1] 40, .own [.c (.sli 1 (.c 0) 1 (.v 80) (some (.v 80))), .c (.int .i64 m1.2)] 80, .own [.c (.int .i64 m1.x.1), .c (.int .i64 m1.x.2), .c (.int .i64 m1.x.3), .c (SVal.fn (Fn.func m1.3) [.ptr 3 0] []), .c (.int .u32 m1.x.4), .c (.int .u32 m1.x.5), .c (.int .i64 m1.x.6), .c (.sli 4 (.c 0) 1 (.v L.length) none), .c (.sli 20 (.c 0) 1 (.v m1.x.7.length) none)] 76, .vec encStr L 9, .gone, .own [.c (.int .i64 m.y.1), .c (.int .i64 m.y.2), .c (.int .i64 m.y.3), .c (SVal.fn (Fn.func m.4) [.ptr 6 0] []), .c (.int .u32 m.y.4), .c (.int .u32 m.y.5), .c (.int .i64 m.y.6), .c (.int .i64 m.y.7), .c (.int .i64 m.y.8), .c (.sli 7 (.c 0) 1 (.v m.y.9.length) none), .c (.sli 8 (.c 0) 1 (.v m.y.10.length) none)] 78, .vec (encInt IntKind.u8) m.y.9 5, .vec encStr m.y.10 9, .own [.a (encInt IntKind.u32) 80 n.1] 40, .own [.c (.sli 9 (.c 0) 1 (.v 80) (some (.v 80))), .c (.int .i64 n.2)] 80, .own [.c (.int .i64 n.x.1), .c (.int .i64 n.x.2), .c (.int .i64 n.x.3), .c (SVal.fn (Fn.func n.3) [.ptr 11 0] []), .c (.int .u32 n.x.4), .c (.int .u32 n.x.5), .c (.int .i64 n.x.6), .c (.sli 12 (.c 0) 1 (.v L.length) none), .c (.sli 13 (.c 0) 1 (.v n.x.7.length) none)] 76, .vec encStr L 9, .vec encBool n.x.7 4, .own [.c (.int .i64 n.y.1), .c (.int .i64 n.y.2), .c (.int .i64 n.y.3), .c (SVal.fn (Fn.func n.4) [.ptr 14 0] []), .c (.int .u32 n.y.4), .c (.int .u32 n.y.5), .c (.int .i64 n.y.6), .c (.int .i64 n.y.7), .c (.int .i64 n.y.8), .c (.sli 15 (.c 0) 1 (.v n.y.9.length) none), .c (.sli 16 (.c 0) 1 (.v n.y.10.length) none)] 78, .vec (encInt IntKind.u8) n.y.9 5, .vec encStr n.y.10 9, .ro encStr q.3, .ro (encInt IntKind.u8) q.5, .own [.c (.int .u32 q.1), .c (.int .u32 q.2), .c (.sli 17 (.c 0) 1 (.v q.3.length) (some (.v q.4))), .c (.sli 18 (.c 0) 1 (.v q.5.length) (some (.v q.6)))] 43, .vec encBool m1.x.7 4] = [Blk.ro encLook [PUnit.unit], .own [.a (encInt IntKind.u32) 80 m1.1] 40, .own [.c (.sli 1 (.c 0) 1 (.v 80) (some (.v 80))), .c (.int .i64 m1.2)] 80, .own [.c (.int .i64 m1.x.1), .c (.int .i64 m1.x.2), .c (.int .i64 m1.x.3), .c (SVal.fn (Fn.func m1.3) [.ptr 3 0] []), .c (.int .u32 m1.x.4), .c (.int .u32 m1.x.5), .c (.int .i64 m1.x.6), .c (.sli 4 (.c 0) 1 (.v L.length) none), .c (.sli 20 (.c 0) 1 (.v m1.x.7.length) none)] 76, .vec encStr L 9, .gone, .own [.c (.int .i64 m.y.1), .c (.int .i64 m.y.2), .c (.int .i64 m.y.3), .c (SVal.fn (Fn.func m.4) [.ptr 6 0] []), .c (.int .u32 m.y.4), .c (.int .u32 m.y.5), .c (.int .i64 m.y.6), .c (.int .i64 m.y.7), .c (.int .i64 m.y.8), .c (.sli 7 (.c 0) 1 (.v m.y.9.length) none), .c (.sli 8 (.c 0) 1 (.v m.y.10.length) none)] 78, .vec (encInt IntKind.u8) m.y.9 5, .vec encStr m.y.10 9, .own [.a (encInt IntKind.u32) 80 n.1] 40, .own [.c (.sli 9 (.c 0) 1 (.v 80) (some (.v 80))), .c (.int .i64 n.2)] 80, .own [.c (.int .i64 n.x.1), .c (.int .i64 n.x.2), .c (.int .i64 n.x.3), .c (SVal.fn (Fn.func n.3) [.ptr 11 0] []), .c (.int .u32 n.x.4), .c (.int .u32 n.x.5), .c (.int .i64 n.x.6), .c (.sli 12 (.c 0) 1 (.v L.length) none), .c (.sli 13 (.c 0) 1 (.v n.x.7.length) none)] 76, .vec encStr L 9, .vec encBool n.x.7 4, .own [.c (.int .i64 n.y.1), .c (.int .i64 n.y.2), .c (.int .i64 n.y.3), .c (SVal.fn (Fn.func n.4) [.ptr 14 0] []), .c (.int .u32 n.y.4), .c (.int .u32 n.y.5), .c (.int .i64 n.y.6), .c (.int .i64 n.y.7), .c (.int .i64 n.y.8), .c (.sli 15 (.c 0) 1 (.v n.y.9.length) none), .c (.sli 16 (.c 0) 1 (.v n.y.10.length) none)] 78, .vec (encInt IntKind.u8) n.y.9 5, .vec encStr n.y.10 9, .ro encStr q.3, .ro (encInt IntKind.u8) q.5, .own [.c (.int .u32 q.1), .c (.int .u32 q.2), .c (.sli 17 (.c 0) 1 (.v q.3.length) (some (.v q.4))), .c (.sli 18 (.c 0) 1 (.v q.5.length) (some (.v q.6)))] 43, .vec encBool m1.x.7 4] ∧ P2)

 (.br (!b1 == d1)

 (.ret (.ret, [.ptr 1 0, .ptr 4 0, .ptr 6 0, .ptr 9 0, .ptr 12 0, .ptr 14 0, .ptr 17 0, .int .i64 (↑i : Int)], [.ro encLook [PUnit.unit], .own [.c (.int .u32 q.1), .c (.int .u32 q.2), .c (.sli 2 (.c 0) 1 (.v q.3.length) (some (.v q.4))), .c (.sli 3 (.c 0) 1 (.v q.5.length) (some (.v q.6)))] 43, .ro encStr q.3, .ro (encInt IntKind.u8) q.5, .own [.c (.sli 5 (.c 0) 1 (.v 80) (some (.v 80))), .c (.int .i64 m1.2)] 80, .own [.a (encInt IntKind.u32) 80 m1.1] 40, .own [.c (.int .i64 m1.x.1), .c (.int .i64 m1.x.2), .c (.int .i64 m1.x.3), .c (SVal.fn (Fn.func m1.3) [.ptr 6 0] []), .c (.int .u32 m1.x.4), .c (.int .u32 m1.x.5), .c (.int .i64 m1.x.6), .c (.sli 7 (.c 0) 1 (.v L.length) none), .c (.sli 8 (.c 0) 1 (.v m1.x.7.length) none)] 76, .vec encStr L 9, .vec encBool m1.x.7 4, .own [.c (.int .i64 m.y.1), .c (.int .i64 m.y.2), .c (.int .i64 m.y.3), .c (SVal.fn (Fn.func m.4) [.ptr 9 0] []), .c (.int .u32 m.y.4), .c (.int .u32 m.y.5), .c (.int .i64 m.y.6), .c (.int .i64 m.y.7), .c (.int .i64 m.y.8), .c (.sli 10 (.c 0) 1 (.v m.y.9.length) none), .c (.sli 11 (.c 0) 1 (.v m.y.10.length) none)] 78, .vec (encInt IntKind.u8) m.y.9 5, .vec encStr m.y.10 9, .own [.c (.sli 13 (.c 0) 1 (.v 80) (some (.v 80))), .c (.int .i64 n1.2)] 80, .own [.a (encInt IntKind.u32) 80 n1.1] 40, .own [.c (.int .i64 n1.x.1), .c (.int .i64 n1.x.2), .c (.int .i64 n1.x.3), .c (SVal.fn (Fn.func n1.3) [.ptr 14 0] []), .c (.int .u32 n1.x.4), .c (.int .u32 n1.x.5), .c (.int .i64 n1.x.6), .c (.sli 15 (.c 0) 1 (.v L.length) none), .c (.sli 16 (.c 0) 1 (.v n1.x.7.length) none)] 76, .vec encStr L 9, .vec encBool n1.x.7 4, .own [.c (.int .i64 n.y.1), .c (.int .i64 n.y.2), .c (.int .i64 n.y.3), .c (SVal.fn (Fn.func n.4) [.ptr 17 0] []), .c (.int .u32 n.y.4), .c (.int .u32 n.y.5), .c (.int .i64 n.y.6), .c (.int .i64 n.y.7), .c (.int .i64 n.y.8), .c (.sli 18 (.c 0) 1 (.v n.y.9.length) none), .c (.sli 19 (.c 0) 1 (.v n.y.10.length) none)] 78, .vec (encInt IntKind.u8) n.y.9 5, .vec encStr n.y.10 9]))

 (.ret (.normal, [.ptr 1 0, .ptr 4 0, .ptr 6 0, .ptr 9 0, .ptr 12 0, .ptr 14 0, .ptr 17 0, .int .i64 (↑i : Int)], [.ro encLook [PUnit.unit], .own [.c (.int .u32 q.1), .c (.int .u32 q.2), .c (.sli 2 (.c 0) 1 (.v q.3.length) (some (.v q.4))), .c (.sli 3 (.c 0) 1 (.v q.5.length) (some (.v q.6)))] 43, .ro encStr q.3, .ro (encInt IntKind.u8) q.5, .own [.c (.sli 5 (.c 0) 1 (.v 80) (some (.v 80))), .c (.int .i64 m1.2)] 80, .own [.a (encInt IntKind.u32) 80 m1.1] 40, .own [.c (.int .i64 m1.x.1), .c (.int .i64 m1.x.2), .c (.int .i64 m1.x.3), .c (SVal.fn (Fn.func m1.3) [.ptr 6 0] []), .c (.int .u32 m1.x.4), .c (.int .u32 m1.x.5), .c (.int .i64 m1.x.6), .c (.sli 7 (.c 0) 1 (.v L.length) none), .c (.sli 8 (.c 0) 1 (.v m1.x.7.length) none)] 76, .vec encStr L 9, .vec encBool m1.x.7 4, .own [.c (.int .i64 m.y.1), .c (.int .i64 m.y.2), .c (.int .i64 m.y.3), .c (SVal.fn (Fn.func m.4) [.ptr 9 0] []), .c (.int .u32 m.y.4), .c (.int .u32 m.y.5), .c (.int .i64 m.y.6), .c (.int .i64 m.y.7), .c (.int .i64 m.y.8), .c (.sli 10 (.c 0) 1 (.v m.y.9.length) none), .c (.sli 11 (.c 0) 1 (.v m.y.10.length) none)] 78, .vec (encInt IntKind.u8) m.y.9 5, .vec encStr m.y.10 9, .own [.c (.sli 13 (.c 0) 1 (.v 80) (some (.v 80))), .c (.int .i64 n1.2)] 80, .own [.a (encInt IntKind.u32) 80 n1.1] 40, .own [.c (.int .i64 n1.x.1), .c (.int .i64 n1.x.2), .c (.int .i64 n1.x.3), .c (SVal.fn (Fn.func n1.3) [.ptr 14 0] []), .c (.int .u32 n1.x.4), .c (.int .u32 n1.x.5), .c (.int .i64 n1.x.6), .c (.sli 15 (.c 0) 1 (.v L.length) none), .c (.sli 16 (.c 0) 1 (.v n1.x.7.length) none)] 76, .vec encStr L 9, .vec encBool n1.x.7 4, .own [.c (.int .i64 n.y.1), .c (.int .i64 n.y.2), .c (.int .i64 n.y.3), .c (SVal.fn (Fn.func n.4) [.ptr 17 0] []), .c (.int .u32 n.y.4), .c (.int .u32 n.y.5), .c (.int .i64 n.y.6), .c (.int .i64 n.y.7), .c (.int .i64 n.y.8), .c (.sli 18 (.c 0) 1 (.v n.y.9.length) none), .c (.sli 19 (.c 0) 1 (.v n.y.10.length) none)] 78, .vec (encInt IntKind.u8) n.y.9 5, .vec encStr n.y.10 9])))))

 (.eq ([SVal.ptr 6 0, .ptr 2 0] = [SVal.ptr 6 0, .ptr 2 0] ∧ [Blk.ro encLook [PUnit.unit], .own [.a (encInt IntKind.u32) 80 m.1] 40, .own [.c (.sli 1 (.c 0) 1 (.v 80) (some (.v 80))), .c (.int .i64 m.2)] 80, .own [.c (.int .i64 m.x.1), .c (.int .i64 m.x.2), .c (.int .i64 m.x.3), .c (SVal.fn (Fn.func m.3) [.ptr 3 0] []), .c (.int .u32 m.x.4), .c (.int .u32 m.x.5), .c (.int .i64 m.x.6), .c (.sli 4 (.c 0) 1 (.v L.length) none), .c (.sli 5 (.c 0) 1 (.v m.x.7.length) none)] 76, .vec encStr L 9, .vec encBool m.x.7 4, .own [.c (.int .i64 m.y.1), .c (.int .i64 m.y.2), .c (.int .i64 m.y.3), .c (SVal.fn (Fn.func m.4) [.ptr 6 0] []), .c (.int .u32 m.y.4), .c (.int .u32 m.y.5), .c (.int .i64 m.y.6), .c (.int .i64 m.y.7), .c (.int .i64 m.y.8), .c (.sli 7 (.c 0) 1 (.v m.y.9.length) none), .c (.sli 8 (.c 0) 1 (.v m.y.10.length) none)] 78, .vec (encInt IntKind.u8) m.y.9 5, .vec encStr m.y.10 9, .own [.a (encInt IntKind.u32) 80 n.1] 40, .own [.c (.sli 9 (.c 0) 1 (.v 80) (some (.v 80))), .c (.int .i64 n.2)] 80, .own [.c (.int .i64 n.x.1), .c (.int .i64 n.x.2), .c (.int .i64 n.x.3), .c (SVal.fn (Fn.func n.3) [.ptr 11 0] []), .c (.int .u32 n.x.4), .c (.int .u32 n.x.5), .c (.int .i64 n.x.6), .c (.sli 12 (.c 0) 1 (.v L.length) none), .c (.sli 13 (.c 0) 1 (.v n.x.7.length) none)] 76, .vec encStr L 9, .vec encBool n.x.7 4, .own [.c (.int .i64 n.y.1), .c (.int .i64 n.y.2), .c (.int .i64 n.y.3), .c (SVal.fn (Fn.func n.4) [.ptr 14 0] []), .c (.int .u32 n.y.4), .c (.int .u32 n.y.5), .c (.int .i64 n.y.6), .c (.int .i64 n.y.7), .c (.int .i64 n.y.8), .c (.sli 15 (.c 0) 1 (.v n.y.9.length) none), .c (.sli 16 (.c 0) 1 (.v n.y.10.length) none)] 78, .vec (encInt IntKind.u8) n.y.9 5, .vec encStr n.y.10 9, .ro encStr q.3, .ro (encInt IntKind.u8) q.5, .own [.c (.int .u32 q.1), .c (.int .u32 q.2), .c (.sli 17 (.c 0) 1 (.v q.3.length) (some (.v q.4))), .c (.sli 18 (.c 0) 1 (.v q.5.length) (some (.v q.6)))] 43] = [Blk.ro encLook [PUnit.unit], .own [.a (encInt IntKind.u32) 80 m.1] 40, .own [.c (.sli 1 (.c 0) 1 (.v 80) (some (.v 80))), .c (.int .i64 m.2)] 80, .own [.c (.int .i64 m.x.1), .c (.int .i64 m.x.2), .c (.int .i64 m.x.3), .c (SVal.fn (Fn.func m.3) [.ptr 3 0] []), .c (.int .u32 m.x.4), .c (.int .u32 m.x.5), .c (.int .i64 m.x.6), .c (.sli 4 (.c 0) 1 (.v L.length) none), .c (.sli 5 (.c 0) 1 (.v m.x.7.length) none)] 76, .vec encStr L 9, .vec encBool m.x.7 4, .own [.c (.int .i64 m.y.1), .c (.int .i64 m.y.2), .c (.int .i64 m.y.3), .c (SVal.fn (Fn.func m.4) [.ptr 6 0] []), .c (.int .u32 m.y.4), .c (.int .u32 m.y.5), .c (.int .i64 m.y.6), .c (.int .i64 m.y.7), .c (.int .i64 m.y.8), .c (.sli 7 (.c 0) 1 (.v m.y.9.length) none), .c (.sli 8 (.c 0) 1 (.v m.y.10.length) none)] 78, .vec (encInt IntKind.u8) m.y.9 5, .vec encStr m.y.10 9, .own [.a (encInt IntKind.u32) 80 n.1] 40, .own [.c (.sli 9 (.c 0) 1 (.v 80) (some (.v 80))), .c (.int .i64 n.2)] 80, .own [.c (.int .i64 n.x.1), .c (.int .i64 n.x.2), .c (.int .i64 n.x.3), .c (SVal.fn (Fn.func n.3) [.ptr 11 0] []), .c (.int .u32 n.x.4), .c (.int .u32 n.x.5), .c (.int .i64 n.x.6), .c (.sli 12 (.c 0) 1 (.v L.length) none), .c (.sli 13 (.c 0) 1 (.v n.x.7.length) none)] 76, .vec encStr L 9, .vec encBool n.x.7 4, .own [.c (.int .i64 n.y.1), .c (.int .i64 n.y.2), .c (.int .i64 n.y.3), .c (SVal.fn (Fn.func n.4) [.ptr 14 0] []), .c (.int .u32 n.y.4), .c (.int .u32 n.y.5), .c (.int .i64 n.y.6), .c (.int .i64 n.y.7), .c (.int .i64 n.y.8), .c (.sli 15 (.c 0) 1 (.v n.y.9.length) none), .c (.sli 16 (.c 0) 1 (.v n.y.10.length) none)] 78, .vec (encInt IntKind.u8) n.y.9 5, .vec encStr n.y.10 9, .ro encStr q.3, .ro (encInt IntKind.u8) q.5, .own [.c (.int .u32 q.1), .c (.int .u32 q.2), .c (.sli 17 (.c 0) 1 (.v q.3.length) (some (.v q.4))), .c (.sli 18 (.c 0) 1 (.v q.5.length) (some (.v q.6)))] 43] ∧ P3)

 (.eq ([SVal.ptr 14 0, .ptr 10 0] = [SVal.ptr 14 0, .ptr 10 0] ∧ [Blk.ro encLook [PUnit.unit], .own [.a (encInt IntKind.u32) 80 m2.1] 40, .own [.c (.sli 1 (.c 0) 1 (.v 80) (some (.v 80))), .c (.int .i64 m2.2)] 80, .own [.c (.int .i64 m.x.1), .c (.int .i64 m.x.2), .c (.int .i64 m.x.3), .c (SVal.fn (Fn.func m.3) [.ptr 3 0] []), .c (.int .u32 m.x.4), .c (.int .u32 m.x.5), .c (.int .i64 m.x.6), .c (.sli 4 (.c 0) 1 (.v L.length) none), .c (.sli 5 (.c 0) 1 (.v m.x.7.length) none)] 76, .vec encStr L 9, .vec encBool m.x.7 4, .own [.c (.int .i64 m2.y.1), .c (.int .i64 m2.y.2), .c (.int .i64 m2.y.3), .c (SVal.fn (Fn.func m2.4) [.ptr 6 0] []), .c (.int .u32 m2.y.4), .c (.int .u32 m2.y.5), .c (.int .i64 m2.y.6), .c (.int .i64 m2.y.7), .c (.int .i64 m2.y.8), .c (.sli 20 (.c 0) 1 (.v m2.y.9.length) none), .c (.sli 21 (.c 0) 1 (.v m2.y.10.length) none)] 78, .gone, .gone, .own [.a (encInt IntKind.u32) 80 n.1] 40, .own [.c (.sli 9 (.c 0) 1 (.v 80) (some (.v 80))), .c (.int .i64 n.2)] 80, .own [.c (.int .i64 n.x.1), .c (.int .i64 n.x.2), .c (.int .i64 n.x.3), .c (SVal.fn (Fn.func n.3) [.ptr 11 0] []), .c (.int .u32 n.x.4), .c (.int .u32 n.x.5), .c (.int .i64 n.x.6), .c (.sli 12 (.c 0) 1 (.v L.length) none), .c (.sli 13 (.c 0) 1 (.v n.x.7.length) none)] 76, .vec encStr L 9, .vec encBool n.x.7 4, .own [.c (.int .i64 n.y.1), .c (.int .i64 n.y.2), .c (.int .i64 n.y.3), .c (SVal.fn (Fn.func n.4) [.ptr 14 0] []), .c (.int .u32 n.y.4), .c (.int .u32 n.y.5), .c (.int .i64 n.y.6), .c (.int .i64 n.y.7), .c (.int .i64 n.y.8), .c (.sli 15 (.c 0) 1 (.v n.y.9.length) none), .c (.sli 16 (.c 0) 1 (.v n.y.10.length) none)] 78, .vec (encInt IntKind.u8) n.y.9 5, .vec encStr n.y.10 9, .ro encStr q.3, .ro (encInt IntKind.u8) q.5, .own [.c (.int .u32 q.1), .c (.int .u32 q.2), .c (.sli 17 (.c 0) 1 (.v q.3.length) (some (.v q.4))), .c (.sli 18 (.c 0) 1 (.v q.5.length) (some (.v q.6)))] 43, .vec (encInt IntKind.u8) m2.y.9 5, .vec encStr m2.y.10 9] = [Blk.ro encLook [PUnit.unit], .own [.a (encInt IntKind.u32) 80 m2.1] 40, .own [.c (.sli 1 (.c 0) 1 (.v 80) (some (.v 80))), .c (.int .i64 m2.2)] 80, .own [.c (.int .i64 m.x.1), .c (.int .i64 m.x.2), .c (.int .i64 m.x.3), .c (SVal.fn (Fn.func m.3) [.ptr 3 0] []), .c (.int .u32 m.x.4), .c (.int .u32 m.x.5), .c (.int .i64 m.x.6), .c (.sli 4 (.c 0) 1 (.v L.length) none), .c (.sli 5 (.c 0) 1 (.v m.x.7.length) none)] 76, .vec encStr L 9, .vec encBool m.x.7 4, .own [.c (.int .i64 m2.y.1), .c (.int .i64 m2.y.2), .c (.int .i64 m2.y.3), .c (SVal.fn (Fn.func m2.4) [.ptr 6 0] []), .c (.int .u32 m2.y.4), .c (.int .u32 m2.y.5), .c (.int .i64 m2.y.6), .c (.int .i64 m2.y.7), .c (.int .i64 m2.y.8), .c (.sli 20 (.c 0) 1 (.v m2.y.9.length) none), .c (.sli 21 (.c 0) 1 (.v m2.y.10.length) none)] 78, .gone, .gone, .own [.a (encInt IntKind.u32) 80 n.1] 40, .own [.c (.sli 9 (.c 0) 1 (.v 80) (some (.v 80))), .c (.int .i64 n.2)] 80, .own [.c (.int .i64 n.x.1), .c (.int .i64 n.x.2), .c (.int .i64 n.x.3), .c (SVal.fn (Fn.func n.3) [.ptr 11 0] []), .c (.int .u32 n.x.4), .c (.int .u32 n.x.5), .c (.int .i64 n.x.6), .c (.sli 12 (.c 0) 1 (.v L.length) none), .c (.sli 13 (.c 0) 1 (.v n.x.7.length) none)] 76, .vec encStr L 9, .vec encBool n.x.7 4, .own [.c (.int .i64 n.y.1), .c (.int .i64 n.y.2), .c (.int .i64 n.y.3), .c (SVal.fn (Fn.func n.4) [.ptr 14 0] []), .c (.int .u32 n.y.4), .c (.int .u32 n.y.5), .c (.int .i64 n.y.6), .c (.int .i64 n.y.7), .c (.int .i64 n.y.8), .c (.sli 15 (.c 0) 1 (.v n.y.9.length) none), .c (.sli 16 (.c 0) 1 (.v n.y.10.length) none)] 78, .vec (encInt IntKind.u8) n.y.9 5, .vec encStr n.y.10 9, .ro encStr q.3, .ro (encInt IntKind.u8) q.5, .own [.c (.int .u32 q.1), .c (.int .u32 q.2), .c (.sli 17 (.c 0) 1 (.v q.3.length) (some (.v q.4))), .c (.sli 18 (.c 0) 1 (.v q.5.length) (some (.v q.6)))] 43, .vec (encInt IntKind.u8) m2.y.9 5, .vec encStr m2.y.10 9] ∧ P4)

 (.br (!b2 == d2)

 (.ret (.ret, [.ptr 1 0, .ptr 4 0, .ptr 6 0, .ptr 9 0, .ptr 12 0, .ptr 14 0, .ptr 17 0, .int .i64 (↑i : Int)], [.ro encLook [PUnit.unit], .own [.c (.int .u32 q.1), .c (.int .u32 q.2), .c (.sli 2 (.c 0) 1 (.v q.3.length) (some (.v q.4))), .c (.sli 3 (.c 0) 1 (.v q.5.length) (some (.v q.6)))] 43, .ro encStr q.3, .ro (encInt IntKind.u8) q.5, .own [.c (.sli 5 (.c 0) 1 (.v 80) (some (.v 80))), .c (.int .i64 m2.2)] 80, .own [.a (encInt IntKind.u32) 80 m2.1] 40, .own [.c (.int .i64 m.x.1), .c (.int .i64 m.x.2), .c (.int .i64 m.x.3), .c (SVal.fn (Fn.func m.3) [.ptr 6 0] []), .c (.int .u32 m.x.4), .c (.int .u32 m.x.5), .c (.int .i64 m.x.6), .c (.sli 7 (.c 0) 1 (.v L.length) none), .c (.sli 8 (.c 0) 1 (.v m.x.7.length) none)] 76, .vec encStr L 9, .vec encBool m.x.7 4, .own [.c (.int .i64 m2.y.1), .c (.int .i64 m2.y.2), .c (.int .i64 m2.y.3), .c (SVal.fn (Fn.func m2.4) [.ptr 9 0] []), .c (.int .u32 m2.y.4), .c (.int .u32 m2.y.5), .c (.int .i64 m2.y.6), .c (.int .i64 m2.y.7), .c (.int .i64 m2.y.8), .c (.sli 10 (.c 0) 1 (.v m2.y.9.length) none), .c (.sli 11 (.c 0) 1 (.v m2.y.10.length) none)] 78, .vec (encInt IntKind.u8) m2.y.9 5, .vec encStr m2.y.10 9, .own [.c (.sli 13 (.c 0) 1 (.v 80) (some (.v 80))), .c (.int .i64 n2.2)] 80, .own [.a (encInt IntKind.u32) 80 n2.1] 40, .own [.c (.int .i64 n.x.1), .c (.int .i64 n.x.2), .c (.int .i64 n.x.3), .c (SVal.fn (Fn.func n.3) [.ptr 14 0] []), .c (.int .u32 n.x.4), .c (.int .u32 n.x.5), .c (.int .i64 n.x.6), .c (.sli 15 (.c 0) 1 (.v L.length) none), .c (.sli 16 (.c 0) 1 (.v n.x.7.length) none)] 76, .vec encStr L 9, .vec encBool n.x.7 4, .own [.c (.int .i64 n2.y.1), .c (.int .i64 n2.y.2), .c (.int .i64 n2.y.3), .c (SVal.fn (Fn.func n2.4) [.ptr 17 0] []), .c (.int .u32 n2.y.4), .c (.int .u32 n2.y.5), .c (.int .i64 n2.y.6), .c (.int .i64 n2.y.7), .c (.int .i64 n2.y.8), .c (.sli 18 (.c 0) 1 (.v n2.y.9.length) none), .c (.sli 19 (.c 0) 1 (.v n2.y.10.length) none)] 78, .vec (encInt IntKind.u8) n2.y.9 5, .vec encStr n2.y.10 9]))

 (.ret (.normal, [.ptr 1 0, .ptr 4 0, .ptr 6 0, .ptr 9 0, .ptr 12 0, .ptr 14 0, .ptr 17 0, .int .i64 (↑i : Int)], [.ro encLook [PUnit.unit], .own [.c (.int .u32 q.1), .c (.int .u32 q.2), .c (.sli 2 (.c 0) 1 (.v q.3.length) (some (.v q.4))), .c (.sli 3 (.c 0) 1 (.v q.5.length) (some (.v q.6)))] 43, .ro encStr q.3, .ro (encInt IntKind.u8) q.5, .own [.c (.sli 5 (.c 0) 1 (.v 80) (some (.v 80))), .c (.int .i64 m2.2)] 80, .own [.a (encInt IntKind.u32) 80 m2.1] 40, .own [.c (.int .i64 m.x.1), .c (.int .i64 m.x.2), .c (.int .i64 m.x.3), .c (SVal.fn (Fn.func m.3) [.ptr 6 0] []), .c (.int .u32 m.x.4), .c (.int .u32 m.x.5), .c (.int .i64 m.x.6), .c (.sli 7 (.c 0) 1 (.v L.length) none), .c (.sli 8 (.c 0) 1 (.v m.x.7.length) none)] 76, .vec encStr L 9, .vec encBool m.x.7 4, .own [.c (.int .i64 m2.y.1), .c (.int .i64 m2.y.2), .c (.int .i64 m2.y.3), .c (SVal.fn (Fn.func m2.4) [.ptr 9 0] []), .c (.int .u32 m2.y.4), .c (.int .u32 m2.y.5), .c (.int .i64 m2.y.6), .c (.int .i64 m2.y.7), .c (.int .i64 m2.y.8), .c (.sli 10 (.c 0) 1 (.v m2.y.9.length) none), .c (.sli 11 (.c 0) 1 (.v m2.y.10.length) none)] 78, .vec (encInt IntKind.u8) m2.y.9 5, .vec encStr m2.y.10 9, .own [.c (.sli 13 (.c 0) 1 (.v 80) (some (.v 80))), .c (.int .i64 n2.2)] 80, .own [.a (encInt IntKind.u32) 80 n2.1] 40, .own [.c (.int .i64 n.x.1), .c (.int .i64 n.x.2), .c (.int .i64 n.x.3), .c (SVal.fn (Fn.func n.3) [.ptr 14 0] []), .c (.int .u32 n.x.4), .c (.int .u32 n.x.5), .c (.int .i64 n.x.6), .c (.sli 15 (.c 0) 1 (.v L.length) none), .c (.sli 16 (.c 0) 1 (.v n.x.7.length) none)] 76, .vec encStr L 9, .vec encBool n.x.7 4, .own [.c (.int .i64 n2.y.1), .c (.int .i64 n2.y.2), .c (.int .i64 n2.y.3), .c (SVal.fn (Fn.func n2.4) [.ptr 17 0] []), .c (.int .u32 n2.y.4), .c (.int .u32 n2.y.5), .c (.int .i64 n2.y.6), .c (.int .i64 n2.y.7), .c (.int .i64 n2.y.8), .c (.sli 18 (.c 0) 1 (.v n2.y.9.length) none), .c (.sli 19 (.c 0) 1 (.v n2.y.10.length) none)] 78, .vec (encInt IntKind.u8) n2.y.9 5, .vec encStr n2.y.10 9])))))))) := by kernel_rfl
set_option maxRecDepth 100000 in
theorem g_inc {q : InR} {m n : Mc} {L : List ByteArray} {i : Nat} : (exec cfgM 100 inc7 (fr 98 n7i (v7 ++ [.int .i64 (i : Nat)])) (s7 q m n L)).bind (canonK 20 [(0,0)] 98 n7i) =
 

 (.need (inR .i64 ((↑i : Int) + (1 : Int)))

 (.ret (.normal, [.ptr 19 0, .ptr 2 0, .ptr 3 0, .ptr 6 0, .ptr 10 0, .ptr 11 0, .ptr 14 0, .int .i64 ((↑i : Int) + (1 : Int))], [.ro encLook [PUnit.unit], .own [.a (encInt IntKind.u32) 80 m.1] 40, .own [.c (.sli 1 (.c 0) 1 (.v 80) (some (.v 80))), .c (.int .i64 m.2)] 80, .own [.c (.int .i64 m.x.1), .c (.int .i64 m.x.2), .c (.int .i64 m.x.3), .c (SVal.fn (Fn.func m.3) [.ptr 3 0] []), .c (.int .u32 m.x.4), .c (.int .u32 m.x.5), .c (.int .i64 m.x.6), .c (.sli 4 (.c 0) 1 (.v L.length) none), .c (.sli 5 (.c 0) 1 (.v m.x.7.length) none)] 76, .vec encStr L 9, .vec encBool m.x.7 4, .own [.c (.int .i64 m.y.1), .c (.int .i64 m.y.2), .c (.int .i64 m.y.3), .c (SVal.fn (Fn.func m.4) [.ptr 6 0] []), .c (.int .u32 m.y.4), .c (.int .u32 m.y.5), .c (.int .i64 m.y.6), .c (.int .i64 m.y.7), .c (.int .i64 m.y.8), .c (.sli 7 (.c 0) 1 (.v m.y.9.length) none), .c (.sli 8 (.c 0) 1 (.v m.y.10.length) none)] 78, .vec (encInt IntKind.u8) m.y.9 5, .vec encStr m.y.10 9, .own [.a (encInt IntKind.u32) 80 n.1] 40, .own [.c (.sli 9 (.c 0) 1 (.v 80) (some (.v 80))), .c (.int .i64 n.2)] 80, .own [.c (.int .i64 n.x.1), .c (.int .i64 n.x.2), .c (.int .i64 n.x.3), .c (SVal.fn (Fn.func n.3) [.ptr 11 0] []), .c (.int .u32 n.x.4), .c (.int .u32 n.x.5), .c (.int .i64 n.x.6), .c (.sli 12 (.c 0) 1 (.v L.length) none), .c (.sli 13 (.c 0) 1 (.v n.x.7.length) none)] 76, .vec encStr L 9, .vec encBool n.x.7 4, .own [.c (.int .i64 n.y.1), .c (.int .i64 n.y.2), .c (.int .i64 n.y.3), .c (SVal.fn (Fn.func n.4) [.ptr 14 0] []), .c (.int .u32 n.y.4), .c (.int .u32 n.y.5), .c (.int .i64 n.y.6), .c (.int .i64 n.y.7), .c (.int .i64 n.y.8), .c (.sli 15 (.c 0) 1 (.v n.y.9.length) none), .c (.sli 16 (.c 0) 1 (.v n.y.10.length) none)] 78, .vec (encInt IntKind.u8) n.y.9 5, .vec encStr n.y.10 9, .ro encStr q.3, .ro (encInt IntKind.u8) q.5, .own [.c (.int .u32 q.1), .c (.int .u32 q.2), .c (.sli 17 (.c 0) 1 (.v q.3.length) (some (.v q.4))), .c (.sli 18 (.c 0) 1 (.v q.5.length) (some (.v q.6)))] 43]))) := by kernel_rfl
set_option maxRecDepth 100000 in
theorem g_end {q : InR} {m n : Mc} {L : List ByteArray} {P : Prop} : (exec (cfg7e q m n L P) 100 end7 (fr 98 n7 v7) (s7 q m n L)).bind (canonK 20 [(0,0)] 98 [6]) =
 

 (.need (decide ((0 : Int) ≤ (↑m.x.7.length : Int)))

 (.need (decide ((↑m.x.7.length : Int) * (↑1 : Int) ≤ (140737488355328 : Int)))

 (.need (decide ((↑m.x.7.length : Int) ≤ (4611686018427387904 : Int)))

 (.need (decide (0 + m.x.7.length ≤ m.x.7.length))

 (.need (decide ((↑m.x.7.length : Int).toNat = (List.take m.x.7.length (List.drop 0 m.x.7)).length))

 (.need (decide ((↑m.x.7.length : Int).toNat * 1 + 0 = (List.take m.x.7.length (List.drop 0 m.x.7)).length * 1))

 (.need ((List.take m.x.7.length (List.drop 0 m.x.7)).all fun x => (encBool.enc x).all scalar)

 (.need (decide ((0 : Int) ≤ (↑n.x.7.length : Int)))

 (.need (decide ((↑n.x.7.length : Int) * (↑1 : Int) ≤ (140737488355328 : Int)))

 (.need (decide ((↑n.x.7.length : Int) ≤ (4611686018427387904 : Int)))

 (.need (decide (0 + n.x.7.length ≤ n.x.7.length))

 (.need (decide ((↑n.x.7.length : Int).toNat = (List.take n.x.7.length (List.drop 0 n.x.7)).length))

 (.need (decide ((↑n.x.7.length : Int).toNat * 1 + 0 = (List.take n.x.7.length (List.drop 0 n.x.7)).length * 1))

 (.need ((List.take n.x.7.length (List.drop 0 n.x.7)).all fun x => (encBool.enc x).all scalar)

 (.eq ([SVal.sli 20 (.c 0) 1 (.v (↑m.x.7.length : Int).toNat) (some (.v (↑m.x.7.length : Int).toNat)), .sli 21 (.c 0) 1 (.v (↑n.x.7.length : Int).toNat) (some (.v (↑n.x.7.length : Int).toNat))] = [SVal.sli 20 (.c 0) 1 (.v m.x.7.length) (some (.v m.x.7.length)), .sli 21 (.c 0) 1 (.v n.x.7.length) (some (.v n.x.7.length))] ∧ [Blk.ro encLook [PUnit.unit], .own [.a (encInt IntKind.u32) 80 m.1] 40, .own [.c (.sli 1 (.c 0) 1 (.v 80) (some (.v 80))), .c (.int .i64 m.2)] 80, .own [.c (.int .i64 m.x.1), .c (.int .i64 m.x.2), .c (.int .i64 m.x.3), .c (SVal.fn (Fn.func m.3) [.ptr 3 0] []), .c (.int .u32 m.x.4), .c (.int .u32 m.x.5), .c (.int .i64 m.x.6), .c (.sli 4 (.c 0) 1 (.v L.length) none), .c (.sli 5 (.c 0) 1 (.v m.x.7.length) none)] 76, .vec encStr L 9, .vec encBool m.x.7 4, .own [.c (.int .i64 m.y.1), .c (.int .i64 m.y.2), .c (.int .i64 m.y.3), .c (SVal.fn (Fn.func m.4) [.ptr 6 0] []), .c (.int .u32 m.y.4), .c (.int .u32 m.y.5), .c (.int .i64 m.y.6), .c (.int .i64 m.y.7), .c (.int .i64 m.y.8), .c (.sli 7 (.c 0) 1 (.v m.y.9.length) none), .c (.sli 8 (.c 0) 1 (.v m.y.10.length) none)] 78, .vec (encInt IntKind.u8) m.y.9 5, .vec encStr m.y.10 9, .own [.a (encInt IntKind.u32) 80 n.1] 40, .own [.c (.sli 9 (.c 0) 1 (.v 80) (some (.v 80))), .c (.int .i64 n.2)] 80, .own [.c (.int .i64 n.x.1), .c (.int .i64 n.x.2), .c (.int .i64 n.x.3), .c (SVal.fn (Fn.func n.3) [.ptr 11 0] []), .c (.int .u32 n.x.4), .c (.int .u32 n.x.5), .c (.int .i64 n.x.6), .c (.sli 12 (.c 0) 1 (.v L.length) none), .c (.sli 13 (.c 0) 1 (.v n.x.7.length) none)] 76, .vec encStr L 9, .vec encBool n.x.7 4, .own [.c (.int .i64 n.y.1), .c (.int .i64 n.y.2), .c (.int .i64 n.y.3), .c (SVal.fn (Fn.func n.4) [.ptr 14 0] []), .c (.int .u32 n.y.4), .c (.int .u32 n.y.5), .c (.int .i64 n.y.6), .c (.int .i64 n.y.7), .c (.int .i64 n.y.8), .c (.sli 15 (.c 0) 1 (.v n.y.9.length) none), .c (.sli 16 (.c 0) 1 (.v n.y.10.length) none)] 78, .vec (encInt IntKind.u8) n.y.9 5, .vec encStr n.y.10 9, .ro encStr q.3, .ro (encInt IntKind.u8) q.5, .own [.c (.int .u32 q.1), .c (.int .u32 q.2), .c (.sli 17 (.c 0) 1 (.v q.3.length) (some (.v q.4))), .c (.sli 18 (.c 0) 1 (.v q.5.length) (some (.v q.6)))] 43, .own [.a encBool (List.take m.x.7.length (List.drop 0 m.x.7)).length (List.take m.x.7.length (List.drop 0 m.x.7))] 4, .own [.a encBool (List.take n.x.7.length (List.drop 0 n.x.7)).length (List.take n.x.7.length (List.drop 0 n.x.7))] 4] = [Blk.ro encLook [PUnit.unit], .own [.a (encInt IntKind.u32) 80 m.1] 40, .own [.c (.sli 1 (.c 0) 1 (.v 80) (some (.v 80))), .c (.int .i64 m.2)] 80, .own [.c (.int .i64 m.x.1), .c (.int .i64 m.x.2), .c (.int .i64 m.x.3), .c (SVal.fn (Fn.func m.3) [.ptr 3 0] []), .c (.int .u32 m.x.4), .c (.int .u32 m.x.5), .c (.int .i64 m.x.6), .c (.sli 4 (.c 0) 1 (.v L.length) none), .c (.sli 5 (.c 0) 1 (.v m.x.7.length) none)] 76, .vec encStr L 9, .vec encBool m.x.7 4, .own [.c (.int .i64 m.y.1), .c (.int .i64 m.y.2), .c (.int .i64 m.y.3), .c (SVal.fn (Fn.func m.4) [.ptr 6 0] []), .c (.int .u32 m.y.4), .c (.int .u32 m.y.5), .c (.int .i64 m.y.6), .c (.int .i64 m.y.7), .c (.int .i64 m.y.8), .c (.sli 7 (.c 0) 1 (.v m.y.9.length) none), .c (.sli 8 (.c 0) 1 (.v m.y.10.length) none)] 78, .vec (encInt IntKind.u8) m.y.9 5, .vec encStr m.y.10 9, .own [.a (encInt IntKind.u32) 80 n.1] 40, .own [.c (.sli 9 (.c 0) 1 (.v 80) (some (.v 80))), .c (.int .i64 n.2)] 80, .own [.c (.int .i64 n.x.1), .c (.int .i64 n.x.2), .c (.int .i64 n.x.3), .c (SVal.fn (Fn.func n.3) [.ptr 11 0] []), .c (.int .u32 n.x.4), .c (.int .u32 n.x.5), .c (.int .i64 n.x.6), .c (.sli 12 (.c 0) 1 (.v L.length) none), .c (.sli 13 (.c 0) 1 (.v n.x.7.length) none)] 76, .vec encStr L 9, .vec encBool n.x.7 4, .own [.c (.int .i64 n.y.1), .c (.int .i64 n.y.2), .c (.int .i64 n.y.3), .c (SVal.fn (Fn.func n.4) [.ptr 14 0] []), .c (.int .u32 n.y.4), .c (.int .u32 n.y.5), .c (.int .i64 n.y.6), .c (.int .i64 n.y.7), .c (.int .i64 n.y.8), .c (.sli 15 (.c 0) 1 (.v n.y.9.length) none), .c (.sli 16 (.c 0) 1 (.v n.y.10.length) none)] 78, .vec (encInt IntKind.u8) n.y.9 5, .vec encStr n.y.10 9, .ro encStr q.3, .ro (encInt IntKind.u8) q.5, .own [.c (.int .u32 q.1), .c (.int .u32 q.2), .c (.sli 17 (.c 0) 1 (.v q.3.length) (some (.v q.4))), .c (.sli 18 (.c 0) 1 (.v q.5.length) (some (.v q.6)))] 43, .own [.a encBool (List.take m.x.7.length m.x.7).length (List.take m.x.7.length m.x.7)] 4, .own [.a encBool (List.take n.x.7.length n.x.7).length (List.take n.x.7.length n.x.7)] 4] ∧ P)

 (.need (decide (0 + m.y.10.length ≤ m.y.10.length))

 (.need (decide (0 + m.y.10.length ≤ m.y.10.length))

 (.need (roomy (List.take m.y.10.length (List.drop 0 m.y.10)).length 16)

 (.need (decide (0 + n.y.10.length ≤ n.y.10.length))

 (.need (decide (0 + n.y.10.length ≤ n.y.10.length))

 (.need (roomy (List.take n.y.10.length (List.drop 0 n.y.10)).length 16)

 (.eq ([SVal.sli 23 (.c 0) 1 (.v (List.take m.y.10.length (List.drop 0 m.y.10)).length) none, .sli 25 (.c 0) 1 (.v (List.take n.y.10.length (List.drop 0 n.y.10)).length) none] = [SVal.sli 23 (.c 0) 1 (.v (List.take m.y.10.length m.y.10).length) none, .sli 25 (.c 0) 1 (.v (List.take n.y.10.length n.y.10).length) none] ∧ [Blk.ro encLook [PUnit.unit], .own [.a (encInt IntKind.u32) 80 m.1] 40, .own [.c (.sli 1 (.c 0) 1 (.v 80) (some (.v 80))), .c (.int .i64 m.2)] 80, .own [.c (.int .i64 m.x.1), .c (.int .i64 m.x.2), .c (.int .i64 m.x.3), .c (SVal.fn (Fn.func m.3) [.ptr 3 0] []), .c (.int .u32 m.x.4), .c (.int .u32 m.x.5), .c (.int .i64 m.x.6), .c (.sli 4 (.c 0) 1 (.v L.length) none), .c (.sli 5 (.c 0) 1 (.v m.x.7.length) none)] 76, .vec encStr L 9, .vec encBool m.x.7 4, .own [.c (.int .i64 m.y.1), .c (.int .i64 m.y.2), .c (.int .i64 m.y.3), .c (SVal.fn (Fn.func m.4) [.ptr 6 0] []), .c (.int .u32 m.y.4), .c (.int .u32 m.y.5), .c (.int .i64 m.y.6), .c (.int .i64 m.y.7), .c (.int .i64 m.y.8), .c (.sli 7 (.c 0) 1 (.v m.y.9.length) none), .c (.sli 8 (.c 0) 1 (.v m.y.10.length) none)] 78, .vec (encInt IntKind.u8) m.y.9 5, .vec encStr m.y.10 9, .own [.a (encInt IntKind.u32) 80 n.1] 40, .own [.c (.sli 9 (.c 0) 1 (.v 80) (some (.v 80))), .c (.int .i64 n.2)] 80, .own [.c (.int .i64 n.x.1), .c (.int .i64 n.x.2), .c (.int .i64 n.x.3), .c (SVal.fn (Fn.func n.3) [.ptr 11 0] []), .c (.int .u32 n.x.4), .c (.int .u32 n.x.5), .c (.int .i64 n.x.6), .c (.sli 12 (.c 0) 1 (.v L.length) none), .c (.sli 13 (.c 0) 1 (.v n.x.7.length) none)] 76, .vec encStr L 9, .vec encBool n.x.7 4, .own [.c (.int .i64 n.y.1), .c (.int .i64 n.y.2), .c (.int .i64 n.y.3), .c (SVal.fn (Fn.func n.4) [.ptr 14 0] []), .c (.int .u32 n.y.4), .c (.int .u32 n.y.5), .c (.int .i64 n.y.6), .c (.int .i64 n.y.7), .c (.int .i64 n.y.8), .c (.sli 15 (.c 0) 1 (.v n.y.9.length) none), .c (.sli 16 (.c 0) 1 (.v n.y.10.length) none)] 78, .vec (encInt IntKind.u8) n.y.9 5, .vec encStr n.y.10 9, .ro encStr q.3, .ro (encInt IntKind.u8) q.5, .own [.c (.int .u32 q.1), .c (.int .u32 q.2), .c (.sli 17 (.c 0) 1 (.v q.3.length) (some (.v q.4))), .c (.sli 18 (.c 0) 1 (.v q.5.length) (some (.v q.6)))] 43, .own [.a encBool (List.take m.x.7.length m.x.7).length (List.take m.x.7.length m.x.7)] 4, .own [.a encBool (List.take n.x.7.length n.x.7).length (List.take n.x.7.length n.x.7)] 4, .gone, .vec encStr (List.take m.y.10.length (List.drop 0 m.y.10)) 9, .gone, .vec encStr (List.take n.y.10.length (List.drop 0 n.y.10)) 9] = [Blk.ro encLook [PUnit.unit], .own [.a (encInt IntKind.u32) 80 m.1] 40, .own [.c (.sli 1 (.c 0) 1 (.v 80) (some (.v 80))), .c (.int .i64 m.2)] 80, .own [.c (.int .i64 m.x.1), .c (.int .i64 m.x.2), .c (.int .i64 m.x.3), .c (SVal.fn (Fn.func m.3) [.ptr 3 0] []), .c (.int .u32 m.x.4), .c (.int .u32 m.x.5), .c (.int .i64 m.x.6), .c (.sli 4 (.c 0) 1 (.v L.length) none), .c (.sli 5 (.c 0) 1 (.v m.x.7.length) none)] 76, .vec encStr L 9, .vec encBool m.x.7 4, .own [.c (.int .i64 m.y.1), .c (.int .i64 m.y.2), .c (.int .i64 m.y.3), .c (SVal.fn (Fn.func m.4) [.ptr 6 0] []), .c (.int .u32 m.y.4), .c (.int .u32 m.y.5), .c (.int .i64 m.y.6), .c (.int .i64 m.y.7), .c (.int .i64 m.y.8), .c (.sli 7 (.c 0) 1 (.v m.y.9.length) none), .c (.sli 8 (.c 0) 1 (.v m.y.10.length) none)] 78, .vec (encInt IntKind.u8) m.y.9 5, .vec encStr m.y.10 9, .own [.a (encInt IntKind.u32) 80 n.1] 40, .own [.c (.sli 9 (.c 0) 1 (.v 80) (some (.v 80))), .c (.int .i64 n.2)] 80, .own [.c (.int .i64 n.x.1), .c (.int .i64 n.x.2), .c (.int .i64 n.x.3), .c (SVal.fn (Fn.func n.3) [.ptr 11 0] []), .c (.int .u32 n.x.4), .c (.int .u32 n.x.5), .c (.int .i64 n.x.6), .c (.sli 12 (.c 0) 1 (.v L.length) none), .c (.sli 13 (.c 0) 1 (.v n.x.7.length) none)] 76, .vec encStr L 9, .vec encBool n.x.7 4, .own [.c (.int .i64 n.y.1), .c (.int .i64 n.y.2), .c (.int .i64 n.y.3), .c (SVal.fn (Fn.func n.4) [.ptr 14 0] []), .c (.int .u32 n.y.4), .c (.int .u32 n.y.5), .c (.int .i64 n.y.6), .c (.int .i64 n.y.7), .c (.int .i64 n.y.8), .c (.sli 15 (.c 0) 1 (.v n.y.9.length) none), .c (.sli 16 (.c 0) 1 (.v n.y.10.length) none)] 78, .vec (encInt IntKind.u8) n.y.9 5, .vec encStr n.y.10 9, .ro encStr q.3, .ro (encInt IntKind.u8) q.5, .own [.c (.int .u32 q.1), .c (.int .u32 q.2), .c (.sli 17 (.c 0) 1 (.v q.3.length) (some (.v q.4))), .c (.sli 18 (.c 0) 1 (.v q.5.length) (some (.v q.6)))] 43, .own [.a encBool (List.take m.x.7.length m.x.7).length (List.take m.x.7.length m.x.7)] 4, .own [.a encBool (List.take n.x.7.length n.x.7).length (List.take n.x.7.length n.x.7)] 4, .gone, .vec encStr (List.take m.y.10.length m.y.10) 9, .gone, .vec encStr (List.take n.y.10.length n.y.10) 9] ∧ P)

 (.ret (.ret, [.bl true], [.ro encLook [PUnit.unit], .own [.a (encInt IntKind.u32) 80 m.1] 40, .own [.c (.sli 1 (.c 0) 1 (.v 80) (some (.v 80))), .c (.int .i64 m.2)] 80, .own [.c (.int .i64 m.x.1), .c (.int .i64 m.x.2), .c (.int .i64 m.x.3), .c (SVal.fn (Fn.func m.3) [.ptr 3 0] []), .c (.int .u32 m.x.4), .c (.int .u32 m.x.5), .c (.int .i64 m.x.6), .c (.sli 4 (.c 0) 1 (.v L.length) none), .c (.sli 5 (.c 0) 1 (.v m.x.7.length) none)] 76, .vec encStr L 9, .vec encBool m.x.7 4, .own [.c (.int .i64 m.y.1), .c (.int .i64 m.y.2), .c (.int .i64 m.y.3), .c (SVal.fn (Fn.func m.4) [.ptr 6 0] []), .c (.int .u32 m.y.4), .c (.int .u32 m.y.5), .c (.int .i64 m.y.6), .c (.int .i64 m.y.7), .c (.int .i64 m.y.8), .c (.sli 7 (.c 0) 1 (.v m.y.9.length) none), .c (.sli 8 (.c 0) 1 (.v m.y.10.length) none)] 78, .vec (encInt IntKind.u8) m.y.9 5, .vec encStr m.y.10 9, .own [.a (encInt IntKind.u32) 80 n.1] 40, .own [.c (.sli 9 (.c 0) 1 (.v 80) (some (.v 80))), .c (.int .i64 n.2)] 80, .own [.c (.int .i64 n.x.1), .c (.int .i64 n.x.2), .c (.int .i64 n.x.3), .c (SVal.fn (Fn.func n.3) [.ptr 11 0] []), .c (.int .u32 n.x.4), .c (.int .u32 n.x.5), .c (.int .i64 n.x.6), .c (.sli 12 (.c 0) 1 (.v L.length) none), .c (.sli 13 (.c 0) 1 (.v n.x.7.length) none)] 76, .vec encStr L 9, .vec encBool n.x.7 4, .own [.c (.int .i64 n.y.1), .c (.int .i64 n.y.2), .c (.int .i64 n.y.3), .c (SVal.fn (Fn.func n.4) [.ptr 14 0] []), .c (.int .u32 n.y.4), .c (.int .u32 n.y.5), .c (.int .i64 n.y.6), .c (.int .i64 n.y.7), .c (.int .i64 n.y.8), .c (.sli 15 (.c 0) 1 (.v n.y.9.length) none), .c (.sli 16 (.c 0) 1 (.v n.y.10.length) none)] 78, .vec (encInt IntKind.u8) n.y.9 5, .vec encStr n.y.10 9, .ro encStr q.3, .ro (encInt IntKind.u8) q.5, .own [.c (.int .u32 q.1), .c (.int .u32 q.2), .c (.sli 17 (.c 0) 1 (.v q.3.length) (some (.v q.4))), .c (.sli 18 (.c 0) 1 (.v q.5.length) (some (.v q.6)))] 43])))))))))))))))))))))))) := by kernel_rfl
end Go.Proofs.YtplbncncnjiahaaDoor

/- RingSame: its call. -/
namespace Go.Proofs.YtplbncncnjiahaaDoor
open Go Go.Proofs.YtplbncncnjiahaaDoor.Sx
set_option linter.unusedVariables false
abbrev Q7 (w0 : From) : Exit → Act → World → Prop := bodyPost Tryd.prog Tryd.f7 (Said w0)
abbrev id7k : List Nat := [0, 5, 4, 6, 7, 8, 9, 10, 11, 13, 12, 14, 15, 16, 17, 18, 19, 2, 3, 1]
/-- what holds of one ring -/
structure RI (n z : Int) (L : List ByteArray) (i : Nat) (m : Mc) (A : Ab) : Prop where
  rel : Rel 80 0 n z 40 L m.w m.x m.y A
  f : m.f = sfn m.x.p
  g : m.g = rfn m.y.p
  c : 0 ≤ m.c ∧ m.c ≤ 2 + (i : Int)
abbrev mcs (m : Mc) (L : List ByteArray) : Mc := ⟨(sNext m.x L m.w).2, sC m.x L m.c, sfn (sNext m.x L m.w).1.p, m.g, (sNext m.x L m.w).1, m.y⟩
abbrev mcr (m : Mc) : Mc := ⟨(rNext m.y m.w).2, rC m.y m.c, m.f, rfn (rNext m.y m.w).1.p, m.x, (rNext m.y m.w).1⟩
theorem RI.s {n z : Int} {L : List ByteArray} {i : Nat} {m : Mc} {A : Ab} (h : RI n z L i m A) : RI n z L (i + 1) (mcs m L) (aStepS n L A) ∧ sStill (mcs m L).x L = ((aStepS n L A).sent.length == L.length) := by
  obtain ⟨h1, h2⟩ := rel_s h.rel
  refine ⟨⟨h1, rfl, h.g, ?_⟩, h2⟩
  have := h.c
  simp only [mcs, sC]
  split <;> omega
theorem RI.r {n z : Int} {L : List ByteArray} {i : Nat} {m : Mc} {A : Ab} (h : RI n z L i m A) : RI n z L (i + 1) (mcr m) (aStepR 40 A) ∧ rStill (mcr m).y = (((aStepR 40 A).got.length : Int) == 40) := by
  obtain ⟨h1, h2⟩ := rel_r h.rel
  refine ⟨⟨h1, h.f, rfl, ?_⟩, h2⟩
  have := h.c
  simp only [mcr, rC]
  split <;> omega
theorem RI.sc {n z : Int} {L : List ByteArray} {i : Nat} {m : Mc} {A : Ab} (h : RI n z L i m A) (hi : i ≤ 1000) : sC7 m L (mcs m L) := ⟨h.f, rel_sok h.rel (by have := h.c; omega), rfl⟩
theorem RI.rc {n z : Int} {L : List ByteArray} {i : Nat} {m : Mc} {A : Ab} (h : RI n z L i m A) (hi : i ≤ 1000) : rC7 m (mcr m) := ⟨h.g, rel_rok h.rel (by have := h.c; omega), rfl⟩
theorem RI.both {n z : Int} {L : List ByteArray} {i : Nat} {m k : Mc} {A : Ab} (h : RI n z L i m A) (h' : RI n z L i k A) : m.x.sent = k.x.sent ∧ m.y.got = k.y.got ∧ m.x.sent.length ≤ 1000 ∧ m.y.got.length ≤ 1000 := by
  have e1 := h.rel.s.sent
  have e2 := h.rel.r.got
  have l1 := h.rel.s.le
  have l2 := h.rel.s.ml
  have l3 := h.rel.r.le
  exact ⟨e1.trans h'.rel.s.sent.symm, e2.trans h'.rel.r.got.symm, by rw [e1]; omega, by rw [e2]; omega⟩
def InvS (w0 : From) (q : InR) (n z : Int) (L : List ByteArray) (i : Nat) (a : Act) (W : World) : Prop :=
  i ≤ 250 ∧ ∃ m k A, RI n z L i m A ∧ RI n z L i k A ∧ ∃ env, At [(0, 0)] w0 env (fr 98 n7i (v7 ++ [SVal.int .i64 ((i : Nat) : Int)])) (s7 q m k L) a W
abbrev RS (w0 : From) (q : InR) (n z : Int) (L : List ByteArray) (i : Nat) : Exit → Act → World → Prop :=
  Exit.then (fun a' w' => ∃ k, InvS w0 q n z L k a' w' ∧ 250 - k < 250 - i) (Exit.inBlock 0 (Exit.then (end7.wp Tryd.prog (Q7 w0)) (Q7 w0)))
theorem copy_needs7 {l : List Bool} {Q : (Ex × List SVal × St) → Prop} {t : T (Ex × List SVal × St)} (h1 : l.length ≤ 1000) (h : All Q t) :
    All Q (.need (decide ((0 : Int) ≤ (↑l.length : Int))) (.need (decide ((↑l.length : Int) * ((1 : Nat) : Int) ≤ (140737488355328 : Int))) (.need (decide ((↑l.length : Int) ≤ (4611686018427387904 : Int))) (.need (decide (0 + l.length ≤ l.length)) (.need (decide ((↑l.length : Int).toNat = (List.take l.length (List.drop 0 l)).length)) (.need (decide ((↑l.length : Int).toNat * 1 + 0 = (List.take l.length (List.drop 0 l)).length * 1)) (.need ((List.take l.length (List.drop 0 l)).all fun x => (encBool.enc x).all scalar) t))))))) := by
  have e1 : (List.take l.length (List.drop 0 l)).length = l.length := by simp
  rw [e1]
  refine all_needq (by simp only [decide_eq_true_eq]; exact Iff.rfl) (by omega) ?_
  refine all_needq (by simp only [decide_eq_true_eq]; exact Iff.rfl) (by omega) ?_
  refine all_needq (by simp only [decide_eq_true_eq]; exact Iff.rfl) (by omega) ?_
  refine all_needq (by simp only [decide_eq_true_eq]; exact Iff.rfl) (by omega) ?_
  refine all_needq (by simp only [decide_eq_true_eq]; exact Iff.rfl) (by omega) ?_
  refine all_needq (by simp only [decide_eq_true_eq]; exact Iff.rfl) (by omega) ?_
  exact all_need (List.all_eq_true.2 fun b _ => rfl) fun _ => h
theorem got_needs7 {l : List ByteArray} {Q : (Ex × List SVal × St) → Prop} {t : T (Ex × List SVal × St)} (h1 : l.length ≤ 1000) (h : All Q t) :
    All Q (.need (decide (0 + l.length ≤ l.length)) (.need (decide (0 + l.length ≤ l.length)) (.need (roomy (List.take l.length (List.drop 0 l)).length 16) t))) := by
  have e1 : (List.take l.length (List.drop 0 l)).length = l.length := by simp
  rw [e1]
  refine all_needq (by simp only [decide_eq_true_eq]; exact Iff.rfl) (by omega) ?_
  refine all_needq (by simp only [decide_eq_true_eq]; exact Iff.rfl) (by omega) ?_
  exact all_needq (by simp only [roomy_iff]; exact Iff.rfl) (by omega) h
set_option maxHeartbeats 2000000 in
theorem end7_ok {w0 : From} {q : InR} {n z : Int} {L : List ByteArray} {i : Nat} {m k : Mc} {A : Ab} (h : RI n z L i m A) (h' : RI n z L i k A) {env : Env} {a : Act} {W : World} (hA : At [(0, 0)] w0 env (fr 98 n7 v7) (s7 q m k L) a W) : end7.wp Tryd.prog (Q7 w0) a W := by
  obtain ⟨e1, e2, l1, l2⟩ := h.both h'
  have l3 : k.x.sent.length ≤ 1000 := by rw [← e1]; exact l1
  have l4 : k.y.got.length ≤ 1000 := by rw [← e2]; exact l2
  refine pieceT0 (c := cfg7e q m k L True) (cfg7e_ok fun _ => ⟨e1, e2, l1, l2⟩) [6] g_end hA ?_
  refine copy_needs7 l1 (copy_needs7 l3 (all_eq ⟨rfl, rfl, trivial⟩ (got_needs7 l2 (got_needs7 l4 (all_eq ⟨rfl, rfl, trivial⟩ ?_)))))
  exact all_ret fun _ _ _ h => h.said (by kernel_rfl)
set_option maxHeartbeats 2000000 in
theorem round7_ok {w0 : From} {q : InR} {n z : Int} {L : List ByteArray} {i : Nat} {a : Act} {W : World} (hI : InvS w0 q n z L i a W) : round7.wp Tryd.prog (RS w0 q n z L i) a W := by
  obtain ⟨hi, m, k, A, h, h', env, hA⟩ := hI
  refine wpS (by kernel_rfl) ?_
  refine pieceT0 (c := cfgM) cfgM_ok n7i g_tm hA ?_
  have out : ∀ {env : Env} {a : Act} {W : World}, At [(0, 0)] w0 env (fr 98 n7i (v7 ++ [SVal.int .i64 ((i : Nat) : Int)])) (s7 q m k L) a W → RS w0 q n z L i (.exit 0) a W := by
    intro env a W hA
    simp only [RS, Exit.then, Exit.inBlock, if_true]
    exact end7_ok h h' (At.few (names := n7) (extra := [17]) (vals := v7) (ev := [.int .i64 (i : Nat)]) hA rfl)
  refine all_brp (by simp only [decide_eq_true_eq]; exact Iff.rfl) (fun h1 => ?_) (fun h1 => all_ret fun _ _ _ h => out h)
  refine all_brp (by simp only [decide_eq_true_eq]; exact Iff.rfl) (fun h2 => all_ret fun env1 a1 w1 hA1 => ?_) (fun h2 => all_ret fun _ _ _ h => out h)
  simp only [Ex.to, Exit.then]
  refine (show (rgt round7).wp _ _ _ _ from wpS (by kernel_rfl) (wpB 1 (by kernel_rfl) ?_))
  refine (show bb7.wp _ _ _ _ from ?_)
  have fin : ∀ {m k : Mc} {A : Ab}, RI n z L (i + 1) m A → RI n z L (i + 1) k A → ∀ {env : Env} {a : Act} {W : World}, At [(0, 0)] w0 env (fr 98 n7i (v7 ++ [SVal.int .i64 ((i : Nat) : Int)])) (s7 q m k L) a W →
      Exit.inBlock 1 (Exit.then (inc7.wp Tryd.prog (RS w0 q n z L i)) (RS w0 q n z L i)) .normal a W := by
    intro m k A h h' env a W hA
    simp only [Exit.inBlock, Exit.then]
    refine pieceT0 (c := cfgM) cfgM_ok n7i g_inc hA ?_
    refine all_needp (by simp only [inR_i64]; exact Iff.rfl) (by omega) fun _ => all_ret fun env4 a4 w4 hA4 => ?_
    exact ⟨i + 1, ⟨by omega, m, k, A, h, h', env4, hA4⟩, by omega⟩
  refine pieceT0 (c := cfg7 q m k (mcs m L) (mcs k L) (mcr m) (mcr k) L (sStill (mcs m L).x L) (sStill (mcs k L).x L) (rStill (mcr m).y) (rStill (mcr k).y) True True True True)
    (cfg7_ok (fun _ => ⟨h.sc (by omega), rfl⟩) (fun _ => ⟨h'.sc (by omega), rfl⟩) (fun _ => ⟨h.rc (by omega), rfl⟩) (fun _ => ⟨h'.rc (by omega), rfl⟩)) n7i g_bb hA1 ?_
  obtain ⟨s1, s2⟩ := h.s
  obtain ⟨s3, s4⟩ := h'.s
  obtain ⟨r1, r2⟩ := h.r
  obtain ⟨r3, r4⟩ := h'.r
  have hg1 : (mcs m L).g = m.g := rfl
  have hg2 : (mcs m L).y = m.y := rfl
  have hg3 : (mcs k L).g = k.g := rfl
  have hg4 : (mcs k L).y = k.y := rfl
  have hg5 : (mcr m).f = m.f := rfl
  have hg6 : (mcr m).x = m.x := rfl
  have hg7 : (mcr k).f = k.f := rfl
  have hg8 : (mcr k).x = k.x := rfl
  generalize mcs m L = m1 at *
  generalize mcs k L = k1 at *
  generalize mcr m = m2 at *
  generalize mcr k = k2 at *
  simp only [Int.toNat_natCast]
  refine all_needq (by simp only [decide_eq_true_eq, Bool.and_eq_true]; exact Iff.rfl) (by omega) ?_
  refine all_needq (by simp only [decide_eq_true_eq]; exact Iff.rfl) (by omega) ?_
  refine all_br (fun _ => ?_) (fun _ => ?_)
  · refine all_eq ⟨by first | exact True.intro | rfl, by first | exact True.intro | rfl, trivial⟩ (all_eq ⟨by first | exact True.intro | rfl, by first | exact True.intro | rfl, trivial⟩ ?_)
    refine all_br (fun hb => ?_) (fun _ => all_ret fun env2 a2 w2 hA2 => ?_)
    · rw [s2, s4] at hb; simp at hb
    · have hA3 := hA2.perm id7k (by kernel_rfl) (by kernel_rfl) (st' := s7 q ⟨m1.w, m1.c, m1.f, m.g, m1.x, m.y⟩ ⟨k1.w, k1.c, k1.f, k.g, k1.x, k.y⟩ L) (vals' := v7 ++ [SVal.int .i64 ((i : Nat) : Int)]) (by kernel_rfl) (by kernel_rfl)
      rw [← hg1, ← hg2, ← hg3, ← hg4] at hA3
      exact fin s1 s3 hA3
  · refine all_eq ⟨by first | exact True.intro | rfl, by first | exact True.intro | rfl, trivial⟩ (all_eq ⟨by first | exact True.intro | rfl, by first | exact True.intro | rfl, trivial⟩ ?_)
    refine all_br (fun hb => ?_) (fun _ => all_ret fun env2 a2 w2 hA2 => ?_)
    · rw [r2, r4] at hb; simp at hb
    · have hA3 := hA2.perm id7k (by kernel_rfl) (by kernel_rfl) (st' := s7 q ⟨m2.w, m2.c, m.f, m2.g, m.x, m2.y⟩ ⟨k2.w, k2.c, k.f, k2.g, k.x, k2.y⟩ L) (vals' := v7 ++ [SVal.int .i64 ((i : Nat) : Int)]) (by kernel_rfl) (by kernel_rfl)
      rw [← hg5, ← hg6, ← hg7, ← hg8] at hA3
      exact fin r1 r3 hA3
theorem b7_eq : Tryd.f7.body = some b7 := by kernel_rfl
set_option maxHeartbeats 2000000 in
theorem ringSame_call {q : InR} {p s oth : Int} (hh : 0 ≤ q.h ∧ q.h < 4294967296) (ho : 0 ≤ oth ∧ oth < 4294967296) (hs : 0 ≤ s ∧ s ≤ 255) {e0 e1 e2 : Slot} (he : e0.blk = 0 ∧ e0.off = 0) {w : World} {v0 v1 v2 : Value} (hr : Rep [e0, e1, e2] (sB q) w) (h0 : Den [e0, e1, e2] (plV q 1 2) v0) (h1 : Den [e0, e1, e2] (.int .u32 oth) v1) (h2 : Den [e0, e1, e2] (.agg [.int .u8 p, .int .u8 s]) v2) :
    Calls Tryd.prog 7 ⟨[v0, v1, v2]⟩ w (Said ⟨w, fun _ => False⟩) := by
  refine call_begin (c := cfgM) Tryd.func7 b7_eq (args := [plV q 1 2, .int .u32 oth, .agg [.int .u8 p, .int .u8 s]]) (by
    intro p hp
    rw [List.mem_singleton.1 hp]
    exact ⟨e0, rfl, he⟩) hr ⟨_, _, rfl, h0, _, _, rfl, h1, _, _, rfl, h2, rfl⟩ (F := fun _ => False) (fun x h => noFootR x h) ?_
  intro a hA
  have hz := zR_ok hs
  have hn := nR_ok p
  have hfit : ∀ x ∈ lAll q (zR s), fitB (zR s) x := cutL_fit hz.1 q.ms (min q.ms.length 20)
  have hlen : (lAll q (zR s)).length = min q.ms.length 20 := cutL_len (zR s) q.ms (min q.ms.length 20)
  obtain ⟨q', hq'⟩ : ∃ q' : InR, q' = ⟨oth, q.t, q.ms, q.c1, q.ps, q.c2⟩ := ⟨_, rfl⟩
  have k1 := both7a (q := q) (p := p) (s := s) hh hs
  have k2 := both7b (q := q') (p := p) (s := s) (h0 := q.h) (by rw [hq']; exact ho) hs
  have hl : lAll q' (zR s) = lAll q (zR s) := by rw [hq']
  have hh' : q'.h = oth := by rw [hq']
  rw [hl] at k2
  generalize nR p = n at *
  generalize zR s = z at *
  generalize lAll q z = L at *
  refine pieceNT0 (c := cfg7m [plV q 1 2, .int .u8 p, .int .u8 s] (sM1 q p s) (madeV 5 n L) (madeS 5 n z L q.h) True) (cfg7m_ok fun _ => k1) 2 [1, 3, 5, 7, 8, 9, 10] g_a hA ?_
  refine all_eq ⟨rfl, rfl, trivial⟩ (all_ret fun env1 a1 w1 hA1 => ?_)
  simp only [Ex.to, Exit.then]
  have hA2 := hA1.perm [0, 1, 2, 3, 4, 6, 5, 7, 8, 9, 10, 11, 12, 13] (by kernel_rfl) (by kernel_rfl) (st' := sM2 q p s n z q.h L) (vals' := [.int .u32 oth, .ptr 3 0, .ptr 4 0, .ptr 6 0, .ptr 7 0, .ptr 10 0, .sli 13 (.c 0) 1 (.v L.length) none]) (by kernel_rfl) (by kernel_rfl)
  refine (show (restC 2 b7).wp Tryd.prog (Q7 ⟨w, fun _ => False⟩) a1 w1 from ?_)
  refine pieceNT0 (c := cfgM) cfgM_ok 1 [3, 5, 7, 8, 9, 10] (g_b (z := z)) hA2 (all_ret fun env3 a3 w3 hA3 => ?_)
  simp only [Ex.to, Exit.then]
  have hA4 : At [(0, 0)] ⟨w, fun _ => False⟩ env3 (fr 98 [3, 5, 7, 8, 9, 10] [.ptr 3 0, .ptr 4 0, .ptr 6 0, .ptr 7 0, .ptr 10 0, .sli 13 (.c 0) 1 (.v L.length) none]) (sM2 q' p s n z q.h L) a3 w3 := by rw [hq']; exact hA3
  refine (show (restC 3 b7).wp Tryd.prog (Q7 ⟨w, fun _ => False⟩) a3 w3 from ?_)
  refine pieceNT0 (c := cfg7m [plV q' 1 2, .int .u8 p, .int .u8 s] (sM2 q' p s n z q.h L) (madeV 14 n L) (madeS 14 n z L q'.h) True) (cfg7m_ok fun _ => k2) 2 n7 g_c hA4 ?_
  refine all_eq ⟨rfl, rfl, trivial⟩ (all_eq rfl (all_ret fun env5 a5 w5 hA5 => ?_))
  simp only [Ex.to, Exit.then]
  have hA6 := hA5.perm id7k (by kernel_rfl) (by kernel_rfl) (st' := s7 q' ⟨w80 q.h, 2, 30, 31, snd0 n z, rcv0 n z⟩ ⟨w80 q'.h, 2, 30, 31, snd0 n z, rcv0 n z⟩ L) (vals' := v7) (by kernel_rfl) (by kernel_rfl)
  refine (show c7.wp Tryd.prog (Q7 ⟨w, fun _ => False⟩) a5 w5 from wpS (by kernel_rfl) (wpS (by kernel_rfl) ?_))
  refine pieceT0 (c := cfgM) cfgM_ok n7i g_reg hA6 (all_ret fun env7 a7 w7 hA7 => ?_)
  simp only [Ex.to, Exit.then]
  have hA8 := hA7.gvals (v7 ++ [SVal.int .i64 ((0 : Nat) : Int)]) rfl
  refine wpB 0 (by kernel_rfl) (wpL (by kernel_rfl) (InvS ⟨w, fun _ => False⟩ q' n z L) (fun i => 250 - i) 0 ⟨Nat.zero_le _, _, _, ab0, ⟨rel_start hn hz hh (by omega) hfit, rfl, rfl, by simp⟩, ⟨rel_start hn hz (by rw [hh']; exact ho) (by omega) hfit, rfl, rfl, by simp⟩, env7, hA8⟩ ?_)
  intro i a w h
  exact round7_ok h
end Go.Proofs.YtplbncncnjiahaaDoor

/- RingSame: its row and its card. -/
namespace Go.Proofs.YtplbncncnjiahaaDoor
open Go Go.Proofs.YtplbncncnjiahaaDoor.Sx Go.ChangeShapes Go.WideShapes Go.ChangeAt Go.RowKit
set_option linter.unusedVariables false
theorem open_u32S {H : Type} {enc : TypeId × Value → H} {W W0 : World} {r : Reach} {b0 base : Nat} {spare : Nat → Bool} {held : Bool} {v : Value} {d : DataW H} {ps : List MemPlace} (hval : Value.okWide Tryd.prog W0 r b0 40 v) (hd : DataW.Trod enc Tryd.prog W base spare held 40 v d ps) :
    ∃ a, v = .int .u32 a ∧ (0 ≤ a ∧ a < 4294967296) := by
  obtain ⟨m, rfl⟩ := okWide_int Tryd.underlying40 hval
  obtain ⟨fuel, hf⟩ := hd
  obtain ⟨a, h0, _, hw⟩ := DataW.trod_int Tryd.underlying40 hf
  simp [Value.cells] at h0
  subst h0
  exact ⟨_, rfl, wf_u32R hw⟩
theorem open_twoS {H : Type} {enc : TypeId × Value → H} {W W0 : World} {r : Reach} {b0 base : Nat} {spare : Nat → Bool} {held : Bool} {v : Value} {d : DataW H} {ps : List MemPlace} (hval : Value.okWide Tryd.prog W0 r b0 64 v) (hd : DataW.Trod enc Tryd.prog W base spare held 64 v d ps) :
    ∃ a b, v = .agg #[.int .u8 a, .int .u8 b] ∧ (0 ≤ a ∧ a ≤ 255) ∧ (0 ≤ b ∧ b ≤ 255) := by
  have hv : ∃ cs, v = .agg cs := by
    simp only [Value.okWide, Tryd.underlying64] at hval
    obtain ⟨cs, e, _⟩ := hval
    exact ⟨cs, e⟩
  obtain ⟨cs, rfl⟩ := hv
  obtain ⟨fuel, hf⟩ := hd
  obtain ⟨xs, m, _, _, hlen, hxl, hel⟩ := DataW.trod_array Tryd.underlying64 hf
  have k24 : Tryd.prog.cellsOf 64 = 2 := by kernel_rfl
  have k23 : Tryd.prog.cellsOf 5 = 1 := by kernel_rfl
  rw [k24] at hlen
  rw [k23] at hel
  obtain ⟨l⟩ := cs
  simp only [Value.cells] at hlen hel
  match l, hlen with
  | [c0, c1], _ =>
    match xs, hxl with
    | [y0, y1], _ =>
      have f0 : DataW.trod _ Tryd.prog W base spare held m 5 [c0] = some y0 := hel 0 (by omega)
      have f1 : DataW.trod _ Tryd.prog W base spare held m 5 [c1] = some y1 := hel 1 (by omega)
      obtain ⟨a0, h0, e0, w0⟩ := DataW.trod_int Tryd.underlying5 f0
      obtain ⟨a1, h1, e1, w1⟩ := DataW.trod_int Tryd.underlying5 f1
      simp at h0 h1
      subst h0 h1
      exact ⟨a0, a1, rfl, wf_u8R w0, wf_u8R w1⟩
set_option maxRecDepth 100000 in
theorem ringSame_lifted (os : Os) (started : os.Started) (H : Type) (enc : TypeId × Value → H) :
    ReturnsInHanded {} Tryd.checked os 7 .any (fun w args => (Rows.ringSameSpec.pre enc Tryd.prog Tryd.f7 [] false w args ∧ laidMetH Tryd.prog laid1 w) ∧ sizedMet enc Tryd.prog Tryd.f7 (OpenSpec.ofChange Rows.ringSameSpec) false w args)
      (Rows.ringSameSpec.post enc Tryd.prog Tryd.f7 false true false false) := by
  refine returnsInHanded_of_change_and (C := Tryd.checked) (X := fun w _ => laidMetH Tryd.prog laid1 w) (fun _ _ _ hh h => h.of_heap hh) Tryd.own started (by kernel_rfl) Tryd.func7
    (ChangeSpec.witness_shaped (enc := enc) (C := Tryd.checked) (os := os) (X := fun w _ => laidMetH Tryd.prog laid1 w) false (World.doorLaid Tryd.prog 400 os) #[.agg #[.int .u32 0, .int .u32 0, .slice none 0 0, .slice none 0 0], .int .u32 0, .agg #[.int .u8 0, .int .u8 0]] 8 rfl (World.shaped_of_RefB (by kernel_rfl) (by kernel_rfl)) (by kernel_rfl) (by kernel_rfl) (by kernel_rfl) (door_met os _)) ?_
  intro W base args ds gs before hval0 hW _ _ hL _
  have hval : ∀ (j : Nat) t v, Tryd.f7.params[j]? = some t → args[j]? = some v → Value.okWide Tryd.prog W .any base t v := hval0
  have hW' := hW
  obtain ⟨p, q, hA0, hV, rfl, hfz, hnd⟩ := hW
  have hA : DataW.TrodAll enc Tryd.prog W 0 (fun _ => true) true Tryd.f7.params.toList args.toList ds p := hA0
  rw [Tryd.params7] at hA hval
  obtain ⟨v0, v1, v2, d0, d1, d2, p0, p1, p2, rfl, rfl, rfl, h0, h1, h2⟩ := trodAll_three hA
  obtain ⟨rfl, rfl⟩ := trodVars_none hV
  obtain ⟨hh, ht, va, vb, rfl, wh, wt, ⟨ms, c1, s1, hr1, hd1⟩, ⟨ks, c2, s2, hr2, hd2⟩⟩ := open_play (hval 0 43 v0 rfl rfl) h0
  obtain ⟨x1, rfl, wx1⟩ := open_u32S (hval 1 40 v1 rfl rfl) h1
  obtain ⟨x2, x3, rfl, _, wx3⟩ := open_twoS (hval 2 64 v2 rfl rfl) h2
  clear hA0 hval0
  have hlt0 : ∀ x ∈ p0, x.block < W.heap.size := fun x hx => by simpa using hW'.lt x (by simp [hx])
  have hlt1 : ∀ x ∈ p1, x.block < W.heap.size := fun x hx => by simpa using hW'.lt x (by simp [hx])
  have hlt2 : ∀ x ∈ p2, x.block < W.heap.size := fun x hx => by simpa using hW'.lt x (by simp [hx])
  obtain ⟨e0, he, hr0⟩ := of_laid hL
  have fin : ∀ e W', Said ⟨W, fun _ => False⟩ e W' → ∃ v, e = .returned v ∧ Rows.ringSameSpec.post enc Tryd.prog Tryd.f7 false true false false W #[playV hh ht va vb, .int .u32 x1, .agg #[.int .u8 x2, .int .u8 x3]] v W' := by
    rintro e W' ⟨rfl, hsz, hk, hc⟩
    have hk' : ∀ x, x < W.heap.size → W'.heap[x]? = W.heap[x]? := fun x hx => hk x hx (fun h => h)
    refine ⟨_, rfl, _, _, _, [], _, [], hW', ⟨[], [], shut_bool Tryd.underlying4 true, rfl, rfl⟩, trodAll_mk3 (trod_same Tryd.laidOut (by kernel_rfl) (of_decide_eq_true (by kernel_rfl)) h0 hk' hlt0) (trod_same Tryd.laidOut (by kernel_rfl) (of_decide_eq_true (by kernel_rfl)) h1 hk' hlt1) (trod_same Tryd.laidOut (by kernel_rfl) (of_decide_eq_true (by kernel_rfl)) h2 hk' hlt2), rfl, keptBut_of _ hc hk', fun h => by cases h⟩
  obtain ⟨hq1, hn1⟩ := ro_add hr0 (by intro b hb e; rw [List.mem_singleton.1 hb]; rfl) rfl hr1
  obtain ⟨hr, _⟩ := ro_add hq1 hn1 rfl hr2
  have g1 : Den ([e0, s1] ++ [s2]) (plV ⟨hh, ht, ms, c1, ks, c2⟩ 1 2) (playV hh ht va vb) := den_play (q := ⟨hh, ht, ms, c1, ks, c2⟩) (den_wide (den_add (env := [e0]) (n := 1) hd1 rfl)) (den_add (env := [e0, s1]) (n := 2) hd2 rfl)
  exact (ringSame_call (q := ⟨hh, ht, ms, c1, ks, c2⟩) (p := x2) (s := x3) (oth := x1) wh wx1 wx3 he hr g1 rfl ⟨_, rfl, _, _, rfl, rfl, _, _, rfl, rfl, rfl⟩).mono fun e W' h => fin e W' h
theorem ringSame_row : Rows.RingSameSaid :=
  OpenClaim.holds_of_wide 7 Tryd.f7 rfl rfl rfl rfl rfl rfl rfl ⟨rfl, rfl, rfl, rfl, rfl⟩ rfl rfl rfl rfl rfl (by kernel_rfl) Tryd.func7 (by kernel_rfl)
    (of_decide_eq_true (by kernel_rfl)) (by unfold Func.isWrapper; first | (rw [if_pos (by decide +kernel)]; kernel_rfl) | (rw [if_neg (by decide +kernel)]; exact ⟨rfl, rfl⟩))
    (fun os started H enc _ => ringSame_lifted os started H enc)
theorem ringSame_holds : Rows.RingSameCardSaid :=
  Claim7.holds_tied_plain_at .later [] [.data] true _ _ ringSame_row (fun _ h => by cases h) (by kernel_rfl) (fun _ h => by cases h) ringSame_row_tie rfl ⟨rfl, rfl⟩ (by kernel_rfl) rfl
    (fun f fn hf hfn => by
      obtain rfl : f = 7 := Option.some.inj ((show Tryd.prog.funcNamed "purlin/purlinlaw12.RingSame" = some 7 by kernel_rfl).symm.trans hf) |>.symm
      obtain rfl : fn = Tryd.f7 := (Option.some.inj (Tryd.func7.symm.trans hfn)).symm
      exact ⟨by kernel_rfl, fun j t ht => by
        rw [Tryd.params7] at ht
        have hm : t ∈ [43, 40, 64] := by simpa using Array.mem_of_getElem? ht
        have hall : ([43, 40, 64].all fun u => !Tryd.prog.wantsStandIn u) = true := by kernel_rfl
        exact (show Tryd.prog.wantsStandIn t = false by simpa using List.all_eq_true.1 hall t hm)⟩)
    (by kernel_rfl)
end Go.Proofs.YtplbncncnjiahaaDoor

