/- A sampling port is a slot. -/
import Derived.Test.YtdadfgeepinpbaaDoorPsb
import Derived.Test.YtdadfgeepinpbaaDoorSxC
import Derived.Test.YtdadfgeepinpbaaDoorCards
import Derived.Test.YtdadfgeepinpbaaDoorTie
import Derived.ProofKit
import Derived.LaidMore
import Derived.OpenShut
import Derived.Stop.Joined
/- PortSlot, plain: a message is written whole, and read whole. -/
namespace Go.Proofs.YtdadfgeepinpbaaDoor
open Go Go.Proofs.YtdadfgeepinpbaaDoor.Sx
set_option linter.unusedVariables false
abbrev nilB : ByteArray := ⟨⟨[]⟩⟩
abbrev memF (l : List Int) : Nat → Int := fun k => l.getD (1 + k) 0
structure Vok (f : Nat → Int) (s : ByteArray) (t : Int) : Prop where
  t : f 0 = t
  z : f 1 = (s.size : Int)
  s8 : s.size ≤ 8
  w0 : f 2 = ((wN s s.size 0 : Nat) : Int)
  w1 : f 3 = ((wN s s.size 1 : Nat) : Int)
theorem Vok.congr {f g : Nat → Int} {s : ByteArray} {t : Int} (h : Vok f s t) (e : ∀ k, k < 4 → g k = f k) : Vok g s t :=
  ⟨by rw [e 0 (by omega)]; exact h.t, by rw [e 1 (by omega)]; exact h.z, h.s8, by rw [e 2 (by omega)]; exact h.w0, by rw [e 3 (by omega)]; exact h.w1⟩
theorem vok_str {xl : List Int} {s : ByteArray} {t : Int} (h : Vok (fun k => xl.getD k 0) s t) : strU (unpN (L32 xl) s.size s.size) = s := by
  have h8 := h.s8
  refine str_back fun j hj => byteU_ok (z := s.size) ?_ hj
  have e : (L32 xl).getD (2 + j / 4) 0 = xl.getD (2 + j / 4) 0 := by
    rw [List.getD_eq_getElem?_getD, List.getElem?_map, List.getElem?_range (by omega)]; rfl
  rw [e]
  have hq : j / 4 = 0 ∨ j / 4 = 1 := by omega
  rcases hq with hq | hq <;> rw [hq]
  · exact h.w0
  · exact h.w1
/-- behind so many steps of writing -/
structure PW (V : List Int) (e : Int) (n : Nat) (l : List Int) (x : Wr) : Prop where
  n5 : n ≤ 5
  e0 : 0 ≤ e ∧ e ≤ 1000
  at' : x.at' = 0
  xV : x.V = V
  vl : V.length = 4
  vu : U32s V
  ll : l.length = 5
  p0 : n = 0 → x.phase = 0 ∧ l.getD 0 0 = e
  p1 : 1 ≤ n → n ≤ 4 → x.phase = 1 ∧ x.next = (n : Int) - 1
  p2 : n = 5 → x.phase = 2
  z : 1 ≤ n → l.getD 0 0 = e + 1
  w : ∀ j, j + 1 < n → j < 4 → memF l j = V.getD j 0
structure PD (V : List Int) (e : Int) (l : List Int) : Prop where
  ll : l.length = 5
  z : l.getD 0 0 = e
  w : ∀ j, j < 4 → memF l j = V.getD j 0
theorem pw_ok {V : List Int} {e : Int} {n : Nat} {l : List Int} {x : Wr} (h : PW V e n l x) {c : Int} (hc : 0 ≤ c ∧ c ≤ 1000) : WOk 5 l c x :=
  ⟨by rw [h.at']; omega, by rw [h.at', h.xV, h.vl]; omega, by omega, h.ll, by rw [h.xV]; exact h.vu, by omega⟩
theorem pw_begin {V : List Int} {e : Int} {l : List Int} {x : Wr} (h : PW V e 0 l x) : PW V e 1 (lInc x.at' l) ⟨x.at', 0, 1, x.V⟩ := by
  have hl := h.ll
  have he := h.e0
  obtain ⟨hp, hz⟩ := h.p0 rfl
  refine ⟨by omega, h.e0, h.at', h.xV, h.vl, h.vu, by simp [lInc, hl], fun h => by omega, fun _ _ => ⟨rfl, rfl⟩, fun h => by omega, fun _ => ?_, fun j hj => by omega⟩
  unfold lInc
  rw [h.at', show (0 : Int).toNat = 0 from rfl, Sx.getD_set_self (by omega), hz]; omega
theorem pw_word {V : List Int} {e : Int} {n : Nat} {l : List Int} {x : Wr} (h1 : 1 ≤ n) (h2 : n ≤ 4) (h : PW V e n l x) : PW V e (n + 1) (lPut x l) (wPut x) := by
  have hl := h.ll
  have hz := h.z h1
  obtain ⟨hp, hn⟩ := h.p1 h1 h2
  have hvv := h.xV
  have hvl := h.vl
  have e1 : (x.at' + 1 + x.next).toNat = 1 + (n - 1) := by rw [h.at']; omega
  have e2 : x.next.toNat = n - 1 := by omega
  refine ⟨by omega, h.e0, h.at', hvv, hvl, h.vu, by simp [lPut, hl], fun h => by omega, fun _ hi => ⟨?_, ?_⟩, fun hi => ?_, fun _ => ?_, fun j hj hj4 => ?_⟩
  · simp only [wPut]; rw [hvv, if_neg (by omega)]
  · simp only [wPut]; omega
  · simp only [wPut]; rw [hvv, if_pos (by omega)]
  · unfold lPut
    rw [e1, Sx.getD_set_ne (by omega)]; exact hz
  · unfold memF lPut
    rw [e1, e2, hvv]
    by_cases hji : j = n - 1
    · subst hji
      rw [Sx.getD_set_self (by omega)]
    · rw [Sx.getD_set_ne (by omega)]
      exact h.w j (by omega) hj4
theorem pw_end {V : List Int} {e : Int} {l : List Int} {x : Wr} (h : PW V e 5 l x) : PD V (e + 2) (lInc x.at' l) := by
  have hl := h.ll
  have he := h.e0
  have hz := h.z (by omega)
  refine ⟨by simp [lInc, hl], ?_, fun j hj => ?_⟩
  · unfold lInc
    rw [h.at', show (0 : Int).toNat = 0 from rfl, Sx.getD_set_self (by omega), hz]; omega
  · unfold memF lInc
    rw [h.at', show (0 : Int).toNat = 0 from rfl, Sx.getD_set_ne (by omega)]
    exact h.w j (by omega) hj
/-- behind so many steps of reading, nobody writing -/
structure PR (l : List Int) (n : Nat) (x : Rd) : Prop where
  n5 : n ≤ 5
  ll : l.length = 5
  ev : (l.getD 0 0) % 2 = 0 ∧ 0 ≤ l.getD 0 0
  at' : x.at' = 0
  n4 : x.n = 4
  got : x.got = false
  xl : x.l.length = 32
  t : 0 ≤ x.tries ∧ x.tries ≤ 1
  p0 : n = 0 → x.phase = 0 ∧ x.tries = 0
  p1 : 1 ≤ n → n ≤ 4 → x.phase = 1 ∧ x.next = (n : Int) - 1
  p2 : n = 5 → x.phase = 2
  c : 1 ≤ n → x.count = l.getD 0 0
  w : ∀ j, j + 1 < n → j < 4 → x.l.getD j 0 = memF l j
theorem pr_ok {l : List Int} {n : Nat} {x : Rd} (h : PR l n x) {c : Int} (hc : 0 ≤ c ∧ c ≤ 1000) : ROk 5 l c x := by
  have hn5 := h.n5
  refine ⟨by rw [h.at']; omega, by rw [h.at', h.n4]; omega, by omega, h.ll, by rw [h.n4]; omega, by omega, by have := h.t; omega, h.got, ?_, ?_, h.xl⟩
  · have p0 := h.p0; have p1 := h.p1; have p2 := h.p2
    by_cases e0 : n = 0
    · have := (p0 e0).1; omega
    · by_cases e1 : n ≤ 4
      · have := (p1 (by omega) e1).1; omega
      · have := p2 (by omega); omega
  · intro hp
    have p0 := h.p0; have p1 := h.p1; have p2 := h.p2
    rw [h.n4]
    by_cases e0 : n = 0
    · have := (p0 e0).1; omega
    · by_cases e1 : n ≤ 4
      · have := (p1 (by omega) e1).2; omega
      · have := p2 (by omega); omega
theorem pr_step {l : List Int} {n : Nat} {x : Rd} (hn : n ≤ 4) (h : PR l n x) : PR l (n + 1) (rStep x l) := by
  have h7 := h.at'
  have hxl := h.xl
  have hev := h.ev
  by_cases h0 : n = 0
  · subst h0
    obtain ⟨hp, ht⟩ := h.p0 rfl
    have e : x.at'.toNat = 0 := by omega
    have hs : rStep x l = ⟨x.at', x.n, 0, 1, l.getD x.at'.toNat 0, x.l, false, x.tries + 1⟩ := by
      unfold rStep
      rw [if_pos hp, e, if_pos (by rw [Int.tmod_eq_emod_of_nonneg hev.2]; exact hev.1)]
    rw [hs]
    exact ⟨by omega, h.ll, hev, h7, h.n4, rfl, hxl, by simp only; omega, fun h => by omega, fun _ _ => ⟨rfl, rfl⟩, fun h => by omega, fun _ => by simp only [e], fun j hj => by omega⟩
  · obtain ⟨hp, hx⟩ := h.p1 (by omega) hn
    have hs : rStep x l = ⟨x.at', x.n, x.next + 1, if x.next + 1 = x.n then 2 else 1, x.count, x.l.set x.next.toNat (l.getD (x.at' + (1 + x.next)).toNat 0), false, x.tries⟩ := by
      unfold rStep
      rw [if_neg (by omega), if_pos hp]
    rw [hs]
    have e : (x.at' + (1 + x.next)).toNat = 1 + (n - 1) := by omega
    have e2 : x.next.toNat = n - 1 := by omega
    have h4 := h.n4
    refine ⟨by omega, h.ll, hev, h7, h4, rfl, by simp [hxl], h.t, fun h => by omega, fun _ hi => ⟨?_, ?_⟩, fun hi => ?_, fun _ => h.c (by omega), fun j hj hj4 => ?_⟩
    · simp only; rw [if_neg (by omega)]
    · simp only; omega
    · simp only; rw [if_pos (by omega)]
    · simp only [e, e2]
      by_cases hji : j = n - 1
      · subst hji
        rw [Sx.getD_set_self (by omega)]
      · rw [Sx.getD_set_ne (by omega)]
        exact h.w j (by omega) hj4
theorem pr_end {l : List Int} {x : Rd} (h : PR l 5 x) : (rStep x l).got = true ∧ (rStep x l).n = 4 ∧ ∀ j, j < 4 → (rStep x l).l.getD j 0 = memF l j := by
  have h7 := h.at'
  have hp := h.p2 rfl
  have hc := h.c (by omega)
  have e : x.at'.toNat = 0 := by omega
  have hs : rStep x l = ⟨x.at', x.n, x.next, 0, x.count, x.l, l.getD x.at'.toNat 0 == x.count, x.tries⟩ := by
    unfold rStep
    rw [if_neg (by omega), if_neg (by omega)]
  rw [hs]
  refine ⟨?_, h.n4, fun j hj => h.w j (by omega) hj⟩
  simp only [e]
  rw [hc, beq_self_eq_true]
end Go.Proofs.YtdadfgeepinpbaaDoor

/- PortSlot: pieces and states. -/
namespace Go.Proofs.YtdadfgeepinpbaaDoor
open Go Go.Proofs.YtdadfgeepinpbaaDoor.Sx
set_option linter.unusedVariables false
structure U32 where
  v : Int
  h : 0 ≤ v ∧ v < 4294967296
theorem u0_h : (0 : Int) ≤ 0 ∧ (0 : Int) < 4294967296 := by omega
structure Cal where
  k : Int
  s : ByteArray
  t : U32
def encCal : Enc Cal := encOf 2 (fun x => [.int .i64 x.k, .str x.s, .int .u32 x.t.v]) ⟨0, ⟨⟨[]⟩⟩, ⟨0, u0_h⟩⟩ (fun _ => rfl) (by intro env env' x vs h; simpa [DenL, Den] using h)
/-- what comes in -/
structure InP where
  age : Int
  cs : List Cal
  c : Nat
abbrev csV (q : InP) (i : Nat) : SVal := .sli i (.c 0) 3 (.v q.cs.length) (some (.v q.c))
abbrev s0P (q : InP) : St := [lookB, .ro encCal q.cs]
abbrev argP (q : InP) : List SVal := [.int .u16 q.age, csV q 1]
noncomputable def b3 : Code := Tryd.f3.body.getD .skip
noncomputable def c3 : Code := restC 5 b3
noncomputable def reg0 : Code := lft (lft c3)
noncomputable def blk0 : Code := rgt (lft c3)
noncomputable def round0 : Code := lft (lft blk0)
noncomputable def tm0 : Code := lft round0
noncomputable def bb0 : Code := lft (lft (rgt round0))
noncomputable def inc0 : Code := rgt (rgt round0)
noncomputable def end0 : Code := rgt c3
noncomputable def sel0 : Code := lft (restC 1 bb0)
noncomputable def cs0 : Code := rgt sel0
noncomputable def ev0 : Code := lft cs0
noncomputable def reg2 : Code := lft (lft (restC 2 ev0))
noncomputable def blk2 : Code := rgt (lft (restC 2 ev0))
noncomputable def round2 : Code := lft (lft blk2)
noncomputable def ext2 : Code := rgt (restC 2 ev0)
noncomputable def odd0 : Code := restC 2 bb0
noncomputable def reg4 : Code := lft (lft (restC 2 odd0))
noncomputable def blk4 : Code := rgt (lft (restC 2 odd0))
noncomputable def round4 : Code := lft (lft blk4)
abbrev portB (i : Nat) : Blk := .own [.c (.ifc 85 (.ptr i 0)), .c (.lit .i64 5)] 84
abbrev samB (s : ByteArray) (t age : Int) : Blk := .own [.c (.str s), .c (.int .u32 t), .c (.int .u16 age)] 87
/-- a call, its text cut -/
structure Cut where
  k : Int
  s : ByteArray
  t : Int
abbrev calB (x : Cut) : Blk := .own [.c (.int .i64 x.k), .c (.str x.s), .c (.int .u32 x.t)] 37
abbrev tlP (i : Nat) (q : InP) (s : ByteArray) (t : Int) : St := [portB i, samB s t q.age, .ro encCal q.cs]
abbrev sQ (q : InP) (l : List Int) (c : Int) (s : ByteArray) (t : Int) : St := memS 5 l c ++ tlP 4 q s t
abbrev sX (q : InP) (l : List Int) (c : Int) (s : ByteArray) (t : Int) (x : Cut) : St := memS 5 l c ++ tlP 4 q s t ++ [calB x]
abbrev sXW (q : InP) (l : List Int) (c : Int) (s : ByteArray) (t : Int) (x : Cut) (w : Wr) (z : Int) : St := sX q l c s t x ++ putW 7 w z
abbrev sXG (q : InP) (l : List Int) (c : Int) (s : ByteArray) (t : Int) (x : Cut) (r : Rd) : St := sX q l c s t x ++ getB 7 r 5
abbrev n0p : List Nat := [0, 1, 5, 7]
abbrev n0a : List Nat := [0, 1, 5, 7, 9]
abbrev n0b : List Nat := [0, 1, 5, 7, 9, 10]
abbrev n0k : List Nat := [0, 1, 5, 7, 9, 10, 74]
abbrev n0g : List Nat := [0, 1, 5, 7, 9, 10, 11, 12]
abbrev n0w : List Nat := [0, 1, 5, 7, 9, 11]
abbrev n0l : List Nat := [0, 1, 5, 7, 9, 11, 13]
abbrev n0r : List Nat := [0, 1, 5, 7, 9, 10, 14]
abbrev n0m : List Nat := [0, 1, 5, 7, 9, 10, 14, 16]
abbrev v0p (q : InP) : List SVal := [.int .u16 q.age, csV q 5, .ptr 3 0, .ptr 2 0]
abbrev v0a (q : InP) (i : Nat) : List SVal := v0p q ++ [.int .i64 (i : Nat)]
abbrev v0b (q : InP) (i : Nat) : List SVal := v0a q i ++ [.ptr 6 0]
end Go.Proofs.YtdadfgeepinpbaaDoor

/- PortSlot: its calls. -/
namespace Go.Proofs.YtdadfgeepinpbaaDoor
open Go Go.Proofs.YtdadfgeepinpbaaDoor.Sx
set_option linter.unusedVariables false
theorem gl_ltW {k : Nat} (h : 0 < k) : ∀ p ∈ cfgM.gl, p.2 < k := by
  intro p hp
  rw [List.mem_singleton.1 hp]; exact h
theorem roSame_reflW (S : St) : roSame S S := fun _ _ h => .inr h
theorem putB_plainW {k : Nat} {x : Wr} : ∀ b ∈ putB k x, plainB b = true := by
  intro b h
  simp only [List.mem_cons, List.not_mem_nil, or_false] at h
  rcases h with rfl | rfl | rfl | rfl <;> rfl
set_option maxRecDepth 100000 in
theorem put_6 {q : PutI} (h : PutOk q) {B1 B2 B3 B4 B5 B6 : Blk} (env : Env) (w : World) (vs : List Value) (hg : GlOk cfgM.gl env) (hr : Rep env [lookB, B1, B2, B3, B4, B5, B6] w) (hd : DenL env (argN q) vs) :
    Calls cfgM.P 10 ⟨vs⟩ w (Ends1 env [lookB, B1, B2, B3, B4, B5, B6] w (.tup [.ptr 7 0, .lit .i64 0]) ([lookB, B1, B2, B3, B4, B5, B6] ++ putB 7 (w0P q))) :=
  frameNew (c := cfgM) (n := 4) (put_ok h) [B1, B2, B3, B4, B5, B6] rfl rfl (gl_ltW (by simp)) (by kernel_rfl) (Sa := [lookB]) (Sb := putB 7 (w0P q)) (by kernel_rfl) (by kernel_rfl) rfl (roSame_reflW _) putB_plainW rfl env w vs hg hr hd
theorem put_6b {q : PutI} (h : ¬ PutOk q) {B1 B2 B3 B4 B5 B6 : Blk} (env : Env) (w : World) (vs : List Value) (hg : GlOk cfgM.gl env) (hr : Rep env [lookB, B1, B2, B3, B4, B5, B6] w) (hd : DenL env (argN q) vs) :
    Calls cfgM.P 10 ⟨vs⟩ w (Ends1 env [lookB, B1, B2, B3, B4, B5, B6] w (.tup [.pnil, .lit .i64 130]) [lookB, B1, B2, B3, B4, B5, B6]) :=
  frame (c := cfgM) (put_bad h) [B1, B2, B3, B4, B5, B6] rfl rfl (gl_ltW (by simp)) (by kernel_rfl) (roSame_reflW _) env w vs hg hr hd
theorem args_litW {env : Env} {t : Int} {s : ByteArray} {vs : List Value} (h : DenL env [.lit .i64 0, .lit .i64 5, .str s, .int .u32 t] vs) : DenL env (argN ⟨0, 5, s, t⟩) vs := by
  simpa [DenL, Den] using h
abbrev idW : List Nat := [0, 1, 2, 7, 8, 9, 10, 3, 4, 5, 6]
abbrev rsW (q : InP) (s : ByteArray) (t : Int) (x : Cut) : St := tlP 8 q s t ++ [calB x]
theorem sXW_ren {q : InP} {l : List Int} {c : Int} {s : ByteArray} {t : Int} {x : Cut} {w : Wr} {z : Int} : renSt idW (sXW q l c s t x w z) idW = some (memS 5 l c ++ putW 3 w z ++ rsW q s t x) := by kernel_rfl
theorem sXW_back {q : InP} {l : List Int} {c : Int} {s : ByteArray} {t : Int} {x : Cut} {w : Wr} {z : Int} : renSt idW (memS 5 l c ++ putW 3 w z ++ rsW q s t x) idW = some (sXW q l c s t x w z) := by kernel_rfl
theorem sW_ro {n : Nat} {l l' : List Int} {c c' : Int} {w w' : Wr} {z z' : Int} : roSame (memS n l c ++ putW 3 w z) (memS n l' c' ++ putW 3 w' z') :=
  roSame_cons (.inr rfl) (roSame_cons (.inl rfl) (roSame_cons (.inl rfl) (roSame_cons (.inl rfl) (roSame_cons (.inl rfl) (roSame_cons (.inl rfl) (roSame_cons (.inl rfl) roSame_nil))))))
theorem sG_ro {n : Nat} {l l' : List Int} {c c' : Int} {x x' : Rd} {z : Int} : roSame (sG n l c x z) (sG n l' c' x' z) :=
  roSame_cons (.inr rfl) (roSame_cons (.inl rfl) (roSame_cons (.inl rfl) (roSame_cons (.inl rfl) (roSame_cons (.inl rfl) roSame_nil))))
theorem stepX {q : InP} {l l' : List Int} {c c' : Int} {s : ByteArray} {t : Int} {x : Cut} {w w' : Wr} {z : Int} {b : Bool}
    (hC : ∀ (env : Env) (W : World) (vs : List Value), GlOk cfgM.gl env → Rep env (sW 5 l c w) W → DenL env [.ptr 4 0, .ptr 2 0] vs → Calls cfgM.P 12 ⟨vs⟩ W (Ends1 env (sW 5 l c w) W (.bl b) (memS 5 l' c' ++ putW 3 w' z))) (env : Env) (W : World) (vs : List Value) (hg : GlOk cfgM.gl env) (hr : Rep env (sXW q l c s t x w 0) W) (hd : DenL env [.ptr 8 0, .ptr 2 0] vs) :
    Calls cfgM.P 12 ⟨vs⟩ W (Ends1 env (sXW q l c s t x w 0) W (.bl b) (sXW q l' c' s t x w' z)) :=
  permCall (st := sXW q l c s t x w 0) (S0 := memS 5 l c ++ putW 3 w 0 ++ rsW q s t x) (st0' := sXW q l' c' s t x w' z) (st' := sXW q l' c' s t x w' z) idW idW
    (frame (c := cfgM) hC (rsW q s t x) rfl rfl (gl_ltW (by simp)) (by kernel_rfl) sW_ro) rfl rfl rfl rfl rfl (by rfl) sXW_ren EqvSt.rfl' sXW_back EqvSt.rfl' rfl rfl env W vs hg hr hd
abbrev idR : List Nat := [0, 1, 2, 7, 8, 3, 4, 5, 6]
abbrev ivR : List Nat := [0, 1, 2, 5, 6, 7, 8, 3, 4]
abbrev rsR (q : InP) (s : ByteArray) (t : Int) (x : Cut) : St := tlP 6 q s t ++ [calB x]
theorem sXG_ren {q : InP} {l : List Int} {c : Int} {s : ByteArray} {t : Int} {x : Cut} {r : Rd} : renSt idR (sXG q l c s t x r) idR = some (sG 5 l c r 5 ++ rsR q s t x) := by kernel_rfl
theorem sXG_back {q : InP} {l : List Int} {c : Int} {s : ByteArray} {t : Int} {x : Cut} {r : Rd} : renSt ivR (sG 5 l c r 5 ++ rsR q s t x) ivR = some (sXG q l c s t x r) := by kernel_rfl
theorem readX {q : InP} {l : List Int} {c : Int} {s : ByteArray} {t : Int} {x : Cut} {r : Rd} (h : ROk 5 l c r) (env : Env) (W : World) (vs : List Value) (hg : GlOk cfgM.gl env) (hr : Rep env (sXG q l c s t x r) W) (hd : DenL env [.ptr 8 0, .ptr 2 0] vs) :
    Calls cfgM.P 14 ⟨vs⟩ W (Ends1 env (sXG q l c s t x r) W (.sb (rStep r l).got) (sXG q l (c + 1) s t x (rStep r l))) :=
  permCall (st := sXG q l c s t x r) (S0 := sG 5 l c r 5 ++ rsR q s t x) (st0' := sXG q l (c + 1) s t x (rStep r l)) (st' := sXG q l (c + 1) s t x (rStep r l)) idR ivR
    (frame (c := cfgM) (r_step h) (rsR q s t x) rfl rfl (gl_ltW (by simp)) (by kernel_rfl) sG_ro) rfl rfl rfl rfl rfl (by rfl) sXG_ren EqvSt.rfl' sXG_back EqvSt.rfl' rfl rfl env W vs hg hr hd
abbrev getT (k : Nat) (x : Rd) (z : Int) : St := [.own [.c (.ptr (k + 1) 0), .c (.int .i64 z)] 52, .own [.c (.int .i64 x.at'), .c (.int .i64 x.n), .c (.int .i64 x.next), .c (.int .i64 x.phase), .c (.int .u32 x.count), .a (encInt .u32) 32 x.l, .c (.sb true), .c (.int .i64 x.tries)] 107]
abbrev sXT (q : InP) (l : List Int) (c : Int) (s : ByteArray) (t : Int) (x : Cut) (r : Rd) : St := sX q l c s t x ++ getT 7 r 5
theorem sXT_ren {q : InP} {l : List Int} {c : Int} {s : ByteArray} {t : Int} {x : Cut} {r : Rd} : renSt idR (sXT q l c s t x r) idR = some (sGt 5 l c r 5 ++ rsR q s t x) := by kernel_rfl
theorem sXT_back {q : InP} {l : List Int} {c : Int} {s : ByteArray} {t : Int} {x : Cut} {r : Rd} : renSt ivR (sGt 5 l c r 5 ++ rsR q s t x) ivR = some (sXT q l c s t x r) := by kernel_rfl
theorem msgX {q : InP} {l : List Int} {c : Int} {s : ByteArray} {t : Int} {x : Cut} {r : Rd} {m : Nat} (hk : r.n = 4) (hm : imin (r.l.getD 1 0) 5 = (m : Int)) (hm1 : m ≤ 5) (env : Env) (W : World) (vs : List Value) (hg : GlOk cfgM.gl env) (hr : Rep env (sXT q l c s t x r) W) (hd : DenL env [.ptr 7 0] vs) :
    Calls cfgM.P 15 ⟨vs⟩ W (Ends1 env (sXT q l c s t x r) W (.tup [.str (strU (unpN (L32 r.l) m m)), .int .u32 (r.l.getD 0 0), .bl true]) (sXT q l c s t x r)) :=
  permCall (st := sXT q l c s t x r) (S0 := sGt 5 l c r 5 ++ rsR q s t x) (st0' := sXT q l c s t x r) (st' := sXT q l c s t x r) idR ivR
    (frame (c := cfgM) (msg_call (k := 2) hk (by omega) (by omega) hm (by omega)) (rsR q s t x) rfl rfl (gl_ltW (by simp)) (by kernel_rfl) (roSame_reflW _)) rfl rfl rfl rfl rfl (by rfl) sXT_ren EqvSt.rfl' sXT_back EqvSt.rfl' rfl rfl env W vs hg hr hd
/-- a message's writing is made, or not -/
noncomputable def cfgP (S : St) (s : ByteArray) (t : Int) : Cfg := { P := Tryd.prog, ex := exI, gl := [(0, 0)], sm := fun f => match f with
  | 10 => some (smEq [.lit .i64 0, .lit .i64 5, .str s, .int .u32 t] S (PutOk ⟨0, 5, s, t⟩) (.tup [.ptr 7 0, .lit .i64 0]) (S ++ putB 7 (w0P ⟨0, 5, s, t⟩)))
  | _ => none }
theorem cfgP_ok {B1 B2 B3 B4 B5 B6 : Blk} {s : ByteArray} {t : Int} : SmOk (cfgP [lookB, B1, B2, B3, B4, B5, B6] s t) := by
  intro f g h
  simp only [cfgP] at h
  split at h
  · simp only [Option.some.injEq] at h; subst h
    exact smEq_ok (c := cfgP [lookB, B1, B2, B3, B4, B5, B6] s t) fun h env w vs hg hr hd => put_6 h env w vs hg hr (args_litW hd)
  · cases h
noncomputable def cfgPb (S : St) (s : ByteArray) (t : Int) : Cfg := { P := Tryd.prog, ex := exI, gl := [(0, 0)], sm := fun f => match f with
  | 10 => some (smEq [.lit .i64 0, .lit .i64 5, .str s, .int .u32 t] S (¬ PutOk ⟨0, 5, s, t⟩) (.tup [.pnil, .lit .i64 130]) S)
  | _ => none }
theorem cfgPb_ok {B1 B2 B3 B4 B5 B6 : Blk} {s : ByteArray} {t : Int} : SmOk (cfgPb [lookB, B1, B2, B3, B4, B5, B6] s t) := by
  intro f g h
  simp only [cfgPb] at h
  split at h
  · simp only [Option.some.injEq] at h; subst h
    exact smEq_ok (c := cfgPb [lookB, B1, B2, B3, B4, B5, B6] s t) fun h env w vs hg hr hd => put_6b h env w vs hg hr (args_litW hd)
  · cases h
/-- a writer's step -/
noncomputable def cfgWs (S S' : St) (b : Bool) (P : Prop) : Cfg := { P := Tryd.prog, ex := exI, gl := [(0, 0)], sm := fun f => match f with
  | 12 => some (smEq [.ptr 8 0, .ptr 2 0] S P (.bl b) S')
  | _ => none }
theorem cfgWs_ok {S S' : St} {b : Bool} {P : Prop} (h : P → ∀ (env : Env) (w : World) (vs : List Value), GlOk cfgM.gl env → Rep env S w → DenL env [.ptr 8 0, .ptr 2 0] vs → Calls cfgM.P 12 ⟨vs⟩ w (Ends1 env S w (.bl b) S')) : SmOk (cfgWs S S' b P) := by
  intro f g h'
  simp only [cfgWs] at h'
  split at h'
  · simp only [Option.some.injEq] at h'; subst h'
    exact smEq_ok (c := cfgWs S S' b P) h
  · cases h'
/-- a reader's step -/
noncomputable def cfgRs (q : InP) (l : List Int) (c : Int) (s : ByteArray) (t : Int) (x : Cut) (r : Rd) : Cfg := { P := Tryd.prog, ex := exI, gl := [(0, 0)], sm := fun f => match f with
  | 14 => some (smEq [.ptr 8 0, .ptr 2 0] (sXG q l c s t x r) (ROk 5 l c r) (.sb (rStep r l).got) (sXG q l (c + 1) s t x (rStep r l)))
  | _ => none }
theorem cfgRs_ok {q : InP} {l : List Int} {c : Int} {s : ByteArray} {t : Int} {x : Cut} {r : Rd} : SmOk (cfgRs q l c s t x r) := by
  intro f g h'
  simp only [cfgRs] at h'
  split at h'
  · simp only [Option.some.injEq] at h'; subst h'
    exact smEq_ok (c := cfgRs q l c s t x r) fun h => readX h
  · cases h'
/-- what was read -/
noncomputable def cfgMg (q : InP) (l : List Int) (c : Int) (s : ByteArray) (t : Int) (x : Cut) (r : Rd) (m : Nat) : Cfg := { P := Tryd.prog, ex := exI, gl := [(0, 0)], sm := fun f => match f with
  | 15 => some (smEq [.ptr 7 0] (sXT q l c s t x r) (r.n = 4 ∧ imin (r.l.getD 1 0) 5 = (m : Int) ∧ m ≤ 5) (.tup [.str (strU (unpN (L32 r.l) m m)), .int .u32 (r.l.getD 0 0), .bl true]) (sXT q l c s t x r))
  | _ => none }
theorem cfgMg_ok {q : InP} {l : List Int} {c : Int} {s : ByteArray} {t : Int} {x : Cut} {r : Rd} {m : Nat} : SmOk (cfgMg q l c s t x r m) := by
  intro f g h'
  simp only [cfgMg] at h'
  split at h'
  · simp only [Option.some.injEq] at h'; subst h'
    exact smEq_ok (c := cfgMg q l c s t x r m) fun h => msgX h.1 h.2.1 h.2.2
  · cases h'
end Go.Proofs.YtdadfgeepinpbaaDoor

namespace Go.Proofs.YtdadfgeepinpbaaDoor
open Go Go.Proofs.YtdadfgeepinpbaaDoor.Sx
set_option linter.unusedVariables false
set_option maxRecDepth 100000 in
theorem a_pre {q : InP} : (execN cfg 100 5 b3 (argP q ++ List.replicate 180 .bad) (s0P q)).bind (canonK 0 [(0,0)] 182 [0, 1, 5, 7, 4]) =
 

 (.br (q.1 == (0 : Int))

 (.eq (some [Blk.ro encLook [PUnit.unit]] = some [Blk.ro encLook [PUnit.unit]])

 (.ret (.ret, [.int .u16 q.1, .sli 1 (.c 0) 3 (.v q.2.length) (some (.v q.3)), .bad, .bad, .bl true], [.ro encLook [PUnit.unit], .ro encCal q.2])))

 (.br (decide ((0 : Int) < q.1))

 (.eq (some [Blk.ro encLook [PUnit.unit]] = some [Blk.ro encLook [PUnit.unit]])

 (.ret (.normal, [.int .u16 q.1, .sli 1 (.c 0) 3 (.v q.2.length) (some (.v q.3)), .ptr 2 0, .ptr 4 0, .bl false], [.ro encLook [PUnit.unit], .ro encCal q.2, .own [.c (.ifc 85 (.ptr 3 0)), .c (.lit .i64 (5 : Int))] 84, .own [.c (.sl []), .c (.lit .u32 (0 : Int)), .c (.int .u16 q.1)] 87, .own [.c (.sli 5 (.c 0) 1 (.c 5) (some (.c 5))), .c (.lit .i64 (0 : Int))] 90, .own [.c (.lit .u32 (0 : Int)), .c (.lit .u32 (0 : Int)), .c (.lit .u32 (0 : Int)), .c (.lit .u32 (0 : Int)), .c (.lit .u32 (0 : Int))] 35])))

 (.eq (some [Blk.ro encLook [PUnit.unit]] = some [Blk.ro encLook [PUnit.unit]])

 (.ret (.ret, [.int .u16 q.1, .sli 1 (.c 0) 3 (.v q.2.length) (some (.v q.3)), .pnil, .ptr 2 0, .bl false], [.ro encLook [PUnit.unit], .ro encCal q.2, .own [.c (.sli 3 (.c 0) 1 (.c 5) (some (.c 5))), .c (.lit .i64 (0 : Int))] 90, .own [.c (.lit .u32 (0 : Int)), .c (.lit .u32 (0 : Int)), .c (.lit .u32 (0 : Int)), .c (.lit .u32 (0 : Int)), .c (.lit .u32 (0 : Int))] 35]))))) := by kernel_rfl
set_option maxRecDepth 100000 in
theorem a_reg {q : InP} {l : List Int} {c : Int} {s : ByteArray} {t : Int} : (exec cfgM 100 reg0 (fr 182 n0p (v0p q)) (sQ q l c s t)).bind (canonK 6 [(0,0)] 182 n0a) =
 

 (.ret (.normal, [.int .u16 q.1, .sli 5 (.c 0) 3 (.v q.2.length) (some (.v q.3)), .ptr 3 0, .ptr 2 0, .lit .i64 (0 : Int)], [.ro encLook [PUnit.unit], .own [.a (encInt IntKind.u32) 5 l] 35, .own [.c (.sli 1 (.c 0) 1 (.v 5) (some (.v 5))), .c (.int .i64 c)] 90, .own [.c (.ifc 85 (.ptr 4 0)), .c (.lit .i64 (5 : Int))] 84, .own [.c (.str s), .c (.int .u32 t), .c (.int .u16 q.1)] 87, .ro encCal q.2])) := by kernel_rfl
set_option maxRecDepth 100000 in
theorem a_tm {q : InP} {l : List Int} {c : Int} {s : ByteArray} {t : Int} {i : Nat} : (exec cfgM 100 tm0 (fr 182 n0a (v0a q i)) (sQ q l c s t)).bind (canonK 6 [(0,0)] 182 n0a) =
 

 (.br (decide ((↑i : Int) < (↑q.2.length : Int)))

 (.br (decide ((↑i : Int) < (40 : Int)))

 (.ret (.normal, [.int .u16 q.1, .sli 5 (.c 0) 3 (.v q.2.length) (some (.v q.3)), .ptr 3 0, .ptr 2 0, .int .i64 (↑i : Int)], [.ro encLook [PUnit.unit], .own [.a (encInt IntKind.u32) 5 l] 35, .own [.c (.sli 1 (.c 0) 1 (.v 5) (some (.v 5))), .c (.int .i64 c)] 90, .own [.c (.ifc 85 (.ptr 4 0)), .c (.lit .i64 (5 : Int))] 84, .own [.c (.str s), .c (.int .u32 t), .c (.int .u16 q.1)] 87, .ro encCal q.2]))

 (.ret (.exit 0, [.int .u16 q.1, .sli 5 (.c 0) 3 (.v q.2.length) (some (.v q.3)), .ptr 3 0, .ptr 2 0, .int .i64 (↑i : Int)], [.ro encLook [PUnit.unit], .own [.a (encInt IntKind.u32) 5 l] 35, .own [.c (.sli 1 (.c 0) 1 (.v 5) (some (.v 5))), .c (.int .i64 c)] 90, .own [.c (.ifc 85 (.ptr 4 0)), .c (.lit .i64 (5 : Int))] 84, .own [.c (.str s), .c (.int .u32 t), .c (.int .u16 q.1)] 87, .ro encCal q.2])))

 (.ret (.exit 0, [.int .u16 q.1, .sli 5 (.c 0) 3 (.v q.2.length) (some (.v q.3)), .ptr 3 0, .ptr 2 0, .int .i64 (↑i : Int)], [.ro encLook [PUnit.unit], .own [.a (encInt IntKind.u32) 5 l] 35, .own [.c (.sli 1 (.c 0) 1 (.v 5) (some (.v 5))), .c (.int .i64 c)] 90, .own [.c (.ifc 85 (.ptr 4 0)), .c (.lit .i64 (5 : Int))] 84, .own [.c (.str s), .c (.int .u32 t), .c (.int .u16 q.1)] 87, .ro encCal q.2]))) := by kernel_rfl
set_option maxRecDepth 100000 in
theorem a_few {q : InP} {l : List Int} {c : Int} {s : ByteArray} {t : Int} {i : Nat} : (execN cfgM 100 1 bb0 (fr 182 n0a (v0a q i)) (sQ q l c s t)).bind (canonK 6 [(0,0)] 182 n0b) =
 

 (.need (decide ((0 : Int) ≤ (↑i : Int)) && decide ((↑i : Int).toNat < q.2.length))

 (.need (decide ((↑i : Int).toNat < q.2.length))

 (.need (decide ((↑i : Int).toNat < q.2.length))

 (.need (decide ((↑i : Int).toNat < q.2.length))

 (.br (decide ((40 : Int) < (↑(q.2.getD (↑i : Int).toNat { k := (0 : Int), s := { data := { toList := [] } }, t := { v := (0 : Int), h := u0_h } }).s.size : Int)))

 (.need (decide (40 ≤ (q.2.getD (↑i : Int).toNat { k := (0 : Int), s := { data := { toList := [] } }, t := { v := (0 : Int), h := u0_h } }).s.size))

 (.need (decide (0 ≤ 40))

 (.ret (.normal, [.int .u16 q.1, .sli 5 (.c 0) 3 (.v q.2.length) (some (.v q.3)), .ptr 3 0, .ptr 2 0, .int .i64 (↑i : Int), .ptr 6 0], [.ro encLook [PUnit.unit], .own [.a (encInt IntKind.u32) 5 l] 35, .own [.c (.sli 1 (.c 0) 1 (.v 5) (some (.v 5))), .c (.int .i64 c)] 90, .own [.c (.ifc 85 (.ptr 4 0)), .c (.lit .i64 (5 : Int))] 84, .own [.c (.str s), .c (.int .u32 t), .c (.int .u16 q.1)] 87, .ro encCal q.2, .own [.c (.int .i64 (q.2.getD (↑i : Int).toNat { k := (0 : Int), s := { data := { toList := [] } }, t := { v := (0 : Int), h := u0_h } }).k), .c (.str ((q.2.getD (↑i : Int).toNat { k := (0 : Int), s := { data := { toList := [] } }, t := { v := (0 : Int), h := u0_h } }).s.extract 0 40)), .c (.int .u32 (q.2.getD (↑i : Int).toNat encCal.dflt).t.1)] 37]))))

 (.ret (.normal, [.int .u16 q.1, .sli 5 (.c 0) 3 (.v q.2.length) (some (.v q.3)), .ptr 3 0, .ptr 2 0, .int .i64 (↑i : Int), .ptr 6 0], [.ro encLook [PUnit.unit], .own [.a (encInt IntKind.u32) 5 l] 35, .own [.c (.sli 1 (.c 0) 1 (.v 5) (some (.v 5))), .c (.int .i64 c)] 90, .own [.c (.ifc 85 (.ptr 4 0)), .c (.lit .i64 (5 : Int))] 84, .own [.c (.str s), .c (.int .u32 t), .c (.int .u16 q.1)] 87, .ro encCal q.2, .own [.c (.int .i64 (q.2.getD (↑i : Int).toNat { k := (0 : Int), s := { data := { toList := [] } }, t := { v := (0 : Int), h := u0_h } }).k), .c (.str (q.2.getD (↑i : Int).toNat { k := (0 : Int), s := { data := { toList := [] } }, t := { v := (0 : Int), h := u0_h } }).s), .c (.int .u32 (q.2.getD (↑i : Int).toNat encCal.dflt).t.1)] 37]))))))) := by kernel_rfl
set_option maxRecDepth 100000 in
theorem a_sel {q : InP} {l : List Int} {c : Int} {s : ByteArray} {t : Int} {x : Cut} {i : Nat} : (exec cfgM 100 (lft sel0) (fr 182 n0b (v0b q i)) (sX q l c s t x)).bind (canonK 7 [(0,0)] 182 n0k) =
 

 (.ret (.normal, [.int .u16 q.1, .sli 5 (.c 0) 3 (.v q.2.length) (some (.v q.3)), .ptr 3 0, .ptr 2 0, .int .i64 (↑i : Int), .ptr 6 0, .sb (bitop BinOp.and IntKind.i64 x.1 (1 : Int) == (0 : Int))], [.ro encLook [PUnit.unit], .own [.a (encInt IntKind.u32) 5 l] 35, .own [.c (.sli 1 (.c 0) 1 (.v 5) (some (.v 5))), .c (.int .i64 c)] 90, .own [.c (.ifc 85 (.ptr 4 0)), .c (.lit .i64 (5 : Int))] 84, .own [.c (.str s), .c (.int .u32 t), .c (.int .u16 q.1)] 87, .ro encCal q.2, .own [.c (.int .i64 x.1), .c (.str x.2), .c (.int .u32 x.3)] 37])) := by kernel_rfl
set_option maxRecDepth 100000 in
theorem e_put {q : InP} {l : List Int} {c : Int} {s : ByteArray} {t : Int} {x : Cut} {i : Nat} {v : SVal} : (execN (cfgP (sX q l c s t x) x.s x.t) 100 1 ev0 (fr 182 n0k (v0b q i ++ [v])) (sX q l c s t x)).bind (canonK 7 [(0,0)] 182 n0g) =
 

 (.eq ([SVal.lit .i64 (0 : Int), .lit .i64 (5 : Int), .str x.2, .int .u32 x.3] = [SVal.lit .i64 (0 : Int), .lit .i64 (5 : Int), .str x.2, .int .u32 x.3] ∧ [Blk.ro encLook [PUnit.unit], .own [.a (encInt IntKind.u32) 5 l] 35, .own [.c (.sli 1 (.c 0) 1 (.v 5) (some (.v 5))), .c (.int .i64 c)] 90, .own [.c (.ifc 85 (.ptr 4 0)), .c (.lit .i64 (5 : Int))] 84, .own [.c (.str s), .c (.int .u32 t), .c (.int .u16 q.1)] 87, .ro encCal q.2, .own [.c (.int .i64 x.1), .c (.str x.2), .c (.int .u32 x.3)] 37] = [Blk.ro encLook [PUnit.unit], .own [.a (encInt IntKind.u32) 5 l] 35, .own [.c (.sli 1 (.c 0) 1 (.v 5) (some (.v 5))), .c (.int .i64 c)] 90, .own [.c (.ifc 85 (.ptr 4 0)), .c (.lit .i64 (5 : Int))] 84, .own [.c (.str s), .c (.int .u32 t), .c (.int .u16 q.1)] 87, .ro encCal q.2, .own [.c (.int .i64 x.1), .c (.str x.2), .c (.int .u32 x.3)] 37] ∧ PutOk { at' := (0 : Int), n := (5 : Int), s := x.s, tick := x.t })

 (.ret (.normal, [.int .u16 q.1, .sli 5 (.c 0) 3 (.v q.2.length) (some (.v q.3)), .ptr 3 0, .ptr 2 0, .int .i64 (↑i : Int), .ptr 6 0, .ptr 7 0, .lit .i64 (0 : Int)], [.ro encLook [PUnit.unit], .own [.a (encInt IntKind.u32) 5 l] 35, .own [.c (.sli 1 (.c 0) 1 (.v 5) (some (.v 5))), .c (.int .i64 c)] 90, .own [.c (.ifc 85 (.ptr 4 0)), .c (.lit .i64 (5 : Int))] 84, .own [.c (.str s), .c (.int .u32 t), .c (.int .u16 q.1)] 87, .ro encCal q.2, .own [.c (.int .i64 x.1), .c (.str x.2), .c (.int .u32 x.3)] 37, .own [.c (.ptr 8 0)] 46, .own [.c (.int .i64 (w0P { at' := (0 : Int), n := (5 : Int), s := x.2, tick := x.3 }).at'), .c (.int .i64 (w0P { at' := (0 : Int), n := (5 : Int), s := x.2, tick := x.3 }).next), .c (.int .i64 (w0P { at' := (0 : Int), n := (5 : Int), s := x.2, tick := x.3 }).phase), .c (.sli 9 (.c 0) 1 (.c 1) none), .c (.lit .i64 (0 : Int))] 100, .vec (encRow 0) [[.sli 10 (.c 0) 1 (.v 4) none]] 88, .vec (encInt IntKind.u32) (w0P { at' := (0 : Int), n := (5 : Int), s := x.2, tick := x.3 }).V 35]))) := by kernel_rfl
set_option maxRecDepth 100000 in
theorem e_putb {q : InP} {l : List Int} {c : Int} {s : ByteArray} {t : Int} {x : Cut} {i : Nat} {v : SVal} : (execN (cfgPb (sX q l c s t x) x.s x.t) 100 1 ev0 (fr 182 n0k (v0b q i ++ [v])) (sX q l c s t x)).bind (canonK 7 [(0,0)] 182 n0g) =
 

 (.eq ([SVal.lit .i64 (0 : Int), .lit .i64 (5 : Int), .str x.2, .int .u32 x.3] = [SVal.lit .i64 (0 : Int), .lit .i64 (5 : Int), .str x.2, .int .u32 x.3] ∧ [Blk.ro encLook [PUnit.unit], .own [.a (encInt IntKind.u32) 5 l] 35, .own [.c (.sli 1 (.c 0) 1 (.v 5) (some (.v 5))), .c (.int .i64 c)] 90, .own [.c (.ifc 85 (.ptr 4 0)), .c (.lit .i64 (5 : Int))] 84, .own [.c (.str s), .c (.int .u32 t), .c (.int .u16 q.1)] 87, .ro encCal q.2, .own [.c (.int .i64 x.1), .c (.str x.2), .c (.int .u32 x.3)] 37] = [Blk.ro encLook [PUnit.unit], .own [.a (encInt IntKind.u32) 5 l] 35, .own [.c (.sli 1 (.c 0) 1 (.v 5) (some (.v 5))), .c (.int .i64 c)] 90, .own [.c (.ifc 85 (.ptr 4 0)), .c (.lit .i64 (5 : Int))] 84, .own [.c (.str s), .c (.int .u32 t), .c (.int .u16 q.1)] 87, .ro encCal q.2, .own [.c (.int .i64 x.1), .c (.str x.2), .c (.int .u32 x.3)] 37] ∧ ¬PutOk { at' := (0 : Int), n := (5 : Int), s := x.s, tick := x.t })

 (.ret (.normal, [.int .u16 q.1, .sli 5 (.c 0) 3 (.v q.2.length) (some (.v q.3)), .ptr 3 0, .ptr 2 0, .int .i64 (↑i : Int), .ptr 6 0, .pnil, .lit .i64 (130 : Int)], [.ro encLook [PUnit.unit], .own [.a (encInt IntKind.u32) 5 l] 35, .own [.c (.sli 1 (.c 0) 1 (.v 5) (some (.v 5))), .c (.int .i64 c)] 90, .own [.c (.ifc 85 (.ptr 4 0)), .c (.lit .i64 (5 : Int))] 84, .own [.c (.str s), .c (.int .u32 t), .c (.int .u16 q.1)] 87, .ro encCal q.2, .own [.c (.int .i64 x.1), .c (.str x.2), .c (.int .u32 x.3)] 37]))) := by kernel_rfl
set_option maxRecDepth 100000 in
theorem e_wr {q : InP} {l : List Int} {c : Int} {s : ByteArray} {t : Int} {x : Cut} {i : Nat} {w : Wr} : (execN cfgM 100 1 (restC 1 ev0) (fr 182 n0g (v0b q i ++ [.ptr 7 0, .lit .i64 0])) (sXW q l c s t x w 0)).bind (canonK 11 [(0,0)] 182 n0w) =
 

 (.br (decide ((1 : Int) ≤ (↑x.2.size : Int)))

 (.br (!decide ((↑x.2.size : Int) ≤ (5 : Int)))

 (.ret (.ret, [.int .u16 q.1, .sli 5 (.c 0) 3 (.v q.2.length) (some (.v q.3)), .ptr 3 0, .ptr 2 0, .int .i64 (↑i : Int), .ptr 7 0], [.ro encLook [PUnit.unit], .own [.a (encInt IntKind.u32) 5 l] 35, .own [.c (.sli 1 (.c 0) 1 (.v 5) (some (.v 5))), .c (.int .i64 c)] 90, .own [.c (.ifc 85 (.ptr 4 0)), .c (.lit .i64 (5 : Int))] 84, .own [.c (.str s), .c (.int .u32 t), .c (.int .u16 q.1)] 87, .ro encCal q.2, .own [.c (.int .i64 x.1), .c (.str x.2), .c (.int .u32 x.3)] 37, .own [.c (.ptr 8 0)] 46, .own [.c (.int .i64 w.1), .c (.int .i64 w.2), .c (.int .i64 w.3), .c (.sli 9 (.c 0) 1 (.c 1) none), .c (.lit .i64 (0 : Int))] 100, .vec (encRow 0) [[.sli 10 (.c 0) 1 (.v w.4.length) none]] 88, .vec (encInt IntKind.u32) w.4 35]))

 (.ret (.normal, [.int .u16 q.1, .sli 5 (.c 0) 3 (.v q.2.length) (some (.v q.3)), .ptr 3 0, .ptr 2 0, .int .i64 (↑i : Int), .ptr 7 0], [.ro encLook [PUnit.unit], .own [.a (encInt IntKind.u32) 5 l] 35, .own [.c (.sli 1 (.c 0) 1 (.v 5) (some (.v 5))), .c (.int .i64 c)] 90, .own [.c (.ifc 85 (.ptr 4 0)), .c (.lit .i64 (5 : Int))] 84, .own [.c (.str x.2), .c (.int .u32 x.3), .c (.int .u16 q.1)] 87, .ro encCal q.2, .own [.c (.int .i64 x.1), .c (.str x.2), .c (.int .u32 x.3)] 37, .own [.c (.ptr 8 0)] 46, .own [.c (.int .i64 w.1), .c (.int .i64 w.2), .c (.int .i64 w.3), .c (.sli 9 (.c 0) 1 (.c 1) none), .c (.lit .i64 (0 : Int))] 100, .vec (encRow 0) [[.sli 10 (.c 0) 1 (.v w.4.length) none]] 88, .vec (encInt IntKind.u32) w.4 35])))

 (.ret (.ret, [.int .u16 q.1, .sli 5 (.c 0) 3 (.v q.2.length) (some (.v q.3)), .ptr 3 0, .ptr 2 0, .int .i64 (↑i : Int), .ptr 7 0], [.ro encLook [PUnit.unit], .own [.a (encInt IntKind.u32) 5 l] 35, .own [.c (.sli 1 (.c 0) 1 (.v 5) (some (.v 5))), .c (.int .i64 c)] 90, .own [.c (.ifc 85 (.ptr 4 0)), .c (.lit .i64 (5 : Int))] 84, .own [.c (.str s), .c (.int .u32 t), .c (.int .u16 q.1)] 87, .ro encCal q.2, .own [.c (.int .i64 x.1), .c (.str x.2), .c (.int .u32 x.3)] 37, .own [.c (.ptr 8 0)] 46, .own [.c (.int .i64 w.1), .c (.int .i64 w.2), .c (.int .i64 w.3), .c (.sli 9 (.c 0) 1 (.c 1) none), .c (.lit .i64 (0 : Int))] 100, .vec (encRow 0) [[.sli 10 (.c 0) 1 (.v w.4.length) none]] 88, .vec (encInt IntKind.u32) w.4 35]))) := by kernel_rfl
set_option maxRecDepth 100000 in
theorem e_wrb {q : InP} {l : List Int} {c : Int} {s : ByteArray} {t : Int} {x : Cut} {i : Nat} : (execN cfgM 100 1 (restC 1 ev0) (fr 182 n0g (v0b q i ++ [.pnil, .lit .i64 130])) (sX q l c s t x)).bind (canonK 7 [(0,0)] 182 n0w) =
 

 (.br (decide ((1 : Int) ≤ (↑x.2.size : Int)))

 (.br (!decide ((↑x.2.size : Int) ≤ (5 : Int)))

 (.ret (.normal, [.int .u16 q.1, .sli 5 (.c 0) 3 (.v q.2.length) (some (.v q.3)), .ptr 3 0, .ptr 2 0, .int .i64 (↑i : Int), .pnil], [.ro encLook [PUnit.unit], .own [.a (encInt IntKind.u32) 5 l] 35, .own [.c (.sli 1 (.c 0) 1 (.v 5) (some (.v 5))), .c (.int .i64 c)] 90, .own [.c (.ifc 85 (.ptr 4 0)), .c (.lit .i64 (5 : Int))] 84, .own [.c (.str s), .c (.int .u32 t), .c (.int .u16 q.1)] 87, .ro encCal q.2, .own [.c (.int .i64 x.1), .c (.str x.2), .c (.int .u32 x.3)] 37]))

 (.ret (.ret, [.int .u16 q.1, .sli 5 (.c 0) 3 (.v q.2.length) (some (.v q.3)), .ptr 3 0, .ptr 2 0, .int .i64 (↑i : Int), .pnil], [.ro encLook [PUnit.unit], .own [.a (encInt IntKind.u32) 5 l] 35, .own [.c (.sli 1 (.c 0) 1 (.v 5) (some (.v 5))), .c (.int .i64 c)] 90, .own [.c (.ifc 85 (.ptr 4 0)), .c (.lit .i64 (5 : Int))] 84, .own [.c (.str x.2), .c (.int .u32 x.3), .c (.int .u16 q.1)] 87, .ro encCal q.2, .own [.c (.int .i64 x.1), .c (.str x.2), .c (.int .u32 x.3)] 37])))

 (.ret (.normal, [.int .u16 q.1, .sli 5 (.c 0) 3 (.v q.2.length) (some (.v q.3)), .ptr 3 0, .ptr 2 0, .int .i64 (↑i : Int), .pnil], [.ro encLook [PUnit.unit], .own [.a (encInt IntKind.u32) 5 l] 35, .own [.c (.sli 1 (.c 0) 1 (.v 5) (some (.v 5))), .c (.int .i64 c)] 90, .own [.c (.ifc 85 (.ptr 4 0)), .c (.lit .i64 (5 : Int))] 84, .own [.c (.str s), .c (.int .u32 t), .c (.int .u16 q.1)] 87, .ro encCal q.2, .own [.c (.int .i64 x.1), .c (.str x.2), .c (.int .u32 x.3)] 37]))) := by kernel_rfl
set_option maxRecDepth 100000 in
theorem e_reg {q : InP} {l : List Int} {c : Int} {s : ByteArray} {t : Int} {x : Cut} {i : Nat} {w : Wr} : (exec cfgM 100 reg2 (fr 182 n0w (v0a q i ++ [.ptr 7 0])) (sXW q l c s t x w 0)).bind (canonK 11 [(0,0)] 182 n0l) =
 

 (.ret (.normal, [.int .u16 q.1, .sli 5 (.c 0) 3 (.v q.2.length) (some (.v q.3)), .ptr 3 0, .ptr 2 0, .int .i64 (↑i : Int), .ptr 7 0, .lit .i64 (0 : Int)], [.ro encLook [PUnit.unit], .own [.a (encInt IntKind.u32) 5 l] 35, .own [.c (.sli 1 (.c 0) 1 (.v 5) (some (.v 5))), .c (.int .i64 c)] 90, .own [.c (.ifc 85 (.ptr 4 0)), .c (.lit .i64 (5 : Int))] 84, .own [.c (.str s), .c (.int .u32 t), .c (.int .u16 q.1)] 87, .ro encCal q.2, .own [.c (.int .i64 x.1), .c (.str x.2), .c (.int .u32 x.3)] 37, .own [.c (.ptr 8 0)] 46, .own [.c (.int .i64 w.1), .c (.int .i64 w.2), .c (.int .i64 w.3), .c (.sli 9 (.c 0) 1 (.c 1) none), .c (.lit .i64 (0 : Int))] 100, .vec (encRow 0) [[.sli 10 (.c 0) 1 (.v w.4.length) none]] 88, .vec (encInt IntKind.u32) w.4 35])) := by kernel_rfl
set_option maxRecDepth 100000 in
theorem e_regb {q : InP} {l : List Int} {c : Int} {s : ByteArray} {t : Int} {x : Cut} {i : Nat} : (exec cfgM 100 reg2 (fr 182 n0w (v0a q i ++ [.pnil])) (sX q l c s t x)).bind (canonK 7 [(0,0)] 182 n0l) =
 

 (.ret (.normal, [.int .u16 q.1, .sli 5 (.c 0) 3 (.v q.2.length) (some (.v q.3)), .ptr 3 0, .ptr 2 0, .int .i64 (↑i : Int), .pnil, .lit .i64 (0 : Int)], [.ro encLook [PUnit.unit], .own [.a (encInt IntKind.u32) 5 l] 35, .own [.c (.sli 1 (.c 0) 1 (.v 5) (some (.v 5))), .c (.int .i64 c)] 90, .own [.c (.ifc 85 (.ptr 4 0)), .c (.lit .i64 (5 : Int))] 84, .own [.c (.str s), .c (.int .u32 t), .c (.int .u16 q.1)] 87, .ro encCal q.2, .own [.c (.int .i64 x.1), .c (.str x.2), .c (.int .u32 x.3)] 37])) := by kernel_rfl
set_option maxRecDepth 100000 in
theorem e_st0 {q : InP} {l : List Int} {c : Int} {s : ByteArray} {t : Int} {x : Cut} {i : Nat} {w : Wr} {n : Nat} {l' : List Int} {c' : Int} {w' : Wr} {z' : Int} {P : Prop} : (exec (cfgWs (sXW q l c s t x w 0) (sXW q l' c' s t x w' z') false P) 100 round2 (fr 182 n0l (v0a q i ++ [.ptr 7 0, .int .i64 (n : Nat)])) (sXW q l c s t x w 0)).bind (canonK 11 [(0,0)] 182 n0l) =
 

 (.br (decide ((↑n : Int) < (20 : Int)))

 (.eq ([SVal.ptr 8 0, .ptr 2 0] = [SVal.ptr 8 0, .ptr 2 0] ∧ [Blk.ro encLook [PUnit.unit], .own [.a (encInt IntKind.u32) 5 l] 35, .own [.c (.sli 1 (.c 0) 1 (.v 5) (some (.v 5))), .c (.int .i64 c)] 90, .own [.c (.ifc 85 (.ptr 4 0)), .c (.lit .i64 (5 : Int))] 84, .own [.c (.str s), .c (.int .u32 t), .c (.int .u16 q.1)] 87, .ro encCal q.2, .own [.c (.int .i64 x.1), .c (.str x.2), .c (.int .u32 x.3)] 37, .own [.c (.ptr 8 0)] 46, .own [.c (.int .i64 w.1), .c (.int .i64 w.2), .c (.int .i64 w.3), .c (.sli 9 (.c 0) 1 (.c 1) none), .c (.lit .i64 (0 : Int))] 100, .vec (encRow 0) [[.sli 10 (.c 0) 1 (.v w.4.length) none]] 88, .vec (encInt IntKind.u32) w.4 35] = [Blk.ro encLook [PUnit.unit], .own [.a (encInt IntKind.u32) 5 l] 35, .own [.c (.sli 1 (.c 0) 1 (.v 5) (some (.v 5))), .c (.int .i64 c)] 90, .own [.c (.ifc 85 (.ptr 4 0)), .c (.lit .i64 (5 : Int))] 84, .own [.c (.str s), .c (.int .u32 t), .c (.int .u16 q.1)] 87, .ro encCal q.2, .own [.c (.int .i64 x.1), .c (.str x.2), .c (.int .u32 x.3)] 37, .own [.c (.ptr 8 0)] 46, .own [.c (.int .i64 w.1), .c (.int .i64 w.2), .c (.int .i64 w.3), .c (.sli 9 (.c 0) 1 (.c 1) none), .c (.lit .i64 (0 : Int))] 100, .vec (encRow 0) [[.sli 10 (.c 0) 1 (.v w.4.length) none]] 88, .vec (encInt IntKind.u32) w.4 35] ∧ P)

 (.need (inR .i64 ((↑n : Int) + (1 : Int)))

 (.ret (.normal, [.int .u16 q.1, .sli 5 (.c 0) 3 (.v q.2.length) (some (.v q.3)), .ptr 3 0, .ptr 2 0, .int .i64 (↑i : Int), .ptr 7 0, .int .i64 ((↑n : Int) + (1 : Int))], [.ro encLook [PUnit.unit], .own [.a (encInt IntKind.u32) 5 l'] 35, .own [.c (.sli 1 (.c 0) 1 (.v 5) (some (.v 5))), .c (.int .i64 c')] 90, .own [.c (.ifc 85 (.ptr 4 0)), .c (.lit .i64 (5 : Int))] 84, .own [.c (.str s), .c (.int .u32 t), .c (.int .u16 q.1)] 87, .ro encCal q.2, .own [.c (.int .i64 x.1), .c (.str x.2), .c (.int .u32 x.3)] 37, .own [.c (.ptr 8 0)] 46, .own [.c (.int .i64 w'.1), .c (.int .i64 w'.2), .c (.int .i64 w'.3), .c (.sli 9 (.c 0) 1 (.c 1) none), .c (.lit .i64 z')] 100, .vec (encRow 0) [[.sli 10 (.c 0) 1 (.v w'.4.length) none]] 88, .vec (encInt IntKind.u32) w'.4 35]))))

 (.ret (.exit 2, [.int .u16 q.1, .sli 5 (.c 0) 3 (.v q.2.length) (some (.v q.3)), .ptr 3 0, .ptr 2 0, .int .i64 (↑i : Int), .ptr 7 0, .int .i64 (↑n : Int)], [.ro encLook [PUnit.unit], .own [.a (encInt IntKind.u32) 5 l] 35, .own [.c (.sli 1 (.c 0) 1 (.v 5) (some (.v 5))), .c (.int .i64 c)] 90, .own [.c (.ifc 85 (.ptr 4 0)), .c (.lit .i64 (5 : Int))] 84, .own [.c (.str s), .c (.int .u32 t), .c (.int .u16 q.1)] 87, .ro encCal q.2, .own [.c (.int .i64 x.1), .c (.str x.2), .c (.int .u32 x.3)] 37, .own [.c (.ptr 8 0)] 46, .own [.c (.int .i64 w.1), .c (.int .i64 w.2), .c (.int .i64 w.3), .c (.sli 9 (.c 0) 1 (.c 1) none), .c (.lit .i64 (0 : Int))] 100, .vec (encRow 0) [[.sli 10 (.c 0) 1 (.v w.4.length) none]] 88, .vec (encInt IntKind.u32) w.4 35]))) := by kernel_rfl
set_option maxRecDepth 100000 in
theorem e_st1 {q : InP} {l : List Int} {c : Int} {s : ByteArray} {t : Int} {x : Cut} {i : Nat} {w : Wr} {n : Nat} {l' : List Int} {c' : Int} {w' : Wr} {z' : Int} {P : Prop} : (exec (cfgWs (sXW q l c s t x w 0) (sXW q l' c' s t x w' z') true P) 100 round2 (fr 182 n0l (v0a q i ++ [.ptr 7 0, .int .i64 (n : Nat)])) (sXW q l c s t x w 0)).bind (canonK 11 [(0,0)] 182 n0l) =
 

 (.br (decide ((↑n : Int) < (20 : Int)))

 (.eq ([SVal.ptr 8 0, .ptr 2 0] = [SVal.ptr 8 0, .ptr 2 0] ∧ [Blk.ro encLook [PUnit.unit], .own [.a (encInt IntKind.u32) 5 l] 35, .own [.c (.sli 1 (.c 0) 1 (.v 5) (some (.v 5))), .c (.int .i64 c)] 90, .own [.c (.ifc 85 (.ptr 4 0)), .c (.lit .i64 (5 : Int))] 84, .own [.c (.str s), .c (.int .u32 t), .c (.int .u16 q.1)] 87, .ro encCal q.2, .own [.c (.int .i64 x.1), .c (.str x.2), .c (.int .u32 x.3)] 37, .own [.c (.ptr 8 0)] 46, .own [.c (.int .i64 w.1), .c (.int .i64 w.2), .c (.int .i64 w.3), .c (.sli 9 (.c 0) 1 (.c 1) none), .c (.lit .i64 (0 : Int))] 100, .vec (encRow 0) [[.sli 10 (.c 0) 1 (.v w.4.length) none]] 88, .vec (encInt IntKind.u32) w.4 35] = [Blk.ro encLook [PUnit.unit], .own [.a (encInt IntKind.u32) 5 l] 35, .own [.c (.sli 1 (.c 0) 1 (.v 5) (some (.v 5))), .c (.int .i64 c)] 90, .own [.c (.ifc 85 (.ptr 4 0)), .c (.lit .i64 (5 : Int))] 84, .own [.c (.str s), .c (.int .u32 t), .c (.int .u16 q.1)] 87, .ro encCal q.2, .own [.c (.int .i64 x.1), .c (.str x.2), .c (.int .u32 x.3)] 37, .own [.c (.ptr 8 0)] 46, .own [.c (.int .i64 w.1), .c (.int .i64 w.2), .c (.int .i64 w.3), .c (.sli 9 (.c 0) 1 (.c 1) none), .c (.lit .i64 (0 : Int))] 100, .vec (encRow 0) [[.sli 10 (.c 0) 1 (.v w.4.length) none]] 88, .vec (encInt IntKind.u32) w.4 35] ∧ P)

 (.ret (.exit 2, [.int .u16 q.1, .sli 5 (.c 0) 3 (.v q.2.length) (some (.v q.3)), .ptr 3 0, .ptr 2 0, .int .i64 (↑i : Int), .ptr 7 0, .int .i64 (↑n : Int)], [.ro encLook [PUnit.unit], .own [.a (encInt IntKind.u32) 5 l'] 35, .own [.c (.sli 1 (.c 0) 1 (.v 5) (some (.v 5))), .c (.int .i64 c')] 90, .own [.c (.ifc 85 (.ptr 4 0)), .c (.lit .i64 (5 : Int))] 84, .own [.c (.str s), .c (.int .u32 t), .c (.int .u16 q.1)] 87, .ro encCal q.2, .own [.c (.int .i64 x.1), .c (.str x.2), .c (.int .u32 x.3)] 37, .own [.c (.ptr 8 0)] 46, .own [.c (.int .i64 w'.1), .c (.int .i64 w'.2), .c (.int .i64 w'.3), .c (.sli 9 (.c 0) 1 (.c 1) none), .c (.lit .i64 z')] 100, .vec (encRow 0) [[.sli 10 (.c 0) 1 (.v w'.4.length) none]] 88, .vec (encInt IntKind.u32) w'.4 35])))

 (.ret (.exit 2, [.int .u16 q.1, .sli 5 (.c 0) 3 (.v q.2.length) (some (.v q.3)), .ptr 3 0, .ptr 2 0, .int .i64 (↑i : Int), .ptr 7 0, .int .i64 (↑n : Int)], [.ro encLook [PUnit.unit], .own [.a (encInt IntKind.u32) 5 l] 35, .own [.c (.sli 1 (.c 0) 1 (.v 5) (some (.v 5))), .c (.int .i64 c)] 90, .own [.c (.ifc 85 (.ptr 4 0)), .c (.lit .i64 (5 : Int))] 84, .own [.c (.str s), .c (.int .u32 t), .c (.int .u16 q.1)] 87, .ro encCal q.2, .own [.c (.int .i64 x.1), .c (.str x.2), .c (.int .u32 x.3)] 37, .own [.c (.ptr 8 0)] 46, .own [.c (.int .i64 w.1), .c (.int .i64 w.2), .c (.int .i64 w.3), .c (.sli 9 (.c 0) 1 (.c 1) none), .c (.lit .i64 (0 : Int))] 100, .vec (encRow 0) [[.sli 10 (.c 0) 1 (.v w.4.length) none]] 88, .vec (encInt IntKind.u32) w.4 35]))) := by kernel_rfl
set_option maxRecDepth 100000 in
theorem e_stb {q : InP} {l : List Int} {c : Int} {s : ByteArray} {t : Int} {x : Cut} {i : Nat} {n : Nat} : (exec cfgM 100 round2 (fr 182 n0l (v0a q i ++ [.pnil, .int .i64 (n : Nat)])) (sX q l c s t x)).bind (canonK 7 [(0,0)] 182 n0l) =
 

 (.br (decide ((↑n : Int) < (20 : Int)))

 (.ret (.exit 2, [.int .u16 q.1, .sli 5 (.c 0) 3 (.v q.2.length) (some (.v q.3)), .ptr 3 0, .ptr 2 0, .int .i64 (↑i : Int), .pnil, .int .i64 (↑n : Int)], [.ro encLook [PUnit.unit], .own [.a (encInt IntKind.u32) 5 l] 35, .own [.c (.sli 1 (.c 0) 1 (.v 5) (some (.v 5))), .c (.int .i64 c)] 90, .own [.c (.ifc 85 (.ptr 4 0)), .c (.lit .i64 (5 : Int))] 84, .own [.c (.str s), .c (.int .u32 t), .c (.int .u16 q.1)] 87, .ro encCal q.2, .own [.c (.int .i64 x.1), .c (.str x.2), .c (.int .u32 x.3)] 37]))

 (.ret (.exit 2, [.int .u16 q.1, .sli 5 (.c 0) 3 (.v q.2.length) (some (.v q.3)), .ptr 3 0, .ptr 2 0, .int .i64 (↑i : Int), .pnil, .int .i64 (↑n : Int)], [.ro encLook [PUnit.unit], .own [.a (encInt IntKind.u32) 5 l] 35, .own [.c (.sli 1 (.c 0) 1 (.v 5) (some (.v 5))), .c (.int .i64 c)] 90, .own [.c (.ifc 85 (.ptr 4 0)), .c (.lit .i64 (5 : Int))] 84, .own [.c (.str s), .c (.int .u32 t), .c (.int .u16 q.1)] 87, .ro encCal q.2, .own [.c (.int .i64 x.1), .c (.str x.2), .c (.int .u32 x.3)] 37]))) := by kernel_rfl
set_option maxRecDepth 100000 in
theorem e_ext {q : InP} {l : List Int} {c : Int} {s : ByteArray} {t : Int} {x : Cut} {i : Nat} {n : Nat} {w : Wr} {z : Int} : (exec cfgM 100 ext2 (fr 182 n0l (v0a q i ++ [.ptr 7 0, .int .i64 (n : Nat)])) (sXW q l c s t x w z)).bind (canonK 6 [(0,0)] 182 n0a) =
 

 (.ret (.exit 1, [.int .u16 q.1, .sli 5 (.c 0) 3 (.v q.2.length) (some (.v q.3)), .ptr 3 0, .ptr 2 0, .int .i64 (↑i : Int)], [.ro encLook [PUnit.unit], .own [.a (encInt IntKind.u32) 5 l] 35, .own [.c (.sli 1 (.c 0) 1 (.v 5) (some (.v 5))), .c (.int .i64 c)] 90, .own [.c (.ifc 85 (.ptr 4 0)), .c (.lit .i64 (5 : Int))] 84, .own [.c (.str s), .c (.int .u32 t), .c (.int .u16 q.1)] 87, .ro encCal q.2])) := by kernel_rfl
set_option maxRecDepth 100000 in
theorem e_extb {q : InP} {l : List Int} {c : Int} {s : ByteArray} {t : Int} {x : Cut} {i : Nat} {n : Nat} : (exec cfgM 100 ext2 (fr 182 n0l (v0a q i ++ [.pnil, .int .i64 (n : Nat)])) (sX q l c s t x)).bind (canonK 6 [(0,0)] 182 n0a) =
 

 (.ret (.exit 1, [.int .u16 q.1, .sli 5 (.c 0) 3 (.v q.2.length) (some (.v q.3)), .ptr 3 0, .ptr 2 0, .int .i64 (↑i : Int)], [.ro encLook [PUnit.unit], .own [.a (encInt IntKind.u32) 5 l] 35, .own [.c (.sli 1 (.c 0) 1 (.v 5) (some (.v 5))), .c (.int .i64 c)] 90, .own [.c (.ifc 85 (.ptr 4 0)), .c (.lit .i64 (5 : Int))] 84, .own [.c (.str s), .c (.int .u32 t), .c (.int .u16 q.1)] 87, .ro encCal q.2])) := by kernel_rfl
set_option maxRecDepth 100000 in
theorem o_get {q : InP} {l : List Int} {c : Int} {s : ByteArray} {t : Int} {x : Cut} {i : Nat} {v : SVal} : (execN cfgM 100 2 odd0 (fr 182 n0k (v0b q i ++ [v])) (sX q l c s t x)).bind (canonK 7 [(0,0)] 182 n0r) =
 

 (.need (true)

 (.ret (.normal, [.int .u16 q.1, .sli 5 (.c 0) 3 (.v q.2.length) (some (.v q.3)), .ptr 3 0, .ptr 2 0, .int .i64 (↑i : Int), .ptr 6 0, .ptr 7 0], [.ro encLook [PUnit.unit], .own [.a (encInt IntKind.u32) 5 l] 35, .own [.c (.sli 1 (.c 0) 1 (.v 5) (some (.v 5))), .c (.int .i64 c)] 90, .own [.c (.ifc 85 (.ptr 4 0)), .c (.lit .i64 (5 : Int))] 84, .own [.c (.str s), .c (.int .u32 t), .c (.int .u16 q.1)] 87, .ro encCal q.2, .own [.c (.int .i64 x.1), .c (.str x.2), .c (.int .u32 x.3)] 37, .own [.c (.ptr 8 0), .c (.lit .i64 (5 : Int))] 52, .own [.c (.lit .i64 (0 : Int)), .c (.lit .i64 (4 : Int)), .c (.lit .i64 (0 : Int)), .c (.lit .i64 (0 : Int)), .c (.lit .u32 (0 : Int)), .c (.lit .u32 (0 : Int)), .c (.lit .u32 (0 : Int)), .c (.lit .u32 (0 : Int)), .c (.lit .u32 (0 : Int)), .c (.lit .u32 (0 : Int)), .c (.lit .u32 (0 : Int)), .c (.lit .u32 (0 : Int)), .c (.lit .u32 (0 : Int)), .c (.lit .u32 (0 : Int)), .c (.lit .u32 (0 : Int)), .c (.lit .u32 (0 : Int)), .c (.lit .u32 (0 : Int)), .c (.lit .u32 (0 : Int)), .c (.lit .u32 (0 : Int)), .c (.lit .u32 (0 : Int)), .c (.lit .u32 (0 : Int)), .c (.lit .u32 (0 : Int)), .c (.lit .u32 (0 : Int)), .c (.lit .u32 (0 : Int)), .c (.lit .u32 (0 : Int)), .c (.lit .u32 (0 : Int)), .c (.lit .u32 (0 : Int)), .c (.lit .u32 (0 : Int)), .c (.lit .u32 (0 : Int)), .c (.lit .u32 (0 : Int)), .c (.lit .u32 (0 : Int)), .c (.lit .u32 (0 : Int)), .c (.lit .u32 (0 : Int)), .c (.lit .u32 (0 : Int)), .c (.lit .u32 (0 : Int)), .c (.lit .u32 (0 : Int)), .c (.lit .u32 (0 : Int)), .c (.bl false), .c (.lit .i64 (0 : Int))] 107]))) := by kernel_rfl
set_option maxRecDepth 100000 in
theorem o_reg {q : InP} {l : List Int} {c : Int} {s : ByteArray} {t : Int} {x : Cut} {i : Nat} {r : Rd} : (exec cfgM 100 reg4 (fr 182 n0r (v0b q i ++ [.ptr 7 0])) (sXG q l c s t x r)).bind (canonK 9 [(0,0)] 182 n0m) =
 

 (.ret (.normal, [.int .u16 q.1, .sli 5 (.c 0) 3 (.v q.2.length) (some (.v q.3)), .ptr 3 0, .ptr 2 0, .int .i64 (↑i : Int), .ptr 6 0, .ptr 7 0, .lit .i64 (0 : Int)], [.ro encLook [PUnit.unit], .own [.a (encInt IntKind.u32) 5 l] 35, .own [.c (.sli 1 (.c 0) 1 (.v 5) (some (.v 5))), .c (.int .i64 c)] 90, .own [.c (.ifc 85 (.ptr 4 0)), .c (.lit .i64 (5 : Int))] 84, .own [.c (.str s), .c (.int .u32 t), .c (.int .u16 q.1)] 87, .ro encCal q.2, .own [.c (.int .i64 x.1), .c (.str x.2), .c (.int .u32 x.3)] 37, .own [.c (.ptr 8 0), .c (.int .i64 (5 : Int))] 52, .own [.c (.int .i64 r.1), .c (.int .i64 r.2), .c (.int .i64 r.3), .c (.int .i64 r.4), .c (.int .u32 r.5), .a (encInt IntKind.u32) 32 r.6, .c (.sb r.7), .c (.int .i64 r.8)] 107])) := by kernel_rfl
set_option maxRecDepth 100000 in
theorem o_st {q : InP} {l : List Int} {c : Int} {s : ByteArray} {t : Int} {x : Cut} {i : Nat} {r : Rd} {n : Nat} : (exec (cfgRs q l c s t x r) 100 round4 (fr 182 n0m (v0b q i ++ [.ptr 7 0, .int .i64 (n : Nat)])) (sXG q l c s t x r)).bind (canonK 9 [(0,0)] 182 n0m) =
 

 (.br (decide ((↑n : Int) < (20 : Int)))

 (.eq ([SVal.ptr 8 0, .ptr 2 0] = [SVal.ptr 8 0, .ptr 2 0] ∧ [Blk.ro encLook [PUnit.unit], .own [.a (encInt IntKind.u32) 5 l] 35, .own [.c (.sli 1 (.c 0) 1 (.v 5) (some (.v 5))), .c (.int .i64 c)] 90, .own [.c (.ifc 85 (.ptr 4 0)), .c (.lit .i64 (5 : Int))] 84, .own [.c (.str s), .c (.int .u32 t), .c (.int .u16 q.1)] 87, .ro encCal q.2, .own [.c (.int .i64 x.1), .c (.str x.2), .c (.int .u32 x.3)] 37, .own [.c (.ptr 8 0), .c (.int .i64 (5 : Int))] 52, .own [.c (.int .i64 r.1), .c (.int .i64 r.2), .c (.int .i64 r.3), .c (.int .i64 r.4), .c (.int .u32 r.5), .a (encInt IntKind.u32) 32 r.6, .c (.sb r.7), .c (.int .i64 r.8)] 107] = [Blk.ro encLook [PUnit.unit], .own [.a (encInt IntKind.u32) 5 l] 35, .own [.c (.sli 1 (.c 0) 1 (.v 5) (some (.v 5))), .c (.int .i64 c)] 90, .own [.c (.ifc 85 (.ptr 4 0)), .c (.lit .i64 (5 : Int))] 84, .own [.c (.str s), .c (.int .u32 t), .c (.int .u16 q.1)] 87, .ro encCal q.2, .own [.c (.int .i64 x.1), .c (.str x.2), .c (.int .u32 x.3)] 37, .own [.c (.ptr 8 0), .c (.int .i64 (5 : Int))] 52, .own [.c (.int .i64 r.1), .c (.int .i64 r.2), .c (.int .i64 r.3), .c (.int .i64 r.4), .c (.int .u32 r.5), .a (encInt IntKind.u32) 32 r.6, .c (.sb r.7), .c (.int .i64 r.8)] 107] ∧ ROk 5 l c r)

 (.br (!(rStep r l).7)

 (.need (inR .i64 ((↑n : Int) + (1 : Int)))

 (.ret (.normal, [.int .u16 q.1, .sli 5 (.c 0) 3 (.v q.2.length) (some (.v q.3)), .ptr 3 0, .ptr 2 0, .int .i64 (↑i : Int), .ptr 6 0, .ptr 7 0, .int .i64 ((↑n : Int) + (1 : Int))], [.ro encLook [PUnit.unit], .own [.a (encInt IntKind.u32) 5 l] 35, .own [.c (.sli 1 (.c 0) 1 (.v 5) (some (.v 5))), .c (.int .i64 (c + (1 : Int)))] 90, .own [.c (.ifc 85 (.ptr 4 0)), .c (.lit .i64 (5 : Int))] 84, .own [.c (.str s), .c (.int .u32 t), .c (.int .u16 q.1)] 87, .ro encCal q.2, .own [.c (.int .i64 x.1), .c (.str x.2), .c (.int .u32 x.3)] 37, .own [.c (.ptr 8 0), .c (.int .i64 (5 : Int))] 52, .own [.c (.int .i64 (rStep r l).1), .c (.int .i64 (rStep r l).2), .c (.int .i64 (rStep r l).3), .c (.int .i64 (rStep r l).4), .c (.int .u32 (rStep r l).5), .a (encInt IntKind.u32) 32 (rStep r l).6, .c (.sb (rStep r l).7), .c (.int .i64 (rStep r l).8)] 107])))

 (.ret (.exit 4, [.int .u16 q.1, .sli 5 (.c 0) 3 (.v q.2.length) (some (.v q.3)), .ptr 3 0, .ptr 2 0, .int .i64 (↑i : Int), .ptr 6 0, .ptr 7 0, .int .i64 (↑n : Int)], [.ro encLook [PUnit.unit], .own [.a (encInt IntKind.u32) 5 l] 35, .own [.c (.sli 1 (.c 0) 1 (.v 5) (some (.v 5))), .c (.int .i64 (c + (1 : Int)))] 90, .own [.c (.ifc 85 (.ptr 4 0)), .c (.lit .i64 (5 : Int))] 84, .own [.c (.str s), .c (.int .u32 t), .c (.int .u16 q.1)] 87, .ro encCal q.2, .own [.c (.int .i64 x.1), .c (.str x.2), .c (.int .u32 x.3)] 37, .own [.c (.ptr 8 0), .c (.int .i64 (5 : Int))] 52, .own [.c (.int .i64 (rStep r l).1), .c (.int .i64 (rStep r l).2), .c (.int .i64 (rStep r l).3), .c (.int .i64 (rStep r l).4), .c (.int .u32 (rStep r l).5), .a (encInt IntKind.u32) 32 (rStep r l).6, .c (.sb (rStep r l).7), .c (.int .i64 (rStep r l).8)] 107]))))

 (.ret (.exit 4, [.int .u16 q.1, .sli 5 (.c 0) 3 (.v q.2.length) (some (.v q.3)), .ptr 3 0, .ptr 2 0, .int .i64 (↑i : Int), .ptr 6 0, .ptr 7 0, .int .i64 (↑n : Int)], [.ro encLook [PUnit.unit], .own [.a (encInt IntKind.u32) 5 l] 35, .own [.c (.sli 1 (.c 0) 1 (.v 5) (some (.v 5))), .c (.int .i64 c)] 90, .own [.c (.ifc 85 (.ptr 4 0)), .c (.lit .i64 (5 : Int))] 84, .own [.c (.str s), .c (.int .u32 t), .c (.int .u16 q.1)] 87, .ro encCal q.2, .own [.c (.int .i64 x.1), .c (.str x.2), .c (.int .u32 x.3)] 37, .own [.c (.ptr 8 0), .c (.int .i64 (5 : Int))] 52, .own [.c (.int .i64 r.1), .c (.int .i64 r.2), .c (.int .i64 r.3), .c (.int .i64 r.4), .c (.int .u32 r.5), .a (encInt IntKind.u32) 32 r.6, .c (.sb r.7), .c (.int .i64 r.8)] 107]))) := by kernel_rfl
set_option maxRecDepth 100000 in
theorem o_msg {q : InP} {l : List Int} {c : Int} {s : ByteArray} {t : Int} {x : Cut} {i : Nat} {r : Rd} {n m : Nat} : (execN (cfgMg q l c s t x r m) 100 1 (restC 3 odd0) (fr 182 n0m (v0b q i ++ [.ptr 7 0, .int .i64 (n : Nat)])) (sXT q l c s t x r)).bind (canonK 7 [(0,0)] 182 [0, 1, 5, 7, 9, 10, 17, 18, 19]) =
 

 (.eq ([SVal.ptr 7 0] = [SVal.ptr 7 0] ∧ [Blk.ro encLook [PUnit.unit], .own [.a (encInt IntKind.u32) 5 l] 35, .own [.c (.sli 1 (.c 0) 1 (.v 5) (some (.v 5))), .c (.int .i64 c)] 90, .own [.c (.ifc 85 (.ptr 4 0)), .c (.lit .i64 (5 : Int))] 84, .own [.c (.str s), .c (.int .u32 t), .c (.int .u16 q.1)] 87, .ro encCal q.2, .own [.c (.int .i64 x.1), .c (.str x.2), .c (.int .u32 x.3)] 37, .own [.c (.ptr 8 0), .c (.int .i64 (5 : Int))] 52, .own [.c (.int .i64 r.1), .c (.int .i64 r.2), .c (.int .i64 r.3), .c (.int .i64 r.4), .c (.int .u32 r.5), .a (encInt IntKind.u32) 32 r.6, .c (.sb true), .c (.int .i64 r.8)] 107] = [Blk.ro encLook [PUnit.unit], .own [.a (encInt IntKind.u32) 5 l] 35, .own [.c (.sli 1 (.c 0) 1 (.v 5) (some (.v 5))), .c (.int .i64 c)] 90, .own [.c (.ifc 85 (.ptr 4 0)), .c (.lit .i64 (5 : Int))] 84, .own [.c (.str s), .c (.int .u32 t), .c (.int .u16 q.1)] 87, .ro encCal q.2, .own [.c (.int .i64 x.1), .c (.str x.2), .c (.int .u32 x.3)] 37, .own [.c (.ptr 8 0), .c (.int .i64 (5 : Int))] 52, .own [.c (.int .i64 r.1), .c (.int .i64 r.2), .c (.int .i64 r.3), .c (.int .i64 r.4), .c (.int .u32 r.5), .a (encInt IntKind.u32) 32 r.6, .c (.sb true), .c (.int .i64 r.8)] 107] ∧ r.2 = (4 : Int) ∧ imin (r.6.getD 1 (0 : Int)) (5 : Int) = (↑m : Int) ∧ m ≤ 5)

 (.ret (.normal, [.int .u16 q.1, .sli 5 (.c 0) 3 (.v q.2.length) (some (.v q.3)), .ptr 3 0, .ptr 2 0, .int .i64 (↑i : Int), .ptr 6 0, .str (strU (unpN (L32 r.l) m m)), .int .u32 (r.6.getD 0 (0 : Int)), .bl true], [.ro encLook [PUnit.unit], .own [.a (encInt IntKind.u32) 5 l] 35, .own [.c (.sli 1 (.c 0) 1 (.v 5) (some (.v 5))), .c (.int .i64 c)] 90, .own [.c (.ifc 85 (.ptr 4 0)), .c (.lit .i64 (5 : Int))] 84, .own [.c (.str s), .c (.int .u32 t), .c (.int .u16 q.1)] 87, .ro encCal q.2, .own [.c (.int .i64 x.1), .c (.str x.2), .c (.int .u32 x.3)] 37]))) := by kernel_rfl
set_option maxRecDepth 100000 in
theorem o_end {q : InP} {l : List Int} {c : Int} {s : ByteArray} {t : Int} {x : Cut} {i : Nat} {s' : ByteArray} {t' : Int} : (exec cfgM 100 (restC 4 odd0) (fr 182 [0, 1, 5, 7, 9, 10, 17, 18, 19] (v0b q i ++ [.str s', .int .u32 t', .bl true])) (sX q l c s t x)).bind (canonK 6 [(0,0)] 182 n0a) =
 

 (.br (q.1 == (0 : Int))

 (.br (strEq s { data := { toList := [] } })

 (.ret (.ret, [.int .u16 q.1, .sli 5 (.c 0) 3 (.v q.2.length) (some (.v q.3)), .ptr 3 0, .ptr 2 0, .int .i64 (↑i : Int)], [.ro encLook [PUnit.unit], .own [.a (encInt IntKind.u32) 5 l] 35, .own [.c (.sli 1 (.c 0) 1 (.v 5) (some (.v 5))), .c (.int .i64 c)] 90, .own [.c (.ifc 85 (.ptr 4 0)), .c (.lit .i64 (5 : Int))] 84, .own [.c (.str s), .c (.int .u32 t), .c (.int .u16 q.1)] 87, .ro encCal q.2]))

 (.br (q.1 == (0 : Int))
 (.eq (T.ret (SVal.int IntKind.u32 t) = T.ret (SVal.int IntKind.u32 t))
 (.eq (T.ret (SVal.int IntKind.u16 q.1) = T.ret (SVal.int IntKind.u16 q.1))

 (.ret (.ret, [.int .u16 q.1, .sli 5 (.c 0) 3 (.v q.2.length) (some (.v q.3)), .ptr 3 0, .ptr 2 0, .int .i64 (↑i : Int)], [.ro encLook [PUnit.unit], .own [.a (encInt IntKind.u32) 5 l] 35, .own [.c (.sli 1 (.c 0) 1 (.v 5) (some (.v 5))), .c (.int .i64 c)] 90, .own [.c (.ifc 85 (.ptr 4 0)), .c (.lit .i64 (5 : Int))] 84, .own [.c (.str s), .c (.int .u32 t), .c (.int .u16 q.1)] 87, .ro encCal q.2]))))

 (.need (inR .u32 q.1)
 (.eq (T.ret (SVal.int IntKind.u32 t) = T.ret (SVal.int IntKind.u32 t))
 (.eq (T.ret (SVal.int IntKind.u16 q.1) = T.ret (SVal.int IntKind.u16 q.1))

 (.ret (.ret, [.int .u16 q.1, .sli 5 (.c 0) 3 (.v q.2.length) (some (.v q.3)), .ptr 3 0, .ptr 2 0, .int .i64 (↑i : Int)], [.ro encLook [PUnit.unit], .own [.a (encInt IntKind.u32) 5 l] 35, .own [.c (.sli 1 (.c 0) 1 (.v 5) (some (.v 5))), .c (.int .i64 c)] 90, .own [.c (.ifc 85 (.ptr 4 0)), .c (.lit .i64 (5 : Int))] 84, .own [.c (.str s), .c (.int .u32 t), .c (.int .u16 q.1)] 87, .ro encCal q.2])))))))

 (.need (inR .u32 q.1)

 (.br (strEq s { data := { toList := [] } })

 (.br (!strEq s' { data := { toList := [] } })

 (.ret (.ret, [.int .u16 q.1, .sli 5 (.c 0) 3 (.v q.2.length) (some (.v q.3)), .ptr 3 0, .ptr 2 0, .int .i64 (↑i : Int)], [.ro encLook [PUnit.unit], .own [.a (encInt IntKind.u32) 5 l] 35, .own [.c (.sli 1 (.c 0) 1 (.v 5) (some (.v 5))), .c (.int .i64 c)] 90, .own [.c (.ifc 85 (.ptr 4 0)), .c (.lit .i64 (5 : Int))] 84, .own [.c (.str s), .c (.int .u32 t), .c (.int .u16 q.1)] 87, .ro encCal q.2]))

 (.br (!false == !strEq s' { data := { toList := [] } })

 (.ret (.ret, [.int .u16 q.1, .sli 5 (.c 0) 3 (.v q.2.length) (some (.v q.3)), .ptr 3 0, .ptr 2 0, .int .i64 (↑i : Int)], [.ro encLook [PUnit.unit], .own [.a (encInt IntKind.u32) 5 l] 35, .own [.c (.sli 1 (.c 0) 1 (.v 5) (some (.v 5))), .c (.int .i64 c)] 90, .own [.c (.ifc 85 (.ptr 4 0)), .c (.lit .i64 (5 : Int))] 84, .own [.c (.str s), .c (.int .u32 t), .c (.int .u16 q.1)] 87, .ro encCal q.2]))

 (.ret (.normal, [.int .u16 q.1, .sli 5 (.c 0) 3 (.v q.2.length) (some (.v q.3)), .ptr 3 0, .ptr 2 0, .int .i64 (↑i : Int)], [.ro encLook [PUnit.unit], .own [.a (encInt IntKind.u32) 5 l] 35, .own [.c (.sli 1 (.c 0) 1 (.v 5) (some (.v 5))), .c (.int .i64 c)] 90, .own [.c (.ifc 85 (.ptr 4 0)), .c (.lit .i64 (5 : Int))] 84, .own [.c (.str s), .c (.int .u32 t), .c (.int .u16 q.1)] 87, .ro encCal q.2]))))

 (.br (q.1 == (0 : Int))
 (.eq (T.ret (SVal.int IntKind.u32 t) = T.ret (SVal.int IntKind.u32 t))
 (.eq (T.ret (SVal.int IntKind.u16 q.1) = T.ret (SVal.int IntKind.u16 q.1))

 (.br (!strEq s' s)

 (.ret (.ret, [.int .u16 q.1, .sli 5 (.c 0) 3 (.v q.2.length) (some (.v q.3)), .ptr 3 0, .ptr 2 0, .int .i64 (↑i : Int)], [.ro encLook [PUnit.unit], .own [.a (encInt IntKind.u32) 5 l] 35, .own [.c (.sli 1 (.c 0) 1 (.v 5) (some (.v 5))), .c (.int .i64 c)] 90, .own [.c (.ifc 85 (.ptr 4 0)), .c (.lit .i64 (5 : Int))] 84, .own [.c (.str s), .c (.int .u32 t), .c (.int .u16 q.1)] 87, .ro encCal q.2]))

 (.br (!true == !strEq s' { data := { toList := [] } })

 (.ret (.ret, [.int .u16 q.1, .sli 5 (.c 0) 3 (.v q.2.length) (some (.v q.3)), .ptr 3 0, .ptr 2 0, .int .i64 (↑i : Int)], [.ro encLook [PUnit.unit], .own [.a (encInt IntKind.u32) 5 l] 35, .own [.c (.sli 1 (.c 0) 1 (.v 5) (some (.v 5))), .c (.int .i64 c)] 90, .own [.c (.ifc 85 (.ptr 4 0)), .c (.lit .i64 (5 : Int))] 84, .own [.c (.str s), .c (.int .u32 t), .c (.int .u16 q.1)] 87, .ro encCal q.2]))

 (.br (!false == decide (IntKind.u32.wrap (x.3 - t') < q.1))

 (.ret (.ret, [.int .u16 q.1, .sli 5 (.c 0) 3 (.v q.2.length) (some (.v q.3)), .ptr 3 0, .ptr 2 0, .int .i64 (↑i : Int)], [.ro encLook [PUnit.unit], .own [.a (encInt IntKind.u32) 5 l] 35, .own [.c (.sli 1 (.c 0) 1 (.v 5) (some (.v 5))), .c (.int .i64 c)] 90, .own [.c (.ifc 85 (.ptr 4 0)), .c (.lit .i64 (5 : Int))] 84, .own [.c (.str s), .c (.int .u32 t), .c (.int .u16 q.1)] 87, .ro encCal q.2]))

 (.ret (.normal, [.int .u16 q.1, .sli 5 (.c 0) 3 (.v q.2.length) (some (.v q.3)), .ptr 3 0, .ptr 2 0, .int .i64 (↑i : Int)], [.ro encLook [PUnit.unit], .own [.a (encInt IntKind.u32) 5 l] 35, .own [.c (.sli 1 (.c 0) 1 (.v 5) (some (.v 5))), .c (.int .i64 c)] 90, .own [.c (.ifc 85 (.ptr 4 0)), .c (.lit .i64 (5 : Int))] 84, .own [.c (.str s), .c (.int .u32 t), .c (.int .u16 q.1)] 87, .ro encCal q.2])))))))

 (.need (inR .u32 q.1)
 (.eq (T.ret (SVal.int IntKind.u32 t) = T.ret (SVal.int IntKind.u32 t))
 (.eq (T.ret (SVal.int IntKind.u16 q.1) = T.ret (SVal.int IntKind.u16 q.1))

 (.br (!strEq s' s)

 (.ret (.ret, [.int .u16 q.1, .sli 5 (.c 0) 3 (.v q.2.length) (some (.v q.3)), .ptr 3 0, .ptr 2 0, .int .i64 (↑i : Int)], [.ro encLook [PUnit.unit], .own [.a (encInt IntKind.u32) 5 l] 35, .own [.c (.sli 1 (.c 0) 1 (.v 5) (some (.v 5))), .c (.int .i64 c)] 90, .own [.c (.ifc 85 (.ptr 4 0)), .c (.lit .i64 (5 : Int))] 84, .own [.c (.str s), .c (.int .u32 t), .c (.int .u16 q.1)] 87, .ro encCal q.2]))

 (.br (!true == !strEq s' { data := { toList := [] } })

 (.ret (.ret, [.int .u16 q.1, .sli 5 (.c 0) 3 (.v q.2.length) (some (.v q.3)), .ptr 3 0, .ptr 2 0, .int .i64 (↑i : Int)], [.ro encLook [PUnit.unit], .own [.a (encInt IntKind.u32) 5 l] 35, .own [.c (.sli 1 (.c 0) 1 (.v 5) (some (.v 5))), .c (.int .i64 c)] 90, .own [.c (.ifc 85 (.ptr 4 0)), .c (.lit .i64 (5 : Int))] 84, .own [.c (.str s), .c (.int .u32 t), .c (.int .u16 q.1)] 87, .ro encCal q.2]))

 (.br (!decide (IntKind.u32.wrap (x.3 - t) < q.1) == decide (IntKind.u32.wrap (x.3 - t') < q.1))

 (.ret (.ret, [.int .u16 q.1, .sli 5 (.c 0) 3 (.v q.2.length) (some (.v q.3)), .ptr 3 0, .ptr 2 0, .int .i64 (↑i : Int)], [.ro encLook [PUnit.unit], .own [.a (encInt IntKind.u32) 5 l] 35, .own [.c (.sli 1 (.c 0) 1 (.v 5) (some (.v 5))), .c (.int .i64 c)] 90, .own [.c (.ifc 85 (.ptr 4 0)), .c (.lit .i64 (5 : Int))] 84, .own [.c (.str s), .c (.int .u32 t), .c (.int .u16 q.1)] 87, .ro encCal q.2]))

 (.ret (.normal, [.int .u16 q.1, .sli 5 (.c 0) 3 (.v q.2.length) (some (.v q.3)), .ptr 3 0, .ptr 2 0, .int .i64 (↑i : Int)], [.ro encLook [PUnit.unit], .own [.a (encInt IntKind.u32) 5 l] 35, .own [.c (.sli 1 (.c 0) 1 (.v 5) (some (.v 5))), .c (.int .i64 c)] 90, .own [.c (.ifc 85 (.ptr 4 0)), .c (.lit .i64 (5 : Int))] 84, .own [.c (.str s), .c (.int .u32 t), .c (.int .u16 q.1)] 87, .ro encCal q.2])))))))))))) := by kernel_rfl
set_option maxRecDepth 100000 in
theorem a_inc {q : InP} {l : List Int} {c : Int} {s : ByteArray} {t : Int} {i : Nat} : (exec cfgM 100 inc0 (fr 182 n0a (v0a q i)) (sQ q l c s t)).bind (canonK 6 [(0,0)] 182 n0a) =
 

 (.need (inR .i64 ((↑i : Int) + (1 : Int)))

 (.ret (.normal, [.int .u16 q.1, .sli 5 (.c 0) 3 (.v q.2.length) (some (.v q.3)), .ptr 3 0, .ptr 2 0, .int .i64 ((↑i : Int) + (1 : Int))], [.ro encLook [PUnit.unit], .own [.a (encInt IntKind.u32) 5 l] 35, .own [.c (.sli 1 (.c 0) 1 (.v 5) (some (.v 5))), .c (.int .i64 c)] 90, .own [.c (.ifc 85 (.ptr 4 0)), .c (.lit .i64 (5 : Int))] 84, .own [.c (.str s), .c (.int .u32 t), .c (.int .u16 q.1)] 87, .ro encCal q.2]))) := by kernel_rfl
set_option maxRecDepth 100000 in
theorem a_end {q : InP} {l : List Int} {c : Int} {s : ByteArray} {t : Int} {i : Nat} : (exec cfgM 100 end0 (fr 182 n0a (v0a q i)) (sQ q l c s t)).bind (canonK 6 [(0,0)] 182 [4]) =
 

 (.ret (.ret, [.bl true], [.ro encLook [PUnit.unit], .own [.a (encInt IntKind.u32) 5 l] 35, .own [.c (.sli 1 (.c 0) 1 (.v 5) (some (.v 5))), .c (.int .i64 c)] 90, .own [.c (.ifc 85 (.ptr 4 0)), .c (.lit .i64 (5 : Int))] 84, .own [.c (.str s), .c (.int .u32 t), .c (.int .u16 q.1)] 87, .ro encCal q.2])) := by kernel_rfl
end Go.Proofs.YtdadfgeepinpbaaDoor

/- PortSlot: its rounds. -/
namespace Go.Proofs.YtdadfgeepinpbaaDoor
open Go Go.Proofs.YtdadfgeepinpbaaDoor.Sx
set_option linter.unusedVariables false
theorem verP_getW {q : PutI} (h : PutOk q) {k : Nat} (hk : k < four q.n) : (verP q).getD (2 + k) 0 = ((wN q.s q.s.size k : Nat) : Int) := by
  have hf := four_le h.n
  have hs := h.s
  have hn := h.n
  have h1 : (verP q).getD (2 + k) 0 = (l8 (packN q.s q.s.size)).getD k 0 := by
    unfold verP
    rw [List.getD_eq_getElem?_getD, List.getD_eq_getElem?_getD, List.getElem?_append_right (by simp)]
    simp only [List.length_cons, List.length_nil]
    rw [show 2 + k - (0 + 1 + 1) = k by omega, List.getElem?_take, if_pos hk]
  have h2 : (l8 (packN q.s q.s.size)).getD k 0 = (packN q.s q.s.size).getD k 0 := by
    have hq : k = 0 ∨ k = 1 ∨ k = 2 ∨ k = 3 ∨ k = 4 ∨ k = 5 ∨ k = 6 ∨ k = 7 := by omega
    rcases hq with rfl | rfl | rfl | rfl | rfl | rfl | rfl | rfl <;> rfl
  rw [h1, h2]
  exact packN_w q.s _ (by omega) k (by omega)
theorem u32s_verW {q : PutI} (h : PutOk q) (ht : 0 ≤ q.tick ∧ q.tick < 4294967296) : U32s (verP q) := by
  have hs := h.s
  have hn := h.n
  have hw : ∀ k, k < 8 → 0 ≤ (packN q.s q.s.size).getD k 0 ∧ (packN q.s q.s.size).getD k 0 < 4294967296 := by
    intro k hk
    rw [packN_w q.s _ (by omega) k hk]
    have f0 := fN_lt q.s q.s.size k 0
    have f1 := fN_lt q.s q.s.size k 1
    have f2 := fN_lt q.s q.s.size k 2
    have f3 := fN_lt q.s q.s.size k 3
    unfold wN
    omega
  intro x hx
  unfold verP at hx
  rcases List.mem_append.1 hx with hx | hx
  · simp only [List.mem_cons, List.not_mem_nil, or_false] at hx
    rcases hx with rfl | rfl
    · exact ht
    · omega
  · have hx := List.mem_of_mem_take hx
    simp only [List.mem_cons, List.not_mem_nil, or_false] at hx
    rcases hx with rfl | rfl | rfl | rfl | rfl | rfl | rfl | rfl
    · exact hw 0 (by omega)
    · exact hw 1 (by omega)
    · exact hw 2 (by omega)
    · exact hw 3 (by omega)
    · exact hw 4 (by omega)
    · exact hw 5 (by omega)
    · exact hw 6 (by omega)
    · exact hw 7 (by omega)
theorem vok_ver {s : ByteArray} {t : Int} (h : PutOk ⟨0, 5, s, t⟩) : Vok (fun k => (verP ⟨0, 5, s, t⟩).getD k 0) s t :=
  ⟨rfl, rfl, by have := h.s.2; simp only at this; omega, verP_getW h (k := 0) (by show 0 < four 5; decide), verP_getW h (k := 1) (by show 1 < four 5; decide)⟩
/-- between calls -/
structure IP (q : InP) (i : Nat) (l : List Int) (c : Int) (s : ByteArray) (t : Int) : Prop where
  i40 : i ≤ 40
  age : 1 ≤ q.age ∧ q.age ≤ 65535
  ll : l.length = 5
  z : l.getD 0 0 % 2 = 0 ∧ 0 ≤ l.getD 0 0 ∧ l.getD 0 0 ≤ 2 * (i : Int)
  v : Vok (memF l) s t
  s5 : s.size ≤ 5
  c : 0 ≤ c ∧ c ≤ 10 * (i : Int)
theorem IP.next {q : InP} {i : Nat} {l : List Int} {c : Int} {s : ByteArray} {t : Int} (h : IP q i l c s t) (hi : i < 40) {c' : Int} (hc : c ≤ c' ∧ c' ≤ c + 10) : IP q (i + 1) l c' s t :=
  ⟨by omega, h.age, h.ll, by have := h.z; push_cast; omega, h.v, h.s5, by have := h.c; push_cast; omega⟩
def InvP (w0 : From) (q : InP) (i : Nat) (a : Act) (W : World) : Prop :=
  ∃ l c s t, IP q i l c s t ∧ ∃ env, At [(0, 0)] w0 env (fr 182 n0a (v0a q i)) (sQ q l c s t) a W
abbrev KN := Exit → Act → World → Prop
def EndAt (w0 : From) (q : InP) (i : Nat) (e : Exit) (K : KN) : Prop :=
  ∀ l c s t, IP q (i + 1) l c s t → ∀ env a W, At [(0, 0)] w0 env (fr 182 n0a (v0a q i)) (sQ q l c s t) a W → K e a W
/-- writing, step by step -/
def InvW (w0 : From) (q : InP) (i : Nat) (m : Int) (c0 : Int) (x : Cut) (V : List Int) (n : Nat) (a : Act) (W : World) : Prop :=
  ∃ l w, PW V m n l w ∧ ∃ env, At [(0, 0)] w0 env (fr 182 n0l (v0a q i ++ [.ptr 7 0, .int .i64 (n : Nat)])) (sXW q l (c0 + n) x.s x.t x w 0) a W
set_option maxHeartbeats 2000000 in
theorem wloop {w0 : From} {q : InP} {i : Nat} {m c0 : Int} (hm : 0 ≤ m ∧ m ≤ 80) (hc : 0 ≤ c0 ∧ c0 ≤ 500) {x : Cut} {V : List Int} {K2 : KN}
    (hK : ∀ l, PD V (m + 2) l → ∀ env a W, At [(0, 0)] w0 env (fr 182 n0a (v0a q i)) (sQ q l (c0 + 6) x.s x.t) a W → K2 (.exit 1) a W)
    {n : Nat} {a : Act} {W : World} (h : InvW w0 q i m c0 x V n a W) : round2.wp Tryd.prog (Exit.then (fun a' w' => ∃ k', InvW w0 q i m c0 x V k' a' w' ∧ 5 - k' < 5 - n) (Exit.inBlock 2 (Exit.then (ext2.wp Tryd.prog K2) K2))) a W := by
  obtain ⟨l, w, hp, env, hA⟩ := h
  have hn5 := hp.n5
  have hwk := pw_ok hp (c := c0 + n) (by omega)
  have hq : n = 0 ∨ (1 ≤ n ∧ n ≤ 4) ∨ n = 5 := by omega
  rcases hq with rfl | hq | rfl
  · refine pieceT0 (c := cfgWs (sXW q l (c0 + (0 : Nat)) x.s x.t x w 0) (sXW q (lInc w.at' l) (c0 + (0 : Nat) + 1) x.s x.t x ⟨w.at', 0, 1, w.V⟩ 0) false True) (cfgWs_ok fun _ => stepX (w_begin hwk (hp.p0 rfl).1)) n0l e_st0 hA ?_
    refine all_brp (by simp only [decide_eq_true_eq] <;> exact Iff.rfl) (fun _ => ?_) (fun h6 => by omega)
    refine all_eq ⟨by first | exact True.intro | rfl, by first | exact True.intro | rfl, trivial⟩ ?_
    refine all_needq (by simp only [inR_i64]; exact Iff.rfl) (by omega) ?_
    refine all_ret fun env1 a1 w1 hA1 => ?_
    simp only [Ex.to, Exit.then]
    have e : c0 + ((0 : Nat) : Int) + 1 = c0 + ((1 : Nat) : Int) := by omega
    rw [e] at hA1
    exact ⟨1, ⟨_, _, pw_begin hp, env1, hA1⟩, by omega⟩
  · have hnx : 0 ≤ w.next ∧ w.next < w.V.length := by
      have h1 := (hp.p1 hq.1 hq.2).2
      have h2 : w.V.length = 4 := by rw [hp.xV]; exact hp.vl
      omega
    refine pieceT0 (c := cfgWs (sXW q l (c0 + n) x.s x.t x w 0) (sXW q (lPut w l) (c0 + n + 1) x.s x.t x (wPut w) 0) false True) (cfgWs_ok fun _ => stepX (w_word hwk (hp.p1 hq.1 hq.2).1 hnx)) n0l e_st0 hA ?_
    refine all_brp (by simp only [decide_eq_true_eq] <;> exact Iff.rfl) (fun _ => ?_) (fun h6 => by omega)
    refine all_eq ⟨by first | exact True.intro | rfl, by first | exact True.intro | rfl, trivial⟩ ?_
    refine all_needq (by simp only [inR_i64]; exact Iff.rfl) (by omega) ?_
    refine all_ret fun env1 a1 w1 hA1 => ?_
    simp only [Ex.to, Exit.then]
    have e : c0 + (n : Int) + 1 = c0 + ((n + 1 : Nat) : Int) := by omega
    rw [e] at hA1
    exact ⟨n + 1, ⟨_, _, pw_word hq.1 hq.2 hp, env1, hA1⟩, by omega⟩
  · refine pieceT0 (c := cfgWs (sXW q l (c0 + (5 : Nat)) x.s x.t x w 0) (sXW q (lInc w.at' l) (c0 + (5 : Nat) + 1) x.s x.t x ⟨w.at', 0, 0, w.V⟩ 1) true True) (cfgWs_ok fun _ => stepX (w_end hwk (hp.p2 rfl))) n0l e_st1 hA ?_
    refine all_brp (by simp only [decide_eq_true_eq] <;> exact Iff.rfl) (fun _ => ?_) (fun h6 => by omega)
    refine all_eq ⟨by first | exact True.intro | rfl, by first | exact True.intro | rfl, trivial⟩ ?_
    refine all_ret fun env1 a1 w1 hA1 => ?_
    simp only [Ex.to, Exit.then, Exit.inBlock, if_true]
    have e : c0 + ((5 : Nat) : Int) + 1 = c0 + 6 := by omega
    rw [e] at hA1
    refine pieceT0 (c := cfgM) cfgM_ok n0a e_ext hA1 ?_
    refine all_ret fun env2 a2 w2 hA2 => ?_
    simp only [Ex.to]
    exact hK _ (pw_end hp) _ _ _ hA2
end Go.Proofs.YtdadfgeepinpbaaDoor

/- PortSlot: a call that writes, a call that reads. -/
namespace Go.Proofs.YtdadfgeepinpbaaDoor
open Go Go.Proofs.YtdadfgeepinpbaaDoor.Sx
set_option linter.unusedVariables false
set_option maxHeartbeats 2000000 in
theorem even_ok {w0 : From} {q : InP} {i : Nat} {l : List Int} {c : Int} {s : ByteArray} {t : Int} (h : IP q i l c s t) (hi : i < 40) {x : Cut} (hx : 0 ≤ x.t ∧ x.t < 4294967296) {v : SVal} {K2 : KN} (hK : EndAt w0 q i (.exit 1) K2)
    {env : Env} {a : Act} {W : World} (hA : At [(0, 0)] w0 env (fr 182 n0k (v0b q i ++ [v])) (sX q l c s t x) a W) : ev0.wp Tryd.prog K2 a W := by
  have hc := h.c
  have hz := h.z
  by_cases hp : PutOk ⟨0, 5, x.s, x.t⟩
  · have hs1 : 1 ≤ x.s.size := hp.s.1
    have hs2 : (x.s.size : Int) ≤ 5 := hp.s.2
    refine pieceNT0 (c := cfgP (sX q l c s t x) x.s x.t) cfgP_ok 1 n0g e_put hA ?_
    refine all_eq ⟨by first | exact True.intro | rfl, by first | exact True.intro | rfl, hp⟩ ?_
    refine all_ret fun env1 a1 w1 hA1 => ?_
    simp only [Ex.to, Exit.then]
    have hA2 : At [(0, 0)] w0 env1 (fr 182 n0g (v0b q i ++ [.ptr 7 0, .lit .i64 0])) (sXW q l c s t x (w0P ⟨0, 5, x.s, x.t⟩) 0) a1 w1 := hA1.gen rfl
    refine pieceNT0 (c := cfgM) cfgM_ok 1 n0w e_wr hA2 ?_
    refine all_brp (by simp only [decide_eq_true_eq] <;> exact Iff.rfl) (fun _ => ?_) (fun h6 => by exfalso; omega)
    refine all_brp (by simp only [Bool.not_eq_true', decide_eq_false_iff_not] <;> exact Iff.rfl) (fun h6 => by exfalso; omega) (fun _ => ?_)
    refine all_ret fun env2 a2 w2 hA3 => ?_
    simp only [Ex.to, Exit.then]
    refine (show (restC 2 ev0).wp Tryd.prog K2 a2 w2 from wpS (by kernel_rfl) (wpS (by kernel_rfl) ?_))
    have hA4 : At [(0, 0)] w0 env2 (fr 182 n0w (v0a q i ++ [.ptr 7 0])) (sXW q l c x.s x.t x (w0P ⟨0, 5, x.s, x.t⟩) 0) a2 w2 := hA3
    refine pieceT0 (c := cfgM) cfgM_ok n0l e_reg hA4 ?_
    refine all_ret fun env3 a3 w3 hA5 => ?_
    simp only [Ex.to, Exit.then]
    have hA6 : At [(0, 0)] w0 env3 (fr 182 n0l (v0a q i ++ [.ptr 7 0, .int .i64 ((0 : Nat) : Int)])) (sXW q l (c + (0 : Nat)) x.s x.t x (w0P ⟨0, 5, x.s, x.t⟩) 0) a3 w3 := by
      have e : c + ((0 : Nat) : Int) = c := by omega
      rw [e]
      exact hA5.gvals _ rfl
    have hvl : (verP ⟨0, 5, x.s, x.t⟩).length = 4 := by rw [verP_len hp]; exact (show 2 + four 5 = 4 by decide)
    have h0 : PW (verP ⟨0, 5, x.s, x.t⟩) (l.getD 0 0) 0 l (w0P ⟨0, 5, x.s, x.t⟩) :=
      ⟨by omega, by omega, rfl, rfl, hvl, u32s_verW hp hx, h.ll, fun _ => ⟨rfl, rfl⟩, fun h => by omega, fun h => by omega, fun h => by omega, fun j h => by omega⟩
    refine (show blk2.wp Tryd.prog _ a3 w3 from wpB 2 (by kernel_rfl) (wpL (by kernel_rfl) (InvW w0 q i (l.getD 0 0) c x (verP ⟨0, 5, x.s, x.t⟩)) (fun n => 5 - n) 0 ⟨l, _, h0, env3, hA6⟩ ?_))
    intro n a w hn
    refine wloop (by omega) (by omega) (K2 := K2) ?_ hn
    intro l' hl' env' a' w' hA'
    have hv := vok_ver hp
    exact hK l' (c + 6) x.s x.t ⟨by omega, h.age, hl'.ll, by rw [hl'.z]; push_cast; omega, hv.congr fun k hk => hl'.w k hk, by omega, by push_cast; omega⟩ env' a' w' hA'
  · refine pieceNT0 (c := cfgPb (sX q l c s t x) x.s x.t) cfgPb_ok 1 n0g e_putb hA ?_
    refine all_eq ⟨by first | exact True.intro | rfl, by first | exact True.intro | rfl, hp⟩ ?_
    refine all_ret fun env1 a1 w1 hA1 => ?_
    simp only [Ex.to, Exit.then]
    have fin : ∀ {env2 : Env} {a2 : Act} {w2 : World}, At [(0, 0)] w0 env2 (fr 182 n0w (v0a q i ++ [.pnil])) (sX q l c s t x) a2 w2 → (restC 2 ev0).wp Tryd.prog K2 a2 w2 := by
      intro env2 a2 w2 hA3
      refine wpS (by kernel_rfl) (wpS (by kernel_rfl) ?_)
      refine pieceT0 (c := cfgM) cfgM_ok n0l e_regb hA3 ?_
      refine all_ret fun env3 a3 w3 hA5 => ?_
      simp only [Ex.to, Exit.then]
      have hA6 : At [(0, 0)] w0 env3 (fr 182 n0l (v0a q i ++ [.pnil, .int .i64 ((0 : Nat) : Int)])) (sX q l c s t x) a3 w3 := hA5.gvals _ rfl
      refine (show blk2.wp Tryd.prog _ a3 w3 from wpB 2 (by kernel_rfl) (wpL (by kernel_rfl) (fun (n : Nat) a w => n = 0 ∧ ∃ env, At [(0, 0)] w0 env (fr 182 n0l (v0a q i ++ [.pnil, .int .i64 ((0 : Nat) : Int)])) (sX q l c s t x) a w) (fun n => 0) 0 ⟨rfl, env3, hA6⟩ ?_))
      rintro n a w ⟨rfl, env4, hA7⟩
      refine (show round2.wp _ _ _ _ from ?_)
      refine pieceT0 (c := cfgM) cfgM_ok n0l e_stb hA7 ?_
      refine all_brp (by simp only [decide_eq_true_eq] <;> exact Iff.rfl) (fun _ => ?_) (fun h6 => by exfalso; omega)
      refine all_ret fun env5 a5 w5 hA8 => ?_
      simp only [Ex.to, Exit.then, Exit.inBlock, if_true]
      refine (show ext2.wp _ _ _ _ from ?_)
      refine pieceT0 (c := cfgM) cfgM_ok n0a e_extb hA8 ?_
      refine all_ret fun env6 a6 w6 hA9 => ?_
      simp only [Ex.to]
      exact hK l c s t (h.next hi (by omega)) _ _ _ hA9
    refine pieceNT0 (c := cfgM) cfgM_ok 1 n0w e_wrb hA1 ?_
    refine all_brp (by simp only [decide_eq_true_eq] <;> exact Iff.rfl) (fun h5 => ?_) (fun h6 => all_ret fun env2 a2 w2 hA3 => ?_)
    · refine all_brp (by simp only [Bool.not_eq_true', decide_eq_false_iff_not] <;> exact Iff.rfl) (fun h6 => all_ret fun env2 a2 w2 hA3 => ?_) (fun h6 => ?_)
      · simp only [Ex.to, Exit.then]
        exact fin hA3
      · exact absurd ⟨by show (1 : Int) ≤ 5 ∧ (5 : Int) ≤ 32; omega, by show 1 ≤ x.s.size; omega, by show (x.s.size : Int) ≤ 5; omega⟩ hp
    · simp only [Ex.to, Exit.then]
      exact fin hA3
abbrev rd0 : Rd := ⟨0, 4, 0, 0, 0, List.replicate 32 0, false, 0⟩
theorem pr_new {q : InP} {i : Nat} {l : List Int} {c : Int} {s : ByteArray} {t : Int} (h : IP q i l c s t) : PR l 0 rd0 :=
  ⟨by omega, h.ll, ⟨h.z.1, h.z.2.1⟩, rfl, rfl, rfl, rfl, by simp, fun _ => ⟨rfl, rfl⟩, fun h => by omega, fun h => by omega, fun h => by omega, fun j h => by omega⟩
/-- reading, step by step -/
def InvR (w0 : From) (q : InP) (i : Nat) (l : List Int) (c0 : Int) (s : ByteArray) (t : Int) (x : Cut) (n : Nat) (a : Act) (W : World) : Prop :=
  ∃ r, PR l n r ∧ ∃ env, At [(0, 0)] w0 env (fr 182 n0m (v0b q i ++ [.ptr 7 0, .int .i64 (n : Nat)])) (sXG q l (c0 + n) s t x r) a W
set_option maxHeartbeats 2000000 in
theorem rloop {w0 : From} {q : InP} {i : Nat} {l : List Int} {c0 : Int} {s : ByteArray} {t : Int} (h : IP q i l c0 s t) (hi : i < 40) {x : Cut} {K : KN} (hK : EndAt w0 q i .normal K)
    {n : Nat} {a : Act} {W : World} (hI : InvR w0 q i l c0 s t x n a W) : round4.wp Tryd.prog (Exit.then (fun a' w' => ∃ k', InvR w0 q i l c0 s t x k' a' w' ∧ 5 - k' < 5 - n) (Exit.inBlock 4 (Exit.then ((restC 3 odd0).wp Tryd.prog K) K))) a W := by
  obtain ⟨r, hp, env, hA⟩ := hI
  have hn5 := hp.n5
  have hc := h.c
  have hage := h.age
  have hro := pr_ok hp (c := c0 + n) (by omega)
  refine pieceT0 (c := cfgRs q l (c0 + n) s t x r) cfgRs_ok n0m o_st hA ?_
  refine all_brp (by simp only [decide_eq_true_eq] <;> exact Iff.rfl) (fun _ => ?_) (fun h6 => by exfalso; omega)
  refine all_eq ⟨by first | exact True.intro | rfl, by first | exact True.intro | rfl, hro⟩ ?_
  by_cases h5 : n ≤ 4
  · have hn := pr_step h5 hp
    refine all_br (fun _ => ?_) (fun hh => by have := hn.got; rw [show (rStep r l).7 = (rStep r l).got from rfl, this] at hh; cases hh)
    refine all_needq (by simp only [inR_i64]; exact Iff.rfl) (by omega) ?_
    refine all_ret fun env1 a1 w1 hA1 => ?_
    simp only [Ex.to, Exit.then]
    have e : c0 + (n : Int) + 1 = c0 + ((n + 1 : Nat) : Int) := by omega
    rw [e] at hA1
    exact ⟨n + 1, ⟨_, hn, env1, hA1⟩, by omega⟩
  · have e5 : n = 5 := by omega
    subst e5
    obtain ⟨g1, g2, g3⟩ := pr_end hp
    refine all_br (fun hh => by rw [show (rStep r l).7 = (rStep r l).got from rfl, g1] at hh; cases hh) (fun _ => ?_)
    refine all_ret fun env1 a1 w1 hA1 => ?_
    simp only [Ex.to, Exit.then, Exit.inBlock, if_true]
    have hv := h.v
    generalize rStep r l = r' at *
    obtain ⟨at', rn, next, phase, count, xl, got, tries⟩ := r'
    simp only at g1 g2 g3
    subst g1 g2
    have hv' : Vok (fun k => xl.getD k 0) s t := hv.congr fun k hk => by rw [g3 k hk]
    have hs5 := h.s5
    have hm : imin (xl.getD 1 0) 5 = (s.size : Int) := by
      have e1 : xl.getD 1 0 = (s.size : Int) := hv'.z
      rw [e1]; unfold imin; split <;> omega
    have hA2 : At [(0, 0)] w0 env1 (fr 182 n0m (v0b q i ++ [.ptr 7 0, .int .i64 ((5 : Nat) : Int)])) (sXT q l (c0 + (5 : Nat) + 1) s t x ⟨at', 4, next, phase, count, xl, true, tries⟩) a1 w1 := hA1
    refine pieceNT0 (c := cfgMg q l (c0 + (5 : Nat) + 1) s t x ⟨at', 4, next, phase, count, xl, true, tries⟩ s.size) cfgMg_ok 1 [0, 1, 5, 7, 9, 10, 17, 18, 19] o_msg hA2 ?_
    refine all_eq ⟨by first | exact True.intro | rfl, by first | exact True.intro | rfl, rfl, hm, hs5⟩ ?_
    have hst := vok_str hv'
    have htk : xl.getD 0 0 = t := hv'.t
    simp only [hst, htk]
    refine all_ret fun env2 a2 w2 hA3 => ?_
    simp only [Ex.to, Exit.then]
    refine (show (restC 4 odd0).wp Tryd.prog K a2 w2 from ?_)
    have hss : strEq s s = true := by rw [strEq_iff]
    have fin : ∀ {env3 : Env} {a3 : Act} {w3 : World}, At [(0, 0)] w0 env3 (fr 182 n0a (v0a q i)) (sQ q l (c0 + (5 : Nat) + 1) s t) a3 w3 → K .normal a3 w3 :=
      fun {env3 a3 w3} hA4 => hK l (c0 + (5 : Nat) + 1) s t (h.next hi (by omega)) _ _ _ hA4
    refine pieceT0 (c := cfgM) cfgM_ok n0a o_end hA3 ?_
    refine all_brp (by simp only [beq_iff_eq] <;> exact Iff.rfl) (fun h6 => by exfalso; omega) (fun _ => ?_)
    refine all_needq (by simp only [inR, Bool.and_eq_true, decide_eq_true_eq, IntKind.min, IntKind.max, IntKind.signed, IntKind.bits] <;> exact Iff.rfl) (by simp; omega) ?_
    refine all_br (fun h7 => ?_) (fun h7 => ?_)
    · refine all_br (fun h8 => by rw [h7] at h8; cases h8) (fun h8 => ?_)
      refine all_br (fun h9 => by rw [h7] at h9; cases h9) (fun h9 => ?_)
      exact all_ret fun _ _ _ hA4 => fin hA4
    · refine all_brp (by simp only [beq_iff_eq] <;> exact Iff.rfl) (fun h6 => by exfalso; omega) (fun _ => ?_)
      refine all_needq (by simp only [inR, Bool.and_eq_true, decide_eq_true_eq, IntKind.min, IntKind.max, IntKind.signed, IntKind.bits] <;> exact Iff.rfl) (by simp; omega) ?_
      refine all_eq rfl (all_eq rfl ?_)
      refine all_br (fun h8 => by rw [hss] at h8; cases h8) (fun h8 => ?_)
      refine all_br (fun h9 => by rw [h7] at h9; cases h9) (fun h9 => ?_)
      refine all_br (fun h9 => by cases hd : decide (IntKind.u32.wrap (x.t - t) < q.age) <;> simp [hd] at h9) (fun h9 => ?_)
      exact all_ret fun _ _ _ hA4 => fin hA4
set_option maxHeartbeats 2000000 in
theorem odd_ok {w0 : From} {q : InP} {i : Nat} {l : List Int} {c : Int} {s : ByteArray} {t : Int} (h : IP q i l c s t) (hi : i < 40) {x : Cut} {v : SVal} {K : KN} (hK : EndAt w0 q i .normal K)
    {env : Env} {a : Act} {W : World} (hA : At [(0, 0)] w0 env (fr 182 n0k (v0b q i ++ [v])) (sX q l c s t x) a W) : odd0.wp Tryd.prog K a W := by
  refine pieceNT0 (c := cfgM) cfgM_ok 2 n0r o_get hA ?_
  refine all_need rfl fun _ => all_ret fun env1 a1 w1 hA1 => ?_
  simp only [Ex.to, Exit.then]
  have hA2 := hA1.segs 8 (l' := [.c (.int .i64 0), .c (.int .i64 4), .c (.int .i64 0), .c (.int .i64 0), .c (.int .u32 0), .a (encInt .u32) 32 (List.replicate 32 0), .c (.sb false), .c (.int .i64 0)]) rfl (by
      intro s hs
      simp only [List.mem_cons, List.not_mem_nil, or_false] at hs
      rcases hs with rfl | rfl | rfl | rfl | rfl | rfl | rfl | rfl <;> first | trivial | rfl) (fun cs h => denL_gen2 (by kernel_rfl) h)
  have hA3 : At [(0, 0)] w0 _ (fr 182 n0r (v0b q i ++ [.ptr 7 0])) (sXG q l c s t x rd0) a1 w1 := hA2.gen rfl
  refine (show (restC 2 odd0).wp Tryd.prog K a1 w1 from wpS (by kernel_rfl) (wpS (by kernel_rfl) ?_))
  refine pieceT0 (c := cfgM) cfgM_ok n0m o_reg hA3 ?_
  refine all_ret fun env3 a3 w3 hA5 => ?_
  simp only [Ex.to, Exit.then]
  have hA6 : At [(0, 0)] w0 env3 (fr 182 n0m (v0b q i ++ [.ptr 7 0, .int .i64 ((0 : Nat) : Int)])) (sXG q l (c + (0 : Nat)) s t x rd0) a3 w3 := by
    have e : c + ((0 : Nat) : Int) = c := by omega
    rw [e]
    exact hA5.gvals _ rfl
  refine (show blk4.wp Tryd.prog _ a3 w3 from wpB 4 (by kernel_rfl) (wpL (by kernel_rfl) (InvR w0 q i l c s t x) (fun n => 5 - n) 0 ⟨rd0, pr_new h, env3, hA6⟩ ?_))
  intro n a w hn
  exact rloop h hi hK hn
end Go.Proofs.YtdadfgeepinpbaaDoor

/- PortSlot: from its beginning. -/
namespace Go.Proofs.YtdadfgeepinpbaaDoor
open Go Go.Proofs.YtdadfgeepinpbaaDoor.Sx
set_option linter.unusedVariables false
abbrev Q3 (w0 : From) : KN := bodyPost Tryd.prog Tryd.f3 (Said w0)
abbrev K0 (w0 : From) : KN := Exit.inBlock 0 (Exit.then (end0.wp Tryd.prog (Q3 w0)) (Q3 w0))
abbrev KI (w0 : From) (q : InP) (i : Nat) : KN := Exit.then (fun a' w' => ∃ k, InvP w0 q k a' w' ∧ 40 - k < 40 - i) (K0 w0)
abbrev KB (w0 : From) (q : InP) (i : Nat) : KN := Exit.inBlock 1 (Exit.then (inc0.wp Tryd.prog (KI w0 q i)) (KI w0 q i))
theorem inc_ok {w0 : From} {q : InP} {i : Nat} (hi : i < 40) {l : List Int} {c : Int} {s : ByteArray} {t : Int} (h : IP q (i + 1) l c s t) {env : Env} {a : Act} {W : World}
    (hA : At [(0, 0)] w0 env (fr 182 n0a (v0a q i)) (sQ q l c s t) a W) : inc0.wp Tryd.prog (KI w0 q i) a W := by
  refine pieceT0 (c := cfgM) cfgM_ok n0a a_inc hA ?_
  refine all_needq (by simp only [inR_i64]; exact Iff.rfl) (by omega) (all_ret fun env1 a1 w1 hA1 => ?_)
  simp only [Ex.to, Exit.then]
  exact ⟨i + 1, ⟨l, c, s, t, h, env1, hA1⟩, by omega⟩
theorem end_n {w0 : From} {q : InP} {i : Nat} (hi : i < 40) : EndAt w0 q i .normal (KB w0 q i) := by
  intro l c s t h env a W hA
  simp only [KB, Exit.inBlock, Exit.then]
  exact inc_ok hi h hA
theorem end_1 {w0 : From} {q : InP} {i : Nat} (hi : i < 40) {B : Act → World → Prop} : EndAt w0 q i (.exit 1) (Exit.then B (KB w0 q i)) := by
  intro l c s t h env a W hA
  simp only [KB, Exit.inBlock, Exit.then, if_true]
  exact inc_ok hi h hA
set_option maxHeartbeats 2000000 in
theorem sel_ok {w0 : From} {q : InP} {i : Nat} {l : List Int} {c : Int} {s : ByteArray} {t : Int} (h : IP q i l c s t) (hi : i < 40) {x : Cut} (hx : 0 ≤ x.t ∧ x.t < 4294967296)
    {env : Env} {a : Act} {W : World} (hA : At [(0, 0)] w0 env (fr 182 n0b (v0b q i)) (sX q l c s t x) a W) : (restC 1 bb0).wp Tryd.prog (KB w0 q i) a W := by
  refine wpS (by kernel_rfl) (show sel0.wp _ _ _ _ from wpS (by kernel_rfl) ?_)
  refine pieceT0 (c := cfgM) cfgM_ok n0k a_sel hA ?_
  refine all_ret fun env1 a1 w1 hA1 => ?_
  simp only [Ex.to, Exit.then]
  generalize hb : (bitop BinOp.and IntKind.i64 x.1 (1 : Int) == (0 : Int)) = b at hA1
  refine (show cs0.wp _ _ _ _ from wpC 74 (by kernel_rfl) hA1 b (.inr rfl) ?_)
  cases b with
  | true =>
    simp only [if_true]
    exact (show ev0.wp _ _ _ _ from even_ok h hi hx (end_1 hi) hA1)
  | false =>
    simp only [if_neg (show ¬ (false = true) by simp)]
    rw [show rgt cs0 = Code.skip by kernel_rfl]
    refine wp_skip ?_
    simp only [Exit.then]
    exact (show odd0.wp _ _ _ _ from odd_ok h hi (end_n hi) hA1)
set_option maxHeartbeats 2000000 in
theorem round_ok {w0 : From} {q : InP} {i : Nat} {a : Act} {W : World} (h : InvP w0 q i a W) : round0.wp Tryd.prog (KI w0 q i) a W := by
  obtain ⟨l, c, s, t, h, env, hA⟩ := h
  have hi := h.i40
  refine wpS (by kernel_rfl) (show tm0.wp _ _ _ _ from ?_)
  refine pieceT0 (c := cfgM) cfgM_ok n0a a_tm hA ?_
  have out : ∀ {env1 : Env} {a1 : Act} {w1 : World}, At [(0, 0)] w0 env1 (fr 182 n0a (v0a q i)) (sQ q l c s t) a1 w1 → K0 w0 (.exit 0) a1 w1 := by
    intro env1 a1 w1 hA1
    simp only [K0, Exit.then, Exit.inBlock, if_true]
    refine pieceT0 (c := cfgM) cfgM_ok [4] a_end hA1 (all_ret fun env2 a2 w2 hA2 => ?_)
    exact hA2.said (by kernel_rfl)
  refine all_brp (by simp only [decide_eq_true_eq] <;> exact Iff.rfl) (fun h1 => ?_) (fun h1 => all_ret fun env1 a1 w1 hA1 => out hA1)
  refine all_brp (by simp only [decide_eq_true_eq] <;> exact Iff.rfl) (fun h2 => ?_) (fun h2 => all_ret fun env1 a1 w1 hA1 => out hA1)
  refine all_ret fun env1 a1 w1 hA1 => ?_
  simp only [Ex.to, Exit.then]
  have hi' : i < 40 := by omega
  have hil : i < q.cs.length := by omega
  refine (show (rgt round0).wp _ _ _ _ from wpS (by kernel_rfl) (wpB 1 (by kernel_rfl) ?_))
  refine (show bb0.wp _ (KB w0 q i) _ _ from ?_)
  refine pieceNT0 (c := cfgM) cfgM_ok 1 n0b a_few hA1 ?_
  refine all_needq (by simp only [decide_eq_true_eq, Bool.and_eq_true]; exact Iff.rfl) (by simp only [Int.toNat_natCast]; exact ⟨by omega, hil⟩) ?_
  refine all_needq (by simp only [decide_eq_true_eq]; exact Iff.rfl) (by simp only [Int.toNat_natCast]; exact hil) ?_
  refine all_needq (by simp only [decide_eq_true_eq]; exact Iff.rfl) (by simp only [Int.toNat_natCast]; exact hil) ?_
  refine all_needq (by simp only [decide_eq_true_eq]; exact Iff.rfl) (by simp only [Int.toNat_natCast]; exact hil) ?_
  refine all_brp (by simp only [decide_eq_true_eq] <;> exact Iff.rfl) (fun h3 => ?_) (fun h3 => all_ret fun env2 a2 w2 hA2 => ?_)
  · refine all_needq (by simp only [decide_eq_true_eq]; exact Iff.rfl) (by omega) ?_
    refine all_need rfl fun _ => all_ret fun env2 a2 w2 hA2 => ?_
    simp only [Ex.to, Exit.then]
    exact sel_ok h hi' (x := ⟨(q.cs.getD (i : Int).toNat encCal.dflt).k, (q.cs.getD (i : Int).toNat encCal.dflt).s.extract 0 40, (q.cs.getD (i : Int).toNat encCal.dflt).t.v⟩) (q.cs.getD (i : Int).toNat encCal.dflt).t.h hA2
  · simp only [Ex.to, Exit.then]
    exact sel_ok h hi' (x := ⟨(q.cs.getD (i : Int).toNat encCal.dflt).k, (q.cs.getD (i : Int).toNat encCal.dflt).s, (q.cs.getD (i : Int).toNat encCal.dflt).t.v⟩) (q.cs.getD (i : Int).toNat encCal.dflt).t.h hA2
theorem noFootP {e0 e1 : Slot} {q : InP} (x : Nat) (h : inFoot [e0, e1] (s0P q) x) : False := by
  obtain ⟨id, e, b, he, hb, hx⟩ := h
  match id with
  | 0 => simp at hb; subst hb; cases hx
  | 1 => simp at hb; subst hb; cases hx
  | n + 2 => simp at hb
theorem b3_eq : Tryd.f3.body = some b3 := by kernel_rfl
abbrev z5 : List Int := [0, 0, 0, 0, 0]
theorem ip_start {q : InP} (h : 1 ≤ q.age ∧ q.age ≤ 65535) : IP q 0 z5 0 nilB 0 :=
  ⟨by omega, h, rfl, ⟨rfl, by decide, by decide⟩, ⟨rfl, rfl, by decide, by simp [wN, fN]; rfl, by simp [wN, fN]; rfl⟩, by decide, by omega⟩
set_option maxHeartbeats 2000000 in
theorem portSlot_call {q : InP} (hq : 0 ≤ q.age ∧ q.age ≤ 65535) {e0 e1 : Slot} (he : e0.blk = 0 ∧ e0.off = 0) {w : World} {v0 v1 : Value} (hr : Rep [e0, e1] (s0P q) w) (h0 : Den [e0, e1] (.int .u16 q.age) v0) (h1 : Den [e0, e1] (csV q 1) v1) :
    Calls Tryd.prog 3 ⟨[v0, v1]⟩ w (Said ⟨w, fun _ => False⟩) := by
  refine call_begin (c := cfgM) Tryd.func3 b3_eq (args := argP q) (by
    intro p hp
    rw [List.mem_singleton.1 hp]
    exact ⟨e0, rfl, he⟩) hr ⟨_, _, rfl, h0, _, _, rfl, h1, rfl⟩ (F := fun _ => False) (fun x h => noFootP x h) ?_
  intro a hA
  refine pieceNT0 (c := cfg) cfg_ok 5 (n0p ++ [4]) a_pre hA ?_
  refine all_brp (by simp only [beq_iff_eq] <;> exact Iff.rfl) (fun h6 => all_eq rfl (all_ret fun _ _ _ h => h.said (by kernel_rfl))) (fun h6 => ?_)
  refine all_brp (by simp only [decide_eq_true_eq] <;> exact Iff.rfl) (fun h7 => all_eq rfl (all_ret fun env1 a1 w1 hA1 => ?_)) (fun h7 => by exfalso; omega)
  simp only [Ex.to, Exit.then]
  have hA1' : At [(0, 0)] ⟨w, fun _ => False⟩ env1 (fr 182 n0p [.int .u16 q.age, csV q 1, .ptr 2 0, .ptr 4 0]) _ a1 w1 := At.few (extra := [4]) (ev := [.bl false]) hA1 rfl
  have hA2 := hA1'.perm [0, 5, 4, 2, 3, 1] (by kernel_rfl) (by kernel_rfl) (st' := [lookB, .own [.c (.lit .u32 0), .c (.lit .u32 0), .c (.lit .u32 0), .c (.lit .u32 0), .c (.lit .u32 0)] 35, .own [.c (.sli 1 (.c 0) 1 (.c 5) (some (.c 5))), .c (.lit .i64 0)] 90, .own [.c (.ifc 85 (.ptr 4 0)), .c (.lit .i64 5)] 84, .own [.c (.sl []), .c (.lit .u32 0), .c (.int .u16 q.age)] 87, .ro encCal q.cs])
    (vals' := v0p q) (by kernel_rfl) (by kernel_rfl)
  have hA3 := hA2.segs 1 (l' := [.a (encInt .u32) 5 z5]) rfl (by intro s hs; rw [List.mem_singleton.1 hs]; rfl) (fun cs h => denL_gen2 (by kernel_rfl) h)
  have hA4 := hA3.segs 4 (l' := [.c (.str nilB), .c (.int .u32 0), .c (.int .u16 q.age)]) rfl (by
    intro s hs
    simp only [List.mem_cons, List.not_mem_nil, or_false] at hs
    rcases hs with rfl | rfl | rfl <;> first | trivial | rfl) (fun cs h => denL_gen2 (by kernel_rfl) h)
  have hA5 : At [(0, 0)] ⟨w, fun _ => False⟩ _ (fr 182 n0p (v0p q)) (sQ q z5 0 nilB 0) a1 w1 := hA4.gen rfl
  refine (show c3.wp Tryd.prog (Q3 ⟨w, fun _ => False⟩) a1 w1 from wpS (by kernel_rfl) (wpS (by kernel_rfl) ?_))
  refine pieceT0 (c := cfgM) cfgM_ok n0a a_reg hA5 (all_ret fun env2 a2 w2 hA6 => ?_)
  simp only [Ex.to, Exit.then]
  have hA7 : At [(0, 0)] ⟨w, fun _ => False⟩ env2 (fr 182 n0a (v0a q 0)) (sQ q z5 0 nilB 0) a2 w2 := hA6.gvals _ rfl
  refine wpB 0 (by kernel_rfl) (wpL (by kernel_rfl) (InvP ⟨w, fun _ => False⟩ q) (fun i => 40 - i) 0 ⟨z5, 0, nilB, 0, ip_start (by omega), env2, hA7⟩ ?_)
  intro i a w h
  exact round_ok h
end Go.Proofs.YtdadfgeepinpbaaDoor

/- Layer 19: the package's variable, and how a card is closed. -/
namespace Go.Proofs.YtdadfgeepinpbaaDoor
open Go Go.Proofs.YtdadfgeepinpbaaDoor.Sx Go.ChangeShapes Go.WideShapes Go.ChangeAt Go.RowKit
set_option linter.unusedVariables false
abbrev laid1 : List (String × DataW Unit) := [("purlin/mem.look", Rows.laid_purlin_mem_look)]
theorem Tryd.own : ownKnob Tryd.prog.godebug = none := by kernel_rfl
theorem Tryd.laidOut : laidOutB Tryd.prog = true := by kernel_rfl
theorem gLook : Tryd.prog.globalNamed "purlin/mem.look" = some 0 := by kernel_rfl
theorem tLook : (Tryd.prog.globals[0]?).map (·.type) = some 115 := by kernel_rfl
/-- the door's own heap meets the condition -/
theorem door_met (os : Os) (args : Array Value) : laidMetH Tryd.prog laid1 ((World.doorLaid Tryd.prog 400 os).forCall (fun _ _ => 0) ⟨#[], args, []⟩).memory :=
  laidMetH_of_parts3 (fuel := 8) (laidMet_of_run' 8 (by kernel_rfl) (by kernel_rfl)) (by kernel_rfl) (by kernel_rfl)
set_option maxRecDepth 100000 in
/-- what the condition gives -/
theorem of_laid {W : World} (h : laidMetH Tryd.prog laid1 W) : ∃ e : Slot, (e.blk = 0 ∧ e.off = 0) ∧ Rep [e] [lookB] W := by
  rw [MakeChecks.laidMetH_plain _ _ _ (by kernel_rfl)] at h
  obtain ⟨ps, ⟨g0, t0, cs0, f0, p0, q0, hg0, ht0, hv0, hd0, _, _⟩, _, _⟩ := h
  obtain rfl := Option.some.inj (gLook.symm.trans hg0)
  obtain rfl := Option.some.inj (tLook.symm.trans ht0)
  obtain ⟨xs, m, _, hx, hlen, hxl, hf⟩ := DataW.trod_struct Tryd.underlying115 hd0
  have hC : Tryd.prog.cellsOf 115 = 3 := by kernel_rfl
  have k35 : Tryd.prog.cellsOf 35 = 1 := by kernel_rfl
  rw [hC] at hlen
  obtain ⟨l⟩ := cs0
  simp only at hlen hf
  match l, hlen with
  | [c0, c1, c2], _ =>
    match xs, hxl, hx with
    | [y0, y1, y2], _, hx =>
      have f0 : DataW.trod _ Tryd.prog W 0 _ false m 35 (([c0, c1, c2].drop 0).take (Tryd.prog.cellsOf 35)) = some y0 := hf 0 _ rfl
      have f1 : DataW.trod _ Tryd.prog W 0 _ false m 35 (([c0, c1, c2].drop 1).take (Tryd.prog.cellsOf 35)) = some y1 := hf 1 _ rfl
      have f2 : DataW.trod _ Tryd.prog W 0 _ false m 35 (([c0, c1, c2].drop 2).take (Tryd.prog.cellsOf 35)) = some y2 := hf 2 _ rfl
      rw [k35] at f0 f1 f2
      obtain ⟨a0, h0, e0, _⟩ := DataW.trod_int Tryd.underlying35 f0
      obtain ⟨a1, h1, e1, _⟩ := DataW.trod_int Tryd.underlying35 f1
      obtain ⟨a2, h2, e2, _⟩ := DataW.trod_int Tryd.underlying35 f2
      simp at h0 h1 h2
      subst h0 h1 h2 e0 e1 e2
      simp [Rows.laid_purlin_mem_look] at hx
      obtain ⟨⟨rfl, rfl, rfl⟩, _⟩ := hx
      have hc := fun i => World.var?_cell hg0 hv0 i
      have hsz : 0 < W.heap.size := by
        have := hc 0
        simp only [World.cell?] at this
        rcases Nat.eq_zero_or_pos W.heap.size with h | h
        · rw [Array.getElem?_eq_none (by omega)] at this; simp at this
        · exact h
      refine ⟨⟨0, 0, 0, []⟩, ⟨rfl, rfl⟩, rfl, ?_, ?_, ?_⟩
      · intro id sl b he hb
        match id with
        | 0 =>
          simp only [List.getElem?_cons_zero, Option.some.injEq] at he hb
          subst he hb
          refine ⟨[.int .u32 4294967295, .int .u32 0, .int .u32 0], by simp [encLook, encOf, DenL, Den], fun i hi => ?_⟩
          have := hc i
          simpa using this
        | n + 1 => simp at he
      · intro i j e f b c hij he hf' hb' hc' x hx''
        match i, j with
        | 0, 0 => exact (hij rfl).elim
        | i + 1, _ => simp at he
        | 0, j + 1 => simp at hf'
      · intro id sl b he hb x hx
        match id with
        | 0 =>
          simp only [List.getElem?_cons_zero, Option.some.injEq] at he hb
          subst he hb
          simp [Blk.supp] at hx
          omega
        | n + 1 => simp at he
end Go.Proofs.YtdadfgeepinpbaaDoor

/- PortSlot: its row and its card. -/
namespace Go.Proofs.YtdadfgeepinpbaaDoor
open Go Go.Proofs.YtdadfgeepinpbaaDoor.Sx Go.ChangeShapes Go.WideShapes Go.ChangeAt Go.RowKit
set_option linter.unusedVariables false
theorem wf_u32W {n : Int} (h : (Lit.int .u32 n).wf = true) : 0 ≤ n ∧ n < 4294967296 := by simp [Lit.wf, IntKind.min, IntKind.max, IntKind.signed, IntKind.bits] at h; omega
set_option maxRecDepth 100000 in
/-- an element of the calls -/
theorem open_cal {H : Type} {enc : TypeId × Value → H} {w : World} {base : Nat} {spare : Nat → Bool} {held : Bool} (n : Nat) (cs : List Value) (y : DataW H × List MemPlace) (h : DataW.trod enc Tryd.prog w base spare held n 37 cs = some y) :
    ∃ x : Cal, DenL [] (encCal.enc x) cs := by
  obtain ⟨xs, m, _, _, hlen, hxl, hf⟩ := DataW.trod_struct Tryd.underlying37 h
  have hC : Tryd.prog.cellsOf 37 = 3 := by kernel_rfl
  rw [hC] at hlen
  match cs, hlen with
  | [c0, c1, c2], _ =>
    match xs, hxl with
    | [y0, y1, y2], _ =>
      have f0 : DataW.trod enc Tryd.prog w base spare held m 3 (([c0, c1, c2].drop 0).take (Tryd.prog.cellsOf 3)) = some y0 := hf 0 _ rfl
      have f1 : DataW.trod enc Tryd.prog w base spare held m 9 (([c0, c1, c2].drop 1).take (Tryd.prog.cellsOf 9)) = some y1 := hf 1 _ rfl
      have f2 : DataW.trod enc Tryd.prog w base spare held m 35 (([c0, c1, c2].drop 2).take (Tryd.prog.cellsOf 35)) = some y2 := hf 2 _ rfl
      have k0 : Tryd.prog.cellsOf 3 = 1 := by kernel_rfl
      have k1 : Tryd.prog.cellsOf 9 = 1 := by kernel_rfl
      have k2 : Tryd.prog.cellsOf 35 = 1 := by kernel_rfl
      rw [k0] at f0
      rw [k1] at f1
      rw [k2] at f2
      obtain ⟨a, h0, _⟩ := DataW.trod_int Tryd.underlying3 f0
      obtain ⟨b, h1, _⟩ := DataW.trod_string Tryd.underlying9 f1
      obtain ⟨c, h2, _, hw⟩ := DataW.trod_int Tryd.underlying35 f2
      simp at h0 h1 h2
      subst h0 h1 h2
      exact ⟨⟨a, b, ⟨c, wf_u32W hw⟩⟩, by simp [encCal, encOf, DenL, Den]⟩
set_option maxRecDepth 100000 in
theorem portSlot_lifted (os : Os) (started : os.Started) (H : Type) (enc : TypeId × Value → H) :
    ReturnsInHanded {} Tryd.checked os 3 .any (fun w args => (Rows.portSlotSpec.pre enc Tryd.prog Tryd.f3 [] false w args ∧ laidMetH Tryd.prog laid1 w) ∧ sizedMet enc Tryd.prog Tryd.f3 (OpenSpec.ofChange Rows.portSlotSpec) false w args)
      (Rows.portSlotSpec.post enc Tryd.prog Tryd.f3 false true false false) := by
  refine returnsInHanded_of_change_and (C := Tryd.checked) (X := fun w _ => laidMetH Tryd.prog laid1 w) (fun _ _ _ hh h => h.of_heap hh) Tryd.own started (by kernel_rfl) Tryd.func3
    (ChangeSpec.witness_shaped (enc := enc) (C := Tryd.checked) (os := os) (X := fun w _ => laidMetH Tryd.prog laid1 w) false (World.doorLaid Tryd.prog 400 os) #[.int .u16 0, .slice none 0 0] 8 rfl (World.shaped_of_RefB (by kernel_rfl) (by kernel_rfl)) (by kernel_rfl) (by kernel_rfl) (by kernel_rfl) (door_met os _)) ?_
  intro W base args ds gs before hval0 hW _ _ hL _
  have hval : ∀ (j : Nat) t v, Tryd.f3.params[j]? = some t → args[j]? = some v → Value.okWide Tryd.prog W .any base t v := hval0
  have hW' := hW
  obtain ⟨p, q, hA0, hV, rfl, hfz, hnd⟩ := hW
  have hA : DataW.TrodAll enc Tryd.prog W 0 (fun _ => true) true Tryd.f3.params.toList args.toList ds p := hA0
  rw [Tryd.params3] at hA hval
  obtain ⟨v0, v1, d0, d1, p0, p1, rfl, rfl, rfl, h0, h1⟩ := trodAll_two hA
  obtain ⟨rfl, rfl⟩ := trodVars_none hV
  obtain ⟨a, rfl, rfl, rfl, wa⟩ := open_int Tryd.underlying22 (hval 0 22 v0 rfl rfl) h0
  clear hA0 hval0
  have hlt1 : ∀ x ∈ p1, x.block < W.heap.size := fun x hx => by simpa using hW'.lt x (by simp [hx])
  obtain ⟨e0, he, hr0⟩ := of_laid hL
  have wfa : 0 ≤ a ∧ a ≤ 65535 := by simp [Lit.wf, IntKind.min, IntKind.max, IntKind.signed, IntKind.bits] at wa; omega
  have fin : ∀ e W', Said ⟨W, fun _ => False⟩ e W' → ∃ v, e = .returned v ∧ Rows.portSlotSpec.post enc Tryd.prog Tryd.f3 false true false false W #[.int .u16 a, v1] v W' := by
    rintro e W' ⟨rfl, hsz, hk, hc⟩
    have hk' : ∀ x, x < W.heap.size → W'.heap[x]? = W.heap[x]? := fun x hx => hk x hx (fun h => h)
    refine ⟨_, rfl, _, _, _, [], _, [], hW', ⟨[], [], shut_bool Tryd.underlying4 true, rfl, rfl⟩, trodAll_mk2 (shut_int Tryd.underlying22 wa) (trod_same Tryd.laidOut (by kernel_rfl) (of_decide_eq_true (by kernel_rfl)) h1 hk' hlt1), rfl, keptBut_of _ hc hk', fun h => by cases h⟩
  obtain ⟨cs, c1, e1, hr1, hd1⟩ := open_sli encCal Tryd.underlying23 (by kernel_rfl) open_cal rfl (hval 1 23 v1 rfl rfl) h1
  obtain ⟨hr, hn1⟩ := ro_add hr0 (by intro b hb e; rw [List.mem_singleton.1 hb]; rfl) rfl hr1
  have g1 : Den ([e0] ++ [e1]) (csV ⟨a, cs, c1⟩ 1) v1 := den_add (env := [e0]) (n := 1) hd1 rfl
  exact (portSlot_call (q := ⟨a, cs, c1⟩) wfa he hr rfl g1).mono fun e W' h => fin e W' h
theorem portSlot_row : Rows.PortSlotSaid :=
  OpenClaim.holds_of_wide 3 Tryd.f3 rfl rfl rfl rfl rfl rfl rfl ⟨rfl, rfl, rfl, rfl, rfl⟩ rfl rfl rfl rfl rfl (by kernel_rfl) Tryd.func3 (by kernel_rfl)
    (of_decide_eq_true (by kernel_rfl)) (by unfold Func.isWrapper; first | (rw [if_pos (by decide +kernel)]; kernel_rfl) | (rw [if_neg (by decide +kernel)]; exact ⟨rfl, rfl⟩))
    (fun os started H enc _ => portSlot_lifted os started H enc)
theorem portSlot_holds : Rows.PortSlotCardSaid :=
  Claim7.holds_tied_plain_at .later [] [.data] true _ _ portSlot_row (fun _ h => by cases h) (by kernel_rfl) (fun _ h => by cases h) portSlot_row_tie rfl ⟨rfl, rfl⟩ (by kernel_rfl) rfl
    (fun f fn hf hfn => by
      obtain rfl : f = 3 := Option.some.inj ((show Tryd.prog.funcNamed "purlin/purlinlaw19.PortSlot" = some 3 by kernel_rfl).symm.trans hf) |>.symm
      obtain rfl : fn = Tryd.f3 := (Option.some.inj (Tryd.func3.symm.trans hfn)).symm
      exact ⟨by kernel_rfl, fun j t ht => by
        rw [Tryd.params3] at ht
        have hm : t ∈ [22, 23] := by simpa using Array.mem_of_getElem? ht
        have hall : ([22, 23].all fun u => !Tryd.prog.wantsStandIn u) = true := by kernel_rfl
        exact (show Tryd.prog.wantsStandIn t = false by simpa using List.all_eq_true.1 hall t hm)⟩)
    (by kernel_rfl)
end Go.Proofs.YtdadfgeepinpbaaDoor

