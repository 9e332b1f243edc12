/- The objects of this layer: what they do, step by step. -/
import Derived.Test.YtdadfgeepinpbaaDoorSxC
import Derived.Test.YtdadfgeepinpbaaDoorRows
/- Layer 19, PortSlot: the configuration. -/
namespace Go.Proofs.YtdadfgeepinpbaaDoor
open Go Go.Proofs.YtdadfgeepinpbaaDoor.Sx
set_option linter.unusedVariables false
/-- the package's variable, as it was laid -/
def encLook : Enc Unit := encOf 2 (fun _ => [.lit .u32 4294967295, .lit .u32 0, .lit .u32 0]) () (fun _ => rfl) (by intro env env' x vs h; simpa [DenL, Den] using h)
abbrev lookB : Blk := .ro encLook [()]
noncomputable def cfg0 : Cfg := { P := Tryd.prog, ex := fun k => match k with | .i64 => true | _ => false, gl := [(0, 0)], sm := fun _ => none }
theorem cfg0_ok : SmOk cfg0 := by intro f g h; cases h
set_option maxRecDepth 100000 in
theorem awake_val : (callF cfg0 100 5 [] [lookB]).val = some (.bl true) := by kernel_rfl
noncomputable def cfg : Cfg := { P := Tryd.prog, ex := fun k => match k with | .i64 => true | _ => false, gl := [(0, 0)], sm := fun f => match f with | 5 => some (smClosed [0] [lookB] (.bl true)) | _ => none }
theorem cfg_ok : SmOk cfg := by
  intro f g h
  simp only [cfg] at h
  split at h
  · simp only [Option.some.injEq] at h; subst h
    exact smClosed_ok cfg0_ok awake_val (by kernel_rfl) rfl rfl (by intro b hb e; rw [List.mem_singleton.1 hb]; rfl)
  · cases h
end Go.Proofs.YtdadfgeepinpbaaDoor

/- Layer 19: how many words a ring needs: pieces. -/
namespace Go.Proofs.YtdadfgeepinpbaaDoor
open Go Go.Proofs.YtdadfgeepinpbaaDoor.Sx
set_option linter.unusedVariables false
noncomputable def exI : IntKind → Bool := fun k => match k with | .i64 => true | _ => false
noncomputable def cfgM : Cfg := { P := Tryd.prog, ex := exI, gl := [(0, 0)], sm := fun _ => none }
theorem cfgM_ok : SmOk cfgM := by intro f g h; cases h
theorem gl_lt {k : Nat} (h : 0 < k) : ∀ p ∈ cfgM.gl, p.2 < k := by
  intro p hp
  rw [List.mem_singleton.1 hp]; exact h
/-- the powers of two that a count may be -/
def powB (p : Int) : Bool := decide (p = 1 ∨ p = 2 ∨ p = 4 ∨ p = 8 ∨ p = 16 ∨ p = 32 ∨ p = 64 ∨ p = 128 ∨ p = 256 ∨ p = 512 ∨ p = 1024 ∨ p = 2048 ∨ p = 4096 ∨ p = 8192 ∨ p = 16384 ∨ p = 32768)
def powN (p : Nat) : Bool := decide (p = 1 ∨ p = 2 ∨ p = 4 ∨ p = 8 ∨ p = 16 ∨ p = 32 ∨ p = 64 ∨ p = 128 ∨ p = 256 ∨ p = 512 ∨ p = 1024 ∨ p = 2048 ∨ p = 4096 ∨ p = 8192 ∨ p = 16384 ∨ p = 32768)
theorem powB_nat (p : Nat) : powB (p : Int) = powN p := by unfold powB powN; exact decide_eq_decide.2 (by omega)
/-- how many words, and what is wrong -/
def wordsP (p s : Int) : Int × Int :=
  if p < 1 ∨ 32768 < p ∨ powB p = false then (0, 120) else if s < 1 ∨ 32 < s then (0, 121) else (2 + p * (1 + (s + 3) / 4), 0)
end Go.Proofs.YtdadfgeepinpbaaDoor

namespace Go.Proofs.YtdadfgeepinpbaaDoor
open Go Go.Proofs.YtdadfgeepinpbaaDoor.Sx
set_option linter.unusedVariables false
set_option maxRecDepth 100000 in
theorem w_call {p s : Int} : callF cfgM 100 40 [.int .i64 p, .int .i64 s] [lookB] =
 

 (.br (decide (p < (1 : Int)))

 (.ret (.tup [.lit .i64 (0 : Int), .lit .i64 (120 : Int)], [.ro encLook [PUnit.unit]]))

 (.br (decide ((32768 : Int) < p))

 (.ret (.tup [.lit .i64 (0 : Int), .lit .i64 (120 : Int)], [.ro encLook [PUnit.unit]]))

 (.br (decide ((1 : Int) ≤ IntKind.u32.wrap p))

 (.br (decide (IntKind.u32.wrap p ≤ (32768 : Int)))

 (.br (!bitop BinOp.and IntKind.u32 (IntKind.u32.wrap p) (IntKind.u32.wrap (IntKind.u32.wrap p - (1 : Int))) == (0 : Int))

 (.ret (.tup [.lit .i64 (0 : Int), .lit .i64 (120 : Int)], [.ro encLook [PUnit.unit]]))

 (.br (decide (IntKind.u32.wrap p < (0 : Int)))

 (.ret (.tup [.lit .i64 (0 : Int), .lit .i64 (120 : Int)], [.ro encLook [PUnit.unit]]))

 (.br (decide (s < (1 : Int)))

 (.ret (.tup [.lit .i64 (0 : Int), .lit .i64 (121 : Int)], [.ro encLook [PUnit.unit]]))

 (.br (decide ((32 : Int) < s))

 (.ret (.tup [.lit .i64 (0 : Int), .lit .i64 (121 : Int)], [.ro encLook [PUnit.unit]]))

 (.need (inR .i64 (s + (3 : Int)))

 (.need (true)

 (.need (inR .i64 ((1 : Int) + IntKind.i64.wrap ((s + (3 : Int)).tdiv (4 : Int))))

 (.need (inR .i64 (p * ((1 : Int) + IntKind.i64.wrap ((s + (3 : Int)).tdiv (4 : Int)))))

 (.need (inR .i64 ((2 : Int) + p * ((1 : Int) + IntKind.i64.wrap ((s + (3 : Int)).tdiv (4 : Int)))))

 (.ret (.tup [.int .i64 ((2 : Int) + p * ((1 : Int) + IntKind.i64.wrap ((s + (3 : Int)).tdiv (4 : Int)))), .lit .i64 (0 : Int)], [.ro encLook [PUnit.unit]])))))))))))

 (.ret (.tup [.lit .i64 (0 : Int), .lit .i64 (120 : Int)], [.ro encLook [PUnit.unit]])))

 (.ret (.tup [.lit .i64 (0 : Int), .lit .i64 (120 : Int)], [.ro encLook [PUnit.unit]]))))) := by kernel_rfl
end Go.Proofs.YtdadfgeepinpbaaDoor

/- Layer 19: how many words a ring needs. -/
namespace Go.Proofs.YtdadfgeepinpbaaDoor
open Go Go.Proofs.YtdadfgeepinpbaaDoor.Sx
set_option linter.unusedVariables false
theorem asI_int {env : Env} {s : SVal} {v : Value} {k : IntKind} {x : Int} {b : Bool} (h : asI s = some (k, x, b)) (hd : Den env s v) : Den env (.int k x) v := by rw [asI_den h hd]; simp [Den]
theorem asI_ren {s : SVal} {k : IntKind} {x : Int} {b : Bool} {m : List Nat} (h : asI s = some (k, x, b)) : ren m s = s := by
  cases s <;> simp [asI] at h <;> rfl
theorem and_pow : ∀ (k n : Nat), 1 ≤ n → n < 2 ^ (k + 1) → ((n &&& (n - 1)) = 0 ↔ ∃ j, j ≤ k ∧ n = 2 ^ j)
  | 0, n, h1, h2 => by
    have : n = 1 := by omega
    subst this
    exact ⟨fun _ => ⟨0, Nat.le_refl _, rfl⟩, fun _ => rfl⟩
  | k + 1, n, h1, h2 => by
    have hd : (n &&& (n - 1)) / 2 = n / 2 &&& (n - 1) / 2 := Nat.and_div_two
    have hm := @Nat.and_mod_two_eq_one n (n - 1)
    by_cases he : n % 2 = 1
    · by_cases h3 : n = 1
      · subst h3
        exact ⟨fun _ => ⟨0, Nat.zero_le _, rfl⟩, fun _ => rfl⟩
      · have e : (n - 1) / 2 = n / 2 := by omega
        rw [e, Nat.and_self] at hd
        refine ⟨fun h => by rw [h] at hd; omega, ?_⟩
        rintro ⟨j, _, hj⟩
        exfalso
        cases j with
        | zero => omega
        | succ j => rw [Nat.pow_succ] at hj; omega
    · have ih := and_pow k (n / 2) (by omega) (by rw [Nat.pow_succ] at h2; omega)
      have e : (n - 1) / 2 = n / 2 - 1 := by omega
      rw [e] at hd
      constructor
      · intro h
        rw [h] at hd
        obtain ⟨j, h4, h5⟩ := ih.1 (by omega)
        exact ⟨j + 1, by omega, by rw [Nat.pow_succ]; omega⟩
      · rintro ⟨j, h4, h5⟩
        cases j with
        | zero => omega
        | succ j =>
          have h6 := ih.2 ⟨j, by omega, by rw [Nat.pow_succ] at h5; omega⟩
          rw [h6] at hd
          have : ¬ (n &&& (n - 1)) % 2 = 1 := fun h => he (hm.1 h).1
          omega
theorem pow_nat {n : Nat} (h1 : 1 ≤ n) (h2 : n ≤ 32768) : ((n &&& (n - 1)) == 0) = powN n := by
  have h := and_pow 15 n h1 (by omega)
  have h3 : (∃ j, j ≤ 15 ∧ n = 2 ^ j) ↔ powN n = true := by
    unfold powN
    rw [decide_eq_true_eq]
    constructor
    · rintro ⟨j, hj, rfl⟩
      have : j = 0 ∨ j = 1 ∨ j = 2 ∨ j = 3 ∨ j = 4 ∨ j = 5 ∨ j = 6 ∨ j = 7 ∨ j = 8 ∨ j = 9 ∨ j = 10 ∨ j = 11 ∨ j = 12 ∨ j = 13 ∨ j = 14 ∨ j = 15 := by omega
      rcases this with rfl | rfl | rfl | rfl | rfl | rfl | rfl | rfl | rfl | rfl | rfl | rfl | rfl | rfl | rfl | rfl <;> decide
    · intro h
      rcases h with rfl | rfl | rfl | rfl | rfl | rfl | rfl | rfl | rfl | rfl | rfl | rfl | rfl | rfl | rfl | rfl
      · exact ⟨0, by omega, rfl⟩
      · exact ⟨1, by omega, rfl⟩
      · exact ⟨2, by omega, rfl⟩
      · exact ⟨3, by omega, rfl⟩
      · exact ⟨4, by omega, rfl⟩
      · exact ⟨5, by omega, rfl⟩
      · exact ⟨6, by omega, rfl⟩
      · exact ⟨7, by omega, rfl⟩
      · exact ⟨8, by omega, rfl⟩
      · exact ⟨9, by omega, rfl⟩
      · exact ⟨10, by omega, rfl⟩
      · exact ⟨11, by omega, rfl⟩
      · exact ⟨12, by omega, rfl⟩
      · exact ⟨13, by omega, rfl⟩
      · exact ⟨14, by omega, rfl⟩
      · exact ⟨15, by omega, rfl⟩
  rw [h3] at h
  cases hq : powN n with
  | true => exact beq_iff_eq.2 (h.2 hq)
  | false =>
    refine beq_eq_false_iff_ne.2 fun e => ?_
    have := h.1 e
    rw [hq] at this; cases this
theorem w32_mod (x : Int) : IntKind.u32.wrap x = x % 4294967296 := by
  simp [IntKind.wrap, IntKind.signed, IntKind.bits]
theorem low_u32 (x : Int) : ((low .u32 x : Nat) : Int) = x % 4294967296 := by
  have : 0 ≤ x % 4294967296 := by omega
  simp only [low, IntKind.bits]
  omega
theorem pow_and {p : Int} (h1 : 1 ≤ p) (h2 : p ≤ 32768) : (bitop .and .u32 p (p - 1) == 0) = powB p := by
  have e1 : low .u32 p = p.toNat := by have := low_u32 p; omega
  have e2 : low .u32 (p - 1) = p.toNat - 1 := by have := low_u32 (p - 1); omega
  have h3 := pow_nat (n := p.toNat) (by omega) (by omega)
  have e6 : powB p = powN p.toNat := by rw [← powB_nat]; congr 1; omega
  rw [e6, ← h3]
  have hle : p.toNat &&& (p.toNat - 1) ≤ p.toNat := Nat.and_le_left
  simp only [bitop, e1, e2, w32_mod]
  cases hq : (p.toNat &&& (p.toNat - 1)) == 0 with
  | true => rw [beq_iff_eq] at hq ⊢; rw [hq]; rfl
  | false => rw [beq_eq_false_iff_ne] at hq ⊢; omega
theorem wrap_i64 {x : Int} (h : -9223372036854775808 ≤ x ∧ x ≤ 9223372036854775807) : IntKind.i64.wrap x = x := wrap_inR (by rw [inR_i64]; omega)
theorem look_ren : renSt (List.range 1) [lookB] (List.range 1) = some [lookB] := by kernel_rfl
set_option maxHeartbeats 1000000 in
theorem words_call {p s : Int} : ∀ (env : Env) (w : World) (vs : List Value), GlOk cfgM.gl env → Rep env [lookB] w → DenL env [.int .i64 p, .int .i64 s] vs → Calls cfgM.P 40 ⟨vs⟩ w (Ends1 env [lookB] w (.tup [.int .i64 (wordsP p s).1, .int .i64 (wordsP p s).2]) [lookB]) := by
  refine ends_allg (c := cfgM) cfgM_ok w_call (by kernel_rfl) rfl look_ren rfl ?_
  have bad : ∀ {x : SVal × St}, (p < 1 ∨ 32768 < p ∨ powB p = false) → x = (.tup [.lit .i64 0, .lit .i64 120], [lookB]) → All (fun r => ∃ X, gen r.1 = gen (.tup [.int .i64 (wordsP p s).1, .int .i64 (wordsP p s).2]) ∧ genS r.2 = genS ([lookB] ++ X)) (.ret x) := by
    intro x h e
    subst e
    have : wordsP p s = (0, 120) := by unfold wordsP; rw [if_pos h]
    rw [this]
    exact all_ret ⟨[], rfl, rfl⟩
  refine all_brp (by simp only [decide_eq_true_eq] <;> exact Iff.rfl) (fun h1 => bad (.inl h1) rfl) (fun h1 => ?_)
  refine all_brp (by simp only [decide_eq_true_eq] <;> exact Iff.rfl) (fun h2 => bad (.inr (.inl h2)) rfl) (fun h2 => ?_)
  have e1 : IntKind.u32.wrap p = p := wrap_inR (by rw [inR_u32]; omega)
  have e2 : IntKind.u32.wrap (p - 1) = p - 1 := wrap_inR (by rw [inR_u32]; omega)
  rw [e1, e2, pow_and (by omega) (by omega)]
  refine all_brp (by simp only [decide_eq_true_eq]; exact Iff.rfl) (fun h3 => ?_) (fun h3 => by exfalso; omega)
  refine all_brp (by simp only [decide_eq_true_eq]; exact Iff.rfl) (fun h4 => ?_) (fun h4 => by exfalso; omega)
  refine all_br (fun h5 => bad (.inr (.inr (by simpa using h5))) rfl) (fun h5 => ?_)
  have h5' : powB p = true := by simpa using h5
  refine all_brp (by simp only [decide_eq_true_eq]; exact Iff.rfl) (fun h6 => by exfalso; omega) (fun h6 => ?_)
  have hn : ¬ (p < 1 ∨ 32768 < p ∨ powB p = false) := by rw [h5']; simp; omega
  refine all_brp (by simp only [decide_eq_true_eq]; exact Iff.rfl) (fun h7 => ?_) (fun h7 => ?_)
  · have : wordsP p s = (0, 121) := by unfold wordsP; rw [if_neg hn, if_pos (.inl h7)]
    rw [this]; exact all_ret ⟨[], rfl, rfl⟩
  refine all_brp (by simp only [decide_eq_true_eq]; exact Iff.rfl) (fun h8 => ?_) (fun h8 => ?_)
  · have : wordsP p s = (0, 121) := by unfold wordsP; rw [if_neg hn, if_pos (.inr h8)]
    rw [this]; exact all_ret ⟨[], rfl, rfl⟩
  have e3 : IntKind.i64.wrap ((s + 3).tdiv 4) = (s + 3) / 4 := by
    rw [Int.tdiv_eq_ediv_of_nonneg (by omega), wrap_i64 (by omega)]
  rw [e3]
  have hm : 0 ≤ p * (1 + (s + 3) / 4) ∧ p * (1 + (s + 3) / 4) ≤ 32768 * 9 := by
    have h9 : 1 + (s + 3) / 4 ≤ 9 := by omega
    have h10 : 0 ≤ 1 + (s + 3) / 4 := by omega
    exact ⟨Int.mul_nonneg (by omega) h10, Int.mul_le_mul (by omega) h9 h10 (by omega)⟩
  refine all_needq (by simp only [inR_i64]; exact Iff.rfl) (by omega) ?_
  refine all_need rfl fun _ => ?_
  refine all_needq (by simp only [inR_i64]; exact Iff.rfl) (by omega) ?_
  refine all_needq (by simp only [inR_i64]; exact Iff.rfl) (by omega) ?_
  refine all_needq (by simp only [inR_i64]; exact Iff.rfl) (by omega) ?_
  have : wordsP p s = (2 + p * (1 + (s + 3) / 4), 0) := by unfold wordsP; rw [if_neg hn, if_neg (by omega)]
  rw [this]; exact all_ret ⟨[], rfl, rfl⟩
noncomputable def gWords (args : List SVal) (S : St) : T (SVal × St) := match args with
  | [a, b] => match asI a, asI b with
    | some (.i64, p, _), some (.i64, s, _) => .eq (S = [lookB]) (.ret (.tup [.int .i64 (wordsP p s).1, .int .i64 (wordsP p s).2], [lookB]))
    | _, _ => .no 200
  | _ => .no 201
theorem gWords_ok (args : List SVal) (S : St) (v : SVal) (S' : St) (h : (gWords args S).at (v, S')) : PreOk cfgM 1 40 args S v S' := by
  unfold gWords at h
  split at h
  · rename_i a b
    split at h
    · rename_i p la s lb h1 h2
      obtain ⟨rfl, h⟩ := h
      simp only [T.at, Prod.mk.injEq] at h
      obtain ⟨rfl, rfl⟩ := h
      refine ⟨fun env w vs hg hr hd => ?_, rfl, rfl, fun _ _ h => .inr h, look_ren, by simp only [renL, asI_ren h1, asI_ren h2]⟩
      obtain ⟨u, us, rfl, h4, u2, us2, rfl, h5, rfl⟩ := hd
      exact words_call env w _ hg hr ⟨_, _, rfl, asI_int h1 h4, _, _, rfl, asI_int h2 h5, rfl⟩
    · exact h.elim
  · exact h.elim
end Go.Proofs.YtdadfgeepinpbaaDoor

/- Layer 19: sender and receiver: states. -/
namespace Go.Proofs.YtdadfgeepinpbaaDoor
open Go Go.Proofs.YtdadfgeepinpbaaDoor.Sx
set_option linter.unusedVariables false
abbrev memS (n : Nat) (l : List Int) (c : Int) : St := [lookB, .own [.a (encInt .u32) n l] 35, .own [.c (.sli 1 (.c 0) 1 (.v n) (some (.v n))), .c (.int .i64 c)] 90]
/-- a sender, but for its step and its messages -/
structure Snd where
  at' : Int
  n : Int
  z : Int
  head : Int
  tail : Int
  did : Int
  sent : List Bool
  /-- its step: 0 begin, 1 look, 2 put, 3 tell -/
  p : Nat
abbrev snB (f k : Nat) (x : Snd) (m : Nat) : Blk := .own [.c (.int .i64 x.at'), .c (.int .i64 x.n), .c (.int .i64 x.z), .c (.fn (.func f) [.ptr k 0] []), .c (.int .u32 x.head), .c (.int .u32 x.tail), .c (.int .i64 x.did), .c (.sli (k + 1) (.c 0) 1 (.v m) none), .c (.sli (k + 2) (.c 0) 1 (.v x.sent.length) none)] 124
abbrev sndS (f k : Nat) (x : Snd) (ms : List ByteArray) : St := [snB f k x ms.length, .vec encStr ms 9, .vec encBool x.sent 4]
abbrev sSn (f n : Nat) (l : List Int) (c : Int) (x : Snd) (ms : List ByteArray) : St := memS n l c ++ sndS f 3 x ms
/-- a receiver, but for its step -/
structure Rcv where
  at' : Int
  n : Int
  z : Int
  head : Int
  tail : Int
  did : Int
  times : Int
  ln : Int
  b : List Int
  got : List ByteArray
  /-- its step: 0 begin, 1 look, 2 take, 3 tell -/
  p : Nat
abbrev rvB (f k : Nat) (x : Rcv) : Blk := .own [.c (.int .i64 x.at'), .c (.int .i64 x.n), .c (.int .i64 x.z), .c (.fn (.func f) [.ptr k 0] []), .c (.int .u32 x.head), .c (.int .u32 x.tail), .c (.int .i64 x.did), .c (.int .i64 x.times), .c (.int .i64 x.ln), .c (.sli (k + 1) (.c 0) 1 (.v x.b.length) none), .c (.sli (k + 2) (.c 0) 1 (.v x.got.length) none)] 127
abbrev rcvS (f k : Nat) (x : Rcv) : St := [rvB f k x, .vec (encInt .u8) x.b 5, .vec encStr x.got 9]
abbrev sR (f n : Nat) (l : List Int) (c : Int) (x : Rcv) : St := memS n l c ++ rcvS f 3 x
abbrev nilB : ByteArray := ⟨⟨[]⟩⟩
def sfn (p : Nat) : Nat := match p with | 0 => 41 | 1 => 46 | 2 => 50 | _ => 56
def rfn (p : Nat) : Nat := match p with | 0 => 42 | 1 => 47 | 2 => 52 | _ => 57
/-- behind a step: its rows lie anew -/
abbrev sE (n : Nat) (l : List Int) (c : Int) (x : Snd) (ms : List ByteArray) : St := memS n l c ++ [.own [.c (.int .i64 x.at'), .c (.int .i64 x.n), .c (.int .i64 x.z), .c (.fn (.func (sfn x.p)) [.ptr 3 0] []), .c (.int .u32 x.head), .c (.int .u32 x.tail), .c (.int .i64 x.did), .c (.sli 4 (.c 0) 1 (.v ms.length) none), .c (.sli 6 (.c 0) 1 (.v x.sent.length) none)] 124, .vec encStr ms 9, .gone, .vec encBool x.sent 4]
abbrev rE (n : Nat) (l : List Int) (c : Int) (x : Rcv) : St := memS n l c ++ [.own [.c (.int .i64 x.at'), .c (.int .i64 x.n), .c (.int .i64 x.z), .c (.fn (.func (rfn x.p)) [.ptr 3 0] []), .c (.int .u32 x.head), .c (.int .u32 x.tail), .c (.int .i64 x.did), .c (.int .i64 x.times), .c (.int .i64 x.ln), .c (.sli 6 (.c 0) 1 (.v x.b.length) none), .c (.sli 7 (.c 0) 1 (.v x.got.length) none)] 127, .gone, .gone, .vec (encInt .u8) x.b 5, .vec encStr x.got 9]
end Go.Proofs.YtdadfgeepinpbaaDoor

namespace Go.Proofs.YtdadfgeepinpbaaDoor
open Go Go.Proofs.YtdadfgeepinpbaaDoor.Sx
set_option linter.unusedVariables false
set_option maxRecDepth 100000 in
theorem p_call {s : ByteArray} {k : Int} : callF cfgM 100 54 [.str s, .int .i64 k] [lookB] =
 

 (.need (true)

 (.need (inR .i64 ((4 : Int) * k))

 (.need (inR .i64 ((4 : Int) * k + (0 : Int)))

 (.br (decide ((4 : Int) * k + (0 : Int) < (↑s.size : Int)))

 (.need (inR .i64 ((4 : Int) * k))

 (.need (inR .i64 ((4 : Int) * k + (0 : Int)))

 (.need (decide ((0 : Int) ≤ (4 : Int) * k + (0 : Int)) && decide (((4 : Int) * k + (0 : Int)).toNat < s.size))

 (.need (inR .u32 (byteAt s ((4 : Int) * k + (0 : Int)).toNat))

 (.need (true)

 (.need (inR .i64 ((4 : Int) * k))

 (.need (inR .i64 ((4 : Int) * k + (1 : Int)))

 (.br (decide ((4 : Int) * k + (1 : Int) < (↑s.size : Int)))

 (.need (inR .i64 ((4 : Int) * k))

 (.need (inR .i64 ((4 : Int) * k + (1 : Int)))

 (.need (decide ((0 : Int) ≤ (4 : Int) * k + (1 : Int)) && decide (((4 : Int) * k + (1 : Int)).toNat < s.size))

 (.need (inR .u32 (byteAt s ((4 : Int) * k + (1 : Int)).toNat))

 (.need (true)

 (.need (inR .i64 ((4 : Int) * k))

 (.need (inR .i64 ((4 : Int) * k + (2 : Int)))

 (.br (decide ((4 : Int) * k + (2 : Int) < (↑s.size : Int)))

 (.need (inR .i64 ((4 : Int) * k))

 (.need (inR .i64 ((4 : Int) * k + (2 : Int)))

 (.need (decide ((0 : Int) ≤ (4 : Int) * k + (2 : Int)) && decide (((4 : Int) * k + (2 : Int)).toNat < s.size))

 (.need (inR .u32 (byteAt s ((4 : Int) * k + (2 : Int)).toNat))

 (.need (true)

 (.need (inR .i64 ((4 : Int) * k))

 (.need (inR .i64 ((4 : Int) * k + (3 : Int)))

 (.br (decide ((4 : Int) * k + (3 : Int) < (↑s.size : Int)))

 (.need (inR .i64 ((4 : Int) * k))

 (.need (inR .i64 ((4 : Int) * k + (3 : Int)))

 (.need (decide ((0 : Int) ≤ (4 : Int) * k + (3 : Int)) && decide (((4 : Int) * k + (3 : Int)).toNat < s.size))

 (.need (inR .u32 (byteAt s ((4 : Int) * k + (3 : Int)).toNat))

 (.ret (.int .u32 (bitop BinOp.or IntKind.u32 (IntKind.u32.wrap (bitop BinOp.or IntKind.u32 (IntKind.u32.wrap (bitop BinOp.or IntKind.u32 (IntKind.u32.wrap (bitop BinOp.or IntKind.u32 (0 : Int) (byteAt s ((4 : Int) * k + (0 : Int)).toNat) * (256 : Int))) (byteAt s ((4 : Int) * k + (1 : Int)).toNat) * (256 : Int))) (byteAt s ((4 : Int) * k + (2 : Int)).toNat) * (256 : Int))) (byteAt s ((4 : Int) * k + (3 : Int)).toNat)), [.ro encLook [PUnit.unit]]))))))

 (.ret (.int .u32 (IntKind.u32.wrap (bitop BinOp.or IntKind.u32 (IntKind.u32.wrap (bitop BinOp.or IntKind.u32 (IntKind.u32.wrap (bitop BinOp.or IntKind.u32 (0 : Int) (byteAt s ((4 : Int) * k + (0 : Int)).toNat) * (256 : Int))) (byteAt s ((4 : Int) * k + (1 : Int)).toNat) * (256 : Int))) (byteAt s ((4 : Int) * k + (2 : Int)).toNat) * (256 : Int))), [.ro encLook [PUnit.unit]]))))))))))

 (.need (true)

 (.need (inR .i64 ((4 : Int) * k))

 (.need (inR .i64 ((4 : Int) * k + (3 : Int)))

 (.br (decide ((4 : Int) * k + (3 : Int) < (↑s.size : Int)))

 (.need (inR .i64 ((4 : Int) * k))

 (.need (inR .i64 ((4 : Int) * k + (3 : Int)))

 (.need (decide ((0 : Int) ≤ (4 : Int) * k + (3 : Int)) && decide (((4 : Int) * k + (3 : Int)).toNat < s.size))

 (.need (inR .u32 (byteAt s ((4 : Int) * k + (3 : Int)).toNat))

 (.ret (.int .u32 (bitop BinOp.or IntKind.u32 (IntKind.u32.wrap (IntKind.u32.wrap (bitop BinOp.or IntKind.u32 (IntKind.u32.wrap (bitop BinOp.or IntKind.u32 (0 : Int) (byteAt s ((4 : Int) * k + (0 : Int)).toNat) * (256 : Int))) (byteAt s ((4 : Int) * k + (1 : Int)).toNat) * (256 : Int)) * (256 : Int))) (byteAt s ((4 : Int) * k + (3 : Int)).toNat)), [.ro encLook [PUnit.unit]]))))))

 (.ret (.int .u32 (IntKind.u32.wrap (IntKind.u32.wrap (bitop BinOp.or IntKind.u32 (IntKind.u32.wrap (bitop BinOp.or IntKind.u32 (0 : Int) (byteAt s ((4 : Int) * k + (0 : Int)).toNat) * (256 : Int))) (byteAt s ((4 : Int) * k + (1 : Int)).toNat) * (256 : Int)) * (256 : Int))), [.ro encLook [PUnit.unit]]))))))))))))))

 (.need (true)

 (.need (inR .i64 ((4 : Int) * k))

 (.need (inR .i64 ((4 : Int) * k + (2 : Int)))

 (.br (decide ((4 : Int) * k + (2 : Int) < (↑s.size : Int)))

 (.need (inR .i64 ((4 : Int) * k))

 (.need (inR .i64 ((4 : Int) * k + (2 : Int)))

 (.need (decide ((0 : Int) ≤ (4 : Int) * k + (2 : Int)) && decide (((4 : Int) * k + (2 : Int)).toNat < s.size))

 (.need (inR .u32 (byteAt s ((4 : Int) * k + (2 : Int)).toNat))

 (.need (true)

 (.need (inR .i64 ((4 : Int) * k))

 (.need (inR .i64 ((4 : Int) * k + (3 : Int)))

 (.br (decide ((4 : Int) * k + (3 : Int) < (↑s.size : Int)))

 (.need (inR .i64 ((4 : Int) * k))

 (.need (inR .i64 ((4 : Int) * k + (3 : Int)))

 (.need (decide ((0 : Int) ≤ (4 : Int) * k + (3 : Int)) && decide (((4 : Int) * k + (3 : Int)).toNat < s.size))

 (.need (inR .u32 (byteAt s ((4 : Int) * k + (3 : Int)).toNat))

 (.ret (.int .u32 (bitop BinOp.or IntKind.u32 (IntKind.u32.wrap (bitop BinOp.or IntKind.u32 (IntKind.u32.wrap (IntKind.u32.wrap (bitop BinOp.or IntKind.u32 (0 : Int) (byteAt s ((4 : Int) * k + (0 : Int)).toNat) * (256 : Int)) * (256 : Int))) (byteAt s ((4 : Int) * k + (2 : Int)).toNat) * (256 : Int))) (byteAt s ((4 : Int) * k + (3 : Int)).toNat)), [.ro encLook [PUnit.unit]]))))))

 (.ret (.int .u32 (IntKind.u32.wrap (bitop BinOp.or IntKind.u32 (IntKind.u32.wrap (IntKind.u32.wrap (bitop BinOp.or IntKind.u32 (0 : Int) (byteAt s ((4 : Int) * k + (0 : Int)).toNat) * (256 : Int)) * (256 : Int))) (byteAt s ((4 : Int) * k + (2 : Int)).toNat) * (256 : Int))), [.ro encLook [PUnit.unit]]))))))))))

 (.need (true)

 (.need (inR .i64 ((4 : Int) * k))

 (.need (inR .i64 ((4 : Int) * k + (3 : Int)))

 (.br (decide ((4 : Int) * k + (3 : Int) < (↑s.size : Int)))

 (.need (inR .i64 ((4 : Int) * k))

 (.need (inR .i64 ((4 : Int) * k + (3 : Int)))

 (.need (decide ((0 : Int) ≤ (4 : Int) * k + (3 : Int)) && decide (((4 : Int) * k + (3 : Int)).toNat < s.size))

 (.need (inR .u32 (byteAt s ((4 : Int) * k + (3 : Int)).toNat))

 (.ret (.int .u32 (bitop BinOp.or IntKind.u32 (IntKind.u32.wrap (IntKind.u32.wrap (IntKind.u32.wrap (bitop BinOp.or IntKind.u32 (0 : Int) (byteAt s ((4 : Int) * k + (0 : Int)).toNat) * (256 : Int)) * (256 : Int)) * (256 : Int))) (byteAt s ((4 : Int) * k + (3 : Int)).toNat)), [.ro encLook [PUnit.unit]]))))))

 (.ret (.int .u32 (IntKind.u32.wrap (IntKind.u32.wrap (IntKind.u32.wrap (bitop BinOp.or IntKind.u32 (0 : Int) (byteAt s ((4 : Int) * k + (0 : Int)).toNat) * (256 : Int)) * (256 : Int)) * (256 : Int))), [.ro encLook [PUnit.unit]]))))))))))))))))))

 (.need (true)

 (.need (inR .i64 ((4 : Int) * k))

 (.need (inR .i64 ((4 : Int) * k + (1 : Int)))

 (.br (decide ((4 : Int) * k + (1 : Int) < (↑s.size : Int)))

 (.need (inR .i64 ((4 : Int) * k))

 (.need (inR .i64 ((4 : Int) * k + (1 : Int)))

 (.need (decide ((0 : Int) ≤ (4 : Int) * k + (1 : Int)) && decide (((4 : Int) * k + (1 : Int)).toNat < s.size))

 (.need (inR .u32 (byteAt s ((4 : Int) * k + (1 : Int)).toNat))

 (.need (true)

 (.need (inR .i64 ((4 : Int) * k))

 (.need (inR .i64 ((4 : Int) * k + (2 : Int)))

 (.br (decide ((4 : Int) * k + (2 : Int) < (↑s.size : Int)))

 (.need (inR .i64 ((4 : Int) * k))

 (.need (inR .i64 ((4 : Int) * k + (2 : Int)))

 (.need (decide ((0 : Int) ≤ (4 : Int) * k + (2 : Int)) && decide (((4 : Int) * k + (2 : Int)).toNat < s.size))

 (.need (inR .u32 (byteAt s ((4 : Int) * k + (2 : Int)).toNat))

 (.need (true)

 (.need (inR .i64 ((4 : Int) * k))

 (.need (inR .i64 ((4 : Int) * k + (3 : Int)))

 (.br (decide ((4 : Int) * k + (3 : Int) < (↑s.size : Int)))

 (.need (inR .i64 ((4 : Int) * k))

 (.need (inR .i64 ((4 : Int) * k + (3 : Int)))

 (.need (decide ((0 : Int) ≤ (4 : Int) * k + (3 : Int)) && decide (((4 : Int) * k + (3 : Int)).toNat < s.size))

 (.need (inR .u32 (byteAt s ((4 : Int) * k + (3 : Int)).toNat))

 (.ret (.int .u32 (bitop BinOp.or IntKind.u32 (IntKind.u32.wrap (bitop BinOp.or IntKind.u32 (IntKind.u32.wrap (bitop BinOp.or IntKind.u32 (0 : Int) (byteAt s ((4 : Int) * k + (1 : Int)).toNat) * (256 : Int))) (byteAt s ((4 : Int) * k + (2 : Int)).toNat) * (256 : Int))) (byteAt s ((4 : Int) * k + (3 : Int)).toNat)), [.ro encLook [PUnit.unit]]))))))

 (.ret (.int .u32 (IntKind.u32.wrap (bitop BinOp.or IntKind.u32 (IntKind.u32.wrap (bitop BinOp.or IntKind.u32 (0 : Int) (byteAt s ((4 : Int) * k + (1 : Int)).toNat) * (256 : Int))) (byteAt s ((4 : Int) * k + (2 : Int)).toNat) * (256 : Int))), [.ro encLook [PUnit.unit]]))))))))))

 (.need (true)

 (.need (inR .i64 ((4 : Int) * k))

 (.need (inR .i64 ((4 : Int) * k + (3 : Int)))

 (.br (decide ((4 : Int) * k + (3 : Int) < (↑s.size : Int)))

 (.need (inR .i64 ((4 : Int) * k))

 (.need (inR .i64 ((4 : Int) * k + (3 : Int)))

 (.need (decide ((0 : Int) ≤ (4 : Int) * k + (3 : Int)) && decide (((4 : Int) * k + (3 : Int)).toNat < s.size))

 (.need (inR .u32 (byteAt s ((4 : Int) * k + (3 : Int)).toNat))

 (.ret (.int .u32 (bitop BinOp.or IntKind.u32 (IntKind.u32.wrap (IntKind.u32.wrap (bitop BinOp.or IntKind.u32 (0 : Int) (byteAt s ((4 : Int) * k + (1 : Int)).toNat) * (256 : Int)) * (256 : Int))) (byteAt s ((4 : Int) * k + (3 : Int)).toNat)), [.ro encLook [PUnit.unit]]))))))

 (.ret (.int .u32 (IntKind.u32.wrap (IntKind.u32.wrap (bitop BinOp.or IntKind.u32 (0 : Int) (byteAt s ((4 : Int) * k + (1 : Int)).toNat) * (256 : Int)) * (256 : Int))), [.ro encLook [PUnit.unit]]))))))))))))))

 (.need (true)

 (.need (inR .i64 ((4 : Int) * k))

 (.need (inR .i64 ((4 : Int) * k + (2 : Int)))

 (.br (decide ((4 : Int) * k + (2 : Int) < (↑s.size : Int)))

 (.need (inR .i64 ((4 : Int) * k))

 (.need (inR .i64 ((4 : Int) * k + (2 : Int)))

 (.need (decide ((0 : Int) ≤ (4 : Int) * k + (2 : Int)) && decide (((4 : Int) * k + (2 : Int)).toNat < s.size))

 (.need (inR .u32 (byteAt s ((4 : Int) * k + (2 : Int)).toNat))

 (.need (true)

 (.need (inR .i64 ((4 : Int) * k))

 (.need (inR .i64 ((4 : Int) * k + (3 : Int)))

 (.br (decide ((4 : Int) * k + (3 : Int) < (↑s.size : Int)))

 (.need (inR .i64 ((4 : Int) * k))

 (.need (inR .i64 ((4 : Int) * k + (3 : Int)))

 (.need (decide ((0 : Int) ≤ (4 : Int) * k + (3 : Int)) && decide (((4 : Int) * k + (3 : Int)).toNat < s.size))

 (.need (inR .u32 (byteAt s ((4 : Int) * k + (3 : Int)).toNat))

 (.ret (.int .u32 (bitop BinOp.or IntKind.u32 (IntKind.u32.wrap (bitop BinOp.or IntKind.u32 (0 : Int) (byteAt s ((4 : Int) * k + (2 : Int)).toNat) * (256 : Int))) (byteAt s ((4 : Int) * k + (3 : Int)).toNat)), [.ro encLook [PUnit.unit]]))))))

 (.ret (.int .u32 (IntKind.u32.wrap (bitop BinOp.or IntKind.u32 (0 : Int) (byteAt s ((4 : Int) * k + (2 : Int)).toNat) * (256 : Int))), [.ro encLook [PUnit.unit]]))))))))))

 (.need (true)

 (.need (inR .i64 ((4 : Int) * k))

 (.need (inR .i64 ((4 : Int) * k + (3 : Int)))

 (.br (decide ((4 : Int) * k + (3 : Int) < (↑s.size : Int)))

 (.need (inR .i64 ((4 : Int) * k))

 (.need (inR .i64 ((4 : Int) * k + (3 : Int)))

 (.need (decide ((0 : Int) ≤ (4 : Int) * k + (3 : Int)) && decide (((4 : Int) * k + (3 : Int)).toNat < s.size))

 (.need (inR .u32 (byteAt s ((4 : Int) * k + (3 : Int)).toNat))

 (.ret (.int .u32 (bitop BinOp.or IntKind.u32 (0 : Int) (byteAt s ((4 : Int) * k + (3 : Int)).toNat)), [.ro encLook [PUnit.unit]]))))))

 (.ret (.lit .u32 (0 : Int), [.ro encLook [PUnit.unit]])))))))))))))))))) := by kernel_rfl
set_option maxRecDepth 100000 in
theorem pc_call {a n z i : Int} : callF cfgM 100 55 [.agg [.int .i64 a, .int .i64 n, .int .i64 z], .int .u32 i] [lookB] =
 

 (.br (decide ((1 : Int) ≤ IntKind.u32.wrap n))

 (.br (decide (IntKind.u32.wrap n ≤ (32768 : Int)))

 (.br (!bitop BinOp.and IntKind.u32 (IntKind.u32.wrap n) (IntKind.u32.wrap (IntKind.u32.wrap n - (1 : Int))) == (0 : Int))

 (.need (inR .i64 (a + (2 : Int)))

 (.need (inR .i64 (z + (3 : Int)))

 (.need (true)

 (.need (inR .i64 ((1 : Int) + IntKind.i64.wrap ((z + (3 : Int)).tdiv (4 : Int))))

 (.need (inR .i64 ((0 : Int) * ((1 : Int) + IntKind.i64.wrap ((z + (3 : Int)).tdiv (4 : Int)))))

 (.need (inR .i64 (a + (2 : Int) + (0 : Int) * ((1 : Int) + IntKind.i64.wrap ((z + (3 : Int)).tdiv (4 : Int)))))
 (.eq (T.ret (SVal.int IntKind.i64 a) = T.ret (SVal.int IntKind.i64 a))
 (.eq (T.ret (SVal.int IntKind.i64 a) = T.ret (SVal.int IntKind.i64 a))
 (.eq (T.ret (SVal.int IntKind.i64 z) = T.ret (SVal.int IntKind.i64 z))

 (.ret (.int .i64 (a + (2 : Int) + (0 : Int) * ((1 : Int) + IntKind.i64.wrap ((z + (3 : Int)).tdiv (4 : Int)))), [.ro encLook [PUnit.unit], .own [.c (.int .i64 a), .c (.int .i64 n), .c (.int .i64 z)] 119])))))))))))

 (.need (inR .i64 (a + (2 : Int)))

 (.need (inR .i64 (bitop BinOp.and IntKind.u32 i (IntKind.u32.wrap (IntKind.u32.wrap n - (1 : Int)))))

 (.need (inR .i64 (z + (3 : Int)))

 (.need (true)

 (.need (inR .i64 ((1 : Int) + IntKind.i64.wrap ((z + (3 : Int)).tdiv (4 : Int))))

 (.need (inR .i64 (bitop BinOp.and IntKind.u32 i (IntKind.u32.wrap (IntKind.u32.wrap n - (1 : Int))) * ((1 : Int) + IntKind.i64.wrap ((z + (3 : Int)).tdiv (4 : Int)))))

 (.need (inR .i64 (a + (2 : Int) + bitop BinOp.and IntKind.u32 i (IntKind.u32.wrap (IntKind.u32.wrap n - (1 : Int))) * ((1 : Int) + IntKind.i64.wrap ((z + (3 : Int)).tdiv (4 : Int)))))
 (.eq (T.ret (SVal.int IntKind.i64 a) = T.ret (SVal.int IntKind.i64 a))
 (.eq (T.ret (SVal.int IntKind.i64 a) = T.ret (SVal.int IntKind.i64 a))
 (.eq (T.ret (SVal.int IntKind.i64 z) = T.ret (SVal.int IntKind.i64 z))

 (.ret (.int .i64 (a + (2 : Int) + bitop BinOp.and IntKind.u32 i (IntKind.u32.wrap (IntKind.u32.wrap n - (1 : Int))) * ((1 : Int) + IntKind.i64.wrap ((z + (3 : Int)).tdiv (4 : Int)))), [.ro encLook [PUnit.unit], .own [.c (.int .i64 a), .c (.int .i64 n), .c (.int .i64 z)] 119])))))))))))))

 (.need (inR .i64 (a + (2 : Int)))

 (.need (inR .i64 (z + (3 : Int)))

 (.need (true)

 (.need (inR .i64 ((1 : Int) + IntKind.i64.wrap ((z + (3 : Int)).tdiv (4 : Int))))

 (.need (inR .i64 ((0 : Int) * ((1 : Int) + IntKind.i64.wrap ((z + (3 : Int)).tdiv (4 : Int)))))

 (.need (inR .i64 (a + (2 : Int) + (0 : Int) * ((1 : Int) + IntKind.i64.wrap ((z + (3 : Int)).tdiv (4 : Int)))))
 (.eq (T.ret (SVal.int IntKind.i64 a) = T.ret (SVal.int IntKind.i64 a))
 (.eq (T.ret (SVal.int IntKind.i64 a) = T.ret (SVal.int IntKind.i64 a))
 (.eq (T.ret (SVal.int IntKind.i64 z) = T.ret (SVal.int IntKind.i64 z))

 (.ret (.int .i64 (a + (2 : Int) + (0 : Int) * ((1 : Int) + IntKind.i64.wrap ((z + (3 : Int)).tdiv (4 : Int)))), [.ro encLook [PUnit.unit], .own [.c (.int .i64 a), .c (.int .i64 n), .c (.int .i64 z)] 119]))))))))))))

 (.need (inR .i64 (a + (2 : Int)))

 (.need (inR .i64 (z + (3 : Int)))

 (.need (true)

 (.need (inR .i64 ((1 : Int) + IntKind.i64.wrap ((z + (3 : Int)).tdiv (4 : Int))))

 (.need (inR .i64 ((0 : Int) * ((1 : Int) + IntKind.i64.wrap ((z + (3 : Int)).tdiv (4 : Int)))))

 (.need (inR .i64 (a + (2 : Int) + (0 : Int) * ((1 : Int) + IntKind.i64.wrap ((z + (3 : Int)).tdiv (4 : Int)))))
 (.eq (T.ret (SVal.int IntKind.i64 a) = T.ret (SVal.int IntKind.i64 a))
 (.eq (T.ret (SVal.int IntKind.i64 a) = T.ret (SVal.int IntKind.i64 a))
 (.eq (T.ret (SVal.int IntKind.i64 z) = T.ret (SVal.int IntKind.i64 z))

 (.ret (.int .i64 (a + (2 : Int) + (0 : Int) * ((1 : Int) + IntKind.i64.wrap ((z + (3 : Int)).tdiv (4 : Int)))), [.ro encLook [PUnit.unit], .own [.c (.int .i64 a), .c (.int .i64 n), .c (.int .i64 z)] 119])))))))))))) := by kernel_rfl
end Go.Proofs.YtdadfgeepinpbaaDoor

/- Layer 19: a word of a text; a place of a ring. -/
namespace Go.Proofs.YtdadfgeepinpbaaDoor
open Go Go.Proofs.YtdadfgeepinpbaaDoor.Sx
set_option linter.unusedVariables false
theorem byte_le (s : ByteArray) (i : Nat) : 0 ≤ byteAt s i ∧ byteAt s i ≤ 255 := by
  unfold byteAt
  have := (s.data.getD i 0).toNat_lt
  omega
/-- a byte of a text, nought behind its end -/
def byteD (s : ByteArray) (j : Nat) : Int := if j < s.size then byteAt s j else 0
theorem byteD_le (s : ByteArray) (j : Nat) : 0 ≤ byteD s j ∧ byteD s j ≤ 255 := by
  unfold byteD
  split
  · exact byte_le s j
  · omega
/-- four bytes as a word -/
def packI (s : ByteArray) (k : Nat) : Int := ((byteD s (4 * k) * 256 + byteD s (4 * k + 1)) * 256 + byteD s (4 * k + 2)) * 256 + byteD s (4 * k + 3)
theorem packI_le (s : ByteArray) (k : Nat) : 0 ≤ packI s k ∧ packI s k < 4294967296 := by
  have h0 := byteD_le s (4 * k)
  have h1 := byteD_le s (4 * k + 1)
  have h2 := byteD_le s (4 * k + 2)
  have h3 := byteD_le s (4 * k + 3)
  unfold packI
  omega
theorem or0 {b : Int} (h : 0 ≤ b ∧ b ≤ 255) : bitop .or .u32 0 b = b := by
  have h1 : low .u32 0 = 0 := by decide
  have h2 := low_u32 b
  simp only [bitop, h1, Nat.zero_or, w32_mod]
  omega
theorem shw_eq {w : Int} (hw : 0 ≤ w ∧ w < 16777216) : IntKind.u32.wrap (w * 256) = w * 256 := by rw [w32_mod]; omega
theorem sh_eq {w b : Int} (hw : 0 ≤ w ∧ w < 16777216) (hb : 0 ≤ b ∧ b ≤ 255) : bitop .or .u32 (w * 256) b = w * 256 + b := by
  have h1 := low_u32 (w * 256)
  have h2 := low_u32 b
  have e1 : low .u32 (w * 256) = w.toNat <<< 8 := by
    rw [Nat.shiftLeft_eq]; omega
  have e2 : low .u32 b = b.toNat := by omega
  have h3 := Nat.shiftLeft_add_eq_or_of_lt (b := b.toNat) (i := 8) (by omega) w.toNat
  simp only [bitop, e1, e2, w32_mod]
  rw [← h3, Nat.shiftLeft_eq]
  omega
theorem packI_of {s : ByteArray} {k : Nat} {b0 b1 b2 b3 : Int} (h0 : byteD s (4 * k) = b0) (h1 : byteD s (4 * k + 1) = b1) (h2 : byteD s (4 * k + 2) = b2) (h3 : byteD s (4 * k + 3) = b3) : packI s k = ((b0 * 256 + b1) * 256 + b2) * 256 + b3 := by
  unfold packI; rw [h0, h1, h2, h3]
theorem byteD_in {s : ByteArray} {k j : Nat} {x : Int} (h : x < (s.size : Int)) (e : x = ((4 * k + j : Nat) : Int)) : byteD s (4 * k + j) = byteAt s x.toNat := by
  subst e
  unfold byteD
  rw [if_pos (by omega), Int.toNat_natCast]
theorem byteD_out {s : ByteArray} {k j : Nat} {x : Int} (h : ¬ x < (s.size : Int)) (e : x = ((4 * k + j : Nat) : Int)) : byteD s (4 * k + j) = 0 := by
  unfold byteD
  rw [if_neg (by omega)]
set_option maxHeartbeats 4000000 in
theorem pack_call {s : ByteArray} {k : Nat} (hk : k ≤ 16) : ∀ (env : Env) (w : World) (vs : List Value), GlOk cfgM.gl env → Rep env [lookB] w → DenL env [.str s, .int .i64 (k : Nat)] vs → Calls cfgM.P 54 ⟨vs⟩ w (Ends1 env [lookB] w (.int .u32 (packI s k)) [lookB]) := by
  refine ends_allg (c := cfgM) cfgM_ok p_call (by kernel_rfl) rfl look_ren rfl ?_
  have b0 := byte_le s (4 * (k : Int) + 0).toNat
  have b1 := byte_le s (4 * (k : Int) + 1).toNat
  have b2 := byte_le s (4 * (k : Int) + 2).toNat
  have b3 := byte_le s (4 * (k : Int) + 3).toNat
  have i0 : ∀ h : 4 * (k : Int) + 0 < s.size, byteD s (4 * k + 0) = byteAt s (4 * (k : Int) + 0).toNat := fun h => byteD_in h (by omega)
  have i1 : ∀ h : 4 * (k : Int) + 1 < s.size, byteD s (4 * k + 1) = byteAt s (4 * (k : Int) + 1).toNat := fun h => byteD_in h (by omega)
  have i2 : ∀ h : 4 * (k : Int) + 2 < s.size, byteD s (4 * k + 2) = byteAt s (4 * (k : Int) + 2).toNat := fun h => byteD_in h (by omega)
  have i3 : ∀ h : 4 * (k : Int) + 3 < s.size, byteD s (4 * k + 3) = byteAt s (4 * (k : Int) + 3).toNat := fun h => byteD_in h (by omega)
  have o0 : ∀ h : ¬ 4 * (k : Int) + 0 < s.size, byteD s (4 * k + 0) = 0 := fun h => byteD_out h (by omega)
  have o1 : ∀ h : ¬ 4 * (k : Int) + 1 < s.size, byteD s (4 * k + 1) = 0 := fun h => byteD_out h (by omega)
  have o2 : ∀ h : ¬ 4 * (k : Int) + 2 < s.size, byteD s (4 * k + 2) = 0 := fun h => byteD_out h (by omega)
  have o3 : ∀ h : ¬ 4 * (k : Int) + 3 < s.size, byteD s (4 * k + 3) = 0 := fun h => byteD_out h (by omega)
  generalize byteAt s (4 * (k : Int) + 0).toNat = c0 at *
  generalize byteAt s (4 * (k : Int) + 1).toNat = c1 at *
  generalize byteAt s (4 * (k : Int) + 2).toNat = c2 at *
  generalize byteAt s (4 * (k : Int) + 3).toNat = c3 at *
  have ret : ∀ {d0 d1 d2 d3 x : Int}, byteD s (4 * k + 0) = d0 → byteD s (4 * k + 1) = d1 → byteD s (4 * k + 2) = d2 → byteD s (4 * k + 3) = d3 → x = ((d0 * 256 + d1) * 256 + d2) * 256 + d3 →
      All (fun r => ∃ X, gen r.1 = gen (.int .u32 (packI s k)) ∧ genS r.2 = genS ([lookB] ++ X)) (.ret (.int .u32 x, [lookB])) := by
    intro d0 d1 d2 d3 x e0 e1 e2 e3 hx
    rw [packI_of e0 e1 e2 e3, ← hx]
    exact all_ret ⟨[], rfl, rfl⟩
  have nd : ∀ {b : Bool} {p : Prop} {t : T (SVal × St)}, (b = true ↔ p) → p → All (fun r => ∃ X, gen r.1 = gen (.int .u32 (packI s k)) ∧ genS r.2 = genS ([lookB] ++ X)) t → All (fun r => ∃ X, gen r.1 = gen (.int .u32 (packI s k)) ∧ genS r.2 = genS ([lookB] ++ X)) (.need b t) := fun h1 h2 h3 => all_needq h1 h2 h3
  repeat' (first
    | refine nd (by simp only [inR_i64] <;> exact Iff.rfl) (by omega) ?_
    | refine nd (by simp only [inR_u32] <;> exact Iff.rfl) (by omega) ?_
    | refine nd (by simp only [decide_eq_true_eq, Bool.and_eq_true] <;> exact Iff.rfl) (by omega) ?_
    | refine all_need rfl (fun _ => ?_)
    | refine all_brp (by simp only [decide_eq_true_eq] <;> exact Iff.rfl) (fun h => ?_) (fun h => ?_))
  all_goals first
    | (exfalso; omega)
    | exact ret (by first | exact i0 (by assumption) | exact o0 (by assumption)) (by first | exact i1 (by assumption) | exact o1 (by assumption)) (by first | exact i2 (by assumption) | exact o2 (by assumption)) (by first | exact i3 (by assumption) | exact o3 (by assumption)) (by simp (disch := omega) only [or0, sh_eq, shw_eq] <;> omega)
    | (rw [packI_of (o0 (by assumption)) (o1 (by assumption)) (o2 (by assumption)) (o3 (by assumption))]
       exact all_ret ⟨[], rfl, rfl⟩)
structure RingOk (n z : Int) : Prop where
  p : powB n = true
  n : 1 ≤ n ∧ n ≤ 32768
  z : 1 ≤ z ∧ z ≤ 32
/-- where the place of an index begins -/
def plc (a n z i : Int) : Int := a + 2 + i % n * (1 + (z + 3) / 4)
theorem and_pow2 {n z i : Int} (h : RingOk n z) (hi : 0 ≤ i ∧ i < 4294967296) : bitop .and .u32 i (n - 1) = i % n := by
  have hp := h.p
  have hn := h.n
  have e1 : low .u32 i = i.toNat := by have := low_u32 i; omega
  have e2 : low .u32 (n - 1) = n.toNat - 1 := by have := low_u32 (n - 1); omega
  have hk : ∃ k, k ≤ 15 ∧ n.toNat = 2 ^ k := by
    have hp' : n = 1 ∨ n = 2 ∨ n = 4 ∨ n = 8 ∨ n = 16 ∨ n = 32 ∨ n = 64 ∨ n = 128 ∨ n = 256 ∨ n = 512 ∨ n = 1024 ∨ n = 2048 ∨ n = 4096 ∨ n = 8192 ∨ n = 16384 ∨ n = 32768 := by simpa [powB] using hp
    rcases hp' with rfl | rfl | rfl | rfl | rfl | rfl | rfl | rfl | rfl | rfl | rfl | rfl | rfl | rfl | rfl | rfl
    · exact ⟨0, by omega, rfl⟩
    · exact ⟨1, by omega, rfl⟩
    · exact ⟨2, by omega, rfl⟩
    · exact ⟨3, by omega, rfl⟩
    · exact ⟨4, by omega, rfl⟩
    · exact ⟨5, by omega, rfl⟩
    · exact ⟨6, by omega, rfl⟩
    · exact ⟨7, by omega, rfl⟩
    · exact ⟨8, by omega, rfl⟩
    · exact ⟨9, by omega, rfl⟩
    · exact ⟨10, by omega, rfl⟩
    · exact ⟨11, by omega, rfl⟩
    · exact ⟨12, by omega, rfl⟩
    · exact ⟨13, by omega, rfl⟩
    · exact ⟨14, by omega, rfl⟩
    · exact ⟨15, by omega, rfl⟩
  obtain ⟨k, _, hk⟩ := hk
  simp only [bitop, e1, e2, w32_mod, hk, Nat.and_two_pow_sub_one_eq_mod]
  have e3 : ((i.toNat % 2 ^ k : Nat) : Int) = i % n := by
    rw [← hk, Int.natCast_emod, Int.toNat_of_nonneg hi.1, Int.toNat_of_nonneg (by omega)]
  rw [e3]
  have h4 := Int.emod_nonneg i (show n ≠ 0 by omega)
  have h5 := Int.emod_lt_of_pos i (show 0 < n by omega)
  omega
theorem plc_le {a n z i : Int} (h : RingOk n z) : a + 2 ≤ plc a n z i ∧ plc a n z i ≤ a + 2 + 32767 * 9 := by
  have hn := h.n
  have hz := h.z
  have h4 := Int.emod_nonneg i (show n ≠ 0 by omega)
  have h5 := Int.emod_lt_of_pos i (show 0 < n by omega)
  have h9 : 1 + (z + 3) / 4 ≤ 9 := by omega
  have h10 : 0 ≤ 1 + (z + 3) / 4 := by omega
  have h6 : 0 ≤ i % n * (1 + (z + 3) / 4) := Int.mul_nonneg h4 h10
  have h7 : i % n * (1 + (z + 3) / 4) ≤ 32767 * 9 := Int.mul_le_mul (by omega) h9 h10 (by omega)
  unfold plc
  omega
set_option maxHeartbeats 1000000 in
theorem place_call {a n z i : Int} (h : RingOk n z) (ha : -1000000 ≤ a ∧ a ≤ 1000000) (hi : 0 ≤ i ∧ i < 4294967296) : ∀ (env : Env) (w : World) (vs : List Value), GlOk cfgM.gl env → Rep env [lookB] w → DenL env [.agg [.int .i64 a, .int .i64 n, .int .i64 z], .int .u32 i] vs → Calls cfgM.P 55 ⟨vs⟩ w (Ends1 env [lookB] w (.int .i64 (plc a n z i)) [lookB]) := by
  refine ends_allg (c := cfgM) cfgM_ok pc_call (by kernel_rfl) rfl look_ren rfl ?_
  have hn := h.n
  have hz := h.z
  have hp := h.p
  have e1 : IntKind.u32.wrap n = n := wrap_inR (by rw [inR_u32]; omega)
  have e2 : IntKind.u32.wrap (n - 1) = n - 1 := wrap_inR (by rw [inR_u32]; omega)
  have e3 : IntKind.i64.wrap ((z + 3).tdiv 4) = (z + 3) / 4 := by
    rw [Int.tdiv_eq_ediv_of_nonneg (by omega), wrap_i64 (by omega)]
  have h4 := Int.emod_nonneg i (show n ≠ 0 by omega)
  have h5 := Int.emod_lt_of_pos i (show 0 < n by omega)
  have h6 := plc_le (a := a) (i := i) h
  have h7 : 0 ≤ i % n * (1 + (z + 3) / 4) := Int.mul_nonneg h4 (by omega)
  rw [e1, e2, e3, pow_and hn.1 hn.2, and_pow2 h hi]
  unfold plc at *
  refine all_brp (by simp only [decide_eq_true_eq]; exact Iff.rfl) (fun h3 => ?_) (fun h3 => by exfalso; omega)
  refine all_brp (by simp only [decide_eq_true_eq]; exact Iff.rfl) (fun h3 => ?_) (fun h3 => by exfalso; omega)
  refine all_br (fun h8 => by rw [hp] at h8; cases h8) (fun h8 => ?_)
  repeat' (first
    | refine all_needq (by simp only [inR_i64]; exact Iff.rfl) (by omega) ?_
    | refine all_need rfl (fun _ => ?_)
    | refine all_eq rfl ?_)
  exact all_ret ⟨_, rfl, rfl⟩
noncomputable def gPack (args : List SVal) (S : St) : T (SVal × St) := match args with
  | [.str s, b] => match asI b with
    | some (.i64, x, _) => .eq (S = [lookB] ∧ 0 ≤ x ∧ x ≤ 16) (.ret (.int .u32 (packI s x.toNat), [lookB]))
    | _ => .no 202
  | _ => .no 203
theorem gPack_ok (args : List SVal) (S : St) (v : SVal) (S' : St) (h : (gPack args S).at (v, S')) : PreOk cfgM 1 54 args S v S' := by
  unfold gPack at h
  split at h
  · rename_i s b
    split at h
    · rename_i x la h1
      obtain ⟨⟨rfl, hx⟩, h⟩ := h
      simp only [T.at, Prod.mk.injEq] at h
      obtain ⟨rfl, rfl⟩ := h
      refine ⟨fun env w vs hg hr hd => ?_, rfl, rfl, fun _ _ h => .inr h, look_ren, by simp only [renL, ren, asI_ren h1]⟩
      obtain ⟨u, us, rfl, h4, u2, us2, rfl, h5, rfl⟩ := hd
      have h5 := asI_int h1 h5
      have e : x = ((x.toNat : Nat) : Int) := by omega
      rw [e] at h5
      exact pack_call (by omega) env w _ hg hr ⟨_, _, rfl, h4, _, _, rfl, h5, rfl⟩
    · exact h.elim
  · exact h.elim
noncomputable def gPlace (args : List SVal) (S : St) : T (SVal × St) := match args with
  | [.agg [.int .i64 a, .int .i64 n, .int .i64 z], .int .u32 i] => .eq (S = [lookB] ∧ RingOk n z ∧ (-1000000 ≤ a ∧ a ≤ 1000000) ∧ (0 ≤ i ∧ i < 4294967296)) (.ret (.int .i64 (plc a n z i), [lookB]))
  | _ => .no 205
theorem gPlace_ok (args : List SVal) (S : St) (v : SVal) (S' : St) (h : (gPlace args S).at (v, S')) : PreOk cfgM 1 55 args S v S' := by
  unfold gPlace at h
  split at h
  · obtain ⟨⟨rfl, h1, h2, h3⟩, h⟩ := h
    simp only [T.at, Prod.mk.injEq] at h
    obtain ⟨rfl, rfl⟩ := h
    exact ⟨fun env w vs hg hr hd => place_call h1 h2 h3 env w vs hg hr hd, rfl, rfl, fun _ _ h => .inr h, look_ren, rfl⟩
  · exact h.elim
noncomputable def cfgK : Cfg := { P := Tryd.prog, ex := exI, gl := [(0, 0)], sm := fun f => match f with
  | 54 => some (smPre 1 gPack)
  | 55 => some (smPre 1 gPlace)
  | _ => none }
theorem cfgK_ok : SmOk cfgK := by
  intro f g h
  simp only [cfgK] at h
  split at h
  · simp only [Option.some.injEq] at h; subst h
    exact smPre_ok (c := cfgM) (gl_lt (by omega)) gPack_ok
  · simp only [Option.some.injEq] at h; subst h
    exact smPre_ok (c := cfgM) (gl_lt (by omega)) gPlace_ok
  · cases h
end Go.Proofs.YtdadfgeepinpbaaDoor

/- Layer 19: a step's body. -/
namespace Go.Proofs.YtdadfgeepinpbaaDoor
open Go Go.Proofs.YtdadfgeepinpbaaDoor.Sx
noncomputable def bSn : Code := Tryd.f21.body.getD .skip
noncomputable def bR : Code := Tryd.f25.body.getD .skip
abbrev agS : List SVal := [.ptr 3 0, .ptr 2 0]
/-- bytes as a text -/
def strI (l : List Int) : ByteArray := ⟨⟨(l.flatMap (encInt .u8).enc).map Sx.byteOf⟩⟩
end Go.Proofs.YtdadfgeepinpbaaDoor

namespace Go.Proofs.YtdadfgeepinpbaaDoor
open Go Go.Proofs.YtdadfgeepinpbaaDoor.Sx
set_option linter.unusedVariables false
set_option maxRecDepth 100000 in
theorem sb_b {n : Nat} {l : List Int} {c : Int} {x : Snd} {ms : List ByteArray} : callF cfgK 100 21 agS (sSn 41 n l c x ms) =
 

 (.br ((↑x.7.length : Int) == (↑ms.length : Int))

 (.ret (.bl true, [.ro encLook [PUnit.unit], .own [.a (encInt IntKind.u32) n l] 35, .own [.c (.sli 1 (.c 0) 1 (.v n) (some (.v n))), .c (.int .i64 c)] 90, .own [.c (.int .i64 x.1), .c (.int .i64 x.2), .c (.int .i64 x.3), .c (SVal.fn (Fn.func 41) [.ptr 3 0] []), .c (.int .u32 x.4), .c (.int .u32 x.5), .c (.int .i64 x.6), .c (.sli 4 (.c 0) 1 (.v ms.length) none), .c (.sli 5 (.c 0) 1 (.v x.7.length) none)] 124, .vec encStr ms 9, .vec encBool x.7 4]))

 (.need (inR .i64 (x.1 + (0 : Int)))

 (.need (true)

 (.need (true)

 (.need (true)

 (.br (decide (x.1 + (0 : Int) < (0 : Int)))
 (.eq (T.ret (SVal.fn (Fn.func (41 : Nat)) [SVal.ptr (3 : Nat) (0 : Nat)] []) = T.ret (SVal.fn (Fn.func (41 : Nat)) [SVal.ptr (3 : Nat) (0 : Nat)] []))

 (.ret (.bl true, [.ro encLook [PUnit.unit], .own [.a (encInt IntKind.u32) n l] 35, .own [.c (.sli 1 (.c 0) 1 (.v n) (some (.v n))), .c (.int .i64 c)] 90, .own [.c (.int .i64 x.1), .c (.int .i64 x.2), .c (.int .i64 x.3), .c (SVal.fn (Fn.func 46) [.ptr 3 0] []), .c (.lit .u32 (0 : Int)), .c (.int .u32 x.5), .c (.int .i64 x.6), .c (.sli 4 (.c 0) 1 (.v ms.length) none), .c (.sli 5 (.c 0) 1 (.v x.7.length) none)] 124, .vec encStr ms 9, .vec encBool x.7 4, .own [.c (.lit .u32 (4294967295 : Int)), .c (.lit .u32 (0 : Int)), .c (.lit .u32 (0 : Int))] 115])))

 (.br (decide ((↑n : Int) ≤ x.1 + (0 : Int)))
 (.eq (T.ret (SVal.fn (Fn.func (41 : Nat)) [SVal.ptr (3 : Nat) (0 : Nat)] []) = T.ret (SVal.fn (Fn.func (41 : Nat)) [SVal.ptr (3 : Nat) (0 : Nat)] []))

 (.ret (.bl true, [.ro encLook [PUnit.unit], .own [.a (encInt IntKind.u32) n l] 35, .own [.c (.sli 1 (.c 0) 1 (.v n) (some (.v n))), .c (.int .i64 c)] 90, .own [.c (.int .i64 x.1), .c (.int .i64 x.2), .c (.int .i64 x.3), .c (SVal.fn (Fn.func 46) [.ptr 3 0] []), .c (.lit .u32 (0 : Int)), .c (.int .u32 x.5), .c (.int .i64 x.6), .c (.sli 4 (.c 0) 1 (.v ms.length) none), .c (.sli 5 (.c 0) 1 (.v x.7.length) none)] 124, .vec encStr ms 9, .vec encBool x.7 4, .own [.c (.lit .u32 (4294967295 : Int)), .c (.lit .u32 (0 : Int)), .c (.lit .u32 (0 : Int))] 115])))

 (.need (inR .i64 (c + (1 : Int)))

 (.need (decide ((0 : Int) ≤ x.1 + (0 : Int)) && decide ((x.1 + (0 : Int)).toNat < n))

 (.need (decide ((x.1 + (0 : Int)).toNat < n))

 (.need (true)

 (.need (true)

 (.need (true)
 (.eq (T.ret (SVal.fn (Fn.func (41 : Nat)) [SVal.ptr (3 : Nat) (0 : Nat)] []) = T.ret (SVal.fn (Fn.func (41 : Nat)) [SVal.ptr (3 : Nat) (0 : Nat)] []))
 (.eq (T.ret (SVal.sli (5 : Nat) (NN.c (0 : Nat)) (1 : Nat) (NN.v x.7.length) none) = T.ret (SVal.sli (5 : Nat) (NN.c (0 : Nat)) (1 : Nat) (NN.v x.7.length) none))
 (.eq (T.ret (SVal.sli (4 : Nat) (NN.c (0 : Nat)) (1 : Nat) (NN.v ms.length) none) = T.ret (SVal.sli (4 : Nat) (NN.c (0 : Nat)) (1 : Nat) (NN.v ms.length) none))

 (.ret (.sb ((↑x.7.length : Int) == (↑ms.length : Int)), [.ro encLook [PUnit.unit], .own [.a (encInt IntKind.u32) n l] 35, .own [.c (.sli 1 (.c 0) 1 (.v n) (some (.v n))), .c (.int .i64 (c + (1 : Int)))] 90, .own [.c (.int .i64 x.1), .c (.int .i64 x.2), .c (.int .i64 x.3), .c (SVal.fn (Fn.func 46) [.ptr 3 0] []), .c (.int .u32 (l.getD (x.1 + (0 : Int)).toNat (0 : Int))), .c (.int .u32 x.5), .c (.int .i64 x.6), .c (.sli 4 (.c 0) 1 (.v ms.length) none), .c (.sli 5 (.c 0) 1 (.v x.7.length) none)] 124, .vec encStr ms 9, .vec encBool x.7 4, .own [.c (.lit .u32 (4294967295 : Int)), .c (.lit .u32 (0 : Int)), .c (.lit .u32 (0 : Int))] 115])))))))))))))))))) := by kernel_rfl
set_option maxRecDepth 100000 in
theorem sl_b {n : Nat} {l : List Int} {c : Int} {x : Snd} {ms : List ByteArray} : callF cfgK 100 21 agS (sSn 46 n l c x ms) =
 

 (.br ((↑x.7.length : Int) == (↑ms.length : Int))

 (.ret (.bl true, [.ro encLook [PUnit.unit], .own [.a (encInt IntKind.u32) n l] 35, .own [.c (.sli 1 (.c 0) 1 (.v n) (some (.v n))), .c (.int .i64 c)] 90, .own [.c (.int .i64 x.1), .c (.int .i64 x.2), .c (.int .i64 x.3), .c (SVal.fn (Fn.func 46) [.ptr 3 0] []), .c (.int .u32 x.4), .c (.int .u32 x.5), .c (.int .i64 x.6), .c (.sli 4 (.c 0) 1 (.v ms.length) none), .c (.sli 5 (.c 0) 1 (.v x.7.length) none)] 124, .vec encStr ms 9, .vec encBool x.7 4]))

 (.need (inR .i64 (x.1 + (1 : Int)))

 (.need (true)

 (.need (true)

 (.need (true)

 (.br (decide (x.1 + (1 : Int) < (0 : Int)))
 (.eq (T.ret (SVal.fn (Fn.func (46 : Nat)) [SVal.ptr (3 : Nat) (0 : Nat)] []) = T.ret (SVal.fn (Fn.func (46 : Nat)) [SVal.ptr (3 : Nat) (0 : Nat)] []))

 (.ret (.bl true, [.ro encLook [PUnit.unit], .own [.a (encInt IntKind.u32) n l] 35, .own [.c (.sli 1 (.c 0) 1 (.v n) (some (.v n))), .c (.int .i64 c)] 90, .own [.c (.int .i64 x.1), .c (.int .i64 x.2), .c (.int .i64 x.3), .c (SVal.fn (Fn.func 46) [.ptr 3 0] []), .c (.int .u32 x.4), .c (.lit .u32 (0 : Int)), .c (.int .i64 x.6), .c (.sli 4 (.c 0) 1 (.v ms.length) none), .c (.sli 5 (.c 0) 1 (.v x.7.length) none)] 124, .vec encStr ms 9, .vec encBool x.7 4, .own [.c (.lit .u32 (4294967295 : Int)), .c (.lit .u32 (0 : Int)), .c (.lit .u32 (0 : Int))] 115])))

 (.br (decide ((↑n : Int) ≤ x.1 + (1 : Int)))
 (.eq (T.ret (SVal.fn (Fn.func (46 : Nat)) [SVal.ptr (3 : Nat) (0 : Nat)] []) = T.ret (SVal.fn (Fn.func (46 : Nat)) [SVal.ptr (3 : Nat) (0 : Nat)] []))

 (.ret (.bl true, [.ro encLook [PUnit.unit], .own [.a (encInt IntKind.u32) n l] 35, .own [.c (.sli 1 (.c 0) 1 (.v n) (some (.v n))), .c (.int .i64 c)] 90, .own [.c (.int .i64 x.1), .c (.int .i64 x.2), .c (.int .i64 x.3), .c (SVal.fn (Fn.func 46) [.ptr 3 0] []), .c (.int .u32 x.4), .c (.lit .u32 (0 : Int)), .c (.int .i64 x.6), .c (.sli 4 (.c 0) 1 (.v ms.length) none), .c (.sli 5 (.c 0) 1 (.v x.7.length) none)] 124, .vec encStr ms 9, .vec encBool x.7 4, .own [.c (.lit .u32 (4294967295 : Int)), .c (.lit .u32 (0 : Int)), .c (.lit .u32 (0 : Int))] 115])))

 (.need (inR .i64 (c + (1 : Int)))

 (.need (decide ((0 : Int) ≤ x.1 + (1 : Int)) && decide ((x.1 + (1 : Int)).toNat < n))

 (.need (decide ((x.1 + (1 : Int)).toNat < n))

 (.need (true)

 (.need (true)

 (.need (true)
 (.eq (T.ret (SVal.int IntKind.u32 x.4) = T.ret (SVal.int IntKind.u32 x.4))
 (.eq (T.ret (SVal.int IntKind.u32 (l.getD (x.1 + (1 : Int)).toNat (0 : Int))) = T.ret (SVal.int IntKind.u32 (l.getD (x.1 + (1 : Int)).toNat (0 : Int))))
 (.eq (T.ret (SVal.int IntKind.i64 x.2) = T.ret (SVal.int IntKind.i64 x.2))
 (.eq (T.ret (SVal.int IntKind.i64 x.2) = T.ret (SVal.int IntKind.i64 x.2))

 (.br (decide (IntKind.u32.wrap x.2 ≤ IntKind.u32.wrap (l.getD (x.1 + (1 : Int)).toNat (0 : Int) - x.4)))

 (.need (true)

 (.need (decide (x.7.length = x.7.length))

 (.need (roomy (x.7.length + 1) 1)
 (.eq (T.ret (SVal.fn (Fn.func (46 : Nat)) [SVal.ptr (3 : Nat) (0 : Nat)] []) = T.ret (SVal.fn (Fn.func (46 : Nat)) [SVal.ptr (3 : Nat) (0 : Nat)] []))
 (.eq (T.ret (SVal.sli (8 : Nat) (NN.c (0 : Nat)) (1 : Nat) (NN.v (x.7.length + (1 : Nat))) none) = T.ret (SVal.sli (8 : Nat) (NN.c (0 : Nat)) (1 : Nat) (NN.v (x.7.length + (1 : Nat))) none))
 (.eq (T.ret (SVal.sli (4 : Nat) (NN.c (0 : Nat)) (1 : Nat) (NN.v ms.length) none) = T.ret (SVal.sli (4 : Nat) (NN.c (0 : Nat)) (1 : Nat) (NN.v ms.length) none))

 (.ret (.sb ((↑(x.7.length + 1) : Int) == (↑ms.length : Int)), [.ro encLook [PUnit.unit], .own [.a (encInt IntKind.u32) n l] 35, .own [.c (.sli 1 (.c 0) 1 (.v n) (some (.v n))), .c (.int .i64 (c + (1 : Int)))] 90, .own [.c (.int .i64 x.1), .c (.int .i64 x.2), .c (.int .i64 x.3), .c (SVal.fn (Fn.func 41) [.ptr 3 0] []), .c (.int .u32 x.4), .c (.int .u32 (l.getD (x.1 + (1 : Int)).toNat (0 : Int))), .c (.lit .i64 (0 : Int)), .c (.sli 4 (.c 0) 1 (.v ms.length) none), .c (.sli 8 (.c 0) 1 (.v (x.7.length + 1)) none)] 124, .vec encStr ms 9, .gone, .own [.c (.lit .u32 (4294967295 : Int)), .c (.lit .u32 (0 : Int)), .c (.lit .u32 (0 : Int))] 115, .own [.c (.bl false)] 4, .vec encBool (x.7 ++ [false]) 4]))))))))
 (.eq (T.ret (SVal.fn (Fn.func (46 : Nat)) [SVal.ptr (3 : Nat) (0 : Nat)] []) = T.ret (SVal.fn (Fn.func (46 : Nat)) [SVal.ptr (3 : Nat) (0 : Nat)] []))
 (.eq (T.ret (SVal.sli (5 : Nat) (NN.c (0 : Nat)) (1 : Nat) (NN.v x.7.length) none) = T.ret (SVal.sli (5 : Nat) (NN.c (0 : Nat)) (1 : Nat) (NN.v x.7.length) none))
 (.eq (T.ret (SVal.sli (4 : Nat) (NN.c (0 : Nat)) (1 : Nat) (NN.v ms.length) none) = T.ret (SVal.sli (4 : Nat) (NN.c (0 : Nat)) (1 : Nat) (NN.v ms.length) none))

 (.ret (.sb ((↑x.7.length : Int) == (↑ms.length : Int)), [.ro encLook [PUnit.unit], .own [.a (encInt IntKind.u32) n l] 35, .own [.c (.sli 1 (.c 0) 1 (.v n) (some (.v n))), .c (.int .i64 (c + (1 : Int)))] 90, .own [.c (.int .i64 x.1), .c (.int .i64 x.2), .c (.int .i64 x.3), .c (SVal.fn (Fn.func 50) [.ptr 3 0] []), .c (.int .u32 x.4), .c (.int .u32 (l.getD (x.1 + (1 : Int)).toNat (0 : Int))), .c (.lit .i64 (0 : Int)), .c (.sli 4 (.c 0) 1 (.v ms.length) none), .c (.sli 5 (.c 0) 1 (.v x.7.length) none)] 124, .vec encStr ms 9, .vec encBool x.7 4, .own [.c (.lit .u32 (4294967295 : Int)), .c (.lit .u32 (0 : Int)), .c (.lit .u32 (0 : Int))] 115]))))))))))))))))))))))) := by kernel_rfl
set_option maxRecDepth 100000 in
theorem sp_b {n : Nat} {l : List Int} {c : Int} {x : Snd} {ms : List ByteArray} : callF cfgK 100 21 agS (sSn 50 n l c x ms) =
 

 (.br ((↑x.7.length : Int) == (↑ms.length : Int))

 (.ret (.bl true, [.ro encLook [PUnit.unit], .own [.a (encInt IntKind.u32) n l] 35, .own [.c (.sli 1 (.c 0) 1 (.v n) (some (.v n))), .c (.int .i64 c)] 90, .own [.c (.int .i64 x.1), .c (.int .i64 x.2), .c (.int .i64 x.3), .c (SVal.fn (Fn.func 50) [.ptr 3 0] []), .c (.int .u32 x.4), .c (.int .u32 x.5), .c (.int .i64 x.6), .c (.sli 4 (.c 0) 1 (.v ms.length) none), .c (.sli 5 (.c 0) 1 (.v x.7.length) none)] 124, .vec encStr ms 9, .vec encBool x.7 4]))

 (.need (decide ((0 : Int) ≤ (↑x.7.length : Int)) && decide ((↑x.7.length : Int).toNat < ms.length))

 (.need (decide ((↑x.7.length : Int).toNat < ms.length))

 (.br (decide ((0 : Int) < x.6))

 (.need (inR .i64 (x.6 - (1 : Int)))

 (.eq ([Blk.ro encLook [PUnit.unit]] = [Blk.ro encLook [PUnit.unit]] ∧ (0 : Int) ≤ x.6 - (1 : Int) ∧ x.6 - (1 : Int) ≤ (16 : Int))

 (.eq ([Blk.ro encLook [PUnit.unit]] = [Blk.ro encLook [PUnit.unit]] ∧ RingOk x.2 x.3 ∧ ((-1000000 : Int) ≤ x.1 ∧ x.1 ≤ (1000000 : Int)) ∧ (0 : Int) ≤ x.5 ∧ x.5 < (4294967296 : Int))

 (.need (inR .i64 (x.1 + (2 : Int) + x.5 % x.2 * ((1 : Int) + (x.3 + (3 : Int)) / (4 : Int)) + x.6))

 (.br (decide (x.1 + (2 : Int) + x.5 % x.2 * ((1 : Int) + (x.3 + (3 : Int)) / (4 : Int)) + x.6 < (0 : Int)))
 (.eq (T.ret (SVal.agg [SVal.int IntKind.i64 x.1, SVal.int IntKind.i64 x.2, SVal.int IntKind.i64 x.3]) = T.ret (SVal.agg [SVal.int IntKind.i64 x.1, SVal.int IntKind.i64 x.2, SVal.int IntKind.i64 x.3]))
 (.eq (T.ret (SVal.int IntKind.u32 x.5) = T.ret (SVal.int IntKind.u32 x.5))
 (.eq (T.ret (SVal.int IntKind.i64 x.6) = T.ret (SVal.int IntKind.i64 x.6))
 (.eq (T.ret (SVal.int IntKind.i64 x.6) = T.ret (SVal.int IntKind.i64 x.6))

 (.need (inR .i64 (x.6 + (1 : Int)))

 (.need (inR .i64 ((↑(ms.getD (↑x.7.length : Int).toNat { data := { toList := [] } }).size : Int) + (3 : Int)))

 (.need (true)
 (.eq (T.ret (SVal.int IntKind.i64 (x.6 + (1 : Int))) = T.ret (SVal.int IntKind.i64 (x.6 + (1 : Int))))
 (.eq (T.ret (SVal.int IntKind.i64 (x.6 + (1 : Int))) = T.ret (SVal.int IntKind.i64 (x.6 + (1 : Int))))

 (.br (decide (IntKind.i64.wrap (((↑(ms.getD (↑x.7.length : Int).toNat { data := { toList := [] } }).size : Int) + (3 : Int)).tdiv (4 : Int)) < x.6 + (1 : Int)))
 (.eq (T.ret (SVal.fn (Fn.func (50 : Nat)) [SVal.ptr (3 : Nat) (0 : Nat)] []) = T.ret (SVal.fn (Fn.func (50 : Nat)) [SVal.ptr (3 : Nat) (0 : Nat)] []))

 (.ret (.bl true, [.ro encLook [PUnit.unit], .own [.a (encInt IntKind.u32) n l] 35, .own [.c (.sli 1 (.c 0) 1 (.v n) (some (.v n))), .c (.int .i64 c)] 90, .own [.c (.int .i64 x.1), .c (.int .i64 x.2), .c (.int .i64 x.3), .c (SVal.fn (Fn.func 56) [.ptr 3 0] []), .c (.int .u32 x.4), .c (.int .u32 x.5), .c (.int .i64 (x.6 + (1 : Int))), .c (.sli 4 (.c 0) 1 (.v ms.length) none), .c (.sli 5 (.c 0) 1 (.v x.7.length) none)] 124, .vec encStr ms 9, .vec encBool x.7 4, .own [.c (.lit .u32 (0 : Int)), .c (.int .u32 ((((if 4 * (x.6 - (1 : Int)).toNat < (ms.getD (↑x.7.length : Int).toNat { data := { toList := [] } }).size then byteAt (ms.getD (↑x.7.length : Int).toNat { data := { toList := [] } }) (4 * (x.6 - (1 : Int)).toNat) else (0 : Int)) * (256 : Int) + if 4 * (x.6 - (1 : Int)).toNat + 1 < (ms.getD (↑x.7.length : Int).toNat { data := { toList := [] } }).size then byteAt (ms.getD (↑x.7.length : Int).toNat { data := { toList := [] } }) (4 * (x.6 - (1 : Int)).toNat + 1) else (0 : Int)) * (256 : Int) + if 4 * (x.6 - (1 : Int)).toNat + 2 < (ms.getD (↑x.7.length : Int).toNat { data := { toList := [] } }).size then byteAt (ms.getD (↑x.7.length : Int).toNat { data := { toList := [] } }) (4 * (x.6 - (1 : Int)).toNat + 2) else (0 : Int)) * (256 : Int) + if 4 * (x.6 - (1 : Int)).toNat + 3 < (ms.getD (↑x.7.length : Int).toNat { data := { toList := [] } }).size then byteAt (ms.getD (↑x.7.length : Int).toNat { data := { toList := [] } }) (4 * (x.6 - (1 : Int)).toNat + 3) else (0 : Int))), .c (.lit .u32 (0 : Int))] 115])))
 (.eq (T.ret (SVal.fn (Fn.func (50 : Nat)) [SVal.ptr (3 : Nat) (0 : Nat)] []) = T.ret (SVal.fn (Fn.func (50 : Nat)) [SVal.ptr (3 : Nat) (0 : Nat)] []))

 (.ret (.bl true, [.ro encLook [PUnit.unit], .own [.a (encInt IntKind.u32) n l] 35, .own [.c (.sli 1 (.c 0) 1 (.v n) (some (.v n))), .c (.int .i64 c)] 90, .own [.c (.int .i64 x.1), .c (.int .i64 x.2), .c (.int .i64 x.3), .c (SVal.fn (Fn.func 50) [.ptr 3 0] []), .c (.int .u32 x.4), .c (.int .u32 x.5), .c (.int .i64 (x.6 + (1 : Int))), .c (.sli 4 (.c 0) 1 (.v ms.length) none), .c (.sli 5 (.c 0) 1 (.v x.7.length) none)] 124, .vec encStr ms 9, .vec encBool x.7 4, .own [.c (.lit .u32 (0 : Int)), .c (.int .u32 ((((if 4 * (x.6 - (1 : Int)).toNat < (ms.getD (↑x.7.length : Int).toNat { data := { toList := [] } }).size then byteAt (ms.getD (↑x.7.length : Int).toNat { data := { toList := [] } }) (4 * (x.6 - (1 : Int)).toNat) else (0 : Int)) * (256 : Int) + if 4 * (x.6 - (1 : Int)).toNat + 1 < (ms.getD (↑x.7.length : Int).toNat { data := { toList := [] } }).size then byteAt (ms.getD (↑x.7.length : Int).toNat { data := { toList := [] } }) (4 * (x.6 - (1 : Int)).toNat + 1) else (0 : Int)) * (256 : Int) + if 4 * (x.6 - (1 : Int)).toNat + 2 < (ms.getD (↑x.7.length : Int).toNat { data := { toList := [] } }).size then byteAt (ms.getD (↑x.7.length : Int).toNat { data := { toList := [] } }) (4 * (x.6 - (1 : Int)).toNat + 2) else (0 : Int)) * (256 : Int) + if 4 * (x.6 - (1 : Int)).toNat + 3 < (ms.getD (↑x.7.length : Int).toNat { data := { toList := [] } }).size then byteAt (ms.getD (↑x.7.length : Int).toNat { data := { toList := [] } }) (4 * (x.6 - (1 : Int)).toNat + 3) else (0 : Int))), .c (.lit .u32 (0 : Int))] 115])))))))))))))

 (.br (decide ((↑n : Int) ≤ x.1 + (2 : Int) + x.5 % x.2 * ((1 : Int) + (x.3 + (3 : Int)) / (4 : Int)) + x.6))
 (.eq (T.ret (SVal.agg [SVal.int IntKind.i64 x.1, SVal.int IntKind.i64 x.2, SVal.int IntKind.i64 x.3]) = T.ret (SVal.agg [SVal.int IntKind.i64 x.1, SVal.int IntKind.i64 x.2, SVal.int IntKind.i64 x.3]))
 (.eq (T.ret (SVal.int IntKind.u32 x.5) = T.ret (SVal.int IntKind.u32 x.5))
 (.eq (T.ret (SVal.int IntKind.i64 x.6) = T.ret (SVal.int IntKind.i64 x.6))
 (.eq (T.ret (SVal.int IntKind.i64 x.6) = T.ret (SVal.int IntKind.i64 x.6))

 (.need (inR .i64 (x.6 + (1 : Int)))

 (.need (inR .i64 ((↑(ms.getD (↑x.7.length : Int).toNat { data := { toList := [] } }).size : Int) + (3 : Int)))

 (.need (true)
 (.eq (T.ret (SVal.int IntKind.i64 (x.6 + (1 : Int))) = T.ret (SVal.int IntKind.i64 (x.6 + (1 : Int))))
 (.eq (T.ret (SVal.int IntKind.i64 (x.6 + (1 : Int))) = T.ret (SVal.int IntKind.i64 (x.6 + (1 : Int))))

 (.br (decide (IntKind.i64.wrap (((↑(ms.getD (↑x.7.length : Int).toNat { data := { toList := [] } }).size : Int) + (3 : Int)).tdiv (4 : Int)) < x.6 + (1 : Int)))
 (.eq (T.ret (SVal.fn (Fn.func (50 : Nat)) [SVal.ptr (3 : Nat) (0 : Nat)] []) = T.ret (SVal.fn (Fn.func (50 : Nat)) [SVal.ptr (3 : Nat) (0 : Nat)] []))

 (.ret (.bl true, [.ro encLook [PUnit.unit], .own [.a (encInt IntKind.u32) n l] 35, .own [.c (.sli 1 (.c 0) 1 (.v n) (some (.v n))), .c (.int .i64 c)] 90, .own [.c (.int .i64 x.1), .c (.int .i64 x.2), .c (.int .i64 x.3), .c (SVal.fn (Fn.func 56) [.ptr 3 0] []), .c (.int .u32 x.4), .c (.int .u32 x.5), .c (.int .i64 (x.6 + (1 : Int))), .c (.sli 4 (.c 0) 1 (.v ms.length) none), .c (.sli 5 (.c 0) 1 (.v x.7.length) none)] 124, .vec encStr ms 9, .vec encBool x.7 4, .own [.c (.lit .u32 (0 : Int)), .c (.int .u32 ((((if 4 * (x.6 - (1 : Int)).toNat < (ms.getD (↑x.7.length : Int).toNat { data := { toList := [] } }).size then byteAt (ms.getD (↑x.7.length : Int).toNat { data := { toList := [] } }) (4 * (x.6 - (1 : Int)).toNat) else (0 : Int)) * (256 : Int) + if 4 * (x.6 - (1 : Int)).toNat + 1 < (ms.getD (↑x.7.length : Int).toNat { data := { toList := [] } }).size then byteAt (ms.getD (↑x.7.length : Int).toNat { data := { toList := [] } }) (4 * (x.6 - (1 : Int)).toNat + 1) else (0 : Int)) * (256 : Int) + if 4 * (x.6 - (1 : Int)).toNat + 2 < (ms.getD (↑x.7.length : Int).toNat { data := { toList := [] } }).size then byteAt (ms.getD (↑x.7.length : Int).toNat { data := { toList := [] } }) (4 * (x.6 - (1 : Int)).toNat + 2) else (0 : Int)) * (256 : Int) + if 4 * (x.6 - (1 : Int)).toNat + 3 < (ms.getD (↑x.7.length : Int).toNat { data := { toList := [] } }).size then byteAt (ms.getD (↑x.7.length : Int).toNat { data := { toList := [] } }) (4 * (x.6 - (1 : Int)).toNat + 3) else (0 : Int))), .c (.lit .u32 (0 : Int))] 115])))
 (.eq (T.ret (SVal.fn (Fn.func (50 : Nat)) [SVal.ptr (3 : Nat) (0 : Nat)] []) = T.ret (SVal.fn (Fn.func (50 : Nat)) [SVal.ptr (3 : Nat) (0 : Nat)] []))

 (.ret (.bl true, [.ro encLook [PUnit.unit], .own [.a (encInt IntKind.u32) n l] 35, .own [.c (.sli 1 (.c 0) 1 (.v n) (some (.v n))), .c (.int .i64 c)] 90, .own [.c (.int .i64 x.1), .c (.int .i64 x.2), .c (.int .i64 x.3), .c (SVal.fn (Fn.func 50) [.ptr 3 0] []), .c (.int .u32 x.4), .c (.int .u32 x.5), .c (.int .i64 (x.6 + (1 : Int))), .c (.sli 4 (.c 0) 1 (.v ms.length) none), .c (.sli 5 (.c 0) 1 (.v x.7.length) none)] 124, .vec encStr ms 9, .vec encBool x.7 4, .own [.c (.lit .u32 (0 : Int)), .c (.int .u32 ((((if 4 * (x.6 - (1 : Int)).toNat < (ms.getD (↑x.7.length : Int).toNat { data := { toList := [] } }).size then byteAt (ms.getD (↑x.7.length : Int).toNat { data := { toList := [] } }) (4 * (x.6 - (1 : Int)).toNat) else (0 : Int)) * (256 : Int) + if 4 * (x.6 - (1 : Int)).toNat + 1 < (ms.getD (↑x.7.length : Int).toNat { data := { toList := [] } }).size then byteAt (ms.getD (↑x.7.length : Int).toNat { data := { toList := [] } }) (4 * (x.6 - (1 : Int)).toNat + 1) else (0 : Int)) * (256 : Int) + if 4 * (x.6 - (1 : Int)).toNat + 2 < (ms.getD (↑x.7.length : Int).toNat { data := { toList := [] } }).size then byteAt (ms.getD (↑x.7.length : Int).toNat { data := { toList := [] } }) (4 * (x.6 - (1 : Int)).toNat + 2) else (0 : Int)) * (256 : Int) + if 4 * (x.6 - (1 : Int)).toNat + 3 < (ms.getD (↑x.7.length : Int).toNat { data := { toList := [] } }).size then byteAt (ms.getD (↑x.7.length : Int).toNat { data := { toList := [] } }) (4 * (x.6 - (1 : Int)).toNat + 3) else (0 : Int))), .c (.lit .u32 (0 : Int))] 115])))))))))))))

 (.need (inR .i64 (c + (1 : Int)))

 (.need (decide ((0 : Int) ≤ x.1 + (2 : Int) + x.5 % x.2 * ((1 : Int) + (x.3 + (3 : Int)) / (4 : Int)) + x.6) && decide ((x.1 + (2 : Int) + x.5 % x.2 * ((1 : Int) + (x.3 + (3 : Int)) / (4 : Int)) + x.6).toNat < n))

 (.need (decide ((x.1 + (2 : Int) + x.5 % x.2 * ((1 : Int) + (x.3 + (3 : Int)) / (4 : Int)) + x.6).toNat < n))

 (.need (true)

 (.need (true)

 (.need (true)

 (.need (decide ((0 : Int) ≤ x.1 + (2 : Int) + x.5 % x.2 * ((1 : Int) + (x.3 + (3 : Int)) / (4 : Int)) + x.6) && decide ((x.1 + (2 : Int) + x.5 % x.2 * ((1 : Int) + (x.3 + (3 : Int)) / (4 : Int)) + x.6).toNat < n))

 (.need (decide ((x.1 + (2 : Int) + x.5 % x.2 * ((1 : Int) + (x.3 + (3 : Int)) / (4 : Int)) + x.6).toNat < n))
 (.eq (T.ret (SVal.sli (1 : Nat) (NN.c (0 : Nat)) (1 : Nat) (NN.v n) (some (NN.v n))) = T.ret (SVal.sli (1 : Nat) (NN.c (0 : Nat)) (1 : Nat) (NN.v n) (some (NN.v n))))
 (.eq (T.ret (SVal.int IntKind.u32 ((((if (4 : Nat) * (x.6 - (1 : Int)).toNat < (ms.getD (↑x.7.length : Int).toNat { data := { toList := [] } }).size then byteAt (ms.getD (↑x.7.length : Int).toNat { data := { toList := [] } }) ((4 : Nat) * (x.6 - (1 : Int)).toNat) else (0 : Int)) * (256 : Int) + if (4 : Nat) * (x.6 - (1 : Int)).toNat + (1 : Nat) < (ms.getD (↑x.7.length : Int).toNat { data := { toList := [] } }).size then byteAt (ms.getD (↑x.7.length : Int).toNat { data := { toList := [] } }) ((4 : Nat) * (x.6 - (1 : Int)).toNat + (1 : Nat)) else (0 : Int)) * (256 : Int) + if (4 : Nat) * (x.6 - (1 : Int)).toNat + (2 : Nat) < (ms.getD (↑x.7.length : Int).toNat { data := { toList := [] } }).size then byteAt (ms.getD (↑x.7.length : Int).toNat { data := { toList := [] } }) ((4 : Nat) * (x.6 - (1 : Int)).toNat + (2 : Nat)) else (0 : Int)) * (256 : Int) + if (4 : Nat) * (x.6 - (1 : Int)).toNat + (3 : Nat) < (ms.getD (↑x.7.length : Int).toNat { data := { toList := [] } }).size then byteAt (ms.getD (↑x.7.length : Int).toNat { data := { toList := [] } }) ((4 : Nat) * (x.6 - (1 : Int)).toNat + (3 : Nat)) else (0 : Int))) = T.ret (SVal.int IntKind.u32 ((((if (4 : Nat) * (x.6 - (1 : Int)).toNat < (ms.getD (↑x.7.length : Int).toNat { data := { toList := [] } }).size then byteAt (ms.getD (↑x.7.length : Int).toNat { data := { toList := [] } }) ((4 : Nat) * (x.6 - (1 : Int)).toNat) else (0 : Int)) * (256 : Int) + if (4 : Nat) * (x.6 - (1 : Int)).toNat + (1 : Nat) < (ms.getD (↑x.7.length : Int).toNat { data := { toList := [] } }).size then byteAt (ms.getD (↑x.7.length : Int).toNat { data := { toList := [] } }) ((4 : Nat) * (x.6 - (1 : Int)).toNat + (1 : Nat)) else (0 : Int)) * (256 : Int) + if (4 : Nat) * (x.6 - (1 : Int)).toNat + (2 : Nat) < (ms.getD (↑x.7.length : Int).toNat { data := { toList := [] } }).size then byteAt (ms.getD (↑x.7.length : Int).toNat { data := { toList := [] } }) ((4 : Nat) * (x.6 - (1 : Int)).toNat + (2 : Nat)) else (0 : Int)) * (256 : Int) + if (4 : Nat) * (x.6 - (1 : Int)).toNat + (3 : Nat) < (ms.getD (↑x.7.length : Int).toNat { data := { toList := [] } }).size then byteAt (ms.getD (↑x.7.length : Int).toNat { data := { toList := [] } }) ((4 : Nat) * (x.6 - (1 : Int)).toNat + (3 : Nat)) else (0 : Int))))

 (.need (decide ((0 : Int) ≤ x.1 + (2 : Int) + x.5 % x.2 * ((1 : Int) + (x.3 + (3 : Int)) / (4 : Int)) + x.6) && decide ((x.1 + (2 : Int) + x.5 % x.2 * ((1 : Int) + (x.3 + (3 : Int)) / (4 : Int)) + x.6).toNat < n))

 (.need (decide ((x.1 + (2 : Int) + x.5 % x.2 * ((1 : Int) + (x.3 + (3 : Int)) / (4 : Int)) + x.6).toNat < n))

 (.need (decide ((0 : Int) ≤ x.1 + (2 : Int) + x.5 % x.2 * ((1 : Int) + (x.3 + (3 : Int)) / (4 : Int)) + x.6) && decide ((x.1 + (2 : Int) + x.5 % x.2 * ((1 : Int) + (x.3 + (3 : Int)) / (4 : Int)) + x.6).toNat < n))

 (.need (decide ((x.1 + (2 : Int) + x.5 % x.2 * ((1 : Int) + (x.3 + (3 : Int)) / (4 : Int)) + x.6).toNat < n))
 (.eq (T.ret (SVal.sli (1 : Nat) (NN.c (0 : Nat)) (1 : Nat) (NN.v n) (some (NN.v n))) = T.ret (SVal.sli (1 : Nat) (NN.c (0 : Nat)) (1 : Nat) (NN.v n) (some (NN.v n))))
 (.eq (T.need (decide ((x.1 + (2 : Int) + x.5 % x.2 * ((1 : Int) + (x.3 + (3 : Int)) / (4 : Int)) + x.6).toNat < n)) (T.ret ([SVal.int IntKind.u32 ((l.set (x.1 + (2 : Int) + x.5 % x.2 * ((1 : Int) + (x.3 + (3 : Int)) / (4 : Int)) + x.6).toNat (bitop BinOp.or IntKind.u32 (bitop BinOp.and IntKind.u32 (l.getD (x.1 + (2 : Int) + x.5 % x.2 * ((1 : Int) + (x.3 + (3 : Int)) / (4 : Int)) + x.6).toNat (0 : Int)) (0 : Int)) ((((if (4 : Nat) * (x.6 - (1 : Int)).toNat < (ms.getD (↑x.7.length : Int).toNat { data := { toList := [] } }).size then byteAt (ms.getD (↑x.7.length : Int).toNat { data := { toList := [] } }) ((4 : Nat) * (x.6 - (1 : Int)).toNat) else (0 : Int)) * (256 : Int) + if (4 : Nat) * (x.6 - (1 : Int)).toNat + (1 : Nat) < (ms.getD (↑x.7.length : Int).toNat { data := { toList := [] } }).size then byteAt (ms.getD (↑x.7.length : Int).toNat { data := { toList := [] } }) ((4 : Nat) * (x.6 - (1 : Int)).toNat + (1 : Nat)) else (0 : Int)) * (256 : Int) + if (4 : Nat) * (x.6 - (1 : Int)).toNat + (2 : Nat) < (ms.getD (↑x.7.length : Int).toNat { data := { toList := [] } }).size then byteAt (ms.getD (↑x.7.length : Int).toNat { data := { toList := [] } }) ((4 : Nat) * (x.6 - (1 : Int)).toNat + (2 : Nat)) else (0 : Int)) * (256 : Int) + if (4 : Nat) * (x.6 - (1 : Int)).toNat + (3 : Nat) < (ms.getD (↑x.7.length : Int).toNat { data := { toList := [] } }).size then byteAt (ms.getD (↑x.7.length : Int).toNat { data := { toList := [] } }) ((4 : Nat) * (x.6 - (1 : Int)).toNat + (3 : Nat)) else (0 : Int)))).getD (x.1 + (2 : Int) + x.5 % x.2 * ((1 : Int) + (x.3 + (3 : Int)) / (4 : Int)) + x.6).toNat (0 : Int))].getD (0 : Nat) SVal.bad)) = T.need (decide ((x.1 + (2 : Int) + x.5 % x.2 * ((1 : Int) + (x.3 + (3 : Int)) / (4 : Int)) + x.6).toNat < n)) (T.ret ([SVal.int IntKind.u32 ((l.set (x.1 + (2 : Int) + x.5 % x.2 * ((1 : Int) + (x.3 + (3 : Int)) / (4 : Int)) + x.6).toNat (bitop BinOp.or IntKind.u32 (bitop BinOp.and IntKind.u32 (l.getD (x.1 + (2 : Int) + x.5 % x.2 * ((1 : Int) + (x.3 + (3 : Int)) / (4 : Int)) + x.6).toNat (0 : Int)) (0 : Int)) ((((if (4 : Nat) * (x.6 - (1 : Int)).toNat < (ms.getD (↑x.7.length : Int).toNat { data := { toList := [] } }).size then byteAt (ms.getD (↑x.7.length : Int).toNat { data := { toList := [] } }) ((4 : Nat) * (x.6 - (1 : Int)).toNat) else (0 : Int)) * (256 : Int) + if (4 : Nat) * (x.6 - (1 : Int)).toNat + (1 : Nat) < (ms.getD (↑x.7.length : Int).toNat { data := { toList := [] } }).size then byteAt (ms.getD (↑x.7.length : Int).toNat { data := { toList := [] } }) ((4 : Nat) * (x.6 - (1 : Int)).toNat + (1 : Nat)) else (0 : Int)) * (256 : Int) + if (4 : Nat) * (x.6 - (1 : Int)).toNat + (2 : Nat) < (ms.getD (↑x.7.length : Int).toNat { data := { toList := [] } }).size then byteAt (ms.getD (↑x.7.length : Int).toNat { data := { toList := [] } }) ((4 : Nat) * (x.6 - (1 : Int)).toNat + (2 : Nat)) else (0 : Int)) * (256 : Int) + if (4 : Nat) * (x.6 - (1 : Int)).toNat + (3 : Nat) < (ms.getD (↑x.7.length : Int).toNat { data := { toList := [] } }).size then byteAt (ms.getD (↑x.7.length : Int).toNat { data := { toList := [] } }) ((4 : Nat) * (x.6 - (1 : Int)).toNat + (3 : Nat)) else (0 : Int)))).getD (x.1 + (2 : Int) + x.5 % x.2 * ((1 : Int) + (x.3 + (3 : Int)) / (4 : Int)) + x.6).toNat (0 : Int))].getD (0 : Nat) SVal.bad)))
 (.eq (T.ret (SVal.agg [SVal.int IntKind.i64 x.1, SVal.int IntKind.i64 x.2, SVal.int IntKind.i64 x.3]) = T.ret (SVal.agg [SVal.int IntKind.i64 x.1, SVal.int IntKind.i64 x.2, SVal.int IntKind.i64 x.3]))
 (.eq (T.ret (SVal.int IntKind.u32 x.5) = T.ret (SVal.int IntKind.u32 x.5))
 (.eq (T.ret (SVal.int IntKind.i64 x.6) = T.ret (SVal.int IntKind.i64 x.6))
 (.eq (T.ret (SVal.int IntKind.i64 x.6) = T.ret (SVal.int IntKind.i64 x.6))

 (.need (inR .i64 (x.6 + (1 : Int)))

 (.need (inR .i64 ((↑(ms.getD (↑x.7.length : Int).toNat { data := { toList := [] } }).size : Int) + (3 : Int)))

 (.need (true)
 (.eq (T.ret (SVal.int IntKind.i64 (x.6 + (1 : Int))) = T.ret (SVal.int IntKind.i64 (x.6 + (1 : Int))))
 (.eq (T.ret (SVal.int IntKind.i64 (x.6 + (1 : Int))) = T.ret (SVal.int IntKind.i64 (x.6 + (1 : Int))))

 (.br (decide (IntKind.i64.wrap (((↑(ms.getD (↑x.7.length : Int).toNat { data := { toList := [] } }).size : Int) + (3 : Int)).tdiv (4 : Int)) < x.6 + (1 : Int)))
 (.eq (T.ret (SVal.fn (Fn.func (50 : Nat)) [SVal.ptr (3 : Nat) (0 : Nat)] []) = T.ret (SVal.fn (Fn.func (50 : Nat)) [SVal.ptr (3 : Nat) (0 : Nat)] []))
 (.eq (T.ret (SVal.sli (5 : Nat) (NN.c (0 : Nat)) (1 : Nat) (NN.v x.7.length) none) = T.ret (SVal.sli (5 : Nat) (NN.c (0 : Nat)) (1 : Nat) (NN.v x.7.length) none))
 (.eq (T.ret (SVal.sli (4 : Nat) (NN.c (0 : Nat)) (1 : Nat) (NN.v ms.length) none) = T.ret (SVal.sli (4 : Nat) (NN.c (0 : Nat)) (1 : Nat) (NN.v ms.length) none))

 (.ret (.sb ((↑x.7.length : Int) == (↑ms.length : Int)), [.ro encLook [PUnit.unit], .own [.a (encInt IntKind.u32) n ((l.set (x.1 + (2 : Int) + x.5 % x.2 * ((1 : Int) + (x.3 + (3 : Int)) / (4 : Int)) + x.6).toNat (bitop BinOp.or IntKind.u32 (bitop BinOp.and IntKind.u32 (l.getD (x.1 + (2 : Int) + x.5 % x.2 * ((1 : Int) + (x.3 + (3 : Int)) / (4 : Int)) + x.6).toNat (0 : Int)) (0 : Int)) ((((if 4 * (x.6 - (1 : Int)).toNat < (ms.getD (↑x.7.length : Int).toNat { data := { toList := [] } }).size then byteAt (ms.getD (↑x.7.length : Int).toNat { data := { toList := [] } }) (4 * (x.6 - (1 : Int)).toNat) else (0 : Int)) * (256 : Int) + if 4 * (x.6 - (1 : Int)).toNat + 1 < (ms.getD (↑x.7.length : Int).toNat { data := { toList := [] } }).size then byteAt (ms.getD (↑x.7.length : Int).toNat { data := { toList := [] } }) (4 * (x.6 - (1 : Int)).toNat + 1) else (0 : Int)) * (256 : Int) + if 4 * (x.6 - (1 : Int)).toNat + 2 < (ms.getD (↑x.7.length : Int).toNat { data := { toList := [] } }).size then byteAt (ms.getD (↑x.7.length : Int).toNat { data := { toList := [] } }) (4 * (x.6 - (1 : Int)).toNat + 2) else (0 : Int)) * (256 : Int) + if 4 * (x.6 - (1 : Int)).toNat + 3 < (ms.getD (↑x.7.length : Int).toNat { data := { toList := [] } }).size then byteAt (ms.getD (↑x.7.length : Int).toNat { data := { toList := [] } }) (4 * (x.6 - (1 : Int)).toNat + 3) else (0 : Int)))).set (x.1 + (2 : Int) + x.5 % x.2 * ((1 : Int) + (x.3 + (3 : Int)) / (4 : Int)) + x.6).toNat (IntKind.u32.wrap ((l.set (x.1 + (2 : Int) + x.5 % x.2 * ((1 : Int) + (x.3 + (3 : Int)) / (4 : Int)) + x.6).toNat (bitop BinOp.or IntKind.u32 (bitop BinOp.and IntKind.u32 (l.getD (x.1 + (2 : Int) + x.5 % x.2 * ((1 : Int) + (x.3 + (3 : Int)) / (4 : Int)) + x.6).toNat (0 : Int)) (0 : Int)) ((((if 4 * (x.6 - (1 : Int)).toNat < (ms.getD (↑x.7.length : Int).toNat { data := { toList := [] } }).size then byteAt (ms.getD (↑x.7.length : Int).toNat { data := { toList := [] } }) (4 * (x.6 - (1 : Int)).toNat) else (0 : Int)) * (256 : Int) + if 4 * (x.6 - (1 : Int)).toNat + 1 < (ms.getD (↑x.7.length : Int).toNat { data := { toList := [] } }).size then byteAt (ms.getD (↑x.7.length : Int).toNat { data := { toList := [] } }) (4 * (x.6 - (1 : Int)).toNat + 1) else (0 : Int)) * (256 : Int) + if 4 * (x.6 - (1 : Int)).toNat + 2 < (ms.getD (↑x.7.length : Int).toNat { data := { toList := [] } }).size then byteAt (ms.getD (↑x.7.length : Int).toNat { data := { toList := [] } }) (4 * (x.6 - (1 : Int)).toNat + 2) else (0 : Int)) * (256 : Int) + if 4 * (x.6 - (1 : Int)).toNat + 3 < (ms.getD (↑x.7.length : Int).toNat { data := { toList := [] } }).size then byteAt (ms.getD (↑x.7.length : Int).toNat { data := { toList := [] } }) (4 * (x.6 - (1 : Int)).toNat + 3) else (0 : Int)))).getD (x.1 + (2 : Int) + x.5 % x.2 * ((1 : Int) + (x.3 + (3 : Int)) / (4 : Int)) + x.6).toNat (0 : Int) + (0 : Int))))] 35, .own [.c (.sli 1 (.c 0) 1 (.v n) (some (.v n))), .c (.int .i64 (c + (1 : Int)))] 90, .own [.c (.int .i64 x.1), .c (.int .i64 x.2), .c (.int .i64 x.3), .c (SVal.fn (Fn.func 56) [.ptr 3 0] []), .c (.int .u32 x.4), .c (.int .u32 x.5), .c (.int .i64 (x.6 + (1 : Int))), .c (.sli 4 (.c 0) 1 (.v ms.length) none), .c (.sli 5 (.c 0) 1 (.v x.7.length) none)] 124, .vec encStr ms 9, .vec encBool x.7 4, .own [.c (.lit .u32 (0 : Int)), .c (.int .u32 ((((if 4 * (x.6 - (1 : Int)).toNat < (ms.getD (↑x.7.length : Int).toNat { data := { toList := [] } }).size then byteAt (ms.getD (↑x.7.length : Int).toNat { data := { toList := [] } }) (4 * (x.6 - (1 : Int)).toNat) else (0 : Int)) * (256 : Int) + if 4 * (x.6 - (1 : Int)).toNat + 1 < (ms.getD (↑x.7.length : Int).toNat { data := { toList := [] } }).size then byteAt (ms.getD (↑x.7.length : Int).toNat { data := { toList := [] } }) (4 * (x.6 - (1 : Int)).toNat + 1) else (0 : Int)) * (256 : Int) + if 4 * (x.6 - (1 : Int)).toNat + 2 < (ms.getD (↑x.7.length : Int).toNat { data := { toList := [] } }).size then byteAt (ms.getD (↑x.7.length : Int).toNat { data := { toList := [] } }) (4 * (x.6 - (1 : Int)).toNat + 2) else (0 : Int)) * (256 : Int) + if 4 * (x.6 - (1 : Int)).toNat + 3 < (ms.getD (↑x.7.length : Int).toNat { data := { toList := [] } }).size then byteAt (ms.getD (↑x.7.length : Int).toNat { data := { toList := [] } }) (4 * (x.6 - (1 : Int)).toNat + 3) else (0 : Int))), .c (.lit .u32 (0 : Int))] 115])))))
 (.eq (T.ret (SVal.fn (Fn.func (50 : Nat)) [SVal.ptr (3 : Nat) (0 : Nat)] []) = T.ret (SVal.fn (Fn.func (50 : Nat)) [SVal.ptr (3 : Nat) (0 : Nat)] []))
 (.eq (T.ret (SVal.sli (5 : Nat) (NN.c (0 : Nat)) (1 : Nat) (NN.v x.7.length) none) = T.ret (SVal.sli (5 : Nat) (NN.c (0 : Nat)) (1 : Nat) (NN.v x.7.length) none))
 (.eq (T.ret (SVal.sli (4 : Nat) (NN.c (0 : Nat)) (1 : Nat) (NN.v ms.length) none) = T.ret (SVal.sli (4 : Nat) (NN.c (0 : Nat)) (1 : Nat) (NN.v ms.length) none))

 (.ret (.sb ((↑x.7.length : Int) == (↑ms.length : Int)), [.ro encLook [PUnit.unit], .own [.a (encInt IntKind.u32) n ((l.set (x.1 + (2 : Int) + x.5 % x.2 * ((1 : Int) + (x.3 + (3 : Int)) / (4 : Int)) + x.6).toNat (bitop BinOp.or IntKind.u32 (bitop BinOp.and IntKind.u32 (l.getD (x.1 + (2 : Int) + x.5 % x.2 * ((1 : Int) + (x.3 + (3 : Int)) / (4 : Int)) + x.6).toNat (0 : Int)) (0 : Int)) ((((if 4 * (x.6 - (1 : Int)).toNat < (ms.getD (↑x.7.length : Int).toNat { data := { toList := [] } }).size then byteAt (ms.getD (↑x.7.length : Int).toNat { data := { toList := [] } }) (4 * (x.6 - (1 : Int)).toNat) else (0 : Int)) * (256 : Int) + if 4 * (x.6 - (1 : Int)).toNat + 1 < (ms.getD (↑x.7.length : Int).toNat { data := { toList := [] } }).size then byteAt (ms.getD (↑x.7.length : Int).toNat { data := { toList := [] } }) (4 * (x.6 - (1 : Int)).toNat + 1) else (0 : Int)) * (256 : Int) + if 4 * (x.6 - (1 : Int)).toNat + 2 < (ms.getD (↑x.7.length : Int).toNat { data := { toList := [] } }).size then byteAt (ms.getD (↑x.7.length : Int).toNat { data := { toList := [] } }) (4 * (x.6 - (1 : Int)).toNat + 2) else (0 : Int)) * (256 : Int) + if 4 * (x.6 - (1 : Int)).toNat + 3 < (ms.getD (↑x.7.length : Int).toNat { data := { toList := [] } }).size then byteAt (ms.getD (↑x.7.length : Int).toNat { data := { toList := [] } }) (4 * (x.6 - (1 : Int)).toNat + 3) else (0 : Int)))).set (x.1 + (2 : Int) + x.5 % x.2 * ((1 : Int) + (x.3 + (3 : Int)) / (4 : Int)) + x.6).toNat (IntKind.u32.wrap ((l.set (x.1 + (2 : Int) + x.5 % x.2 * ((1 : Int) + (x.3 + (3 : Int)) / (4 : Int)) + x.6).toNat (bitop BinOp.or IntKind.u32 (bitop BinOp.and IntKind.u32 (l.getD (x.1 + (2 : Int) + x.5 % x.2 * ((1 : Int) + (x.3 + (3 : Int)) / (4 : Int)) + x.6).toNat (0 : Int)) (0 : Int)) ((((if 4 * (x.6 - (1 : Int)).toNat < (ms.getD (↑x.7.length : Int).toNat { data := { toList := [] } }).size then byteAt (ms.getD (↑x.7.length : Int).toNat { data := { toList := [] } }) (4 * (x.6 - (1 : Int)).toNat) else (0 : Int)) * (256 : Int) + if 4 * (x.6 - (1 : Int)).toNat + 1 < (ms.getD (↑x.7.length : Int).toNat { data := { toList := [] } }).size then byteAt (ms.getD (↑x.7.length : Int).toNat { data := { toList := [] } }) (4 * (x.6 - (1 : Int)).toNat + 1) else (0 : Int)) * (256 : Int) + if 4 * (x.6 - (1 : Int)).toNat + 2 < (ms.getD (↑x.7.length : Int).toNat { data := { toList := [] } }).size then byteAt (ms.getD (↑x.7.length : Int).toNat { data := { toList := [] } }) (4 * (x.6 - (1 : Int)).toNat + 2) else (0 : Int)) * (256 : Int) + if 4 * (x.6 - (1 : Int)).toNat + 3 < (ms.getD (↑x.7.length : Int).toNat { data := { toList := [] } }).size then byteAt (ms.getD (↑x.7.length : Int).toNat { data := { toList := [] } }) (4 * (x.6 - (1 : Int)).toNat + 3) else (0 : Int)))).getD (x.1 + (2 : Int) + x.5 % x.2 * ((1 : Int) + (x.3 + (3 : Int)) / (4 : Int)) + x.6).toNat (0 : Int) + (0 : Int))))] 35, .own [.c (.sli 1 (.c 0) 1 (.v n) (some (.v n))), .c (.int .i64 (c + (1 : Int)))] 90, .own [.c (.int .i64 x.1), .c (.int .i64 x.2), .c (.int .i64 x.3), .c (SVal.fn (Fn.func 50) [.ptr 3 0] []), .c (.int .u32 x.4), .c (.int .u32 x.5), .c (.int .i64 (x.6 + (1 : Int))), .c (.sli 4 (.c 0) 1 (.v ms.length) none), .c (.sli 5 (.c 0) 1 (.v x.7.length) none)] 124, .vec encStr ms 9, .vec encBool x.7 4, .own [.c (.lit .u32 (0 : Int)), .c (.int .u32 ((((if 4 * (x.6 - (1 : Int)).toNat < (ms.getD (↑x.7.length : Int).toNat { data := { toList := [] } }).size then byteAt (ms.getD (↑x.7.length : Int).toNat { data := { toList := [] } }) (4 * (x.6 - (1 : Int)).toNat) else (0 : Int)) * (256 : Int) + if 4 * (x.6 - (1 : Int)).toNat + 1 < (ms.getD (↑x.7.length : Int).toNat { data := { toList := [] } }).size then byteAt (ms.getD (↑x.7.length : Int).toNat { data := { toList := [] } }) (4 * (x.6 - (1 : Int)).toNat + 1) else (0 : Int)) * (256 : Int) + if 4 * (x.6 - (1 : Int)).toNat + 2 < (ms.getD (↑x.7.length : Int).toNat { data := { toList := [] } }).size then byteAt (ms.getD (↑x.7.length : Int).toNat { data := { toList := [] } }) (4 * (x.6 - (1 : Int)).toNat + 2) else (0 : Int)) * (256 : Int) + if 4 * (x.6 - (1 : Int)).toNat + 3 < (ms.getD (↑x.7.length : Int).toNat { data := { toList := [] } }).size then byteAt (ms.getD (↑x.7.length : Int).toNat { data := { toList := [] } }) (4 * (x.6 - (1 : Int)).toNat + 3) else (0 : Int))), .c (.lit .u32 (0 : Int))] 115])))))))))))))))))))))))))))))))))))))

 (.eq ([Blk.ro encLook [PUnit.unit]] = [Blk.ro encLook [PUnit.unit]] ∧ RingOk x.2 x.3 ∧ ((-1000000 : Int) ≤ x.1 ∧ x.1 ≤ (1000000 : Int)) ∧ (0 : Int) ≤ x.5 ∧ x.5 < (4294967296 : Int))

 (.need (inR .i64 (x.1 + (2 : Int) + x.5 % x.2 * ((1 : Int) + (x.3 + (3 : Int)) / (4 : Int)) + x.6))

 (.br (decide (x.1 + (2 : Int) + x.5 % x.2 * ((1 : Int) + (x.3 + (3 : Int)) / (4 : Int)) + x.6 < (0 : Int)))
 (.eq (T.ret (SVal.agg [SVal.int IntKind.i64 x.1, SVal.int IntKind.i64 x.2, SVal.int IntKind.i64 x.3]) = T.ret (SVal.agg [SVal.int IntKind.i64 x.1, SVal.int IntKind.i64 x.2, SVal.int IntKind.i64 x.3]))
 (.eq (T.ret (SVal.int IntKind.u32 x.5) = T.ret (SVal.int IntKind.u32 x.5))
 (.eq (T.ret (SVal.int IntKind.i64 x.6) = T.ret (SVal.int IntKind.i64 x.6))
 (.eq (T.ret (SVal.int IntKind.i64 x.6) = T.ret (SVal.int IntKind.i64 x.6))

 (.need (inR .i64 (x.6 + (1 : Int)))

 (.need (inR .i64 ((↑(ms.getD (↑x.7.length : Int).toNat { data := { toList := [] } }).size : Int) + (3 : Int)))

 (.need (true)
 (.eq (T.ret (SVal.int IntKind.i64 (x.6 + (1 : Int))) = T.ret (SVal.int IntKind.i64 (x.6 + (1 : Int))))
 (.eq (T.ret (SVal.int IntKind.i64 (x.6 + (1 : Int))) = T.ret (SVal.int IntKind.i64 (x.6 + (1 : Int))))

 (.br (decide (IntKind.i64.wrap (((↑(ms.getD (↑x.7.length : Int).toNat { data := { toList := [] } }).size : Int) + (3 : Int)).tdiv (4 : Int)) < x.6 + (1 : Int)))
 (.eq (T.ret (SVal.fn (Fn.func (50 : Nat)) [SVal.ptr (3 : Nat) (0 : Nat)] []) = T.ret (SVal.fn (Fn.func (50 : Nat)) [SVal.ptr (3 : Nat) (0 : Nat)] []))

 (.ret (.bl true, [.ro encLook [PUnit.unit], .own [.a (encInt IntKind.u32) n l] 35, .own [.c (.sli 1 (.c 0) 1 (.v n) (some (.v n))), .c (.int .i64 c)] 90, .own [.c (.int .i64 x.1), .c (.int .i64 x.2), .c (.int .i64 x.3), .c (SVal.fn (Fn.func 56) [.ptr 3 0] []), .c (.int .u32 x.4), .c (.int .u32 x.5), .c (.int .i64 (x.6 + (1 : Int))), .c (.sli 4 (.c 0) 1 (.v ms.length) none), .c (.sli 5 (.c 0) 1 (.v x.7.length) none)] 124, .vec encStr ms 9, .vec encBool x.7 4, .own [.c (.lit .u32 (0 : Int)), .c (.int .u32 (IntKind.u32.wrap (↑(ms.getD (↑x.7.length : Int).toNat { data := { toList := [] } }).size : Int))), .c (.lit .u32 (0 : Int))] 115])))
 (.eq (T.ret (SVal.fn (Fn.func (50 : Nat)) [SVal.ptr (3 : Nat) (0 : Nat)] []) = T.ret (SVal.fn (Fn.func (50 : Nat)) [SVal.ptr (3 : Nat) (0 : Nat)] []))

 (.ret (.bl true, [.ro encLook [PUnit.unit], .own [.a (encInt IntKind.u32) n l] 35, .own [.c (.sli 1 (.c 0) 1 (.v n) (some (.v n))), .c (.int .i64 c)] 90, .own [.c (.int .i64 x.1), .c (.int .i64 x.2), .c (.int .i64 x.3), .c (SVal.fn (Fn.func 50) [.ptr 3 0] []), .c (.int .u32 x.4), .c (.int .u32 x.5), .c (.int .i64 (x.6 + (1 : Int))), .c (.sli 4 (.c 0) 1 (.v ms.length) none), .c (.sli 5 (.c 0) 1 (.v x.7.length) none)] 124, .vec encStr ms 9, .vec encBool x.7 4, .own [.c (.lit .u32 (0 : Int)), .c (.int .u32 (IntKind.u32.wrap (↑(ms.getD (↑x.7.length : Int).toNat { data := { toList := [] } }).size : Int))), .c (.lit .u32 (0 : Int))] 115])))))))))))))

 (.br (decide ((↑n : Int) ≤ x.1 + (2 : Int) + x.5 % x.2 * ((1 : Int) + (x.3 + (3 : Int)) / (4 : Int)) + x.6))
 (.eq (T.ret (SVal.agg [SVal.int IntKind.i64 x.1, SVal.int IntKind.i64 x.2, SVal.int IntKind.i64 x.3]) = T.ret (SVal.agg [SVal.int IntKind.i64 x.1, SVal.int IntKind.i64 x.2, SVal.int IntKind.i64 x.3]))
 (.eq (T.ret (SVal.int IntKind.u32 x.5) = T.ret (SVal.int IntKind.u32 x.5))
 (.eq (T.ret (SVal.int IntKind.i64 x.6) = T.ret (SVal.int IntKind.i64 x.6))
 (.eq (T.ret (SVal.int IntKind.i64 x.6) = T.ret (SVal.int IntKind.i64 x.6))

 (.need (inR .i64 (x.6 + (1 : Int)))

 (.need (inR .i64 ((↑(ms.getD (↑x.7.length : Int).toNat { data := { toList := [] } }).size : Int) + (3 : Int)))

 (.need (true)
 (.eq (T.ret (SVal.int IntKind.i64 (x.6 + (1 : Int))) = T.ret (SVal.int IntKind.i64 (x.6 + (1 : Int))))
 (.eq (T.ret (SVal.int IntKind.i64 (x.6 + (1 : Int))) = T.ret (SVal.int IntKind.i64 (x.6 + (1 : Int))))

 (.br (decide (IntKind.i64.wrap (((↑(ms.getD (↑x.7.length : Int).toNat { data := { toList := [] } }).size : Int) + (3 : Int)).tdiv (4 : Int)) < x.6 + (1 : Int)))
 (.eq (T.ret (SVal.fn (Fn.func (50 : Nat)) [SVal.ptr (3 : Nat) (0 : Nat)] []) = T.ret (SVal.fn (Fn.func (50 : Nat)) [SVal.ptr (3 : Nat) (0 : Nat)] []))

 (.ret (.bl true, [.ro encLook [PUnit.unit], .own [.a (encInt IntKind.u32) n l] 35, .own [.c (.sli 1 (.c 0) 1 (.v n) (some (.v n))), .c (.int .i64 c)] 90, .own [.c (.int .i64 x.1), .c (.int .i64 x.2), .c (.int .i64 x.3), .c (SVal.fn (Fn.func 56) [.ptr 3 0] []), .c (.int .u32 x.4), .c (.int .u32 x.5), .c (.int .i64 (x.6 + (1 : Int))), .c (.sli 4 (.c 0) 1 (.v ms.length) none), .c (.sli 5 (.c 0) 1 (.v x.7.length) none)] 124, .vec encStr ms 9, .vec encBool x.7 4, .own [.c (.lit .u32 (0 : Int)), .c (.int .u32 (IntKind.u32.wrap (↑(ms.getD (↑x.7.length : Int).toNat { data := { toList := [] } }).size : Int))), .c (.lit .u32 (0 : Int))] 115])))
 (.eq (T.ret (SVal.fn (Fn.func (50 : Nat)) [SVal.ptr (3 : Nat) (0 : Nat)] []) = T.ret (SVal.fn (Fn.func (50 : Nat)) [SVal.ptr (3 : Nat) (0 : Nat)] []))

 (.ret (.bl true, [.ro encLook [PUnit.unit], .own [.a (encInt IntKind.u32) n l] 35, .own [.c (.sli 1 (.c 0) 1 (.v n) (some (.v n))), .c (.int .i64 c)] 90, .own [.c (.int .i64 x.1), .c (.int .i64 x.2), .c (.int .i64 x.3), .c (SVal.fn (Fn.func 50) [.ptr 3 0] []), .c (.int .u32 x.4), .c (.int .u32 x.5), .c (.int .i64 (x.6 + (1 : Int))), .c (.sli 4 (.c 0) 1 (.v ms.length) none), .c (.sli 5 (.c 0) 1 (.v x.7.length) none)] 124, .vec encStr ms 9, .vec encBool x.7 4, .own [.c (.lit .u32 (0 : Int)), .c (.int .u32 (IntKind.u32.wrap (↑(ms.getD (↑x.7.length : Int).toNat { data := { toList := [] } }).size : Int))), .c (.lit .u32 (0 : Int))] 115])))))))))))))

 (.need (inR .i64 (c + (1 : Int)))

 (.need (decide ((0 : Int) ≤ x.1 + (2 : Int) + x.5 % x.2 * ((1 : Int) + (x.3 + (3 : Int)) / (4 : Int)) + x.6) && decide ((x.1 + (2 : Int) + x.5 % x.2 * ((1 : Int) + (x.3 + (3 : Int)) / (4 : Int)) + x.6).toNat < n))

 (.need (decide ((x.1 + (2 : Int) + x.5 % x.2 * ((1 : Int) + (x.3 + (3 : Int)) / (4 : Int)) + x.6).toNat < n))

 (.need (true)

 (.need (true)

 (.need (true)

 (.need (decide ((0 : Int) ≤ x.1 + (2 : Int) + x.5 % x.2 * ((1 : Int) + (x.3 + (3 : Int)) / (4 : Int)) + x.6) && decide ((x.1 + (2 : Int) + x.5 % x.2 * ((1 : Int) + (x.3 + (3 : Int)) / (4 : Int)) + x.6).toNat < n))

 (.need (decide ((x.1 + (2 : Int) + x.5 % x.2 * ((1 : Int) + (x.3 + (3 : Int)) / (4 : Int)) + x.6).toNat < n))
 (.eq (T.ret (SVal.sli (1 : Nat) (NN.c (0 : Nat)) (1 : Nat) (NN.v n) (some (NN.v n))) = T.ret (SVal.sli (1 : Nat) (NN.c (0 : Nat)) (1 : Nat) (NN.v n) (some (NN.v n))))
 (.eq (T.ret (SVal.int IntKind.u32 (IntKind.u32.wrap (↑(ms.getD (↑x.7.length : Int).toNat { data := { toList := [] } }).size : Int))) = T.ret (SVal.int IntKind.u32 (IntKind.u32.wrap (↑(ms.getD (↑x.7.length : Int).toNat { data := { toList := [] } }).size : Int))))

 (.need (decide ((0 : Int) ≤ x.1 + (2 : Int) + x.5 % x.2 * ((1 : Int) + (x.3 + (3 : Int)) / (4 : Int)) + x.6) && decide ((x.1 + (2 : Int) + x.5 % x.2 * ((1 : Int) + (x.3 + (3 : Int)) / (4 : Int)) + x.6).toNat < n))

 (.need (decide ((x.1 + (2 : Int) + x.5 % x.2 * ((1 : Int) + (x.3 + (3 : Int)) / (4 : Int)) + x.6).toNat < n))

 (.need (decide ((0 : Int) ≤ x.1 + (2 : Int) + x.5 % x.2 * ((1 : Int) + (x.3 + (3 : Int)) / (4 : Int)) + x.6) && decide ((x.1 + (2 : Int) + x.5 % x.2 * ((1 : Int) + (x.3 + (3 : Int)) / (4 : Int)) + x.6).toNat < n))

 (.need (decide ((x.1 + (2 : Int) + x.5 % x.2 * ((1 : Int) + (x.3 + (3 : Int)) / (4 : Int)) + x.6).toNat < n))
 (.eq (T.ret (SVal.sli (1 : Nat) (NN.c (0 : Nat)) (1 : Nat) (NN.v n) (some (NN.v n))) = T.ret (SVal.sli (1 : Nat) (NN.c (0 : Nat)) (1 : Nat) (NN.v n) (some (NN.v n))))
 (.eq (T.need (decide ((x.1 + (2 : Int) + x.5 % x.2 * ((1 : Int) + (x.3 + (3 : Int)) / (4 : Int)) + x.6).toNat < n)) (T.ret ([SVal.int IntKind.u32 ((l.set (x.1 + (2 : Int) + x.5 % x.2 * ((1 : Int) + (x.3 + (3 : Int)) / (4 : Int)) + x.6).toNat (bitop BinOp.or IntKind.u32 (bitop BinOp.and IntKind.u32 (l.getD (x.1 + (2 : Int) + x.5 % x.2 * ((1 : Int) + (x.3 + (3 : Int)) / (4 : Int)) + x.6).toNat (0 : Int)) (0 : Int)) (IntKind.u32.wrap (↑(ms.getD (↑x.7.length : Int).toNat { data := { toList := [] } }).size : Int)))).getD (x.1 + (2 : Int) + x.5 % x.2 * ((1 : Int) + (x.3 + (3 : Int)) / (4 : Int)) + x.6).toNat (0 : Int))].getD (0 : Nat) SVal.bad)) = T.need (decide ((x.1 + (2 : Int) + x.5 % x.2 * ((1 : Int) + (x.3 + (3 : Int)) / (4 : Int)) + x.6).toNat < n)) (T.ret ([SVal.int IntKind.u32 ((l.set (x.1 + (2 : Int) + x.5 % x.2 * ((1 : Int) + (x.3 + (3 : Int)) / (4 : Int)) + x.6).toNat (bitop BinOp.or IntKind.u32 (bitop BinOp.and IntKind.u32 (l.getD (x.1 + (2 : Int) + x.5 % x.2 * ((1 : Int) + (x.3 + (3 : Int)) / (4 : Int)) + x.6).toNat (0 : Int)) (0 : Int)) (IntKind.u32.wrap (↑(ms.getD (↑x.7.length : Int).toNat { data := { toList := [] } }).size : Int)))).getD (x.1 + (2 : Int) + x.5 % x.2 * ((1 : Int) + (x.3 + (3 : Int)) / (4 : Int)) + x.6).toNat (0 : Int))].getD (0 : Nat) SVal.bad)))
 (.eq (T.ret (SVal.agg [SVal.int IntKind.i64 x.1, SVal.int IntKind.i64 x.2, SVal.int IntKind.i64 x.3]) = T.ret (SVal.agg [SVal.int IntKind.i64 x.1, SVal.int IntKind.i64 x.2, SVal.int IntKind.i64 x.3]))
 (.eq (T.ret (SVal.int IntKind.u32 x.5) = T.ret (SVal.int IntKind.u32 x.5))
 (.eq (T.ret (SVal.int IntKind.i64 x.6) = T.ret (SVal.int IntKind.i64 x.6))
 (.eq (T.ret (SVal.int IntKind.i64 x.6) = T.ret (SVal.int IntKind.i64 x.6))

 (.need (inR .i64 (x.6 + (1 : Int)))

 (.need (inR .i64 ((↑(ms.getD (↑x.7.length : Int).toNat { data := { toList := [] } }).size : Int) + (3 : Int)))

 (.need (true)
 (.eq (T.ret (SVal.int IntKind.i64 (x.6 + (1 : Int))) = T.ret (SVal.int IntKind.i64 (x.6 + (1 : Int))))
 (.eq (T.ret (SVal.int IntKind.i64 (x.6 + (1 : Int))) = T.ret (SVal.int IntKind.i64 (x.6 + (1 : Int))))

 (.br (decide (IntKind.i64.wrap (((↑(ms.getD (↑x.7.length : Int).toNat { data := { toList := [] } }).size : Int) + (3 : Int)).tdiv (4 : Int)) < x.6 + (1 : Int)))
 (.eq (T.ret (SVal.fn (Fn.func (50 : Nat)) [SVal.ptr (3 : Nat) (0 : Nat)] []) = T.ret (SVal.fn (Fn.func (50 : Nat)) [SVal.ptr (3 : Nat) (0 : Nat)] []))
 (.eq (T.ret (SVal.sli (5 : Nat) (NN.c (0 : Nat)) (1 : Nat) (NN.v x.7.length) none) = T.ret (SVal.sli (5 : Nat) (NN.c (0 : Nat)) (1 : Nat) (NN.v x.7.length) none))
 (.eq (T.ret (SVal.sli (4 : Nat) (NN.c (0 : Nat)) (1 : Nat) (NN.v ms.length) none) = T.ret (SVal.sli (4 : Nat) (NN.c (0 : Nat)) (1 : Nat) (NN.v ms.length) none))

 (.ret (.sb ((↑x.7.length : Int) == (↑ms.length : Int)), [.ro encLook [PUnit.unit], .own [.a (encInt IntKind.u32) n ((l.set (x.1 + (2 : Int) + x.5 % x.2 * ((1 : Int) + (x.3 + (3 : Int)) / (4 : Int)) + x.6).toNat (bitop BinOp.or IntKind.u32 (bitop BinOp.and IntKind.u32 (l.getD (x.1 + (2 : Int) + x.5 % x.2 * ((1 : Int) + (x.3 + (3 : Int)) / (4 : Int)) + x.6).toNat (0 : Int)) (0 : Int)) (IntKind.u32.wrap (↑(ms.getD (↑x.7.length : Int).toNat { data := { toList := [] } }).size : Int)))).set (x.1 + (2 : Int) + x.5 % x.2 * ((1 : Int) + (x.3 + (3 : Int)) / (4 : Int)) + x.6).toNat (IntKind.u32.wrap ((l.set (x.1 + (2 : Int) + x.5 % x.2 * ((1 : Int) + (x.3 + (3 : Int)) / (4 : Int)) + x.6).toNat (bitop BinOp.or IntKind.u32 (bitop BinOp.and IntKind.u32 (l.getD (x.1 + (2 : Int) + x.5 % x.2 * ((1 : Int) + (x.3 + (3 : Int)) / (4 : Int)) + x.6).toNat (0 : Int)) (0 : Int)) (IntKind.u32.wrap (↑(ms.getD (↑x.7.length : Int).toNat { data := { toList := [] } }).size : Int)))).getD (x.1 + (2 : Int) + x.5 % x.2 * ((1 : Int) + (x.3 + (3 : Int)) / (4 : Int)) + x.6).toNat (0 : Int) + (0 : Int))))] 35, .own [.c (.sli 1 (.c 0) 1 (.v n) (some (.v n))), .c (.int .i64 (c + (1 : Int)))] 90, .own [.c (.int .i64 x.1), .c (.int .i64 x.2), .c (.int .i64 x.3), .c (SVal.fn (Fn.func 56) [.ptr 3 0] []), .c (.int .u32 x.4), .c (.int .u32 x.5), .c (.int .i64 (x.6 + (1 : Int))), .c (.sli 4 (.c 0) 1 (.v ms.length) none), .c (.sli 5 (.c 0) 1 (.v x.7.length) none)] 124, .vec encStr ms 9, .vec encBool x.7 4, .own [.c (.lit .u32 (0 : Int)), .c (.int .u32 (IntKind.u32.wrap (↑(ms.getD (↑x.7.length : Int).toNat { data := { toList := [] } }).size : Int))), .c (.lit .u32 (0 : Int))] 115])))))
 (.eq (T.ret (SVal.fn (Fn.func (50 : Nat)) [SVal.ptr (3 : Nat) (0 : Nat)] []) = T.ret (SVal.fn (Fn.func (50 : Nat)) [SVal.ptr (3 : Nat) (0 : Nat)] []))
 (.eq (T.ret (SVal.sli (5 : Nat) (NN.c (0 : Nat)) (1 : Nat) (NN.v x.7.length) none) = T.ret (SVal.sli (5 : Nat) (NN.c (0 : Nat)) (1 : Nat) (NN.v x.7.length) none))
 (.eq (T.ret (SVal.sli (4 : Nat) (NN.c (0 : Nat)) (1 : Nat) (NN.v ms.length) none) = T.ret (SVal.sli (4 : Nat) (NN.c (0 : Nat)) (1 : Nat) (NN.v ms.length) none))

 (.ret (.sb ((↑x.7.length : Int) == (↑ms.length : Int)), [.ro encLook [PUnit.unit], .own [.a (encInt IntKind.u32) n ((l.set (x.1 + (2 : Int) + x.5 % x.2 * ((1 : Int) + (x.3 + (3 : Int)) / (4 : Int)) + x.6).toNat (bitop BinOp.or IntKind.u32 (bitop BinOp.and IntKind.u32 (l.getD (x.1 + (2 : Int) + x.5 % x.2 * ((1 : Int) + (x.3 + (3 : Int)) / (4 : Int)) + x.6).toNat (0 : Int)) (0 : Int)) (IntKind.u32.wrap (↑(ms.getD (↑x.7.length : Int).toNat { data := { toList := [] } }).size : Int)))).set (x.1 + (2 : Int) + x.5 % x.2 * ((1 : Int) + (x.3 + (3 : Int)) / (4 : Int)) + x.6).toNat (IntKind.u32.wrap ((l.set (x.1 + (2 : Int) + x.5 % x.2 * ((1 : Int) + (x.3 + (3 : Int)) / (4 : Int)) + x.6).toNat (bitop BinOp.or IntKind.u32 (bitop BinOp.and IntKind.u32 (l.getD (x.1 + (2 : Int) + x.5 % x.2 * ((1 : Int) + (x.3 + (3 : Int)) / (4 : Int)) + x.6).toNat (0 : Int)) (0 : Int)) (IntKind.u32.wrap (↑(ms.getD (↑x.7.length : Int).toNat { data := { toList := [] } }).size : Int)))).getD (x.1 + (2 : Int) + x.5 % x.2 * ((1 : Int) + (x.3 + (3 : Int)) / (4 : Int)) + x.6).toNat (0 : Int) + (0 : Int))))] 35, .own [.c (.sli 1 (.c 0) 1 (.v n) (some (.v n))), .c (.int .i64 (c + (1 : Int)))] 90, .own [.c (.int .i64 x.1), .c (.int .i64 x.2), .c (.int .i64 x.3), .c (SVal.fn (Fn.func 50) [.ptr 3 0] []), .c (.int .u32 x.4), .c (.int .u32 x.5), .c (.int .i64 (x.6 + (1 : Int))), .c (.sli 4 (.c 0) 1 (.v ms.length) none), .c (.sli 5 (.c 0) 1 (.v x.7.length) none)] 124, .vec encStr ms 9, .vec encBool x.7 4, .own [.c (.lit .u32 (0 : Int)), .c (.int .u32 (IntKind.u32.wrap (↑(ms.getD (↑x.7.length : Int).toNat { data := { toList := [] } }).size : Int))), .c (.lit .u32 (0 : Int))] 115]))))))))))))))))))))))))))))))))))))))) := by kernel_rfl
set_option maxRecDepth 100000 in
theorem st_b {n : Nat} {l : List Int} {c : Int} {x : Snd} {ms : List ByteArray} : callF cfgK 100 21 agS (sSn 56 n l c x ms) =
 

 (.br ((↑x.7.length : Int) == (↑ms.length : Int))

 (.ret (.bl true, [.ro encLook [PUnit.unit], .own [.a (encInt IntKind.u32) n l] 35, .own [.c (.sli 1 (.c 0) 1 (.v n) (some (.v n))), .c (.int .i64 c)] 90, .own [.c (.int .i64 x.1), .c (.int .i64 x.2), .c (.int .i64 x.3), .c (SVal.fn (Fn.func 56) [.ptr 3 0] []), .c (.int .u32 x.4), .c (.int .u32 x.5), .c (.int .i64 x.6), .c (.sli 4 (.c 0) 1 (.v ms.length) none), .c (.sli 5 (.c 0) 1 (.v x.7.length) none)] 124, .vec encStr ms 9, .vec encBool x.7 4]))

 (.need (inR .i64 (x.1 + (1 : Int)))

 (.br (decide (x.1 + (1 : Int) < (0 : Int)))
 (.eq (T.ret (SVal.int IntKind.i64 x.1) = T.ret (SVal.int IntKind.i64 x.1))
 (.eq (T.ret (SVal.int IntKind.u32 x.5) = T.ret (SVal.int IntKind.u32 x.5))
 (.eq (T.ret (SVal.fn (Fn.func (56 : Nat)) [SVal.ptr (3 : Nat) (0 : Nat)] []) = T.ret (SVal.fn (Fn.func (56 : Nat)) [SVal.ptr (3 : Nat) (0 : Nat)] []))

 (.ret (.bl true, [.ro encLook [PUnit.unit], .own [.a (encInt IntKind.u32) n l] 35, .own [.c (.sli 1 (.c 0) 1 (.v n) (some (.v n))), .c (.int .i64 c)] 90, .own [.c (.int .i64 x.1), .c (.int .i64 x.2), .c (.int .i64 x.3), .c (SVal.fn (Fn.func 56) [.ptr 3 0] []), .c (.int .u32 x.4), .c (.int .u32 x.5), .c (.int .i64 x.6), .c (.sli 4 (.c 0) 1 (.v ms.length) none), .c (.sli 5 (.c 0) 1 (.v x.7.length) none)] 124, .vec encStr ms 9, .vec encBool x.7 4, .own [.c (.lit .u32 (0 : Int)), .c (.int .u32 (IntKind.u32.wrap (x.5 + (1 : Int)))), .c (.lit .u32 (0 : Int))] 115])))))

 (.br (decide ((↑n : Int) ≤ x.1 + (1 : Int)))
 (.eq (T.ret (SVal.int IntKind.i64 x.1) = T.ret (SVal.int IntKind.i64 x.1))
 (.eq (T.ret (SVal.int IntKind.u32 x.5) = T.ret (SVal.int IntKind.u32 x.5))
 (.eq (T.ret (SVal.fn (Fn.func (56 : Nat)) [SVal.ptr (3 : Nat) (0 : Nat)] []) = T.ret (SVal.fn (Fn.func (56 : Nat)) [SVal.ptr (3 : Nat) (0 : Nat)] []))

 (.ret (.bl true, [.ro encLook [PUnit.unit], .own [.a (encInt IntKind.u32) n l] 35, .own [.c (.sli 1 (.c 0) 1 (.v n) (some (.v n))), .c (.int .i64 c)] 90, .own [.c (.int .i64 x.1), .c (.int .i64 x.2), .c (.int .i64 x.3), .c (SVal.fn (Fn.func 56) [.ptr 3 0] []), .c (.int .u32 x.4), .c (.int .u32 x.5), .c (.int .i64 x.6), .c (.sli 4 (.c 0) 1 (.v ms.length) none), .c (.sli 5 (.c 0) 1 (.v x.7.length) none)] 124, .vec encStr ms 9, .vec encBool x.7 4, .own [.c (.lit .u32 (0 : Int)), .c (.int .u32 (IntKind.u32.wrap (x.5 + (1 : Int)))), .c (.lit .u32 (0 : Int))] 115])))))

 (.need (inR .i64 (c + (1 : Int)))

 (.need (decide ((0 : Int) ≤ x.1 + (1 : Int)) && decide ((x.1 + (1 : Int)).toNat < n))

 (.need (decide ((x.1 + (1 : Int)).toNat < n))

 (.need (true)

 (.need (true)

 (.need (true)

 (.need (decide ((0 : Int) ≤ x.1 + (1 : Int)) && decide ((x.1 + (1 : Int)).toNat < n))

 (.need (decide ((x.1 + (1 : Int)).toNat < n))
 (.eq (T.ret (SVal.sli (1 : Nat) (NN.c (0 : Nat)) (1 : Nat) (NN.v n) (some (NN.v n))) = T.ret (SVal.sli (1 : Nat) (NN.c (0 : Nat)) (1 : Nat) (NN.v n) (some (NN.v n))))
 (.eq (T.ret (SVal.int IntKind.u32 (IntKind.u32.wrap (x.5 + (1 : Int)))) = T.ret (SVal.int IntKind.u32 (IntKind.u32.wrap (x.5 + (1 : Int)))))

 (.need (decide ((0 : Int) ≤ x.1 + (1 : Int)) && decide ((x.1 + (1 : Int)).toNat < n))

 (.need (decide ((x.1 + (1 : Int)).toNat < n))

 (.need (decide ((0 : Int) ≤ x.1 + (1 : Int)) && decide ((x.1 + (1 : Int)).toNat < n))

 (.need (decide ((x.1 + (1 : Int)).toNat < n))
 (.eq (T.ret (SVal.sli (1 : Nat) (NN.c (0 : Nat)) (1 : Nat) (NN.v n) (some (NN.v n))) = T.ret (SVal.sli (1 : Nat) (NN.c (0 : Nat)) (1 : Nat) (NN.v n) (some (NN.v n))))
 (.eq (T.need (decide ((x.1 + (1 : Int)).toNat < n)) (T.ret ([SVal.int IntKind.u32 ((l.set (x.1 + (1 : Int)).toNat (bitop BinOp.or IntKind.u32 (bitop BinOp.and IntKind.u32 (l.getD (x.1 + (1 : Int)).toNat (0 : Int)) (0 : Int)) (IntKind.u32.wrap (x.5 + (1 : Int))))).getD (x.1 + (1 : Int)).toNat (0 : Int))].getD (0 : Nat) SVal.bad)) = T.need (decide ((x.1 + (1 : Int)).toNat < n)) (T.ret ([SVal.int IntKind.u32 ((l.set (x.1 + (1 : Int)).toNat (bitop BinOp.or IntKind.u32 (bitop BinOp.and IntKind.u32 (l.getD (x.1 + (1 : Int)).toNat (0 : Int)) (0 : Int)) (IntKind.u32.wrap (x.5 + (1 : Int))))).getD (x.1 + (1 : Int)).toNat (0 : Int))].getD (0 : Nat) SVal.bad)))
 (.eq (T.ret (SVal.int IntKind.i64 x.1) = T.ret (SVal.int IntKind.i64 x.1))
 (.eq (T.ret (SVal.int IntKind.u32 x.5) = T.ret (SVal.int IntKind.u32 x.5))

 (.need (true)

 (.need (decide (x.7.length = x.7.length))

 (.need (roomy (x.7.length + 1) 1)
 (.eq (T.ret (SVal.fn (Fn.func (56 : Nat)) [SVal.ptr (3 : Nat) (0 : Nat)] []) = T.ret (SVal.fn (Fn.func (56 : Nat)) [SVal.ptr (3 : Nat) (0 : Nat)] []))
 (.eq (T.ret (SVal.sli (8 : Nat) (NN.c (0 : Nat)) (1 : Nat) (NN.v (x.7.length + (1 : Nat))) none) = T.ret (SVal.sli (8 : Nat) (NN.c (0 : Nat)) (1 : Nat) (NN.v (x.7.length + (1 : Nat))) none))
 (.eq (T.ret (SVal.sli (4 : Nat) (NN.c (0 : Nat)) (1 : Nat) (NN.v ms.length) none) = T.ret (SVal.sli (4 : Nat) (NN.c (0 : Nat)) (1 : Nat) (NN.v ms.length) none))

 (.ret (.sb ((↑(x.7.length + 1) : Int) == (↑ms.length : Int)), [.ro encLook [PUnit.unit], .own [.a (encInt IntKind.u32) n ((l.set (x.1 + (1 : Int)).toNat (bitop BinOp.or IntKind.u32 (bitop BinOp.and IntKind.u32 (l.getD (x.1 + (1 : Int)).toNat (0 : Int)) (0 : Int)) (IntKind.u32.wrap (x.5 + (1 : Int))))).set (x.1 + (1 : Int)).toNat (IntKind.u32.wrap ((l.set (x.1 + (1 : Int)).toNat (bitop BinOp.or IntKind.u32 (bitop BinOp.and IntKind.u32 (l.getD (x.1 + (1 : Int)).toNat (0 : Int)) (0 : Int)) (IntKind.u32.wrap (x.5 + (1 : Int))))).getD (x.1 + (1 : Int)).toNat (0 : Int) + (0 : Int))))] 35, .own [.c (.sli 1 (.c 0) 1 (.v n) (some (.v n))), .c (.int .i64 (c + (1 : Int)))] 90, .own [.c (.int .i64 x.1), .c (.int .i64 x.2), .c (.int .i64 x.3), .c (SVal.fn (Fn.func 41) [.ptr 3 0] []), .c (.int .u32 x.4), .c (.int .u32 x.5), .c (.int .i64 x.6), .c (.sli 4 (.c 0) 1 (.v ms.length) none), .c (.sli 8 (.c 0) 1 (.v (x.7.length + 1)) none)] 124, .vec encStr ms 9, .gone, .own [.c (.lit .u32 (0 : Int)), .c (.int .u32 (IntKind.u32.wrap (x.5 + (1 : Int)))), .c (.lit .u32 (0 : Int))] 115, .own [.c (.bl true)] 4, .vec encBool (x.7 ++ [true]) 4])))))))))))))))))))))))))))))) := by kernel_rfl
set_option maxRecDepth 100000 in
theorem rb_b {n : Nat} {l : List Int} {c : Int} {x : Rcv} : callF cfgK 100 25 agS (sR 42 n l c x) =
 

 (.br ((↑x.10.length : Int) == x.7)

 (.ret (.bl true, [.ro encLook [PUnit.unit], .own [.a (encInt IntKind.u32) n l] 35, .own [.c (.sli 1 (.c 0) 1 (.v n) (some (.v n))), .c (.int .i64 c)] 90, .own [.c (.int .i64 x.1), .c (.int .i64 x.2), .c (.int .i64 x.3), .c (SVal.fn (Fn.func 42) [.ptr 3 0] []), .c (.int .u32 x.4), .c (.int .u32 x.5), .c (.int .i64 x.6), .c (.int .i64 x.7), .c (.int .i64 x.8), .c (.sli 4 (.c 0) 1 (.v x.9.length) none), .c (.sli 5 (.c 0) 1 (.v x.10.length) none)] 127, .vec (encInt IntKind.u8) x.9 5, .vec encStr x.10 9]))

 (.need (inR .i64 (x.1 + (1 : Int)))

 (.need (true)

 (.need (true)

 (.need (true)

 (.br (decide (x.1 + (1 : Int) < (0 : Int)))
 (.eq (T.ret (SVal.fn (Fn.func (42 : Nat)) [SVal.ptr (3 : Nat) (0 : Nat)] []) = T.ret (SVal.fn (Fn.func (42 : Nat)) [SVal.ptr (3 : Nat) (0 : Nat)] []))

 (.ret (.bl true, [.ro encLook [PUnit.unit], .own [.a (encInt IntKind.u32) n l] 35, .own [.c (.sli 1 (.c 0) 1 (.v n) (some (.v n))), .c (.int .i64 c)] 90, .own [.c (.int .i64 x.1), .c (.int .i64 x.2), .c (.int .i64 x.3), .c (SVal.fn (Fn.func 47) [.ptr 3 0] []), .c (.int .u32 x.4), .c (.lit .u32 (0 : Int)), .c (.int .i64 x.6), .c (.int .i64 x.7), .c (.int .i64 x.8), .c (.sli 4 (.c 0) 1 (.v x.9.length) none), .c (.sli 5 (.c 0) 1 (.v x.10.length) none)] 127, .vec (encInt IntKind.u8) x.9 5, .vec encStr x.10 9, .own [.c (.lit .u32 (4294967295 : Int)), .c (.lit .u32 (0 : Int)), .c (.lit .u32 (0 : Int))] 115])))

 (.br (decide ((↑n : Int) ≤ x.1 + (1 : Int)))
 (.eq (T.ret (SVal.fn (Fn.func (42 : Nat)) [SVal.ptr (3 : Nat) (0 : Nat)] []) = T.ret (SVal.fn (Fn.func (42 : Nat)) [SVal.ptr (3 : Nat) (0 : Nat)] []))

 (.ret (.bl true, [.ro encLook [PUnit.unit], .own [.a (encInt IntKind.u32) n l] 35, .own [.c (.sli 1 (.c 0) 1 (.v n) (some (.v n))), .c (.int .i64 c)] 90, .own [.c (.int .i64 x.1), .c (.int .i64 x.2), .c (.int .i64 x.3), .c (SVal.fn (Fn.func 47) [.ptr 3 0] []), .c (.int .u32 x.4), .c (.lit .u32 (0 : Int)), .c (.int .i64 x.6), .c (.int .i64 x.7), .c (.int .i64 x.8), .c (.sli 4 (.c 0) 1 (.v x.9.length) none), .c (.sli 5 (.c 0) 1 (.v x.10.length) none)] 127, .vec (encInt IntKind.u8) x.9 5, .vec encStr x.10 9, .own [.c (.lit .u32 (4294967295 : Int)), .c (.lit .u32 (0 : Int)), .c (.lit .u32 (0 : Int))] 115])))

 (.need (inR .i64 (c + (1 : Int)))

 (.need (decide ((0 : Int) ≤ x.1 + (1 : Int)) && decide ((x.1 + (1 : Int)).toNat < n))

 (.need (decide ((x.1 + (1 : Int)).toNat < n))

 (.need (true)

 (.need (true)

 (.need (true)
 (.eq (T.ret (SVal.fn (Fn.func (42 : Nat)) [SVal.ptr (3 : Nat) (0 : Nat)] []) = T.ret (SVal.fn (Fn.func (42 : Nat)) [SVal.ptr (3 : Nat) (0 : Nat)] []))
 (.eq (T.ret (SVal.sli (5 : Nat) (NN.c (0 : Nat)) (1 : Nat) (NN.v x.10.length) none) = T.ret (SVal.sli (5 : Nat) (NN.c (0 : Nat)) (1 : Nat) (NN.v x.10.length) none))
 (.eq (T.ret (SVal.int IntKind.i64 x.7) = T.ret (SVal.int IntKind.i64 x.7))

 (.ret (.sb ((↑x.10.length : Int) == x.7), [.ro encLook [PUnit.unit], .own [.a (encInt IntKind.u32) n l] 35, .own [.c (.sli 1 (.c 0) 1 (.v n) (some (.v n))), .c (.int .i64 (c + (1 : Int)))] 90, .own [.c (.int .i64 x.1), .c (.int .i64 x.2), .c (.int .i64 x.3), .c (SVal.fn (Fn.func 47) [.ptr 3 0] []), .c (.int .u32 x.4), .c (.int .u32 (l.getD (x.1 + (1 : Int)).toNat (0 : Int))), .c (.int .i64 x.6), .c (.int .i64 x.7), .c (.int .i64 x.8), .c (.sli 4 (.c 0) 1 (.v x.9.length) none), .c (.sli 5 (.c 0) 1 (.v x.10.length) none)] 127, .vec (encInt IntKind.u8) x.9 5, .vec encStr x.10 9, .own [.c (.lit .u32 (4294967295 : Int)), .c (.lit .u32 (0 : Int)), .c (.lit .u32 (0 : Int))] 115])))))))))))))))))) := by kernel_rfl
set_option maxRecDepth 100000 in
theorem rl_b {n : Nat} {l : List Int} {c : Int} {x : Rcv} : callF cfgK 100 25 agS (sR 47 n l c x) =
 

 (.br ((↑x.10.length : Int) == x.7)

 (.ret (.bl true, [.ro encLook [PUnit.unit], .own [.a (encInt IntKind.u32) n l] 35, .own [.c (.sli 1 (.c 0) 1 (.v n) (some (.v n))), .c (.int .i64 c)] 90, .own [.c (.int .i64 x.1), .c (.int .i64 x.2), .c (.int .i64 x.3), .c (SVal.fn (Fn.func 47) [.ptr 3 0] []), .c (.int .u32 x.4), .c (.int .u32 x.5), .c (.int .i64 x.6), .c (.int .i64 x.7), .c (.int .i64 x.8), .c (.sli 4 (.c 0) 1 (.v x.9.length) none), .c (.sli 5 (.c 0) 1 (.v x.10.length) none)] 127, .vec (encInt IntKind.u8) x.9 5, .vec encStr x.10 9]))

 (.need (inR .i64 (x.1 + (0 : Int)))

 (.need (true)

 (.need (true)

 (.need (true)

 (.br (decide (x.1 + (0 : Int) < (0 : Int)))
 (.eq (T.ret (SVal.fn (Fn.func (47 : Nat)) [SVal.ptr (3 : Nat) (0 : Nat)] []) = T.ret (SVal.fn (Fn.func (47 : Nat)) [SVal.ptr (3 : Nat) (0 : Nat)] []))

 (.ret (.bl true, [.ro encLook [PUnit.unit], .own [.a (encInt IntKind.u32) n l] 35, .own [.c (.sli 1 (.c 0) 1 (.v n) (some (.v n))), .c (.int .i64 c)] 90, .own [.c (.int .i64 x.1), .c (.int .i64 x.2), .c (.int .i64 x.3), .c (SVal.fn (Fn.func 47) [.ptr 3 0] []), .c (.lit .u32 (0 : Int)), .c (.int .u32 x.5), .c (.int .i64 x.6), .c (.int .i64 x.7), .c (.int .i64 x.8), .c (.sli 4 (.c 0) 1 (.v x.9.length) none), .c (.sli 5 (.c 0) 1 (.v x.10.length) none)] 127, .vec (encInt IntKind.u8) x.9 5, .vec encStr x.10 9, .own [.c (.lit .u32 (4294967295 : Int)), .c (.lit .u32 (0 : Int)), .c (.lit .u32 (0 : Int))] 115])))

 (.br (decide ((↑n : Int) ≤ x.1 + (0 : Int)))
 (.eq (T.ret (SVal.fn (Fn.func (47 : Nat)) [SVal.ptr (3 : Nat) (0 : Nat)] []) = T.ret (SVal.fn (Fn.func (47 : Nat)) [SVal.ptr (3 : Nat) (0 : Nat)] []))

 (.ret (.bl true, [.ro encLook [PUnit.unit], .own [.a (encInt IntKind.u32) n l] 35, .own [.c (.sli 1 (.c 0) 1 (.v n) (some (.v n))), .c (.int .i64 c)] 90, .own [.c (.int .i64 x.1), .c (.int .i64 x.2), .c (.int .i64 x.3), .c (SVal.fn (Fn.func 47) [.ptr 3 0] []), .c (.lit .u32 (0 : Int)), .c (.int .u32 x.5), .c (.int .i64 x.6), .c (.int .i64 x.7), .c (.int .i64 x.8), .c (.sli 4 (.c 0) 1 (.v x.9.length) none), .c (.sli 5 (.c 0) 1 (.v x.10.length) none)] 127, .vec (encInt IntKind.u8) x.9 5, .vec encStr x.10 9, .own [.c (.lit .u32 (4294967295 : Int)), .c (.lit .u32 (0 : Int)), .c (.lit .u32 (0 : Int))] 115])))

 (.need (inR .i64 (c + (1 : Int)))

 (.need (decide ((0 : Int) ≤ x.1 + (0 : Int)) && decide ((x.1 + (0 : Int)).toNat < n))

 (.need (decide ((x.1 + (0 : Int)).toNat < n))

 (.need (true)

 (.need (true)

 (.need (true)

 (.br (l.getD (x.1 + (0 : Int)).toNat (0 : Int) == x.5)

 (.need (true)

 (.need (decide (x.10.length = x.10.length))

 (.need (roomy (x.10.length + 1) 16)
 (.eq (T.ret (SVal.fn (Fn.func (47 : Nat)) [SVal.ptr (3 : Nat) (0 : Nat)] []) = T.ret (SVal.fn (Fn.func (47 : Nat)) [SVal.ptr (3 : Nat) (0 : Nat)] []))
 (.eq (T.ret (SVal.sli (8 : Nat) (NN.c (0 : Nat)) (1 : Nat) (NN.v (x.10.length + (1 : Nat))) none) = T.ret (SVal.sli (8 : Nat) (NN.c (0 : Nat)) (1 : Nat) (NN.v (x.10.length + (1 : Nat))) none))
 (.eq (T.ret (SVal.int IntKind.i64 x.7) = T.ret (SVal.int IntKind.i64 x.7))

 (.ret (.sb ((↑(x.10.length + 1) : Int) == x.7), [.ro encLook [PUnit.unit], .own [.a (encInt IntKind.u32) n l] 35, .own [.c (.sli 1 (.c 0) 1 (.v n) (some (.v n))), .c (.int .i64 (c + (1 : Int)))] 90, .own [.c (.int .i64 x.1), .c (.int .i64 x.2), .c (.int .i64 x.3), .c (SVal.fn (Fn.func 42) [.ptr 3 0] []), .c (.int .u32 (l.getD (x.1 + (0 : Int)).toNat (0 : Int))), .c (.int .u32 x.5), .c (.lit .i64 (0 : Int)), .c (.int .i64 x.7), .c (.int .i64 x.8), .c .snil, .c (.sli 8 (.c 0) 1 (.v (x.10.length + 1)) none)] 127, .vec (encInt IntKind.u8) x.9 5, .gone, .own [.c (.lit .u32 (4294967295 : Int)), .c (.lit .u32 (0 : Int)), .c (.lit .u32 (0 : Int))] 115, .own [.c (.sl [])] 9, .vec encStr (x.10 ++ [{ data := { toList := [] } }]) 9]))))))))
 (.eq (T.ret (SVal.fn (Fn.func (47 : Nat)) [SVal.ptr (3 : Nat) (0 : Nat)] []) = T.ret (SVal.fn (Fn.func (47 : Nat)) [SVal.ptr (3 : Nat) (0 : Nat)] []))
 (.eq (T.ret (SVal.sli (5 : Nat) (NN.c (0 : Nat)) (1 : Nat) (NN.v x.10.length) none) = T.ret (SVal.sli (5 : Nat) (NN.c (0 : Nat)) (1 : Nat) (NN.v x.10.length) none))
 (.eq (T.ret (SVal.int IntKind.i64 x.7) = T.ret (SVal.int IntKind.i64 x.7))

 (.ret (.sb ((↑x.10.length : Int) == x.7), [.ro encLook [PUnit.unit], .own [.a (encInt IntKind.u32) n l] 35, .own [.c (.sli 1 (.c 0) 1 (.v n) (some (.v n))), .c (.int .i64 (c + (1 : Int)))] 90, .own [.c (.int .i64 x.1), .c (.int .i64 x.2), .c (.int .i64 x.3), .c (SVal.fn (Fn.func 52) [.ptr 3 0] []), .c (.int .u32 (l.getD (x.1 + (0 : Int)).toNat (0 : Int))), .c (.int .u32 x.5), .c (.lit .i64 (0 : Int)), .c (.int .i64 x.7), .c (.int .i64 x.8), .c .snil, .c (.sli 5 (.c 0) 1 (.v x.10.length) none)] 127, .vec (encInt IntKind.u8) x.9 5, .vec encStr x.10 9, .own [.c (.lit .u32 (4294967295 : Int)), .c (.lit .u32 (0 : Int)), .c (.lit .u32 (0 : Int))] 115]))))))))))))))))))) := by kernel_rfl
set_option maxRecDepth 100000 in
theorem rt_b {n : Nat} {l : List Int} {c : Int} {x : Rcv} : callF cfgK 100 25 agS (sR 52 n l c x) =
 

 (.br ((↑x.10.length : Int) == x.7)

 (.ret (.bl true, [.ro encLook [PUnit.unit], .own [.a (encInt IntKind.u32) n l] 35, .own [.c (.sli 1 (.c 0) 1 (.v n) (some (.v n))), .c (.int .i64 c)] 90, .own [.c (.int .i64 x.1), .c (.int .i64 x.2), .c (.int .i64 x.3), .c (SVal.fn (Fn.func 52) [.ptr 3 0] []), .c (.int .u32 x.4), .c (.int .u32 x.5), .c (.int .i64 x.6), .c (.int .i64 x.7), .c (.int .i64 x.8), .c (.sli 4 (.c 0) 1 (.v x.9.length) none), .c (.sli 5 (.c 0) 1 (.v x.10.length) none)] 127, .vec (encInt IntKind.u8) x.9 5, .vec encStr x.10 9]))

 (.eq ([Blk.ro encLook [PUnit.unit]] = [Blk.ro encLook [PUnit.unit]] ∧ RingOk x.2 x.3 ∧ ((-1000000 : Int) ≤ x.1 ∧ x.1 ≤ (1000000 : Int)) ∧ (0 : Int) ≤ x.4 ∧ x.4 < (4294967296 : Int))

 (.need (inR .i64 (x.1 + (2 : Int) + x.4 % x.2 * ((1 : Int) + (x.3 + (3 : Int)) / (4 : Int)) + x.6))

 (.need (true)

 (.need (true)

 (.need (true)

 (.br (decide (x.1 + (2 : Int) + x.4 % x.2 * ((1 : Int) + (x.3 + (3 : Int)) / (4 : Int)) + x.6 < (0 : Int)))
 (.eq (T.ret (SVal.agg [SVal.int IntKind.i64 x.1, SVal.int IntKind.i64 x.2, SVal.int IntKind.i64 x.3]) = T.ret (SVal.agg [SVal.int IntKind.i64 x.1, SVal.int IntKind.i64 x.2, SVal.int IntKind.i64 x.3]))
 (.eq (T.ret (SVal.int IntKind.u32 x.4) = T.ret (SVal.int IntKind.u32 x.4))
 (.eq (T.ret (SVal.int IntKind.i64 x.6) = T.ret (SVal.int IntKind.i64 x.6))
 (.eq (T.ret (SVal.int IntKind.i64 x.6) = T.ret (SVal.int IntKind.i64 x.6))

 (.br (x.6 == (0 : Int))

 (.need (inR .i64 (imin (1 : Int) (IntKind.u32.wrap x.3)))

 (.need (inR .i64 (x.6 + (1 : Int)))

 (.need (inR .i64 (imin (1 : Int) (IntKind.u32.wrap x.3) + (3 : Int)))

 (.need (true)
 (.eq (T.ret (SVal.int IntKind.i64 (x.6 + (1 : Int))) = T.ret (SVal.int IntKind.i64 (x.6 + (1 : Int))))
 (.eq (T.ret (SVal.int IntKind.i64 (x.6 + (1 : Int))) = T.ret (SVal.int IntKind.i64 (x.6 + (1 : Int))))
 (.eq (T.ret (SVal.int IntKind.i64 (imin (1 : Int) (IntKind.u32.wrap x.3))) = T.ret (SVal.int IntKind.i64 (imin (1 : Int) (IntKind.u32.wrap x.3))))

 (.br (decide (IntKind.i64.wrap ((imin (1 : Int) (IntKind.u32.wrap x.3) + (3 : Int)).tdiv (4 : Int)) < x.6 + (1 : Int)))
 (.eq (T.ret (SVal.fn (Fn.func (52 : Nat)) [SVal.ptr (3 : Nat) (0 : Nat)] []) = T.ret (SVal.fn (Fn.func (52 : Nat)) [SVal.ptr (3 : Nat) (0 : Nat)] []))

 (.ret (.bl true, [.ro encLook [PUnit.unit], .own [.a (encInt IntKind.u32) n l] 35, .own [.c (.sli 1 (.c 0) 1 (.v n) (some (.v n))), .c (.int .i64 c)] 90, .own [.c (.int .i64 x.1), .c (.int .i64 x.2), .c (.int .i64 x.3), .c (SVal.fn (Fn.func 57) [.ptr 3 0] []), .c (.int .u32 x.4), .c (.int .u32 x.5), .c (.int .i64 (x.6 + (1 : Int))), .c (.int .i64 x.7), .c (.int .i64 (imin (1 : Int) (IntKind.u32.wrap x.3))), .c (.sli 4 (.c 0) 1 (.v x.9.length) none), .c (.sli 5 (.c 0) 1 (.v x.10.length) none)] 127, .vec (encInt IntKind.u8) x.9 5, .vec encStr x.10 9, .own [.c (.lit .u32 (4294967295 : Int)), .c (.lit .u32 (0 : Int)), .c (.lit .u32 (0 : Int))] 115])))
 (.eq (T.ret (SVal.fn (Fn.func (52 : Nat)) [SVal.ptr (3 : Nat) (0 : Nat)] []) = T.ret (SVal.fn (Fn.func (52 : Nat)) [SVal.ptr (3 : Nat) (0 : Nat)] []))

 (.ret (.bl true, [.ro encLook [PUnit.unit], .own [.a (encInt IntKind.u32) n l] 35, .own [.c (.sli 1 (.c 0) 1 (.v n) (some (.v n))), .c (.int .i64 c)] 90, .own [.c (.int .i64 x.1), .c (.int .i64 x.2), .c (.int .i64 x.3), .c (SVal.fn (Fn.func 52) [.ptr 3 0] []), .c (.int .u32 x.4), .c (.int .u32 x.5), .c (.int .i64 (x.6 + (1 : Int))), .c (.int .i64 x.7), .c (.int .i64 (imin (1 : Int) (IntKind.u32.wrap x.3))), .c (.sli 4 (.c 0) 1 (.v x.9.length) none), .c (.sli 5 (.c 0) 1 (.v x.10.length) none)] 127, .vec (encInt IntKind.u8) x.9 5, .vec encStr x.10 9, .own [.c (.lit .u32 (4294967295 : Int)), .c (.lit .u32 (0 : Int)), .c (.lit .u32 (0 : Int))] 115])))))))))))

 (.need (true)

 (.need (true)

 (.need (true)

 (.need (true)

 (.need (decide (x.9.length = x.9.length))

 (.need (roomy (x.9.length + 4) 1)

 (.need (inR .i64 (x.6 + (1 : Int)))

 (.need (inR .i64 (x.8 + (3 : Int)))

 (.need (true)
 (.eq (T.ret (SVal.int IntKind.i64 (x.6 + (1 : Int))) = T.ret (SVal.int IntKind.i64 (x.6 + (1 : Int))))
 (.eq (T.ret (SVal.int IntKind.i64 (x.6 + (1 : Int))) = T.ret (SVal.int IntKind.i64 (x.6 + (1 : Int))))
 (.eq (T.ret (SVal.int IntKind.i64 x.8) = T.ret (SVal.int IntKind.i64 x.8))

 (.br (decide (IntKind.i64.wrap ((x.8 + (3 : Int)).tdiv (4 : Int)) < x.6 + (1 : Int)))
 (.eq (T.ret (SVal.fn (Fn.func (52 : Nat)) [SVal.ptr (3 : Nat) (0 : Nat)] []) = T.ret (SVal.fn (Fn.func (52 : Nat)) [SVal.ptr (3 : Nat) (0 : Nat)] []))

 (.ret (.bl true, [.ro encLook [PUnit.unit], .own [.a (encInt IntKind.u32) n l] 35, .own [.c (.sli 1 (.c 0) 1 (.v n) (some (.v n))), .c (.int .i64 c)] 90, .own [.c (.int .i64 x.1), .c (.int .i64 x.2), .c (.int .i64 x.3), .c (SVal.fn (Fn.func 57) [.ptr 3 0] []), .c (.int .u32 x.4), .c (.int .u32 x.5), .c (.int .i64 (x.6 + (1 : Int))), .c (.int .i64 x.7), .c (.int .i64 x.8), .c (.sli 8 (.c 0) 1 (.v (x.9.length + 4)) none), .c (.sli 5 (.c 0) 1 (.v x.10.length) none)] 127, .gone, .vec encStr x.10 9, .own [.c (.lit .u32 (4294967295 : Int)), .c (.lit .u32 (0 : Int)), .c (.lit .u32 (0 : Int))] 115, .own [.c (.lit .u8 (0 : Int)), .c (.lit .u8 (0 : Int)), .c (.lit .u8 (0 : Int)), .c (.lit .u8 (0 : Int))] 5, .vec (encInt IntKind.u8) (x.9 ++ [(0 : Int), (0 : Int), (0 : Int), (0 : Int)]) 5])))
 (.eq (T.ret (SVal.fn (Fn.func (52 : Nat)) [SVal.ptr (3 : Nat) (0 : Nat)] []) = T.ret (SVal.fn (Fn.func (52 : Nat)) [SVal.ptr (3 : Nat) (0 : Nat)] []))

 (.ret (.bl true, [.ro encLook [PUnit.unit], .own [.a (encInt IntKind.u32) n l] 35, .own [.c (.sli 1 (.c 0) 1 (.v n) (some (.v n))), .c (.int .i64 c)] 90, .own [.c (.int .i64 x.1), .c (.int .i64 x.2), .c (.int .i64 x.3), .c (SVal.fn (Fn.func 52) [.ptr 3 0] []), .c (.int .u32 x.4), .c (.int .u32 x.5), .c (.int .i64 (x.6 + (1 : Int))), .c (.int .i64 x.7), .c (.int .i64 x.8), .c (.sli 8 (.c 0) 1 (.v (x.9.length + 4)) none), .c (.sli 5 (.c 0) 1 (.v x.10.length) none)] 127, .gone, .vec encStr x.10 9, .own [.c (.lit .u32 (4294967295 : Int)), .c (.lit .u32 (0 : Int)), .c (.lit .u32 (0 : Int))] 115, .own [.c (.lit .u8 (0 : Int)), .c (.lit .u8 (0 : Int)), .c (.lit .u8 (0 : Int)), .c (.lit .u8 (0 : Int))] 5, .vec (encInt IntKind.u8) (x.9 ++ [(0 : Int), (0 : Int), (0 : Int), (0 : Int)]) 5])))))))))))))))))))))

 (.br (decide ((↑n : Int) ≤ x.1 + (2 : Int) + x.4 % x.2 * ((1 : Int) + (x.3 + (3 : Int)) / (4 : Int)) + x.6))
 (.eq (T.ret (SVal.agg [SVal.int IntKind.i64 x.1, SVal.int IntKind.i64 x.2, SVal.int IntKind.i64 x.3]) = T.ret (SVal.agg [SVal.int IntKind.i64 x.1, SVal.int IntKind.i64 x.2, SVal.int IntKind.i64 x.3]))
 (.eq (T.ret (SVal.int IntKind.u32 x.4) = T.ret (SVal.int IntKind.u32 x.4))
 (.eq (T.ret (SVal.int IntKind.i64 x.6) = T.ret (SVal.int IntKind.i64 x.6))
 (.eq (T.ret (SVal.int IntKind.i64 x.6) = T.ret (SVal.int IntKind.i64 x.6))

 (.br (x.6 == (0 : Int))

 (.need (inR .i64 (imin (1 : Int) (IntKind.u32.wrap x.3)))

 (.need (inR .i64 (x.6 + (1 : Int)))

 (.need (inR .i64 (imin (1 : Int) (IntKind.u32.wrap x.3) + (3 : Int)))

 (.need (true)
 (.eq (T.ret (SVal.int IntKind.i64 (x.6 + (1 : Int))) = T.ret (SVal.int IntKind.i64 (x.6 + (1 : Int))))
 (.eq (T.ret (SVal.int IntKind.i64 (x.6 + (1 : Int))) = T.ret (SVal.int IntKind.i64 (x.6 + (1 : Int))))
 (.eq (T.ret (SVal.int IntKind.i64 (imin (1 : Int) (IntKind.u32.wrap x.3))) = T.ret (SVal.int IntKind.i64 (imin (1 : Int) (IntKind.u32.wrap x.3))))

 (.br (decide (IntKind.i64.wrap ((imin (1 : Int) (IntKind.u32.wrap x.3) + (3 : Int)).tdiv (4 : Int)) < x.6 + (1 : Int)))
 (.eq (T.ret (SVal.fn (Fn.func (52 : Nat)) [SVal.ptr (3 : Nat) (0 : Nat)] []) = T.ret (SVal.fn (Fn.func (52 : Nat)) [SVal.ptr (3 : Nat) (0 : Nat)] []))

 (.ret (.bl true, [.ro encLook [PUnit.unit], .own [.a (encInt IntKind.u32) n l] 35, .own [.c (.sli 1 (.c 0) 1 (.v n) (some (.v n))), .c (.int .i64 c)] 90, .own [.c (.int .i64 x.1), .c (.int .i64 x.2), .c (.int .i64 x.3), .c (SVal.fn (Fn.func 57) [.ptr 3 0] []), .c (.int .u32 x.4), .c (.int .u32 x.5), .c (.int .i64 (x.6 + (1 : Int))), .c (.int .i64 x.7), .c (.int .i64 (imin (1 : Int) (IntKind.u32.wrap x.3))), .c (.sli 4 (.c 0) 1 (.v x.9.length) none), .c (.sli 5 (.c 0) 1 (.v x.10.length) none)] 127, .vec (encInt IntKind.u8) x.9 5, .vec encStr x.10 9, .own [.c (.lit .u32 (4294967295 : Int)), .c (.lit .u32 (0 : Int)), .c (.lit .u32 (0 : Int))] 115])))
 (.eq (T.ret (SVal.fn (Fn.func (52 : Nat)) [SVal.ptr (3 : Nat) (0 : Nat)] []) = T.ret (SVal.fn (Fn.func (52 : Nat)) [SVal.ptr (3 : Nat) (0 : Nat)] []))

 (.ret (.bl true, [.ro encLook [PUnit.unit], .own [.a (encInt IntKind.u32) n l] 35, .own [.c (.sli 1 (.c 0) 1 (.v n) (some (.v n))), .c (.int .i64 c)] 90, .own [.c (.int .i64 x.1), .c (.int .i64 x.2), .c (.int .i64 x.3), .c (SVal.fn (Fn.func 52) [.ptr 3 0] []), .c (.int .u32 x.4), .c (.int .u32 x.5), .c (.int .i64 (x.6 + (1 : Int))), .c (.int .i64 x.7), .c (.int .i64 (imin (1 : Int) (IntKind.u32.wrap x.3))), .c (.sli 4 (.c 0) 1 (.v x.9.length) none), .c (.sli 5 (.c 0) 1 (.v x.10.length) none)] 127, .vec (encInt IntKind.u8) x.9 5, .vec encStr x.10 9, .own [.c (.lit .u32 (4294967295 : Int)), .c (.lit .u32 (0 : Int)), .c (.lit .u32 (0 : Int))] 115])))))))))))

 (.need (true)

 (.need (true)

 (.need (true)

 (.need (true)

 (.need (decide (x.9.length = x.9.length))

 (.need (roomy (x.9.length + 4) 1)

 (.need (inR .i64 (x.6 + (1 : Int)))

 (.need (inR .i64 (x.8 + (3 : Int)))

 (.need (true)
 (.eq (T.ret (SVal.int IntKind.i64 (x.6 + (1 : Int))) = T.ret (SVal.int IntKind.i64 (x.6 + (1 : Int))))
 (.eq (T.ret (SVal.int IntKind.i64 (x.6 + (1 : Int))) = T.ret (SVal.int IntKind.i64 (x.6 + (1 : Int))))
 (.eq (T.ret (SVal.int IntKind.i64 x.8) = T.ret (SVal.int IntKind.i64 x.8))

 (.br (decide (IntKind.i64.wrap ((x.8 + (3 : Int)).tdiv (4 : Int)) < x.6 + (1 : Int)))
 (.eq (T.ret (SVal.fn (Fn.func (52 : Nat)) [SVal.ptr (3 : Nat) (0 : Nat)] []) = T.ret (SVal.fn (Fn.func (52 : Nat)) [SVal.ptr (3 : Nat) (0 : Nat)] []))

 (.ret (.bl true, [.ro encLook [PUnit.unit], .own [.a (encInt IntKind.u32) n l] 35, .own [.c (.sli 1 (.c 0) 1 (.v n) (some (.v n))), .c (.int .i64 c)] 90, .own [.c (.int .i64 x.1), .c (.int .i64 x.2), .c (.int .i64 x.3), .c (SVal.fn (Fn.func 57) [.ptr 3 0] []), .c (.int .u32 x.4), .c (.int .u32 x.5), .c (.int .i64 (x.6 + (1 : Int))), .c (.int .i64 x.7), .c (.int .i64 x.8), .c (.sli 8 (.c 0) 1 (.v (x.9.length + 4)) none), .c (.sli 5 (.c 0) 1 (.v x.10.length) none)] 127, .gone, .vec encStr x.10 9, .own [.c (.lit .u32 (4294967295 : Int)), .c (.lit .u32 (0 : Int)), .c (.lit .u32 (0 : Int))] 115, .own [.c (.lit .u8 (0 : Int)), .c (.lit .u8 (0 : Int)), .c (.lit .u8 (0 : Int)), .c (.lit .u8 (0 : Int))] 5, .vec (encInt IntKind.u8) (x.9 ++ [(0 : Int), (0 : Int), (0 : Int), (0 : Int)]) 5])))
 (.eq (T.ret (SVal.fn (Fn.func (52 : Nat)) [SVal.ptr (3 : Nat) (0 : Nat)] []) = T.ret (SVal.fn (Fn.func (52 : Nat)) [SVal.ptr (3 : Nat) (0 : Nat)] []))

 (.ret (.bl true, [.ro encLook [PUnit.unit], .own [.a (encInt IntKind.u32) n l] 35, .own [.c (.sli 1 (.c 0) 1 (.v n) (some (.v n))), .c (.int .i64 c)] 90, .own [.c (.int .i64 x.1), .c (.int .i64 x.2), .c (.int .i64 x.3), .c (SVal.fn (Fn.func 52) [.ptr 3 0] []), .c (.int .u32 x.4), .c (.int .u32 x.5), .c (.int .i64 (x.6 + (1 : Int))), .c (.int .i64 x.7), .c (.int .i64 x.8), .c (.sli 8 (.c 0) 1 (.v (x.9.length + 4)) none), .c (.sli 5 (.c 0) 1 (.v x.10.length) none)] 127, .gone, .vec encStr x.10 9, .own [.c (.lit .u32 (4294967295 : Int)), .c (.lit .u32 (0 : Int)), .c (.lit .u32 (0 : Int))] 115, .own [.c (.lit .u8 (0 : Int)), .c (.lit .u8 (0 : Int)), .c (.lit .u8 (0 : Int)), .c (.lit .u8 (0 : Int))] 5, .vec (encInt IntKind.u8) (x.9 ++ [(0 : Int), (0 : Int), (0 : Int), (0 : Int)]) 5])))))))))))))))))))))

 (.need (inR .i64 (c + (1 : Int)))

 (.need (decide ((0 : Int) ≤ x.1 + (2 : Int) + x.4 % x.2 * ((1 : Int) + (x.3 + (3 : Int)) / (4 : Int)) + x.6) && decide ((x.1 + (2 : Int) + x.4 % x.2 * ((1 : Int) + (x.3 + (3 : Int)) / (4 : Int)) + x.6).toNat < n))

 (.need (decide ((x.1 + (2 : Int) + x.4 % x.2 * ((1 : Int) + (x.3 + (3 : Int)) / (4 : Int)) + x.6).toNat < n))

 (.need (true)

 (.need (true)

 (.need (true)
 (.eq (T.ret (SVal.agg [SVal.int IntKind.i64 x.1, SVal.int IntKind.i64 x.2, SVal.int IntKind.i64 x.3]) = T.ret (SVal.agg [SVal.int IntKind.i64 x.1, SVal.int IntKind.i64 x.2, SVal.int IntKind.i64 x.3]))
 (.eq (T.ret (SVal.int IntKind.u32 x.4) = T.ret (SVal.int IntKind.u32 x.4))
 (.eq (T.ret (SVal.int IntKind.i64 x.6) = T.ret (SVal.int IntKind.i64 x.6))
 (.eq (T.ret (SVal.int IntKind.i64 x.6) = T.ret (SVal.int IntKind.i64 x.6))

 (.br (x.6 == (0 : Int))

 (.need (inR .i64 (imin (imax (l.getD (x.1 + (2 : Int) + x.4 % x.2 * ((1 : Int) + (x.3 + (3 : Int)) / (4 : Int)) + x.6).toNat (0 : Int)) (1 : Int)) (IntKind.u32.wrap x.3)))

 (.need (inR .i64 (x.6 + (1 : Int)))

 (.need (inR .i64 (imin (imax (l.getD (x.1 + (2 : Int) + x.4 % x.2 * ((1 : Int) + (x.3 + (3 : Int)) / (4 : Int)) + x.6).toNat (0 : Int)) (1 : Int)) (IntKind.u32.wrap x.3) + (3 : Int)))

 (.need (true)
 (.eq (T.ret (SVal.int IntKind.i64 (x.6 + (1 : Int))) = T.ret (SVal.int IntKind.i64 (x.6 + (1 : Int))))
 (.eq (T.ret (SVal.int IntKind.i64 (x.6 + (1 : Int))) = T.ret (SVal.int IntKind.i64 (x.6 + (1 : Int))))
 (.eq (T.ret (SVal.int IntKind.i64 (imin (imax (l.getD (x.1 + (2 : Int) + x.4 % x.2 * ((1 : Int) + (x.3 + (3 : Int)) / (4 : Int)) + x.6).toNat (0 : Int)) (1 : Int)) (IntKind.u32.wrap x.3))) = T.ret (SVal.int IntKind.i64 (imin (imax (l.getD (x.1 + (2 : Int) + x.4 % x.2 * ((1 : Int) + (x.3 + (3 : Int)) / (4 : Int)) + x.6).toNat (0 : Int)) (1 : Int)) (IntKind.u32.wrap x.3))))

 (.br (decide (IntKind.i64.wrap ((imin (imax (l.getD (x.1 + (2 : Int) + x.4 % x.2 * ((1 : Int) + (x.3 + (3 : Int)) / (4 : Int)) + x.6).toNat (0 : Int)) (1 : Int)) (IntKind.u32.wrap x.3) + (3 : Int)).tdiv (4 : Int)) < x.6 + (1 : Int)))
 (.eq (T.ret (SVal.fn (Fn.func (52 : Nat)) [SVal.ptr (3 : Nat) (0 : Nat)] []) = T.ret (SVal.fn (Fn.func (52 : Nat)) [SVal.ptr (3 : Nat) (0 : Nat)] []))
 (.eq (T.ret (SVal.sli (5 : Nat) (NN.c (0 : Nat)) (1 : Nat) (NN.v x.10.length) none) = T.ret (SVal.sli (5 : Nat) (NN.c (0 : Nat)) (1 : Nat) (NN.v x.10.length) none))
 (.eq (T.ret (SVal.int IntKind.i64 x.7) = T.ret (SVal.int IntKind.i64 x.7))

 (.ret (.sb ((↑x.10.length : Int) == x.7), [.ro encLook [PUnit.unit], .own [.a (encInt IntKind.u32) n l] 35, .own [.c (.sli 1 (.c 0) 1 (.v n) (some (.v n))), .c (.int .i64 (c + (1 : Int)))] 90, .own [.c (.int .i64 x.1), .c (.int .i64 x.2), .c (.int .i64 x.3), .c (SVal.fn (Fn.func 57) [.ptr 3 0] []), .c (.int .u32 x.4), .c (.int .u32 x.5), .c (.int .i64 (x.6 + (1 : Int))), .c (.int .i64 x.7), .c (.int .i64 (imin (imax (l.getD (x.1 + (2 : Int) + x.4 % x.2 * ((1 : Int) + (x.3 + (3 : Int)) / (4 : Int)) + x.6).toNat (0 : Int)) (1 : Int)) (IntKind.u32.wrap x.3))), .c (.sli 4 (.c 0) 1 (.v x.9.length) none), .c (.sli 5 (.c 0) 1 (.v x.10.length) none)] 127, .vec (encInt IntKind.u8) x.9 5, .vec encStr x.10 9, .own [.c (.lit .u32 (4294967295 : Int)), .c (.lit .u32 (0 : Int)), .c (.lit .u32 (0 : Int))] 115])))))
 (.eq (T.ret (SVal.fn (Fn.func (52 : Nat)) [SVal.ptr (3 : Nat) (0 : Nat)] []) = T.ret (SVal.fn (Fn.func (52 : Nat)) [SVal.ptr (3 : Nat) (0 : Nat)] []))
 (.eq (T.ret (SVal.sli (5 : Nat) (NN.c (0 : Nat)) (1 : Nat) (NN.v x.10.length) none) = T.ret (SVal.sli (5 : Nat) (NN.c (0 : Nat)) (1 : Nat) (NN.v x.10.length) none))
 (.eq (T.ret (SVal.int IntKind.i64 x.7) = T.ret (SVal.int IntKind.i64 x.7))

 (.ret (.sb ((↑x.10.length : Int) == x.7), [.ro encLook [PUnit.unit], .own [.a (encInt IntKind.u32) n l] 35, .own [.c (.sli 1 (.c 0) 1 (.v n) (some (.v n))), .c (.int .i64 (c + (1 : Int)))] 90, .own [.c (.int .i64 x.1), .c (.int .i64 x.2), .c (.int .i64 x.3), .c (SVal.fn (Fn.func 52) [.ptr 3 0] []), .c (.int .u32 x.4), .c (.int .u32 x.5), .c (.int .i64 (x.6 + (1 : Int))), .c (.int .i64 x.7), .c (.int .i64 (imin (imax (l.getD (x.1 + (2 : Int) + x.4 % x.2 * ((1 : Int) + (x.3 + (3 : Int)) / (4 : Int)) + x.6).toNat (0 : Int)) (1 : Int)) (IntKind.u32.wrap x.3))), .c (.sli 4 (.c 0) 1 (.v x.9.length) none), .c (.sli 5 (.c 0) 1 (.v x.10.length) none)] 127, .vec (encInt IntKind.u8) x.9 5, .vec encStr x.10 9, .own [.c (.lit .u32 (4294967295 : Int)), .c (.lit .u32 (0 : Int)), .c (.lit .u32 (0 : Int))] 115])))))))))))))

 (.need (true)

 (.need (true)

 (.need (true)

 (.need (true)

 (.need (decide (x.9.length = x.9.length))

 (.need (roomy (x.9.length + 4) 1)

 (.need (inR .i64 (x.6 + (1 : Int)))

 (.need (inR .i64 (x.8 + (3 : Int)))

 (.need (true)
 (.eq (T.ret (SVal.int IntKind.i64 (x.6 + (1 : Int))) = T.ret (SVal.int IntKind.i64 (x.6 + (1 : Int))))
 (.eq (T.ret (SVal.int IntKind.i64 (x.6 + (1 : Int))) = T.ret (SVal.int IntKind.i64 (x.6 + (1 : Int))))
 (.eq (T.ret (SVal.int IntKind.i64 x.8) = T.ret (SVal.int IntKind.i64 x.8))

 (.br (decide (IntKind.i64.wrap ((x.8 + (3 : Int)).tdiv (4 : Int)) < x.6 + (1 : Int)))
 (.eq (T.ret (SVal.fn (Fn.func (52 : Nat)) [SVal.ptr (3 : Nat) (0 : Nat)] []) = T.ret (SVal.fn (Fn.func (52 : Nat)) [SVal.ptr (3 : Nat) (0 : Nat)] []))
 (.eq (T.ret (SVal.sli (5 : Nat) (NN.c (0 : Nat)) (1 : Nat) (NN.v x.10.length) none) = T.ret (SVal.sli (5 : Nat) (NN.c (0 : Nat)) (1 : Nat) (NN.v x.10.length) none))
 (.eq (T.ret (SVal.int IntKind.i64 x.7) = T.ret (SVal.int IntKind.i64 x.7))

 (.ret (.sb ((↑x.10.length : Int) == x.7), [.ro encLook [PUnit.unit], .own [.a (encInt IntKind.u32) n l] 35, .own [.c (.sli 1 (.c 0) 1 (.v n) (some (.v n))), .c (.int .i64 (c + (1 : Int)))] 90, .own [.c (.int .i64 x.1), .c (.int .i64 x.2), .c (.int .i64 x.3), .c (SVal.fn (Fn.func 57) [.ptr 3 0] []), .c (.int .u32 x.4), .c (.int .u32 x.5), .c (.int .i64 (x.6 + (1 : Int))), .c (.int .i64 x.7), .c (.int .i64 x.8), .c (.sli 8 (.c 0) 1 (.v (x.9.length + 4)) none), .c (.sli 5 (.c 0) 1 (.v x.10.length) none)] 127, .gone, .vec encStr x.10 9, .own [.c (.lit .u32 (4294967295 : Int)), .c (.lit .u32 (0 : Int)), .c (.lit .u32 (0 : Int))] 115, .own [.c (.int .u8 (IntKind.u8.wrap ((l.getD (x.1 + (2 : Int) + x.4 % x.2 * ((1 : Int) + (x.3 + (3 : Int)) / (4 : Int)) + x.6).toNat (0 : Int)).fdiv (16777216 : Int)))), .c (.int .u8 (IntKind.u8.wrap ((l.getD (x.1 + (2 : Int) + x.4 % x.2 * ((1 : Int) + (x.3 + (3 : Int)) / (4 : Int)) + x.6).toNat (0 : Int)).fdiv (65536 : Int)))), .c (.int .u8 (IntKind.u8.wrap ((l.getD (x.1 + (2 : Int) + x.4 % x.2 * ((1 : Int) + (x.3 + (3 : Int)) / (4 : Int)) + x.6).toNat (0 : Int)).fdiv (256 : Int)))), .c (.int .u8 (IntKind.u8.wrap (l.getD (x.1 + (2 : Int) + x.4 % x.2 * ((1 : Int) + (x.3 + (3 : Int)) / (4 : Int)) + x.6).toNat (0 : Int))))] 5, .vec (encInt IntKind.u8) (x.9 ++ [IntKind.u8.wrap ((l.getD (x.1 + (2 : Int) + x.4 % x.2 * ((1 : Int) + (x.3 + (3 : Int)) / (4 : Int)) + x.6).toNat (0 : Int)).fdiv (16777216 : Int)), IntKind.u8.wrap ((l.getD (x.1 + (2 : Int) + x.4 % x.2 * ((1 : Int) + (x.3 + (3 : Int)) / (4 : Int)) + x.6).toNat (0 : Int)).fdiv (65536 : Int)), IntKind.u8.wrap ((l.getD (x.1 + (2 : Int) + x.4 % x.2 * ((1 : Int) + (x.3 + (3 : Int)) / (4 : Int)) + x.6).toNat (0 : Int)).fdiv (256 : Int)), IntKind.u8.wrap (l.getD (x.1 + (2 : Int) + x.4 % x.2 * ((1 : Int) + (x.3 + (3 : Int)) / (4 : Int)) + x.6).toNat (0 : Int))]) 5])))))
 (.eq (T.ret (SVal.fn (Fn.func (52 : Nat)) [SVal.ptr (3 : Nat) (0 : Nat)] []) = T.ret (SVal.fn (Fn.func (52 : Nat)) [SVal.ptr (3 : Nat) (0 : Nat)] []))
 (.eq (T.ret (SVal.sli (5 : Nat) (NN.c (0 : Nat)) (1 : Nat) (NN.v x.10.length) none) = T.ret (SVal.sli (5 : Nat) (NN.c (0 : Nat)) (1 : Nat) (NN.v x.10.length) none))
 (.eq (T.ret (SVal.int IntKind.i64 x.7) = T.ret (SVal.int IntKind.i64 x.7))

 (.ret (.sb ((↑x.10.length : Int) == x.7), [.ro encLook [PUnit.unit], .own [.a (encInt IntKind.u32) n l] 35, .own [.c (.sli 1 (.c 0) 1 (.v n) (some (.v n))), .c (.int .i64 (c + (1 : Int)))] 90, .own [.c (.int .i64 x.1), .c (.int .i64 x.2), .c (.int .i64 x.3), .c (SVal.fn (Fn.func 52) [.ptr 3 0] []), .c (.int .u32 x.4), .c (.int .u32 x.5), .c (.int .i64 (x.6 + (1 : Int))), .c (.int .i64 x.7), .c (.int .i64 x.8), .c (.sli 8 (.c 0) 1 (.v (x.9.length + 4)) none), .c (.sli 5 (.c 0) 1 (.v x.10.length) none)] 127, .gone, .vec encStr x.10 9, .own [.c (.lit .u32 (4294967295 : Int)), .c (.lit .u32 (0 : Int)), .c (.lit .u32 (0 : Int))] 115, .own [.c (.int .u8 (IntKind.u8.wrap ((l.getD (x.1 + (2 : Int) + x.4 % x.2 * ((1 : Int) + (x.3 + (3 : Int)) / (4 : Int)) + x.6).toNat (0 : Int)).fdiv (16777216 : Int)))), .c (.int .u8 (IntKind.u8.wrap ((l.getD (x.1 + (2 : Int) + x.4 % x.2 * ((1 : Int) + (x.3 + (3 : Int)) / (4 : Int)) + x.6).toNat (0 : Int)).fdiv (65536 : Int)))), .c (.int .u8 (IntKind.u8.wrap ((l.getD (x.1 + (2 : Int) + x.4 % x.2 * ((1 : Int) + (x.3 + (3 : Int)) / (4 : Int)) + x.6).toNat (0 : Int)).fdiv (256 : Int)))), .c (.int .u8 (IntKind.u8.wrap (l.getD (x.1 + (2 : Int) + x.4 % x.2 * ((1 : Int) + (x.3 + (3 : Int)) / (4 : Int)) + x.6).toNat (0 : Int))))] 5, .vec (encInt IntKind.u8) (x.9 ++ [IntKind.u8.wrap ((l.getD (x.1 + (2 : Int) + x.4 % x.2 * ((1 : Int) + (x.3 + (3 : Int)) / (4 : Int)) + x.6).toNat (0 : Int)).fdiv (16777216 : Int)), IntKind.u8.wrap ((l.getD (x.1 + (2 : Int) + x.4 % x.2 * ((1 : Int) + (x.3 + (3 : Int)) / (4 : Int)) + x.6).toNat (0 : Int)).fdiv (65536 : Int)), IntKind.u8.wrap ((l.getD (x.1 + (2 : Int) + x.4 % x.2 * ((1 : Int) + (x.3 + (3 : Int)) / (4 : Int)) + x.6).toNat (0 : Int)).fdiv (256 : Int)), IntKind.u8.wrap (l.getD (x.1 + (2 : Int) + x.4 % x.2 * ((1 : Int) + (x.3 + (3 : Int)) / (4 : Int)) + x.6).toNat (0 : Int))]) 5]))))))))))))))))))))))))))))))))))))) := by kernel_rfl
set_option maxRecDepth 100000 in
theorem re_b {n : Nat} {l : List Int} {c : Int} {x : Rcv} : callF cfgK 100 25 agS (sR 57 n l c x) =
 

 (.br ((↑x.10.length : Int) == x.7)

 (.ret (.bl true, [.ro encLook [PUnit.unit], .own [.a (encInt IntKind.u32) n l] 35, .own [.c (.sli 1 (.c 0) 1 (.v n) (some (.v n))), .c (.int .i64 c)] 90, .own [.c (.int .i64 x.1), .c (.int .i64 x.2), .c (.int .i64 x.3), .c (SVal.fn (Fn.func 57) [.ptr 3 0] []), .c (.int .u32 x.4), .c (.int .u32 x.5), .c (.int .i64 x.6), .c (.int .i64 x.7), .c (.int .i64 x.8), .c (.sli 4 (.c 0) 1 (.v x.9.length) none), .c (.sli 5 (.c 0) 1 (.v x.10.length) none)] 127, .vec (encInt IntKind.u8) x.9 5, .vec encStr x.10 9]))

 (.need (inR .i64 (x.1 + (0 : Int)))

 (.br (decide (x.1 + (0 : Int) < (0 : Int)))
 (.eq (T.ret (SVal.int IntKind.i64 x.1) = T.ret (SVal.int IntKind.i64 x.1))
 (.eq (T.ret (SVal.int IntKind.u32 x.4) = T.ret (SVal.int IntKind.u32 x.4))
 (.eq (T.ret (SVal.fn (Fn.func (57 : Nat)) [SVal.ptr (3 : Nat) (0 : Nat)] []) = T.ret (SVal.fn (Fn.func (57 : Nat)) [SVal.ptr (3 : Nat) (0 : Nat)] []))

 (.ret (.bl true, [.ro encLook [PUnit.unit], .own [.a (encInt IntKind.u32) n l] 35, .own [.c (.sli 1 (.c 0) 1 (.v n) (some (.v n))), .c (.int .i64 c)] 90, .own [.c (.int .i64 x.1), .c (.int .i64 x.2), .c (.int .i64 x.3), .c (SVal.fn (Fn.func 57) [.ptr 3 0] []), .c (.int .u32 x.4), .c (.int .u32 x.5), .c (.int .i64 x.6), .c (.int .i64 x.7), .c (.int .i64 x.8), .c (.sli 4 (.c 0) 1 (.v x.9.length) none), .c (.sli 5 (.c 0) 1 (.v x.10.length) none)] 127, .vec (encInt IntKind.u8) x.9 5, .vec encStr x.10 9, .own [.c (.lit .u32 (0 : Int)), .c (.int .u32 (IntKind.u32.wrap (x.4 + (1 : Int)))), .c (.lit .u32 (0 : Int))] 115])))))

 (.br (decide ((↑n : Int) ≤ x.1 + (0 : Int)))
 (.eq (T.ret (SVal.int IntKind.i64 x.1) = T.ret (SVal.int IntKind.i64 x.1))
 (.eq (T.ret (SVal.int IntKind.u32 x.4) = T.ret (SVal.int IntKind.u32 x.4))
 (.eq (T.ret (SVal.fn (Fn.func (57 : Nat)) [SVal.ptr (3 : Nat) (0 : Nat)] []) = T.ret (SVal.fn (Fn.func (57 : Nat)) [SVal.ptr (3 : Nat) (0 : Nat)] []))

 (.ret (.bl true, [.ro encLook [PUnit.unit], .own [.a (encInt IntKind.u32) n l] 35, .own [.c (.sli 1 (.c 0) 1 (.v n) (some (.v n))), .c (.int .i64 c)] 90, .own [.c (.int .i64 x.1), .c (.int .i64 x.2), .c (.int .i64 x.3), .c (SVal.fn (Fn.func 57) [.ptr 3 0] []), .c (.int .u32 x.4), .c (.int .u32 x.5), .c (.int .i64 x.6), .c (.int .i64 x.7), .c (.int .i64 x.8), .c (.sli 4 (.c 0) 1 (.v x.9.length) none), .c (.sli 5 (.c 0) 1 (.v x.10.length) none)] 127, .vec (encInt IntKind.u8) x.9 5, .vec encStr x.10 9, .own [.c (.lit .u32 (0 : Int)), .c (.int .u32 (IntKind.u32.wrap (x.4 + (1 : Int)))), .c (.lit .u32 (0 : Int))] 115])))))

 (.need (inR .i64 (c + (1 : Int)))

 (.need (decide ((0 : Int) ≤ x.1 + (0 : Int)) && decide ((x.1 + (0 : Int)).toNat < n))

 (.need (decide ((x.1 + (0 : Int)).toNat < n))

 (.need (true)

 (.need (true)

 (.need (true)

 (.need (decide ((0 : Int) ≤ x.1 + (0 : Int)) && decide ((x.1 + (0 : Int)).toNat < n))

 (.need (decide ((x.1 + (0 : Int)).toNat < n))
 (.eq (T.ret (SVal.sli (1 : Nat) (NN.c (0 : Nat)) (1 : Nat) (NN.v n) (some (NN.v n))) = T.ret (SVal.sli (1 : Nat) (NN.c (0 : Nat)) (1 : Nat) (NN.v n) (some (NN.v n))))
 (.eq (T.ret (SVal.int IntKind.u32 (IntKind.u32.wrap (x.4 + (1 : Int)))) = T.ret (SVal.int IntKind.u32 (IntKind.u32.wrap (x.4 + (1 : Int)))))

 (.need (decide ((0 : Int) ≤ x.1 + (0 : Int)) && decide ((x.1 + (0 : Int)).toNat < n))

 (.need (decide ((x.1 + (0 : Int)).toNat < n))

 (.need (decide ((0 : Int) ≤ x.1 + (0 : Int)) && decide ((x.1 + (0 : Int)).toNat < n))

 (.need (decide ((x.1 + (0 : Int)).toNat < n))
 (.eq (T.ret (SVal.sli (1 : Nat) (NN.c (0 : Nat)) (1 : Nat) (NN.v n) (some (NN.v n))) = T.ret (SVal.sli (1 : Nat) (NN.c (0 : Nat)) (1 : Nat) (NN.v n) (some (NN.v n))))
 (.eq (T.need (decide ((x.1 + (0 : Int)).toNat < n)) (T.ret ([SVal.int IntKind.u32 ((l.set (x.1 + (0 : Int)).toNat (bitop BinOp.or IntKind.u32 (bitop BinOp.and IntKind.u32 (l.getD (x.1 + (0 : Int)).toNat (0 : Int)) (0 : Int)) (IntKind.u32.wrap (x.4 + (1 : Int))))).getD (x.1 + (0 : Int)).toNat (0 : Int))].getD (0 : Nat) SVal.bad)) = T.need (decide ((x.1 + (0 : Int)).toNat < n)) (T.ret ([SVal.int IntKind.u32 ((l.set (x.1 + (0 : Int)).toNat (bitop BinOp.or IntKind.u32 (bitop BinOp.and IntKind.u32 (l.getD (x.1 + (0 : Int)).toNat (0 : Int)) (0 : Int)) (IntKind.u32.wrap (x.4 + (1 : Int))))).getD (x.1 + (0 : Int)).toNat (0 : Int))].getD (0 : Nat) SVal.bad)))
 (.eq (T.ret (SVal.int IntKind.i64 x.1) = T.ret (SVal.int IntKind.i64 x.1))
 (.eq (T.ret (SVal.int IntKind.u32 x.4) = T.ret (SVal.int IntKind.u32 x.4))

 (.need (decide ((0 : Int) ≤ x.8) && decide (x.8.toNat ≤ x.9.length))

 (.need (decide (0 ≤ x.8.toNat))

 (.need (decide (0 + x.8.toNat ≤ x.9.length))

 (.need ((List.flatMap (encInt IntKind.u8).enc (List.take x.8.toNat (List.drop 0 x.9))).all Sx.isU8)

 (.need (true)

 (.need (decide (x.10.length = x.10.length))

 (.need (roomy (x.10.length + 1) 16)
 (.eq (T.ret (SVal.sli (4 : Nat) (NN.c (0 : Nat)) (1 : Nat) (NN.v x.9.length) none) = T.ret (SVal.sli (4 : Nat) (NN.c (0 : Nat)) (1 : Nat) (NN.v x.9.length) none))
 (.eq (T.ret (SVal.int IntKind.i64 x.8) = T.ret (SVal.int IntKind.i64 x.8))
 (.eq (T.ret (SVal.fn (Fn.func (57 : Nat)) [SVal.ptr (3 : Nat) (0 : Nat)] []) = T.ret (SVal.fn (Fn.func (57 : Nat)) [SVal.ptr (3 : Nat) (0 : Nat)] []))
 (.eq (T.ret (SVal.sli (8 : Nat) (NN.c (0 : Nat)) (1 : Nat) (NN.v (x.10.length + (1 : Nat))) none) = T.ret (SVal.sli (8 : Nat) (NN.c (0 : Nat)) (1 : Nat) (NN.v (x.10.length + (1 : Nat))) none))
 (.eq (T.ret (SVal.int IntKind.i64 x.7) = T.ret (SVal.int IntKind.i64 x.7))

 (.ret (.sb ((↑(x.10.length + 1) : Int) == x.7), [.ro encLook [PUnit.unit], .own [.a (encInt IntKind.u32) n ((l.set (x.1 + (0 : Int)).toNat (bitop BinOp.or IntKind.u32 (bitop BinOp.and IntKind.u32 (l.getD (x.1 + (0 : Int)).toNat (0 : Int)) (0 : Int)) (IntKind.u32.wrap (x.4 + (1 : Int))))).set (x.1 + (0 : Int)).toNat (IntKind.u32.wrap ((l.set (x.1 + (0 : Int)).toNat (bitop BinOp.or IntKind.u32 (bitop BinOp.and IntKind.u32 (l.getD (x.1 + (0 : Int)).toNat (0 : Int)) (0 : Int)) (IntKind.u32.wrap (x.4 + (1 : Int))))).getD (x.1 + (0 : Int)).toNat (0 : Int) + (0 : Int))))] 35, .own [.c (.sli 1 (.c 0) 1 (.v n) (some (.v n))), .c (.int .i64 (c + (1 : Int)))] 90, .own [.c (.int .i64 x.1), .c (.int .i64 x.2), .c (.int .i64 x.3), .c (SVal.fn (Fn.func 42) [.ptr 3 0] []), .c (.int .u32 x.4), .c (.int .u32 x.5), .c (.int .i64 x.6), .c (.int .i64 x.7), .c (.int .i64 x.8), .c (.sli 4 (.c 0) 1 (.v x.9.length) none), .c (.sli 8 (.c 0) 1 (.v (x.10.length + 1)) none)] 127, .vec (encInt IntKind.u8) x.9 5, .gone, .own [.c (.lit .u32 (0 : Int)), .c (.int .u32 (IntKind.u32.wrap (x.4 + (1 : Int)))), .c (.lit .u32 (0 : Int))] 115, .own [.c (.str (strI (List.take x.8.toNat (List.drop 0 x.9))))] 9, .vec encStr (x.10 ++ [(strI (List.take x.8.toNat (List.drop 0 x.9)))]) 9])))))))))))))))))))))))))))))))))))) := by kernel_rfl
end Go.Proofs.YtdadfgeepinpbaaDoor

/- Layer 19: a sender's step. -/
namespace Go.Proofs.YtdadfgeepinpbaaDoor
open Go Go.Proofs.YtdadfgeepinpbaaDoor.Sx
set_option linter.unusedVariables false
theorem and_zero (x : Int) : bitop .and .u32 x 0 = 0 := by
  have h1 : low .u32 0 = 0 := by decide
  simp only [bitop, h1, Nat.and_zero, w32_mod]
  rfl
theorem zero_or (x : Int) : bitop .or .u32 0 x = x % 4294967296 := by
  have h1 : low .u32 0 = 0 := by decide
  simp only [bitop, h1, Nat.zero_or, w32_mod, low_u32]
  omega
theorem raw_set (x v : Int) : IntKind.u32.wrap (bitop .or .u32 (bitop .and .u32 x 0) v + 0) = v % 4294967296 := by
  simp only [and_zero, zero_or, w32_mod]; omega
theorem all_brn.{u} {α : Type u} {Q : α → Prop} {b : Bool} {p : Prop} {t f : T α} (hb : b = true ↔ p) (hp : ¬ p) (h : All Q f) : All Q (T.br b t f) := all_brp hb (fun h => absurd h hp) (fun _ => h)
def U32s (l : List Int) : Prop := ∀ x ∈ l, 0 ≤ x ∧ x < 4294967296
theorem u32s_getD {l : List Int} (h : U32s l) (i : Nat) : 0 ≤ l.getD i 0 ∧ l.getD i 0 < 4294967296 := by
  rw [List.getD_eq_getElem?_getD]
  cases hi : l[i]? with
  | none => simp
  | some x => simpa using h x (List.mem_of_getElem? hi)
theorem u32s_set {l : List Int} (h : U32s l) (i : Nat) {x : Int} (hx : 0 ≤ x ∧ x < 4294967296) : U32s (l.set i x) := by
  intro y hy
  rcases List.mem_or_eq_of_mem_set hy with h1 | rfl
  · exact h y h1
  · exact hx
/-- a ring in a memory -/
structure ROn (k : Nat) (l : List Int) (c a n z : Int) : Prop where
  at0 : 0 ≤ a
  room : a + 2 + n * (1 + (z + 3) / 4) ≤ k
  n1 : k ≤ 4096
  ll : l.length = k
  ring : RingOk n z
  us : U32s l
  c : 0 ≤ c ∧ c ≤ 1000000
theorem plc_in {k : Nat} {l : List Int} {c a n z i d : Int} (h : ROn k l c a n z) (hd : 0 ≤ d ∧ d ≤ (z + 3) / 4) : 0 ≤ plc a n z i + d ∧ plc a n z i + d < k ∧ a + 2 ≤ plc a n z i + d := by
  have h0 := h.at0
  have hr := h.room
  have hn := h.ring.n
  have hz := h.ring.z
  have h4 := Int.emod_nonneg i (show n ≠ 0 by omega)
  have h5 := Int.emod_lt_of_pos i (show 0 < n by omega)
  have h7 : 0 ≤ i % n * (1 + (z + 3) / 4) := Int.mul_nonneg h4 (by omega)
  have h8 : i % n * (1 + (z + 3) / 4) ≤ (n - 1) * (1 + (z + 3) / 4) := Int.mul_le_mul_of_nonneg_right (by omega) (by omega)
  have h9 : (n - 1) * (1 + (z + 3) / 4) = n * (1 + (z + 3) / 4) - (1 + (z + 3) / 4) := by rw [Int.sub_mul]; omega
  unfold plc
  omega
structure SOk (k : Nat) (l : List Int) (c : Int) (x : Snd) (ms : List ByteArray) : Prop where
  on : ROn k l c x.at' x.n x.z
  tl : 0 ≤ x.tail ∧ x.tail < 4294967296
  did : x.p = 2 → 0 ≤ x.did ∧ x.did ≤ (x.z + 3) / 4
  ml : ms.length ≤ 1000
  mz : ∀ s ∈ ms, (s.size : Int) ≤ x.z
  sl : x.sent.length ≤ ms.length
/-- what a sender's step does to it, and to the words -/
def sNext (x : Snd) (ms : List ByteArray) (l : List Int) : Snd × List Int :=
  if x.sent.length = ms.length then (x, l) else
  match x.p with
  | 0 => (⟨x.at', x.n, x.z, l.getD x.at'.toNat 0, x.tail, x.did, x.sent, 1⟩, l)
  | 1 => if x.n ≤ (l.getD (x.at' + 1).toNat 0 - x.head) % 4294967296 then (⟨x.at', x.n, x.z, x.head, l.getD (x.at' + 1).toNat 0, 0, x.sent ++ [false], 0⟩, l) else (⟨x.at', x.n, x.z, x.head, l.getD (x.at' + 1).toNat 0, 0, x.sent, 2⟩, l)
  | 2 => (⟨x.at', x.n, x.z, x.head, x.tail, x.did + 1, x.sent, if (((ms.getD x.sent.length nilB).size : Int) + 3) / 4 < x.did + 1 then 3 else 2⟩, l.set (plc x.at' x.n x.z x.tail + x.did).toNat (if 0 < x.did then packI (ms.getD x.sent.length nilB) (x.did - 1).toNat else ((ms.getD x.sent.length nilB).size : Int)))
  | _ => (⟨x.at', x.n, x.z, x.head, x.tail, x.did, x.sent ++ [true], 0⟩, l.set (x.at' + 1).toNat ((x.tail + 1) % 4294967296))
def sStill (x : Snd) (ms : List ByteArray) : Bool := x.sent.length == ms.length
abbrev sC (x : Snd) (ms : List ByteArray) (c : Int) : Int := if x.sent.length = ms.length then c else c + 1
abbrev SStep (k : Nat) (l : List Int) (c : Int) (x : Snd) (ms : List ByteArray) : Prop :=
  ∀ (env : Env) (w : World) (vs : List Value), GlOk cfgK.gl env → Rep env (sSn (sfn x.p) k l c x ms) w → DenL env agS vs → Calls cfgK.P 21 ⟨vs⟩ w (Ends1 env (sSn (sfn x.p) k l c x ms) w (.sb (sStill (sNext x ms l).1 ms)) (sE k (sNext x ms l).2 (sC x ms c) (sNext x ms l).1 ms))
set_option maxHeartbeats 1000000 in
theorem s_begin {k : Nat} {l : List Int} {c : Int} {x : Snd} {ms : List ByteArray} (h : SOk k l c x ms) (hp : x.p = 0) : SStep k l c x ms := by
  obtain ⟨at', n, z, head, tail, did, sent, p⟩ := x
  obtain ⟨⟨h1, h2, h3, h4, h5, h6, h7⟩, h8, h9, h10, h11, h12⟩ := h
  simp only at h1 h2 h5 h8 h9 h11 h12 hp
  subst hp
  have hz := h5.z
  have hn := h5.n
  have hm : 0 ≤ n * (1 + (z + 3) / 4) := Int.mul_nonneg (by omega) (by omega)
  refine ends_turn (c := cfgK) cfgK_ok sb_b (by kernel_rfl) ?_
  refine all_brp (by simp only [beq_iff_eq]; exact Iff.rfl) (fun hd => ?_) (fun hd => ?_)
  · have hd' : sent.length = ms.length := by omega
    have hb2 : (sent.length == ms.length) = true := beq_iff_eq.2 hd'
    simp only [sNext, sStill, sC, if_pos hd', hb2]
    exact all_ret (turn_norm [5] [0, 1, 2, 3, 4, 6, 5] rfl rfl rfl rfl)
  · have hd' : ¬ sent.length = ms.length := by omega
    have hb : ((sent.length : Int) == (ms.length : Int)) = false := beq_eq_false_iff_ne.2 hd
    have hb2 : (sent.length == ms.length) = false := beq_eq_false_iff_ne.2 hd'
    simp only [sNext, sStill, sC, if_neg hd', hb, hb2]
    repeat' (first
      | refine all_needq (by simp only [inR_i64]; exact Iff.rfl) (by omega) ?_
      | refine all_needq (by simp only [decide_eq_true_eq, Bool.and_eq_true]; exact Iff.rfl) (by omega) ?_
      | refine all_needq (by simp only [decide_eq_true_eq]; exact Iff.rfl) (by omega) ?_
      | refine all_need rfl (fun _ => ?_)
      | refine all_eq trivial ?_
      | refine all_eq rfl ?_
      | refine all_brn (by simp only [decide_eq_true_eq]; exact Iff.rfl) (by omega) ?_
      | fail)
    simp only [Int.add_zero]
    exact all_ret (turn_norm [5] [0, 1, 2, 3, 4, 7, 5] rfl rfl rfl rfl)
set_option maxHeartbeats 1000000 in
theorem s_look {k : Nat} {l : List Int} {c : Int} {x : Snd} {ms : List ByteArray} (h : SOk k l c x ms) (hp : x.p = 1) : SStep k l c x ms := by
  obtain ⟨at', n, z, head, tail, did, sent, p⟩ := x
  obtain ⟨⟨h1, h2, h3, h4, h5, h6, h7⟩, h8, h9, h10, h11, h12⟩ := h
  simp only at h1 h2 h5 h8 h9 h11 h12 hp
  subst hp
  have hz := h5.z
  have hn := h5.n
  have hm : 1 + (z + 3) / 4 ≤ n * (1 + (z + 3) / 4) := by
    have := Int.mul_le_mul_of_nonneg_right hn.1 (show 0 ≤ 1 + (z + 3) / 4 by omega)
    omega
  refine ends_turn (c := cfgK) cfgK_ok sl_b (by kernel_rfl) ?_
  refine all_brp (by simp only [beq_iff_eq]; exact Iff.rfl) (fun hd => ?_) (fun hd => ?_)
  · have hd' : sent.length = ms.length := by omega
    have hb2 : (sent.length == ms.length) = true := beq_iff_eq.2 hd'
    simp only [sNext, sStill, sC, if_pos hd', hb2]
    exact all_ret (turn_norm [5] [0, 1, 2, 3, 4, 6, 5] rfl rfl rfl rfl)
  · have hd' : ¬ sent.length = ms.length := by omega
    have hb : ((sent.length : Int) == (ms.length : Int)) = false := beq_eq_false_iff_ne.2 hd
    have hb2 : (sent.length == ms.length) = false := beq_eq_false_iff_ne.2 hd'
    have e1 : IntKind.u32.wrap n = n := wrap_inR (by rw [inR_u32]; omega)
    rw [e1, w32_mod]
    simp only [sNext, sC, if_neg hd', hb]
    repeat' (first
      | refine all_needq (by simp only [inR_i64]; exact Iff.rfl) (by omega) ?_
      | refine all_needq (by simp only [decide_eq_true_eq, Bool.and_eq_true]; exact Iff.rfl) (by omega) ?_
      | refine all_needq (by simp only [decide_eq_true_eq]; exact Iff.rfl) (by omega) ?_
      | refine all_need rfl (fun _ => ?_)
      | refine all_eq trivial ?_
      | refine all_eq rfl ?_
      | refine all_brn (by simp only [decide_eq_true_eq]; exact Iff.rfl) (by omega) ?_
      | fail)
    refine all_brp (by simp only [decide_eq_true_eq]; exact Iff.rfl) (fun hf => ?_) (fun hf => ?_)
    · have hb3 : ((sent ++ [false]).length == ms.length) = ((((sent.length + 1 : Nat)) : Int) == (ms.length : Int)) := by
        rw [List.length_append, List.length_singleton, Bool.eq_iff_iff]
        simp only [beq_iff_eq]; omega
      simp only [if_pos hf, sStill, hb3]
      repeat' (first
        | refine all_needq (by simp only [roomy_iff]; exact Iff.rfl) (by omega) ?_
        | refine all_needq (by simp only [decide_eq_true_eq]; exact Iff.rfl) (by omega) ?_
        | refine all_need rfl (fun _ => ?_)
        | refine all_eq trivial ?_
        | refine all_eq rfl ?_)
      have hl : (sent ++ [false]).length = sent.length + 1 := by simp
      simp only [sE, hl]
      exact all_ret (turn_norm [] [0, 1, 2, 3, 4, 5, 8] rfl rfl rfl rfl)
    · simp only [if_neg hf, sStill, hb2]
      repeat' (first
        | refine all_need rfl (fun _ => ?_)
        | refine all_eq trivial ?_
        | refine all_eq rfl ?_)
      exact all_ret (turn_norm [5] [0, 1, 2, 3, 4, 7, 5] rfl rfl rfl rfl)
set_option maxHeartbeats 2000000 in
theorem s_tell {k : Nat} {l : List Int} {c : Int} {x : Snd} {ms : List ByteArray} (h : SOk k l c x ms) (hp : x.p = 3) : SStep k l c x ms := by
  obtain ⟨at', n, z, head, tail, did, sent, p⟩ := x
  obtain ⟨⟨h1, h2, h3, h4, h5, h6, h7⟩, h8, h9, h10, h11, h12⟩ := h
  simp only at h1 h2 h5 h8 h9 h11 h12 hp
  subst hp
  have hz := h5.z
  have hn := h5.n
  have hm : 1 + (z + 3) / 4 ≤ n * (1 + (z + 3) / 4) := by
    have := Int.mul_le_mul_of_nonneg_right hn.1 (show 0 ≤ 1 + (z + 3) / 4 by omega)
    omega
  refine ends_turn (c := cfgK) cfgK_ok st_b (by kernel_rfl) ?_
  refine all_brp (by simp only [beq_iff_eq]; exact Iff.rfl) (fun hd => ?_) (fun hd => ?_)
  · have hd' : sent.length = ms.length := by omega
    have hb2 : (sent.length == ms.length) = true := beq_iff_eq.2 hd'
    simp only [sNext, sStill, sC, if_pos hd', hb2]
    exact all_ret (turn_norm [5] [0, 1, 2, 3, 4, 6, 5] rfl rfl rfl rfl)
  · have hd' : ¬ sent.length = ms.length := by omega
    have hb : ((sent.length : Int) == (ms.length : Int)) = false := beq_eq_false_iff_ne.2 hd
    have hb3 : ((sent ++ [true]).length == ms.length) = ((((sent.length + 1 : Nat)) : Int) == (ms.length : Int)) := by
      rw [List.length_append, List.length_singleton, Bool.eq_iff_iff]
      simp only [beq_iff_eq]; omega
    have hi : (at' + 1).toNat < l.length := by omega
    simp only [sNext, sC, if_neg hd', sStill, hb3]
    simp only [Sx.getD_set_self hi, List.set_set, raw_set]
    have e3 : IntKind.u32.wrap (tail + 1) % 4294967296 = (tail + 1) % 4294967296 := by rw [w32_mod]; omega
    rw [e3]
    repeat' (first
      | refine all_needq (by simp only [inR_i64]; exact Iff.rfl) (by omega) ?_
      | refine all_needq (by simp only [decide_eq_true_eq, Bool.and_eq_true]; exact Iff.rfl) (by omega) ?_
      | refine all_needq (by simp only [decide_eq_true_eq]; exact Iff.rfl) (by omega) ?_
      | refine all_needq (by simp only [roomy_iff]; exact Iff.rfl) (by omega) ?_
      | refine all_need rfl (fun _ => ?_)
      | refine all_eq trivial ?_
      | refine all_eq rfl ?_
      | refine all_brn (by simp only [decide_eq_true_eq]; exact Iff.rfl) (by omega) ?_
      | fail)
    have hl : (sent ++ [true]).length = sent.length + 1 := by simp
    simp only [sE, hl]
    exact all_ret (turn_norm [] [0, 1, 2, 3, 4, 5, 8] rfl rfl rfl rfl)
end Go.Proofs.YtdadfgeepinpbaaDoor

/- Layer 19: a sender's step, whole. -/
namespace Go.Proofs.YtdadfgeepinpbaaDoor
open Go Go.Proofs.YtdadfgeepinpbaaDoor.Sx
set_option linter.unusedVariables false
theorem size_in {ms : List ByteArray} {z : Int} (hz : 0 ≤ z) (h : ∀ s ∈ ms, (s.size : Int) ≤ z) (i : Nat) : ((ms.getD i nilB).size : Int) ≤ z := by
  rw [List.getD_eq_getElem?_getD]
  cases hi : ms[i]? with
  | none => exact (show ((0 : Nat) : Int) ≤ z by simpa using hz)
  | some x => simpa using h x (List.mem_of_getElem? hi)
set_option maxHeartbeats 4000000 in
theorem s_put {k : Nat} {l : List Int} {c : Int} {x : Snd} {ms : List ByteArray} (h : SOk k l c x ms) (hp : x.p = 2) : SStep k l c x ms := by
  obtain ⟨at', n, z, head, tail, did, sent, p⟩ := x
  obtain ⟨hon, h8, h9, h10, h11, h12⟩ := h
  simp only at hon h8 h9 h11 h12 hp
  subst hp
  have h9 := h9 rfl
  have hpl := plc_in (i := tail) hon h9
  obtain ⟨h1, h2, h3, h4, h5, h6, h7⟩ := hon
  have hz := h5.z
  have hn := h5.n
  have hm : 1 + (z + 3) / 4 ≤ n * (1 + (z + 3) / 4) := by
    have := Int.mul_le_mul_of_nonneg_right hn.1 (show 0 ≤ 1 + (z + 3) / 4 by omega)
    omega
  have hat : at' ≤ 4096 := by omega
  refine ends_turn (c := cfgK) cfgK_ok sp_b (by kernel_rfl) ?_
  refine all_brp (by simp only [beq_iff_eq]; exact Iff.rfl) (fun hd => ?_) (fun hd => ?_)
  · have hd' : sent.length = ms.length := by omega
    have hb2 : (sent.length == ms.length) = true := beq_iff_eq.2 hd'
    simp only [sNext, sStill, sC, if_pos hd', hb2]
    exact all_ret (turn_norm [5] [0, 1, 2, 3, 4, 6, 5] rfl rfl rfl rfl)
  · have hd' : ¬ sent.length = ms.length := by omega
    have hb : ((sent.length : Int) == (ms.length : Int)) = false := beq_eq_false_iff_ne.2 hd
    have hb2 : (sent.length == ms.length) = false := beq_eq_false_iff_ne.2 hd'
    have hs := size_in (z := z) (by omega) h11 sent.length
    have hpk := packI_le (ms.getD sent.length nilB) (did - 1).toNat
    simp only [sNext, sC, if_neg hd', sStill, hb2, hb, plc, Int.toNat_natCast] at hpl ⊢
    simp only [nilB] at hs hpk ⊢
    obtain ⟨s, hS⟩ : ∃ s, ms.getD sent.length { data := { toList := [] } } = s := ⟨_, rfl⟩
    obtain ⟨P, hP⟩ : ∃ P, at' + 2 + tail % n * (1 + (z + 3) / 4) + did = P := ⟨_, rfl⟩
    simp only [hS] at hs hpk ⊢
    simp only [hP] at hpl ⊢
    have hi : P.toNat < l.length := by omega
    have e4 : IntKind.i64.wrap (((s.size : Int) + 3).tdiv 4) = ((s.size : Int) + 3) / 4 := by
      rw [Int.tdiv_eq_ediv_of_nonneg (by omega), wrap_i64 (by omega)]
    simp only [Sx.getD_set_self hi, List.set_set, raw_set, e4]
    refine all_needq (by simp only [decide_eq_true_eq, Bool.and_eq_true]; exact Iff.rfl) (by omega) ?_
    refine all_needq (by simp only [decide_eq_true_eq]; exact Iff.rfl) (by omega) ?_
    refine all_brp (by simp only [decide_eq_true_eq]; exact Iff.rfl) (fun h0 => ?_) (fun h0 => ?_)
    · have e5 : packI s (did - 1).toNat % 4294967296 = packI s (did - 1).toNat := Int.emod_eq_of_lt hpk.1 hpk.2
      rw [if_pos h0]
      refine all_needq (by simp only [inR_i64]; exact Iff.rfl) (by omega) ?_
      refine all_eq ⟨trivial, by omega, by omega⟩ ?_
      refine all_eq ⟨trivial, h5, ⟨by omega, by omega⟩, h8⟩ ?_
      repeat' (first
        | refine all_needq (by simp only [inR_i64]; exact Iff.rfl) (by omega) ?_
        | refine all_needq (by simp only [decide_eq_true_eq, Bool.and_eq_true]; exact Iff.rfl) (by omega) ?_
        | refine all_needq (by simp only [decide_eq_true_eq]; exact Iff.rfl) (by omega) ?_
        | refine all_need rfl (fun _ => ?_)
        | refine all_eq trivial ?_
        | refine all_eq rfl ?_
        | refine all_brn (by simp only [decide_eq_true_eq]; exact Iff.rfl) (by omega) ?_
        | fail)
      simp only [packI, byteD] at e5 ⊢
      refine all_brp (by simp only [decide_eq_true_eq]; exact Iff.rfl) (fun h1 => ?_) (fun h1 => ?_)
      · simp only [if_pos h1, e5]
        repeat' (first
          | refine all_need rfl (fun _ => ?_)
          | refine all_eq trivial ?_
          | refine all_eq rfl ?_)
        exact all_ret (turn_norm [5] [0, 1, 2, 3, 4, 7, 5] rfl rfl rfl rfl)
      · simp only [if_neg h1, e5]
        repeat' (first
          | refine all_need rfl (fun _ => ?_)
          | refine all_eq trivial ?_
          | refine all_eq rfl ?_)
        exact all_ret (turn_norm [5] [0, 1, 2, 3, 4, 7, 5] rfl rfl rfl rfl)
    · have e5 : IntKind.u32.wrap (s.size : Int) % 4294967296 = (s.size : Int) := by rw [w32_mod]; omega
      rw [if_neg h0]
      refine all_eq ⟨trivial, h5, ⟨by omega, by omega⟩, h8⟩ ?_
      repeat' (first
        | refine all_needq (by simp only [inR_i64]; exact Iff.rfl) (by omega) ?_
        | refine all_needq (by simp only [decide_eq_true_eq, Bool.and_eq_true]; exact Iff.rfl) (by omega) ?_
        | refine all_needq (by simp only [decide_eq_true_eq]; exact Iff.rfl) (by omega) ?_
        | refine all_need rfl (fun _ => ?_)
        | refine all_eq trivial ?_
        | refine all_eq rfl ?_
        | refine all_brn (by simp only [decide_eq_true_eq]; exact Iff.rfl) (by omega) ?_
        | fail)
      rw [e5]
      refine all_brp (by simp only [decide_eq_true_eq]; exact Iff.rfl) (fun h1 => ?_) (fun h1 => ?_)
      · simp only [if_pos h1]
        repeat' (first
          | refine all_need rfl (fun _ => ?_)
          | refine all_eq trivial ?_
          | refine all_eq rfl ?_)
        exact all_ret (turn_norm [5] [0, 1, 2, 3, 4, 7, 5] rfl rfl rfl rfl)
      · simp only [if_neg h1]
        repeat' (first
          | refine all_need rfl (fun _ => ?_)
          | refine all_eq trivial ?_
          | refine all_eq rfl ?_)
        exact all_ret (turn_norm [5] [0, 1, 2, 3, 4, 7, 5] rfl rfl rfl rfl)
/-- a sender's step -/
theorem s_step {k : Nat} {l : List Int} {c : Int} {x : Snd} {ms : List ByteArray} (h : SOk k l c x ms) (hp : x.p ≤ 3) : SStep k l c x ms := by
  have hq : x.p = 0 ∨ x.p = 1 ∨ x.p = 2 ∨ x.p = 3 := by omega
  rcases hq with hq | hq | hq | hq
  · exact s_begin h hq
  · exact s_look h hq
  · exact s_put h hq
  · exact s_tell h hq
end Go.Proofs.YtdadfgeepinpbaaDoor

/- Layer 19: a receiver's step. -/
namespace Go.Proofs.YtdadfgeepinpbaaDoor
open Go Go.Proofs.YtdadfgeepinpbaaDoor.Sx
set_option linter.unusedVariables false
structure ROk (k : Nat) (l : List Int) (c : Int) (x : Rcv) : Prop where
  on : ROn k l c x.at' x.n x.z
  hd : 0 ≤ x.head ∧ x.head < 4294967296
  did : x.p = 2 → 0 ≤ x.did ∧ x.did ≤ (x.z + 3) / 4
  t : 0 ≤ x.times ∧ x.times ≤ 1000
  gl : (x.got.length : Int) ≤ x.times
  ln : x.p = 2 → 0 < x.did → 1 ≤ x.ln ∧ x.ln ≤ x.z
  bl : x.b.length ≤ 1000
  p3 : x.p = 3 → 0 ≤ x.ln ∧ x.ln ≤ x.b.length
def bytesI (w : Int) : List Int := [IntKind.u8.wrap (w.fdiv 16777216), IntKind.u8.wrap (w.fdiv 65536), IntKind.u8.wrap (w.fdiv 256), IntKind.u8.wrap w]
/-- what a receiver's step does to it, and to the words -/
def rNext (x : Rcv) (l : List Int) : Rcv × List Int :=
  if (x.got.length : Int) = x.times then (x, l) else
  match x.p with
  | 0 => (⟨x.at', x.n, x.z, x.head, l.getD (x.at' + 1).toNat 0, x.did, x.times, x.ln, x.b, x.got, 1⟩, l)
  | 1 => if l.getD x.at'.toNat 0 = x.tail then (⟨x.at', x.n, x.z, l.getD x.at'.toNat 0, x.tail, 0, x.times, x.ln, [], x.got ++ [nilB], 0⟩, l) else (⟨x.at', x.n, x.z, l.getD x.at'.toNat 0, x.tail, 0, x.times, x.ln, [], x.got, 2⟩, l)
  | 2 => if x.did = 0 then (⟨x.at', x.n, x.z, x.head, x.tail, 1, x.times, imin (imax (l.getD (plc x.at' x.n x.z x.head + x.did).toNat 0) 1) x.z, x.b, x.got, if (imin (imax (l.getD (plc x.at' x.n x.z x.head + x.did).toNat 0) 1) x.z + 3) / 4 < 1 then 3 else 2⟩, l)
    else (⟨x.at', x.n, x.z, x.head, x.tail, x.did + 1, x.times, x.ln, x.b ++ bytesI (l.getD (plc x.at' x.n x.z x.head + x.did).toNat 0), x.got, if (x.ln + 3) / 4 < x.did + 1 then 3 else 2⟩, l)
  | _ => (⟨x.at', x.n, x.z, x.head, x.tail, x.did, x.times, x.ln, x.b, x.got ++ [strI (x.b.take x.ln.toNat)], 0⟩, l.set x.at'.toNat ((x.head + 1) % 4294967296))
def rStill (x : Rcv) : Bool := (x.got.length : Int) == x.times
abbrev rC (x : Rcv) (c : Int) : Int := if (x.got.length : Int) = x.times then c else c + 1
abbrev RStep (k : Nat) (l : List Int) (c : Int) (x : Rcv) : Prop :=
  ∀ (env : Env) (w : World) (vs : List Value), GlOk cfgK.gl env → Rep env (sR (rfn x.p) k l c x) w → DenL env agS vs → Calls cfgK.P 25 ⟨vs⟩ w (Ends1 env (sR (rfn x.p) k l c x) w (.sb (rStill (rNext x l).1)) (rE k (rNext x l).2 (rC x c) (rNext x l).1))
set_option maxHeartbeats 1000000 in
theorem r_begin {k : Nat} {l : List Int} {c : Int} {x : Rcv} (h : ROk k l c x) (hp : x.p = 0) : RStep k l c x := by
  obtain ⟨at', n, z, head, tail, did, times, ln, b, got, p⟩ := x
  obtain ⟨⟨h1, h2, h3, h4, h5, h6, h7⟩, h8, h9, h10, h11, h12, h13, h14⟩ := h
  simp only at h1 h2 h5 h8 h9 h10 h11 h12 hp
  subst hp
  have hz := h5.z
  have hn := h5.n
  have hm : 1 + (z + 3) / 4 ≤ n * (1 + (z + 3) / 4) := by
    have := Int.mul_le_mul_of_nonneg_right hn.1 (show 0 ≤ 1 + (z + 3) / 4 by omega)
    omega
  refine ends_turn (c := cfgK) cfgK_ok rb_b (by kernel_rfl) ?_
  refine all_brp (by simp only [beq_iff_eq]; exact Iff.rfl) (fun hd => ?_) (fun hd => ?_)
  · have hb2 : ((got.length : Int) == times) = true := beq_iff_eq.2 hd
    simp only [rNext, rStill, rC, if_pos hd, hb2]
    exact all_ret (turn_norm [4, 5] [0, 1, 2, 3, 6, 7, 4, 5] rfl rfl rfl rfl)
  · have hb2 : ((got.length : Int) == times) = false := beq_eq_false_iff_ne.2 hd
    simp only [rNext, rStill, rC, if_neg hd, hb2]
    repeat' (first
      | refine all_needq (by simp only [inR_i64]; exact Iff.rfl) (by omega) ?_
      | refine all_needq (by simp only [decide_eq_true_eq, Bool.and_eq_true]; exact Iff.rfl) (by omega) ?_
      | refine all_needq (by simp only [decide_eq_true_eq]; exact Iff.rfl) (by omega) ?_
      | refine all_need rfl (fun _ => ?_)
      | refine all_eq trivial ?_
      | refine all_eq rfl ?_
      | refine all_brn (by simp only [decide_eq_true_eq]; exact Iff.rfl) (by omega) ?_
      | fail)
    exact all_ret (turn_norm [4, 5] [0, 1, 2, 3, 7, 8, 4, 5] rfl rfl rfl rfl)
set_option maxHeartbeats 1000000 in
theorem r_look {k : Nat} {l : List Int} {c : Int} {x : Rcv} (h : ROk k l c x) (hp : x.p = 1) : RStep k l c x := by
  obtain ⟨at', n, z, head, tail, did, times, ln, b, got, p⟩ := x
  obtain ⟨⟨h1, h2, h3, h4, h5, h6, h7⟩, h8, h9, h10, h11, h12, h13, h14⟩ := h
  simp only at h1 h2 h5 h8 h9 h10 h11 h12 hp
  subst hp
  have hz := h5.z
  have hn := h5.n
  have hm : 1 + (z + 3) / 4 ≤ n * (1 + (z + 3) / 4) := by
    have := Int.mul_le_mul_of_nonneg_right hn.1 (show 0 ≤ 1 + (z + 3) / 4 by omega)
    omega
  refine ends_turn (c := cfgK) cfgK_ok rl_b (by kernel_rfl) ?_
  refine all_brp (by simp only [beq_iff_eq]; exact Iff.rfl) (fun hd => ?_) (fun hd => ?_)
  · have hb2 : ((got.length : Int) == times) = true := beq_iff_eq.2 hd
    simp only [rNext, rStill, rC, if_pos hd, hb2]
    exact all_ret (turn_norm [4, 5] [0, 1, 2, 3, 6, 7, 4, 5] rfl rfl rfl rfl)
  · have hb2 : ((got.length : Int) == times) = false := beq_eq_false_iff_ne.2 hd
    have hg := h10
    simp only [rNext, rC, if_neg hd, Int.add_zero]
    repeat' (first
      | refine all_needq (by simp only [inR_i64]; exact Iff.rfl) (by omega) ?_
      | refine all_needq (by simp only [decide_eq_true_eq, Bool.and_eq_true]; exact Iff.rfl) (by omega) ?_
      | refine all_needq (by simp only [decide_eq_true_eq]; exact Iff.rfl) (by omega) ?_
      | refine all_need rfl (fun _ => ?_)
      | refine all_eq trivial ?_
      | refine all_eq rfl ?_
      | refine all_brn (by simp only [decide_eq_true_eq]; exact Iff.rfl) (by omega) ?_
      | fail)
    refine all_brp (by simp only [beq_iff_eq]; exact Iff.rfl) (fun hf => ?_) (fun hf => ?_)
    · simp only [if_pos hf]
      repeat' (first
        | refine all_needq (by simp only [roomy_iff]; exact Iff.rfl) (by omega) ?_
        | refine all_needq (by simp only [decide_eq_true_eq]; exact Iff.rfl) (by omega) ?_
        | refine all_need rfl (fun _ => ?_)
        | refine all_eq trivial ?_
        | refine all_eq rfl ?_
        | fail)
      have hl : (got ++ [nilB]).length = got.length + 1 := by simp
      simp only [rE, rStill, hl]
      exact all_ret ((turn_nil 3 9 1 (l := [.int .i64 at', .int .i64 n, .int .i64 z, .fn (.func 42) [.ptr 3 0] [], .int .u32 (l.getD at'.toNat 0), .int .u32 tail, .lit .i64 0, .int .i64 times, .int .i64 ln, .snil, .sli 8 (.c 0) 1 (.v (got.length + 1)) none]) (T0 := 127) rfl rfl (encInt .u8) 5).trans (turn_norm [4] [0, 1, 2, 3, 10, 5, 9, 8] rfl rfl rfl rfl))
    · simp only [if_neg hf, rStill, hb2]
      repeat' (first
        | refine all_need rfl (fun _ => ?_)
        | refine all_eq trivial ?_
        | refine all_eq rfl ?_)
      exact all_ret ((turn_nil 3 9 1 (l := [.int .i64 at', .int .i64 n, .int .i64 z, .fn (.func 52) [.ptr 3 0] [], .int .u32 (l.getD at'.toNat 0), .int .u32 tail, .lit .i64 0, .int .i64 times, .int .i64 ln, .snil, .sli 5 (.c 0) 1 (.v got.length) none]) (T0 := 127) rfl rfl (encInt .u8) 5).trans (turn_norm [4, 5] [0, 1, 2, 3, 8, 9, 7, 5] rfl rfl rfl rfl))
end Go.Proofs.YtdadfgeepinpbaaDoor

/- Layer 19: a receiver's step, whole. -/
namespace Go.Proofs.YtdadfgeepinpbaaDoor
open Go Go.Proofs.YtdadfgeepinpbaaDoor.Sx
set_option linter.unusedVariables false
theorem isU8_all (B : List Int) : (B.flatMap (encInt .u8).enc).all isU8 = true := by
  induction B with
  | nil => rfl
  | cons x l ih => rw [List.flatMap_cons, List.all_append, ih]; rfl
set_option maxHeartbeats 4000000 in
theorem r_take {k : Nat} {l : List Int} {c : Int} {x : Rcv} (h : ROk k l c x) (hp : x.p = 2) : RStep k l c x := by
  obtain ⟨at', n, z, head, tail, did, times, ln, b, got, p⟩ := x
  obtain ⟨hon, h8, h9, h10, h11, h12, h13, h14⟩ := h
  simp only at hon h8 h9 h10 h11 h12 h13 hp
  subst hp
  have h9 := h9 rfl
  have h12 := h12 rfl
  have hpl := plc_in (i := head) hon h9
  obtain ⟨h1, h2, h3, h4, h5, h6, h7⟩ := hon
  have hz := h5.z
  have hn := h5.n
  have hm : 1 + (z + 3) / 4 ≤ n * (1 + (z + 3) / 4) := by
    have := Int.mul_le_mul_of_nonneg_right hn.1 (show 0 ≤ 1 + (z + 3) / 4 by omega)
    omega
  have hat : at' ≤ 4096 := by omega
  refine ends_turn (c := cfgK) cfgK_ok rt_b (by kernel_rfl) ?_
  refine all_brp (by simp only [beq_iff_eq]; exact Iff.rfl) (fun hd => ?_) (fun hd => ?_)
  · have hb2 : ((got.length : Int) == times) = true := beq_iff_eq.2 hd
    simp only [rNext, rStill, rC, if_pos hd, hb2]
    exact all_ret (turn_norm [4, 5] [0, 1, 2, 3, 6, 7, 4, 5] rfl rfl rfl rfl)
  · have hb2 : ((got.length : Int) == times) = false := beq_eq_false_iff_ne.2 hd
    have e1 : IntKind.u32.wrap z = z := wrap_inR (by rw [inR_u32]; omega)
    simp only [rNext, rC, if_neg hd, plc, e1] at hpl ⊢
    obtain ⟨P, hP⟩ : ∃ P, at' + 2 + head % n * (1 + (z + 3) / 4) + did = P := ⟨_, rfl⟩
    simp only [hP] at hpl ⊢
    have hw := u32s_getD h6 P.toNat
    refine all_eq ⟨trivial, h5, ⟨by omega, by omega⟩, h8⟩ ?_
    repeat' (first
      | refine all_needq (by simp only [inR_i64]; exact Iff.rfl) (by omega) ?_
      | refine all_needq (by simp only [decide_eq_true_eq, Bool.and_eq_true]; exact Iff.rfl) (by omega) ?_
      | refine all_needq (by simp only [decide_eq_true_eq]; exact Iff.rfl) (by omega) ?_
      | refine all_need rfl (fun _ => ?_)
      | refine all_eq trivial ?_
      | refine all_eq rfl ?_
      | refine all_brn (by simp only [decide_eq_true_eq]; exact Iff.rfl) (by omega) ?_
      | fail)
    obtain ⟨W, hW⟩ : ∃ W, l.getD P.toNat 0 = W := ⟨_, rfl⟩
    simp only [hW] at hw ⊢
    refine all_brp (by simp only [beq_iff_eq]; exact Iff.rfl) (fun h0 => ?_) (fun h0 => ?_)
    · simp only [if_pos h0]
      have hmm : 1 ≤ imin (imax W 1) z ∧ imin (imax W 1) z ≤ 32 := by
        unfold imin imax; split <;> split <;> omega
      obtain ⟨M, hM⟩ : ∃ M, imin (imax W 1) z = M := ⟨_, rfl⟩
      simp only [hM] at hmm ⊢
      have e4 : IntKind.i64.wrap ((M + 3).tdiv 4) = (M + 3) / 4 := by
        rw [Int.tdiv_eq_ediv_of_nonneg (by omega), wrap_i64 (by omega)]
      simp only [e4]
      subst h0
      repeat' (first
        | refine all_needq (by simp only [inR_i64]; exact Iff.rfl) (by omega) ?_
        | refine all_need rfl (fun _ => ?_)
        | refine all_eq trivial ?_
        | refine all_eq rfl ?_
        | fail)
      refine all_brp (by simp only [decide_eq_true_eq]; exact Iff.rfl) (fun h1 => ?_) (fun h1 => ?_)
      · have h1' : (M + 3) / 4 < 1 := by omega
        simp only [if_pos h1', rStill, hb2]
        repeat' (first
          | refine all_need rfl (fun _ => ?_)
          | refine all_eq trivial ?_
          | refine all_eq rfl ?_)
        exact all_ret (turn_norm [4, 5] [0, 1, 2, 3, 7, 8, 4, 5] rfl rfl rfl rfl)
      · have h1' : ¬ (M + 3) / 4 < 1 := by omega
        simp only [if_neg h1', rStill, hb2]
        repeat' (first
          | refine all_need rfl (fun _ => ?_)
          | refine all_eq trivial ?_
          | refine all_eq rfl ?_)
        exact all_ret (turn_norm [4, 5] [0, 1, 2, 3, 7, 8, 4, 5] rfl rfl rfl rfl)
    · have hln := h12 (by omega)
      have e4 : IntKind.i64.wrap ((ln + 3).tdiv 4) = (ln + 3) / 4 := by
        rw [Int.tdiv_eq_ediv_of_nonneg (by omega), wrap_i64 (by omega)]
      simp only [if_neg h0, e4]
      repeat' (first
        | refine all_needq (by simp only [inR_i64]; exact Iff.rfl) (by omega) ?_
        | refine all_needq (by simp only [roomy_iff]; exact Iff.rfl) (by omega) ?_
        | refine all_needq (by simp only [decide_eq_true_eq]; exact Iff.rfl) (by omega) ?_
        | refine all_need rfl (fun _ => ?_)
        | refine all_eq trivial ?_
        | refine all_eq rfl ?_
        | fail)
      have hl : (b ++ bytesI W).length = b.length + 4 := by simp [bytesI]
      refine all_brp (by simp only [decide_eq_true_eq]; exact Iff.rfl) (fun h1 => ?_) (fun h1 => ?_)
      · simp only [if_pos h1, rStill, hb2, rE, hl]
        repeat' (first
          | refine all_need rfl (fun _ => ?_)
          | refine all_eq trivial ?_
          | refine all_eq rfl ?_)
        exact all_ret (turn_norm [5] [0, 1, 2, 3, 4, 9, 8, 5] rfl rfl rfl rfl)
      · simp only [if_neg h1, rStill, hb2, rE, hl]
        repeat' (first
          | refine all_need rfl (fun _ => ?_)
          | refine all_eq trivial ?_
          | refine all_eq rfl ?_)
        exact all_ret (turn_norm [5] [0, 1, 2, 3, 4, 9, 8, 5] rfl rfl rfl rfl)
set_option maxHeartbeats 4000000 in
theorem r_tell {k : Nat} {l : List Int} {c : Int} {x : Rcv} (h : ROk k l c x) (hp : x.p = 3) : RStep k l c x := by
  obtain ⟨at', n, z, head, tail, did, times, ln, b, got, p⟩ := x
  obtain ⟨⟨h1, h2, h3, h4, h5, h6, h7⟩, h8, h9, h10, h11, h12, h13, h14⟩ := h
  simp only at h1 h2 h5 h8 h9 h10 h11 h12 h13 h14 hp
  subst hp
  have h14 := h14 rfl
  have hz := h5.z
  have hn := h5.n
  have hm : 1 + (z + 3) / 4 ≤ n * (1 + (z + 3) / 4) := by
    have := Int.mul_le_mul_of_nonneg_right hn.1 (show 0 ≤ 1 + (z + 3) / 4 by omega)
    omega
  refine ends_turn (c := cfgK) cfgK_ok re_b (by kernel_rfl) ?_
  refine all_brp (by simp only [beq_iff_eq]; exact Iff.rfl) (fun hd => ?_) (fun hd => ?_)
  · have hb2 : ((got.length : Int) == times) = true := beq_iff_eq.2 hd
    simp only [rNext, rStill, rC, if_pos hd, hb2]
    exact all_ret (turn_norm [4, 5] [0, 1, 2, 3, 6, 7, 4, 5] rfl rfl rfl rfl)
  · have hb2 : ((got.length : Int) == times) = false := beq_eq_false_iff_ne.2 hd
    have hi : at'.toNat < l.length := by omega
    simp only [rNext, rC, if_neg hd, Int.add_zero]
    have e3 : IntKind.u32.wrap (head + 1) % 4294967296 = (head + 1) % 4294967296 := by rw [w32_mod]; omega
    have e5 : bitop .or .u32 (bitop .and .u32 (l.getD at'.toNat 0) 0) (IntKind.u32.wrap (head + 1)) = (head + 1) % 4294967296 := by rw [and_zero, zero_or, e3]
    have e6 : IntKind.u32.wrap ((head + 1) % 4294967296) = (head + 1) % 4294967296 := by rw [w32_mod]; omega
    simp only [e5, Sx.getD_set_self hi, List.set_set, e6, isU8_all, List.drop_zero]
    repeat' (first
      | refine all_needq (by simp only [inR_i64]; exact Iff.rfl) (by omega) ?_
      | refine all_needq (by simp only [decide_eq_true_eq, Bool.and_eq_true]; exact Iff.rfl) (by omega) ?_
      | refine all_needq (by simp only [decide_eq_true_eq]; exact Iff.rfl) (by omega) ?_
      | refine all_needq (by simp only [roomy_iff]; exact Iff.rfl) (by omega) ?_
      | refine all_need rfl (fun _ => ?_)
      | refine all_eq trivial ?_
      | refine all_eq rfl ?_
      | refine all_brn (by simp only [decide_eq_true_eq]; exact Iff.rfl) (by omega) ?_
      | fail)
    have hl : (got ++ [strI (b.take ln.toNat)]).length = got.length + 1 := by simp
    simp only [rE, rStill, hl]
    exact all_ret (turn_norm [4] [0, 1, 2, 3, 9, 5, 4, 8] rfl rfl rfl rfl)
/-- a receiver's step -/
theorem r_step {k : Nat} {l : List Int} {c : Int} {x : Rcv} (h : ROk k l c x) (hp : x.p ≤ 3) : RStep k l c x := by
  have hq : x.p = 0 ∨ x.p = 1 ∨ x.p = 2 ∨ x.p = 3 := by omega
  rcases hq with hq | hq | hq | hq
  · exact r_begin h hq
  · exact r_look h hq
  · exact r_take h hq
  · exact r_tell h hq
end Go.Proofs.YtdadfgeepinpbaaDoor

/- Layer 19, plain: a ring in small: what its sides' steps do to a queue of messages. -/
namespace Go.Proofs.YtdadfgeepinpbaaDoor
open Go Go.Proofs.YtdadfgeepinpbaaDoor.Sx
set_option linter.unusedVariables false
/-- how many words a message needs -/
def nw (s : ByteArray) : Nat := (s.size + 3) / 4
/-- a ring's sides and its queue, without indices -/
structure Ab where
  sent : List Bool
  sp : Nat
  sd : Nat
  sq : Nat
  got : List ByteArray
  rp : Nat
  rd : Nat
  rq : Nat
  q : List ByteArray
def aStepS (n : Int) (ms : List ByteArray) (A : Ab) : Ab :=
  if A.sent.length = ms.length then A else
  match A.sp with
  | 0 => ⟨A.sent, 1, A.sd, A.q.length, A.got, A.rp, A.rd, A.rq, A.q⟩
  | 1 => if n ≤ (A.sq : Int) then ⟨A.sent ++ [false], 0, A.sd, A.sq, A.got, A.rp, A.rd, A.rq, A.q⟩ else ⟨A.sent, 2, 0, A.sq, A.got, A.rp, A.rd, A.rq, A.q⟩
  | 2 => ⟨A.sent, if nw (ms.getD A.sent.length nilB) < A.sd + 1 then 3 else 2, A.sd + 1, A.sq, A.got, A.rp, A.rd, A.rq, A.q⟩
  | _ => ⟨A.sent ++ [true], 0, A.sd, A.sq, A.got, A.rp, A.rd, A.rq, A.q ++ [ms.getD A.sent.length nilB]⟩
def aStepR (t : Int) (A : Ab) : Ab :=
  if (A.got.length : Int) = t then A else
  match A.rp with
  | 0 => ⟨A.sent, A.sp, A.sd, A.sq, A.got, 1, A.rd, A.q.length, A.q⟩
  | 1 => if A.rq = 0 then ⟨A.sent, A.sp, A.sd, A.sq, A.got ++ [nilB], 0, A.rd, A.rq, A.q⟩ else ⟨A.sent, A.sp, A.sd, A.sq, A.got, 2, 0, A.rq, A.q⟩
  | 2 => ⟨A.sent, A.sp, A.sd, A.sq, A.got, if nw (A.q.headD nilB) < A.rd + 1 then 3 else 2, A.rd + 1, A.rq, A.q⟩
  | _ => ⟨A.sent, A.sp, A.sd, A.sq, A.got ++ [A.q.headD nilB], 0, A.rd, A.rq, A.q.tail⟩
structure RelM (k : Nat) (a n z : Int) (l : List Int) : Prop where
  at0 : 0 ≤ a
  room : a + 2 + n * (1 + (z + 3) / 4) ≤ k
  n1 : k ≤ 4096
  ll : l.length = k
  ring : RingOk n z
  us : U32s l
abbrev hdW (a : Int) (l : List Int) : Int := l.getD a.toNat 0
abbrev tlW (a : Int) (l : List Int) : Int := l.getD (a + 1).toNat 0
/-- what lies of a message in the place of an index: its length, and words -/
def Lies (a n z : Int) (l : List Int) (i : Int) (s : ByteArray) (d : Nat) : Prop :=
  (0 < d → l.getD (plc a n z i).toNat 0 = s.size) ∧ ∀ j : Nat, j + 1 < d → l.getD (plc a n z i + 1 + j).toNat 0 = packI s j
abbrev msg (ms : List ByteArray) (A : Ab) : ByteArray := ms.getD A.sent.length nilB
abbrev fitB (z : Int) (s : ByteArray) : Prop := 1 ≤ s.size ∧ (s.size : Int) ≤ z
structure RelQ (a n z : Int) (l : List Int) (q : List ByteArray) : Prop where
  tl : tlW a l = (hdW a l + q.length) % 4294967296
  cap : (q.length : Int) ≤ n
  fit : ∀ s ∈ q, fitB z s
  lies : ∀ j, j < q.length → Lies a n z l ((hdW a l + (j : Nat)) % 4294967296) (q.getD j nilB) (nw (q.getD j nilB) + 1)
structure RelS (a n z : Int) (ms : List ByteArray) (l : List Int) (x : Snd) (A : Ab) : Prop where
  at' : x.at' = a
  en : x.n = n
  ez : x.z = z
  sent : x.sent = A.sent
  p : x.p = A.sp
  p3 : A.sp ≤ 3
  le : A.sent.length ≤ ms.length
  ml : ms.length ≤ 1000
  fit : ∀ s ∈ ms, fitB z s
  tl : 0 ≤ x.tail ∧ x.tail < 4294967296
  s1 : A.sp = 1 → (tlW a l - x.head) % 4294967296 = (A.sq : Int) ∧ A.q.length ≤ A.sq ∧ (A.sq : Int) ≤ n
  s2 : 2 ≤ A.sp → A.sent.length < ms.length ∧ x.tail = tlW a l ∧ (A.q.length : Int) < n ∧ x.did = (A.sd : Int) ∧ Lies a n z l x.tail (msg ms A) A.sd
  e2 : A.sp = 2 → A.sd ≤ nw (msg ms A)
  e3 : A.sp = 3 → A.sd = nw (msg ms A) + 1
/-- the bytes of a message's first words -/
def bytesD (s : ByteArray) (d : Nat) : List Int := (List.range d).flatMap fun j => bytesI (packI s j)
structure RelR (a n z t : Int) (l : List Int) (y : Rcv) (A : Ab) : Prop where
  at' : y.at' = a
  en : y.n = n
  ez : y.z = z
  et : y.times = t
  t0 : 0 ≤ t ∧ t ≤ 1000
  got : y.got = A.got
  p : y.p = A.rp
  p3 : A.rp ≤ 3
  le : (A.got.length : Int) ≤ t
  hd : 0 ≤ y.head ∧ y.head < 4294967296
  bl : y.b.length ≤ 1000
  s1 : A.rp = 1 → y.tail = (hdW a l + (A.rq : Int)) % 4294967296 ∧ A.rq ≤ A.q.length
  s2 : 2 ≤ A.rp → y.head = hdW a l ∧ A.q ≠ [] ∧ y.did = (A.rd : Int) ∧ (0 < A.rd → y.ln = ((A.q.headD nilB).size : Int)) ∧ y.b = bytesD (A.q.headD nilB) (A.rd - 1)
  e2 : A.rp = 2 → A.rd ≤ nw (A.q.headD nilB)
  e3 : A.rp = 3 → A.rd = nw (A.q.headD nilB) + 1
structure Rel (k : Nat) (a n z t : Int) (ms : List ByteArray) (l : List Int) (x : Snd) (y : Rcv) (A : Ab) : Prop where
  m : RelM k a n z l
  q : RelQ a n z l A.q
  s : RelS a n z ms l x A
  r : RelR a n z t l y A
theorem nw_le {s : ByteArray} {z : Int} (h : fitB z s) : (nw s : Int) ≤ (z + 3) / 4 ∧ 1 ≤ nw s := by
  unfold nw; have := h.1; have := h.2; omega
theorem fit_get {z : Int} {ms : List ByteArray} (h : ∀ s ∈ ms, fitB z s) {i : Nat} (hi : i < ms.length) : fitB z (ms.getD i nilB) := by
  rw [List.getD_eq_getElem?_getD, List.getElem?_eq_getElem hi]
  exact h _ (List.getElem_mem hi)
theorem RelM.set {k : Nat} {a n z : Int} {l : List Int} (h : RelM k a n z l) (i : Nat) {v : Int} (hv : 0 ≤ v ∧ v < 4294967296) : RelM k a n z (l.set i v) :=
  ⟨h.at0, h.room, h.n1, by rw [List.length_set]; exact h.ll, h.ring, u32s_set h.us i hv⟩
theorem RelM.on {k : Nat} {a n z c : Int} {l : List Int} (h : RelM k a n z l) (hc : 0 ≤ c ∧ c ≤ 1000000) : ROn k l c a n z := ⟨h.at0, h.room, h.n1, h.ll, h.ring, h.us, hc⟩
theorem dvd_n {n z : Int} (h : RingOk n z) : n ∣ 4294967296 := by
  have hp := h.p
  have hp' : n = 1 ∨ n = 2 ∨ n = 4 ∨ n = 8 ∨ n = 16 ∨ n = 32 ∨ n = 64 ∨ n = 128 ∨ n = 256 ∨ n = 512 ∨ n = 1024 ∨ n = 2048 ∨ n = 4096 ∨ n = 8192 ∨ n = 16384 ∨ n = 32768 := by simpa [powB] using hp
  rcases hp' with rfl | rfl | rfl | rfl | rfl | rfl | rfl | rfl | rfl | rfl | rfl | rfl | rfl | rfl | rfl | rfl <;> decide
/-- indices near each other have places of their own -/
theorem mod_ne {n z i j : Int} (h : RingOk n z) (h1 : i < j) (h2 : j < i + n) : ¬ (i % 4294967296) % n = (j % 4294967296) % n := by
  rw [Int.emod_emod_of_dvd i (dvd_n h), Int.emod_emod_of_dvd j (dvd_n h)]
  intro e
  have h3 := Int.emod_eq_emod_iff_emod_sub_eq_zero.1 e.symm
  have h4 : n ∣ j - i := Int.dvd_of_emod_eq_zero h3
  have := Int.le_of_dvd (by omega) h4
  omega
theorem plc_apart {a n z i j d e : Int} (h : RingOk n z) (hne : ¬ i % n = j % n) (hd : 0 ≤ d ∧ d ≤ (z + 3) / 4) (he : 0 ≤ e ∧ e ≤ (z + 3) / 4) : ¬ plc a n z i + d = plc a n z j + e := by
  have hz := h.z
  unfold plc
  generalize hu : i % n = u at *
  generalize hv : j % n = v at *
  generalize hE : 1 + (z + 3) / 4 = E at *
  rcases Int.lt_or_gt_of_ne hne with h1 | h1
  · have h2 : (u + 1) * E ≤ v * E := Int.mul_le_mul_of_nonneg_right (by omega) (by omega)
    rw [Int.add_mul] at h2; omega
  · have h2 : (v + 1) * E ≤ u * E := Int.mul_le_mul_of_nonneg_right (by omega) (by omega)
    rw [Int.add_mul] at h2; omega
theorem plc_pos {a n z i : Int} (h : RingOk n z) : a + 2 ≤ plc a n z i := (plc_le h).1
/-- a store elsewhere -/
theorem Lies.set {a n z : Int} {l : List Int} {i : Int} {s : ByteArray} {d : Nat} (h : Lies a n z l i s d) {p : Nat} {v : Int} (h0 : 0 < d → p ≠ (plc a n z i).toNat) (h1 : ∀ j : Nat, j + 1 < d → p ≠ (plc a n z i + 1 + j).toNat) : Lies a n z (l.set p v) i s d :=
  ⟨fun hd => by rw [Sx.getD_set_ne (h0 hd)]; exact h.1 hd, fun j hj => by rw [Sx.getD_set_ne (h1 j hj)]; exact h.2 j hj⟩
theorem Lies.low {a n z : Int} {l : List Int} {i : Int} {s : ByteArray} {d : Nat} (h : Lies a n z l i s d) (ha : 0 ≤ a) (hr : RingOk n z) {p : Nat} {v : Int} (hp : (p : Int) < a + 2) : Lies a n z (l.set p v) i s d := by
  have := plc_pos (a := a) (i := i) hr
  exact h.set (fun _ => by omega) fun j _ => by omega
theorem Lies.other {a n z : Int} {l : List Int} {i j : Int} {s : ByteArray} {d e : Nat} (h : Lies a n z l i s d) (ha : 0 ≤ a) (hr : RingOk n z) (hne : ¬ i % n = j % n) (hd : (d : Int) ≤ (z + 3) / 4 + 1) (he : (e : Int) ≤ (z + 3) / 4) {v : Int} : Lies a n z (l.set (plc a n z j + (e : Int)).toNat v) i s d := by
  have h1 := plc_pos (a := a) (i := i) hr
  have h2 := plc_pos (a := a) (i := j) hr
  have hz := hr.z
  refine h.set (fun hd => ?_) fun t ht => ?_
  · have := plc_apart (a := a) (d := 0) (e := (e : Int)) hr hne (by omega) (by omega)
    omega
  · have := plc_apart (a := a) (d := 1 + (t : Int)) (e := (e : Int)) hr hne (by omega) (by omega)
    omega
theorem Lies.more {a n z : Int} {l : List Int} {i : Int} {s : ByteArray} {d : Nat} (h : Lies a n z l i s d) (ha : 0 ≤ a) (hr : RingOk n z) (hlen : (plc a n z i + (d : Int)).toNat < l.length) {v : Int} (h0 : d = 0 → v = s.size) (h1 : 0 < d → v = packI s (d - 1)) : Lies a n z (l.set (plc a n z i + (d : Int)).toNat v) i s (d + 1) := by
  have hp := plc_pos (a := a) (i := i) hr
  refine ⟨fun _ => ?_, fun j hj => ?_⟩
  · by_cases hd : d = 0
    · subst hd
      rw [show (plc a n z i + ((0 : Nat) : Int)).toNat = (plc a n z i).toNat by omega] at hlen ⊢
      rw [Sx.getD_set_self hlen]; exact h0 rfl
    · rw [Sx.getD_set_ne (by omega)]; exact h.1 (by omega)
  · by_cases hd : j + 1 = d
    · rw [show (plc a n z i + 1 + (j : Int)).toNat = (plc a n z i + (d : Int)).toNat by omega, Sx.getD_set_self hlen, h1 (by omega)]
      congr 1; omega
    · rw [Sx.getD_set_ne (by omega)]; exact h.2 j (by omega)
end Go.Proofs.YtdadfgeepinpbaaDoor

/- Layer 19, plain: a side's step, in small. -/
namespace Go.Proofs.YtdadfgeepinpbaaDoor
open Go Go.Proofs.YtdadfgeepinpbaaDoor.Sx
set_option linter.unusedVariables false
theorem w8_mod (x : Int) : IntKind.u8.wrap x = x % 256 := by
  simp [IntKind.wrap, IntKind.signed, IntKind.bits]
theorem bytesI_pack (s : ByteArray) (k : Nat) : bytesI (packI s k) = [byteD s (4 * k), byteD s (4 * k + 1), byteD s (4 * k + 2), byteD s (4 * k + 3)] := by
  have h0 := byteD_le s (4 * k)
  have h1 := byteD_le s (4 * k + 1)
  have h2 := byteD_le s (4 * k + 2)
  have h3 := byteD_le s (4 * k + 3)
  unfold bytesI packI
  generalize byteD s (4 * k) = b0 at *
  generalize byteD s (4 * k + 1) = b1 at *
  generalize byteD s (4 * k + 2) = b2 at *
  generalize byteD s (4 * k + 3) = b3 at *
  rw [Int.fdiv_eq_ediv_of_nonneg _ (by omega), Int.fdiv_eq_ediv_of_nonneg _ (by omega), Int.fdiv_eq_ediv_of_nonneg _ (by omega), w8_mod, w8_mod, w8_mod, w8_mod]
  congr 1
  · omega
  congr 1
  · omega
  congr 1
  · omega
  congr 1
  omega
theorem bytesD_succ (s : ByteArray) (d : Nat) : bytesD s (d + 1) = bytesD s d ++ bytesI (packI s d) := by
  unfold bytesD
  rw [List.range_succ, List.flatMap_append]
  simp
theorem bytesD_eq (s : ByteArray) : ∀ d, bytesD s d = (List.range (4 * d)).map (byteD s)
  | 0 => rfl
  | d + 1 => by
    rw [bytesD_succ, bytesD_eq s d, bytesI_pack, show 4 * (d + 1) = 4 * d + 1 + 1 + 1 + 1 by omega, List.range_succ, List.range_succ, List.range_succ, List.range_succ]
    simp
theorem flat_u8 : ∀ B : List Int, B.flatMap (encInt .u8).enc = B.map (SVal.int .u8)
  | [] => rfl
  | b :: B => by rw [List.flatMap_cons, List.map_cons, flat_u8 B]; rfl
theorem str_bytes (s : ByteArray) : strI ((bytesD s (nw s)).take s.size) = s := by
  obtain ⟨⟨l⟩⟩ := s
  have hsz : (ByteArray.mk ⟨l⟩).size = l.length := rfl
  rw [bytesD_eq, ← List.map_take, List.take_range, hsz, show min l.length (4 * nw (ByteArray.mk ⟨l⟩)) = l.length by unfold nw; rw [hsz]; omega]
  unfold strI
  rw [flat_u8, List.map_map, List.map_map]
  congr 2
  refine List.ext_getElem (by simp) fun i h1 h2 => ?_
  rw [List.getElem_map, List.getElem_range]
  have hb : byteD (ByteArray.mk ⟨l⟩) i = ((l[i].toNat : Nat) : Int) := by
    unfold byteD byteAt
    rw [if_pos (by rw [hsz]; exact h2)]
    simp [h2]
  show Sx.byteOf (SVal.int .u8 (byteD (ByteArray.mk ⟨l⟩) i)) = l[i]
  rw [hb]
  show UInt8.ofNat (((l[i].toNat : Nat) : Int)).toNat = l[i]
  rw [Int.toNat_natCast]
  exact UInt8.ofNat_toNat
theorem bytesD_len (s : ByteArray) (d : Nat) : (bytesD s d).length = 4 * d := by rw [bytesD_eq]; simp
theorem getD_appL {l m : List ByteArray} {i : Nat} (h : i < l.length) : (l ++ m).getD i nilB = l.getD i nilB := Sx.getD_append_left h
theorem headD_app {l m : List ByteArray} (h : l ≠ []) : (l ++ m).headD nilB = l.headD nilB := by
  cases l with
  | nil => exact absurd rfl h
  | cons a l => rfl
theorem headD_get {l : List ByteArray} : l.headD nilB = l.getD 0 nilB := by cases l <;> rfl
theorem tail_get {l : List ByteArray} {j : Nat} : l.tail.getD j nilB = l.getD (j + 1) nilB := by cases l <;> simp
/-- what a receiver's relation wants of the words -/
theorem RelR.move {a n z t : Int} {l l' : List Int} {y : Rcv} {A A' : Ab} (h : RelR a n z t l y A) (hh : hdW a l' = hdW a l) (e1 : A'.got = A.got) (e2 : A'.rp = A.rp) (e3 : A'.rd = A.rd) (e4 : A'.rq = A.rq) (hq : ∃ m, A'.q = A.q ++ m) : RelR a n z t l' y A' := by
  obtain ⟨m, hq⟩ := hq
  have hd : A.q ≠ [] → A'.q.headD nilB = A.q.headD nilB := fun h => by rw [hq]; exact headD_app h
  refine ⟨h.at', h.en, h.ez, h.et, h.t0, by rw [e1]; exact h.got, by rw [e2]; exact h.p, by rw [e2]; exact h.p3, by rw [e1]; exact h.le, h.hd, h.bl, ?_, ?_, ?_, ?_⟩
  · rw [e2, e4, hh, hq]
    intro hp
    have := h.s1 hp
    exact ⟨this.1, by rw [List.length_append]; omega⟩
  · rw [e2, e3, hh]
    intro hp
    obtain ⟨k1, k2, k3, k4, k5⟩ := h.s2 hp
    rw [hd k2]
    exact ⟨k1, by rw [hq]; simp [k2], k3, k4, k5⟩
  · rw [e2, e3]
    intro hp
    rw [hd (h.s2 (by omega)).2.1]
    exact h.e2 hp
  · rw [e2, e3]
    intro hp
    rw [hd (h.s2 (by omega)).2.1]
    exact h.e3 hp
/-- what a sender's relation wants -/
theorem RelS.move {a n z : Int} {ms : List ByteArray} {l l' : List Int} {x : Snd} {A A' : Ab} (h : RelS a n z ms l x A) (hh : tlW a l' = tlW a l) (hl : ∀ s d, Lies a n z l x.tail s d → Lies a n z l' x.tail s d) (e1 : A'.sent = A.sent) (e2 : A'.sp = A.sp) (e3 : A'.sd = A.sd) (e4 : A'.sq = A.sq) (hq : A'.q.length ≤ A.q.length) : RelS a n z ms l' x A' := by
  refine ⟨h.at', h.en, h.ez, by rw [e1]; exact h.sent, by rw [e2]; exact h.p, by rw [e2]; exact h.p3, by rw [e1]; exact h.le, h.ml, h.fit, h.tl, ?_, ?_, ?_, ?_⟩
  · rw [e2, e4, hh]
    intro hp
    obtain ⟨k1, k2, k3⟩ := h.s1 hp
    exact ⟨k1, by omega, k3⟩
  · unfold msg
    rw [e1, e2, e3, hh]
    intro hp
    obtain ⟨k1, k2, k3, k4, k5⟩ := h.s2 hp
    exact ⟨k1, k2, by omega, k4, hl _ _ k5⟩
  · unfold msg
    rw [e1, e2, e3]; exact h.e2
  · unfold msg
    rw [e1, e2, e3]; exact h.e3
theorem hd_in {k : Nat} {a n z : Int} {l : List Int} (h : RelM k a n z l) : 0 ≤ hdW a l ∧ hdW a l < 4294967296 := u32s_getD h.us _
theorem tl_in {k : Nat} {a n z : Int} {l : List Int} (h : RelM k a n z l) : 0 ≤ tlW a l ∧ tlW a l < 4294967296 := u32s_getD h.us _
set_option maxHeartbeats 1000000 in
/-- a sender's step -/
theorem rel_s {k : Nat} {a n z t : Int} {ms : List ByteArray} {l : List Int} {x : Snd} {y : Rcv} {A : Ab} (h : Rel k a n z t ms l x y A) :
    Rel k a n z t ms (sNext x ms l).2 (sNext x ms l).1 y (aStepS n ms A) ∧ sStill (sNext x ms l).1 ms = ((aStepS n ms A).sent.length == ms.length) := by
  have key : Rel k a n z t ms (sNext x ms l).2 (sNext x ms l).1 y (aStepS n ms A) → (Rel k a n z t ms (sNext x ms l).2 (sNext x ms l).1 y (aStepS n ms A) ∧ sStill (sNext x ms l).1 ms = ((aStepS n ms A).sent.length == ms.length)) := by
    intro hr
    refine ⟨hr, ?_⟩
    unfold sStill
    rw [hr.s.sent]
  refine key ?_
  obtain ⟨hm, hq, hs, hr⟩ := h
  have hhd := hd_in hm
  have htl := tl_in hm
  have hn := hm.ring.n
  have hz := hm.ring.z
  have ha := hm.at0
  obtain ⟨at', n', z', head, tail, did, sent, p⟩ := x
  obtain ⟨sent', sp, sd, sq, got, rp, rd, rq, q⟩ := A
  obtain ⟨i1, i2, i3, i4, i5, i6, i7, i8, i9, i10, s1, s2, e2, e3⟩ := hs
  simp only at i1 i2 i3 i4 i5 i6 i7 i10 s1 s2 e2 e3 hq hr
  subst i1 i2 i3 i4 i5
  by_cases hov : sent.length = ms.length
  · simp only [sNext, aStepS, if_pos hov]
    exact ⟨hm, hq, ⟨rfl, rfl, rfl, rfl, rfl, i6, i7, i8, i9, i10, s1, s2, e2, e3⟩, hr⟩
  have hlt : sent.length < ms.length := by omega
  have hfm := fit_get i9 hlt
  have hnw := nw_le hfm
  have hql := hq.cap
  have hp : p = 0 ∨ p = 1 ∨ p = 2 ∨ p = 3 := by omega
  rcases hp with rfl | rfl | rfl | rfl <;> simp only [sNext, aStepS, if_neg hov]
  · refine ⟨hm, hq, ⟨rfl, rfl, rfl, rfl, rfl, by simp only; omega, i7, i8, i9, i10, fun _ => ⟨?_, Nat.le_refl _, hql⟩, fun h => by simp only at h; omega, fun h => (by cases h), fun h => (by cases h)⟩, hr.move rfl rfl rfl rfl rfl ⟨[], by simp⟩⟩
    have := hq.tl
    simp only [hdW, tlW] at *
    omega
  · obtain ⟨k1, k2, k3⟩ := s1 rfl
    simp only [tlW] at k1
    rw [k1]
    by_cases hf : n' ≤ (sq : Int)
    · simp only [if_pos hf]
      exact ⟨hm, hq, ⟨rfl, rfl, rfl, rfl, rfl, by simp only; omega, by simp only [List.length_append, List.length_singleton]; omega, i8, i9, htl, fun h => (by cases h), fun h => by simp only at h; omega, fun h => (by cases h), fun h => (by cases h)⟩, hr.move rfl rfl rfl rfl rfl ⟨[], by simp⟩⟩
    · simp only [if_neg hf]
      refine ⟨hm, hq, ⟨rfl, rfl, rfl, rfl, rfl, by simp only; omega, i7, i8, i9, htl, fun h => (by cases h), fun _ => ⟨hlt, rfl, by simp only at k2 ⊢; omega, rfl, ⟨fun h => by simp only at h; omega, fun j h => by simp only at h; omega⟩⟩, fun _ => Nat.zero_le _, fun h => (by cases h)⟩, hr.move rfl rfl rfl rfl rfl ⟨[], by simp⟩⟩
  · obtain ⟨k1, k2, k3, k4, k5⟩ := s2 (by omega)
    have k6 := e2 rfl
    subst k4
    simp only [msg] at k5 k6 k3
    generalize hM : ms.getD sent.length nilB = M at *
    have hpl := plc_in (i := tail) (d := (sd : Int)) (hm.on (c := 0) (by omega)) ⟨by omega, by omega⟩
    have hP : ((plc at' n' z' tail + (sd : Int)).toNat : Int) = plc at' n' z' tail + (sd : Int) := by omega
    have hh : ∀ v, hdW at' (l.set (plc at' n' z' tail + (sd : Int)).toNat v) = hdW at' l := fun v => Sx.getD_set_ne (by omega) _ _
    have ht : ∀ v, tlW at' (l.set (plc at' n' z' tail + (sd : Int)).toNat v) = tlW at' l := fun v => Sx.getD_set_ne (by omega) _ _
    have hpk := packI_le M ((sd : Int) - 1).toNat
    have hll := hm.ll
    have hv : 0 ≤ (if 0 < (sd : Int) then packI M ((sd : Int) - 1).toNat else (M.size : Int)) ∧ (if 0 < (sd : Int) then packI M ((sd : Int) - 1).toNat else (M.size : Int)) < 4294967296 := by
      split
      · exact hpk
      · have := hfm.2; omega
    have hL : Lies at' n' z' (l.set (plc at' n' z' tail + (sd : Int)).toNat (if 0 < (sd : Int) then packI M ((sd : Int) - 1).toNat else (M.size : Int))) tail M (sd + 1) := by
      refine k5.more ha hm.ring (by omega) (fun h => ?_) fun h => ?_
      · rw [if_neg (by omega)]
      · rw [if_pos (by omega)]; congr 1; omega
    have hif : (if ((M.size : Int) + 3) / 4 < (sd : Int) + 1 then 3 else 2) = (if nw M < sd + 1 then 3 else 2) := by
      unfold nw
      by_cases h : (M.size + 3) / 4 < sd + 1
      · rw [if_pos h, if_pos (by omega)]
      · rw [if_neg h, if_neg (by omega)]
    refine ⟨hm.set _ hv, ⟨?_, hql, hq.fit, fun j hj => ?_⟩, ?_, hr.move (hh _) rfl rfl rfl rfl ⟨[], by simp⟩⟩
    · rw [hh, ht]; exact hq.tl
    · rw [hh]
      simp only at hj
      have hqt := hq.tl
      have hfq := nw_le (fit_get hq.fit hj)
      refine (hq.lies j hj).other ha hm.ring ?_ (by omega) (by omega)
      rw [k2, hqt]
      exact mod_ne hm.ring (by omega) (by omega)
    · rw [hif]
      refine ⟨rfl, rfl, rfl, rfl, rfl, by simp only; split <;> omega, i7, i8, i9, i10, fun h => ?_, fun _ => ⟨hlt, by rw [ht]; exact k2, k3, by simp, by simp only [msg]; rw [hM]; exact hL⟩, fun h => ?_, fun h => ?_⟩
      · simp only at h; split at h <;> cases h
      · simp only [msg] at h ⊢
        rw [hM]
        split at h
        · cases h
        · omega
      · simp only [msg] at h ⊢
        rw [hM]
        split at h
        · omega
        · cases h
  · obtain ⟨k1, k2, k3, k4, k5⟩ := s2 (by omega)
    have k6 := e3 rfl
    simp only [msg] at k5 k6 k3
    generalize hM : ms.getD sent.length nilB = M at *
    have hm0 : 1 + (z' + 3) / 4 ≤ n' * (1 + (z' + 3) / 4) := by
      have := Int.mul_le_mul_of_nonneg_right hn.1 (show 0 ≤ 1 + (z' + 3) / 4 by omega)
      omega
    have hroom := hm.room
    have hll := hm.ll
    have hh : ∀ v, hdW at' (l.set (at' + 1).toNat v) = hdW at' l := fun v => Sx.getD_set_ne (by omega) _ _
    have ht : ∀ v, tlW at' (l.set (at' + 1).toNat v) = v := fun v => Sx.getD_set_self (by omega) _ _
    have hqt := hq.tl
    refine ⟨hm.set _ (by omega), ⟨?_, by simp only [List.length_append, List.length_singleton]; omega, ?_, fun j hj => ?_⟩, ⟨rfl, rfl, rfl, rfl, rfl, by simp only; omega, by simp only [List.length_append, List.length_singleton]; omega, i8, i9, i10, fun h => (by cases h), fun h => by simp only at h; omega, fun h => (by cases h), fun h => (by cases h)⟩, hr.move (hh _) rfl rfl rfl rfl ⟨[M], rfl⟩⟩
    · rw [hh, ht, k2, hqt]
      simp only [List.length_append, List.length_singleton]
      omega
    · intro s hs
      rcases List.mem_append.1 hs with hs | hs
      · exact hq.fit s hs
      · rw [List.mem_singleton.1 hs]; exact hfm
    · rw [hh]
      simp only [List.length_append, List.length_singleton] at hj
      by_cases hjq : j < q.length
      · rw [getD_appL hjq]
        exact (hq.lies j hjq).low ha hm.ring (by omega)
      · obtain rfl : j = q.length := by omega
        rw [Sx.getD_append_len, ← hqt, ← k2, ← k6]
        exact k5.low ha hm.ring (by omega)
set_option maxHeartbeats 1000000 in
/-- a receiver's step -/
theorem rel_r {k : Nat} {a n z t : Int} {ms : List ByteArray} {l : List Int} {x : Snd} {y : Rcv} {A : Ab} (h : Rel k a n z t ms l x y A) :
    Rel k a n z t ms (rNext y l).2 x (rNext y l).1 (aStepR t A) ∧ rStill (rNext y l).1 = (((aStepR t A).got.length : Int) == t) := by
  have key : Rel k a n z t ms (rNext y l).2 x (rNext y l).1 (aStepR t A) → (Rel k a n z t ms (rNext y l).2 x (rNext y l).1 (aStepR t A) ∧ rStill (rNext y l).1 = (((aStepR t A).got.length : Int) == t)) := by
    intro hr
    refine ⟨hr, ?_⟩
    unfold rStill
    rw [hr.r.got, hr.r.et]
  refine key ?_
  obtain ⟨hm, hq, hs, hr⟩ := h
  have hhd := hd_in hm
  have htl := tl_in hm
  have hn := hm.ring.n
  have hz := hm.ring.z
  have ha := hm.at0
  obtain ⟨at', n', z', head, tail, did, times, ln, b, got, p⟩ := y
  obtain ⟨sent', sp, sd, sq, got', rp, rd, rq, q⟩ := A
  obtain ⟨i1, i2, i3, i4, i5, i6, i7, i8, i9, i10, i11, s1, s2, e2, e3⟩ := hr
  simp only at i1 i2 i3 i4 i6 i7 i8 i9 i10 i11 s1 s2 e2 e3 hq hs
  subst i1 i2 i3 i4 i6 i7
  by_cases hov : (got.length : Int) = times
  · simp only [rNext, aStepR, if_pos hov]
    exact ⟨hm, hq, hs, ⟨rfl, rfl, rfl, rfl, i5, rfl, rfl, i8, i9, i10, i11, s1, s2, e2, e3⟩⟩
  have hlt : (got.length : Int) < times := by omega
  have hql := hq.cap
  have hp : p = 0 ∨ p = 1 ∨ p = 2 ∨ p = 3 := by omega
  have hqt := hq.tl
  rcases hp with rfl | rfl | rfl | rfl <;> simp only [rNext, aStepR, if_neg hov]
  · exact ⟨hm, hq, hs.move rfl (fun _ _ h => h) rfl rfl rfl rfl (Nat.le_refl _), ⟨rfl, rfl, rfl, rfl, i5, rfl, rfl, by simp only; omega, i9, i10, i11, fun _ => ⟨hqt, Nat.le_refl _⟩, fun h => by simp only at h; omega, fun h => (by cases h), fun h => (by cases h)⟩⟩
  · obtain ⟨k1, k2⟩ := s1 rfl
    simp only [hdW] at k1 hhd
    by_cases hf : rq = 0
    · have hf' : l.getD at'.toNat 0 = tail := by subst hf; omega
      simp only [if_pos hf', if_pos hf]
      exact ⟨hm, hq, hs.move rfl (fun _ _ h => h) rfl rfl rfl rfl (Nat.le_refl _), ⟨rfl, rfl, rfl, rfl, i5, rfl, rfl, by simp only; omega, by simp only [List.length_append, List.length_singleton]; omega, hhd, by simp, fun h => (by cases h), fun h => by simp only at h; omega, fun h => (by cases h), fun h => (by cases h)⟩⟩
    · have hf' : ¬ l.getD at'.toNat 0 = tail := by omega
      simp only [if_neg hf', if_neg hf]
      exact ⟨hm, hq, hs.move rfl (fun _ _ h => h) rfl rfl rfl rfl (Nat.le_refl _), ⟨rfl, rfl, rfl, rfl, i5, rfl, rfl, by simp only; omega, i9, hhd, by simp, fun h => (by cases h), fun _ => ⟨rfl, fun h => by simp only at h; rw [h] at k2; simp only [List.length_nil] at k2; omega, rfl, fun h => by simp only at h; omega, rfl⟩, fun _ => Nat.zero_le _, fun h => (by cases h)⟩⟩
  · obtain ⟨k1, k2, k3, k4, k5⟩ := s2 (by omega)
    have k6 := e2 rfl
    subst k3 k5
    have hq0 : 0 < q.length := List.length_pos_iff.2 k2
    have hL := hq.lies 0 hq0
    rw [headD_get] at k4 k6 ⊢
    have hfm := fit_get hq.fit hq0
    generalize hM : q.getD 0 nilB = M at *
    have hi : (hdW at' l + ((0 : Nat) : Int)) % 4294967296 = head := by rw [k1]; omega
    rw [hi] at hL
    have hnw := nw_le hfm
    have hnz : ((M.size : Int) + 3) / 4 = (nw M : Int) := by unfold nw; omega
    by_cases hd : rd = 0
    · subst hd
      have hw : l.getD (plc at' n' z' head + ((0 : Nat) : Int)).toNat 0 = (M.size : Int) := by
        rw [show (plc at' n' z' head + ((0 : Nat) : Int)).toNat = (plc at' n' z' head).toNat by omega]
        exact hL.1 (by omega)
      have himm : imin (imax (M.size : Int) 1) z' = (M.size : Int) := by
        have := hfm.1; have := hfm.2
        unfold imin imax; split <;> split <;> omega
      have h0 : (((0 : Nat) : Int) = 0) := rfl
      simp only [if_pos h0, hw, himm, hnz]
      have hif : (if (nw M : Int) < 1 then 3 else 2) = (if nw M < 0 + 1 then 3 else 2) := by
        rw [if_neg (by omega), if_neg (by omega)]
      rw [hif]
      refine ⟨hm, hq, hs.move rfl (fun _ _ h => h) rfl rfl rfl rfl (Nat.le_refl _), ⟨rfl, rfl, rfl, rfl, i5, rfl, rfl, by simp only; split <;> omega, i9, i10, i11, fun h => ?_, fun _ => ⟨k1, k2, rfl, fun _ => by simp only [headD_get]; rw [hM], by simp only [headD_get]; rw [hM]⟩, fun h => ?_, fun h => ?_⟩⟩
      · simp only at h; split at h <;> cases h
      · simp only [headD_get]; rw [hM]; omega
      · simp only [headD_get] at h ⊢; rw [hM]
        split at h
        · omega
        · cases h
    · have h0 : ¬ ((rd : Int) = 0) := by omega
      have hw : l.getD (plc at' n' z' head + (rd : Int)).toNat 0 = packI M (rd - 1) := by
        rw [← hL.2 (rd - 1) (by omega)]
        congr 2; omega
      have k4' := k4 (by omega)
      subst k4'
      simp only [if_neg h0, hw, hnz]
      have hif : (if (nw M : Int) < (rd : Int) + 1 then 3 else 2) = (if nw M < rd + 1 then 3 else 2) := by
        by_cases h : nw M < rd + 1
        · rw [if_pos h, if_pos (by omega)]
        · rw [if_neg h, if_neg (by omega)]
      have hb : bytesD M (rd - 1) ++ bytesI (packI M (rd - 1)) = bytesD M rd := by
        rw [← bytesD_succ, show rd - 1 + 1 = rd by omega]
      rw [hif, hb]
      refine ⟨hm, hq, hs.move rfl (fun _ _ h => h) rfl rfl rfl rfl (Nat.le_refl _), ⟨rfl, rfl, rfl, rfl, i5, rfl, rfl, by simp only; split <;> omega, i9, i10, by simp only [bytesD_len]; omega, fun h => ?_, fun _ => ⟨k1, k2, by simp, fun _ => by simp only [headD_get]; rw [hM], by simp only [headD_get]; rw [hM]; rfl⟩, fun h => ?_, fun h => ?_⟩⟩
      · simp only at h; split at h <;> cases h
      · simp only [headD_get] at h ⊢; rw [hM]
        split at h
        · cases h
        · omega
      · simp only [headD_get] at h ⊢; rw [hM]
        split at h
        · omega
        · cases h
  · obtain ⟨k1, k2, k3, k4, k5⟩ := s2 (by omega)
    have k6 := e3 rfl
    have k4' := k4 (by omega)
    subst k5 k4' k6
    have hq0 : 0 < q.length := List.length_pos_iff.2 k2
    have hroom := hm.room
    have hll := hm.ll
    have hm0 : 1 + (z' + 3) / 4 ≤ n' * (1 + (z' + 3) / 4) := by
      have := Int.mul_le_mul_of_nonneg_right hn.1 (show 0 ≤ 1 + (z' + 3) / 4 by omega)
      omega
    have hh : ∀ v, hdW at' (l.set at'.toNat v) = v := fun v => Sx.getD_set_self (by omega) _ _
    have ht : ∀ v, tlW at' (l.set at'.toNat v) = tlW at' l := fun v => Sx.getD_set_ne (by omega) _ _
    have hst : strI (List.take (((q.headD nilB).size : Int)).toNat (bytesD (q.headD nilB) (nw (q.headD nilB) + 1 - 1))) = q.headD nilB := by
      rw [Int.toNat_natCast, Nat.add_sub_cancel]
      exact str_bytes _
    rw [hst]
    have hti : q.tail.length = q.length - 1 := List.length_tail
    refine ⟨hm.set _ (by omega), ⟨?_, by simp only; omega, fun s hs => hq.fit s (List.mem_of_mem_tail hs), fun j hj => ?_⟩, hs.move (ht _) (fun s d h => h.low ha hm.ring (by omega)) rfl rfl rfl rfl (by simp only; omega), ⟨rfl, rfl, rfl, rfl, i5, rfl, rfl, by simp only; omega, by simp only [List.length_append, List.length_singleton]; omega, i10, i11, fun h => (by cases h), fun h => by simp only at h; omega, fun h => (by cases h), fun h => (by cases h)⟩⟩
    · rw [hh, ht, hqt, k1]
      simp only [hti]
      omega
    · rw [hh]
      simp only [hti] at hj
      rw [tail_get]
      have := (hq.lies (j + 1) (by omega)).low (v := (head + 1) % 4294967296) (p := at'.toNat) ha hm.ring (by omega)
      rw [show ((head + 1) % 4294967296 + (j : Int)) % 4294967296 = (hdW at' l + ((j + 1 : Nat) : Int)) % 4294967296 by rw [k1]; omega]
      exact this
end Go.Proofs.YtdadfgeepinpbaaDoor

