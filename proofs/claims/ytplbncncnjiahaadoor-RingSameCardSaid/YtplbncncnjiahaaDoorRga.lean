/- The objects of this layer: what they do, step by step. -/
import Derived.Test.YtplbncncnjiahaaDoorSxC
import Derived.Test.YtplbncncnjiahaaDoorRows
/- Layer 12: the configuration. -/
namespace Go.Proofs.YtplbncncnjiahaaDoor
open Go Go.Proofs.YtplbncncnjiahaaDoor.Sx
set_option linter.unusedVariables false
/-- the package's variable, as it was laid -/
def encLook : Enc Unit := encOf 2 (fun _ => [.lit .u32 4294967295, .lit .u32 0, .lit .u32 0]) () (fun _ => rfl) (by intro env env' x vs h; simpa [DenL, Den] using h)
abbrev lookB : Blk := .ro encLook [()]
noncomputable def exI : IntKind → Bool := fun k => match k with | .i64 => true | _ => false
noncomputable def cfg0 : Cfg := { P := Tryd.prog, ex := exI, gl := [(0, 0)], sm := fun _ => none }
theorem cfg0_ok : SmOk cfg0 := by intro f g h; cases h
abbrev fnE (f i : Nat) : Prop := (T.ret (SVal.fn (Fn.func f) [SVal.ptr i 0] []) : T SVal) = T.ret (SVal.fn (Fn.func f) [SVal.ptr i 0] [])
theorem smClosedS_ok {c : Cfg} (hsm : SmOk c) {n : Nat} {f : FuncId} {ids : List Nat} {st0 : St} {b : Bool} {p : Prop} (h : (callF c n f [] st0).valE = some (p, .sb b)) (hp : p) (hcal : callable c.P f = true) (hnd : nodupB ids = true) (hgk : glKept ids c.gl = true) (hno : noFoot st0)
    (args : List SVal) (st : St) (s : SVal) (st' : St) (env : Env) (w : World) (vs : List Value) (hat : (smClosed ids st0 (.bl b) args st).at (s, st')) (hg : GlOk c.gl env) (hr : Rep env st w) (hd : DenL env args vs) :
    Calls c.P f ⟨vs⟩ w fun e w' => ∃ env' v, e = .returned v ∧ Ext env st w env' st' w' ∧ Rep env' st' w' ∧ Den env' s v := by
  unfold smClosed at hat
  split at hat
  · have hat : renSt ids st ids = some st0 ∧ SVal.bl b = s ∧ st = st' := by
      split at hat
      · simp only [T.at, Prod.mk.injEq] at hat
        exact ⟨rfl, hat⟩
      · simpa only [T.at, Prod.mk.injEq] using hat
    obtain ⟨hst, rfl, rfl⟩ := hat
    simp only [DenL] at hd
    subst hd
    obtain ⟨hr0, hf0⟩ := rep_sub hr hnd hst
    obtain ⟨st1, h1⟩ := T.valE_at h hp
    refine (callF_ok hsm n f [] st0 (.sb b) st1 (subEnv env ids) w [] h1 hcal (glKept_ok hgk hg) hr0 (by simp [DenL])).mono ?_
    rintro e w' ⟨env1, v, rfl, hx, _, hv⟩
    have hk : ∀ x, x < w.heap.size → w'.heap[x]? = w.heap[x]? := by
      intro x hl
      refine hx.keep x hl ?_
      rintro ⟨id, e, b, he, hb, hx⟩
      rw [hno b (List.mem_of_getElem? hb)] at hx
      cases hx
    obtain ⟨k1, k2⟩ := rep_keep hr hx.size hk hx.calm
    exact ⟨env, v, rfl, k2, k1, by simpa only [Den] using hv⟩
  · exact hat.elim
set_option maxRecDepth 100000 in
theorem awake_val : (callF cfg0 400 9 [] [lookB]).valE = some (fnE 30 6 ∧ fnE 42 6 ∧ fnE 45 6 ∧ fnE 45 6 ∧ fnE 51 6 ∧ fnE 31 7 ∧ fnE 43 7 ∧ fnE 47 7 ∧ fnE 47 7 ∧ fnE 52 7 ∧ True, .sb true) := by kernel_rfl
noncomputable def cfg : Cfg := { P := Tryd.prog, ex := exI, gl := [(0, 0)], sm := fun f => match f with | 9 => some (smClosed [0] [lookB] (.bl true)) | _ => none }
theorem cfg_ok : SmOk cfg := by
  intro f g h
  simp only [cfg] at h
  split at h
  · simp only [Option.some.injEq] at h; subst h
    exact smClosedS_ok cfg0_ok awake_val ⟨rfl, rfl, rfl, rfl, rfl, rfl, rfl, rfl, rfl, rfl, trivial⟩ (by kernel_rfl) rfl rfl (by intro b hb e; rw [List.mem_singleton.1 hb]; rfl)
  · cases h
end Go.Proofs.YtplbncncnjiahaaDoor

/- Layer 12: how many words a ring needs: pieces. -/
namespace Go.Proofs.YtplbncncnjiahaaDoor
open Go Go.Proofs.YtplbncncnjiahaaDoor.Sx
set_option linter.unusedVariables false
noncomputable abbrev cfgM : Cfg := cfg0
theorem cfgM_ok : SmOk cfgM := cfg0_ok
theorem gl_lt {k : Nat} (h : 0 < k) : ∀ p ∈ cfgM.gl, p.2 < k := by
  intro p hp
  rw [List.mem_singleton.1 hp]; exact h
/-- the powers of two that a count may be -/
def powB (p : Int) : Bool := decide (p = 1 ∨ p = 2 ∨ p = 4 ∨ p = 8 ∨ p = 16 ∨ p = 32 ∨ p = 64 ∨ p = 128 ∨ p = 256 ∨ p = 512 ∨ p = 1024 ∨ p = 2048 ∨ p = 4096 ∨ p = 8192 ∨ p = 16384 ∨ p = 32768)
def powN (p : Nat) : Bool := decide (p = 1 ∨ p = 2 ∨ p = 4 ∨ p = 8 ∨ p = 16 ∨ p = 32 ∨ p = 64 ∨ p = 128 ∨ p = 256 ∨ p = 512 ∨ p = 1024 ∨ p = 2048 ∨ p = 4096 ∨ p = 8192 ∨ p = 16384 ∨ p = 32768)
theorem powB_nat (p : Nat) : powB (p : Int) = powN p := by unfold powB powN; exact decide_eq_decide.2 (by omega)
/-- how many words, and what is wrong -/
def wordsP (p s : Int) : Int × Int :=
  if p < 1 ∨ 32768 < p ∨ powB p = false then (0, 120) else if s < 1 ∨ 32 < s then (0, 121) else (2 + p * (1 + (s + 3) / 4), 0)
end Go.Proofs.YtplbncncnjiahaaDoor

namespace Go.Proofs.YtplbncncnjiahaaDoor
open Go Go.Proofs.YtplbncncnjiahaaDoor.Sx
set_option linter.unusedVariables false
set_option maxRecDepth 100000 in
theorem w_call {p s : Int} : callF cfgM 100 10 [.int .i64 p, .int .i64 s] [lookB] =
 

 (.br (decide (p < (1 : Int)))

 (.ret (.tup [.lit .i64 (0 : Int), .lit .i64 (120 : Int)], [.ro encLook [PUnit.unit]]))

 (.br (decide ((32768 : Int) < p))

 (.ret (.tup [.lit .i64 (0 : Int), .lit .i64 (120 : Int)], [.ro encLook [PUnit.unit]]))

 (.br (decide ((1 : Int) ≤ IntKind.u32.wrap p))

 (.br (decide (IntKind.u32.wrap p ≤ (32768 : Int)))

 (.br (!bitop BinOp.and IntKind.u32 (IntKind.u32.wrap p) (IntKind.u32.wrap (IntKind.u32.wrap p - (1 : Int))) == (0 : Int))

 (.ret (.tup [.lit .i64 (0 : Int), .lit .i64 (120 : Int)], [.ro encLook [PUnit.unit]]))

 (.br (decide (IntKind.u32.wrap p < (0 : Int)))

 (.ret (.tup [.lit .i64 (0 : Int), .lit .i64 (120 : Int)], [.ro encLook [PUnit.unit]]))

 (.br (decide (s < (1 : Int)))

 (.ret (.tup [.lit .i64 (0 : Int), .lit .i64 (121 : Int)], [.ro encLook [PUnit.unit]]))

 (.br (decide ((32 : Int) < s))

 (.ret (.tup [.lit .i64 (0 : Int), .lit .i64 (121 : Int)], [.ro encLook [PUnit.unit]]))

 (.need (inR .i64 (s + (3 : Int)))

 (.need (true)

 (.need (inR .i64 ((1 : Int) + IntKind.i64.wrap ((s + (3 : Int)).tdiv (4 : Int))))

 (.need (inR .i64 (p * ((1 : Int) + IntKind.i64.wrap ((s + (3 : Int)).tdiv (4 : Int)))))

 (.need (inR .i64 ((2 : Int) + p * ((1 : Int) + IntKind.i64.wrap ((s + (3 : Int)).tdiv (4 : Int)))))

 (.ret (.tup [.int .i64 ((2 : Int) + p * ((1 : Int) + IntKind.i64.wrap ((s + (3 : Int)).tdiv (4 : Int)))), .lit .i64 (0 : Int)], [.ro encLook [PUnit.unit]])))))))))))

 (.ret (.tup [.lit .i64 (0 : Int), .lit .i64 (120 : Int)], [.ro encLook [PUnit.unit]])))

 (.ret (.tup [.lit .i64 (0 : Int), .lit .i64 (120 : Int)], [.ro encLook [PUnit.unit]]))))) := by kernel_rfl
set_option maxRecDepth 100000 in
theorem pl_call {p : Int} : callF cfgM 100 29 [.int .u32 p] [lookB] =
 

 (.br ((1 : Int) == p)

 (.ret (.bl true, [.ro encLook [PUnit.unit]]))

 (.br ((2 : Int) == p)

 (.ret (.bl true, [.ro encLook [PUnit.unit]]))

 (.br ((4 : Int) == p)

 (.ret (.bl true, [.ro encLook [PUnit.unit]]))

 (.br ((8 : Int) == p)

 (.ret (.bl true, [.ro encLook [PUnit.unit]]))

 (.br ((16 : Int) == p)

 (.ret (.bl true, [.ro encLook [PUnit.unit]]))

 (.br ((32 : Int) == p)

 (.ret (.bl true, [.ro encLook [PUnit.unit]]))

 (.br ((64 : Int) == p)

 (.ret (.bl true, [.ro encLook [PUnit.unit]]))

 (.br ((128 : Int) == p)

 (.ret (.bl true, [.ro encLook [PUnit.unit]]))

 (.br ((256 : Int) == p)

 (.ret (.bl true, [.ro encLook [PUnit.unit]]))

 (.br ((512 : Int) == p)

 (.ret (.bl true, [.ro encLook [PUnit.unit]]))

 (.br ((1024 : Int) == p)

 (.ret (.bl true, [.ro encLook [PUnit.unit]]))

 (.br ((2048 : Int) == p)

 (.ret (.bl true, [.ro encLook [PUnit.unit]]))

 (.br ((4096 : Int) == p)

 (.ret (.bl true, [.ro encLook [PUnit.unit]]))

 (.br ((8192 : Int) == p)

 (.ret (.bl true, [.ro encLook [PUnit.unit]]))

 (.br ((16384 : Int) == p)

 (.ret (.bl true, [.ro encLook [PUnit.unit]]))

 (.br ((32768 : Int) == p)

 (.ret (.bl true, [.ro encLook [PUnit.unit]]))

 (.ret (.bl false, [.ro encLook [PUnit.unit]])))))))))))))))))) := by kernel_rfl
end Go.Proofs.YtplbncncnjiahaaDoor

/- Layer 12: how many words a ring needs. -/
namespace Go.Proofs.YtplbncncnjiahaaDoor
open Go Go.Proofs.YtplbncncnjiahaaDoor.Sx
set_option linter.unusedVariables false
theorem asI_int {env : Env} {s : SVal} {v : Value} {k : IntKind} {x : Int} {b : Bool} (h : asI s = some (k, x, b)) (hd : Den env s v) : Den env (.int k x) v := by rw [asI_den h hd]; simp [Den]
theorem asI_ren {s : SVal} {k : IntKind} {x : Int} {b : Bool} {m : List Nat} (h : asI s = some (k, x, b)) : ren m s = s := by
  cases s <;> simp [asI] at h <;> rfl
theorem and_pow : ∀ (k n : Nat), 1 ≤ n → n < 2 ^ (k + 1) → ((n &&& (n - 1)) = 0 ↔ ∃ j, j ≤ k ∧ n = 2 ^ j)
  | 0, n, h1, h2 => by
    have : n = 1 := by omega
    subst this
    exact ⟨fun _ => ⟨0, Nat.le_refl _, rfl⟩, fun _ => rfl⟩
  | k + 1, n, h1, h2 => by
    have hd : (n &&& (n - 1)) / 2 = n / 2 &&& (n - 1) / 2 := Nat.and_div_two
    have hm := @Nat.and_mod_two_eq_one n (n - 1)
    by_cases he : n % 2 = 1
    · by_cases h3 : n = 1
      · subst h3
        exact ⟨fun _ => ⟨0, Nat.zero_le _, rfl⟩, fun _ => rfl⟩
      · have e : (n - 1) / 2 = n / 2 := by omega
        rw [e, Nat.and_self] at hd
        refine ⟨fun h => by rw [h] at hd; omega, ?_⟩
        rintro ⟨j, _, hj⟩
        exfalso
        cases j with
        | zero => omega
        | succ j => rw [Nat.pow_succ] at hj; omega
    · have ih := and_pow k (n / 2) (by omega) (by rw [Nat.pow_succ] at h2; omega)
      have e : (n - 1) / 2 = n / 2 - 1 := by omega
      rw [e] at hd
      constructor
      · intro h
        rw [h] at hd
        obtain ⟨j, h4, h5⟩ := ih.1 (by omega)
        exact ⟨j + 1, by omega, by rw [Nat.pow_succ]; omega⟩
      · rintro ⟨j, h4, h5⟩
        cases j with
        | zero => omega
        | succ j =>
          have h6 := ih.2 ⟨j, by omega, by rw [Nat.pow_succ] at h5; omega⟩
          rw [h6] at hd
          have : ¬ (n &&& (n - 1)) % 2 = 1 := fun h => he (hm.1 h).1
          omega
theorem pow_nat {n : Nat} (h1 : 1 ≤ n) (h2 : n ≤ 32768) : ((n &&& (n - 1)) == 0) = powN n := by
  have h := and_pow 15 n h1 (by omega)
  have h3 : (∃ j, j ≤ 15 ∧ n = 2 ^ j) ↔ powN n = true := by
    unfold powN
    rw [decide_eq_true_eq]
    constructor
    · rintro ⟨j, hj, rfl⟩
      have : j = 0 ∨ j = 1 ∨ j = 2 ∨ j = 3 ∨ j = 4 ∨ j = 5 ∨ j = 6 ∨ j = 7 ∨ j = 8 ∨ j = 9 ∨ j = 10 ∨ j = 11 ∨ j = 12 ∨ j = 13 ∨ j = 14 ∨ j = 15 := by omega
      rcases this with rfl | rfl | rfl | rfl | rfl | rfl | rfl | rfl | rfl | rfl | rfl | rfl | rfl | rfl | rfl | rfl <;> decide
    · intro h
      rcases h with rfl | rfl | rfl | rfl | rfl | rfl | rfl | rfl | rfl | rfl | rfl | rfl | rfl | rfl | rfl | rfl
      · exact ⟨0, by omega, rfl⟩
      · exact ⟨1, by omega, rfl⟩
      · exact ⟨2, by omega, rfl⟩
      · exact ⟨3, by omega, rfl⟩
      · exact ⟨4, by omega, rfl⟩
      · exact ⟨5, by omega, rfl⟩
      · exact ⟨6, by omega, rfl⟩
      · exact ⟨7, by omega, rfl⟩
      · exact ⟨8, by omega, rfl⟩
      · exact ⟨9, by omega, rfl⟩
      · exact ⟨10, by omega, rfl⟩
      · exact ⟨11, by omega, rfl⟩
      · exact ⟨12, by omega, rfl⟩
      · exact ⟨13, by omega, rfl⟩
      · exact ⟨14, by omega, rfl⟩
      · exact ⟨15, by omega, rfl⟩
  rw [h3] at h
  cases hq : powN n with
  | true => exact beq_iff_eq.2 (h.2 hq)
  | false =>
    refine beq_eq_false_iff_ne.2 fun e => ?_
    have := h.1 e
    rw [hq] at this; cases this
theorem w32_mod (x : Int) : IntKind.u32.wrap x = x % 4294967296 := by
  simp [IntKind.wrap, IntKind.signed, IntKind.bits]
theorem low_u32 (x : Int) : ((low .u32 x : Nat) : Int) = x % 4294967296 := by
  have : 0 ≤ x % 4294967296 := by omega
  simp only [low, IntKind.bits]
  omega
theorem pow_and {p : Int} (h1 : 1 ≤ p) (h2 : p ≤ 32768) : (bitop .and .u32 p (p - 1) == 0) = powB p := by
  have e1 : low .u32 p = p.toNat := by have := low_u32 p; omega
  have e2 : low .u32 (p - 1) = p.toNat - 1 := by have := low_u32 (p - 1); omega
  have h3 := pow_nat (n := p.toNat) (by omega) (by omega)
  have e6 : powB p = powN p.toNat := by rw [← powB_nat]; congr 1; omega
  rw [e6, ← h3]
  have hle : p.toNat &&& (p.toNat - 1) ≤ p.toNat := Nat.and_le_left
  simp only [bitop, e1, e2, w32_mod]
  cases hq : (p.toNat &&& (p.toNat - 1)) == 0 with
  | true => rw [beq_iff_eq] at hq ⊢; rw [hq]; rfl
  | false => rw [beq_eq_false_iff_ne] at hq ⊢; omega
theorem wrap_i64 {x : Int} (h : -9223372036854775808 ≤ x ∧ x ≤ 9223372036854775807) : IntKind.i64.wrap x = x := wrap_inR (by rw [inR_i64]; omega)
theorem look_ren : renSt (List.range 1) [lookB] (List.range 1) = some [lookB] := by kernel_rfl
set_option maxHeartbeats 1000000 in
theorem words_call {p s : Int} : ∀ (env : Env) (w : World) (vs : List Value), GlOk cfgM.gl env → Rep env [lookB] w → DenL env [.int .i64 p, .int .i64 s] vs → Calls cfgM.P 10 ⟨vs⟩ w (Ends1 env [lookB] w (.tup [.int .i64 (wordsP p s).1, .int .i64 (wordsP p s).2]) [lookB]) := by
  refine ends_allg (c := cfgM) cfgM_ok w_call (by kernel_rfl) rfl look_ren rfl ?_
  have bad : ∀ {x : SVal × St}, (p < 1 ∨ 32768 < p ∨ powB p = false) → x = (.tup [.lit .i64 0, .lit .i64 120], [lookB]) → All (fun r => ∃ X, gen r.1 = gen (.tup [.int .i64 (wordsP p s).1, .int .i64 (wordsP p s).2]) ∧ genS r.2 = genS ([lookB] ++ X)) (.ret x) := by
    intro x h e
    subst e
    have : wordsP p s = (0, 120) := by unfold wordsP; rw [if_pos h]
    rw [this]
    exact all_ret ⟨[], rfl, rfl⟩
  refine all_brp (by simp only [decide_eq_true_eq] <;> exact Iff.rfl) (fun h1 => bad (.inl h1) rfl) (fun h1 => ?_)
  refine all_brp (by simp only [decide_eq_true_eq] <;> exact Iff.rfl) (fun h2 => bad (.inr (.inl h2)) rfl) (fun h2 => ?_)
  have e1 : IntKind.u32.wrap p = p := wrap_inR (by rw [inR_u32]; omega)
  have e2 : IntKind.u32.wrap (p - 1) = p - 1 := wrap_inR (by rw [inR_u32]; omega)
  rw [e1, e2, pow_and (by omega) (by omega)]
  refine all_brp (by simp only [decide_eq_true_eq]; exact Iff.rfl) (fun h3 => ?_) (fun h3 => by exfalso; omega)
  refine all_brp (by simp only [decide_eq_true_eq]; exact Iff.rfl) (fun h4 => ?_) (fun h4 => by exfalso; omega)
  refine all_br (fun h5 => bad (.inr (.inr (by simpa using h5))) rfl) (fun h5 => ?_)
  have h5' : powB p = true := by simpa using h5
  refine all_brp (by simp only [decide_eq_true_eq]; exact Iff.rfl) (fun h6 => by exfalso; omega) (fun h6 => ?_)
  have hn : ¬ (p < 1 ∨ 32768 < p ∨ powB p = false) := by rw [h5']; simp; omega
  refine all_brp (by simp only [decide_eq_true_eq]; exact Iff.rfl) (fun h7 => ?_) (fun h7 => ?_)
  · have : wordsP p s = (0, 121) := by unfold wordsP; rw [if_neg hn, if_pos (.inl h7)]
    rw [this]; exact all_ret ⟨[], rfl, rfl⟩
  refine all_brp (by simp only [decide_eq_true_eq]; exact Iff.rfl) (fun h8 => ?_) (fun h8 => ?_)
  · have : wordsP p s = (0, 121) := by unfold wordsP; rw [if_neg hn, if_pos (.inr h8)]
    rw [this]; exact all_ret ⟨[], rfl, rfl⟩
  have e3 : IntKind.i64.wrap ((s + 3).tdiv 4) = (s + 3) / 4 := by
    rw [Int.tdiv_eq_ediv_of_nonneg (by omega), wrap_i64 (by omega)]
  rw [e3]
  have hm : 0 ≤ p * (1 + (s + 3) / 4) ∧ p * (1 + (s + 3) / 4) ≤ 32768 * 9 := by
    have h9 : 1 + (s + 3) / 4 ≤ 9 := by omega
    have h10 : 0 ≤ 1 + (s + 3) / 4 := by omega
    exact ⟨Int.mul_nonneg (by omega) h10, Int.mul_le_mul (by omega) h9 h10 (by omega)⟩
  refine all_needq (by simp only [inR_i64]; exact Iff.rfl) (by omega) ?_
  refine all_need rfl fun _ => ?_
  refine all_needq (by simp only [inR_i64]; exact Iff.rfl) (by omega) ?_
  refine all_needq (by simp only [inR_i64]; exact Iff.rfl) (by omega) ?_
  refine all_needq (by simp only [inR_i64]; exact Iff.rfl) (by omega) ?_
  have : wordsP p s = (2 + p * (1 + (s + 3) / 4), 0) := by unfold wordsP; rw [if_neg hn, if_neg (by omega)]
  rw [this]; exact all_ret ⟨[], rfl, rfl⟩
noncomputable def gWords (args : List SVal) (S : St) : T (SVal × St) := match args with
  | [a, b] => match asI a, asI b with
    | some (.i64, p, _), some (.i64, s, _) => .eq (S = [lookB]) (.ret (.tup [.int .i64 (wordsP p s).1, .int .i64 (wordsP p s).2], [lookB]))
    | _, _ => .no 200
  | _ => .no 201
theorem gWords_ok (args : List SVal) (S : St) (v : SVal) (S' : St) (h : (gWords args S).at (v, S')) : PreOk cfgM 1 10 args S v S' := by
  unfold gWords at h
  split at h
  · rename_i a b
    split at h
    · rename_i p la s lb h1 h2
      obtain ⟨rfl, h⟩ := h
      simp only [T.at, Prod.mk.injEq] at h
      obtain ⟨rfl, rfl⟩ := h
      refine ⟨fun env w vs hg hr hd => ?_, rfl, rfl, fun _ _ h => .inr h, look_ren, by simp only [renL, asI_ren h1, asI_ren h2]⟩
      obtain ⟨u, us, rfl, h4, u2, us2, rfl, h5, rfl⟩ := hd
      exact words_call env w _ hg hr ⟨_, _, rfl, asI_int h1 h4, _, _, rfl, asI_int h2 h5, rfl⟩
    · exact h.elim
  · exact h.elim
theorem places_call {p : Int} : ∀ (env : Env) (w : World) (vs : List Value), GlOk cfgM.gl env → Rep env [lookB] w → DenL env [.int .u32 p] vs → Calls cfgM.P 29 ⟨vs⟩ w (Ends1 env [lookB] w (.sb (powB p)) [lookB]) := by
  refine ends_allg (c := cfgM) cfgM_ok pl_call (by kernel_rfl) rfl look_ren rfl ?_
  have yes : (powB p = true) → All (fun r => ∃ X, gen r.1 = gen (.sb (powB p)) ∧ genS r.2 = genS ([lookB] ++ X)) (.ret (.bl true, [lookB])) := by
    intro h; rw [h]; exact all_ret ⟨[], rfl, rfl⟩
  repeat' (refine all_brp (by simp only [beq_iff_eq]; exact Iff.rfl) (fun h => yes (decide_eq_true (by omega))) (fun h => ?_))
  have : powB p = false := decide_eq_false (by omega)
  rw [this]; exact all_ret ⟨[], rfl, rfl⟩
end Go.Proofs.YtplbncncnjiahaaDoor

/- Layer 12: the document's words, few, a sender's making: pieces. -/
namespace Go.Proofs.YtplbncncnjiahaaDoor
open Go Go.Proofs.YtplbncncnjiahaaDoor.Sx
set_option linter.unusedVariables false
noncomputable def gPlaces (args : List SVal) (S : St) : T (SVal × St) := match args with
  | [a] => match asI a with
    | some (.u32, p, _) => .eq (S = [lookB]) (.ret (.sb (powB p), [lookB]))
    | _ => .no 202
  | _ => .no 203
theorem gPlaces_ok (args : List SVal) (S : St) (v : SVal) (S' : St) (h : (gPlaces args S).at (v, S')) : PreOk cfgM 1 29 args S v S' := by
  unfold gPlaces at h
  split at h
  · rename_i a
    split at h
    · rename_i p la h1
      obtain ⟨rfl, h⟩ := h
      simp only [T.at, Prod.mk.injEq] at h
      obtain ⟨rfl, rfl⟩ := h
      refine ⟨fun env w vs hg hr hd => ?_, rfl, rfl, fun _ _ h => .inr h, look_ren, by simp only [renL, asI_ren h1]⟩
      obtain ⟨u, us, rfl, h4, rfl⟩ := hd
      exact places_call env w _ hg hr ⟨_, _, rfl, asI_int h1 h4, rfl⟩
    · exact h.elim
  · exact h.elim
noncomputable def cfgN : Cfg := { P := Tryd.prog, ex := exI, gl := [(0, 0)], sm := fun f => match f with
  | 10 => some (smPre 1 gWords)
  | 29 => some (smPre 1 gPlaces)
  | _ => none }
theorem cfgN_ok : SmOk cfgN := by
  intro f g h
  simp only [cfgN] at h
  split at h
  · simp only [Option.some.injEq] at h; subst h
    exact smPre_ok (c := cfgM) (gl_lt (by omega)) gWords_ok
  · simp only [Option.some.injEq] at h; subst h
    exact smPre_ok (c := cfgM) (gl_lt (by omega)) gPlaces_ok
  · cases h
noncomputable def bW : Code := Tryd.f11.body.getD .skip
noncomputable def cW : Code := restC 4 bW
noncomputable def regW : Code := lft (lft cW)
noncomputable def blkW : Code := rgt (lft cW)
noncomputable def roundW : Code := lft (lft blkW)
noncomputable def tmW : Code := lft roundW
noncomputable def bbW : Code := lft (lft (rgt roundW))
noncomputable def incW : Code := rgt (rgt roundW)
noncomputable def endW : Code := rgt cW
abbrev vW (p s k i : Int) : List SVal := [.int .i64 p, .int .i64 s, .int .i64 k, .int .i64 i]
noncomputable def bF : Code := Tryd.f8.body.getD .skip
noncomputable def cF : Code := restC 2 bF
noncomputable def regF : Code := lft (lft cF)
noncomputable def blkF : Code := rgt (lft cF)
noncomputable def roundF : Code := lft (lft blkF)
noncomputable def tmF : Code := lft roundF
noncomputable def bbF : Code := lft (lft (rgt roundF))
noncomputable def incF : Code := rgt (rgt roundF)
noncomputable def endF : Code := rgt cF
abbrev sF (l : List ByteArray) : St := [lookB, .ro encStr l]
abbrev aF (l : List ByteArray) (cap : Nat) : SVal := .sli 1 (.c 0) 1 (.v l.length) (some (.v cap))
noncomputable def bS : Code := Tryd.f12.body.getD .skip
noncomputable def cS : Code := restC 2 bS
noncomputable def regS : Code := lft (lft cS)
noncomputable def blkS : Code := rgt (lft cS)
noncomputable def roundS : Code := lft (lft blkS)
noncomputable def rsS : Code := restC 2 roundS
noncomputable def bbS : Code := lft (lft rsS)
noncomputable def incS : Code := rgt rsS
noncomputable def endS : Code := rgt cS
abbrev sS (l : List ByteArray) : St := [lookB, .vec encStr l 9]
abbrev aS (l : List ByteArray) : SVal := .sli 1 (.c 0) 1 (.v l.length) none
end Go.Proofs.YtplbncncnjiahaaDoor

namespace Go.Proofs.YtplbncncnjiahaaDoor
open Go Go.Proofs.YtplbncncnjiahaaDoor.Sx
set_option linter.unusedVariables false
set_option maxRecDepth 100000 in
theorem rw_pre {p s : Int} : (execN cfgN 100 4 bW ([.int .i64 p, .int .i64 s] ++ List.replicate 35 .bad) [lookB]).bind (canonK 1 [(0,0)] 37 [0, 1, 6, 4, 5]) =
 

 (.br (decide (p < (1 : Int)))

 (.ret (.ret, [.int .i64 p, .int .i64 s, .bad, .lit .i64 (0 : Int), .lit .i64 (120 : Int)], [.ro encLook [PUnit.unit]]))

 (.br (decide ((32768 : Int) < p))

 (.ret (.ret, [.int .i64 p, .int .i64 s, .bad, .lit .i64 (0 : Int), .lit .i64 (120 : Int)], [.ro encLook [PUnit.unit]]))

 (.eq ([Blk.ro encLook [PUnit.unit]] = [Blk.ro encLook [PUnit.unit]])

 (.br (!decide (IntKind.u32.wrap p = (1 : Int) ∨ IntKind.u32.wrap p = (2 : Int) ∨ IntKind.u32.wrap p = (4 : Int) ∨ IntKind.u32.wrap p = (8 : Int) ∨ IntKind.u32.wrap p = (16 : Int) ∨ IntKind.u32.wrap p = (32 : Int) ∨ IntKind.u32.wrap p = (64 : Int) ∨ IntKind.u32.wrap p = (128 : Int) ∨ IntKind.u32.wrap p = (256 : Int) ∨ IntKind.u32.wrap p = (512 : Int) ∨ IntKind.u32.wrap p = (1024 : Int) ∨ IntKind.u32.wrap p = (2048 : Int) ∨ IntKind.u32.wrap p = (4096 : Int) ∨ IntKind.u32.wrap p = (8192 : Int) ∨ IntKind.u32.wrap p = (16384 : Int) ∨ IntKind.u32.wrap p = (32768 : Int)))

 (.ret (.ret, [.int .i64 p, .int .i64 s, .bad, .lit .i64 (0 : Int), .lit .i64 (120 : Int)], [.ro encLook [PUnit.unit]]))

 (.br (decide (s < (1 : Int)))

 (.ret (.ret, [.int .i64 p, .int .i64 s, .bad, .lit .i64 (0 : Int), .lit .i64 (121 : Int)], [.ro encLook [PUnit.unit]]))

 (.br (decide ((32 : Int) < s))

 (.ret (.ret, [.int .i64 p, .int .i64 s, .bad, .lit .i64 (0 : Int), .lit .i64 (121 : Int)], [.ro encLook [PUnit.unit]]))

 (.ret (.normal, [.int .i64 p, .int .i64 s, .lit .i64 (1 : Int), .lit .i64 (0 : Int), .lit .i64 (0 : Int)], [.ro encLook [PUnit.unit]])))))))) := by kernel_rfl
set_option maxRecDepth 100000 in
theorem rw_reg {p s : Int} : (exec cfgM 100 regW (fr 37 [0, 1, 6] [.int .i64 p, .int .i64 s, .int .i64 1]) [lookB]).bind (canonK 1 [(0,0)] 37 [0, 1, 6, 7]) =
 

 (.ret (.normal, [.int .i64 p, .int .i64 s, .int .i64 (1 : Int), .lit .i64 (0 : Int)], [.ro encLook [PUnit.unit]])) := by kernel_rfl
set_option maxRecDepth 100000 in
theorem rw_tm {p s k i : Int} : (exec cfgM 100 tmW (fr 37 [0, 1, 6, 7] (vW p s k i)) [lookB]).bind (canonK 1 [(0,0)] 37 [0, 1, 6, 7]) =
 

 (.br (decide (i < s))

 (.ret (.normal, [.int .i64 p, .int .i64 s, .int .i64 k, .int .i64 i], [.ro encLook [PUnit.unit]]))

 (.ret (.exit 0, [.int .i64 p, .int .i64 s, .int .i64 k, .int .i64 i], [.ro encLook [PUnit.unit]]))) := by kernel_rfl
set_option maxRecDepth 100000 in
theorem rw_bb {p s k i : Int} : (exec cfgM 100 bbW (fr 37 [0, 1, 6, 7] (vW p s k i)) [lookB]).bind (canonK 1 [(0,0)] 37 [0, 1, 6, 7]) =
 

 (.need (inR .i64 (k + (1 : Int)))

 (.ret (.normal, [.int .i64 p, .int .i64 s, .int .i64 (k + (1 : Int)), .int .i64 i], [.ro encLook [PUnit.unit]]))) := by kernel_rfl
set_option maxRecDepth 100000 in
theorem rw_inc {p s k i : Int} : (exec cfgM 100 incW (fr 37 [0, 1, 6, 7] (vW p s k i)) [lookB]).bind (canonK 1 [(0,0)] 37 [0, 1, 6, 7]) =
 

 (.need (inR .i64 (i + (4 : Int)))

 (.ret (.normal, [.int .i64 p, .int .i64 s, .int .i64 k, .int .i64 (i + (4 : Int))], [.ro encLook [PUnit.unit]]))) := by kernel_rfl
set_option maxRecDepth 100000 in
theorem rw_end {p s k i : Int} : (exec cfgM 100 endW (fr 37 [0, 1, 6, 7] (vW p s k i)) [lookB]).bind (canonK 1 [(0,0)] 37 [4, 5]) =
 

 (.need (inR .i64 (p * k))

 (.need (inR .i64 ((2 : Int) + p * k))

 (.ret (.ret, [.int .i64 ((2 : Int) + p * k), .lit .i64 (0 : Int)], [.ro encLook [PUnit.unit]])))) := by kernel_rfl
set_option maxRecDepth 100000 in
theorem fw_pre {l : List ByteArray} {cap : Nat} : (execN cfgM 100 2 bF ([aF l cap] ++ List.replicate 18 .bad) (sF l)).bind (canonK 2 [(0,0)] 19 [0, 2]) =
 

 (.br (decide ((20 : Int) < (↑l.length : Int)))

 (.ret (.ret, [.sli 1 (.c 0) 1 (.v l.length) (some (.v cap)), .bl false], [.ro encLook [PUnit.unit], .ro encStr l]))

 (.ret (.normal, [.sli 1 (.c 0) 1 (.v l.length) (some (.v cap)), .bl false], [.ro encLook [PUnit.unit], .ro encStr l]))) := by kernel_rfl
set_option maxRecDepth 100000 in
theorem fw_reg {l : List ByteArray} {cap : Nat} : (exec cfgM 100 regF (fr 19 [0] [aF l cap]) (sF l)).bind (canonK 2 [(0,0)] 19 [0, 3]) =
 

 (.ret (.normal, [.sli 1 (.c 0) 1 (.v l.length) (some (.v cap)), .lit .i64 (0 : Int)], [.ro encLook [PUnit.unit], .ro encStr l])) := by kernel_rfl
set_option maxRecDepth 100000 in
theorem fw_tm {l : List ByteArray} {cap i : Nat} : (exec cfgM 100 tmF (fr 19 [0, 3] [aF l cap, .int .i64 (i : Nat)]) (sF l)).bind (canonK 2 [(0,0)] 19 [0, 3]) =
 

 (.br (decide ((↑i : Int) < (↑l.length : Int)))

 (.ret (.normal, [.sli 1 (.c 0) 1 (.v l.length) (some (.v cap)), .int .i64 (↑i : Int)], [.ro encLook [PUnit.unit], .ro encStr l]))

 (.ret (.exit 0, [.sli 1 (.c 0) 1 (.v l.length) (some (.v cap)), .int .i64 (↑i : Int)], [.ro encLook [PUnit.unit], .ro encStr l]))) := by kernel_rfl
set_option maxRecDepth 100000 in
theorem fw_bb {l : List ByteArray} {cap i : Nat} : (exec cfgM 100 bbF (fr 19 [0, 3] [aF l cap, .int .i64 (i : Nat)]) (sF l)).bind (canonK 2 [(0,0)] 19 [0, 3, 2]) =
 

 (.need (decide ((0 : Int) ≤ (↑i : Int)) && decide ((↑i : Int).toNat < l.length))

 (.need (decide ((↑i : Int).toNat < l.length))

 (.br (decide ((40 : Int) < (↑(l.getD (↑i : Int).toNat { data := { toList := [] } }).size : Int)))

 (.ret (.ret, [.sli 1 (.c 0) 1 (.v l.length) (some (.v cap)), .int .i64 (↑i : Int), .bl false], [.ro encLook [PUnit.unit], .ro encStr l]))

 (.ret (.normal, [.sli 1 (.c 0) 1 (.v l.length) (some (.v cap)), .int .i64 (↑i : Int), .bad], [.ro encLook [PUnit.unit], .ro encStr l]))))) := by kernel_rfl
set_option maxRecDepth 100000 in
theorem fw_inc {l : List ByteArray} {cap i : Nat} : (exec cfgM 100 incF (fr 19 [0, 3] [aF l cap, .int .i64 (i : Nat)]) (sF l)).bind (canonK 2 [(0,0)] 19 [0, 3]) =
 

 (.need (inR .i64 ((↑i : Int) + (1 : Int)))

 (.ret (.normal, [.sli 1 (.c 0) 1 (.v l.length) (some (.v cap)), .int .i64 ((↑i : Int) + (1 : Int))], [.ro encLook [PUnit.unit], .ro encStr l]))) := by kernel_rfl
set_option maxRecDepth 100000 in
theorem fw_end {l : List ByteArray} {cap i : Nat} : (exec cfgM 100 endF (fr 19 [0, 3] [aF l cap, .int .i64 (i : Nat)]) (sF l)).bind (canonK 2 [(0,0)] 19 [2]) =
 

 (.ret (.ret, [.bl true], [.ro encLook [PUnit.unit], .ro encStr l])) := by kernel_rfl
set_option maxRecDepth 100000 in
theorem sw_pre {a p s : Int} {l : List ByteArray} : (execN cfgN 100 2 bS ([.int .i64 a, .int .i64 p, .int .i64 s, aS l] ++ List.replicate 53 .bad) (sS l)).bind (canonK 2 [(0,0)] 57 [0, 1, 2, 3, 8, 9]) =
 

 (.eq ([Blk.ro encLook [PUnit.unit]] = [Blk.ro encLook [PUnit.unit]])

 (.br ((wordsP p s).snd != (0 : Int))

 (.ret (.ret, [.int .i64 a, .int .i64 p, .int .i64 s, .sli 1 (.c 0) 1 (.v l.length) none, .pnil, .int .i64 (wordsP p s).snd], [.ro encLook [PUnit.unit], .vec encStr l 9]))

 (.ret (.normal, [.int .i64 a, .int .i64 p, .int .i64 s, .sli 1 (.c 0) 1 (.v l.length) none, .pnil, .lit .i64 (0 : Int)], [.ro encLook [PUnit.unit], .vec encStr l 9])))) := by kernel_rfl
set_option maxRecDepth 100000 in
theorem sw_reg {a p s : Int} {l : List ByteArray} : (exec cfgM 100 regS (fr 57 [0, 1, 2, 3] [.int .i64 a, .int .i64 p, .int .i64 s, aS l]) (sS l)).bind (canonK 2 [(0,0)] 57 [0, 1, 2, 3, 24, 25, 26]) =
 

 (.ret (.normal, [.int .i64 a, .int .i64 p, .int .i64 s, .sli 1 (.c 0) 1 (.v l.length) none, .sli 1 (.c 0) 1 (.v l.length) none, .int .i64 (↑l.length : Int), .lit .i64 (0 : Int)], [.ro encLook [PUnit.unit], .vec encStr l 9])) := by kernel_rfl
set_option maxRecDepth 100000 in
theorem sw_tm {a p s : Int} {l : List ByteArray} {i : Nat} : (execN cfgM 100 2 roundS (fr 57 [0, 1, 2, 3, 24, 25, 26] [.int .i64 a, .int .i64 p, .int .i64 s, aS l, aS l, .int .i64 (l.length : Nat), .int .i64 (i : Nat)]) (sS l)).bind (canonK 2 [(0,0)] 57 [0, 1, 2, 3, 24, 25, 26]) =
 

 (.br (decide ((↑i : Int) < (↑l.length : Int)))

 (.ret (.normal, [.int .i64 a, .int .i64 p, .int .i64 s, .sli 1 (.c 0) 1 (.v l.length) none, .sli 1 (.c 0) 1 (.v l.length) none, .int .i64 (↑l.length : Int), .int .i64 (↑i : Int)], [.ro encLook [PUnit.unit], .vec encStr l 9]))

 (.ret (.exit 0, [.int .i64 a, .int .i64 p, .int .i64 s, .sli 1 (.c 0) 1 (.v l.length) none, .sli 1 (.c 0) 1 (.v l.length) none, .int .i64 (↑l.length : Int), .int .i64 (↑i : Int)], [.ro encLook [PUnit.unit], .vec encStr l 9]))) := by kernel_rfl
set_option maxRecDepth 100000 in
theorem sw_bb {a p s : Int} {l : List ByteArray} {i : Nat} : (exec cfgM 100 bbS (fr 57 [0, 1, 2, 3, 24, 25, 26] [.int .i64 a, .int .i64 p, .int .i64 s, aS l, aS l, .int .i64 (l.length : Nat), .int .i64 (i : Nat)]) (sS l)).bind (canonK 2 [(0,0)] 57 [0, 1, 2, 3, 24, 25, 26, 8, 9]) =
 

 (.need (decide ((0 : Int) ≤ (↑i : Int)) && decide ((↑i : Int).toNat < l.length))

 (.need (decide ((↑i : Int).toNat < l.length))

 (.br (decide ((↑(l.getD (↑i : Int).toNat { data := { toList := [] } }).size : Int) < (1 : Int)))

 (.ret (.ret, [.int .i64 a, .int .i64 p, .int .i64 s, .sli 1 (.c 0) 1 (.v l.length) none, .sli 1 (.c 0) 1 (.v l.length) none, .int .i64 (↑l.length : Int), .int .i64 (↑i : Int), .pnil, .lit .i64 (121 : Int)], [.ro encLook [PUnit.unit], .vec encStr l 9]))

 (.br (decide (s < (↑(l.getD (↑i : Int).toNat { data := { toList := [] } }).size : Int)))

 (.ret (.ret, [.int .i64 a, .int .i64 p, .int .i64 s, .sli 1 (.c 0) 1 (.v l.length) none, .sli 1 (.c 0) 1 (.v l.length) none, .int .i64 (↑l.length : Int), .int .i64 (↑i : Int), .pnil, .lit .i64 (121 : Int)], [.ro encLook [PUnit.unit], .vec encStr l 9]))

 (.ret (.normal, [.int .i64 a, .int .i64 p, .int .i64 s, .sli 1 (.c 0) 1 (.v l.length) none, .sli 1 (.c 0) 1 (.v l.length) none, .int .i64 (↑l.length : Int), .int .i64 (↑i : Int), .bad, .bad], [.ro encLook [PUnit.unit], .vec encStr l 9])))))) := by kernel_rfl
set_option maxRecDepth 100000 in
theorem sw_inc {a p s : Int} {l : List ByteArray} {i : Nat} : (exec cfgM 100 incS (fr 57 [0, 1, 2, 3, 24, 25, 26] [.int .i64 a, .int .i64 p, .int .i64 s, aS l, aS l, .int .i64 (l.length : Nat), .int .i64 (i : Nat)]) (sS l)).bind (canonK 2 [(0,0)] 57 [0, 1, 2, 3, 24, 25, 26]) =
 

 (.need (inR .i64 ((↑i : Int) + (1 : Int)))

 (.ret (.normal, [.int .i64 a, .int .i64 p, .int .i64 s, .sli 1 (.c 0) 1 (.v l.length) none, .sli 1 (.c 0) 1 (.v l.length) none, .int .i64 (↑l.length : Int), .int .i64 ((↑i : Int) + (1 : Int))], [.ro encLook [PUnit.unit], .vec encStr l 9]))) := by kernel_rfl
set_option maxRecDepth 100000 in
theorem sw_end {a p s : Int} {l : List ByteArray} {i : Nat} : (exec cfgM 100 endS (fr 57 [0, 1, 2, 3, 24, 25, 26] [.int .i64 a, .int .i64 p, .int .i64 s, aS l, aS l, .int .i64 (l.length : Nat), .int .i64 (i : Nat)]) (sS l)).bind (canonK 2 [(0,0)] 57 [8, 9]) =
 

 (.need (decide (0 + l.length ≤ l.length))

 (.need (decide (0 + l.length ≤ l.length))

 (.need (roomy (List.take l.length (List.drop 0 l)).length 16)

 (.ret (.ret, [.ptr 2 0, .lit .i64 (0 : Int)], [.ro encLook [PUnit.unit], .vec encStr l 9, .own [.c (.int .i64 a), .c (.int .i64 p), .c (.int .i64 s), .c (SVal.fn (Fn.func 30) [.ptr 2 0] []), .c (.lit .u32 (0 : Int)), .c (.lit .u32 (0 : Int)), .c (.lit .i64 (0 : Int)), .c (.sli 3 (.c 0) 1 (.v (List.take l.length (List.drop 0 l)).length) none), .c .snil] 76, .vec encStr (List.take l.length (List.drop 0 l)) 9]))))) := by kernel_rfl
end Go.Proofs.YtplbncncnjiahaaDoor

/- Layer 12: the document's words; few. -/
namespace Go.Proofs.YtplbncncnjiahaaDoor
open Go Go.Proofs.YtplbncncnjiahaaDoor.Sx
set_option linter.unusedVariables false
theorem bW_eq : Tryd.f11.body = some bW := by kernel_rfl
set_option maxHeartbeats 1000000 in
theorem refwords_call {p s : Int} : ∀ (env : Env) (w : World) (vs : List Value), GlOk cfgM.gl env → Rep env [lookB] w → DenL env [.int .i64 p, .int .i64 s] vs → Calls cfgM.P 11 ⟨vs⟩ w (Ends1 env [lookB] w (.tup [.int .i64 (wordsP p s).1, .int .i64 (wordsP p s).2]) [lookB]) := by
  intro env w vs hg hr hd
  have hb0 : env.length = 1 := hr.len
  refine AtK.begin (c := cfgM) Tryd.func11 bW_eq hg hr hd fun a0 hA => ?_
  refine pieceNTK2 (c := cfgN) cfgN_ok 4 [0, 1, 6, 4, 5] rw_pre (by omega) (by simp) hA ?_
  have bad : ∀ {m e : Int} {t : SVal}, wordsP p s = (m, e) → ∀ {env' : Env} {a' : Act} {w' : World}, AtK env [(0, 0)] ⟨w, inFoot env [lookB]⟩ env' (fr 37 [0, 1, 6, 4, 5] [.int .i64 p, .int .i64 s, .bad, .lit .i64 m, .lit .i64 e]) [lookB] a' w' →
      bodyPost Tryd.prog Tryd.f11 (Ends1 env [lookB] w (.tup [.int .i64 (wordsP p s).1, .int .i64 (wordsP p s).2]) [lookB]) .ret a' w' := by
    intro m e t h env' a' w' hA'
    rw [h]
    have hA2 : AtK env [(0, 0)] ⟨w, inFoot env [lookB]⟩ env' (fr 37 [0, 1, 6, 4, 5] [.int .i64 p, .int .i64 s, .bad, .int .i64 m, .int .i64 e]) [lookB] a' w' := hA'.on fun h => h.gvals _ rfl
    exact hA2.out (c := cfgM) (by kernel_rfl)
  refine all_brp (by simp only [decide_eq_true_eq] <;> exact Iff.rfl) (fun h1 => all_ret fun _ _ _ h => bad (t := .bad) (by unfold wordsP; rw [if_pos (.inl h1)]) h) (fun h1 => ?_)
  refine all_brp (by simp only [decide_eq_true_eq] <;> exact Iff.rfl) (fun h2 => all_ret fun _ _ _ h => bad (t := .bad) (by unfold wordsP; rw [if_pos (.inr (.inl h2))]) h) (fun h2 => ?_)
  refine all_eq rfl ?_
  have e1 : IntKind.u32.wrap p = p := wrap_inR (by rw [inR_u32]; omega)
  rw [e1]
  refine all_br (fun h3 => all_ret fun _ _ _ h => bad (t := .bad) (by
    have h3' : powB p = false := by
      have : (!powB p) = true := h3
      simpa using this
    unfold wordsP; rw [if_pos (.inr (.inr h3'))]) h) (fun h3 => ?_)
  have h3' : powB p = true := by
    have : (!powB p) = false := h3
    simpa using this
  have hn : ¬ (p < 1 ∨ 32768 < p ∨ powB p = false) := by rw [h3']; simp; omega
  refine all_brp (by simp only [decide_eq_true_eq] <;> exact Iff.rfl) (fun h4 => all_ret fun _ _ _ h => bad (t := .bad) (by unfold wordsP; rw [if_neg hn, if_pos (.inl h4)]) h) (fun h4 => ?_)
  refine all_brp (by simp only [decide_eq_true_eq] <;> exact Iff.rfl) (fun h5 => all_ret fun _ _ _ h => bad (t := .bad) (by unfold wordsP; rw [if_neg hn, if_pos (.inr h5)]) h) (fun h5 => ?_)
  refine all_ret fun env1 a1 w1 hA1 => ?_
  simp only [Ex.to, Exit.then]
  have hA2 : AtK env [(0, 0)] ⟨w, inFoot env [lookB]⟩ env1 (fr 37 [0, 1, 6] [.int .i64 p, .int .i64 s, .int .i64 1]) [lookB] a1 w1 := hA1.on fun h => (At.few (names := [0, 1, 6]) (extra := [4, 5]) (vals := [.int .i64 p, .int .i64 s, .lit .i64 1]) (ev := [.lit .i64 0, .lit .i64 0]) h rfl).gvals _ rfl
  refine (show cW.wp Tryd.prog _ a1 w1 from wpS (by kernel_rfl) (wpS (by kernel_rfl) ?_))
  refine pieceTK2 (c := cfgM) cfgM_ok [0, 1, 6, 7] rw_reg (by omega) (by simp) hA2 ?_
  refine all_ret fun env3 a3 w3 hA3 => ?_
  simp only [Ex.to, Exit.then]
  have hA4 := hA3.on fun h => h.gvals (vW p s (1 + ((0 : Nat) : Int)) (4 * ((0 : Nat) : Int))) rfl
  refine wpB 0 (by kernel_rfl) (wpL (by kernel_rfl) (fun (k : Nat) a' w' => 4 * (k : Int) < s + 4 ∧ ∃ env', AtK env [(0, 0)] ⟨w, inFoot env [lookB]⟩ env' (fr 37 [0, 1, 6, 7] (vW p s (1 + (k : Int)) (4 * (k : Int)))) [lookB] a' w') (fun (k : Nat) => 9 - k) (0 : Nat) ⟨by omega, env3, hA4⟩ ?_)
  rintro k a' w' ⟨hk, env', hA⟩
  refine (show roundW.wp _ _ _ _ from wpS (by kernel_rfl) ?_)
  refine pieceTK2 (c := cfgM) cfgM_ok [0, 1, 6, 7] rw_tm (by omega) (by simp) hA ?_
  refine all_brp (by simp only [decide_eq_true_eq] <;> exact Iff.rfl) (fun h6 => all_ret fun env1 a1 w1 hA1 => ?_) (fun h6 => all_ret fun env1 a1 w1 hA1 => ?_)
  · simp only [Ex.to, Exit.then]
    refine (show (rgt roundW).wp _ _ _ _ from wpS (by kernel_rfl) (wpB 1 (by kernel_rfl) ?_))
    refine (show bbW.wp _ _ _ _ from ?_)
    refine pieceTK2 (c := cfgM) cfgM_ok [0, 1, 6, 7] rw_bb (by omega) (by simp) hA1 ?_
    refine all_needq (by simp only [inR_i64]; exact Iff.rfl) (by omega) ?_
    refine all_ret fun env2 a2 w2 hA2 => ?_
    simp only [Ex.to, Exit.inBlock, Exit.then]
    refine (show incW.wp _ _ _ _ from ?_)
    refine pieceTK2 (c := cfgM) cfgM_ok [0, 1, 6, 7] rw_inc (by omega) (by simp) hA2 ?_
    refine all_needp (by simp only [inR_i64]; exact Iff.rfl) (by omega) fun _ => all_ret fun env4 a4 w4 hA4 => ?_
    rw [show (1 : Int) + (k : Int) + 1 = 1 + ((k + 1 : Nat) : Int) by omega, show (4 : Int) * (k : Int) + 4 = 4 * ((k + 1 : Nat) : Int) by omega] at hA4
    exact ⟨k + 1, ⟨by omega, env4, hA4⟩, by omega⟩
  · simp only [Ex.to, Exit.then, Exit.inBlock, if_true]
    refine (show endW.wp _ _ _ _ from ?_)
    refine pieceTK2 (c := cfgM) cfgM_ok [4, 5] rw_end (by omega) (by simp) hA1 ?_
    have ek : (k : Int) = (s + 3) / 4 := by omega
    have hm : 0 ≤ p * (1 + (s + 3) / 4) ∧ p * (1 + (s + 3) / 4) ≤ 32768 * 9 := by
      have h9 : 1 + (s + 3) / 4 ≤ 9 := by omega
      have h10 : 0 ≤ 1 + (s + 3) / 4 := by omega
      exact ⟨Int.mul_nonneg (by omega) h10, Int.mul_le_mul (by omega) h9 h10 (by omega)⟩
    rw [ek]
    refine all_needq (by simp only [inR_i64]; exact Iff.rfl) (by omega) ?_
    refine all_needq (by simp only [inR_i64]; exact Iff.rfl) (by omega) ?_
    have : wordsP p s = (2 + p * (1 + (s + 3) / 4), 0) := by unfold wordsP; rw [if_neg hn, if_neg (by omega)]
    rw [this]
    refine all_ret fun env4 a4 w4 hA4 => ?_
    have hA5 : AtK env [(0, 0)] ⟨w, inFoot env [lookB]⟩ env4 (fr 37 [4, 5] [.int .i64 (2 + p * (1 + (s + 3) / 4)), .int .i64 0]) [lookB] a4 w4 := hA4.on fun h => h.gvals _ rfl
    exact hA5.out (c := cfgM) (by kernel_rfl)
theorem bF_eq : Tryd.f8.body = some bF := by kernel_rfl
def fewP (l : List ByteArray) : Bool := decide (l.length ≤ 20) && l.all fun s => decide (s.size ≤ 40)
theorem few_of {l : List ByteArray} (h1 : l.length ≤ 20) (h2 : ∀ j, j < l.length → (l.getD j ⟨⟨[]⟩⟩).size ≤ 40) : fewP l = true := by
  unfold fewP
  rw [Bool.and_eq_true, decide_eq_true_eq, List.all_eq_true]
  refine ⟨h1, fun s hs => ?_⟩
  obtain ⟨j, hj, rfl⟩ := List.mem_iff_getElem.1 hs
  have := h2 j hj
  rw [List.getD_eq_getElem?_getD, List.getElem?_eq_getElem hj] at this
  exact decide_eq_true this
theorem few_no {l : List ByteArray} {j : Nat} (hj : j < l.length) (h2 : 40 < (l.getD j ⟨⟨[]⟩⟩).size) : fewP l = false := by
  unfold fewP
  rw [Bool.and_eq_false_iff]
  refine .inr ?_
  rw [List.all_eq_false]
  refine ⟨l[j], List.getElem_mem hj, ?_⟩
  rw [List.getD_eq_getElem?_getD, List.getElem?_eq_getElem hj] at h2
  simp only [Option.getD_some] at h2
  simp; omega
set_option maxHeartbeats 1000000 in
theorem few_call {l : List ByteArray} {cap : Nat} : ∀ (env : Env) (w : World) (vs : List Value), GlOk cfgM.gl env → Rep env (sF l) w → DenL env [aF l cap] vs → Calls cfgM.P 8 ⟨vs⟩ w (Ends1 env (sF l) w (.bl (fewP l)) (sF l)) := by
  intro env w vs hg hr hd
  have hb0 : env.length = 2 := hr.len
  refine AtK.begin (c := cfgM) Tryd.func8 bF_eq hg hr hd fun a0 hA => ?_
  refine pieceNTK2 (c := cfgM) cfgM_ok 2 [0, 2] fw_pre (by omega) (by simp) hA ?_
  refine all_brp (by simp only [decide_eq_true_eq] <;> exact Iff.rfl) (fun h1 => all_ret fun _ _ _ h => ?_) (fun h1 => ?_)
  · have : fewP l = false := by
      unfold fewP; rw [decide_eq_false (by omega), Bool.false_and]
    rw [this]; exact h.out (c := cfgM) (by kernel_rfl)
  refine all_ret fun env1 a1 w1 hA1 => ?_
  simp only [Ex.to, Exit.then]
  have hA2 : AtK env [(0, 0)] ⟨w, inFoot env (sF l)⟩ env1 (fr 19 [0] [aF l cap]) (sF l) a1 w1 := hA1.on fun h => At.few (names := [0]) (extra := [2]) (vals := [aF l cap]) (ev := [.bl false]) h rfl
  refine (show cF.wp Tryd.prog _ a1 w1 from wpS (by kernel_rfl) (wpS (by kernel_rfl) ?_))
  refine pieceTK2 (c := cfgM) cfgM_ok [0, 3] fw_reg (by omega) (by simp) hA2 ?_
  refine all_ret fun env3 a3 w3 hA3 => ?_
  simp only [Ex.to, Exit.then]
  have hA4 := hA3.on fun h => h.gvals [aF l cap, .int .i64 ((0 : Nat) : Int)] rfl
  refine wpB 0 (by kernel_rfl) (wpL (by kernel_rfl) (fun (i : Nat) a' w' => (i ≤ l.length ∧ ∀ j, j < i → (l.getD j ⟨⟨[]⟩⟩).size ≤ 40) ∧ ∃ env', AtK env [(0, 0)] ⟨w, inFoot env (sF l)⟩ env' (fr 19 [0, 3] [aF l cap, .int .i64 (i : Nat)]) (sF l) a' w') (fun (i : Nat) => l.length - i) (0 : Nat) ⟨⟨Nat.zero_le _, fun j hj => by omega⟩, env3, hA4⟩ ?_)
  rintro i a' w' ⟨⟨hi, hall⟩, env', hA⟩
  refine (show roundF.wp _ _ _ _ from wpS (by kernel_rfl) ?_)
  refine pieceTK2 (c := cfgM) cfgM_ok [0, 3] fw_tm (by omega) (by simp) hA ?_
  refine all_brp (by simp only [decide_eq_true_eq] <;> exact Iff.rfl) (fun h6 => all_ret fun env1 a1 w1 hA1 => ?_) (fun h6 => all_ret fun env1 a1 w1 hA1 => ?_)
  · simp only [Ex.to, Exit.then]
    have hi' : i < l.length := by omega
    refine (show (rgt roundF).wp _ _ _ _ from wpS (by kernel_rfl) (wpB 1 (by kernel_rfl) ?_))
    refine (show bbF.wp _ _ _ _ from ?_)
    refine pieceTK2 (c := cfgM) cfgM_ok [0, 3, 2] fw_bb (by omega) (by simp) hA1 ?_
    simp only [Int.toNat_natCast]
    refine all_needq (by simp only [decide_eq_true_eq, Bool.and_eq_true]; exact Iff.rfl) (by omega) ?_
    refine all_needq (by simp only [decide_eq_true_eq]; exact Iff.rfl) (by omega) ?_
    refine all_brp (by simp only [decide_eq_true_eq] <;> exact Iff.rfl) (fun h7 => all_ret fun _ _ _ h => ?_) (fun h7 => ?_)
    · rw [few_no hi' (by omega)]
      exact h.out (c := cfgM) (by kernel_rfl)
    refine all_ret fun env2 a2 w2 hA2 => ?_
    simp only [Ex.to, Exit.inBlock, Exit.then]
    have hA3 : AtK env [(0, 0)] ⟨w, inFoot env (sF l)⟩ env2 (fr 19 [0, 3] [aF l cap, .int .i64 (i : Nat)]) (sF l) a2 w2 := hA2.on fun h => At.few (names := [0, 3]) (extra := [2]) (vals := [aF l cap, .int .i64 (i : Nat)]) (ev := [.bad]) h rfl
    refine (show incF.wp _ _ _ _ from ?_)
    refine pieceTK2 (c := cfgM) cfgM_ok [0, 3] fw_inc (by omega) (by simp) hA3 ?_
    refine all_needp (by simp only [inR_i64]; exact Iff.rfl) (by omega) fun _ => all_ret fun env4 a4 w4 hA4 => ?_
    refine ⟨i + 1, ⟨⟨by omega, fun j hj => ?_⟩, env4, hA4⟩, by omega⟩
    by_cases hji : j = i
    · subst hji; omega
    · exact hall j (by omega)
  · have him : i = l.length := by omega
    subst him
    simp only [Ex.to, Exit.then, Exit.inBlock, if_true]
    refine (show endF.wp _ _ _ _ from ?_)
    refine pieceTK2 (c := cfgM) cfgM_ok [2] fw_end (by omega) (by simp) hA1 ?_
    rw [few_of (by omega) hall]
    exact all_ret fun env4 a4 w4 hA4 => hA4.out (c := cfgM) (by kernel_rfl)
end Go.Proofs.YtplbncncnjiahaaDoor

/- RingMakes: pieces. -/
namespace Go.Proofs.YtplbncncnjiahaaDoor
open Go Go.Proofs.YtplbncncnjiahaaDoor.Sx
set_option linter.unusedVariables false
theorem gRef_ok (args : List SVal) (S : St) (v : SVal) (S' : St) (h : (gWords args S).at (v, S')) : PreOk cfgM 1 11 args S v S' := by
  unfold gWords at h
  split at h
  · rename_i a b
    split at h
    · rename_i p la s lb h1 h2
      obtain ⟨rfl, h⟩ := h
      simp only [T.at, Prod.mk.injEq] at h
      obtain ⟨rfl, rfl⟩ := h
      refine ⟨fun env w vs hg hr hd => ?_, rfl, rfl, fun _ _ h => .inr h, look_ren, by simp only [renL, asI_ren h1, asI_ren h2]⟩
      obtain ⟨u, us, rfl, h4, u2, us2, rfl, h5, rfl⟩ := hd
      exact refwords_call env w _ hg hr ⟨_, _, rfl, asI_int h1 h4, _, _, rfl, asI_int h2 h5, rfl⟩
    · exact h.elim
  · exact h.elim
/-- what comes in -/
structure InK where
  at' : Int
  places : Int
  size : Int
  times : Int
  l : List ByteArray
  cap : Nat
abbrev qK (q : InK) : SVal := .agg [.int .i64 q.at', .int .i64 q.places, .int .i64 q.size, .int .i64 q.times]
abbrev argK (q : InK) : List SVal := [qK q, aF q.l q.cap]
noncomputable def b3 : Code := Tryd.f3.body.getD .skip
def smEcho (v : SVal) : List SVal → St → T (SVal × St) := fun args st => .eq (args = [] ∧ st = []) (.ret (v, st))
noncomputable def cfgEcho : Cfg := { P := Tryd.prog, ex := exI, gl := [(0, 0)], sm := fun f => match f with
  | 8 => some (smEcho (.bl true))
  | 10 => some (smPre 1 gWords)
  | 11 => some (smPre 1 gWords)
  | 12 => some (smEcho (.tup [.pnil, .lit .i64 121]))
  | _ => none }
end Go.Proofs.YtplbncncnjiahaaDoor

/- Layer 12: a sender is made. -/
namespace Go.Proofs.YtplbncncnjiahaaDoor
open Go Go.Proofs.YtplbncncnjiahaaDoor.Sx
set_option linter.unusedVariables false
theorem bS_eq : Tryd.f12.body = some bS := by kernel_rfl
abbrev nilS : ByteArray := ⟨⟨[]⟩⟩
def okS (s : Int) (x : ByteArray) : Prop := 1 ≤ x.size ∧ (x.size : Int) ≤ s
/-- all the messages fit -/
def fits (s : Int) (l : List ByteArray) : Prop := ∀ j, j < l.length → okS s (l.getD j nilS)
abbrev sndB (k : Nat) (a p s : Int) (l : List ByteArray) : St := [.own [.c (.int .i64 a), .c (.int .i64 p), .c (.int .i64 s), .c (.fn (.func 30) [.ptr k 0] []), .c (.lit .u32 0), .c (.lit .u32 0), .c (.lit .i64 0), .c (.sli (k + 1) (.c 0) 1 (.v l.length) none), .c .snil] 76, .vec encStr l 9]
abbrev vS (a p s : Int) (l : List ByteArray) (i : Nat) : List SVal := [.int .i64 a, .int .i64 p, .int .i64 s, aS l, aS l, .int .i64 (l.length : Nat), .int .i64 (i : Nat)]
abbrev nS : List Nat := [0, 1, 2, 3, 24, 25, 26]
open Classical in
noncomputable def sendR (a p s : Int) (l : List ByteArray) : SVal × St :=
  if (wordsP p s).2 = 0 then (if fits s l then (.tup [.ptr 2 0, .lit .i64 0], sS l ++ sndB 2 a p s l) else (.tup [.pnil, .int .i64 121], sS l)) else (.tup [.pnil, .int .i64 (wordsP p s).2], sS l)
theorem sendR_bad {a p s : Int} {l : List ByteArray} (h : ¬ (wordsP p s).2 = 0) : sendR a p s l = (.tup [.pnil, .int .i64 (wordsP p s).2], sS l) := by unfold sendR; rw [if_neg h]
theorem sendR_no {a p s : Int} {l : List ByteArray} (h : (wordsP p s).2 = 0) (h2 : ¬ fits s l) : sendR a p s l = (.tup [.pnil, .int .i64 121], sS l) := by unfold sendR; rw [if_pos h, if_neg h2]
theorem sendR_ok {a p s : Int} {l : List ByteArray} (h : (wordsP p s).2 = 0) (h2 : fits s l) : sendR a p s l = (.tup [.ptr 2 0, .lit .i64 0], sS l ++ sndB 2 a p s l) := by unfold sendR; rw [if_pos h, if_pos h2]
set_option maxHeartbeats 1000000 in
theorem send_call {a p s : Int} {l : List ByteArray} (hl : l.length ≤ 1000) :
    ∀ (env : Env) (w : World) (vs : List Value), GlOk cfgM.gl env → Rep env (sS l) w → DenL env [.int .i64 a, .int .i64 p, .int .i64 s, aS l] vs → Calls cfgM.P 12 ⟨vs⟩ w (Ends1 env (sS l) w (sendR a p s l).1 (sendR a p s l).2) := by
  intro env w vs hg hr hd
  have hb0 : env.length = 2 := hr.len
  refine AtK.begin (c := cfgM) Tryd.func12 bS_eq hg hr hd fun a0 hA => ?_
  refine pieceNTK2 (c := cfgN) cfgN_ok 2 [0, 1, 2, 3, 8, 9] sw_pre (by omega) (by simp) hA ?_
  refine all_eq rfl ?_
  refine all_brp (by rw [bne_iff_ne]) (fun h1 => all_ret fun _ _ _ h => ?_) (fun h1 => ?_)
  · rw [sendR_bad h1]
    exact h.out (c := cfgM) (by kernel_rfl)
  have h1' : (wordsP p s).2 = 0 := by simpa using h1
  refine all_ret fun env1 a1 w1 hA1 => ?_
  simp only [Ex.to, Exit.then]
  have hA2 : AtK env [(0, 0)] ⟨w, inFoot env (sS l)⟩ env1 (fr 57 [0, 1, 2, 3] [.int .i64 a, .int .i64 p, .int .i64 s, aS l]) (sS l) a1 w1 := hA1.on fun h => At.few (names := [0, 1, 2, 3]) (extra := [8, 9]) (vals := [.int .i64 a, .int .i64 p, .int .i64 s, aS l]) (ev := [.pnil, .lit .i64 0]) h rfl
  refine (show cS.wp Tryd.prog _ a1 w1 from wpS (by kernel_rfl) (wpS (by kernel_rfl) ?_))
  refine pieceTK2 (c := cfgM) cfgM_ok nS sw_reg (by omega) (by simp) hA2 ?_
  refine all_ret fun env3 a3 w3 hA3 => ?_
  simp only [Ex.to, Exit.then]
  have hA4 := hA3.on fun h => h.gvals (vS a p s l 0) rfl
  refine wpB 0 (by kernel_rfl) (wpL (by kernel_rfl) (fun (i : Nat) a' w' => (i ≤ l.length ∧ ∀ j, j < i → okS s (l.getD j nilS)) ∧ ∃ env', AtK env [(0, 0)] ⟨w, inFoot env (sS l)⟩ env' (fr 57 nS (vS a p s l i)) (sS l) a' w') (fun (i : Nat) => l.length - i) (0 : Nat) ⟨⟨Nat.zero_le _, fun j hj => by omega⟩, env3, hA4⟩ ?_)
  rintro i a' w' ⟨⟨hi, hall⟩, env', hA⟩
  refine (show roundS.wp _ _ _ _ from ?_)
  refine pieceNTK2 (c := cfgM) cfgM_ok 2 nS sw_tm (by omega) (by simp) hA ?_
  refine all_brp (by simp only [decide_eq_true_eq] <;> exact Iff.rfl) (fun h6 => all_ret fun env1 a1 w1 hA1 => ?_) (fun h6 => all_ret fun env1 a1 w1 hA1 => ?_)
  · simp only [Ex.to, Exit.then]
    have hi' : i < l.length := by omega
    refine (show rsS.wp _ _ _ _ from wpS (by kernel_rfl) (wpB 1 (by kernel_rfl) ?_))
    refine (show bbS.wp _ _ _ _ from ?_)
    refine pieceTK2 (c := cfgM) cfgM_ok [0, 1, 2, 3, 24, 25, 26, 8, 9] sw_bb (by omega) (by simp) hA1 ?_
    simp only [Int.toNat_natCast]
    refine all_needq (by simp only [decide_eq_true_eq, Bool.and_eq_true]; exact Iff.rfl) (by omega) ?_
    refine all_needq (by simp only [decide_eq_true_eq]; exact Iff.rfl) (by omega) ?_
    have bad : ¬ okS s (l.getD i nilS) → ∀ {env' : Env} {a' : Act} {w' : World}, AtK env [(0, 0)] ⟨w, inFoot env (sS l)⟩ env' (fr 57 [0, 1, 2, 3, 24, 25, 26, 8, 9] (vS a p s l i ++ [.pnil, .lit .i64 121])) (sS l) a' w' →
        bodyPost Tryd.prog Tryd.f12 (Ends1 env (sS l) w (sendR a p s l).1 (sendR a p s l).2) .ret a' w' := by
      intro hb env' a' w' hA'
      rw [sendR_no h1' (fun hf => hb (hf i hi'))]
      have hA3 : AtK env [(0, 0)] ⟨w, inFoot env (sS l)⟩ env' (fr 57 [0, 1, 2, 3, 24, 25, 26, 8, 9] (vS a p s l i ++ [.pnil, .int .i64 121])) (sS l) a' w' := hA'.on fun h => h.gvals _ rfl
      exact hA3.out (c := cfgM) (by kernel_rfl)
    refine all_brp (by simp only [decide_eq_true_eq] <;> exact Iff.rfl) (fun h7 => all_ret fun _ _ _ h => bad (fun hk => by have := hk.1; unfold nilS at this; omega) h) (fun h7 => ?_)
    refine all_brp (by simp only [decide_eq_true_eq] <;> exact Iff.rfl) (fun h8 => all_ret fun _ _ _ h => bad (fun hk => by have := hk.2; unfold nilS at this; omega) h) (fun h8 => ?_)
    refine all_ret fun env2 a2 w2 hA2 => ?_
    simp only [Ex.to, Exit.inBlock, Exit.then]
    have hA3 : AtK env [(0, 0)] ⟨w, inFoot env (sS l)⟩ env2 (fr 57 nS (vS a p s l i)) (sS l) a2 w2 := hA2.on fun h => At.few (names := nS) (extra := [8, 9]) (vals := vS a p s l i) (ev := [.bad, .bad]) h rfl
    refine (show incS.wp _ _ _ _ from ?_)
    refine pieceTK2 (c := cfgM) cfgM_ok nS sw_inc (by omega) (by simp) hA3 ?_
    refine all_needp (by simp only [inR_i64]; exact Iff.rfl) (by omega) fun _ => all_ret fun env4 a4 w4 hA4 => ?_
    refine ⟨i + 1, ⟨⟨by omega, fun j hj => ?_⟩, env4, hA4⟩, by omega⟩
    by_cases hji : j = i
    · subst hji; exact ⟨by unfold nilS; omega, by unfold nilS; omega⟩
    · exact hall j (by omega)
  · have him : i = l.length := by omega
    subst him
    simp only [Ex.to, Exit.then, Exit.inBlock, if_true]
    refine (show endS.wp _ _ _ _ from ?_)
    refine pieceTK2 (c := cfgM) cfgM_ok [8, 9] sw_end (by omega) (by simp) hA1 ?_
    have e5 : List.take l.length (List.drop 0 l) = l := by simp
    rw [e5, sendR_ok h1' hall]
    refine all_needq (by simp only [decide_eq_true_eq]; exact Iff.rfl) (by omega) ?_
    refine all_needq (by simp only [decide_eq_true_eq]; exact Iff.rfl) (by omega) ?_
    refine all_needq (by simp only [roomy_iff]; exact Iff.rfl) (by omega) ?_
    refine all_ret fun env4 a4 w4 hA4 => ?_
    exact hA4.out (c := cfgM) (by kernel_rfl)
abbrev idS : List Nat := [0, 4, 1, 2, 3]
abbrev ivS : List Nat := [0, 2, 3, 4, 1]
abbrev qB (q : InK) : Blk := .own [.c (.int .i64 q.at'), .c (.int .i64 q.places), .c (.int .i64 q.size), .c (.int .i64 q.times)] 23
/-- the law's state when it makes a sender -/
abbrev sL (q : InK) : St := [lookB, .ro encStr q.l, qB q, .gone, .vec encStr q.l 9]
theorem sndB_plain {k : Nat} {a p s : Int} {l : List ByteArray} : ∀ b ∈ sndB k a p s l, plainB b = true := by
  intro b h
  simp only [List.mem_cons, List.not_mem_nil, or_false] at h
  rcases h with rfl | rfl <;> rfl
theorem roSame_refl (S : St) : roSame S S := fun _ _ h => .inr h
abbrev aL (q : InK) : List SVal := [.int .i64 q.at', .int .i64 q.places, .int .i64 q.size, .sli 4 (.c 0) 1 (.v q.l.length) none]
set_option maxRecDepth 100000 in
theorem sendL_ok {q : InK} (hl : q.l.length ≤ 1000) (h1 : (wordsP q.places q.size).2 = 0) (h2 : fits q.size q.l) (env : Env) (w : World) (vs : List Value) (hg : GlOk cfgM.gl env) (hr : Rep env (sL q) w) (hd : DenL env (aL q) vs) :
    Calls cfgM.P 12 ⟨vs⟩ w (Ends1 env (sL q) w (.tup [.ptr 5 0, .lit .i64 0]) (sL q ++ sndB 5 q.at' q.places q.size q.l)) := by
  have hc := send_call (a := q.at') (p := q.places) (s := q.size) hl
  rw [sendR_ok h1 h2] at hc
  have hf := frameNew (c := cfgM) (n := 2) hc [.ro encStr q.l, qB q, .gone] rfl rfl (gl_lt (by simp)) (by kernel_rfl) (Sa := sS q.l) (Sb := sndB 5 q.at' q.places q.size q.l) (s' := .tup [.ptr 5 0, .lit .i64 0]) (by kernel_rfl) (by kernel_rfl) rfl (roSame_refl _) sndB_plain rfl
  exact permNew (n := 2) (st := sL q) (S0 := sS q.l ++ [.ro encStr q.l, qB q, .gone]) (st0' := sL q ++ sndB 5 q.at' q.places q.size q.l) (st' := sL q ++ sndB 5 q.at' q.places q.size q.l) idS ivS hf rfl rfl rfl rfl rfl rfl rfl (by kernel_rfl) EqvSt.rfl' (by kernel_rfl) EqvSt.rfl' rfl rfl env w vs hg hr hd
theorem sendL_bad {q : InK} (hl : q.l.length ≤ 1000) {e : Int} (he : (sendR q.at' q.places q.size q.l) = (.tup [.pnil, .int .i64 e], sS q.l)) (env : Env) (w : World) (vs : List Value) (hg : GlOk cfgM.gl env) (hr : Rep env (sL q) w) (hd : DenL env (aL q) vs) :
    Calls cfgM.P 12 ⟨vs⟩ w (Ends1 env (sL q) w (.tup [.pnil, .int .i64 e]) (sL q)) := by
  have hc := send_call (a := q.at') (p := q.places) (s := q.size) hl
  rw [he] at hc
  have hf := frame (c := cfgM) hc [.ro encStr q.l, qB q, .gone] rfl rfl (gl_lt (by simp)) (by kernel_rfl) (roSame_refl _)
  exact permCall (st := sL q) (S0 := sS q.l ++ [.ro encStr q.l, qB q, .gone]) (st0' := sL q) (st' := sL q) idS ivS hf rfl rfl rfl rfl rfl rfl (by kernel_rfl) EqvSt.rfl' (by kernel_rfl) EqvSt.rfl' rfl rfl env w vs hg hr hd
end Go.Proofs.YtplbncncnjiahaaDoor

/- Layer 12: sender and receiver: states. -/
namespace Go.Proofs.YtplbncncnjiahaaDoor
open Go Go.Proofs.YtplbncncnjiahaaDoor.Sx
set_option linter.unusedVariables false
abbrev memS (n : Nat) (l : List Int) (c : Int) : St := [lookB, .own [.a (encInt .u32) n l] 40, .own [.c (.sli 1 (.c 0) 1 (.v n) (some (.v n))), .c (.int .i64 c)] 80]
/-- a sender, but for its step and its messages -/
structure Snd where
  at' : Int
  n : Int
  z : Int
  head : Int
  tail : Int
  did : Int
  sent : List Bool
  /-- its step: 0 begin, 1 look, 2 put, 3 tell -/
  p : Nat
abbrev snB (f k : Nat) (x : Snd) (m : Nat) : Blk := .own [.c (.int .i64 x.at'), .c (.int .i64 x.n), .c (.int .i64 x.z), .c (.fn (.func f) [.ptr k 0] []), .c (.int .u32 x.head), .c (.int .u32 x.tail), .c (.int .i64 x.did), .c (.sli (k + 1) (.c 0) 1 (.v m) none), .c (.sli (k + 2) (.c 0) 1 (.v x.sent.length) none)] 76
abbrev sndS (f k : Nat) (x : Snd) (ms : List ByteArray) : St := [snB f k x ms.length, .vec encStr ms 9, .vec encBool x.sent 4]
abbrev sSn (f n : Nat) (l : List Int) (c : Int) (x : Snd) (ms : List ByteArray) : St := memS n l c ++ sndS f 3 x ms
/-- a receiver, but for its step -/
structure Rcv where
  at' : Int
  n : Int
  z : Int
  head : Int
  tail : Int
  did : Int
  times : Int
  ln : Int
  b : List Int
  got : List ByteArray
  /-- its step: 0 begin, 1 look, 2 take, 3 tell -/
  p : Nat
abbrev rvB (f k : Nat) (x : Rcv) : Blk := .own [.c (.int .i64 x.at'), .c (.int .i64 x.n), .c (.int .i64 x.z), .c (.fn (.func f) [.ptr k 0] []), .c (.int .u32 x.head), .c (.int .u32 x.tail), .c (.int .i64 x.did), .c (.int .i64 x.times), .c (.int .i64 x.ln), .c (.sli (k + 1) (.c 0) 1 (.v x.b.length) none), .c (.sli (k + 2) (.c 0) 1 (.v x.got.length) none)] 78
abbrev rcvS (f k : Nat) (x : Rcv) : St := [rvB f k x, .vec (encInt .u8) x.b 5, .vec encStr x.got 9]
abbrev sR (f n : Nat) (l : List Int) (c : Int) (x : Rcv) : St := memS n l c ++ rcvS f 3 x
abbrev nilB : ByteArray := ⟨⟨[]⟩⟩
def sfn (p : Nat) : Nat := match p with | 0 => 30 | 1 => 42 | 2 => 45 | _ => 51
def rfn (p : Nat) : Nat := match p with | 0 => 31 | 1 => 43 | 2 => 47 | _ => 52
/-- behind a step: its rows lie anew -/
abbrev sE (n : Nat) (l : List Int) (c : Int) (x : Snd) (ms : List ByteArray) : St := memS n l c ++ [.own [.c (.int .i64 x.at'), .c (.int .i64 x.n), .c (.int .i64 x.z), .c (.fn (.func (sfn x.p)) [.ptr 3 0] []), .c (.int .u32 x.head), .c (.int .u32 x.tail), .c (.int .i64 x.did), .c (.sli 4 (.c 0) 1 (.v ms.length) none), .c (.sli 6 (.c 0) 1 (.v x.sent.length) none)] 76, .vec encStr ms 9, .gone, .vec encBool x.sent 4]
abbrev rE (n : Nat) (l : List Int) (c : Int) (x : Rcv) : St := memS n l c ++ [.own [.c (.int .i64 x.at'), .c (.int .i64 x.n), .c (.int .i64 x.z), .c (.fn (.func (rfn x.p)) [.ptr 3 0] []), .c (.int .u32 x.head), .c (.int .u32 x.tail), .c (.int .i64 x.did), .c (.int .i64 x.times), .c (.int .i64 x.ln), .c (.sli 6 (.c 0) 1 (.v x.b.length) none), .c (.sli 7 (.c 0) 1 (.v x.got.length) none)] 78, .gone, .gone, .vec (encInt .u8) x.b 5, .vec encStr x.got 9]
end Go.Proofs.YtplbncncnjiahaaDoor

namespace Go.Proofs.YtplbncncnjiahaaDoor
open Go Go.Proofs.YtplbncncnjiahaaDoor.Sx
set_option linter.unusedVariables false
set_option maxRecDepth 100000 in
theorem p_call {s : ByteArray} {k : Int} : callF cfgM 100 49 [.str s, .int .i64 k] [lookB] =
 

 (.need (true)

 (.need (inR .i64 ((4 : Int) * k))

 (.need (inR .i64 ((4 : Int) * k + (0 : Int)))

 (.br (decide ((4 : Int) * k + (0 : Int) < (↑s.size : Int)))

 (.need (inR .i64 ((4 : Int) * k))

 (.need (inR .i64 ((4 : Int) * k + (0 : Int)))

 (.need (decide ((0 : Int) ≤ (4 : Int) * k + (0 : Int)) && decide (((4 : Int) * k + (0 : Int)).toNat < s.size))

 (.need (inR .u32 (byteAt s ((4 : Int) * k + (0 : Int)).toNat))

 (.need (true)

 (.need (inR .i64 ((4 : Int) * k))

 (.need (inR .i64 ((4 : Int) * k + (1 : Int)))

 (.br (decide ((4 : Int) * k + (1 : Int) < (↑s.size : Int)))

 (.need (inR .i64 ((4 : Int) * k))

 (.need (inR .i64 ((4 : Int) * k + (1 : Int)))

 (.need (decide ((0 : Int) ≤ (4 : Int) * k + (1 : Int)) && decide (((4 : Int) * k + (1 : Int)).toNat < s.size))

 (.need (inR .u32 (byteAt s ((4 : Int) * k + (1 : Int)).toNat))

 (.need (true)

 (.need (inR .i64 ((4 : Int) * k))

 (.need (inR .i64 ((4 : Int) * k + (2 : Int)))

 (.br (decide ((4 : Int) * k + (2 : Int) < (↑s.size : Int)))

 (.need (inR .i64 ((4 : Int) * k))

 (.need (inR .i64 ((4 : Int) * k + (2 : Int)))

 (.need (decide ((0 : Int) ≤ (4 : Int) * k + (2 : Int)) && decide (((4 : Int) * k + (2 : Int)).toNat < s.size))

 (.need (inR .u32 (byteAt s ((4 : Int) * k + (2 : Int)).toNat))

 (.need (true)

 (.need (inR .i64 ((4 : Int) * k))

 (.need (inR .i64 ((4 : Int) * k + (3 : Int)))

 (.br (decide ((4 : Int) * k + (3 : Int) < (↑s.size : Int)))

 (.need (inR .i64 ((4 : Int) * k))

 (.need (inR .i64 ((4 : Int) * k + (3 : Int)))

 (.need (decide ((0 : Int) ≤ (4 : Int) * k + (3 : Int)) && decide (((4 : Int) * k + (3 : Int)).toNat < s.size))

 (.need (inR .u32 (byteAt s ((4 : Int) * k + (3 : Int)).toNat))

 (.ret (.int .u32 (bitop BinOp.or IntKind.u32 (IntKind.u32.wrap (bitop BinOp.or IntKind.u32 (IntKind.u32.wrap (bitop BinOp.or IntKind.u32 (IntKind.u32.wrap (bitop BinOp.or IntKind.u32 (0 : Int) (byteAt s ((4 : Int) * k + (0 : Int)).toNat) * (256 : Int))) (byteAt s ((4 : Int) * k + (1 : Int)).toNat) * (256 : Int))) (byteAt s ((4 : Int) * k + (2 : Int)).toNat) * (256 : Int))) (byteAt s ((4 : Int) * k + (3 : Int)).toNat)), [.ro encLook [PUnit.unit]]))))))

 (.ret (.int .u32 (IntKind.u32.wrap (bitop BinOp.or IntKind.u32 (IntKind.u32.wrap (bitop BinOp.or IntKind.u32 (IntKind.u32.wrap (bitop BinOp.or IntKind.u32 (0 : Int) (byteAt s ((4 : Int) * k + (0 : Int)).toNat) * (256 : Int))) (byteAt s ((4 : Int) * k + (1 : Int)).toNat) * (256 : Int))) (byteAt s ((4 : Int) * k + (2 : Int)).toNat) * (256 : Int))), [.ro encLook [PUnit.unit]]))))))))))

 (.need (true)

 (.need (inR .i64 ((4 : Int) * k))

 (.need (inR .i64 ((4 : Int) * k + (3 : Int)))

 (.br (decide ((4 : Int) * k + (3 : Int) < (↑s.size : Int)))

 (.need (inR .i64 ((4 : Int) * k))

 (.need (inR .i64 ((4 : Int) * k + (3 : Int)))

 (.need (decide ((0 : Int) ≤ (4 : Int) * k + (3 : Int)) && decide (((4 : Int) * k + (3 : Int)).toNat < s.size))

 (.need (inR .u32 (byteAt s ((4 : Int) * k + (3 : Int)).toNat))

 (.ret (.int .u32 (bitop BinOp.or IntKind.u32 (IntKind.u32.wrap (IntKind.u32.wrap (bitop BinOp.or IntKind.u32 (IntKind.u32.wrap (bitop BinOp.or IntKind.u32 (0 : Int) (byteAt s ((4 : Int) * k + (0 : Int)).toNat) * (256 : Int))) (byteAt s ((4 : Int) * k + (1 : Int)).toNat) * (256 : Int)) * (256 : Int))) (byteAt s ((4 : Int) * k + (3 : Int)).toNat)), [.ro encLook [PUnit.unit]]))))))

 (.ret (.int .u32 (IntKind.u32.wrap (IntKind.u32.wrap (bitop BinOp.or IntKind.u32 (IntKind.u32.wrap (bitop BinOp.or IntKind.u32 (0 : Int) (byteAt s ((4 : Int) * k + (0 : Int)).toNat) * (256 : Int))) (byteAt s ((4 : Int) * k + (1 : Int)).toNat) * (256 : Int)) * (256 : Int))), [.ro encLook [PUnit.unit]]))))))))))))))

 (.need (true)

 (.need (inR .i64 ((4 : Int) * k))

 (.need (inR .i64 ((4 : Int) * k + (2 : Int)))

 (.br (decide ((4 : Int) * k + (2 : Int) < (↑s.size : Int)))

 (.need (inR .i64 ((4 : Int) * k))

 (.need (inR .i64 ((4 : Int) * k + (2 : Int)))

 (.need (decide ((0 : Int) ≤ (4 : Int) * k + (2 : Int)) && decide (((4 : Int) * k + (2 : Int)).toNat < s.size))

 (.need (inR .u32 (byteAt s ((4 : Int) * k + (2 : Int)).toNat))

 (.need (true)

 (.need (inR .i64 ((4 : Int) * k))

 (.need (inR .i64 ((4 : Int) * k + (3 : Int)))

 (.br (decide ((4 : Int) * k + (3 : Int) < (↑s.size : Int)))

 (.need (inR .i64 ((4 : Int) * k))

 (.need (inR .i64 ((4 : Int) * k + (3 : Int)))

 (.need (decide ((0 : Int) ≤ (4 : Int) * k + (3 : Int)) && decide (((4 : Int) * k + (3 : Int)).toNat < s.size))

 (.need (inR .u32 (byteAt s ((4 : Int) * k + (3 : Int)).toNat))

 (.ret (.int .u32 (bitop BinOp.or IntKind.u32 (IntKind.u32.wrap (bitop BinOp.or IntKind.u32 (IntKind.u32.wrap (IntKind.u32.wrap (bitop BinOp.or IntKind.u32 (0 : Int) (byteAt s ((4 : Int) * k + (0 : Int)).toNat) * (256 : Int)) * (256 : Int))) (byteAt s ((4 : Int) * k + (2 : Int)).toNat) * (256 : Int))) (byteAt s ((4 : Int) * k + (3 : Int)).toNat)), [.ro encLook [PUnit.unit]]))))))

 (.ret (.int .u32 (IntKind.u32.wrap (bitop BinOp.or IntKind.u32 (IntKind.u32.wrap (IntKind.u32.wrap (bitop BinOp.or IntKind.u32 (0 : Int) (byteAt s ((4 : Int) * k + (0 : Int)).toNat) * (256 : Int)) * (256 : Int))) (byteAt s ((4 : Int) * k + (2 : Int)).toNat) * (256 : Int))), [.ro encLook [PUnit.unit]]))))))))))

 (.need (true)

 (.need (inR .i64 ((4 : Int) * k))

 (.need (inR .i64 ((4 : Int) * k + (3 : Int)))

 (.br (decide ((4 : Int) * k + (3 : Int) < (↑s.size : Int)))

 (.need (inR .i64 ((4 : Int) * k))

 (.need (inR .i64 ((4 : Int) * k + (3 : Int)))

 (.need (decide ((0 : Int) ≤ (4 : Int) * k + (3 : Int)) && decide (((4 : Int) * k + (3 : Int)).toNat < s.size))

 (.need (inR .u32 (byteAt s ((4 : Int) * k + (3 : Int)).toNat))

 (.ret (.int .u32 (bitop BinOp.or IntKind.u32 (IntKind.u32.wrap (IntKind.u32.wrap (IntKind.u32.wrap (bitop BinOp.or IntKind.u32 (0 : Int) (byteAt s ((4 : Int) * k + (0 : Int)).toNat) * (256 : Int)) * (256 : Int)) * (256 : Int))) (byteAt s ((4 : Int) * k + (3 : Int)).toNat)), [.ro encLook [PUnit.unit]]))))))

 (.ret (.int .u32 (IntKind.u32.wrap (IntKind.u32.wrap (IntKind.u32.wrap (bitop BinOp.or IntKind.u32 (0 : Int) (byteAt s ((4 : Int) * k + (0 : Int)).toNat) * (256 : Int)) * (256 : Int)) * (256 : Int))), [.ro encLook [PUnit.unit]]))))))))))))))))))

 (.need (true)

 (.need (inR .i64 ((4 : Int) * k))

 (.need (inR .i64 ((4 : Int) * k + (1 : Int)))

 (.br (decide ((4 : Int) * k + (1 : Int) < (↑s.size : Int)))

 (.need (inR .i64 ((4 : Int) * k))

 (.need (inR .i64 ((4 : Int) * k + (1 : Int)))

 (.need (decide ((0 : Int) ≤ (4 : Int) * k + (1 : Int)) && decide (((4 : Int) * k + (1 : Int)).toNat < s.size))

 (.need (inR .u32 (byteAt s ((4 : Int) * k + (1 : Int)).toNat))

 (.need (true)

 (.need (inR .i64 ((4 : Int) * k))

 (.need (inR .i64 ((4 : Int) * k + (2 : Int)))

 (.br (decide ((4 : Int) * k + (2 : Int) < (↑s.size : Int)))

 (.need (inR .i64 ((4 : Int) * k))

 (.need (inR .i64 ((4 : Int) * k + (2 : Int)))

 (.need (decide ((0 : Int) ≤ (4 : Int) * k + (2 : Int)) && decide (((4 : Int) * k + (2 : Int)).toNat < s.size))

 (.need (inR .u32 (byteAt s ((4 : Int) * k + (2 : Int)).toNat))

 (.need (true)

 (.need (inR .i64 ((4 : Int) * k))

 (.need (inR .i64 ((4 : Int) * k + (3 : Int)))

 (.br (decide ((4 : Int) * k + (3 : Int) < (↑s.size : Int)))

 (.need (inR .i64 ((4 : Int) * k))

 (.need (inR .i64 ((4 : Int) * k + (3 : Int)))

 (.need (decide ((0 : Int) ≤ (4 : Int) * k + (3 : Int)) && decide (((4 : Int) * k + (3 : Int)).toNat < s.size))

 (.need (inR .u32 (byteAt s ((4 : Int) * k + (3 : Int)).toNat))

 (.ret (.int .u32 (bitop BinOp.or IntKind.u32 (IntKind.u32.wrap (bitop BinOp.or IntKind.u32 (IntKind.u32.wrap (bitop BinOp.or IntKind.u32 (0 : Int) (byteAt s ((4 : Int) * k + (1 : Int)).toNat) * (256 : Int))) (byteAt s ((4 : Int) * k + (2 : Int)).toNat) * (256 : Int))) (byteAt s ((4 : Int) * k + (3 : Int)).toNat)), [.ro encLook [PUnit.unit]]))))))

 (.ret (.int .u32 (IntKind.u32.wrap (bitop BinOp.or IntKind.u32 (IntKind.u32.wrap (bitop BinOp.or IntKind.u32 (0 : Int) (byteAt s ((4 : Int) * k + (1 : Int)).toNat) * (256 : Int))) (byteAt s ((4 : Int) * k + (2 : Int)).toNat) * (256 : Int))), [.ro encLook [PUnit.unit]]))))))))))

 (.need (true)

 (.need (inR .i64 ((4 : Int) * k))

 (.need (inR .i64 ((4 : Int) * k + (3 : Int)))

 (.br (decide ((4 : Int) * k + (3 : Int) < (↑s.size : Int)))

 (.need (inR .i64 ((4 : Int) * k))

 (.need (inR .i64 ((4 : Int) * k + (3 : Int)))

 (.need (decide ((0 : Int) ≤ (4 : Int) * k + (3 : Int)) && decide (((4 : Int) * k + (3 : Int)).toNat < s.size))

 (.need (inR .u32 (byteAt s ((4 : Int) * k + (3 : Int)).toNat))

 (.ret (.int .u32 (bitop BinOp.or IntKind.u32 (IntKind.u32.wrap (IntKind.u32.wrap (bitop BinOp.or IntKind.u32 (0 : Int) (byteAt s ((4 : Int) * k + (1 : Int)).toNat) * (256 : Int)) * (256 : Int))) (byteAt s ((4 : Int) * k + (3 : Int)).toNat)), [.ro encLook [PUnit.unit]]))))))

 (.ret (.int .u32 (IntKind.u32.wrap (IntKind.u32.wrap (bitop BinOp.or IntKind.u32 (0 : Int) (byteAt s ((4 : Int) * k + (1 : Int)).toNat) * (256 : Int)) * (256 : Int))), [.ro encLook [PUnit.unit]]))))))))))))))

 (.need (true)

 (.need (inR .i64 ((4 : Int) * k))

 (.need (inR .i64 ((4 : Int) * k + (2 : Int)))

 (.br (decide ((4 : Int) * k + (2 : Int) < (↑s.size : Int)))

 (.need (inR .i64 ((4 : Int) * k))

 (.need (inR .i64 ((4 : Int) * k + (2 : Int)))

 (.need (decide ((0 : Int) ≤ (4 : Int) * k + (2 : Int)) && decide (((4 : Int) * k + (2 : Int)).toNat < s.size))

 (.need (inR .u32 (byteAt s ((4 : Int) * k + (2 : Int)).toNat))

 (.need (true)

 (.need (inR .i64 ((4 : Int) * k))

 (.need (inR .i64 ((4 : Int) * k + (3 : Int)))

 (.br (decide ((4 : Int) * k + (3 : Int) < (↑s.size : Int)))

 (.need (inR .i64 ((4 : Int) * k))

 (.need (inR .i64 ((4 : Int) * k + (3 : Int)))

 (.need (decide ((0 : Int) ≤ (4 : Int) * k + (3 : Int)) && decide (((4 : Int) * k + (3 : Int)).toNat < s.size))

 (.need (inR .u32 (byteAt s ((4 : Int) * k + (3 : Int)).toNat))

 (.ret (.int .u32 (bitop BinOp.or IntKind.u32 (IntKind.u32.wrap (bitop BinOp.or IntKind.u32 (0 : Int) (byteAt s ((4 : Int) * k + (2 : Int)).toNat) * (256 : Int))) (byteAt s ((4 : Int) * k + (3 : Int)).toNat)), [.ro encLook [PUnit.unit]]))))))

 (.ret (.int .u32 (IntKind.u32.wrap (bitop BinOp.or IntKind.u32 (0 : Int) (byteAt s ((4 : Int) * k + (2 : Int)).toNat) * (256 : Int))), [.ro encLook [PUnit.unit]]))))))))))

 (.need (true)

 (.need (inR .i64 ((4 : Int) * k))

 (.need (inR .i64 ((4 : Int) * k + (3 : Int)))

 (.br (decide ((4 : Int) * k + (3 : Int) < (↑s.size : Int)))

 (.need (inR .i64 ((4 : Int) * k))

 (.need (inR .i64 ((4 : Int) * k + (3 : Int)))

 (.need (decide ((0 : Int) ≤ (4 : Int) * k + (3 : Int)) && decide (((4 : Int) * k + (3 : Int)).toNat < s.size))

 (.need (inR .u32 (byteAt s ((4 : Int) * k + (3 : Int)).toNat))

 (.ret (.int .u32 (bitop BinOp.or IntKind.u32 (0 : Int) (byteAt s ((4 : Int) * k + (3 : Int)).toNat)), [.ro encLook [PUnit.unit]]))))))

 (.ret (.lit .u32 (0 : Int), [.ro encLook [PUnit.unit]])))))))))))))))))) := by kernel_rfl
set_option maxRecDepth 100000 in
theorem pc_call {a n z i : Int} : callF cfgM 100 50 [.agg [.int .i64 a, .int .i64 n, .int .i64 z], .int .u32 i] [lookB] =
 

 (.br (decide ((1 : Int) ≤ IntKind.u32.wrap n))

 (.br (decide (IntKind.u32.wrap n ≤ (32768 : Int)))

 (.br (!bitop BinOp.and IntKind.u32 (IntKind.u32.wrap n) (IntKind.u32.wrap (IntKind.u32.wrap n - (1 : Int))) == (0 : Int))

 (.need (inR .i64 (a + (2 : Int)))

 (.need (inR .i64 (z + (3 : Int)))

 (.need (true)

 (.need (inR .i64 ((1 : Int) + IntKind.i64.wrap ((z + (3 : Int)).tdiv (4 : Int))))

 (.need (inR .i64 ((0 : Int) * ((1 : Int) + IntKind.i64.wrap ((z + (3 : Int)).tdiv (4 : Int)))))

 (.need (inR .i64 (a + (2 : Int) + (0 : Int) * ((1 : Int) + IntKind.i64.wrap ((z + (3 : Int)).tdiv (4 : Int)))))
 (.eq (T.ret (SVal.int IntKind.i64 a) = T.ret (SVal.int IntKind.i64 a))
 (.eq (T.ret (SVal.int IntKind.i64 a) = T.ret (SVal.int IntKind.i64 a))
 (.eq (T.ret (SVal.int IntKind.i64 z) = T.ret (SVal.int IntKind.i64 z))

 (.ret (.int .i64 (a + (2 : Int) + (0 : Int) * ((1 : Int) + IntKind.i64.wrap ((z + (3 : Int)).tdiv (4 : Int)))), [.ro encLook [PUnit.unit], .own [.c (.int .i64 a), .c (.int .i64 n), .c (.int .i64 z)] 71])))))))))))

 (.need (inR .i64 (a + (2 : Int)))

 (.need (inR .i64 (bitop BinOp.and IntKind.u32 i (IntKind.u32.wrap (IntKind.u32.wrap n - (1 : Int)))))

 (.need (inR .i64 (z + (3 : Int)))

 (.need (true)

 (.need (inR .i64 ((1 : Int) + IntKind.i64.wrap ((z + (3 : Int)).tdiv (4 : Int))))

 (.need (inR .i64 (bitop BinOp.and IntKind.u32 i (IntKind.u32.wrap (IntKind.u32.wrap n - (1 : Int))) * ((1 : Int) + IntKind.i64.wrap ((z + (3 : Int)).tdiv (4 : Int)))))

 (.need (inR .i64 (a + (2 : Int) + bitop BinOp.and IntKind.u32 i (IntKind.u32.wrap (IntKind.u32.wrap n - (1 : Int))) * ((1 : Int) + IntKind.i64.wrap ((z + (3 : Int)).tdiv (4 : Int)))))
 (.eq (T.ret (SVal.int IntKind.i64 a) = T.ret (SVal.int IntKind.i64 a))
 (.eq (T.ret (SVal.int IntKind.i64 a) = T.ret (SVal.int IntKind.i64 a))
 (.eq (T.ret (SVal.int IntKind.i64 z) = T.ret (SVal.int IntKind.i64 z))

 (.ret (.int .i64 (a + (2 : Int) + bitop BinOp.and IntKind.u32 i (IntKind.u32.wrap (IntKind.u32.wrap n - (1 : Int))) * ((1 : Int) + IntKind.i64.wrap ((z + (3 : Int)).tdiv (4 : Int)))), [.ro encLook [PUnit.unit], .own [.c (.int .i64 a), .c (.int .i64 n), .c (.int .i64 z)] 71])))))))))))))

 (.need (inR .i64 (a + (2 : Int)))

 (.need (inR .i64 (z + (3 : Int)))

 (.need (true)

 (.need (inR .i64 ((1 : Int) + IntKind.i64.wrap ((z + (3 : Int)).tdiv (4 : Int))))

 (.need (inR .i64 ((0 : Int) * ((1 : Int) + IntKind.i64.wrap ((z + (3 : Int)).tdiv (4 : Int)))))

 (.need (inR .i64 (a + (2 : Int) + (0 : Int) * ((1 : Int) + IntKind.i64.wrap ((z + (3 : Int)).tdiv (4 : Int)))))
 (.eq (T.ret (SVal.int IntKind.i64 a) = T.ret (SVal.int IntKind.i64 a))
 (.eq (T.ret (SVal.int IntKind.i64 a) = T.ret (SVal.int IntKind.i64 a))
 (.eq (T.ret (SVal.int IntKind.i64 z) = T.ret (SVal.int IntKind.i64 z))

 (.ret (.int .i64 (a + (2 : Int) + (0 : Int) * ((1 : Int) + IntKind.i64.wrap ((z + (3 : Int)).tdiv (4 : Int)))), [.ro encLook [PUnit.unit], .own [.c (.int .i64 a), .c (.int .i64 n), .c (.int .i64 z)] 71]))))))))))))

 (.need (inR .i64 (a + (2 : Int)))

 (.need (inR .i64 (z + (3 : Int)))

 (.need (true)

 (.need (inR .i64 ((1 : Int) + IntKind.i64.wrap ((z + (3 : Int)).tdiv (4 : Int))))

 (.need (inR .i64 ((0 : Int) * ((1 : Int) + IntKind.i64.wrap ((z + (3 : Int)).tdiv (4 : Int)))))

 (.need (inR .i64 (a + (2 : Int) + (0 : Int) * ((1 : Int) + IntKind.i64.wrap ((z + (3 : Int)).tdiv (4 : Int)))))
 (.eq (T.ret (SVal.int IntKind.i64 a) = T.ret (SVal.int IntKind.i64 a))
 (.eq (T.ret (SVal.int IntKind.i64 a) = T.ret (SVal.int IntKind.i64 a))
 (.eq (T.ret (SVal.int IntKind.i64 z) = T.ret (SVal.int IntKind.i64 z))

 (.ret (.int .i64 (a + (2 : Int) + (0 : Int) * ((1 : Int) + IntKind.i64.wrap ((z + (3 : Int)).tdiv (4 : Int)))), [.ro encLook [PUnit.unit], .own [.c (.int .i64 a), .c (.int .i64 n), .c (.int .i64 z)] 71])))))))))))) := by kernel_rfl
end Go.Proofs.YtplbncncnjiahaaDoor

/- Layer 12: a word of a text; a place of a ring. -/
namespace Go.Proofs.YtplbncncnjiahaaDoor
open Go Go.Proofs.YtplbncncnjiahaaDoor.Sx
set_option linter.unusedVariables false
theorem byte_le (s : ByteArray) (i : Nat) : 0 ≤ byteAt s i ∧ byteAt s i ≤ 255 := by
  unfold byteAt
  have := (s.data.getD i 0).toNat_lt
  omega
/-- a byte of a text, nought behind its end -/
def byteD (s : ByteArray) (j : Nat) : Int := if j < s.size then byteAt s j else 0
theorem byteD_le (s : ByteArray) (j : Nat) : 0 ≤ byteD s j ∧ byteD s j ≤ 255 := by
  unfold byteD
  split
  · exact byte_le s j
  · omega
/-- four bytes as a word -/
def packI (s : ByteArray) (k : Nat) : Int := ((byteD s (4 * k) * 256 + byteD s (4 * k + 1)) * 256 + byteD s (4 * k + 2)) * 256 + byteD s (4 * k + 3)
theorem packI_le (s : ByteArray) (k : Nat) : 0 ≤ packI s k ∧ packI s k < 4294967296 := by
  have h0 := byteD_le s (4 * k)
  have h1 := byteD_le s (4 * k + 1)
  have h2 := byteD_le s (4 * k + 2)
  have h3 := byteD_le s (4 * k + 3)
  unfold packI
  omega
theorem or0 {b : Int} (h : 0 ≤ b ∧ b ≤ 255) : bitop .or .u32 0 b = b := by
  have h1 : low .u32 0 = 0 := by decide
  have h2 := low_u32 b
  simp only [bitop, h1, Nat.zero_or, w32_mod]
  omega
theorem shw_eq {w : Int} (hw : 0 ≤ w ∧ w < 16777216) : IntKind.u32.wrap (w * 256) = w * 256 := by rw [w32_mod]; omega
theorem sh_eq {w b : Int} (hw : 0 ≤ w ∧ w < 16777216) (hb : 0 ≤ b ∧ b ≤ 255) : bitop .or .u32 (w * 256) b = w * 256 + b := by
  have h1 := low_u32 (w * 256)
  have h2 := low_u32 b
  have e1 : low .u32 (w * 256) = w.toNat <<< 8 := by
    rw [Nat.shiftLeft_eq]; omega
  have e2 : low .u32 b = b.toNat := by omega
  have h3 := Nat.shiftLeft_add_eq_or_of_lt (b := b.toNat) (i := 8) (by omega) w.toNat
  simp only [bitop, e1, e2, w32_mod]
  rw [← h3, Nat.shiftLeft_eq]
  omega
theorem packI_of {s : ByteArray} {k : Nat} {b0 b1 b2 b3 : Int} (h0 : byteD s (4 * k) = b0) (h1 : byteD s (4 * k + 1) = b1) (h2 : byteD s (4 * k + 2) = b2) (h3 : byteD s (4 * k + 3) = b3) : packI s k = ((b0 * 256 + b1) * 256 + b2) * 256 + b3 := by
  unfold packI; rw [h0, h1, h2, h3]
theorem byteD_in {s : ByteArray} {k j : Nat} {x : Int} (h : x < (s.size : Int)) (e : x = ((4 * k + j : Nat) : Int)) : byteD s (4 * k + j) = byteAt s x.toNat := by
  subst e
  unfold byteD
  rw [if_pos (by omega), Int.toNat_natCast]
theorem byteD_out {s : ByteArray} {k j : Nat} {x : Int} (h : ¬ x < (s.size : Int)) (e : x = ((4 * k + j : Nat) : Int)) : byteD s (4 * k + j) = 0 := by
  unfold byteD
  rw [if_neg (by omega)]
set_option maxHeartbeats 4000000 in
theorem pack_call {s : ByteArray} {k : Nat} (hk : k ≤ 16) : ∀ (env : Env) (w : World) (vs : List Value), GlOk cfgM.gl env → Rep env [lookB] w → DenL env [.str s, .int .i64 (k : Nat)] vs → Calls cfgM.P 49 ⟨vs⟩ w (Ends1 env [lookB] w (.int .u32 (packI s k)) [lookB]) := by
  refine ends_allg (c := cfgM) cfgM_ok p_call (by kernel_rfl) rfl look_ren rfl ?_
  have b0 := byte_le s (4 * (k : Int) + 0).toNat
  have b1 := byte_le s (4 * (k : Int) + 1).toNat
  have b2 := byte_le s (4 * (k : Int) + 2).toNat
  have b3 := byte_le s (4 * (k : Int) + 3).toNat
  have i0 : ∀ h : 4 * (k : Int) + 0 < s.size, byteD s (4 * k + 0) = byteAt s (4 * (k : Int) + 0).toNat := fun h => byteD_in h (by omega)
  have i1 : ∀ h : 4 * (k : Int) + 1 < s.size, byteD s (4 * k + 1) = byteAt s (4 * (k : Int) + 1).toNat := fun h => byteD_in h (by omega)
  have i2 : ∀ h : 4 * (k : Int) + 2 < s.size, byteD s (4 * k + 2) = byteAt s (4 * (k : Int) + 2).toNat := fun h => byteD_in h (by omega)
  have i3 : ∀ h : 4 * (k : Int) + 3 < s.size, byteD s (4 * k + 3) = byteAt s (4 * (k : Int) + 3).toNat := fun h => byteD_in h (by omega)
  have o0 : ∀ h : ¬ 4 * (k : Int) + 0 < s.size, byteD s (4 * k + 0) = 0 := fun h => byteD_out h (by omega)
  have o1 : ∀ h : ¬ 4 * (k : Int) + 1 < s.size, byteD s (4 * k + 1) = 0 := fun h => byteD_out h (by omega)
  have o2 : ∀ h : ¬ 4 * (k : Int) + 2 < s.size, byteD s (4 * k + 2) = 0 := fun h => byteD_out h (by omega)
  have o3 : ∀ h : ¬ 4 * (k : Int) + 3 < s.size, byteD s (4 * k + 3) = 0 := fun h => byteD_out h (by omega)
  generalize byteAt s (4 * (k : Int) + 0).toNat = c0 at *
  generalize byteAt s (4 * (k : Int) + 1).toNat = c1 at *
  generalize byteAt s (4 * (k : Int) + 2).toNat = c2 at *
  generalize byteAt s (4 * (k : Int) + 3).toNat = c3 at *
  have ret : ∀ {d0 d1 d2 d3 x : Int}, byteD s (4 * k + 0) = d0 → byteD s (4 * k + 1) = d1 → byteD s (4 * k + 2) = d2 → byteD s (4 * k + 3) = d3 → x = ((d0 * 256 + d1) * 256 + d2) * 256 + d3 →
      All (fun r => ∃ X, gen r.1 = gen (.int .u32 (packI s k)) ∧ genS r.2 = genS ([lookB] ++ X)) (.ret (.int .u32 x, [lookB])) := by
    intro d0 d1 d2 d3 x e0 e1 e2 e3 hx
    rw [packI_of e0 e1 e2 e3, ← hx]
    exact all_ret ⟨[], rfl, rfl⟩
  have nd : ∀ {b : Bool} {p : Prop} {t : T (SVal × St)}, (b = true ↔ p) → p → All (fun r => ∃ X, gen r.1 = gen (.int .u32 (packI s k)) ∧ genS r.2 = genS ([lookB] ++ X)) t → All (fun r => ∃ X, gen r.1 = gen (.int .u32 (packI s k)) ∧ genS r.2 = genS ([lookB] ++ X)) (.need b t) := fun h1 h2 h3 => all_needq h1 h2 h3
  repeat' (first
    | refine nd (by simp only [inR_i64] <;> exact Iff.rfl) (by omega) ?_
    | refine nd (by simp only [inR_u32] <;> exact Iff.rfl) (by omega) ?_
    | refine nd (by simp only [decide_eq_true_eq, Bool.and_eq_true] <;> exact Iff.rfl) (by omega) ?_
    | refine all_need rfl (fun _ => ?_)
    | refine all_brp (by simp only [decide_eq_true_eq] <;> exact Iff.rfl) (fun h => ?_) (fun h => ?_))
  all_goals first
    | (exfalso; omega)
    | exact ret (by first | exact i0 (by assumption) | exact o0 (by assumption)) (by first | exact i1 (by assumption) | exact o1 (by assumption)) (by first | exact i2 (by assumption) | exact o2 (by assumption)) (by first | exact i3 (by assumption) | exact o3 (by assumption)) (by simp (disch := omega) only [or0, sh_eq, shw_eq] <;> omega)
    | (rw [packI_of (o0 (by assumption)) (o1 (by assumption)) (o2 (by assumption)) (o3 (by assumption))]
       exact all_ret ⟨[], rfl, rfl⟩)
structure RingOk (n z : Int) : Prop where
  p : powB n = true
  n : 1 ≤ n ∧ n ≤ 32768
  z : 1 ≤ z ∧ z ≤ 32
/-- where the place of an index begins -/
def plc (a n z i : Int) : Int := a + 2 + i % n * (1 + (z + 3) / 4)
theorem and_pow2 {n z i : Int} (h : RingOk n z) (hi : 0 ≤ i ∧ i < 4294967296) : bitop .and .u32 i (n - 1) = i % n := by
  have hp := h.p
  have hn := h.n
  have e1 : low .u32 i = i.toNat := by have := low_u32 i; omega
  have e2 : low .u32 (n - 1) = n.toNat - 1 := by have := low_u32 (n - 1); omega
  have hk : ∃ k, k ≤ 15 ∧ n.toNat = 2 ^ k := by
    have hp' : n = 1 ∨ n = 2 ∨ n = 4 ∨ n = 8 ∨ n = 16 ∨ n = 32 ∨ n = 64 ∨ n = 128 ∨ n = 256 ∨ n = 512 ∨ n = 1024 ∨ n = 2048 ∨ n = 4096 ∨ n = 8192 ∨ n = 16384 ∨ n = 32768 := by simpa [powB] using hp
    rcases hp' with rfl | rfl | rfl | rfl | rfl | rfl | rfl | rfl | rfl | rfl | rfl | rfl | rfl | rfl | rfl | rfl
    · exact ⟨0, by omega, rfl⟩
    · exact ⟨1, by omega, rfl⟩
    · exact ⟨2, by omega, rfl⟩
    · exact ⟨3, by omega, rfl⟩
    · exact ⟨4, by omega, rfl⟩
    · exact ⟨5, by omega, rfl⟩
    · exact ⟨6, by omega, rfl⟩
    · exact ⟨7, by omega, rfl⟩
    · exact ⟨8, by omega, rfl⟩
    · exact ⟨9, by omega, rfl⟩
    · exact ⟨10, by omega, rfl⟩
    · exact ⟨11, by omega, rfl⟩
    · exact ⟨12, by omega, rfl⟩
    · exact ⟨13, by omega, rfl⟩
    · exact ⟨14, by omega, rfl⟩
    · exact ⟨15, by omega, rfl⟩
  obtain ⟨k, _, hk⟩ := hk
  simp only [bitop, e1, e2, w32_mod, hk, Nat.and_two_pow_sub_one_eq_mod]
  have e3 : ((i.toNat % 2 ^ k : Nat) : Int) = i % n := by
    rw [← hk, Int.natCast_emod, Int.toNat_of_nonneg hi.1, Int.toNat_of_nonneg (by omega)]
  rw [e3]
  have h4 := Int.emod_nonneg i (show n ≠ 0 by omega)
  have h5 := Int.emod_lt_of_pos i (show 0 < n by omega)
  omega
theorem plc_le {a n z i : Int} (h : RingOk n z) : a + 2 ≤ plc a n z i ∧ plc a n z i ≤ a + 2 + 32767 * 9 := by
  have hn := h.n
  have hz := h.z
  have h4 := Int.emod_nonneg i (show n ≠ 0 by omega)
  have h5 := Int.emod_lt_of_pos i (show 0 < n by omega)
  have h9 : 1 + (z + 3) / 4 ≤ 9 := by omega
  have h10 : 0 ≤ 1 + (z + 3) / 4 := by omega
  have h6 : 0 ≤ i % n * (1 + (z + 3) / 4) := Int.mul_nonneg h4 h10
  have h7 : i % n * (1 + (z + 3) / 4) ≤ 32767 * 9 := Int.mul_le_mul (by omega) h9 h10 (by omega)
  unfold plc
  omega
set_option maxHeartbeats 1000000 in
theorem place_call {a n z i : Int} (h : RingOk n z) (ha : -1000000 ≤ a ∧ a ≤ 1000000) (hi : 0 ≤ i ∧ i < 4294967296) : ∀ (env : Env) (w : World) (vs : List Value), GlOk cfgM.gl env → Rep env [lookB] w → DenL env [.agg [.int .i64 a, .int .i64 n, .int .i64 z], .int .u32 i] vs → Calls cfgM.P 50 ⟨vs⟩ w (Ends1 env [lookB] w (.int .i64 (plc a n z i)) [lookB]) := by
  refine ends_allg (c := cfgM) cfgM_ok pc_call (by kernel_rfl) rfl look_ren rfl ?_
  have hn := h.n
  have hz := h.z
  have hp := h.p
  have e1 : IntKind.u32.wrap n = n := wrap_inR (by rw [inR_u32]; omega)
  have e2 : IntKind.u32.wrap (n - 1) = n - 1 := wrap_inR (by rw [inR_u32]; omega)
  have e3 : IntKind.i64.wrap ((z + 3).tdiv 4) = (z + 3) / 4 := by
    rw [Int.tdiv_eq_ediv_of_nonneg (by omega), wrap_i64 (by omega)]
  have h4 := Int.emod_nonneg i (show n ≠ 0 by omega)
  have h5 := Int.emod_lt_of_pos i (show 0 < n by omega)
  have h6 := plc_le (a := a) (i := i) h
  have h7 : 0 ≤ i % n * (1 + (z + 3) / 4) := Int.mul_nonneg h4 (by omega)
  rw [e1, e2, e3, pow_and hn.1 hn.2, and_pow2 h hi]
  unfold plc at *
  refine all_brp (by simp only [decide_eq_true_eq]; exact Iff.rfl) (fun h3 => ?_) (fun h3 => by exfalso; omega)
  refine all_brp (by simp only [decide_eq_true_eq]; exact Iff.rfl) (fun h3 => ?_) (fun h3 => by exfalso; omega)
  refine all_br (fun h8 => by rw [hp] at h8; cases h8) (fun h8 => ?_)
  repeat' (first
    | refine all_needq (by simp only [inR_i64]; exact Iff.rfl) (by omega) ?_
    | refine all_need rfl (fun _ => ?_)
    | refine all_eq rfl ?_)
  exact all_ret ⟨_, rfl, rfl⟩
noncomputable def gPack (args : List SVal) (S : St) : T (SVal × St) := match args with
  | [.str s, b] => match asI b with
    | some (.i64, x, _) => .eq (S = [lookB] ∧ 0 ≤ x ∧ x ≤ 16) (.ret (.int .u32 (packI s x.toNat), [lookB]))
    | _ => .no 202
  | _ => .no 203
theorem gPack_ok (args : List SVal) (S : St) (v : SVal) (S' : St) (h : (gPack args S).at (v, S')) : PreOk cfgM 1 49 args S v S' := by
  unfold gPack at h
  split at h
  · rename_i s b
    split at h
    · rename_i x la h1
      obtain ⟨⟨rfl, hx⟩, h⟩ := h
      simp only [T.at, Prod.mk.injEq] at h
      obtain ⟨rfl, rfl⟩ := h
      refine ⟨fun env w vs hg hr hd => ?_, rfl, rfl, fun _ _ h => .inr h, look_ren, by simp only [renL, ren, asI_ren h1]⟩
      obtain ⟨u, us, rfl, h4, u2, us2, rfl, h5, rfl⟩ := hd
      have h5 := asI_int h1 h5
      have e : x = ((x.toNat : Nat) : Int) := by omega
      rw [e] at h5
      exact pack_call (by omega) env w _ hg hr ⟨_, _, rfl, h4, _, _, rfl, h5, rfl⟩
    · exact h.elim
  · exact h.elim
noncomputable def gPlace (args : List SVal) (S : St) : T (SVal × St) := match args with
  | [.agg [.int .i64 a, .int .i64 n, .int .i64 z], .int .u32 i] => .eq (S = [lookB] ∧ RingOk n z ∧ (-1000000 ≤ a ∧ a ≤ 1000000) ∧ (0 ≤ i ∧ i < 4294967296)) (.ret (.int .i64 (plc a n z i), [lookB]))
  | _ => .no 205
theorem gPlace_ok (args : List SVal) (S : St) (v : SVal) (S' : St) (h : (gPlace args S).at (v, S')) : PreOk cfgM 1 50 args S v S' := by
  unfold gPlace at h
  split at h
  · obtain ⟨⟨rfl, h1, h2, h3⟩, h⟩ := h
    simp only [T.at, Prod.mk.injEq] at h
    obtain ⟨rfl, rfl⟩ := h
    exact ⟨fun env w vs hg hr hd => place_call h1 h2 h3 env w vs hg hr hd, rfl, rfl, fun _ _ h => .inr h, look_ren, rfl⟩
  · exact h.elim
noncomputable def cfgK : Cfg := { P := Tryd.prog, ex := exI, gl := [(0, 0)], sm := fun f => match f with
  | 49 => some (smPre 1 gPack)
  | 50 => some (smPre 1 gPlace)
  | _ => none }
theorem cfgK_ok : SmOk cfgK := by
  intro f g h
  simp only [cfgK] at h
  split at h
  · simp only [Option.some.injEq] at h; subst h
    exact smPre_ok (c := cfgM) (gl_lt (by omega)) gPack_ok
  · simp only [Option.some.injEq] at h; subst h
    exact smPre_ok (c := cfgM) (gl_lt (by omega)) gPlace_ok
  · cases h
end Go.Proofs.YtplbncncnjiahaaDoor

/- Layer 12: a step's body. -/
namespace Go.Proofs.YtplbncncnjiahaaDoor
open Go Go.Proofs.YtplbncncnjiahaaDoor.Sx
noncomputable def bSn : Code := Tryd.f19.body.getD .skip
noncomputable def bR : Code := Tryd.f20.body.getD .skip
abbrev agS : List SVal := [.ptr 3 0, .ptr 2 0]
/-- bytes as a text -/
def strI (l : List Int) : ByteArray := ⟨⟨(l.flatMap (encInt .u8).enc).map Sx.byteOf⟩⟩
end Go.Proofs.YtplbncncnjiahaaDoor

namespace Go.Proofs.YtplbncncnjiahaaDoor
open Go Go.Proofs.YtplbncncnjiahaaDoor.Sx
set_option linter.unusedVariables false
set_option maxRecDepth 100000 in
theorem sb_b {n : Nat} {l : List Int} {c : Int} {x : Snd} {ms : List ByteArray} : callF cfgK 100 19 agS (sSn 30 n l c x ms) =
 

 (.br ((↑x.7.length : Int) == (↑ms.length : Int))

 (.ret (.bl true, [.ro encLook [PUnit.unit], .own [.a (encInt IntKind.u32) n l] 40, .own [.c (.sli 1 (.c 0) 1 (.v n) (some (.v n))), .c (.int .i64 c)] 80, .own [.c (.int .i64 x.1), .c (.int .i64 x.2), .c (.int .i64 x.3), .c (SVal.fn (Fn.func 30) [.ptr 3 0] []), .c (.int .u32 x.4), .c (.int .u32 x.5), .c (.int .i64 x.6), .c (.sli 4 (.c 0) 1 (.v ms.length) none), .c (.sli 5 (.c 0) 1 (.v x.7.length) none)] 76, .vec encStr ms 9, .vec encBool x.7 4]))

 (.need (inR .i64 (x.1 + (0 : Int)))

 (.need (true)

 (.need (true)

 (.need (true)

 (.br (decide (x.1 + (0 : Int) < (0 : Int)))
 (.eq (T.ret (SVal.fn (Fn.func (30 : Nat)) [SVal.ptr (3 : Nat) (0 : Nat)] []) = T.ret (SVal.fn (Fn.func (30 : Nat)) [SVal.ptr (3 : Nat) (0 : Nat)] []))

 (.ret (.bl true, [.ro encLook [PUnit.unit], .own [.a (encInt IntKind.u32) n l] 40, .own [.c (.sli 1 (.c 0) 1 (.v n) (some (.v n))), .c (.int .i64 c)] 80, .own [.c (.int .i64 x.1), .c (.int .i64 x.2), .c (.int .i64 x.3), .c (SVal.fn (Fn.func 42) [.ptr 3 0] []), .c (.lit .u32 (0 : Int)), .c (.int .u32 x.5), .c (.int .i64 x.6), .c (.sli 4 (.c 0) 1 (.v ms.length) none), .c (.sli 5 (.c 0) 1 (.v x.7.length) none)] 76, .vec encStr ms 9, .vec encBool x.7 4, .own [.c (.lit .u32 (4294967295 : Int)), .c (.lit .u32 (0 : Int)), .c (.lit .u32 (0 : Int))] 83])))

 (.br (decide ((↑n : Int) ≤ x.1 + (0 : Int)))
 (.eq (T.ret (SVal.fn (Fn.func (30 : Nat)) [SVal.ptr (3 : Nat) (0 : Nat)] []) = T.ret (SVal.fn (Fn.func (30 : Nat)) [SVal.ptr (3 : Nat) (0 : Nat)] []))

 (.ret (.bl true, [.ro encLook [PUnit.unit], .own [.a (encInt IntKind.u32) n l] 40, .own [.c (.sli 1 (.c 0) 1 (.v n) (some (.v n))), .c (.int .i64 c)] 80, .own [.c (.int .i64 x.1), .c (.int .i64 x.2), .c (.int .i64 x.3), .c (SVal.fn (Fn.func 42) [.ptr 3 0] []), .c (.lit .u32 (0 : Int)), .c (.int .u32 x.5), .c (.int .i64 x.6), .c (.sli 4 (.c 0) 1 (.v ms.length) none), .c (.sli 5 (.c 0) 1 (.v x.7.length) none)] 76, .vec encStr ms 9, .vec encBool x.7 4, .own [.c (.lit .u32 (4294967295 : Int)), .c (.lit .u32 (0 : Int)), .c (.lit .u32 (0 : Int))] 83])))

 (.need (inR .i64 (c + (1 : Int)))

 (.need (decide ((0 : Int) ≤ x.1 + (0 : Int)) && decide ((x.1 + (0 : Int)).toNat < n))

 (.need (decide ((x.1 + (0 : Int)).toNat < n))

 (.need (true)

 (.need (true)

 (.need (true)
 (.eq (T.ret (SVal.fn (Fn.func (30 : Nat)) [SVal.ptr (3 : Nat) (0 : Nat)] []) = T.ret (SVal.fn (Fn.func (30 : Nat)) [SVal.ptr (3 : Nat) (0 : Nat)] []))
 (.eq (T.ret (SVal.sli (5 : Nat) (NN.c (0 : Nat)) (1 : Nat) (NN.v x.7.length) none) = T.ret (SVal.sli (5 : Nat) (NN.c (0 : Nat)) (1 : Nat) (NN.v x.7.length) none))
 (.eq (T.ret (SVal.sli (4 : Nat) (NN.c (0 : Nat)) (1 : Nat) (NN.v ms.length) none) = T.ret (SVal.sli (4 : Nat) (NN.c (0 : Nat)) (1 : Nat) (NN.v ms.length) none))

 (.ret (.sb ((↑x.7.length : Int) == (↑ms.length : Int)), [.ro encLook [PUnit.unit], .own [.a (encInt IntKind.u32) n l] 40, .own [.c (.sli 1 (.c 0) 1 (.v n) (some (.v n))), .c (.int .i64 (c + (1 : Int)))] 80, .own [.c (.int .i64 x.1), .c (.int .i64 x.2), .c (.int .i64 x.3), .c (SVal.fn (Fn.func 42) [.ptr 3 0] []), .c (.int .u32 (l.getD (x.1 + (0 : Int)).toNat (0 : Int))), .c (.int .u32 x.5), .c (.int .i64 x.6), .c (.sli 4 (.c 0) 1 (.v ms.length) none), .c (.sli 5 (.c 0) 1 (.v x.7.length) none)] 76, .vec encStr ms 9, .vec encBool x.7 4, .own [.c (.lit .u32 (4294967295 : Int)), .c (.lit .u32 (0 : Int)), .c (.lit .u32 (0 : Int))] 83])))))))))))))))))) := by kernel_rfl
set_option maxRecDepth 100000 in
theorem sl_b {n : Nat} {l : List Int} {c : Int} {x : Snd} {ms : List ByteArray} : callF cfgK 100 19 agS (sSn 42 n l c x ms) =
 

 (.br ((↑x.7.length : Int) == (↑ms.length : Int))

 (.ret (.bl true, [.ro encLook [PUnit.unit], .own [.a (encInt IntKind.u32) n l] 40, .own [.c (.sli 1 (.c 0) 1 (.v n) (some (.v n))), .c (.int .i64 c)] 80, .own [.c (.int .i64 x.1), .c (.int .i64 x.2), .c (.int .i64 x.3), .c (SVal.fn (Fn.func 42) [.ptr 3 0] []), .c (.int .u32 x.4), .c (.int .u32 x.5), .c (.int .i64 x.6), .c (.sli 4 (.c 0) 1 (.v ms.length) none), .c (.sli 5 (.c 0) 1 (.v x.7.length) none)] 76, .vec encStr ms 9, .vec encBool x.7 4]))

 (.need (inR .i64 (x.1 + (1 : Int)))

 (.need (true)

 (.need (true)

 (.need (true)

 (.br (decide (x.1 + (1 : Int) < (0 : Int)))
 (.eq (T.ret (SVal.fn (Fn.func (42 : Nat)) [SVal.ptr (3 : Nat) (0 : Nat)] []) = T.ret (SVal.fn (Fn.func (42 : Nat)) [SVal.ptr (3 : Nat) (0 : Nat)] []))

 (.ret (.bl true, [.ro encLook [PUnit.unit], .own [.a (encInt IntKind.u32) n l] 40, .own [.c (.sli 1 (.c 0) 1 (.v n) (some (.v n))), .c (.int .i64 c)] 80, .own [.c (.int .i64 x.1), .c (.int .i64 x.2), .c (.int .i64 x.3), .c (SVal.fn (Fn.func 42) [.ptr 3 0] []), .c (.int .u32 x.4), .c (.lit .u32 (0 : Int)), .c (.int .i64 x.6), .c (.sli 4 (.c 0) 1 (.v ms.length) none), .c (.sli 5 (.c 0) 1 (.v x.7.length) none)] 76, .vec encStr ms 9, .vec encBool x.7 4, .own [.c (.lit .u32 (4294967295 : Int)), .c (.lit .u32 (0 : Int)), .c (.lit .u32 (0 : Int))] 83])))

 (.br (decide ((↑n : Int) ≤ x.1 + (1 : Int)))
 (.eq (T.ret (SVal.fn (Fn.func (42 : Nat)) [SVal.ptr (3 : Nat) (0 : Nat)] []) = T.ret (SVal.fn (Fn.func (42 : Nat)) [SVal.ptr (3 : Nat) (0 : Nat)] []))

 (.ret (.bl true, [.ro encLook [PUnit.unit], .own [.a (encInt IntKind.u32) n l] 40, .own [.c (.sli 1 (.c 0) 1 (.v n) (some (.v n))), .c (.int .i64 c)] 80, .own [.c (.int .i64 x.1), .c (.int .i64 x.2), .c (.int .i64 x.3), .c (SVal.fn (Fn.func 42) [.ptr 3 0] []), .c (.int .u32 x.4), .c (.lit .u32 (0 : Int)), .c (.int .i64 x.6), .c (.sli 4 (.c 0) 1 (.v ms.length) none), .c (.sli 5 (.c 0) 1 (.v x.7.length) none)] 76, .vec encStr ms 9, .vec encBool x.7 4, .own [.c (.lit .u32 (4294967295 : Int)), .c (.lit .u32 (0 : Int)), .c (.lit .u32 (0 : Int))] 83])))

 (.need (inR .i64 (c + (1 : Int)))

 (.need (decide ((0 : Int) ≤ x.1 + (1 : Int)) && decide ((x.1 + (1 : Int)).toNat < n))

 (.need (decide ((x.1 + (1 : Int)).toNat < n))

 (.need (true)

 (.need (true)

 (.need (true)
 (.eq (T.ret (SVal.int IntKind.u32 x.4) = T.ret (SVal.int IntKind.u32 x.4))
 (.eq (T.ret (SVal.int IntKind.u32 (l.getD (x.1 + (1 : Int)).toNat (0 : Int))) = T.ret (SVal.int IntKind.u32 (l.getD (x.1 + (1 : Int)).toNat (0 : Int))))
 (.eq (T.ret (SVal.int IntKind.i64 x.2) = T.ret (SVal.int IntKind.i64 x.2))
 (.eq (T.ret (SVal.int IntKind.i64 x.2) = T.ret (SVal.int IntKind.i64 x.2))

 (.br (decide (IntKind.u32.wrap x.2 ≤ IntKind.u32.wrap (l.getD (x.1 + (1 : Int)).toNat (0 : Int) - x.4)))

 (.need (true)

 (.need (decide (x.7.length = x.7.length))

 (.need (roomy (x.7.length + 1) 1)
 (.eq (T.ret (SVal.fn (Fn.func (42 : Nat)) [SVal.ptr (3 : Nat) (0 : Nat)] []) = T.ret (SVal.fn (Fn.func (42 : Nat)) [SVal.ptr (3 : Nat) (0 : Nat)] []))
 (.eq (T.ret (SVal.sli (8 : Nat) (NN.c (0 : Nat)) (1 : Nat) (NN.v (x.7.length + (1 : Nat))) none) = T.ret (SVal.sli (8 : Nat) (NN.c (0 : Nat)) (1 : Nat) (NN.v (x.7.length + (1 : Nat))) none))
 (.eq (T.ret (SVal.sli (4 : Nat) (NN.c (0 : Nat)) (1 : Nat) (NN.v ms.length) none) = T.ret (SVal.sli (4 : Nat) (NN.c (0 : Nat)) (1 : Nat) (NN.v ms.length) none))

 (.ret (.sb ((↑(x.7.length + 1) : Int) == (↑ms.length : Int)), [.ro encLook [PUnit.unit], .own [.a (encInt IntKind.u32) n l] 40, .own [.c (.sli 1 (.c 0) 1 (.v n) (some (.v n))), .c (.int .i64 (c + (1 : Int)))] 80, .own [.c (.int .i64 x.1), .c (.int .i64 x.2), .c (.int .i64 x.3), .c (SVal.fn (Fn.func 30) [.ptr 3 0] []), .c (.int .u32 x.4), .c (.int .u32 (l.getD (x.1 + (1 : Int)).toNat (0 : Int))), .c (.lit .i64 (0 : Int)), .c (.sli 4 (.c 0) 1 (.v ms.length) none), .c (.sli 8 (.c 0) 1 (.v (x.7.length + 1)) none)] 76, .vec encStr ms 9, .gone, .own [.c (.lit .u32 (4294967295 : Int)), .c (.lit .u32 (0 : Int)), .c (.lit .u32 (0 : Int))] 83, .own [.c (.bl false)] 4, .vec encBool (x.7 ++ [false]) 4]))))))))
 (.eq (T.ret (SVal.fn (Fn.func (42 : Nat)) [SVal.ptr (3 : Nat) (0 : Nat)] []) = T.ret (SVal.fn (Fn.func (42 : Nat)) [SVal.ptr (3 : Nat) (0 : Nat)] []))
 (.eq (T.ret (SVal.sli (5 : Nat) (NN.c (0 : Nat)) (1 : Nat) (NN.v x.7.length) none) = T.ret (SVal.sli (5 : Nat) (NN.c (0 : Nat)) (1 : Nat) (NN.v x.7.length) none))
 (.eq (T.ret (SVal.sli (4 : Nat) (NN.c (0 : Nat)) (1 : Nat) (NN.v ms.length) none) = T.ret (SVal.sli (4 : Nat) (NN.c (0 : Nat)) (1 : Nat) (NN.v ms.length) none))

 (.ret (.sb ((↑x.7.length : Int) == (↑ms.length : Int)), [.ro encLook [PUnit.unit], .own [.a (encInt IntKind.u32) n l] 40, .own [.c (.sli 1 (.c 0) 1 (.v n) (some (.v n))), .c (.int .i64 (c + (1 : Int)))] 80, .own [.c (.int .i64 x.1), .c (.int .i64 x.2), .c (.int .i64 x.3), .c (SVal.fn (Fn.func 45) [.ptr 3 0] []), .c (.int .u32 x.4), .c (.int .u32 (l.getD (x.1 + (1 : Int)).toNat (0 : Int))), .c (.lit .i64 (0 : Int)), .c (.sli 4 (.c 0) 1 (.v ms.length) none), .c (.sli 5 (.c 0) 1 (.v x.7.length) none)] 76, .vec encStr ms 9, .vec encBool x.7 4, .own [.c (.lit .u32 (4294967295 : Int)), .c (.lit .u32 (0 : Int)), .c (.lit .u32 (0 : Int))] 83]))))))))))))))))))))))) := by kernel_rfl
set_option maxRecDepth 100000 in
theorem sp_b {n : Nat} {l : List Int} {c : Int} {x : Snd} {ms : List ByteArray} : callF cfgK 100 19 agS (sSn 45 n l c x ms) =
 

 (.br ((↑x.7.length : Int) == (↑ms.length : Int))

 (.ret (.bl true, [.ro encLook [PUnit.unit], .own [.a (encInt IntKind.u32) n l] 40, .own [.c (.sli 1 (.c 0) 1 (.v n) (some (.v n))), .c (.int .i64 c)] 80, .own [.c (.int .i64 x.1), .c (.int .i64 x.2), .c (.int .i64 x.3), .c (SVal.fn (Fn.func 45) [.ptr 3 0] []), .c (.int .u32 x.4), .c (.int .u32 x.5), .c (.int .i64 x.6), .c (.sli 4 (.c 0) 1 (.v ms.length) none), .c (.sli 5 (.c 0) 1 (.v x.7.length) none)] 76, .vec encStr ms 9, .vec encBool x.7 4]))

 (.need (decide ((0 : Int) ≤ (↑x.7.length : Int)) && decide ((↑x.7.length : Int).toNat < ms.length))

 (.need (decide ((↑x.7.length : Int).toNat < ms.length))

 (.br (decide ((0 : Int) < x.6))

 (.need (inR .i64 (x.6 - (1 : Int)))

 (.eq ([Blk.ro encLook [PUnit.unit]] = [Blk.ro encLook [PUnit.unit]] ∧ (0 : Int) ≤ x.6 - (1 : Int) ∧ x.6 - (1 : Int) ≤ (16 : Int))

 (.eq ([Blk.ro encLook [PUnit.unit]] = [Blk.ro encLook [PUnit.unit]] ∧ RingOk x.2 x.3 ∧ ((-1000000 : Int) ≤ x.1 ∧ x.1 ≤ (1000000 : Int)) ∧ (0 : Int) ≤ x.5 ∧ x.5 < (4294967296 : Int))

 (.need (inR .i64 (x.1 + (2 : Int) + x.5 % x.2 * ((1 : Int) + (x.3 + (3 : Int)) / (4 : Int)) + x.6))

 (.br (decide (x.1 + (2 : Int) + x.5 % x.2 * ((1 : Int) + (x.3 + (3 : Int)) / (4 : Int)) + x.6 < (0 : Int)))
 (.eq (T.ret (SVal.agg [SVal.int IntKind.i64 x.1, SVal.int IntKind.i64 x.2, SVal.int IntKind.i64 x.3]) = T.ret (SVal.agg [SVal.int IntKind.i64 x.1, SVal.int IntKind.i64 x.2, SVal.int IntKind.i64 x.3]))
 (.eq (T.ret (SVal.int IntKind.u32 x.5) = T.ret (SVal.int IntKind.u32 x.5))
 (.eq (T.ret (SVal.int IntKind.i64 x.6) = T.ret (SVal.int IntKind.i64 x.6))
 (.eq (T.ret (SVal.int IntKind.i64 x.6) = T.ret (SVal.int IntKind.i64 x.6))

 (.need (inR .i64 (x.6 + (1 : Int)))

 (.need (inR .i64 ((↑(ms.getD (↑x.7.length : Int).toNat { data := { toList := [] } }).size : Int) + (3 : Int)))

 (.need (true)
 (.eq (T.ret (SVal.int IntKind.i64 (x.6 + (1 : Int))) = T.ret (SVal.int IntKind.i64 (x.6 + (1 : Int))))
 (.eq (T.ret (SVal.int IntKind.i64 (x.6 + (1 : Int))) = T.ret (SVal.int IntKind.i64 (x.6 + (1 : Int))))

 (.br (decide (IntKind.i64.wrap (((↑(ms.getD (↑x.7.length : Int).toNat { data := { toList := [] } }).size : Int) + (3 : Int)).tdiv (4 : Int)) < x.6 + (1 : Int)))
 (.eq (T.ret (SVal.fn (Fn.func (45 : Nat)) [SVal.ptr (3 : Nat) (0 : Nat)] []) = T.ret (SVal.fn (Fn.func (45 : Nat)) [SVal.ptr (3 : Nat) (0 : Nat)] []))

 (.ret (.bl true, [.ro encLook [PUnit.unit], .own [.a (encInt IntKind.u32) n l] 40, .own [.c (.sli 1 (.c 0) 1 (.v n) (some (.v n))), .c (.int .i64 c)] 80, .own [.c (.int .i64 x.1), .c (.int .i64 x.2), .c (.int .i64 x.3), .c (SVal.fn (Fn.func 51) [.ptr 3 0] []), .c (.int .u32 x.4), .c (.int .u32 x.5), .c (.int .i64 (x.6 + (1 : Int))), .c (.sli 4 (.c 0) 1 (.v ms.length) none), .c (.sli 5 (.c 0) 1 (.v x.7.length) none)] 76, .vec encStr ms 9, .vec encBool x.7 4, .own [.c (.lit .u32 (0 : Int)), .c (.int .u32 ((((if 4 * (x.6 - (1 : Int)).toNat < (ms.getD (↑x.7.length : Int).toNat { data := { toList := [] } }).size then byteAt (ms.getD (↑x.7.length : Int).toNat { data := { toList := [] } }) (4 * (x.6 - (1 : Int)).toNat) else (0 : Int)) * (256 : Int) + if 4 * (x.6 - (1 : Int)).toNat + 1 < (ms.getD (↑x.7.length : Int).toNat { data := { toList := [] } }).size then byteAt (ms.getD (↑x.7.length : Int).toNat { data := { toList := [] } }) (4 * (x.6 - (1 : Int)).toNat + 1) else (0 : Int)) * (256 : Int) + if 4 * (x.6 - (1 : Int)).toNat + 2 < (ms.getD (↑x.7.length : Int).toNat { data := { toList := [] } }).size then byteAt (ms.getD (↑x.7.length : Int).toNat { data := { toList := [] } }) (4 * (x.6 - (1 : Int)).toNat + 2) else (0 : Int)) * (256 : Int) + if 4 * (x.6 - (1 : Int)).toNat + 3 < (ms.getD (↑x.7.length : Int).toNat { data := { toList := [] } }).size then byteAt (ms.getD (↑x.7.length : Int).toNat { data := { toList := [] } }) (4 * (x.6 - (1 : Int)).toNat + 3) else (0 : Int))), .c (.lit .u32 (0 : Int))] 83])))
 (.eq (T.ret (SVal.fn (Fn.func (45 : Nat)) [SVal.ptr (3 : Nat) (0 : Nat)] []) = T.ret (SVal.fn (Fn.func (45 : Nat)) [SVal.ptr (3 : Nat) (0 : Nat)] []))

 (.ret (.bl true, [.ro encLook [PUnit.unit], .own [.a (encInt IntKind.u32) n l] 40, .own [.c (.sli 1 (.c 0) 1 (.v n) (some (.v n))), .c (.int .i64 c)] 80, .own [.c (.int .i64 x.1), .c (.int .i64 x.2), .c (.int .i64 x.3), .c (SVal.fn (Fn.func 45) [.ptr 3 0] []), .c (.int .u32 x.4), .c (.int .u32 x.5), .c (.int .i64 (x.6 + (1 : Int))), .c (.sli 4 (.c 0) 1 (.v ms.length) none), .c (.sli 5 (.c 0) 1 (.v x.7.length) none)] 76, .vec encStr ms 9, .vec encBool x.7 4, .own [.c (.lit .u32 (0 : Int)), .c (.int .u32 ((((if 4 * (x.6 - (1 : Int)).toNat < (ms.getD (↑x.7.length : Int).toNat { data := { toList := [] } }).size then byteAt (ms.getD (↑x.7.length : Int).toNat { data := { toList := [] } }) (4 * (x.6 - (1 : Int)).toNat) else (0 : Int)) * (256 : Int) + if 4 * (x.6 - (1 : Int)).toNat + 1 < (ms.getD (↑x.7.length : Int).toNat { data := { toList := [] } }).size then byteAt (ms.getD (↑x.7.length : Int).toNat { data := { toList := [] } }) (4 * (x.6 - (1 : Int)).toNat + 1) else (0 : Int)) * (256 : Int) + if 4 * (x.6 - (1 : Int)).toNat + 2 < (ms.getD (↑x.7.length : Int).toNat { data := { toList := [] } }).size then byteAt (ms.getD (↑x.7.length : Int).toNat { data := { toList := [] } }) (4 * (x.6 - (1 : Int)).toNat + 2) else (0 : Int)) * (256 : Int) + if 4 * (x.6 - (1 : Int)).toNat + 3 < (ms.getD (↑x.7.length : Int).toNat { data := { toList := [] } }).size then byteAt (ms.getD (↑x.7.length : Int).toNat { data := { toList := [] } }) (4 * (x.6 - (1 : Int)).toNat + 3) else (0 : Int))), .c (.lit .u32 (0 : Int))] 83])))))))))))))

 (.br (decide ((↑n : Int) ≤ x.1 + (2 : Int) + x.5 % x.2 * ((1 : Int) + (x.3 + (3 : Int)) / (4 : Int)) + x.6))
 (.eq (T.ret (SVal.agg [SVal.int IntKind.i64 x.1, SVal.int IntKind.i64 x.2, SVal.int IntKind.i64 x.3]) = T.ret (SVal.agg [SVal.int IntKind.i64 x.1, SVal.int IntKind.i64 x.2, SVal.int IntKind.i64 x.3]))
 (.eq (T.ret (SVal.int IntKind.u32 x.5) = T.ret (SVal.int IntKind.u32 x.5))
 (.eq (T.ret (SVal.int IntKind.i64 x.6) = T.ret (SVal.int IntKind.i64 x.6))
 (.eq (T.ret (SVal.int IntKind.i64 x.6) = T.ret (SVal.int IntKind.i64 x.6))

 (.need (inR .i64 (x.6 + (1 : Int)))

 (.need (inR .i64 ((↑(ms.getD (↑x.7.length : Int).toNat { data := { toList := [] } }).size : Int) + (3 : Int)))

 (.need (true)
 (.eq (T.ret (SVal.int IntKind.i64 (x.6 + (1 : Int))) = T.ret (SVal.int IntKind.i64 (x.6 + (1 : Int))))
 (.eq (T.ret (SVal.int IntKind.i64 (x.6 + (1 : Int))) = T.ret (SVal.int IntKind.i64 (x.6 + (1 : Int))))

 (.br (decide (IntKind.i64.wrap (((↑(ms.getD (↑x.7.length : Int).toNat { data := { toList := [] } }).size : Int) + (3 : Int)).tdiv (4 : Int)) < x.6 + (1 : Int)))
 (.eq (T.ret (SVal.fn (Fn.func (45 : Nat)) [SVal.ptr (3 : Nat) (0 : Nat)] []) = T.ret (SVal.fn (Fn.func (45 : Nat)) [SVal.ptr (3 : Nat) (0 : Nat)] []))

 (.ret (.bl true, [.ro encLook [PUnit.unit], .own [.a (encInt IntKind.u32) n l] 40, .own [.c (.sli 1 (.c 0) 1 (.v n) (some (.v n))), .c (.int .i64 c)] 80, .own [.c (.int .i64 x.1), .c (.int .i64 x.2), .c (.int .i64 x.3), .c (SVal.fn (Fn.func 51) [.ptr 3 0] []), .c (.int .u32 x.4), .c (.int .u32 x.5), .c (.int .i64 (x.6 + (1 : Int))), .c (.sli 4 (.c 0) 1 (.v ms.length) none), .c (.sli 5 (.c 0) 1 (.v x.7.length) none)] 76, .vec encStr ms 9, .vec encBool x.7 4, .own [.c (.lit .u32 (0 : Int)), .c (.int .u32 ((((if 4 * (x.6 - (1 : Int)).toNat < (ms.getD (↑x.7.length : Int).toNat { data := { toList := [] } }).size then byteAt (ms.getD (↑x.7.length : Int).toNat { data := { toList := [] } }) (4 * (x.6 - (1 : Int)).toNat) else (0 : Int)) * (256 : Int) + if 4 * (x.6 - (1 : Int)).toNat + 1 < (ms.getD (↑x.7.length : Int).toNat { data := { toList := [] } }).size then byteAt (ms.getD (↑x.7.length : Int).toNat { data := { toList := [] } }) (4 * (x.6 - (1 : Int)).toNat + 1) else (0 : Int)) * (256 : Int) + if 4 * (x.6 - (1 : Int)).toNat + 2 < (ms.getD (↑x.7.length : Int).toNat { data := { toList := [] } }).size then byteAt (ms.getD (↑x.7.length : Int).toNat { data := { toList := [] } }) (4 * (x.6 - (1 : Int)).toNat + 2) else (0 : Int)) * (256 : Int) + if 4 * (x.6 - (1 : Int)).toNat + 3 < (ms.getD (↑x.7.length : Int).toNat { data := { toList := [] } }).size then byteAt (ms.getD (↑x.7.length : Int).toNat { data := { toList := [] } }) (4 * (x.6 - (1 : Int)).toNat + 3) else (0 : Int))), .c (.lit .u32 (0 : Int))] 83])))
 (.eq (T.ret (SVal.fn (Fn.func (45 : Nat)) [SVal.ptr (3 : Nat) (0 : Nat)] []) = T.ret (SVal.fn (Fn.func (45 : Nat)) [SVal.ptr (3 : Nat) (0 : Nat)] []))

 (.ret (.bl true, [.ro encLook [PUnit.unit], .own [.a (encInt IntKind.u32) n l] 40, .own [.c (.sli 1 (.c 0) 1 (.v n) (some (.v n))), .c (.int .i64 c)] 80, .own [.c (.int .i64 x.1), .c (.int .i64 x.2), .c (.int .i64 x.3), .c (SVal.fn (Fn.func 45) [.ptr 3 0] []), .c (.int .u32 x.4), .c (.int .u32 x.5), .c (.int .i64 (x.6 + (1 : Int))), .c (.sli 4 (.c 0) 1 (.v ms.length) none), .c (.sli 5 (.c 0) 1 (.v x.7.length) none)] 76, .vec encStr ms 9, .vec encBool x.7 4, .own [.c (.lit .u32 (0 : Int)), .c (.int .u32 ((((if 4 * (x.6 - (1 : Int)).toNat < (ms.getD (↑x.7.length : Int).toNat { data := { toList := [] } }).size then byteAt (ms.getD (↑x.7.length : Int).toNat { data := { toList := [] } }) (4 * (x.6 - (1 : Int)).toNat) else (0 : Int)) * (256 : Int) + if 4 * (x.6 - (1 : Int)).toNat + 1 < (ms.getD (↑x.7.length : Int).toNat { data := { toList := [] } }).size then byteAt (ms.getD (↑x.7.length : Int).toNat { data := { toList := [] } }) (4 * (x.6 - (1 : Int)).toNat + 1) else (0 : Int)) * (256 : Int) + if 4 * (x.6 - (1 : Int)).toNat + 2 < (ms.getD (↑x.7.length : Int).toNat { data := { toList := [] } }).size then byteAt (ms.getD (↑x.7.length : Int).toNat { data := { toList := [] } }) (4 * (x.6 - (1 : Int)).toNat + 2) else (0 : Int)) * (256 : Int) + if 4 * (x.6 - (1 : Int)).toNat + 3 < (ms.getD (↑x.7.length : Int).toNat { data := { toList := [] } }).size then byteAt (ms.getD (↑x.7.length : Int).toNat { data := { toList := [] } }) (4 * (x.6 - (1 : Int)).toNat + 3) else (0 : Int))), .c (.lit .u32 (0 : Int))] 83])))))))))))))

 (.need (inR .i64 (c + (1 : Int)))

 (.need (decide ((0 : Int) ≤ x.1 + (2 : Int) + x.5 % x.2 * ((1 : Int) + (x.3 + (3 : Int)) / (4 : Int)) + x.6) && decide ((x.1 + (2 : Int) + x.5 % x.2 * ((1 : Int) + (x.3 + (3 : Int)) / (4 : Int)) + x.6).toNat < n))

 (.need (decide ((x.1 + (2 : Int) + x.5 % x.2 * ((1 : Int) + (x.3 + (3 : Int)) / (4 : Int)) + x.6).toNat < n))

 (.need (true)

 (.need (true)

 (.need (true)

 (.need (decide ((0 : Int) ≤ x.1 + (2 : Int) + x.5 % x.2 * ((1 : Int) + (x.3 + (3 : Int)) / (4 : Int)) + x.6) && decide ((x.1 + (2 : Int) + x.5 % x.2 * ((1 : Int) + (x.3 + (3 : Int)) / (4 : Int)) + x.6).toNat < n))

 (.need (decide ((x.1 + (2 : Int) + x.5 % x.2 * ((1 : Int) + (x.3 + (3 : Int)) / (4 : Int)) + x.6).toNat < n))
 (.eq (T.ret (SVal.sli (1 : Nat) (NN.c (0 : Nat)) (1 : Nat) (NN.v n) (some (NN.v n))) = T.ret (SVal.sli (1 : Nat) (NN.c (0 : Nat)) (1 : Nat) (NN.v n) (some (NN.v n))))
 (.eq (T.ret (SVal.int IntKind.u32 ((((if (4 : Nat) * (x.6 - (1 : Int)).toNat < (ms.getD (↑x.7.length : Int).toNat { data := { toList := [] } }).size then byteAt (ms.getD (↑x.7.length : Int).toNat { data := { toList := [] } }) ((4 : Nat) * (x.6 - (1 : Int)).toNat) else (0 : Int)) * (256 : Int) + if (4 : Nat) * (x.6 - (1 : Int)).toNat + (1 : Nat) < (ms.getD (↑x.7.length : Int).toNat { data := { toList := [] } }).size then byteAt (ms.getD (↑x.7.length : Int).toNat { data := { toList := [] } }) ((4 : Nat) * (x.6 - (1 : Int)).toNat + (1 : Nat)) else (0 : Int)) * (256 : Int) + if (4 : Nat) * (x.6 - (1 : Int)).toNat + (2 : Nat) < (ms.getD (↑x.7.length : Int).toNat { data := { toList := [] } }).size then byteAt (ms.getD (↑x.7.length : Int).toNat { data := { toList := [] } }) ((4 : Nat) * (x.6 - (1 : Int)).toNat + (2 : Nat)) else (0 : Int)) * (256 : Int) + if (4 : Nat) * (x.6 - (1 : Int)).toNat + (3 : Nat) < (ms.getD (↑x.7.length : Int).toNat { data := { toList := [] } }).size then byteAt (ms.getD (↑x.7.length : Int).toNat { data := { toList := [] } }) ((4 : Nat) * (x.6 - (1 : Int)).toNat + (3 : Nat)) else (0 : Int))) = T.ret (SVal.int IntKind.u32 ((((if (4 : Nat) * (x.6 - (1 : Int)).toNat < (ms.getD (↑x.7.length : Int).toNat { data := { toList := [] } }).size then byteAt (ms.getD (↑x.7.length : Int).toNat { data := { toList := [] } }) ((4 : Nat) * (x.6 - (1 : Int)).toNat) else (0 : Int)) * (256 : Int) + if (4 : Nat) * (x.6 - (1 : Int)).toNat + (1 : Nat) < (ms.getD (↑x.7.length : Int).toNat { data := { toList := [] } }).size then byteAt (ms.getD (↑x.7.length : Int).toNat { data := { toList := [] } }) ((4 : Nat) * (x.6 - (1 : Int)).toNat + (1 : Nat)) else (0 : Int)) * (256 : Int) + if (4 : Nat) * (x.6 - (1 : Int)).toNat + (2 : Nat) < (ms.getD (↑x.7.length : Int).toNat { data := { toList := [] } }).size then byteAt (ms.getD (↑x.7.length : Int).toNat { data := { toList := [] } }) ((4 : Nat) * (x.6 - (1 : Int)).toNat + (2 : Nat)) else (0 : Int)) * (256 : Int) + if (4 : Nat) * (x.6 - (1 : Int)).toNat + (3 : Nat) < (ms.getD (↑x.7.length : Int).toNat { data := { toList := [] } }).size then byteAt (ms.getD (↑x.7.length : Int).toNat { data := { toList := [] } }) ((4 : Nat) * (x.6 - (1 : Int)).toNat + (3 : Nat)) else (0 : Int))))

 (.need (decide ((0 : Int) ≤ x.1 + (2 : Int) + x.5 % x.2 * ((1 : Int) + (x.3 + (3 : Int)) / (4 : Int)) + x.6) && decide ((x.1 + (2 : Int) + x.5 % x.2 * ((1 : Int) + (x.3 + (3 : Int)) / (4 : Int)) + x.6).toNat < n))

 (.need (decide ((x.1 + (2 : Int) + x.5 % x.2 * ((1 : Int) + (x.3 + (3 : Int)) / (4 : Int)) + x.6).toNat < n))

 (.need (decide ((0 : Int) ≤ x.1 + (2 : Int) + x.5 % x.2 * ((1 : Int) + (x.3 + (3 : Int)) / (4 : Int)) + x.6) && decide ((x.1 + (2 : Int) + x.5 % x.2 * ((1 : Int) + (x.3 + (3 : Int)) / (4 : Int)) + x.6).toNat < n))

 (.need (decide ((x.1 + (2 : Int) + x.5 % x.2 * ((1 : Int) + (x.3 + (3 : Int)) / (4 : Int)) + x.6).toNat < n))
 (.eq (T.ret (SVal.sli (1 : Nat) (NN.c (0 : Nat)) (1 : Nat) (NN.v n) (some (NN.v n))) = T.ret (SVal.sli (1 : Nat) (NN.c (0 : Nat)) (1 : Nat) (NN.v n) (some (NN.v n))))
 (.eq (T.need (decide ((x.1 + (2 : Int) + x.5 % x.2 * ((1 : Int) + (x.3 + (3 : Int)) / (4 : Int)) + x.6).toNat < n)) (T.ret ([SVal.int IntKind.u32 ((l.set (x.1 + (2 : Int) + x.5 % x.2 * ((1 : Int) + (x.3 + (3 : Int)) / (4 : Int)) + x.6).toNat (bitop BinOp.or IntKind.u32 (bitop BinOp.and IntKind.u32 (l.getD (x.1 + (2 : Int) + x.5 % x.2 * ((1 : Int) + (x.3 + (3 : Int)) / (4 : Int)) + x.6).toNat (0 : Int)) (0 : Int)) ((((if (4 : Nat) * (x.6 - (1 : Int)).toNat < (ms.getD (↑x.7.length : Int).toNat { data := { toList := [] } }).size then byteAt (ms.getD (↑x.7.length : Int).toNat { data := { toList := [] } }) ((4 : Nat) * (x.6 - (1 : Int)).toNat) else (0 : Int)) * (256 : Int) + if (4 : Nat) * (x.6 - (1 : Int)).toNat + (1 : Nat) < (ms.getD (↑x.7.length : Int).toNat { data := { toList := [] } }).size then byteAt (ms.getD (↑x.7.length : Int).toNat { data := { toList := [] } }) ((4 : Nat) * (x.6 - (1 : Int)).toNat + (1 : Nat)) else (0 : Int)) * (256 : Int) + if (4 : Nat) * (x.6 - (1 : Int)).toNat + (2 : Nat) < (ms.getD (↑x.7.length : Int).toNat { data := { toList := [] } }).size then byteAt (ms.getD (↑x.7.length : Int).toNat { data := { toList := [] } }) ((4 : Nat) * (x.6 - (1 : Int)).toNat + (2 : Nat)) else (0 : Int)) * (256 : Int) + if (4 : Nat) * (x.6 - (1 : Int)).toNat + (3 : Nat) < (ms.getD (↑x.7.length : Int).toNat { data := { toList := [] } }).size then byteAt (ms.getD (↑x.7.length : Int).toNat { data := { toList := [] } }) ((4 : Nat) * (x.6 - (1 : Int)).toNat + (3 : Nat)) else (0 : Int)))).getD (x.1 + (2 : Int) + x.5 % x.2 * ((1 : Int) + (x.3 + (3 : Int)) / (4 : Int)) + x.6).toNat (0 : Int))].getD (0 : Nat) SVal.bad)) = T.need (decide ((x.1 + (2 : Int) + x.5 % x.2 * ((1 : Int) + (x.3 + (3 : Int)) / (4 : Int)) + x.6).toNat < n)) (T.ret ([SVal.int IntKind.u32 ((l.set (x.1 + (2 : Int) + x.5 % x.2 * ((1 : Int) + (x.3 + (3 : Int)) / (4 : Int)) + x.6).toNat (bitop BinOp.or IntKind.u32 (bitop BinOp.and IntKind.u32 (l.getD (x.1 + (2 : Int) + x.5 % x.2 * ((1 : Int) + (x.3 + (3 : Int)) / (4 : Int)) + x.6).toNat (0 : Int)) (0 : Int)) ((((if (4 : Nat) * (x.6 - (1 : Int)).toNat < (ms.getD (↑x.7.length : Int).toNat { data := { toList := [] } }).size then byteAt (ms.getD (↑x.7.length : Int).toNat { data := { toList := [] } }) ((4 : Nat) * (x.6 - (1 : Int)).toNat) else (0 : Int)) * (256 : Int) + if (4 : Nat) * (x.6 - (1 : Int)).toNat + (1 : Nat) < (ms.getD (↑x.7.length : Int).toNat { data := { toList := [] } }).size then byteAt (ms.getD (↑x.7.length : Int).toNat { data := { toList := [] } }) ((4 : Nat) * (x.6 - (1 : Int)).toNat + (1 : Nat)) else (0 : Int)) * (256 : Int) + if (4 : Nat) * (x.6 - (1 : Int)).toNat + (2 : Nat) < (ms.getD (↑x.7.length : Int).toNat { data := { toList := [] } }).size then byteAt (ms.getD (↑x.7.length : Int).toNat { data := { toList := [] } }) ((4 : Nat) * (x.6 - (1 : Int)).toNat + (2 : Nat)) else (0 : Int)) * (256 : Int) + if (4 : Nat) * (x.6 - (1 : Int)).toNat + (3 : Nat) < (ms.getD (↑x.7.length : Int).toNat { data := { toList := [] } }).size then byteAt (ms.getD (↑x.7.length : Int).toNat { data := { toList := [] } }) ((4 : Nat) * (x.6 - (1 : Int)).toNat + (3 : Nat)) else (0 : Int)))).getD (x.1 + (2 : Int) + x.5 % x.2 * ((1 : Int) + (x.3 + (3 : Int)) / (4 : Int)) + x.6).toNat (0 : Int))].getD (0 : Nat) SVal.bad)))
 (.eq (T.ret (SVal.agg [SVal.int IntKind.i64 x.1, SVal.int IntKind.i64 x.2, SVal.int IntKind.i64 x.3]) = T.ret (SVal.agg [SVal.int IntKind.i64 x.1, SVal.int IntKind.i64 x.2, SVal.int IntKind.i64 x.3]))
 (.eq (T.ret (SVal.int IntKind.u32 x.5) = T.ret (SVal.int IntKind.u32 x.5))
 (.eq (T.ret (SVal.int IntKind.i64 x.6) = T.ret (SVal.int IntKind.i64 x.6))
 (.eq (T.ret (SVal.int IntKind.i64 x.6) = T.ret (SVal.int IntKind.i64 x.6))

 (.need (inR .i64 (x.6 + (1 : Int)))

 (.need (inR .i64 ((↑(ms.getD (↑x.7.length : Int).toNat { data := { toList := [] } }).size : Int) + (3 : Int)))

 (.need (true)
 (.eq (T.ret (SVal.int IntKind.i64 (x.6 + (1 : Int))) = T.ret (SVal.int IntKind.i64 (x.6 + (1 : Int))))
 (.eq (T.ret (SVal.int IntKind.i64 (x.6 + (1 : Int))) = T.ret (SVal.int IntKind.i64 (x.6 + (1 : Int))))

 (.br (decide (IntKind.i64.wrap (((↑(ms.getD (↑x.7.length : Int).toNat { data := { toList := [] } }).size : Int) + (3 : Int)).tdiv (4 : Int)) < x.6 + (1 : Int)))
 (.eq (T.ret (SVal.fn (Fn.func (45 : Nat)) [SVal.ptr (3 : Nat) (0 : Nat)] []) = T.ret (SVal.fn (Fn.func (45 : Nat)) [SVal.ptr (3 : Nat) (0 : Nat)] []))
 (.eq (T.ret (SVal.sli (5 : Nat) (NN.c (0 : Nat)) (1 : Nat) (NN.v x.7.length) none) = T.ret (SVal.sli (5 : Nat) (NN.c (0 : Nat)) (1 : Nat) (NN.v x.7.length) none))
 (.eq (T.ret (SVal.sli (4 : Nat) (NN.c (0 : Nat)) (1 : Nat) (NN.v ms.length) none) = T.ret (SVal.sli (4 : Nat) (NN.c (0 : Nat)) (1 : Nat) (NN.v ms.length) none))

 (.ret (.sb ((↑x.7.length : Int) == (↑ms.length : Int)), [.ro encLook [PUnit.unit], .own [.a (encInt IntKind.u32) n ((l.set (x.1 + (2 : Int) + x.5 % x.2 * ((1 : Int) + (x.3 + (3 : Int)) / (4 : Int)) + x.6).toNat (bitop BinOp.or IntKind.u32 (bitop BinOp.and IntKind.u32 (l.getD (x.1 + (2 : Int) + x.5 % x.2 * ((1 : Int) + (x.3 + (3 : Int)) / (4 : Int)) + x.6).toNat (0 : Int)) (0 : Int)) ((((if 4 * (x.6 - (1 : Int)).toNat < (ms.getD (↑x.7.length : Int).toNat { data := { toList := [] } }).size then byteAt (ms.getD (↑x.7.length : Int).toNat { data := { toList := [] } }) (4 * (x.6 - (1 : Int)).toNat) else (0 : Int)) * (256 : Int) + if 4 * (x.6 - (1 : Int)).toNat + 1 < (ms.getD (↑x.7.length : Int).toNat { data := { toList := [] } }).size then byteAt (ms.getD (↑x.7.length : Int).toNat { data := { toList := [] } }) (4 * (x.6 - (1 : Int)).toNat + 1) else (0 : Int)) * (256 : Int) + if 4 * (x.6 - (1 : Int)).toNat + 2 < (ms.getD (↑x.7.length : Int).toNat { data := { toList := [] } }).size then byteAt (ms.getD (↑x.7.length : Int).toNat { data := { toList := [] } }) (4 * (x.6 - (1 : Int)).toNat + 2) else (0 : Int)) * (256 : Int) + if 4 * (x.6 - (1 : Int)).toNat + 3 < (ms.getD (↑x.7.length : Int).toNat { data := { toList := [] } }).size then byteAt (ms.getD (↑x.7.length : Int).toNat { data := { toList := [] } }) (4 * (x.6 - (1 : Int)).toNat + 3) else (0 : Int)))).set (x.1 + (2 : Int) + x.5 % x.2 * ((1 : Int) + (x.3 + (3 : Int)) / (4 : Int)) + x.6).toNat (IntKind.u32.wrap ((l.set (x.1 + (2 : Int) + x.5 % x.2 * ((1 : Int) + (x.3 + (3 : Int)) / (4 : Int)) + x.6).toNat (bitop BinOp.or IntKind.u32 (bitop BinOp.and IntKind.u32 (l.getD (x.1 + (2 : Int) + x.5 % x.2 * ((1 : Int) + (x.3 + (3 : Int)) / (4 : Int)) + x.6).toNat (0 : Int)) (0 : Int)) ((((if 4 * (x.6 - (1 : Int)).toNat < (ms.getD (↑x.7.length : Int).toNat { data := { toList := [] } }).size then byteAt (ms.getD (↑x.7.length : Int).toNat { data := { toList := [] } }) (4 * (x.6 - (1 : Int)).toNat) else (0 : Int)) * (256 : Int) + if 4 * (x.6 - (1 : Int)).toNat + 1 < (ms.getD (↑x.7.length : Int).toNat { data := { toList := [] } }).size then byteAt (ms.getD (↑x.7.length : Int).toNat { data := { toList := [] } }) (4 * (x.6 - (1 : Int)).toNat + 1) else (0 : Int)) * (256 : Int) + if 4 * (x.6 - (1 : Int)).toNat + 2 < (ms.getD (↑x.7.length : Int).toNat { data := { toList := [] } }).size then byteAt (ms.getD (↑x.7.length : Int).toNat { data := { toList := [] } }) (4 * (x.6 - (1 : Int)).toNat + 2) else (0 : Int)) * (256 : Int) + if 4 * (x.6 - (1 : Int)).toNat + 3 < (ms.getD (↑x.7.length : Int).toNat { data := { toList := [] } }).size then byteAt (ms.getD (↑x.7.length : Int).toNat { data := { toList := [] } }) (4 * (x.6 - (1 : Int)).toNat + 3) else (0 : Int)))).getD (x.1 + (2 : Int) + x.5 % x.2 * ((1 : Int) + (x.3 + (3 : Int)) / (4 : Int)) + x.6).toNat (0 : Int) + (0 : Int))))] 40, .own [.c (.sli 1 (.c 0) 1 (.v n) (some (.v n))), .c (.int .i64 (c + (1 : Int)))] 80, .own [.c (.int .i64 x.1), .c (.int .i64 x.2), .c (.int .i64 x.3), .c (SVal.fn (Fn.func 51) [.ptr 3 0] []), .c (.int .u32 x.4), .c (.int .u32 x.5), .c (.int .i64 (x.6 + (1 : Int))), .c (.sli 4 (.c 0) 1 (.v ms.length) none), .c (.sli 5 (.c 0) 1 (.v x.7.length) none)] 76, .vec encStr ms 9, .vec encBool x.7 4, .own [.c (.lit .u32 (0 : Int)), .c (.int .u32 ((((if 4 * (x.6 - (1 : Int)).toNat < (ms.getD (↑x.7.length : Int).toNat { data := { toList := [] } }).size then byteAt (ms.getD (↑x.7.length : Int).toNat { data := { toList := [] } }) (4 * (x.6 - (1 : Int)).toNat) else (0 : Int)) * (256 : Int) + if 4 * (x.6 - (1 : Int)).toNat + 1 < (ms.getD (↑x.7.length : Int).toNat { data := { toList := [] } }).size then byteAt (ms.getD (↑x.7.length : Int).toNat { data := { toList := [] } }) (4 * (x.6 - (1 : Int)).toNat + 1) else (0 : Int)) * (256 : Int) + if 4 * (x.6 - (1 : Int)).toNat + 2 < (ms.getD (↑x.7.length : Int).toNat { data := { toList := [] } }).size then byteAt (ms.getD (↑x.7.length : Int).toNat { data := { toList := [] } }) (4 * (x.6 - (1 : Int)).toNat + 2) else (0 : Int)) * (256 : Int) + if 4 * (x.6 - (1 : Int)).toNat + 3 < (ms.getD (↑x.7.length : Int).toNat { data := { toList := [] } }).size then byteAt (ms.getD (↑x.7.length : Int).toNat { data := { toList := [] } }) (4 * (x.6 - (1 : Int)).toNat + 3) else (0 : Int))), .c (.lit .u32 (0 : Int))] 83])))))
 (.eq (T.ret (SVal.fn (Fn.func (45 : Nat)) [SVal.ptr (3 : Nat) (0 : Nat)] []) = T.ret (SVal.fn (Fn.func (45 : Nat)) [SVal.ptr (3 : Nat) (0 : Nat)] []))
 (.eq (T.ret (SVal.sli (5 : Nat) (NN.c (0 : Nat)) (1 : Nat) (NN.v x.7.length) none) = T.ret (SVal.sli (5 : Nat) (NN.c (0 : Nat)) (1 : Nat) (NN.v x.7.length) none))
 (.eq (T.ret (SVal.sli (4 : Nat) (NN.c (0 : Nat)) (1 : Nat) (NN.v ms.length) none) = T.ret (SVal.sli (4 : Nat) (NN.c (0 : Nat)) (1 : Nat) (NN.v ms.length) none))

 (.ret (.sb ((↑x.7.length : Int) == (↑ms.length : Int)), [.ro encLook [PUnit.unit], .own [.a (encInt IntKind.u32) n ((l.set (x.1 + (2 : Int) + x.5 % x.2 * ((1 : Int) + (x.3 + (3 : Int)) / (4 : Int)) + x.6).toNat (bitop BinOp.or IntKind.u32 (bitop BinOp.and IntKind.u32 (l.getD (x.1 + (2 : Int) + x.5 % x.2 * ((1 : Int) + (x.3 + (3 : Int)) / (4 : Int)) + x.6).toNat (0 : Int)) (0 : Int)) ((((if 4 * (x.6 - (1 : Int)).toNat < (ms.getD (↑x.7.length : Int).toNat { data := { toList := [] } }).size then byteAt (ms.getD (↑x.7.length : Int).toNat { data := { toList := [] } }) (4 * (x.6 - (1 : Int)).toNat) else (0 : Int)) * (256 : Int) + if 4 * (x.6 - (1 : Int)).toNat + 1 < (ms.getD (↑x.7.length : Int).toNat { data := { toList := [] } }).size then byteAt (ms.getD (↑x.7.length : Int).toNat { data := { toList := [] } }) (4 * (x.6 - (1 : Int)).toNat + 1) else (0 : Int)) * (256 : Int) + if 4 * (x.6 - (1 : Int)).toNat + 2 < (ms.getD (↑x.7.length : Int).toNat { data := { toList := [] } }).size then byteAt (ms.getD (↑x.7.length : Int).toNat { data := { toList := [] } }) (4 * (x.6 - (1 : Int)).toNat + 2) else (0 : Int)) * (256 : Int) + if 4 * (x.6 - (1 : Int)).toNat + 3 < (ms.getD (↑x.7.length : Int).toNat { data := { toList := [] } }).size then byteAt (ms.getD (↑x.7.length : Int).toNat { data := { toList := [] } }) (4 * (x.6 - (1 : Int)).toNat + 3) else (0 : Int)))).set (x.1 + (2 : Int) + x.5 % x.2 * ((1 : Int) + (x.3 + (3 : Int)) / (4 : Int)) + x.6).toNat (IntKind.u32.wrap ((l.set (x.1 + (2 : Int) + x.5 % x.2 * ((1 : Int) + (x.3 + (3 : Int)) / (4 : Int)) + x.6).toNat (bitop BinOp.or IntKind.u32 (bitop BinOp.and IntKind.u32 (l.getD (x.1 + (2 : Int) + x.5 % x.2 * ((1 : Int) + (x.3 + (3 : Int)) / (4 : Int)) + x.6).toNat (0 : Int)) (0 : Int)) ((((if 4 * (x.6 - (1 : Int)).toNat < (ms.getD (↑x.7.length : Int).toNat { data := { toList := [] } }).size then byteAt (ms.getD (↑x.7.length : Int).toNat { data := { toList := [] } }) (4 * (x.6 - (1 : Int)).toNat) else (0 : Int)) * (256 : Int) + if 4 * (x.6 - (1 : Int)).toNat + 1 < (ms.getD (↑x.7.length : Int).toNat { data := { toList := [] } }).size then byteAt (ms.getD (↑x.7.length : Int).toNat { data := { toList := [] } }) (4 * (x.6 - (1 : Int)).toNat + 1) else (0 : Int)) * (256 : Int) + if 4 * (x.6 - (1 : Int)).toNat + 2 < (ms.getD (↑x.7.length : Int).toNat { data := { toList := [] } }).size then byteAt (ms.getD (↑x.7.length : Int).toNat { data := { toList := [] } }) (4 * (x.6 - (1 : Int)).toNat + 2) else (0 : Int)) * (256 : Int) + if 4 * (x.6 - (1 : Int)).toNat + 3 < (ms.getD (↑x.7.length : Int).toNat { data := { toList := [] } }).size then byteAt (ms.getD (↑x.7.length : Int).toNat { data := { toList := [] } }) (4 * (x.6 - (1 : Int)).toNat + 3) else (0 : Int)))).getD (x.1 + (2 : Int) + x.5 % x.2 * ((1 : Int) + (x.3 + (3 : Int)) / (4 : Int)) + x.6).toNat (0 : Int) + (0 : Int))))] 40, .own [.c (.sli 1 (.c 0) 1 (.v n) (some (.v n))), .c (.int .i64 (c + (1 : Int)))] 80, .own [.c (.int .i64 x.1), .c (.int .i64 x.2), .c (.int .i64 x.3), .c (SVal.fn (Fn.func 45) [.ptr 3 0] []), .c (.int .u32 x.4), .c (.int .u32 x.5), .c (.int .i64 (x.6 + (1 : Int))), .c (.sli 4 (.c 0) 1 (.v ms.length) none), .c (.sli 5 (.c 0) 1 (.v x.7.length) none)] 76, .vec encStr ms 9, .vec encBool x.7 4, .own [.c (.lit .u32 (0 : Int)), .c (.int .u32 ((((if 4 * (x.6 - (1 : Int)).toNat < (ms.getD (↑x.7.length : Int).toNat { data := { toList := [] } }).size then byteAt (ms.getD (↑x.7.length : Int).toNat { data := { toList := [] } }) (4 * (x.6 - (1 : Int)).toNat) else (0 : Int)) * (256 : Int) + if 4 * (x.6 - (1 : Int)).toNat + 1 < (ms.getD (↑x.7.length : Int).toNat { data := { toList := [] } }).size then byteAt (ms.getD (↑x.7.length : Int).toNat { data := { toList := [] } }) (4 * (x.6 - (1 : Int)).toNat + 1) else (0 : Int)) * (256 : Int) + if 4 * (x.6 - (1 : Int)).toNat + 2 < (ms.getD (↑x.7.length : Int).toNat { data := { toList := [] } }).size then byteAt (ms.getD (↑x.7.length : Int).toNat { data := { toList := [] } }) (4 * (x.6 - (1 : Int)).toNat + 2) else (0 : Int)) * (256 : Int) + if 4 * (x.6 - (1 : Int)).toNat + 3 < (ms.getD (↑x.7.length : Int).toNat { data := { toList := [] } }).size then byteAt (ms.getD (↑x.7.length : Int).toNat { data := { toList := [] } }) (4 * (x.6 - (1 : Int)).toNat + 3) else (0 : Int))), .c (.lit .u32 (0 : Int))] 83])))))))))))))))))))))))))))))))))))))

 (.eq ([Blk.ro encLook [PUnit.unit]] = [Blk.ro encLook [PUnit.unit]] ∧ RingOk x.2 x.3 ∧ ((-1000000 : Int) ≤ x.1 ∧ x.1 ≤ (1000000 : Int)) ∧ (0 : Int) ≤ x.5 ∧ x.5 < (4294967296 : Int))

 (.need (inR .i64 (x.1 + (2 : Int) + x.5 % x.2 * ((1 : Int) + (x.3 + (3 : Int)) / (4 : Int)) + x.6))

 (.br (decide (x.1 + (2 : Int) + x.5 % x.2 * ((1 : Int) + (x.3 + (3 : Int)) / (4 : Int)) + x.6 < (0 : Int)))
 (.eq (T.ret (SVal.agg [SVal.int IntKind.i64 x.1, SVal.int IntKind.i64 x.2, SVal.int IntKind.i64 x.3]) = T.ret (SVal.agg [SVal.int IntKind.i64 x.1, SVal.int IntKind.i64 x.2, SVal.int IntKind.i64 x.3]))
 (.eq (T.ret (SVal.int IntKind.u32 x.5) = T.ret (SVal.int IntKind.u32 x.5))
 (.eq (T.ret (SVal.int IntKind.i64 x.6) = T.ret (SVal.int IntKind.i64 x.6))
 (.eq (T.ret (SVal.int IntKind.i64 x.6) = T.ret (SVal.int IntKind.i64 x.6))

 (.need (inR .i64 (x.6 + (1 : Int)))

 (.need (inR .i64 ((↑(ms.getD (↑x.7.length : Int).toNat { data := { toList := [] } }).size : Int) + (3 : Int)))

 (.need (true)
 (.eq (T.ret (SVal.int IntKind.i64 (x.6 + (1 : Int))) = T.ret (SVal.int IntKind.i64 (x.6 + (1 : Int))))
 (.eq (T.ret (SVal.int IntKind.i64 (x.6 + (1 : Int))) = T.ret (SVal.int IntKind.i64 (x.6 + (1 : Int))))

 (.br (decide (IntKind.i64.wrap (((↑(ms.getD (↑x.7.length : Int).toNat { data := { toList := [] } }).size : Int) + (3 : Int)).tdiv (4 : Int)) < x.6 + (1 : Int)))
 (.eq (T.ret (SVal.fn (Fn.func (45 : Nat)) [SVal.ptr (3 : Nat) (0 : Nat)] []) = T.ret (SVal.fn (Fn.func (45 : Nat)) [SVal.ptr (3 : Nat) (0 : Nat)] []))

 (.ret (.bl true, [.ro encLook [PUnit.unit], .own [.a (encInt IntKind.u32) n l] 40, .own [.c (.sli 1 (.c 0) 1 (.v n) (some (.v n))), .c (.int .i64 c)] 80, .own [.c (.int .i64 x.1), .c (.int .i64 x.2), .c (.int .i64 x.3), .c (SVal.fn (Fn.func 51) [.ptr 3 0] []), .c (.int .u32 x.4), .c (.int .u32 x.5), .c (.int .i64 (x.6 + (1 : Int))), .c (.sli 4 (.c 0) 1 (.v ms.length) none), .c (.sli 5 (.c 0) 1 (.v x.7.length) none)] 76, .vec encStr ms 9, .vec encBool x.7 4, .own [.c (.lit .u32 (0 : Int)), .c (.int .u32 (IntKind.u32.wrap (↑(ms.getD (↑x.7.length : Int).toNat { data := { toList := [] } }).size : Int))), .c (.lit .u32 (0 : Int))] 83])))
 (.eq (T.ret (SVal.fn (Fn.func (45 : Nat)) [SVal.ptr (3 : Nat) (0 : Nat)] []) = T.ret (SVal.fn (Fn.func (45 : Nat)) [SVal.ptr (3 : Nat) (0 : Nat)] []))

 (.ret (.bl true, [.ro encLook [PUnit.unit], .own [.a (encInt IntKind.u32) n l] 40, .own [.c (.sli 1 (.c 0) 1 (.v n) (some (.v n))), .c (.int .i64 c)] 80, .own [.c (.int .i64 x.1), .c (.int .i64 x.2), .c (.int .i64 x.3), .c (SVal.fn (Fn.func 45) [.ptr 3 0] []), .c (.int .u32 x.4), .c (.int .u32 x.5), .c (.int .i64 (x.6 + (1 : Int))), .c (.sli 4 (.c 0) 1 (.v ms.length) none), .c (.sli 5 (.c 0) 1 (.v x.7.length) none)] 76, .vec encStr ms 9, .vec encBool x.7 4, .own [.c (.lit .u32 (0 : Int)), .c (.int .u32 (IntKind.u32.wrap (↑(ms.getD (↑x.7.length : Int).toNat { data := { toList := [] } }).size : Int))), .c (.lit .u32 (0 : Int))] 83])))))))))))))

 (.br (decide ((↑n : Int) ≤ x.1 + (2 : Int) + x.5 % x.2 * ((1 : Int) + (x.3 + (3 : Int)) / (4 : Int)) + x.6))
 (.eq (T.ret (SVal.agg [SVal.int IntKind.i64 x.1, SVal.int IntKind.i64 x.2, SVal.int IntKind.i64 x.3]) = T.ret (SVal.agg [SVal.int IntKind.i64 x.1, SVal.int IntKind.i64 x.2, SVal.int IntKind.i64 x.3]))
 (.eq (T.ret (SVal.int IntKind.u32 x.5) = T.ret (SVal.int IntKind.u32 x.5))
 (.eq (T.ret (SVal.int IntKind.i64 x.6) = T.ret (SVal.int IntKind.i64 x.6))
 (.eq (T.ret (SVal.int IntKind.i64 x.6) = T.ret (SVal.int IntKind.i64 x.6))

 (.need (inR .i64 (x.6 + (1 : Int)))

 (.need (inR .i64 ((↑(ms.getD (↑x.7.length : Int).toNat { data := { toList := [] } }).size : Int) + (3 : Int)))

 (.need (true)
 (.eq (T.ret (SVal.int IntKind.i64 (x.6 + (1 : Int))) = T.ret (SVal.int IntKind.i64 (x.6 + (1 : Int))))
 (.eq (T.ret (SVal.int IntKind.i64 (x.6 + (1 : Int))) = T.ret (SVal.int IntKind.i64 (x.6 + (1 : Int))))

 (.br (decide (IntKind.i64.wrap (((↑(ms.getD (↑x.7.length : Int).toNat { data := { toList := [] } }).size : Int) + (3 : Int)).tdiv (4 : Int)) < x.6 + (1 : Int)))
 (.eq (T.ret (SVal.fn (Fn.func (45 : Nat)) [SVal.ptr (3 : Nat) (0 : Nat)] []) = T.ret (SVal.fn (Fn.func (45 : Nat)) [SVal.ptr (3 : Nat) (0 : Nat)] []))

 (.ret (.bl true, [.ro encLook [PUnit.unit], .own [.a (encInt IntKind.u32) n l] 40, .own [.c (.sli 1 (.c 0) 1 (.v n) (some (.v n))), .c (.int .i64 c)] 80, .own [.c (.int .i64 x.1), .c (.int .i64 x.2), .c (.int .i64 x.3), .c (SVal.fn (Fn.func 51) [.ptr 3 0] []), .c (.int .u32 x.4), .c (.int .u32 x.5), .c (.int .i64 (x.6 + (1 : Int))), .c (.sli 4 (.c 0) 1 (.v ms.length) none), .c (.sli 5 (.c 0) 1 (.v x.7.length) none)] 76, .vec encStr ms 9, .vec encBool x.7 4, .own [.c (.lit .u32 (0 : Int)), .c (.int .u32 (IntKind.u32.wrap (↑(ms.getD (↑x.7.length : Int).toNat { data := { toList := [] } }).size : Int))), .c (.lit .u32 (0 : Int))] 83])))
 (.eq (T.ret (SVal.fn (Fn.func (45 : Nat)) [SVal.ptr (3 : Nat) (0 : Nat)] []) = T.ret (SVal.fn (Fn.func (45 : Nat)) [SVal.ptr (3 : Nat) (0 : Nat)] []))

 (.ret (.bl true, [.ro encLook [PUnit.unit], .own [.a (encInt IntKind.u32) n l] 40, .own [.c (.sli 1 (.c 0) 1 (.v n) (some (.v n))), .c (.int .i64 c)] 80, .own [.c (.int .i64 x.1), .c (.int .i64 x.2), .c (.int .i64 x.3), .c (SVal.fn (Fn.func 45) [.ptr 3 0] []), .c (.int .u32 x.4), .c (.int .u32 x.5), .c (.int .i64 (x.6 + (1 : Int))), .c (.sli 4 (.c 0) 1 (.v ms.length) none), .c (.sli 5 (.c 0) 1 (.v x.7.length) none)] 76, .vec encStr ms 9, .vec encBool x.7 4, .own [.c (.lit .u32 (0 : Int)), .c (.int .u32 (IntKind.u32.wrap (↑(ms.getD (↑x.7.length : Int).toNat { data := { toList := [] } }).size : Int))), .c (.lit .u32 (0 : Int))] 83])))))))))))))

 (.need (inR .i64 (c + (1 : Int)))

 (.need (decide ((0 : Int) ≤ x.1 + (2 : Int) + x.5 % x.2 * ((1 : Int) + (x.3 + (3 : Int)) / (4 : Int)) + x.6) && decide ((x.1 + (2 : Int) + x.5 % x.2 * ((1 : Int) + (x.3 + (3 : Int)) / (4 : Int)) + x.6).toNat < n))

 (.need (decide ((x.1 + (2 : Int) + x.5 % x.2 * ((1 : Int) + (x.3 + (3 : Int)) / (4 : Int)) + x.6).toNat < n))

 (.need (true)

 (.need (true)

 (.need (true)

 (.need (decide ((0 : Int) ≤ x.1 + (2 : Int) + x.5 % x.2 * ((1 : Int) + (x.3 + (3 : Int)) / (4 : Int)) + x.6) && decide ((x.1 + (2 : Int) + x.5 % x.2 * ((1 : Int) + (x.3 + (3 : Int)) / (4 : Int)) + x.6).toNat < n))

 (.need (decide ((x.1 + (2 : Int) + x.5 % x.2 * ((1 : Int) + (x.3 + (3 : Int)) / (4 : Int)) + x.6).toNat < n))
 (.eq (T.ret (SVal.sli (1 : Nat) (NN.c (0 : Nat)) (1 : Nat) (NN.v n) (some (NN.v n))) = T.ret (SVal.sli (1 : Nat) (NN.c (0 : Nat)) (1 : Nat) (NN.v n) (some (NN.v n))))
 (.eq (T.ret (SVal.int IntKind.u32 (IntKind.u32.wrap (↑(ms.getD (↑x.7.length : Int).toNat { data := { toList := [] } }).size : Int))) = T.ret (SVal.int IntKind.u32 (IntKind.u32.wrap (↑(ms.getD (↑x.7.length : Int).toNat { data := { toList := [] } }).size : Int))))

 (.need (decide ((0 : Int) ≤ x.1 + (2 : Int) + x.5 % x.2 * ((1 : Int) + (x.3 + (3 : Int)) / (4 : Int)) + x.6) && decide ((x.1 + (2 : Int) + x.5 % x.2 * ((1 : Int) + (x.3 + (3 : Int)) / (4 : Int)) + x.6).toNat < n))

 (.need (decide ((x.1 + (2 : Int) + x.5 % x.2 * ((1 : Int) + (x.3 + (3 : Int)) / (4 : Int)) + x.6).toNat < n))

 (.need (decide ((0 : Int) ≤ x.1 + (2 : Int) + x.5 % x.2 * ((1 : Int) + (x.3 + (3 : Int)) / (4 : Int)) + x.6) && decide ((x.1 + (2 : Int) + x.5 % x.2 * ((1 : Int) + (x.3 + (3 : Int)) / (4 : Int)) + x.6).toNat < n))

 (.need (decide ((x.1 + (2 : Int) + x.5 % x.2 * ((1 : Int) + (x.3 + (3 : Int)) / (4 : Int)) + x.6).toNat < n))
 (.eq (T.ret (SVal.sli (1 : Nat) (NN.c (0 : Nat)) (1 : Nat) (NN.v n) (some (NN.v n))) = T.ret (SVal.sli (1 : Nat) (NN.c (0 : Nat)) (1 : Nat) (NN.v n) (some (NN.v n))))
 (.eq (T.need (decide ((x.1 + (2 : Int) + x.5 % x.2 * ((1 : Int) + (x.3 + (3 : Int)) / (4 : Int)) + x.6).toNat < n)) (T.ret ([SVal.int IntKind.u32 ((l.set (x.1 + (2 : Int) + x.5 % x.2 * ((1 : Int) + (x.3 + (3 : Int)) / (4 : Int)) + x.6).toNat (bitop BinOp.or IntKind.u32 (bitop BinOp.and IntKind.u32 (l.getD (x.1 + (2 : Int) + x.5 % x.2 * ((1 : Int) + (x.3 + (3 : Int)) / (4 : Int)) + x.6).toNat (0 : Int)) (0 : Int)) (IntKind.u32.wrap (↑(ms.getD (↑x.7.length : Int).toNat { data := { toList := [] } }).size : Int)))).getD (x.1 + (2 : Int) + x.5 % x.2 * ((1 : Int) + (x.3 + (3 : Int)) / (4 : Int)) + x.6).toNat (0 : Int))].getD (0 : Nat) SVal.bad)) = T.need (decide ((x.1 + (2 : Int) + x.5 % x.2 * ((1 : Int) + (x.3 + (3 : Int)) / (4 : Int)) + x.6).toNat < n)) (T.ret ([SVal.int IntKind.u32 ((l.set (x.1 + (2 : Int) + x.5 % x.2 * ((1 : Int) + (x.3 + (3 : Int)) / (4 : Int)) + x.6).toNat (bitop BinOp.or IntKind.u32 (bitop BinOp.and IntKind.u32 (l.getD (x.1 + (2 : Int) + x.5 % x.2 * ((1 : Int) + (x.3 + (3 : Int)) / (4 : Int)) + x.6).toNat (0 : Int)) (0 : Int)) (IntKind.u32.wrap (↑(ms.getD (↑x.7.length : Int).toNat { data := { toList := [] } }).size : Int)))).getD (x.1 + (2 : Int) + x.5 % x.2 * ((1 : Int) + (x.3 + (3 : Int)) / (4 : Int)) + x.6).toNat (0 : Int))].getD (0 : Nat) SVal.bad)))
 (.eq (T.ret (SVal.agg [SVal.int IntKind.i64 x.1, SVal.int IntKind.i64 x.2, SVal.int IntKind.i64 x.3]) = T.ret (SVal.agg [SVal.int IntKind.i64 x.1, SVal.int IntKind.i64 x.2, SVal.int IntKind.i64 x.3]))
 (.eq (T.ret (SVal.int IntKind.u32 x.5) = T.ret (SVal.int IntKind.u32 x.5))
 (.eq (T.ret (SVal.int IntKind.i64 x.6) = T.ret (SVal.int IntKind.i64 x.6))
 (.eq (T.ret (SVal.int IntKind.i64 x.6) = T.ret (SVal.int IntKind.i64 x.6))

 (.need (inR .i64 (x.6 + (1 : Int)))

 (.need (inR .i64 ((↑(ms.getD (↑x.7.length : Int).toNat { data := { toList := [] } }).size : Int) + (3 : Int)))

 (.need (true)
 (.eq (T.ret (SVal.int IntKind.i64 (x.6 + (1 : Int))) = T.ret (SVal.int IntKind.i64 (x.6 + (1 : Int))))
 (.eq (T.ret (SVal.int IntKind.i64 (x.6 + (1 : Int))) = T.ret (SVal.int IntKind.i64 (x.6 + (1 : Int))))

 (.br (decide (IntKind.i64.wrap (((↑(ms.getD (↑x.7.length : Int).toNat { data := { toList := [] } }).size : Int) + (3 : Int)).tdiv (4 : Int)) < x.6 + (1 : Int)))
 (.eq (T.ret (SVal.fn (Fn.func (45 : Nat)) [SVal.ptr (3 : Nat) (0 : Nat)] []) = T.ret (SVal.fn (Fn.func (45 : Nat)) [SVal.ptr (3 : Nat) (0 : Nat)] []))
 (.eq (T.ret (SVal.sli (5 : Nat) (NN.c (0 : Nat)) (1 : Nat) (NN.v x.7.length) none) = T.ret (SVal.sli (5 : Nat) (NN.c (0 : Nat)) (1 : Nat) (NN.v x.7.length) none))
 (.eq (T.ret (SVal.sli (4 : Nat) (NN.c (0 : Nat)) (1 : Nat) (NN.v ms.length) none) = T.ret (SVal.sli (4 : Nat) (NN.c (0 : Nat)) (1 : Nat) (NN.v ms.length) none))

 (.ret (.sb ((↑x.7.length : Int) == (↑ms.length : Int)), [.ro encLook [PUnit.unit], .own [.a (encInt IntKind.u32) n ((l.set (x.1 + (2 : Int) + x.5 % x.2 * ((1 : Int) + (x.3 + (3 : Int)) / (4 : Int)) + x.6).toNat (bitop BinOp.or IntKind.u32 (bitop BinOp.and IntKind.u32 (l.getD (x.1 + (2 : Int) + x.5 % x.2 * ((1 : Int) + (x.3 + (3 : Int)) / (4 : Int)) + x.6).toNat (0 : Int)) (0 : Int)) (IntKind.u32.wrap (↑(ms.getD (↑x.7.length : Int).toNat { data := { toList := [] } }).size : Int)))).set (x.1 + (2 : Int) + x.5 % x.2 * ((1 : Int) + (x.3 + (3 : Int)) / (4 : Int)) + x.6).toNat (IntKind.u32.wrap ((l.set (x.1 + (2 : Int) + x.5 % x.2 * ((1 : Int) + (x.3 + (3 : Int)) / (4 : Int)) + x.6).toNat (bitop BinOp.or IntKind.u32 (bitop BinOp.and IntKind.u32 (l.getD (x.1 + (2 : Int) + x.5 % x.2 * ((1 : Int) + (x.3 + (3 : Int)) / (4 : Int)) + x.6).toNat (0 : Int)) (0 : Int)) (IntKind.u32.wrap (↑(ms.getD (↑x.7.length : Int).toNat { data := { toList := [] } }).size : Int)))).getD (x.1 + (2 : Int) + x.5 % x.2 * ((1 : Int) + (x.3 + (3 : Int)) / (4 : Int)) + x.6).toNat (0 : Int) + (0 : Int))))] 40, .own [.c (.sli 1 (.c 0) 1 (.v n) (some (.v n))), .c (.int .i64 (c + (1 : Int)))] 80, .own [.c (.int .i64 x.1), .c (.int .i64 x.2), .c (.int .i64 x.3), .c (SVal.fn (Fn.func 51) [.ptr 3 0] []), .c (.int .u32 x.4), .c (.int .u32 x.5), .c (.int .i64 (x.6 + (1 : Int))), .c (.sli 4 (.c 0) 1 (.v ms.length) none), .c (.sli 5 (.c 0) 1 (.v x.7.length) none)] 76, .vec encStr ms 9, .vec encBool x.7 4, .own [.c (.lit .u32 (0 : Int)), .c (.int .u32 (IntKind.u32.wrap (↑(ms.getD (↑x.7.length : Int).toNat { data := { toList := [] } }).size : Int))), .c (.lit .u32 (0 : Int))] 83])))))
 (.eq (T.ret (SVal.fn (Fn.func (45 : Nat)) [SVal.ptr (3 : Nat) (0 : Nat)] []) = T.ret (SVal.fn (Fn.func (45 : Nat)) [SVal.ptr (3 : Nat) (0 : Nat)] []))
 (.eq (T.ret (SVal.sli (5 : Nat) (NN.c (0 : Nat)) (1 : Nat) (NN.v x.7.length) none) = T.ret (SVal.sli (5 : Nat) (NN.c (0 : Nat)) (1 : Nat) (NN.v x.7.length) none))
 (.eq (T.ret (SVal.sli (4 : Nat) (NN.c (0 : Nat)) (1 : Nat) (NN.v ms.length) none) = T.ret (SVal.sli (4 : Nat) (NN.c (0 : Nat)) (1 : Nat) (NN.v ms.length) none))

 (.ret (.sb ((↑x.7.length : Int) == (↑ms.length : Int)), [.ro encLook [PUnit.unit], .own [.a (encInt IntKind.u32) n ((l.set (x.1 + (2 : Int) + x.5 % x.2 * ((1 : Int) + (x.3 + (3 : Int)) / (4 : Int)) + x.6).toNat (bitop BinOp.or IntKind.u32 (bitop BinOp.and IntKind.u32 (l.getD (x.1 + (2 : Int) + x.5 % x.2 * ((1 : Int) + (x.3 + (3 : Int)) / (4 : Int)) + x.6).toNat (0 : Int)) (0 : Int)) (IntKind.u32.wrap (↑(ms.getD (↑x.7.length : Int).toNat { data := { toList := [] } }).size : Int)))).set (x.1 + (2 : Int) + x.5 % x.2 * ((1 : Int) + (x.3 + (3 : Int)) / (4 : Int)) + x.6).toNat (IntKind.u32.wrap ((l.set (x.1 + (2 : Int) + x.5 % x.2 * ((1 : Int) + (x.3 + (3 : Int)) / (4 : Int)) + x.6).toNat (bitop BinOp.or IntKind.u32 (bitop BinOp.and IntKind.u32 (l.getD (x.1 + (2 : Int) + x.5 % x.2 * ((1 : Int) + (x.3 + (3 : Int)) / (4 : Int)) + x.6).toNat (0 : Int)) (0 : Int)) (IntKind.u32.wrap (↑(ms.getD (↑x.7.length : Int).toNat { data := { toList := [] } }).size : Int)))).getD (x.1 + (2 : Int) + x.5 % x.2 * ((1 : Int) + (x.3 + (3 : Int)) / (4 : Int)) + x.6).toNat (0 : Int) + (0 : Int))))] 40, .own [.c (.sli 1 (.c 0) 1 (.v n) (some (.v n))), .c (.int .i64 (c + (1 : Int)))] 80, .own [.c (.int .i64 x.1), .c (.int .i64 x.2), .c (.int .i64 x.3), .c (SVal.fn (Fn.func 45) [.ptr 3 0] []), .c (.int .u32 x.4), .c (.int .u32 x.5), .c (.int .i64 (x.6 + (1 : Int))), .c (.sli 4 (.c 0) 1 (.v ms.length) none), .c (.sli 5 (.c 0) 1 (.v x.7.length) none)] 76, .vec encStr ms 9, .vec encBool x.7 4, .own [.c (.lit .u32 (0 : Int)), .c (.int .u32 (IntKind.u32.wrap (↑(ms.getD (↑x.7.length : Int).toNat { data := { toList := [] } }).size : Int))), .c (.lit .u32 (0 : Int))] 83]))))))))))))))))))))))))))))))))))))))) := by kernel_rfl
set_option maxRecDepth 100000 in
theorem st_b {n : Nat} {l : List Int} {c : Int} {x : Snd} {ms : List ByteArray} : callF cfgK 100 19 agS (sSn 51 n l c x ms) =
 

 (.br ((↑x.7.length : Int) == (↑ms.length : Int))

 (.ret (.bl true, [.ro encLook [PUnit.unit], .own [.a (encInt IntKind.u32) n l] 40, .own [.c (.sli 1 (.c 0) 1 (.v n) (some (.v n))), .c (.int .i64 c)] 80, .own [.c (.int .i64 x.1), .c (.int .i64 x.2), .c (.int .i64 x.3), .c (SVal.fn (Fn.func 51) [.ptr 3 0] []), .c (.int .u32 x.4), .c (.int .u32 x.5), .c (.int .i64 x.6), .c (.sli 4 (.c 0) 1 (.v ms.length) none), .c (.sli 5 (.c 0) 1 (.v x.7.length) none)] 76, .vec encStr ms 9, .vec encBool x.7 4]))

 (.need (inR .i64 (x.1 + (1 : Int)))

 (.br (decide (x.1 + (1 : Int) < (0 : Int)))
 (.eq (T.ret (SVal.int IntKind.i64 x.1) = T.ret (SVal.int IntKind.i64 x.1))
 (.eq (T.ret (SVal.int IntKind.u32 x.5) = T.ret (SVal.int IntKind.u32 x.5))
 (.eq (T.ret (SVal.fn (Fn.func (51 : Nat)) [SVal.ptr (3 : Nat) (0 : Nat)] []) = T.ret (SVal.fn (Fn.func (51 : Nat)) [SVal.ptr (3 : Nat) (0 : Nat)] []))

 (.ret (.bl true, [.ro encLook [PUnit.unit], .own [.a (encInt IntKind.u32) n l] 40, .own [.c (.sli 1 (.c 0) 1 (.v n) (some (.v n))), .c (.int .i64 c)] 80, .own [.c (.int .i64 x.1), .c (.int .i64 x.2), .c (.int .i64 x.3), .c (SVal.fn (Fn.func 51) [.ptr 3 0] []), .c (.int .u32 x.4), .c (.int .u32 x.5), .c (.int .i64 x.6), .c (.sli 4 (.c 0) 1 (.v ms.length) none), .c (.sli 5 (.c 0) 1 (.v x.7.length) none)] 76, .vec encStr ms 9, .vec encBool x.7 4, .own [.c (.lit .u32 (0 : Int)), .c (.int .u32 (IntKind.u32.wrap (x.5 + (1 : Int)))), .c (.lit .u32 (0 : Int))] 83])))))

 (.br (decide ((↑n : Int) ≤ x.1 + (1 : Int)))
 (.eq (T.ret (SVal.int IntKind.i64 x.1) = T.ret (SVal.int IntKind.i64 x.1))
 (.eq (T.ret (SVal.int IntKind.u32 x.5) = T.ret (SVal.int IntKind.u32 x.5))
 (.eq (T.ret (SVal.fn (Fn.func (51 : Nat)) [SVal.ptr (3 : Nat) (0 : Nat)] []) = T.ret (SVal.fn (Fn.func (51 : Nat)) [SVal.ptr (3 : Nat) (0 : Nat)] []))

 (.ret (.bl true, [.ro encLook [PUnit.unit], .own [.a (encInt IntKind.u32) n l] 40, .own [.c (.sli 1 (.c 0) 1 (.v n) (some (.v n))), .c (.int .i64 c)] 80, .own [.c (.int .i64 x.1), .c (.int .i64 x.2), .c (.int .i64 x.3), .c (SVal.fn (Fn.func 51) [.ptr 3 0] []), .c (.int .u32 x.4), .c (.int .u32 x.5), .c (.int .i64 x.6), .c (.sli 4 (.c 0) 1 (.v ms.length) none), .c (.sli 5 (.c 0) 1 (.v x.7.length) none)] 76, .vec encStr ms 9, .vec encBool x.7 4, .own [.c (.lit .u32 (0 : Int)), .c (.int .u32 (IntKind.u32.wrap (x.5 + (1 : Int)))), .c (.lit .u32 (0 : Int))] 83])))))

 (.need (inR .i64 (c + (1 : Int)))

 (.need (decide ((0 : Int) ≤ x.1 + (1 : Int)) && decide ((x.1 + (1 : Int)).toNat < n))

 (.need (decide ((x.1 + (1 : Int)).toNat < n))

 (.need (true)

 (.need (true)

 (.need (true)

 (.need (decide ((0 : Int) ≤ x.1 + (1 : Int)) && decide ((x.1 + (1 : Int)).toNat < n))

 (.need (decide ((x.1 + (1 : Int)).toNat < n))
 (.eq (T.ret (SVal.sli (1 : Nat) (NN.c (0 : Nat)) (1 : Nat) (NN.v n) (some (NN.v n))) = T.ret (SVal.sli (1 : Nat) (NN.c (0 : Nat)) (1 : Nat) (NN.v n) (some (NN.v n))))
 (.eq (T.ret (SVal.int IntKind.u32 (IntKind.u32.wrap (x.5 + (1 : Int)))) = T.ret (SVal.int IntKind.u32 (IntKind.u32.wrap (x.5 + (1 : Int)))))

 (.need (decide ((0 : Int) ≤ x.1 + (1 : Int)) && decide ((x.1 + (1 : Int)).toNat < n))

 (.need (decide ((x.1 + (1 : Int)).toNat < n))

 (.need (decide ((0 : Int) ≤ x.1 + (1 : Int)) && decide ((x.1 + (1 : Int)).toNat < n))

 (.need (decide ((x.1 + (1 : Int)).toNat < n))
 (.eq (T.ret (SVal.sli (1 : Nat) (NN.c (0 : Nat)) (1 : Nat) (NN.v n) (some (NN.v n))) = T.ret (SVal.sli (1 : Nat) (NN.c (0 : Nat)) (1 : Nat) (NN.v n) (some (NN.v n))))
 (.eq (T.need (decide ((x.1 + (1 : Int)).toNat < n)) (T.ret ([SVal.int IntKind.u32 ((l.set (x.1 + (1 : Int)).toNat (bitop BinOp.or IntKind.u32 (bitop BinOp.and IntKind.u32 (l.getD (x.1 + (1 : Int)).toNat (0 : Int)) (0 : Int)) (IntKind.u32.wrap (x.5 + (1 : Int))))).getD (x.1 + (1 : Int)).toNat (0 : Int))].getD (0 : Nat) SVal.bad)) = T.need (decide ((x.1 + (1 : Int)).toNat < n)) (T.ret ([SVal.int IntKind.u32 ((l.set (x.1 + (1 : Int)).toNat (bitop BinOp.or IntKind.u32 (bitop BinOp.and IntKind.u32 (l.getD (x.1 + (1 : Int)).toNat (0 : Int)) (0 : Int)) (IntKind.u32.wrap (x.5 + (1 : Int))))).getD (x.1 + (1 : Int)).toNat (0 : Int))].getD (0 : Nat) SVal.bad)))
 (.eq (T.ret (SVal.int IntKind.i64 x.1) = T.ret (SVal.int IntKind.i64 x.1))
 (.eq (T.ret (SVal.int IntKind.u32 x.5) = T.ret (SVal.int IntKind.u32 x.5))

 (.need (true)

 (.need (decide (x.7.length = x.7.length))

 (.need (roomy (x.7.length + 1) 1)
 (.eq (T.ret (SVal.fn (Fn.func (51 : Nat)) [SVal.ptr (3 : Nat) (0 : Nat)] []) = T.ret (SVal.fn (Fn.func (51 : Nat)) [SVal.ptr (3 : Nat) (0 : Nat)] []))
 (.eq (T.ret (SVal.sli (8 : Nat) (NN.c (0 : Nat)) (1 : Nat) (NN.v (x.7.length + (1 : Nat))) none) = T.ret (SVal.sli (8 : Nat) (NN.c (0 : Nat)) (1 : Nat) (NN.v (x.7.length + (1 : Nat))) none))
 (.eq (T.ret (SVal.sli (4 : Nat) (NN.c (0 : Nat)) (1 : Nat) (NN.v ms.length) none) = T.ret (SVal.sli (4 : Nat) (NN.c (0 : Nat)) (1 : Nat) (NN.v ms.length) none))

 (.ret (.sb ((↑(x.7.length + 1) : Int) == (↑ms.length : Int)), [.ro encLook [PUnit.unit], .own [.a (encInt IntKind.u32) n ((l.set (x.1 + (1 : Int)).toNat (bitop BinOp.or IntKind.u32 (bitop BinOp.and IntKind.u32 (l.getD (x.1 + (1 : Int)).toNat (0 : Int)) (0 : Int)) (IntKind.u32.wrap (x.5 + (1 : Int))))).set (x.1 + (1 : Int)).toNat (IntKind.u32.wrap ((l.set (x.1 + (1 : Int)).toNat (bitop BinOp.or IntKind.u32 (bitop BinOp.and IntKind.u32 (l.getD (x.1 + (1 : Int)).toNat (0 : Int)) (0 : Int)) (IntKind.u32.wrap (x.5 + (1 : Int))))).getD (x.1 + (1 : Int)).toNat (0 : Int) + (0 : Int))))] 40, .own [.c (.sli 1 (.c 0) 1 (.v n) (some (.v n))), .c (.int .i64 (c + (1 : Int)))] 80, .own [.c (.int .i64 x.1), .c (.int .i64 x.2), .c (.int .i64 x.3), .c (SVal.fn (Fn.func 30) [.ptr 3 0] []), .c (.int .u32 x.4), .c (.int .u32 x.5), .c (.int .i64 x.6), .c (.sli 4 (.c 0) 1 (.v ms.length) none), .c (.sli 8 (.c 0) 1 (.v (x.7.length + 1)) none)] 76, .vec encStr ms 9, .gone, .own [.c (.lit .u32 (0 : Int)), .c (.int .u32 (IntKind.u32.wrap (x.5 + (1 : Int)))), .c (.lit .u32 (0 : Int))] 83, .own [.c (.bl true)] 4, .vec encBool (x.7 ++ [true]) 4])))))))))))))))))))))))))))))) := by kernel_rfl
set_option maxRecDepth 100000 in
theorem rb_b {n : Nat} {l : List Int} {c : Int} {x : Rcv} : callF cfgK 100 20 agS (sR 31 n l c x) =
 

 (.br ((↑x.10.length : Int) == x.7)

 (.ret (.bl true, [.ro encLook [PUnit.unit], .own [.a (encInt IntKind.u32) n l] 40, .own [.c (.sli 1 (.c 0) 1 (.v n) (some (.v n))), .c (.int .i64 c)] 80, .own [.c (.int .i64 x.1), .c (.int .i64 x.2), .c (.int .i64 x.3), .c (SVal.fn (Fn.func 31) [.ptr 3 0] []), .c (.int .u32 x.4), .c (.int .u32 x.5), .c (.int .i64 x.6), .c (.int .i64 x.7), .c (.int .i64 x.8), .c (.sli 4 (.c 0) 1 (.v x.9.length) none), .c (.sli 5 (.c 0) 1 (.v x.10.length) none)] 78, .vec (encInt IntKind.u8) x.9 5, .vec encStr x.10 9]))

 (.need (inR .i64 (x.1 + (1 : Int)))

 (.need (true)

 (.need (true)

 (.need (true)

 (.br (decide (x.1 + (1 : Int) < (0 : Int)))
 (.eq (T.ret (SVal.fn (Fn.func (31 : Nat)) [SVal.ptr (3 : Nat) (0 : Nat)] []) = T.ret (SVal.fn (Fn.func (31 : Nat)) [SVal.ptr (3 : Nat) (0 : Nat)] []))

 (.ret (.bl true, [.ro encLook [PUnit.unit], .own [.a (encInt IntKind.u32) n l] 40, .own [.c (.sli 1 (.c 0) 1 (.v n) (some (.v n))), .c (.int .i64 c)] 80, .own [.c (.int .i64 x.1), .c (.int .i64 x.2), .c (.int .i64 x.3), .c (SVal.fn (Fn.func 43) [.ptr 3 0] []), .c (.int .u32 x.4), .c (.lit .u32 (0 : Int)), .c (.int .i64 x.6), .c (.int .i64 x.7), .c (.int .i64 x.8), .c (.sli 4 (.c 0) 1 (.v x.9.length) none), .c (.sli 5 (.c 0) 1 (.v x.10.length) none)] 78, .vec (encInt IntKind.u8) x.9 5, .vec encStr x.10 9, .own [.c (.lit .u32 (4294967295 : Int)), .c (.lit .u32 (0 : Int)), .c (.lit .u32 (0 : Int))] 83])))

 (.br (decide ((↑n : Int) ≤ x.1 + (1 : Int)))
 (.eq (T.ret (SVal.fn (Fn.func (31 : Nat)) [SVal.ptr (3 : Nat) (0 : Nat)] []) = T.ret (SVal.fn (Fn.func (31 : Nat)) [SVal.ptr (3 : Nat) (0 : Nat)] []))

 (.ret (.bl true, [.ro encLook [PUnit.unit], .own [.a (encInt IntKind.u32) n l] 40, .own [.c (.sli 1 (.c 0) 1 (.v n) (some (.v n))), .c (.int .i64 c)] 80, .own [.c (.int .i64 x.1), .c (.int .i64 x.2), .c (.int .i64 x.3), .c (SVal.fn (Fn.func 43) [.ptr 3 0] []), .c (.int .u32 x.4), .c (.lit .u32 (0 : Int)), .c (.int .i64 x.6), .c (.int .i64 x.7), .c (.int .i64 x.8), .c (.sli 4 (.c 0) 1 (.v x.9.length) none), .c (.sli 5 (.c 0) 1 (.v x.10.length) none)] 78, .vec (encInt IntKind.u8) x.9 5, .vec encStr x.10 9, .own [.c (.lit .u32 (4294967295 : Int)), .c (.lit .u32 (0 : Int)), .c (.lit .u32 (0 : Int))] 83])))

 (.need (inR .i64 (c + (1 : Int)))

 (.need (decide ((0 : Int) ≤ x.1 + (1 : Int)) && decide ((x.1 + (1 : Int)).toNat < n))

 (.need (decide ((x.1 + (1 : Int)).toNat < n))

 (.need (true)

 (.need (true)

 (.need (true)
 (.eq (T.ret (SVal.fn (Fn.func (31 : Nat)) [SVal.ptr (3 : Nat) (0 : Nat)] []) = T.ret (SVal.fn (Fn.func (31 : Nat)) [SVal.ptr (3 : Nat) (0 : Nat)] []))
 (.eq (T.ret (SVal.sli (5 : Nat) (NN.c (0 : Nat)) (1 : Nat) (NN.v x.10.length) none) = T.ret (SVal.sli (5 : Nat) (NN.c (0 : Nat)) (1 : Nat) (NN.v x.10.length) none))
 (.eq (T.ret (SVal.int IntKind.i64 x.7) = T.ret (SVal.int IntKind.i64 x.7))

 (.ret (.sb ((↑x.10.length : Int) == x.7), [.ro encLook [PUnit.unit], .own [.a (encInt IntKind.u32) n l] 40, .own [.c (.sli 1 (.c 0) 1 (.v n) (some (.v n))), .c (.int .i64 (c + (1 : Int)))] 80, .own [.c (.int .i64 x.1), .c (.int .i64 x.2), .c (.int .i64 x.3), .c (SVal.fn (Fn.func 43) [.ptr 3 0] []), .c (.int .u32 x.4), .c (.int .u32 (l.getD (x.1 + (1 : Int)).toNat (0 : Int))), .c (.int .i64 x.6), .c (.int .i64 x.7), .c (.int .i64 x.8), .c (.sli 4 (.c 0) 1 (.v x.9.length) none), .c (.sli 5 (.c 0) 1 (.v x.10.length) none)] 78, .vec (encInt IntKind.u8) x.9 5, .vec encStr x.10 9, .own [.c (.lit .u32 (4294967295 : Int)), .c (.lit .u32 (0 : Int)), .c (.lit .u32 (0 : Int))] 83])))))))))))))))))) := by kernel_rfl
set_option maxRecDepth 100000 in
theorem rl_b {n : Nat} {l : List Int} {c : Int} {x : Rcv} : callF cfgK 100 20 agS (sR 43 n l c x) =
 

 (.br ((↑x.10.length : Int) == x.7)

 (.ret (.bl true, [.ro encLook [PUnit.unit], .own [.a (encInt IntKind.u32) n l] 40, .own [.c (.sli 1 (.c 0) 1 (.v n) (some (.v n))), .c (.int .i64 c)] 80, .own [.c (.int .i64 x.1), .c (.int .i64 x.2), .c (.int .i64 x.3), .c (SVal.fn (Fn.func 43) [.ptr 3 0] []), .c (.int .u32 x.4), .c (.int .u32 x.5), .c (.int .i64 x.6), .c (.int .i64 x.7), .c (.int .i64 x.8), .c (.sli 4 (.c 0) 1 (.v x.9.length) none), .c (.sli 5 (.c 0) 1 (.v x.10.length) none)] 78, .vec (encInt IntKind.u8) x.9 5, .vec encStr x.10 9]))

 (.need (inR .i64 (x.1 + (0 : Int)))

 (.need (true)

 (.need (true)

 (.need (true)

 (.br (decide (x.1 + (0 : Int) < (0 : Int)))
 (.eq (T.ret (SVal.fn (Fn.func (43 : Nat)) [SVal.ptr (3 : Nat) (0 : Nat)] []) = T.ret (SVal.fn (Fn.func (43 : Nat)) [SVal.ptr (3 : Nat) (0 : Nat)] []))

 (.ret (.bl true, [.ro encLook [PUnit.unit], .own [.a (encInt IntKind.u32) n l] 40, .own [.c (.sli 1 (.c 0) 1 (.v n) (some (.v n))), .c (.int .i64 c)] 80, .own [.c (.int .i64 x.1), .c (.int .i64 x.2), .c (.int .i64 x.3), .c (SVal.fn (Fn.func 43) [.ptr 3 0] []), .c (.lit .u32 (0 : Int)), .c (.int .u32 x.5), .c (.int .i64 x.6), .c (.int .i64 x.7), .c (.int .i64 x.8), .c (.sli 4 (.c 0) 1 (.v x.9.length) none), .c (.sli 5 (.c 0) 1 (.v x.10.length) none)] 78, .vec (encInt IntKind.u8) x.9 5, .vec encStr x.10 9, .own [.c (.lit .u32 (4294967295 : Int)), .c (.lit .u32 (0 : Int)), .c (.lit .u32 (0 : Int))] 83])))

 (.br (decide ((↑n : Int) ≤ x.1 + (0 : Int)))
 (.eq (T.ret (SVal.fn (Fn.func (43 : Nat)) [SVal.ptr (3 : Nat) (0 : Nat)] []) = T.ret (SVal.fn (Fn.func (43 : Nat)) [SVal.ptr (3 : Nat) (0 : Nat)] []))

 (.ret (.bl true, [.ro encLook [PUnit.unit], .own [.a (encInt IntKind.u32) n l] 40, .own [.c (.sli 1 (.c 0) 1 (.v n) (some (.v n))), .c (.int .i64 c)] 80, .own [.c (.int .i64 x.1), .c (.int .i64 x.2), .c (.int .i64 x.3), .c (SVal.fn (Fn.func 43) [.ptr 3 0] []), .c (.lit .u32 (0 : Int)), .c (.int .u32 x.5), .c (.int .i64 x.6), .c (.int .i64 x.7), .c (.int .i64 x.8), .c (.sli 4 (.c 0) 1 (.v x.9.length) none), .c (.sli 5 (.c 0) 1 (.v x.10.length) none)] 78, .vec (encInt IntKind.u8) x.9 5, .vec encStr x.10 9, .own [.c (.lit .u32 (4294967295 : Int)), .c (.lit .u32 (0 : Int)), .c (.lit .u32 (0 : Int))] 83])))

 (.need (inR .i64 (c + (1 : Int)))

 (.need (decide ((0 : Int) ≤ x.1 + (0 : Int)) && decide ((x.1 + (0 : Int)).toNat < n))

 (.need (decide ((x.1 + (0 : Int)).toNat < n))

 (.need (true)

 (.need (true)

 (.need (true)

 (.br (l.getD (x.1 + (0 : Int)).toNat (0 : Int) == x.5)

 (.need (true)

 (.need (decide (x.10.length = x.10.length))

 (.need (roomy (x.10.length + 1) 16)
 (.eq (T.ret (SVal.fn (Fn.func (43 : Nat)) [SVal.ptr (3 : Nat) (0 : Nat)] []) = T.ret (SVal.fn (Fn.func (43 : Nat)) [SVal.ptr (3 : Nat) (0 : Nat)] []))
 (.eq (T.ret (SVal.sli (8 : Nat) (NN.c (0 : Nat)) (1 : Nat) (NN.v (x.10.length + (1 : Nat))) none) = T.ret (SVal.sli (8 : Nat) (NN.c (0 : Nat)) (1 : Nat) (NN.v (x.10.length + (1 : Nat))) none))
 (.eq (T.ret (SVal.int IntKind.i64 x.7) = T.ret (SVal.int IntKind.i64 x.7))

 (.ret (.sb ((↑(x.10.length + 1) : Int) == x.7), [.ro encLook [PUnit.unit], .own [.a (encInt IntKind.u32) n l] 40, .own [.c (.sli 1 (.c 0) 1 (.v n) (some (.v n))), .c (.int .i64 (c + (1 : Int)))] 80, .own [.c (.int .i64 x.1), .c (.int .i64 x.2), .c (.int .i64 x.3), .c (SVal.fn (Fn.func 31) [.ptr 3 0] []), .c (.int .u32 (l.getD (x.1 + (0 : Int)).toNat (0 : Int))), .c (.int .u32 x.5), .c (.lit .i64 (0 : Int)), .c (.int .i64 x.7), .c (.int .i64 x.8), .c .snil, .c (.sli 8 (.c 0) 1 (.v (x.10.length + 1)) none)] 78, .vec (encInt IntKind.u8) x.9 5, .gone, .own [.c (.lit .u32 (4294967295 : Int)), .c (.lit .u32 (0 : Int)), .c (.lit .u32 (0 : Int))] 83, .own [.c (.sl [])] 9, .vec encStr (x.10 ++ [{ data := { toList := [] } }]) 9]))))))))
 (.eq (T.ret (SVal.fn (Fn.func (43 : Nat)) [SVal.ptr (3 : Nat) (0 : Nat)] []) = T.ret (SVal.fn (Fn.func (43 : Nat)) [SVal.ptr (3 : Nat) (0 : Nat)] []))
 (.eq (T.ret (SVal.sli (5 : Nat) (NN.c (0 : Nat)) (1 : Nat) (NN.v x.10.length) none) = T.ret (SVal.sli (5 : Nat) (NN.c (0 : Nat)) (1 : Nat) (NN.v x.10.length) none))
 (.eq (T.ret (SVal.int IntKind.i64 x.7) = T.ret (SVal.int IntKind.i64 x.7))

 (.ret (.sb ((↑x.10.length : Int) == x.7), [.ro encLook [PUnit.unit], .own [.a (encInt IntKind.u32) n l] 40, .own [.c (.sli 1 (.c 0) 1 (.v n) (some (.v n))), .c (.int .i64 (c + (1 : Int)))] 80, .own [.c (.int .i64 x.1), .c (.int .i64 x.2), .c (.int .i64 x.3), .c (SVal.fn (Fn.func 47) [.ptr 3 0] []), .c (.int .u32 (l.getD (x.1 + (0 : Int)).toNat (0 : Int))), .c (.int .u32 x.5), .c (.lit .i64 (0 : Int)), .c (.int .i64 x.7), .c (.int .i64 x.8), .c .snil, .c (.sli 5 (.c 0) 1 (.v x.10.length) none)] 78, .vec (encInt IntKind.u8) x.9 5, .vec encStr x.10 9, .own [.c (.lit .u32 (4294967295 : Int)), .c (.lit .u32 (0 : Int)), .c (.lit .u32 (0 : Int))] 83]))))))))))))))))))) := by kernel_rfl
set_option maxRecDepth 100000 in
theorem rt_b {n : Nat} {l : List Int} {c : Int} {x : Rcv} : callF cfgK 100 20 agS (sR 47 n l c x) =
 

 (.br ((↑x.10.length : Int) == x.7)

 (.ret (.bl true, [.ro encLook [PUnit.unit], .own [.a (encInt IntKind.u32) n l] 40, .own [.c (.sli 1 (.c 0) 1 (.v n) (some (.v n))), .c (.int .i64 c)] 80, .own [.c (.int .i64 x.1), .c (.int .i64 x.2), .c (.int .i64 x.3), .c (SVal.fn (Fn.func 47) [.ptr 3 0] []), .c (.int .u32 x.4), .c (.int .u32 x.5), .c (.int .i64 x.6), .c (.int .i64 x.7), .c (.int .i64 x.8), .c (.sli 4 (.c 0) 1 (.v x.9.length) none), .c (.sli 5 (.c 0) 1 (.v x.10.length) none)] 78, .vec (encInt IntKind.u8) x.9 5, .vec encStr x.10 9]))

 (.eq ([Blk.ro encLook [PUnit.unit]] = [Blk.ro encLook [PUnit.unit]] ∧ RingOk x.2 x.3 ∧ ((-1000000 : Int) ≤ x.1 ∧ x.1 ≤ (1000000 : Int)) ∧ (0 : Int) ≤ x.4 ∧ x.4 < (4294967296 : Int))

 (.need (inR .i64 (x.1 + (2 : Int) + x.4 % x.2 * ((1 : Int) + (x.3 + (3 : Int)) / (4 : Int)) + x.6))

 (.need (true)

 (.need (true)

 (.need (true)

 (.br (decide (x.1 + (2 : Int) + x.4 % x.2 * ((1 : Int) + (x.3 + (3 : Int)) / (4 : Int)) + x.6 < (0 : Int)))
 (.eq (T.ret (SVal.agg [SVal.int IntKind.i64 x.1, SVal.int IntKind.i64 x.2, SVal.int IntKind.i64 x.3]) = T.ret (SVal.agg [SVal.int IntKind.i64 x.1, SVal.int IntKind.i64 x.2, SVal.int IntKind.i64 x.3]))
 (.eq (T.ret (SVal.int IntKind.u32 x.4) = T.ret (SVal.int IntKind.u32 x.4))
 (.eq (T.ret (SVal.int IntKind.i64 x.6) = T.ret (SVal.int IntKind.i64 x.6))
 (.eq (T.ret (SVal.int IntKind.i64 x.6) = T.ret (SVal.int IntKind.i64 x.6))

 (.br (x.6 == (0 : Int))

 (.need (inR .i64 (imin (1 : Int) (IntKind.u32.wrap x.3)))

 (.need (inR .i64 (x.6 + (1 : Int)))

 (.need (inR .i64 (imin (1 : Int) (IntKind.u32.wrap x.3) + (3 : Int)))

 (.need (true)
 (.eq (T.ret (SVal.int IntKind.i64 (x.6 + (1 : Int))) = T.ret (SVal.int IntKind.i64 (x.6 + (1 : Int))))
 (.eq (T.ret (SVal.int IntKind.i64 (x.6 + (1 : Int))) = T.ret (SVal.int IntKind.i64 (x.6 + (1 : Int))))
 (.eq (T.ret (SVal.int IntKind.i64 (imin (1 : Int) (IntKind.u32.wrap x.3))) = T.ret (SVal.int IntKind.i64 (imin (1 : Int) (IntKind.u32.wrap x.3))))

 (.br (decide (IntKind.i64.wrap ((imin (1 : Int) (IntKind.u32.wrap x.3) + (3 : Int)).tdiv (4 : Int)) < x.6 + (1 : Int)))
 (.eq (T.ret (SVal.fn (Fn.func (47 : Nat)) [SVal.ptr (3 : Nat) (0 : Nat)] []) = T.ret (SVal.fn (Fn.func (47 : Nat)) [SVal.ptr (3 : Nat) (0 : Nat)] []))

 (.ret (.bl true, [.ro encLook [PUnit.unit], .own [.a (encInt IntKind.u32) n l] 40, .own [.c (.sli 1 (.c 0) 1 (.v n) (some (.v n))), .c (.int .i64 c)] 80, .own [.c (.int .i64 x.1), .c (.int .i64 x.2), .c (.int .i64 x.3), .c (SVal.fn (Fn.func 52) [.ptr 3 0] []), .c (.int .u32 x.4), .c (.int .u32 x.5), .c (.int .i64 (x.6 + (1 : Int))), .c (.int .i64 x.7), .c (.int .i64 (imin (1 : Int) (IntKind.u32.wrap x.3))), .c (.sli 4 (.c 0) 1 (.v x.9.length) none), .c (.sli 5 (.c 0) 1 (.v x.10.length) none)] 78, .vec (encInt IntKind.u8) x.9 5, .vec encStr x.10 9, .own [.c (.lit .u32 (4294967295 : Int)), .c (.lit .u32 (0 : Int)), .c (.lit .u32 (0 : Int))] 83])))
 (.eq (T.ret (SVal.fn (Fn.func (47 : Nat)) [SVal.ptr (3 : Nat) (0 : Nat)] []) = T.ret (SVal.fn (Fn.func (47 : Nat)) [SVal.ptr (3 : Nat) (0 : Nat)] []))

 (.ret (.bl true, [.ro encLook [PUnit.unit], .own [.a (encInt IntKind.u32) n l] 40, .own [.c (.sli 1 (.c 0) 1 (.v n) (some (.v n))), .c (.int .i64 c)] 80, .own [.c (.int .i64 x.1), .c (.int .i64 x.2), .c (.int .i64 x.3), .c (SVal.fn (Fn.func 47) [.ptr 3 0] []), .c (.int .u32 x.4), .c (.int .u32 x.5), .c (.int .i64 (x.6 + (1 : Int))), .c (.int .i64 x.7), .c (.int .i64 (imin (1 : Int) (IntKind.u32.wrap x.3))), .c (.sli 4 (.c 0) 1 (.v x.9.length) none), .c (.sli 5 (.c 0) 1 (.v x.10.length) none)] 78, .vec (encInt IntKind.u8) x.9 5, .vec encStr x.10 9, .own [.c (.lit .u32 (4294967295 : Int)), .c (.lit .u32 (0 : Int)), .c (.lit .u32 (0 : Int))] 83])))))))))))

 (.need (true)

 (.need (true)

 (.need (true)

 (.need (true)

 (.need (decide (x.9.length = x.9.length))

 (.need (roomy (x.9.length + 4) 1)

 (.need (inR .i64 (x.6 + (1 : Int)))

 (.need (inR .i64 (x.8 + (3 : Int)))

 (.need (true)
 (.eq (T.ret (SVal.int IntKind.i64 (x.6 + (1 : Int))) = T.ret (SVal.int IntKind.i64 (x.6 + (1 : Int))))
 (.eq (T.ret (SVal.int IntKind.i64 (x.6 + (1 : Int))) = T.ret (SVal.int IntKind.i64 (x.6 + (1 : Int))))
 (.eq (T.ret (SVal.int IntKind.i64 x.8) = T.ret (SVal.int IntKind.i64 x.8))

 (.br (decide (IntKind.i64.wrap ((x.8 + (3 : Int)).tdiv (4 : Int)) < x.6 + (1 : Int)))
 (.eq (T.ret (SVal.fn (Fn.func (47 : Nat)) [SVal.ptr (3 : Nat) (0 : Nat)] []) = T.ret (SVal.fn (Fn.func (47 : Nat)) [SVal.ptr (3 : Nat) (0 : Nat)] []))

 (.ret (.bl true, [.ro encLook [PUnit.unit], .own [.a (encInt IntKind.u32) n l] 40, .own [.c (.sli 1 (.c 0) 1 (.v n) (some (.v n))), .c (.int .i64 c)] 80, .own [.c (.int .i64 x.1), .c (.int .i64 x.2), .c (.int .i64 x.3), .c (SVal.fn (Fn.func 52) [.ptr 3 0] []), .c (.int .u32 x.4), .c (.int .u32 x.5), .c (.int .i64 (x.6 + (1 : Int))), .c (.int .i64 x.7), .c (.int .i64 x.8), .c (.sli 8 (.c 0) 1 (.v (x.9.length + 4)) none), .c (.sli 5 (.c 0) 1 (.v x.10.length) none)] 78, .gone, .vec encStr x.10 9, .own [.c (.lit .u32 (4294967295 : Int)), .c (.lit .u32 (0 : Int)), .c (.lit .u32 (0 : Int))] 83, .own [.c (.lit .u8 (0 : Int)), .c (.lit .u8 (0 : Int)), .c (.lit .u8 (0 : Int)), .c (.lit .u8 (0 : Int))] 5, .vec (encInt IntKind.u8) (x.9 ++ [(0 : Int), (0 : Int), (0 : Int), (0 : Int)]) 5])))
 (.eq (T.ret (SVal.fn (Fn.func (47 : Nat)) [SVal.ptr (3 : Nat) (0 : Nat)] []) = T.ret (SVal.fn (Fn.func (47 : Nat)) [SVal.ptr (3 : Nat) (0 : Nat)] []))

 (.ret (.bl true, [.ro encLook [PUnit.unit], .own [.a (encInt IntKind.u32) n l] 40, .own [.c (.sli 1 (.c 0) 1 (.v n) (some (.v n))), .c (.int .i64 c)] 80, .own [.c (.int .i64 x.1), .c (.int .i64 x.2), .c (.int .i64 x.3), .c (SVal.fn (Fn.func 47) [.ptr 3 0] []), .c (.int .u32 x.4), .c (.int .u32 x.5), .c (.int .i64 (x.6 + (1 : Int))), .c (.int .i64 x.7), .c (.int .i64 x.8), .c (.sli 8 (.c 0) 1 (.v (x.9.length + 4)) none), .c (.sli 5 (.c 0) 1 (.v x.10.length) none)] 78, .gone, .vec encStr x.10 9, .own [.c (.lit .u32 (4294967295 : Int)), .c (.lit .u32 (0 : Int)), .c (.lit .u32 (0 : Int))] 83, .own [.c (.lit .u8 (0 : Int)), .c (.lit .u8 (0 : Int)), .c (.lit .u8 (0 : Int)), .c (.lit .u8 (0 : Int))] 5, .vec (encInt IntKind.u8) (x.9 ++ [(0 : Int), (0 : Int), (0 : Int), (0 : Int)]) 5])))))))))))))))))))))

 (.br (decide ((↑n : Int) ≤ x.1 + (2 : Int) + x.4 % x.2 * ((1 : Int) + (x.3 + (3 : Int)) / (4 : Int)) + x.6))
 (.eq (T.ret (SVal.agg [SVal.int IntKind.i64 x.1, SVal.int IntKind.i64 x.2, SVal.int IntKind.i64 x.3]) = T.ret (SVal.agg [SVal.int IntKind.i64 x.1, SVal.int IntKind.i64 x.2, SVal.int IntKind.i64 x.3]))
 (.eq (T.ret (SVal.int IntKind.u32 x.4) = T.ret (SVal.int IntKind.u32 x.4))
 (.eq (T.ret (SVal.int IntKind.i64 x.6) = T.ret (SVal.int IntKind.i64 x.6))
 (.eq (T.ret (SVal.int IntKind.i64 x.6) = T.ret (SVal.int IntKind.i64 x.6))

 (.br (x.6 == (0 : Int))

 (.need (inR .i64 (imin (1 : Int) (IntKind.u32.wrap x.3)))

 (.need (inR .i64 (x.6 + (1 : Int)))

 (.need (inR .i64 (imin (1 : Int) (IntKind.u32.wrap x.3) + (3 : Int)))

 (.need (true)
 (.eq (T.ret (SVal.int IntKind.i64 (x.6 + (1 : Int))) = T.ret (SVal.int IntKind.i64 (x.6 + (1 : Int))))
 (.eq (T.ret (SVal.int IntKind.i64 (x.6 + (1 : Int))) = T.ret (SVal.int IntKind.i64 (x.6 + (1 : Int))))
 (.eq (T.ret (SVal.int IntKind.i64 (imin (1 : Int) (IntKind.u32.wrap x.3))) = T.ret (SVal.int IntKind.i64 (imin (1 : Int) (IntKind.u32.wrap x.3))))

 (.br (decide (IntKind.i64.wrap ((imin (1 : Int) (IntKind.u32.wrap x.3) + (3 : Int)).tdiv (4 : Int)) < x.6 + (1 : Int)))
 (.eq (T.ret (SVal.fn (Fn.func (47 : Nat)) [SVal.ptr (3 : Nat) (0 : Nat)] []) = T.ret (SVal.fn (Fn.func (47 : Nat)) [SVal.ptr (3 : Nat) (0 : Nat)] []))

 (.ret (.bl true, [.ro encLook [PUnit.unit], .own [.a (encInt IntKind.u32) n l] 40, .own [.c (.sli 1 (.c 0) 1 (.v n) (some (.v n))), .c (.int .i64 c)] 80, .own [.c (.int .i64 x.1), .c (.int .i64 x.2), .c (.int .i64 x.3), .c (SVal.fn (Fn.func 52) [.ptr 3 0] []), .c (.int .u32 x.4), .c (.int .u32 x.5), .c (.int .i64 (x.6 + (1 : Int))), .c (.int .i64 x.7), .c (.int .i64 (imin (1 : Int) (IntKind.u32.wrap x.3))), .c (.sli 4 (.c 0) 1 (.v x.9.length) none), .c (.sli 5 (.c 0) 1 (.v x.10.length) none)] 78, .vec (encInt IntKind.u8) x.9 5, .vec encStr x.10 9, .own [.c (.lit .u32 (4294967295 : Int)), .c (.lit .u32 (0 : Int)), .c (.lit .u32 (0 : Int))] 83])))
 (.eq (T.ret (SVal.fn (Fn.func (47 : Nat)) [SVal.ptr (3 : Nat) (0 : Nat)] []) = T.ret (SVal.fn (Fn.func (47 : Nat)) [SVal.ptr (3 : Nat) (0 : Nat)] []))

 (.ret (.bl true, [.ro encLook [PUnit.unit], .own [.a (encInt IntKind.u32) n l] 40, .own [.c (.sli 1 (.c 0) 1 (.v n) (some (.v n))), .c (.int .i64 c)] 80, .own [.c (.int .i64 x.1), .c (.int .i64 x.2), .c (.int .i64 x.3), .c (SVal.fn (Fn.func 47) [.ptr 3 0] []), .c (.int .u32 x.4), .c (.int .u32 x.5), .c (.int .i64 (x.6 + (1 : Int))), .c (.int .i64 x.7), .c (.int .i64 (imin (1 : Int) (IntKind.u32.wrap x.3))), .c (.sli 4 (.c 0) 1 (.v x.9.length) none), .c (.sli 5 (.c 0) 1 (.v x.10.length) none)] 78, .vec (encInt IntKind.u8) x.9 5, .vec encStr x.10 9, .own [.c (.lit .u32 (4294967295 : Int)), .c (.lit .u32 (0 : Int)), .c (.lit .u32 (0 : Int))] 83])))))))))))

 (.need (true)

 (.need (true)

 (.need (true)

 (.need (true)

 (.need (decide (x.9.length = x.9.length))

 (.need (roomy (x.9.length + 4) 1)

 (.need (inR .i64 (x.6 + (1 : Int)))

 (.need (inR .i64 (x.8 + (3 : Int)))

 (.need (true)
 (.eq (T.ret (SVal.int IntKind.i64 (x.6 + (1 : Int))) = T.ret (SVal.int IntKind.i64 (x.6 + (1 : Int))))
 (.eq (T.ret (SVal.int IntKind.i64 (x.6 + (1 : Int))) = T.ret (SVal.int IntKind.i64 (x.6 + (1 : Int))))
 (.eq (T.ret (SVal.int IntKind.i64 x.8) = T.ret (SVal.int IntKind.i64 x.8))

 (.br (decide (IntKind.i64.wrap ((x.8 + (3 : Int)).tdiv (4 : Int)) < x.6 + (1 : Int)))
 (.eq (T.ret (SVal.fn (Fn.func (47 : Nat)) [SVal.ptr (3 : Nat) (0 : Nat)] []) = T.ret (SVal.fn (Fn.func (47 : Nat)) [SVal.ptr (3 : Nat) (0 : Nat)] []))

 (.ret (.bl true, [.ro encLook [PUnit.unit], .own [.a (encInt IntKind.u32) n l] 40, .own [.c (.sli 1 (.c 0) 1 (.v n) (some (.v n))), .c (.int .i64 c)] 80, .own [.c (.int .i64 x.1), .c (.int .i64 x.2), .c (.int .i64 x.3), .c (SVal.fn (Fn.func 52) [.ptr 3 0] []), .c (.int .u32 x.4), .c (.int .u32 x.5), .c (.int .i64 (x.6 + (1 : Int))), .c (.int .i64 x.7), .c (.int .i64 x.8), .c (.sli 8 (.c 0) 1 (.v (x.9.length + 4)) none), .c (.sli 5 (.c 0) 1 (.v x.10.length) none)] 78, .gone, .vec encStr x.10 9, .own [.c (.lit .u32 (4294967295 : Int)), .c (.lit .u32 (0 : Int)), .c (.lit .u32 (0 : Int))] 83, .own [.c (.lit .u8 (0 : Int)), .c (.lit .u8 (0 : Int)), .c (.lit .u8 (0 : Int)), .c (.lit .u8 (0 : Int))] 5, .vec (encInt IntKind.u8) (x.9 ++ [(0 : Int), (0 : Int), (0 : Int), (0 : Int)]) 5])))
 (.eq (T.ret (SVal.fn (Fn.func (47 : Nat)) [SVal.ptr (3 : Nat) (0 : Nat)] []) = T.ret (SVal.fn (Fn.func (47 : Nat)) [SVal.ptr (3 : Nat) (0 : Nat)] []))

 (.ret (.bl true, [.ro encLook [PUnit.unit], .own [.a (encInt IntKind.u32) n l] 40, .own [.c (.sli 1 (.c 0) 1 (.v n) (some (.v n))), .c (.int .i64 c)] 80, .own [.c (.int .i64 x.1), .c (.int .i64 x.2), .c (.int .i64 x.3), .c (SVal.fn (Fn.func 47) [.ptr 3 0] []), .c (.int .u32 x.4), .c (.int .u32 x.5), .c (.int .i64 (x.6 + (1 : Int))), .c (.int .i64 x.7), .c (.int .i64 x.8), .c (.sli 8 (.c 0) 1 (.v (x.9.length + 4)) none), .c (.sli 5 (.c 0) 1 (.v x.10.length) none)] 78, .gone, .vec encStr x.10 9, .own [.c (.lit .u32 (4294967295 : Int)), .c (.lit .u32 (0 : Int)), .c (.lit .u32 (0 : Int))] 83, .own [.c (.lit .u8 (0 : Int)), .c (.lit .u8 (0 : Int)), .c (.lit .u8 (0 : Int)), .c (.lit .u8 (0 : Int))] 5, .vec (encInt IntKind.u8) (x.9 ++ [(0 : Int), (0 : Int), (0 : Int), (0 : Int)]) 5])))))))))))))))))))))

 (.need (inR .i64 (c + (1 : Int)))

 (.need (decide ((0 : Int) ≤ x.1 + (2 : Int) + x.4 % x.2 * ((1 : Int) + (x.3 + (3 : Int)) / (4 : Int)) + x.6) && decide ((x.1 + (2 : Int) + x.4 % x.2 * ((1 : Int) + (x.3 + (3 : Int)) / (4 : Int)) + x.6).toNat < n))

 (.need (decide ((x.1 + (2 : Int) + x.4 % x.2 * ((1 : Int) + (x.3 + (3 : Int)) / (4 : Int)) + x.6).toNat < n))

 (.need (true)

 (.need (true)

 (.need (true)
 (.eq (T.ret (SVal.agg [SVal.int IntKind.i64 x.1, SVal.int IntKind.i64 x.2, SVal.int IntKind.i64 x.3]) = T.ret (SVal.agg [SVal.int IntKind.i64 x.1, SVal.int IntKind.i64 x.2, SVal.int IntKind.i64 x.3]))
 (.eq (T.ret (SVal.int IntKind.u32 x.4) = T.ret (SVal.int IntKind.u32 x.4))
 (.eq (T.ret (SVal.int IntKind.i64 x.6) = T.ret (SVal.int IntKind.i64 x.6))
 (.eq (T.ret (SVal.int IntKind.i64 x.6) = T.ret (SVal.int IntKind.i64 x.6))

 (.br (x.6 == (0 : Int))

 (.need (inR .i64 (imin (imax (l.getD (x.1 + (2 : Int) + x.4 % x.2 * ((1 : Int) + (x.3 + (3 : Int)) / (4 : Int)) + x.6).toNat (0 : Int)) (1 : Int)) (IntKind.u32.wrap x.3)))

 (.need (inR .i64 (x.6 + (1 : Int)))

 (.need (inR .i64 (imin (imax (l.getD (x.1 + (2 : Int) + x.4 % x.2 * ((1 : Int) + (x.3 + (3 : Int)) / (4 : Int)) + x.6).toNat (0 : Int)) (1 : Int)) (IntKind.u32.wrap x.3) + (3 : Int)))

 (.need (true)
 (.eq (T.ret (SVal.int IntKind.i64 (x.6 + (1 : Int))) = T.ret (SVal.int IntKind.i64 (x.6 + (1 : Int))))
 (.eq (T.ret (SVal.int IntKind.i64 (x.6 + (1 : Int))) = T.ret (SVal.int IntKind.i64 (x.6 + (1 : Int))))
 (.eq (T.ret (SVal.int IntKind.i64 (imin (imax (l.getD (x.1 + (2 : Int) + x.4 % x.2 * ((1 : Int) + (x.3 + (3 : Int)) / (4 : Int)) + x.6).toNat (0 : Int)) (1 : Int)) (IntKind.u32.wrap x.3))) = T.ret (SVal.int IntKind.i64 (imin (imax (l.getD (x.1 + (2 : Int) + x.4 % x.2 * ((1 : Int) + (x.3 + (3 : Int)) / (4 : Int)) + x.6).toNat (0 : Int)) (1 : Int)) (IntKind.u32.wrap x.3))))

 (.br (decide (IntKind.i64.wrap ((imin (imax (l.getD (x.1 + (2 : Int) + x.4 % x.2 * ((1 : Int) + (x.3 + (3 : Int)) / (4 : Int)) + x.6).toNat (0 : Int)) (1 : Int)) (IntKind.u32.wrap x.3) + (3 : Int)).tdiv (4 : Int)) < x.6 + (1 : Int)))
 (.eq (T.ret (SVal.fn (Fn.func (47 : Nat)) [SVal.ptr (3 : Nat) (0 : Nat)] []) = T.ret (SVal.fn (Fn.func (47 : Nat)) [SVal.ptr (3 : Nat) (0 : Nat)] []))
 (.eq (T.ret (SVal.sli (5 : Nat) (NN.c (0 : Nat)) (1 : Nat) (NN.v x.10.length) none) = T.ret (SVal.sli (5 : Nat) (NN.c (0 : Nat)) (1 : Nat) (NN.v x.10.length) none))
 (.eq (T.ret (SVal.int IntKind.i64 x.7) = T.ret (SVal.int IntKind.i64 x.7))

 (.ret (.sb ((↑x.10.length : Int) == x.7), [.ro encLook [PUnit.unit], .own [.a (encInt IntKind.u32) n l] 40, .own [.c (.sli 1 (.c 0) 1 (.v n) (some (.v n))), .c (.int .i64 (c + (1 : Int)))] 80, .own [.c (.int .i64 x.1), .c (.int .i64 x.2), .c (.int .i64 x.3), .c (SVal.fn (Fn.func 52) [.ptr 3 0] []), .c (.int .u32 x.4), .c (.int .u32 x.5), .c (.int .i64 (x.6 + (1 : Int))), .c (.int .i64 x.7), .c (.int .i64 (imin (imax (l.getD (x.1 + (2 : Int) + x.4 % x.2 * ((1 : Int) + (x.3 + (3 : Int)) / (4 : Int)) + x.6).toNat (0 : Int)) (1 : Int)) (IntKind.u32.wrap x.3))), .c (.sli 4 (.c 0) 1 (.v x.9.length) none), .c (.sli 5 (.c 0) 1 (.v x.10.length) none)] 78, .vec (encInt IntKind.u8) x.9 5, .vec encStr x.10 9, .own [.c (.lit .u32 (4294967295 : Int)), .c (.lit .u32 (0 : Int)), .c (.lit .u32 (0 : Int))] 83])))))
 (.eq (T.ret (SVal.fn (Fn.func (47 : Nat)) [SVal.ptr (3 : Nat) (0 : Nat)] []) = T.ret (SVal.fn (Fn.func (47 : Nat)) [SVal.ptr (3 : Nat) (0 : Nat)] []))
 (.eq (T.ret (SVal.sli (5 : Nat) (NN.c (0 : Nat)) (1 : Nat) (NN.v x.10.length) none) = T.ret (SVal.sli (5 : Nat) (NN.c (0 : Nat)) (1 : Nat) (NN.v x.10.length) none))
 (.eq (T.ret (SVal.int IntKind.i64 x.7) = T.ret (SVal.int IntKind.i64 x.7))

 (.ret (.sb ((↑x.10.length : Int) == x.7), [.ro encLook [PUnit.unit], .own [.a (encInt IntKind.u32) n l] 40, .own [.c (.sli 1 (.c 0) 1 (.v n) (some (.v n))), .c (.int .i64 (c + (1 : Int)))] 80, .own [.c (.int .i64 x.1), .c (.int .i64 x.2), .c (.int .i64 x.3), .c (SVal.fn (Fn.func 47) [.ptr 3 0] []), .c (.int .u32 x.4), .c (.int .u32 x.5), .c (.int .i64 (x.6 + (1 : Int))), .c (.int .i64 x.7), .c (.int .i64 (imin (imax (l.getD (x.1 + (2 : Int) + x.4 % x.2 * ((1 : Int) + (x.3 + (3 : Int)) / (4 : Int)) + x.6).toNat (0 : Int)) (1 : Int)) (IntKind.u32.wrap x.3))), .c (.sli 4 (.c 0) 1 (.v x.9.length) none), .c (.sli 5 (.c 0) 1 (.v x.10.length) none)] 78, .vec (encInt IntKind.u8) x.9 5, .vec encStr x.10 9, .own [.c (.lit .u32 (4294967295 : Int)), .c (.lit .u32 (0 : Int)), .c (.lit .u32 (0 : Int))] 83])))))))))))))

 (.need (true)

 (.need (true)

 (.need (true)

 (.need (true)

 (.need (decide (x.9.length = x.9.length))

 (.need (roomy (x.9.length + 4) 1)

 (.need (inR .i64 (x.6 + (1 : Int)))

 (.need (inR .i64 (x.8 + (3 : Int)))

 (.need (true)
 (.eq (T.ret (SVal.int IntKind.i64 (x.6 + (1 : Int))) = T.ret (SVal.int IntKind.i64 (x.6 + (1 : Int))))
 (.eq (T.ret (SVal.int IntKind.i64 (x.6 + (1 : Int))) = T.ret (SVal.int IntKind.i64 (x.6 + (1 : Int))))
 (.eq (T.ret (SVal.int IntKind.i64 x.8) = T.ret (SVal.int IntKind.i64 x.8))

 (.br (decide (IntKind.i64.wrap ((x.8 + (3 : Int)).tdiv (4 : Int)) < x.6 + (1 : Int)))
 (.eq (T.ret (SVal.fn (Fn.func (47 : Nat)) [SVal.ptr (3 : Nat) (0 : Nat)] []) = T.ret (SVal.fn (Fn.func (47 : Nat)) [SVal.ptr (3 : Nat) (0 : Nat)] []))
 (.eq (T.ret (SVal.sli (5 : Nat) (NN.c (0 : Nat)) (1 : Nat) (NN.v x.10.length) none) = T.ret (SVal.sli (5 : Nat) (NN.c (0 : Nat)) (1 : Nat) (NN.v x.10.length) none))
 (.eq (T.ret (SVal.int IntKind.i64 x.7) = T.ret (SVal.int IntKind.i64 x.7))

 (.ret (.sb ((↑x.10.length : Int) == x.7), [.ro encLook [PUnit.unit], .own [.a (encInt IntKind.u32) n l] 40, .own [.c (.sli 1 (.c 0) 1 (.v n) (some (.v n))), .c (.int .i64 (c + (1 : Int)))] 80, .own [.c (.int .i64 x.1), .c (.int .i64 x.2), .c (.int .i64 x.3), .c (SVal.fn (Fn.func 52) [.ptr 3 0] []), .c (.int .u32 x.4), .c (.int .u32 x.5), .c (.int .i64 (x.6 + (1 : Int))), .c (.int .i64 x.7), .c (.int .i64 x.8), .c (.sli 8 (.c 0) 1 (.v (x.9.length + 4)) none), .c (.sli 5 (.c 0) 1 (.v x.10.length) none)] 78, .gone, .vec encStr x.10 9, .own [.c (.lit .u32 (4294967295 : Int)), .c (.lit .u32 (0 : Int)), .c (.lit .u32 (0 : Int))] 83, .own [.c (.int .u8 (IntKind.u8.wrap ((l.getD (x.1 + (2 : Int) + x.4 % x.2 * ((1 : Int) + (x.3 + (3 : Int)) / (4 : Int)) + x.6).toNat (0 : Int)).fdiv (16777216 : Int)))), .c (.int .u8 (IntKind.u8.wrap ((l.getD (x.1 + (2 : Int) + x.4 % x.2 * ((1 : Int) + (x.3 + (3 : Int)) / (4 : Int)) + x.6).toNat (0 : Int)).fdiv (65536 : Int)))), .c (.int .u8 (IntKind.u8.wrap ((l.getD (x.1 + (2 : Int) + x.4 % x.2 * ((1 : Int) + (x.3 + (3 : Int)) / (4 : Int)) + x.6).toNat (0 : Int)).fdiv (256 : Int)))), .c (.int .u8 (IntKind.u8.wrap (l.getD (x.1 + (2 : Int) + x.4 % x.2 * ((1 : Int) + (x.3 + (3 : Int)) / (4 : Int)) + x.6).toNat (0 : Int))))] 5, .vec (encInt IntKind.u8) (x.9 ++ [IntKind.u8.wrap ((l.getD (x.1 + (2 : Int) + x.4 % x.2 * ((1 : Int) + (x.3 + (3 : Int)) / (4 : Int)) + x.6).toNat (0 : Int)).fdiv (16777216 : Int)), IntKind.u8.wrap ((l.getD (x.1 + (2 : Int) + x.4 % x.2 * ((1 : Int) + (x.3 + (3 : Int)) / (4 : Int)) + x.6).toNat (0 : Int)).fdiv (65536 : Int)), IntKind.u8.wrap ((l.getD (x.1 + (2 : Int) + x.4 % x.2 * ((1 : Int) + (x.3 + (3 : Int)) / (4 : Int)) + x.6).toNat (0 : Int)).fdiv (256 : Int)), IntKind.u8.wrap (l.getD (x.1 + (2 : Int) + x.4 % x.2 * ((1 : Int) + (x.3 + (3 : Int)) / (4 : Int)) + x.6).toNat (0 : Int))]) 5])))))
 (.eq (T.ret (SVal.fn (Fn.func (47 : Nat)) [SVal.ptr (3 : Nat) (0 : Nat)] []) = T.ret (SVal.fn (Fn.func (47 : Nat)) [SVal.ptr (3 : Nat) (0 : Nat)] []))
 (.eq (T.ret (SVal.sli (5 : Nat) (NN.c (0 : Nat)) (1 : Nat) (NN.v x.10.length) none) = T.ret (SVal.sli (5 : Nat) (NN.c (0 : Nat)) (1 : Nat) (NN.v x.10.length) none))
 (.eq (T.ret (SVal.int IntKind.i64 x.7) = T.ret (SVal.int IntKind.i64 x.7))

 (.ret (.sb ((↑x.10.length : Int) == x.7), [.ro encLook [PUnit.unit], .own [.a (encInt IntKind.u32) n l] 40, .own [.c (.sli 1 (.c 0) 1 (.v n) (some (.v n))), .c (.int .i64 (c + (1 : Int)))] 80, .own [.c (.int .i64 x.1), .c (.int .i64 x.2), .c (.int .i64 x.3), .c (SVal.fn (Fn.func 47) [.ptr 3 0] []), .c (.int .u32 x.4), .c (.int .u32 x.5), .c (.int .i64 (x.6 + (1 : Int))), .c (.int .i64 x.7), .c (.int .i64 x.8), .c (.sli 8 (.c 0) 1 (.v (x.9.length + 4)) none), .c (.sli 5 (.c 0) 1 (.v x.10.length) none)] 78, .gone, .vec encStr x.10 9, .own [.c (.lit .u32 (4294967295 : Int)), .c (.lit .u32 (0 : Int)), .c (.lit .u32 (0 : Int))] 83, .own [.c (.int .u8 (IntKind.u8.wrap ((l.getD (x.1 + (2 : Int) + x.4 % x.2 * ((1 : Int) + (x.3 + (3 : Int)) / (4 : Int)) + x.6).toNat (0 : Int)).fdiv (16777216 : Int)))), .c (.int .u8 (IntKind.u8.wrap ((l.getD (x.1 + (2 : Int) + x.4 % x.2 * ((1 : Int) + (x.3 + (3 : Int)) / (4 : Int)) + x.6).toNat (0 : Int)).fdiv (65536 : Int)))), .c (.int .u8 (IntKind.u8.wrap ((l.getD (x.1 + (2 : Int) + x.4 % x.2 * ((1 : Int) + (x.3 + (3 : Int)) / (4 : Int)) + x.6).toNat (0 : Int)).fdiv (256 : Int)))), .c (.int .u8 (IntKind.u8.wrap (l.getD (x.1 + (2 : Int) + x.4 % x.2 * ((1 : Int) + (x.3 + (3 : Int)) / (4 : Int)) + x.6).toNat (0 : Int))))] 5, .vec (encInt IntKind.u8) (x.9 ++ [IntKind.u8.wrap ((l.getD (x.1 + (2 : Int) + x.4 % x.2 * ((1 : Int) + (x.3 + (3 : Int)) / (4 : Int)) + x.6).toNat (0 : Int)).fdiv (16777216 : Int)), IntKind.u8.wrap ((l.getD (x.1 + (2 : Int) + x.4 % x.2 * ((1 : Int) + (x.3 + (3 : Int)) / (4 : Int)) + x.6).toNat (0 : Int)).fdiv (65536 : Int)), IntKind.u8.wrap ((l.getD (x.1 + (2 : Int) + x.4 % x.2 * ((1 : Int) + (x.3 + (3 : Int)) / (4 : Int)) + x.6).toNat (0 : Int)).fdiv (256 : Int)), IntKind.u8.wrap (l.getD (x.1 + (2 : Int) + x.4 % x.2 * ((1 : Int) + (x.3 + (3 : Int)) / (4 : Int)) + x.6).toNat (0 : Int))]) 5]))))))))))))))))))))))))))))))))))))) := by kernel_rfl
set_option maxRecDepth 100000 in
theorem re_b {n : Nat} {l : List Int} {c : Int} {x : Rcv} : callF cfgK 100 20 agS (sR 52 n l c x) =
 

 (.br ((↑x.10.length : Int) == x.7)

 (.ret (.bl true, [.ro encLook [PUnit.unit], .own [.a (encInt IntKind.u32) n l] 40, .own [.c (.sli 1 (.c 0) 1 (.v n) (some (.v n))), .c (.int .i64 c)] 80, .own [.c (.int .i64 x.1), .c (.int .i64 x.2), .c (.int .i64 x.3), .c (SVal.fn (Fn.func 52) [.ptr 3 0] []), .c (.int .u32 x.4), .c (.int .u32 x.5), .c (.int .i64 x.6), .c (.int .i64 x.7), .c (.int .i64 x.8), .c (.sli 4 (.c 0) 1 (.v x.9.length) none), .c (.sli 5 (.c 0) 1 (.v x.10.length) none)] 78, .vec (encInt IntKind.u8) x.9 5, .vec encStr x.10 9]))

 (.need (inR .i64 (x.1 + (0 : Int)))

 (.br (decide (x.1 + (0 : Int) < (0 : Int)))
 (.eq (T.ret (SVal.int IntKind.i64 x.1) = T.ret (SVal.int IntKind.i64 x.1))
 (.eq (T.ret (SVal.int IntKind.u32 x.4) = T.ret (SVal.int IntKind.u32 x.4))
 (.eq (T.ret (SVal.fn (Fn.func (52 : Nat)) [SVal.ptr (3 : Nat) (0 : Nat)] []) = T.ret (SVal.fn (Fn.func (52 : Nat)) [SVal.ptr (3 : Nat) (0 : Nat)] []))

 (.ret (.bl true, [.ro encLook [PUnit.unit], .own [.a (encInt IntKind.u32) n l] 40, .own [.c (.sli 1 (.c 0) 1 (.v n) (some (.v n))), .c (.int .i64 c)] 80, .own [.c (.int .i64 x.1), .c (.int .i64 x.2), .c (.int .i64 x.3), .c (SVal.fn (Fn.func 52) [.ptr 3 0] []), .c (.int .u32 x.4), .c (.int .u32 x.5), .c (.int .i64 x.6), .c (.int .i64 x.7), .c (.int .i64 x.8), .c (.sli 4 (.c 0) 1 (.v x.9.length) none), .c (.sli 5 (.c 0) 1 (.v x.10.length) none)] 78, .vec (encInt IntKind.u8) x.9 5, .vec encStr x.10 9, .own [.c (.lit .u32 (0 : Int)), .c (.int .u32 (IntKind.u32.wrap (x.4 + (1 : Int)))), .c (.lit .u32 (0 : Int))] 83])))))

 (.br (decide ((↑n : Int) ≤ x.1 + (0 : Int)))
 (.eq (T.ret (SVal.int IntKind.i64 x.1) = T.ret (SVal.int IntKind.i64 x.1))
 (.eq (T.ret (SVal.int IntKind.u32 x.4) = T.ret (SVal.int IntKind.u32 x.4))
 (.eq (T.ret (SVal.fn (Fn.func (52 : Nat)) [SVal.ptr (3 : Nat) (0 : Nat)] []) = T.ret (SVal.fn (Fn.func (52 : Nat)) [SVal.ptr (3 : Nat) (0 : Nat)] []))

 (.ret (.bl true, [.ro encLook [PUnit.unit], .own [.a (encInt IntKind.u32) n l] 40, .own [.c (.sli 1 (.c 0) 1 (.v n) (some (.v n))), .c (.int .i64 c)] 80, .own [.c (.int .i64 x.1), .c (.int .i64 x.2), .c (.int .i64 x.3), .c (SVal.fn (Fn.func 52) [.ptr 3 0] []), .c (.int .u32 x.4), .c (.int .u32 x.5), .c (.int .i64 x.6), .c (.int .i64 x.7), .c (.int .i64 x.8), .c (.sli 4 (.c 0) 1 (.v x.9.length) none), .c (.sli 5 (.c 0) 1 (.v x.10.length) none)] 78, .vec (encInt IntKind.u8) x.9 5, .vec encStr x.10 9, .own [.c (.lit .u32 (0 : Int)), .c (.int .u32 (IntKind.u32.wrap (x.4 + (1 : Int)))), .c (.lit .u32 (0 : Int))] 83])))))

 (.need (inR .i64 (c + (1 : Int)))

 (.need (decide ((0 : Int) ≤ x.1 + (0 : Int)) && decide ((x.1 + (0 : Int)).toNat < n))

 (.need (decide ((x.1 + (0 : Int)).toNat < n))

 (.need (true)

 (.need (true)

 (.need (true)

 (.need (decide ((0 : Int) ≤ x.1 + (0 : Int)) && decide ((x.1 + (0 : Int)).toNat < n))

 (.need (decide ((x.1 + (0 : Int)).toNat < n))
 (.eq (T.ret (SVal.sli (1 : Nat) (NN.c (0 : Nat)) (1 : Nat) (NN.v n) (some (NN.v n))) = T.ret (SVal.sli (1 : Nat) (NN.c (0 : Nat)) (1 : Nat) (NN.v n) (some (NN.v n))))
 (.eq (T.ret (SVal.int IntKind.u32 (IntKind.u32.wrap (x.4 + (1 : Int)))) = T.ret (SVal.int IntKind.u32 (IntKind.u32.wrap (x.4 + (1 : Int)))))

 (.need (decide ((0 : Int) ≤ x.1 + (0 : Int)) && decide ((x.1 + (0 : Int)).toNat < n))

 (.need (decide ((x.1 + (0 : Int)).toNat < n))

 (.need (decide ((0 : Int) ≤ x.1 + (0 : Int)) && decide ((x.1 + (0 : Int)).toNat < n))

 (.need (decide ((x.1 + (0 : Int)).toNat < n))
 (.eq (T.ret (SVal.sli (1 : Nat) (NN.c (0 : Nat)) (1 : Nat) (NN.v n) (some (NN.v n))) = T.ret (SVal.sli (1 : Nat) (NN.c (0 : Nat)) (1 : Nat) (NN.v n) (some (NN.v n))))
 (.eq (T.need (decide ((x.1 + (0 : Int)).toNat < n)) (T.ret ([SVal.int IntKind.u32 ((l.set (x.1 + (0 : Int)).toNat (bitop BinOp.or IntKind.u32 (bitop BinOp.and IntKind.u32 (l.getD (x.1 + (0 : Int)).toNat (0 : Int)) (0 : Int)) (IntKind.u32.wrap (x.4 + (1 : Int))))).getD (x.1 + (0 : Int)).toNat (0 : Int))].getD (0 : Nat) SVal.bad)) = T.need (decide ((x.1 + (0 : Int)).toNat < n)) (T.ret ([SVal.int IntKind.u32 ((l.set (x.1 + (0 : Int)).toNat (bitop BinOp.or IntKind.u32 (bitop BinOp.and IntKind.u32 (l.getD (x.1 + (0 : Int)).toNat (0 : Int)) (0 : Int)) (IntKind.u32.wrap (x.4 + (1 : Int))))).getD (x.1 + (0 : Int)).toNat (0 : Int))].getD (0 : Nat) SVal.bad)))
 (.eq (T.ret (SVal.int IntKind.i64 x.1) = T.ret (SVal.int IntKind.i64 x.1))
 (.eq (T.ret (SVal.int IntKind.u32 x.4) = T.ret (SVal.int IntKind.u32 x.4))

 (.need (decide ((0 : Int) ≤ x.8) && decide (x.8.toNat ≤ x.9.length))

 (.need (decide (0 ≤ x.8.toNat))

 (.need (decide (0 + x.8.toNat ≤ x.9.length))

 (.need ((List.flatMap (encInt IntKind.u8).enc (List.take x.8.toNat (List.drop 0 x.9))).all Sx.isU8)

 (.need (true)

 (.need (decide (x.10.length = x.10.length))

 (.need (roomy (x.10.length + 1) 16)
 (.eq (T.ret (SVal.sli (4 : Nat) (NN.c (0 : Nat)) (1 : Nat) (NN.v x.9.length) none) = T.ret (SVal.sli (4 : Nat) (NN.c (0 : Nat)) (1 : Nat) (NN.v x.9.length) none))
 (.eq (T.ret (SVal.int IntKind.i64 x.8) = T.ret (SVal.int IntKind.i64 x.8))
 (.eq (T.ret (SVal.fn (Fn.func (52 : Nat)) [SVal.ptr (3 : Nat) (0 : Nat)] []) = T.ret (SVal.fn (Fn.func (52 : Nat)) [SVal.ptr (3 : Nat) (0 : Nat)] []))
 (.eq (T.ret (SVal.sli (8 : Nat) (NN.c (0 : Nat)) (1 : Nat) (NN.v (x.10.length + (1 : Nat))) none) = T.ret (SVal.sli (8 : Nat) (NN.c (0 : Nat)) (1 : Nat) (NN.v (x.10.length + (1 : Nat))) none))
 (.eq (T.ret (SVal.int IntKind.i64 x.7) = T.ret (SVal.int IntKind.i64 x.7))

 (.ret (.sb ((↑(x.10.length + 1) : Int) == x.7), [.ro encLook [PUnit.unit], .own [.a (encInt IntKind.u32) n ((l.set (x.1 + (0 : Int)).toNat (bitop BinOp.or IntKind.u32 (bitop BinOp.and IntKind.u32 (l.getD (x.1 + (0 : Int)).toNat (0 : Int)) (0 : Int)) (IntKind.u32.wrap (x.4 + (1 : Int))))).set (x.1 + (0 : Int)).toNat (IntKind.u32.wrap ((l.set (x.1 + (0 : Int)).toNat (bitop BinOp.or IntKind.u32 (bitop BinOp.and IntKind.u32 (l.getD (x.1 + (0 : Int)).toNat (0 : Int)) (0 : Int)) (IntKind.u32.wrap (x.4 + (1 : Int))))).getD (x.1 + (0 : Int)).toNat (0 : Int) + (0 : Int))))] 40, .own [.c (.sli 1 (.c 0) 1 (.v n) (some (.v n))), .c (.int .i64 (c + (1 : Int)))] 80, .own [.c (.int .i64 x.1), .c (.int .i64 x.2), .c (.int .i64 x.3), .c (SVal.fn (Fn.func 31) [.ptr 3 0] []), .c (.int .u32 x.4), .c (.int .u32 x.5), .c (.int .i64 x.6), .c (.int .i64 x.7), .c (.int .i64 x.8), .c (.sli 4 (.c 0) 1 (.v x.9.length) none), .c (.sli 8 (.c 0) 1 (.v (x.10.length + 1)) none)] 78, .vec (encInt IntKind.u8) x.9 5, .gone, .own [.c (.lit .u32 (0 : Int)), .c (.int .u32 (IntKind.u32.wrap (x.4 + (1 : Int)))), .c (.lit .u32 (0 : Int))] 83, .own [.c (.str (strI (List.take x.8.toNat (List.drop 0 x.9))))] 9, .vec encStr (x.10 ++ [(strI (List.take x.8.toNat (List.drop 0 x.9)))]) 9])))))))))))))))))))))))))))))))))))) := by kernel_rfl
end Go.Proofs.YtplbncncnjiahaaDoor

/- Layer 12: a sender's step. -/
namespace Go.Proofs.YtplbncncnjiahaaDoor
open Go Go.Proofs.YtplbncncnjiahaaDoor.Sx
set_option linter.unusedVariables false
theorem and_zero (x : Int) : bitop .and .u32 x 0 = 0 := by
  have h1 : low .u32 0 = 0 := by decide
  simp only [bitop, h1, Nat.and_zero, w32_mod]
  rfl
theorem zero_or (x : Int) : bitop .or .u32 0 x = x % 4294967296 := by
  have h1 : low .u32 0 = 0 := by decide
  simp only [bitop, h1, Nat.zero_or, w32_mod, low_u32]
  omega
theorem raw_set (x v : Int) : IntKind.u32.wrap (bitop .or .u32 (bitop .and .u32 x 0) v + 0) = v % 4294967296 := by
  simp only [and_zero, zero_or, w32_mod]; omega
theorem all_brn.{u} {α : Type u} {Q : α → Prop} {b : Bool} {p : Prop} {t f : T α} (hb : b = true ↔ p) (hp : ¬ p) (h : All Q f) : All Q (T.br b t f) := all_brp hb (fun h => absurd h hp) (fun _ => h)
def U32s (l : List Int) : Prop := ∀ x ∈ l, 0 ≤ x ∧ x < 4294967296
theorem u32s_getD {l : List Int} (h : U32s l) (i : Nat) : 0 ≤ l.getD i 0 ∧ l.getD i 0 < 4294967296 := by
  rw [List.getD_eq_getElem?_getD]
  cases hi : l[i]? with
  | none => simp
  | some x => simpa using h x (List.mem_of_getElem? hi)
theorem u32s_set {l : List Int} (h : U32s l) (i : Nat) {x : Int} (hx : 0 ≤ x ∧ x < 4294967296) : U32s (l.set i x) := by
  intro y hy
  rcases List.mem_or_eq_of_mem_set hy with h1 | rfl
  · exact h y h1
  · exact hx
/-- a ring in a memory -/
structure ROn (k : Nat) (l : List Int) (c a n z : Int) : Prop where
  at0 : 0 ≤ a
  room : a + 2 + n * (1 + (z + 3) / 4) ≤ k
  n1 : k ≤ 4096
  ll : l.length = k
  ring : RingOk n z
  us : U32s l
  c : 0 ≤ c ∧ c ≤ 1000000
theorem plc_in {k : Nat} {l : List Int} {c a n z i d : Int} (h : ROn k l c a n z) (hd : 0 ≤ d ∧ d ≤ (z + 3) / 4) : 0 ≤ plc a n z i + d ∧ plc a n z i + d < k ∧ a + 2 ≤ plc a n z i + d := by
  have h0 := h.at0
  have hr := h.room
  have hn := h.ring.n
  have hz := h.ring.z
  have h4 := Int.emod_nonneg i (show n ≠ 0 by omega)
  have h5 := Int.emod_lt_of_pos i (show 0 < n by omega)
  have h7 : 0 ≤ i % n * (1 + (z + 3) / 4) := Int.mul_nonneg h4 (by omega)
  have h8 : i % n * (1 + (z + 3) / 4) ≤ (n - 1) * (1 + (z + 3) / 4) := Int.mul_le_mul_of_nonneg_right (by omega) (by omega)
  have h9 : (n - 1) * (1 + (z + 3) / 4) = n * (1 + (z + 3) / 4) - (1 + (z + 3) / 4) := by rw [Int.sub_mul]; omega
  unfold plc
  omega
structure SOk (k : Nat) (l : List Int) (c : Int) (x : Snd) (ms : List ByteArray) : Prop where
  on : ROn k l c x.at' x.n x.z
  tl : 0 ≤ x.tail ∧ x.tail < 4294967296
  did : x.p = 2 → 0 ≤ x.did ∧ x.did ≤ (x.z + 3) / 4
  ml : ms.length ≤ 1000
  mz : ∀ s ∈ ms, (s.size : Int) ≤ x.z
  sl : x.sent.length ≤ ms.length
/-- what a sender's step does to it, and to the words -/
def sNext (x : Snd) (ms : List ByteArray) (l : List Int) : Snd × List Int :=
  if x.sent.length = ms.length then (x, l) else
  match x.p with
  | 0 => (⟨x.at', x.n, x.z, l.getD x.at'.toNat 0, x.tail, x.did, x.sent, 1⟩, l)
  | 1 => if x.n ≤ (l.getD (x.at' + 1).toNat 0 - x.head) % 4294967296 then (⟨x.at', x.n, x.z, x.head, l.getD (x.at' + 1).toNat 0, 0, x.sent ++ [false], 0⟩, l) else (⟨x.at', x.n, x.z, x.head, l.getD (x.at' + 1).toNat 0, 0, x.sent, 2⟩, l)
  | 2 => (⟨x.at', x.n, x.z, x.head, x.tail, x.did + 1, x.sent, if (((ms.getD x.sent.length nilB).size : Int) + 3) / 4 < x.did + 1 then 3 else 2⟩, l.set (plc x.at' x.n x.z x.tail + x.did).toNat (if 0 < x.did then packI (ms.getD x.sent.length nilB) (x.did - 1).toNat else ((ms.getD x.sent.length nilB).size : Int)))
  | _ => (⟨x.at', x.n, x.z, x.head, x.tail, x.did, x.sent ++ [true], 0⟩, l.set (x.at' + 1).toNat ((x.tail + 1) % 4294967296))
def sStill (x : Snd) (ms : List ByteArray) : Bool := x.sent.length == ms.length
abbrev sC (x : Snd) (ms : List ByteArray) (c : Int) : Int := if x.sent.length = ms.length then c else c + 1
abbrev SStep (k : Nat) (l : List Int) (c : Int) (x : Snd) (ms : List ByteArray) : Prop :=
  ∀ (env : Env) (w : World) (vs : List Value), GlOk cfgK.gl env → Rep env (sSn (sfn x.p) k l c x ms) w → DenL env agS vs → Calls cfgK.P 19 ⟨vs⟩ w (Ends1 env (sSn (sfn x.p) k l c x ms) w (.sb (sStill (sNext x ms l).1 ms)) (sE k (sNext x ms l).2 (sC x ms c) (sNext x ms l).1 ms))
set_option maxHeartbeats 1000000 in
theorem s_begin {k : Nat} {l : List Int} {c : Int} {x : Snd} {ms : List ByteArray} (h : SOk k l c x ms) (hp : x.p = 0) : SStep k l c x ms := by
  obtain ⟨at', n, z, head, tail, did, sent, p⟩ := x
  obtain ⟨⟨h1, h2, h3, h4, h5, h6, h7⟩, h8, h9, h10, h11, h12⟩ := h
  simp only at h1 h2 h5 h8 h9 h11 h12 hp
  subst hp
  have hz := h5.z
  have hn := h5.n
  have hm : 0 ≤ n * (1 + (z + 3) / 4) := Int.mul_nonneg (by omega) (by omega)
  refine ends_turn (c := cfgK) cfgK_ok sb_b (by kernel_rfl) ?_
  refine all_brp (by simp only [beq_iff_eq]; exact Iff.rfl) (fun hd => ?_) (fun hd => ?_)
  · have hd' : sent.length = ms.length := by omega
    have hb2 : (sent.length == ms.length) = true := beq_iff_eq.2 hd'
    simp only [sNext, sStill, sC, if_pos hd', hb2]
    exact all_ret (turn_norm [5] [0, 1, 2, 3, 4, 6, 5] rfl rfl rfl rfl)
  · have hd' : ¬ sent.length = ms.length := by omega
    have hb : ((sent.length : Int) == (ms.length : Int)) = false := beq_eq_false_iff_ne.2 hd
    have hb2 : (sent.length == ms.length) = false := beq_eq_false_iff_ne.2 hd'
    simp only [sNext, sStill, sC, if_neg hd', hb, hb2]
    repeat' (first
      | refine all_needq (by simp only [inR_i64]; exact Iff.rfl) (by omega) ?_
      | refine all_needq (by simp only [decide_eq_true_eq, Bool.and_eq_true]; exact Iff.rfl) (by omega) ?_
      | refine all_needq (by simp only [decide_eq_true_eq]; exact Iff.rfl) (by omega) ?_
      | refine all_need rfl (fun _ => ?_)
      | refine all_eq trivial ?_
      | refine all_eq rfl ?_
      | refine all_brn (by simp only [decide_eq_true_eq]; exact Iff.rfl) (by omega) ?_
      | fail)
    simp only [Int.add_zero]
    exact all_ret (turn_norm [5] [0, 1, 2, 3, 4, 7, 5] rfl rfl rfl rfl)
set_option maxHeartbeats 1000000 in
theorem s_look {k : Nat} {l : List Int} {c : Int} {x : Snd} {ms : List ByteArray} (h : SOk k l c x ms) (hp : x.p = 1) : SStep k l c x ms := by
  obtain ⟨at', n, z, head, tail, did, sent, p⟩ := x
  obtain ⟨⟨h1, h2, h3, h4, h5, h6, h7⟩, h8, h9, h10, h11, h12⟩ := h
  simp only at h1 h2 h5 h8 h9 h11 h12 hp
  subst hp
  have hz := h5.z
  have hn := h5.n
  have hm : 1 + (z + 3) / 4 ≤ n * (1 + (z + 3) / 4) := by
    have := Int.mul_le_mul_of_nonneg_right hn.1 (show 0 ≤ 1 + (z + 3) / 4 by omega)
    omega
  refine ends_turn (c := cfgK) cfgK_ok sl_b (by kernel_rfl) ?_
  refine all_brp (by simp only [beq_iff_eq]; exact Iff.rfl) (fun hd => ?_) (fun hd => ?_)
  · have hd' : sent.length = ms.length := by omega
    have hb2 : (sent.length == ms.length) = true := beq_iff_eq.2 hd'
    simp only [sNext, sStill, sC, if_pos hd', hb2]
    exact all_ret (turn_norm [5] [0, 1, 2, 3, 4, 6, 5] rfl rfl rfl rfl)
  · have hd' : ¬ sent.length = ms.length := by omega
    have hb : ((sent.length : Int) == (ms.length : Int)) = false := beq_eq_false_iff_ne.2 hd
    have hb2 : (sent.length == ms.length) = false := beq_eq_false_iff_ne.2 hd'
    have e1 : IntKind.u32.wrap n = n := wrap_inR (by rw [inR_u32]; omega)
    rw [e1, w32_mod]
    simp only [sNext, sC, if_neg hd', hb]
    repeat' (first
      | refine all_needq (by simp only [inR_i64]; exact Iff.rfl) (by omega) ?_
      | refine all_needq (by simp only [decide_eq_true_eq, Bool.and_eq_true]; exact Iff.rfl) (by omega) ?_
      | refine all_needq (by simp only [decide_eq_true_eq]; exact Iff.rfl) (by omega) ?_
      | refine all_need rfl (fun _ => ?_)
      | refine all_eq trivial ?_
      | refine all_eq rfl ?_
      | refine all_brn (by simp only [decide_eq_true_eq]; exact Iff.rfl) (by omega) ?_
      | fail)
    refine all_brp (by simp only [decide_eq_true_eq]; exact Iff.rfl) (fun hf => ?_) (fun hf => ?_)
    · have hb3 : ((sent ++ [false]).length == ms.length) = ((((sent.length + 1 : Nat)) : Int) == (ms.length : Int)) := by
        rw [List.length_append, List.length_singleton, Bool.eq_iff_iff]
        simp only [beq_iff_eq]; omega
      simp only [if_pos hf, sStill, hb3]
      repeat' (first
        | refine all_needq (by simp only [roomy_iff]; exact Iff.rfl) (by omega) ?_
        | refine all_needq (by simp only [decide_eq_true_eq]; exact Iff.rfl) (by omega) ?_
        | refine all_need rfl (fun _ => ?_)
        | refine all_eq trivial ?_
        | refine all_eq rfl ?_)
      have hl : (sent ++ [false]).length = sent.length + 1 := by simp
      simp only [sE, hl]
      exact all_ret (turn_norm [] [0, 1, 2, 3, 4, 5, 8] rfl rfl rfl rfl)
    · simp only [if_neg hf, sStill, hb2]
      repeat' (first
        | refine all_need rfl (fun _ => ?_)
        | refine all_eq trivial ?_
        | refine all_eq rfl ?_)
      exact all_ret (turn_norm [5] [0, 1, 2, 3, 4, 7, 5] rfl rfl rfl rfl)
set_option maxHeartbeats 2000000 in
theorem s_tell {k : Nat} {l : List Int} {c : Int} {x : Snd} {ms : List ByteArray} (h : SOk k l c x ms) (hp : x.p = 3) : SStep k l c x ms := by
  obtain ⟨at', n, z, head, tail, did, sent, p⟩ := x
  obtain ⟨⟨h1, h2, h3, h4, h5, h6, h7⟩, h8, h9, h10, h11, h12⟩ := h
  simp only at h1 h2 h5 h8 h9 h11 h12 hp
  subst hp
  have hz := h5.z
  have hn := h5.n
  have hm : 1 + (z + 3) / 4 ≤ n * (1 + (z + 3) / 4) := by
    have := Int.mul_le_mul_of_nonneg_right hn.1 (show 0 ≤ 1 + (z + 3) / 4 by omega)
    omega
  refine ends_turn (c := cfgK) cfgK_ok st_b (by kernel_rfl) ?_
  refine all_brp (by simp only [beq_iff_eq]; exact Iff.rfl) (fun hd => ?_) (fun hd => ?_)
  · have hd' : sent.length = ms.length := by omega
    have hb2 : (sent.length == ms.length) = true := beq_iff_eq.2 hd'
    simp only [sNext, sStill, sC, if_pos hd', hb2]
    exact all_ret (turn_norm [5] [0, 1, 2, 3, 4, 6, 5] rfl rfl rfl rfl)
  · have hd' : ¬ sent.length = ms.length := by omega
    have hb : ((sent.length : Int) == (ms.length : Int)) = false := beq_eq_false_iff_ne.2 hd
    have hb3 : ((sent ++ [true]).length == ms.length) = ((((sent.length + 1 : Nat)) : Int) == (ms.length : Int)) := by
      rw [List.length_append, List.length_singleton, Bool.eq_iff_iff]
      simp only [beq_iff_eq]; omega
    have hi : (at' + 1).toNat < l.length := by omega
    simp only [sNext, sC, if_neg hd', sStill, hb3]
    simp only [Sx.getD_set_self hi, List.set_set, raw_set]
    have e3 : IntKind.u32.wrap (tail + 1) % 4294967296 = (tail + 1) % 4294967296 := by rw [w32_mod]; omega
    rw [e3]
    repeat' (first
      | refine all_needq (by simp only [inR_i64]; exact Iff.rfl) (by omega) ?_
      | refine all_needq (by simp only [decide_eq_true_eq, Bool.and_eq_true]; exact Iff.rfl) (by omega) ?_
      | refine all_needq (by simp only [decide_eq_true_eq]; exact Iff.rfl) (by omega) ?_
      | refine all_needq (by simp only [roomy_iff]; exact Iff.rfl) (by omega) ?_
      | refine all_need rfl (fun _ => ?_)
      | refine all_eq trivial ?_
      | refine all_eq rfl ?_
      | refine all_brn (by simp only [decide_eq_true_eq]; exact Iff.rfl) (by omega) ?_
      | fail)
    have hl : (sent ++ [true]).length = sent.length + 1 := by simp
    simp only [sE, hl]
    exact all_ret (turn_norm [] [0, 1, 2, 3, 4, 5, 8] rfl rfl rfl rfl)
end Go.Proofs.YtplbncncnjiahaaDoor

/- Layer 12: a sender's step, whole. -/
namespace Go.Proofs.YtplbncncnjiahaaDoor
open Go Go.Proofs.YtplbncncnjiahaaDoor.Sx
set_option linter.unusedVariables false
theorem size_in {ms : List ByteArray} {z : Int} (hz : 0 ≤ z) (h : ∀ s ∈ ms, (s.size : Int) ≤ z) (i : Nat) : ((ms.getD i nilB).size : Int) ≤ z := by
  rw [List.getD_eq_getElem?_getD]
  cases hi : ms[i]? with
  | none => exact (show ((0 : Nat) : Int) ≤ z by simpa using hz)
  | some x => simpa using h x (List.mem_of_getElem? hi)
set_option maxHeartbeats 4000000 in
theorem s_put {k : Nat} {l : List Int} {c : Int} {x : Snd} {ms : List ByteArray} (h : SOk k l c x ms) (hp : x.p = 2) : SStep k l c x ms := by
  obtain ⟨at', n, z, head, tail, did, sent, p⟩ := x
  obtain ⟨hon, h8, h9, h10, h11, h12⟩ := h
  simp only at hon h8 h9 h11 h12 hp
  subst hp
  have h9 := h9 rfl
  have hpl := plc_in (i := tail) hon h9
  obtain ⟨h1, h2, h3, h4, h5, h6, h7⟩ := hon
  have hz := h5.z
  have hn := h5.n
  have hm : 1 + (z + 3) / 4 ≤ n * (1 + (z + 3) / 4) := by
    have := Int.mul_le_mul_of_nonneg_right hn.1 (show 0 ≤ 1 + (z + 3) / 4 by omega)
    omega
  have hat : at' ≤ 4096 := by omega
  refine ends_turn (c := cfgK) cfgK_ok sp_b (by kernel_rfl) ?_
  refine all_brp (by simp only [beq_iff_eq]; exact Iff.rfl) (fun hd => ?_) (fun hd => ?_)
  · have hd' : sent.length = ms.length := by omega
    have hb2 : (sent.length == ms.length) = true := beq_iff_eq.2 hd'
    simp only [sNext, sStill, sC, if_pos hd', hb2]
    exact all_ret (turn_norm [5] [0, 1, 2, 3, 4, 6, 5] rfl rfl rfl rfl)
  · have hd' : ¬ sent.length = ms.length := by omega
    have hb : ((sent.length : Int) == (ms.length : Int)) = false := beq_eq_false_iff_ne.2 hd
    have hb2 : (sent.length == ms.length) = false := beq_eq_false_iff_ne.2 hd'
    have hs := size_in (z := z) (by omega) h11 sent.length
    have hpk := packI_le (ms.getD sent.length nilB) (did - 1).toNat
    simp only [sNext, sC, if_neg hd', sStill, hb2, hb, plc, Int.toNat_natCast] at hpl ⊢
    simp only [nilB] at hs hpk ⊢
    obtain ⟨s, hS⟩ : ∃ s, ms.getD sent.length { data := { toList := [] } } = s := ⟨_, rfl⟩
    obtain ⟨P, hP⟩ : ∃ P, at' + 2 + tail % n * (1 + (z + 3) / 4) + did = P := ⟨_, rfl⟩
    simp only [hS] at hs hpk ⊢
    simp only [hP] at hpl ⊢
    have hi : P.toNat < l.length := by omega
    have e4 : IntKind.i64.wrap (((s.size : Int) + 3).tdiv 4) = ((s.size : Int) + 3) / 4 := by
      rw [Int.tdiv_eq_ediv_of_nonneg (by omega), wrap_i64 (by omega)]
    simp only [Sx.getD_set_self hi, List.set_set, raw_set, e4]
    refine all_needq (by simp only [decide_eq_true_eq, Bool.and_eq_true]; exact Iff.rfl) (by omega) ?_
    refine all_needq (by simp only [decide_eq_true_eq]; exact Iff.rfl) (by omega) ?_
    refine all_brp (by simp only [decide_eq_true_eq]; exact Iff.rfl) (fun h0 => ?_) (fun h0 => ?_)
    · have e5 : packI s (did - 1).toNat % 4294967296 = packI s (did - 1).toNat := Int.emod_eq_of_lt hpk.1 hpk.2
      rw [if_pos h0]
      refine all_needq (by simp only [inR_i64]; exact Iff.rfl) (by omega) ?_
      refine all_eq ⟨trivial, by omega, by omega⟩ ?_
      refine all_eq ⟨trivial, h5, ⟨by omega, by omega⟩, h8⟩ ?_
      repeat' (first
        | refine all_needq (by simp only [inR_i64]; exact Iff.rfl) (by omega) ?_
        | refine all_needq (by simp only [decide_eq_true_eq, Bool.and_eq_true]; exact Iff.rfl) (by omega) ?_
        | refine all_needq (by simp only [decide_eq_true_eq]; exact Iff.rfl) (by omega) ?_
        | refine all_need rfl (fun _ => ?_)
        | refine all_eq trivial ?_
        | refine all_eq rfl ?_
        | refine all_brn (by simp only [decide_eq_true_eq]; exact Iff.rfl) (by omega) ?_
        | fail)
      simp only [packI, byteD] at e5 ⊢
      refine all_brp (by simp only [decide_eq_true_eq]; exact Iff.rfl) (fun h1 => ?_) (fun h1 => ?_)
      · simp only [if_pos h1, e5]
        repeat' (first
          | refine all_need rfl (fun _ => ?_)
          | refine all_eq trivial ?_
          | refine all_eq rfl ?_)
        exact all_ret (turn_norm [5] [0, 1, 2, 3, 4, 7, 5] rfl rfl rfl rfl)
      · simp only [if_neg h1, e5]
        repeat' (first
          | refine all_need rfl (fun _ => ?_)
          | refine all_eq trivial ?_
          | refine all_eq rfl ?_)
        exact all_ret (turn_norm [5] [0, 1, 2, 3, 4, 7, 5] rfl rfl rfl rfl)
    · have e5 : IntKind.u32.wrap (s.size : Int) % 4294967296 = (s.size : Int) := by rw [w32_mod]; omega
      rw [if_neg h0]
      refine all_eq ⟨trivial, h5, ⟨by omega, by omega⟩, h8⟩ ?_
      repeat' (first
        | refine all_needq (by simp only [inR_i64]; exact Iff.rfl) (by omega) ?_
        | refine all_needq (by simp only [decide_eq_true_eq, Bool.and_eq_true]; exact Iff.rfl) (by omega) ?_
        | refine all_needq (by simp only [decide_eq_true_eq]; exact Iff.rfl) (by omega) ?_
        | refine all_need rfl (fun _ => ?_)
        | refine all_eq trivial ?_
        | refine all_eq rfl ?_
        | refine all_brn (by simp only [decide_eq_true_eq]; exact Iff.rfl) (by omega) ?_
        | fail)
      rw [e5]
      refine all_brp (by simp only [decide_eq_true_eq]; exact Iff.rfl) (fun h1 => ?_) (fun h1 => ?_)
      · simp only [if_pos h1]
        repeat' (first
          | refine all_need rfl (fun _ => ?_)
          | refine all_eq trivial ?_
          | refine all_eq rfl ?_)
        exact all_ret (turn_norm [5] [0, 1, 2, 3, 4, 7, 5] rfl rfl rfl rfl)
      · simp only [if_neg h1]
        repeat' (first
          | refine all_need rfl (fun _ => ?_)
          | refine all_eq trivial ?_
          | refine all_eq rfl ?_)
        exact all_ret (turn_norm [5] [0, 1, 2, 3, 4, 7, 5] rfl rfl rfl rfl)
/-- a sender's step -/
theorem s_step {k : Nat} {l : List Int} {c : Int} {x : Snd} {ms : List ByteArray} (h : SOk k l c x ms) (hp : x.p ≤ 3) : SStep k l c x ms := by
  have hq : x.p = 0 ∨ x.p = 1 ∨ x.p = 2 ∨ x.p = 3 := by omega
  rcases hq with hq | hq | hq | hq
  · exact s_begin h hq
  · exact s_look h hq
  · exact s_put h hq
  · exact s_tell h hq
end Go.Proofs.YtplbncncnjiahaaDoor

/- Layer 12: a receiver's step. -/
namespace Go.Proofs.YtplbncncnjiahaaDoor
open Go Go.Proofs.YtplbncncnjiahaaDoor.Sx
set_option linter.unusedVariables false
structure ROk (k : Nat) (l : List Int) (c : Int) (x : Rcv) : Prop where
  on : ROn k l c x.at' x.n x.z
  hd : 0 ≤ x.head ∧ x.head < 4294967296
  did : x.p = 2 → 0 ≤ x.did ∧ x.did ≤ (x.z + 3) / 4
  t : 0 ≤ x.times ∧ x.times ≤ 1000
  gl : (x.got.length : Int) ≤ x.times
  ln : x.p = 2 → 0 < x.did → 1 ≤ x.ln ∧ x.ln ≤ x.z
  bl : x.b.length ≤ 1000
  p3 : x.p = 3 → 0 ≤ x.ln ∧ x.ln ≤ x.b.length
def bytesI (w : Int) : List Int := [IntKind.u8.wrap (w.fdiv 16777216), IntKind.u8.wrap (w.fdiv 65536), IntKind.u8.wrap (w.fdiv 256), IntKind.u8.wrap w]
/-- what a receiver's step does to it, and to the words -/
def rNext (x : Rcv) (l : List Int) : Rcv × List Int :=
  if (x.got.length : Int) = x.times then (x, l) else
  match x.p with
  | 0 => (⟨x.at', x.n, x.z, x.head, l.getD (x.at' + 1).toNat 0, x.did, x.times, x.ln, x.b, x.got, 1⟩, l)
  | 1 => if l.getD x.at'.toNat 0 = x.tail then (⟨x.at', x.n, x.z, l.getD x.at'.toNat 0, x.tail, 0, x.times, x.ln, [], x.got ++ [nilB], 0⟩, l) else (⟨x.at', x.n, x.z, l.getD x.at'.toNat 0, x.tail, 0, x.times, x.ln, [], x.got, 2⟩, l)
  | 2 => if x.did = 0 then (⟨x.at', x.n, x.z, x.head, x.tail, 1, x.times, imin (imax (l.getD (plc x.at' x.n x.z x.head + x.did).toNat 0) 1) x.z, x.b, x.got, if (imin (imax (l.getD (plc x.at' x.n x.z x.head + x.did).toNat 0) 1) x.z + 3) / 4 < 1 then 3 else 2⟩, l)
    else (⟨x.at', x.n, x.z, x.head, x.tail, x.did + 1, x.times, x.ln, x.b ++ bytesI (l.getD (plc x.at' x.n x.z x.head + x.did).toNat 0), x.got, if (x.ln + 3) / 4 < x.did + 1 then 3 else 2⟩, l)
  | _ => (⟨x.at', x.n, x.z, x.head, x.tail, x.did, x.times, x.ln, x.b, x.got ++ [strI (x.b.take x.ln.toNat)], 0⟩, l.set x.at'.toNat ((x.head + 1) % 4294967296))
def rStill (x : Rcv) : Bool := (x.got.length : Int) == x.times
abbrev rC (x : Rcv) (c : Int) : Int := if (x.got.length : Int) = x.times then c else c + 1
abbrev RStep (k : Nat) (l : List Int) (c : Int) (x : Rcv) : Prop :=
  ∀ (env : Env) (w : World) (vs : List Value), GlOk cfgK.gl env → Rep env (sR (rfn x.p) k l c x) w → DenL env agS vs → Calls cfgK.P 20 ⟨vs⟩ w (Ends1 env (sR (rfn x.p) k l c x) w (.sb (rStill (rNext x l).1)) (rE k (rNext x l).2 (rC x c) (rNext x l).1))
set_option maxHeartbeats 1000000 in
theorem r_begin {k : Nat} {l : List Int} {c : Int} {x : Rcv} (h : ROk k l c x) (hp : x.p = 0) : RStep k l c x := by
  obtain ⟨at', n, z, head, tail, did, times, ln, b, got, p⟩ := x
  obtain ⟨⟨h1, h2, h3, h4, h5, h6, h7⟩, h8, h9, h10, h11, h12, h13, h14⟩ := h
  simp only at h1 h2 h5 h8 h9 h10 h11 h12 hp
  subst hp
  have hz := h5.z
  have hn := h5.n
  have hm : 1 + (z + 3) / 4 ≤ n * (1 + (z + 3) / 4) := by
    have := Int.mul_le_mul_of_nonneg_right hn.1 (show 0 ≤ 1 + (z + 3) / 4 by omega)
    omega
  refine ends_turn (c := cfgK) cfgK_ok rb_b (by kernel_rfl) ?_
  refine all_brp (by simp only [beq_iff_eq]; exact Iff.rfl) (fun hd => ?_) (fun hd => ?_)
  · have hb2 : ((got.length : Int) == times) = true := beq_iff_eq.2 hd
    simp only [rNext, rStill, rC, if_pos hd, hb2]
    exact all_ret (turn_norm [4, 5] [0, 1, 2, 3, 6, 7, 4, 5] rfl rfl rfl rfl)
  · have hb2 : ((got.length : Int) == times) = false := beq_eq_false_iff_ne.2 hd
    simp only [rNext, rStill, rC, if_neg hd, hb2]
    repeat' (first
      | refine all_needq (by simp only [inR_i64]; exact Iff.rfl) (by omega) ?_
      | refine all_needq (by simp only [decide_eq_true_eq, Bool.and_eq_true]; exact Iff.rfl) (by omega) ?_
      | refine all_needq (by simp only [decide_eq_true_eq]; exact Iff.rfl) (by omega) ?_
      | refine all_need rfl (fun _ => ?_)
      | refine all_eq trivial ?_
      | refine all_eq rfl ?_
      | refine all_brn (by simp only [decide_eq_true_eq]; exact Iff.rfl) (by omega) ?_
      | fail)
    exact all_ret (turn_norm [4, 5] [0, 1, 2, 3, 7, 8, 4, 5] rfl rfl rfl rfl)
set_option maxHeartbeats 1000000 in
theorem r_look {k : Nat} {l : List Int} {c : Int} {x : Rcv} (h : ROk k l c x) (hp : x.p = 1) : RStep k l c x := by
  obtain ⟨at', n, z, head, tail, did, times, ln, b, got, p⟩ := x
  obtain ⟨⟨h1, h2, h3, h4, h5, h6, h7⟩, h8, h9, h10, h11, h12, h13, h14⟩ := h
  simp only at h1 h2 h5 h8 h9 h10 h11 h12 hp
  subst hp
  have hz := h5.z
  have hn := h5.n
  have hm : 1 + (z + 3) / 4 ≤ n * (1 + (z + 3) / 4) := by
    have := Int.mul_le_mul_of_nonneg_right hn.1 (show 0 ≤ 1 + (z + 3) / 4 by omega)
    omega
  refine ends_turn (c := cfgK) cfgK_ok rl_b (by kernel_rfl) ?_
  refine all_brp (by simp only [beq_iff_eq]; exact Iff.rfl) (fun hd => ?_) (fun hd => ?_)
  · have hb2 : ((got.length : Int) == times) = true := beq_iff_eq.2 hd
    simp only [rNext, rStill, rC, if_pos hd, hb2]
    exact all_ret (turn_norm [4, 5] [0, 1, 2, 3, 6, 7, 4, 5] rfl rfl rfl rfl)
  · have hb2 : ((got.length : Int) == times) = false := beq_eq_false_iff_ne.2 hd
    have hg := h10
    simp only [rNext, rC, if_neg hd, Int.add_zero]
    repeat' (first
      | refine all_needq (by simp only [inR_i64]; exact Iff.rfl) (by omega) ?_
      | refine all_needq (by simp only [decide_eq_true_eq, Bool.and_eq_true]; exact Iff.rfl) (by omega) ?_
      | refine all_needq (by simp only [decide_eq_true_eq]; exact Iff.rfl) (by omega) ?_
      | refine all_need rfl (fun _ => ?_)
      | refine all_eq trivial ?_
      | refine all_eq rfl ?_
      | refine all_brn (by simp only [decide_eq_true_eq]; exact Iff.rfl) (by omega) ?_
      | fail)
    refine all_brp (by simp only [beq_iff_eq]; exact Iff.rfl) (fun hf => ?_) (fun hf => ?_)
    · simp only [if_pos hf]
      repeat' (first
        | refine all_needq (by simp only [roomy_iff]; exact Iff.rfl) (by omega) ?_
        | refine all_needq (by simp only [decide_eq_true_eq]; exact Iff.rfl) (by omega) ?_
        | refine all_need rfl (fun _ => ?_)
        | refine all_eq trivial ?_
        | refine all_eq rfl ?_
        | fail)
      have hl : (got ++ [nilB]).length = got.length + 1 := by simp
      simp only [rE, rStill, hl]
      exact all_ret ((turn_nil 3 9 1 (l := [.int .i64 at', .int .i64 n, .int .i64 z, .fn (.func 31) [.ptr 3 0] [], .int .u32 (l.getD at'.toNat 0), .int .u32 tail, .lit .i64 0, .int .i64 times, .int .i64 ln, .snil, .sli 8 (.c 0) 1 (.v (got.length + 1)) none]) (T0 := 78) rfl rfl (encInt .u8) 5).trans (turn_norm [4] [0, 1, 2, 3, 10, 5, 9, 8] rfl rfl rfl rfl))
    · simp only [if_neg hf, rStill, hb2]
      repeat' (first
        | refine all_need rfl (fun _ => ?_)
        | refine all_eq trivial ?_
        | refine all_eq rfl ?_)
      exact all_ret ((turn_nil 3 9 1 (l := [.int .i64 at', .int .i64 n, .int .i64 z, .fn (.func 47) [.ptr 3 0] [], .int .u32 (l.getD at'.toNat 0), .int .u32 tail, .lit .i64 0, .int .i64 times, .int .i64 ln, .snil, .sli 5 (.c 0) 1 (.v got.length) none]) (T0 := 78) rfl rfl (encInt .u8) 5).trans (turn_norm [4, 5] [0, 1, 2, 3, 8, 9, 7, 5] rfl rfl rfl rfl))
end Go.Proofs.YtplbncncnjiahaaDoor

/- Layer 12: a receiver's step, whole. -/
namespace Go.Proofs.YtplbncncnjiahaaDoor
open Go Go.Proofs.YtplbncncnjiahaaDoor.Sx
set_option linter.unusedVariables false
theorem isU8_all (B : List Int) : (B.flatMap (encInt .u8).enc).all isU8 = true := by
  induction B with
  | nil => rfl
  | cons x l ih => rw [List.flatMap_cons, List.all_append, ih]; rfl
set_option maxHeartbeats 4000000 in
theorem r_take {k : Nat} {l : List Int} {c : Int} {x : Rcv} (h : ROk k l c x) (hp : x.p = 2) : RStep k l c x := by
  obtain ⟨at', n, z, head, tail, did, times, ln, b, got, p⟩ := x
  obtain ⟨hon, h8, h9, h10, h11, h12, h13, h14⟩ := h
  simp only at hon h8 h9 h10 h11 h12 h13 hp
  subst hp
  have h9 := h9 rfl
  have h12 := h12 rfl
  have hpl := plc_in (i := head) hon h9
  obtain ⟨h1, h2, h3, h4, h5, h6, h7⟩ := hon
  have hz := h5.z
  have hn := h5.n
  have hm : 1 + (z + 3) / 4 ≤ n * (1 + (z + 3) / 4) := by
    have := Int.mul_le_mul_of_nonneg_right hn.1 (show 0 ≤ 1 + (z + 3) / 4 by omega)
    omega
  have hat : at' ≤ 4096 := by omega
  refine ends_turn (c := cfgK) cfgK_ok rt_b (by kernel_rfl) ?_
  refine all_brp (by simp only [beq_iff_eq]; exact Iff.rfl) (fun hd => ?_) (fun hd => ?_)
  · have hb2 : ((got.length : Int) == times) = true := beq_iff_eq.2 hd
    simp only [rNext, rStill, rC, if_pos hd, hb2]
    exact all_ret (turn_norm [4, 5] [0, 1, 2, 3, 6, 7, 4, 5] rfl rfl rfl rfl)
  · have hb2 : ((got.length : Int) == times) = false := beq_eq_false_iff_ne.2 hd
    have e1 : IntKind.u32.wrap z = z := wrap_inR (by rw [inR_u32]; omega)
    simp only [rNext, rC, if_neg hd, plc, e1] at hpl ⊢
    obtain ⟨P, hP⟩ : ∃ P, at' + 2 + head % n * (1 + (z + 3) / 4) + did = P := ⟨_, rfl⟩
    simp only [hP] at hpl ⊢
    have hw := u32s_getD h6 P.toNat
    refine all_eq ⟨trivial, h5, ⟨by omega, by omega⟩, h8⟩ ?_
    repeat' (first
      | refine all_needq (by simp only [inR_i64]; exact Iff.rfl) (by omega) ?_
      | refine all_needq (by simp only [decide_eq_true_eq, Bool.and_eq_true]; exact Iff.rfl) (by omega) ?_
      | refine all_needq (by simp only [decide_eq_true_eq]; exact Iff.rfl) (by omega) ?_
      | refine all_need rfl (fun _ => ?_)
      | refine all_eq trivial ?_
      | refine all_eq rfl ?_
      | refine all_brn (by simp only [decide_eq_true_eq]; exact Iff.rfl) (by omega) ?_
      | fail)
    obtain ⟨W, hW⟩ : ∃ W, l.getD P.toNat 0 = W := ⟨_, rfl⟩
    simp only [hW] at hw ⊢
    refine all_brp (by simp only [beq_iff_eq]; exact Iff.rfl) (fun h0 => ?_) (fun h0 => ?_)
    · simp only [if_pos h0]
      have hmm : 1 ≤ imin (imax W 1) z ∧ imin (imax W 1) z ≤ 32 := by
        unfold imin imax; split <;> split <;> omega
      obtain ⟨M, hM⟩ : ∃ M, imin (imax W 1) z = M := ⟨_, rfl⟩
      simp only [hM] at hmm ⊢
      have e4 : IntKind.i64.wrap ((M + 3).tdiv 4) = (M + 3) / 4 := by
        rw [Int.tdiv_eq_ediv_of_nonneg (by omega), wrap_i64 (by omega)]
      simp only [e4]
      subst h0
      repeat' (first
        | refine all_needq (by simp only [inR_i64]; exact Iff.rfl) (by omega) ?_
        | refine all_need rfl (fun _ => ?_)
        | refine all_eq trivial ?_
        | refine all_eq rfl ?_
        | fail)
      refine all_brp (by simp only [decide_eq_true_eq]; exact Iff.rfl) (fun h1 => ?_) (fun h1 => ?_)
      · have h1' : (M + 3) / 4 < 1 := by omega
        simp only [if_pos h1', rStill, hb2]
        repeat' (first
          | refine all_need rfl (fun _ => ?_)
          | refine all_eq trivial ?_
          | refine all_eq rfl ?_)
        exact all_ret (turn_norm [4, 5] [0, 1, 2, 3, 7, 8, 4, 5] rfl rfl rfl rfl)
      · have h1' : ¬ (M + 3) / 4 < 1 := by omega
        simp only [if_neg h1', rStill, hb2]
        repeat' (first
          | refine all_need rfl (fun _ => ?_)
          | refine all_eq trivial ?_
          | refine all_eq rfl ?_)
        exact all_ret (turn_norm [4, 5] [0, 1, 2, 3, 7, 8, 4, 5] rfl rfl rfl rfl)
    · have hln := h12 (by omega)
      have e4 : IntKind.i64.wrap ((ln + 3).tdiv 4) = (ln + 3) / 4 := by
        rw [Int.tdiv_eq_ediv_of_nonneg (by omega), wrap_i64 (by omega)]
      simp only [if_neg h0, e4]
      repeat' (first
        | refine all_needq (by simp only [inR_i64]; exact Iff.rfl) (by omega) ?_
        | refine all_needq (by simp only [roomy_iff]; exact Iff.rfl) (by omega) ?_
        | refine all_needq (by simp only [decide_eq_true_eq]; exact Iff.rfl) (by omega) ?_
        | refine all_need rfl (fun _ => ?_)
        | refine all_eq trivial ?_
        | refine all_eq rfl ?_
        | fail)
      have hl : (b ++ bytesI W).length = b.length + 4 := by simp [bytesI]
      refine all_brp (by simp only [decide_eq_true_eq]; exact Iff.rfl) (fun h1 => ?_) (fun h1 => ?_)
      · simp only [if_pos h1, rStill, hb2, rE, hl]
        repeat' (first
          | refine all_need rfl (fun _ => ?_)
          | refine all_eq trivial ?_
          | refine all_eq rfl ?_)
        exact all_ret (turn_norm [5] [0, 1, 2, 3, 4, 9, 8, 5] rfl rfl rfl rfl)
      · simp only [if_neg h1, rStill, hb2, rE, hl]
        repeat' (first
          | refine all_need rfl (fun _ => ?_)
          | refine all_eq trivial ?_
          | refine all_eq rfl ?_)
        exact all_ret (turn_norm [5] [0, 1, 2, 3, 4, 9, 8, 5] rfl rfl rfl rfl)
set_option maxHeartbeats 4000000 in
theorem r_tell {k : Nat} {l : List Int} {c : Int} {x : Rcv} (h : ROk k l c x) (hp : x.p = 3) : RStep k l c x := by
  obtain ⟨at', n, z, head, tail, did, times, ln, b, got, p⟩ := x
  obtain ⟨⟨h1, h2, h3, h4, h5, h6, h7⟩, h8, h9, h10, h11, h12, h13, h14⟩ := h
  simp only at h1 h2 h5 h8 h9 h10 h11 h12 h13 h14 hp
  subst hp
  have h14 := h14 rfl
  have hz := h5.z
  have hn := h5.n
  have hm : 1 + (z + 3) / 4 ≤ n * (1 + (z + 3) / 4) := by
    have := Int.mul_le_mul_of_nonneg_right hn.1 (show 0 ≤ 1 + (z + 3) / 4 by omega)
    omega
  refine ends_turn (c := cfgK) cfgK_ok re_b (by kernel_rfl) ?_
  refine all_brp (by simp only [beq_iff_eq]; exact Iff.rfl) (fun hd => ?_) (fun hd => ?_)
  · have hb2 : ((got.length : Int) == times) = true := beq_iff_eq.2 hd
    simp only [rNext, rStill, rC, if_pos hd, hb2]
    exact all_ret (turn_norm [4, 5] [0, 1, 2, 3, 6, 7, 4, 5] rfl rfl rfl rfl)
  · have hb2 : ((got.length : Int) == times) = false := beq_eq_false_iff_ne.2 hd
    have hi : at'.toNat < l.length := by omega
    simp only [rNext, rC, if_neg hd, Int.add_zero]
    have e3 : IntKind.u32.wrap (head + 1) % 4294967296 = (head + 1) % 4294967296 := by rw [w32_mod]; omega
    have e5 : bitop .or .u32 (bitop .and .u32 (l.getD at'.toNat 0) 0) (IntKind.u32.wrap (head + 1)) = (head + 1) % 4294967296 := by rw [and_zero, zero_or, e3]
    have e6 : IntKind.u32.wrap ((head + 1) % 4294967296) = (head + 1) % 4294967296 := by rw [w32_mod]; omega
    simp only [e5, Sx.getD_set_self hi, List.set_set, e6, isU8_all, List.drop_zero]
    repeat' (first
      | refine all_needq (by simp only [inR_i64]; exact Iff.rfl) (by omega) ?_
      | refine all_needq (by simp only [decide_eq_true_eq, Bool.and_eq_true]; exact Iff.rfl) (by omega) ?_
      | refine all_needq (by simp only [decide_eq_true_eq]; exact Iff.rfl) (by omega) ?_
      | refine all_needq (by simp only [roomy_iff]; exact Iff.rfl) (by omega) ?_
      | refine all_need rfl (fun _ => ?_)
      | refine all_eq trivial ?_
      | refine all_eq rfl ?_
      | refine all_brn (by simp only [decide_eq_true_eq]; exact Iff.rfl) (by omega) ?_
      | fail)
    have hl : (got ++ [strI (b.take ln.toNat)]).length = got.length + 1 := by simp
    simp only [rE, rStill, hl]
    exact all_ret (turn_norm [4] [0, 1, 2, 3, 9, 5, 4, 8] rfl rfl rfl rfl)
/-- a receiver's step -/
theorem r_step {k : Nat} {l : List Int} {c : Int} {x : Rcv} (h : ROk k l c x) (hp : x.p ≤ 3) : RStep k l c x := by
  have hq : x.p = 0 ∨ x.p = 1 ∨ x.p = 2 ∨ x.p = 3 := by omega
  rcases hq with hq | hq | hq | hq
  · exact r_begin h hq
  · exact r_look h hq
  · exact r_take h hq
  · exact r_tell h hq
end Go.Proofs.YtplbncncnjiahaaDoor

