/- The objects of this layer: what a machine of them does. -/
import Derived.Test.YtplbncncnjiahaaDoorSxC
import Derived.Test.YtplbncncnjiahaaDoorRows
/- Layer 12: the configuration. -/
namespace Go.Proofs.YtplbncncnjiahaaDoor
open Go Go.Proofs.YtplbncncnjiahaaDoor.Sx
set_option linter.unusedVariables false
/-- the package's variable, as it was laid -/
def encLook : Enc Unit := encOf 2 (fun _ => [.lit .u32 4294967295, .lit .u32 0, .lit .u32 0]) () (fun _ => rfl) (by intro env env' x vs h; simpa [DenL, Den] using h)
abbrev lookB : Blk := .ro encLook [()]
noncomputable def exI : IntKind → Bool := fun k => match k with | .i64 => true | _ => false
noncomputable def cfg0 : Cfg := { P := Tryd.prog, ex := exI, gl := [(0, 0)], sm := fun _ => none }
theorem cfg0_ok : SmOk cfg0 := by intro f g h; cases h
abbrev fnE (f i : Nat) : Prop := (T.ret (SVal.fn (Fn.func f) [SVal.ptr i 0] []) : T SVal) = T.ret (SVal.fn (Fn.func f) [SVal.ptr i 0] [])
theorem smClosedS_ok {c : Cfg} (hsm : SmOk c) {n : Nat} {f : FuncId} {ids : List Nat} {st0 : St} {b : Bool} {p : Prop} (h : (callF c n f [] st0).valE = some (p, .sb b)) (hp : p) (hcal : callable c.P f = true) (hnd : nodupB ids = true) (hgk : glKept ids c.gl = true) (hno : noFoot st0)
    (args : List SVal) (st : St) (s : SVal) (st' : St) (env : Env) (w : World) (vs : List Value) (hat : (smClosed ids st0 (.bl b) args st).at (s, st')) (hg : GlOk c.gl env) (hr : Rep env st w) (hd : DenL env args vs) :
    Calls c.P f ⟨vs⟩ w fun e w' => ∃ env' v, e = .returned v ∧ Ext env st w env' st' w' ∧ Rep env' st' w' ∧ Den env' s v := by
  unfold smClosed at hat
  split at hat
  · have hat : renSt ids st ids = some st0 ∧ SVal.bl b = s ∧ st = st' := by
      split at hat
      · simp only [T.at, Prod.mk.injEq] at hat
        exact ⟨rfl, hat⟩
      · simpa only [T.at, Prod.mk.injEq] using hat
    obtain ⟨hst, rfl, rfl⟩ := hat
    simp only [DenL] at hd
    subst hd
    obtain ⟨hr0, hf0⟩ := rep_sub hr hnd hst
    obtain ⟨st1, h1⟩ := T.valE_at h hp
    refine (callF_ok hsm n f [] st0 (.sb b) st1 (subEnv env ids) w [] h1 hcal (glKept_ok hgk hg) hr0 (by simp [DenL])).mono ?_
    rintro e w' ⟨env1, v, rfl, hx, _, hv⟩
    have hk : ∀ x, x < w.heap.size → w'.heap[x]? = w.heap[x]? := by
      intro x hl
      refine hx.keep x hl ?_
      rintro ⟨id, e, b, he, hb, hx⟩
      rw [hno b (List.mem_of_getElem? hb)] at hx
      cases hx
    obtain ⟨k1, k2⟩ := rep_keep hr hx.size hk hx.calm
    exact ⟨env, v, rfl, k2, k1, by simpa only [Den] using hv⟩
  · exact hat.elim
set_option maxRecDepth 100000 in
theorem awake_val : (callF cfg0 400 9 [] [lookB]).valE = some (fnE 30 6 ∧ fnE 42 6 ∧ fnE 45 6 ∧ fnE 45 6 ∧ fnE 51 6 ∧ fnE 31 7 ∧ fnE 43 7 ∧ fnE 47 7 ∧ fnE 47 7 ∧ fnE 52 7 ∧ True, .sb true) := by kernel_rfl
noncomputable def cfg : Cfg := { P := Tryd.prog, ex := exI, gl := [(0, 0)], sm := fun f => match f with | 9 => some (smClosed [0] [lookB] (.bl true)) | _ => none }
theorem cfg_ok : SmOk cfg := by
  intro f g h
  simp only [cfg] at h
  split at h
  · simp only [Option.some.injEq] at h; subst h
    exact smClosedS_ok cfg0_ok awake_val ⟨rfl, rfl, rfl, rfl, rfl, rfl, rfl, rfl, rfl, rfl, trivial⟩ (by kernel_rfl) rfl rfl (by intro b hb e; rw [List.mem_singleton.1 hb]; rfl)
  · cases h
end Go.Proofs.YtplbncncnjiahaaDoor

/- Layer 12: how many words a ring needs: pieces. -/
namespace Go.Proofs.YtplbncncnjiahaaDoor
open Go Go.Proofs.YtplbncncnjiahaaDoor.Sx
set_option linter.unusedVariables false
noncomputable abbrev cfgM : Cfg := cfg0
theorem cfgM_ok : SmOk cfgM := cfg0_ok
theorem gl_lt {k : Nat} (h : 0 < k) : ∀ p ∈ cfgM.gl, p.2 < k := by
  intro p hp
  rw [List.mem_singleton.1 hp]; exact h
/-- the powers of two that a count may be -/
def powB (p : Int) : Bool := decide (p = 1 ∨ p = 2 ∨ p = 4 ∨ p = 8 ∨ p = 16 ∨ p = 32 ∨ p = 64 ∨ p = 128 ∨ p = 256 ∨ p = 512 ∨ p = 1024 ∨ p = 2048 ∨ p = 4096 ∨ p = 8192 ∨ p = 16384 ∨ p = 32768)
def powN (p : Nat) : Bool := decide (p = 1 ∨ p = 2 ∨ p = 4 ∨ p = 8 ∨ p = 16 ∨ p = 32 ∨ p = 64 ∨ p = 128 ∨ p = 256 ∨ p = 512 ∨ p = 1024 ∨ p = 2048 ∨ p = 4096 ∨ p = 8192 ∨ p = 16384 ∨ p = 32768)
theorem powB_nat (p : Nat) : powB (p : Int) = powN p := by unfold powB powN; exact decide_eq_decide.2 (by omega)
/-- how many words, and what is wrong -/
def wordsP (p s : Int) : Int × Int :=
  if p < 1 ∨ 32768 < p ∨ powB p = false then (0, 120) else if s < 1 ∨ 32 < s then (0, 121) else (2 + p * (1 + (s + 3) / 4), 0)
end Go.Proofs.YtplbncncnjiahaaDoor

namespace Go.Proofs.YtplbncncnjiahaaDoor
open Go Go.Proofs.YtplbncncnjiahaaDoor.Sx
set_option linter.unusedVariables false
set_option maxRecDepth 100000 in
theorem w_call {p s : Int} : callF cfgM 100 10 [.int .i64 p, .int .i64 s] [lookB] =
 

 (.br (decide (p < (1 : Int)))

 (.ret (.tup [.lit .i64 (0 : Int), .lit .i64 (120 : Int)], [.ro encLook [PUnit.unit]]))

 (.br (decide ((32768 : Int) < p))

 (.ret (.tup [.lit .i64 (0 : Int), .lit .i64 (120 : Int)], [.ro encLook [PUnit.unit]]))

 (.br (decide ((1 : Int) ≤ IntKind.u32.wrap p))

 (.br (decide (IntKind.u32.wrap p ≤ (32768 : Int)))

 (.br (!bitop BinOp.and IntKind.u32 (IntKind.u32.wrap p) (IntKind.u32.wrap (IntKind.u32.wrap p - (1 : Int))) == (0 : Int))

 (.ret (.tup [.lit .i64 (0 : Int), .lit .i64 (120 : Int)], [.ro encLook [PUnit.unit]]))

 (.br (decide (IntKind.u32.wrap p < (0 : Int)))

 (.ret (.tup [.lit .i64 (0 : Int), .lit .i64 (120 : Int)], [.ro encLook [PUnit.unit]]))

 (.br (decide (s < (1 : Int)))

 (.ret (.tup [.lit .i64 (0 : Int), .lit .i64 (121 : Int)], [.ro encLook [PUnit.unit]]))

 (.br (decide ((32 : Int) < s))

 (.ret (.tup [.lit .i64 (0 : Int), .lit .i64 (121 : Int)], [.ro encLook [PUnit.unit]]))

 (.need (inR .i64 (s + (3 : Int)))

 (.need (true)

 (.need (inR .i64 ((1 : Int) + IntKind.i64.wrap ((s + (3 : Int)).tdiv (4 : Int))))

 (.need (inR .i64 (p * ((1 : Int) + IntKind.i64.wrap ((s + (3 : Int)).tdiv (4 : Int)))))

 (.need (inR .i64 ((2 : Int) + p * ((1 : Int) + IntKind.i64.wrap ((s + (3 : Int)).tdiv (4 : Int)))))

 (.ret (.tup [.int .i64 ((2 : Int) + p * ((1 : Int) + IntKind.i64.wrap ((s + (3 : Int)).tdiv (4 : Int)))), .lit .i64 (0 : Int)], [.ro encLook [PUnit.unit]])))))))))))

 (.ret (.tup [.lit .i64 (0 : Int), .lit .i64 (120 : Int)], [.ro encLook [PUnit.unit]])))

 (.ret (.tup [.lit .i64 (0 : Int), .lit .i64 (120 : Int)], [.ro encLook [PUnit.unit]]))))) := by kernel_rfl
set_option maxRecDepth 100000 in
theorem pl_call {p : Int} : callF cfgM 100 29 [.int .u32 p] [lookB] =
 

 (.br ((1 : Int) == p)

 (.ret (.bl true, [.ro encLook [PUnit.unit]]))

 (.br ((2 : Int) == p)

 (.ret (.bl true, [.ro encLook [PUnit.unit]]))

 (.br ((4 : Int) == p)

 (.ret (.bl true, [.ro encLook [PUnit.unit]]))

 (.br ((8 : Int) == p)

 (.ret (.bl true, [.ro encLook [PUnit.unit]]))

 (.br ((16 : Int) == p)

 (.ret (.bl true, [.ro encLook [PUnit.unit]]))

 (.br ((32 : Int) == p)

 (.ret (.bl true, [.ro encLook [PUnit.unit]]))

 (.br ((64 : Int) == p)

 (.ret (.bl true, [.ro encLook [PUnit.unit]]))

 (.br ((128 : Int) == p)

 (.ret (.bl true, [.ro encLook [PUnit.unit]]))

 (.br ((256 : Int) == p)

 (.ret (.bl true, [.ro encLook [PUnit.unit]]))

 (.br ((512 : Int) == p)

 (.ret (.bl true, [.ro encLook [PUnit.unit]]))

 (.br ((1024 : Int) == p)

 (.ret (.bl true, [.ro encLook [PUnit.unit]]))

 (.br ((2048 : Int) == p)

 (.ret (.bl true, [.ro encLook [PUnit.unit]]))

 (.br ((4096 : Int) == p)

 (.ret (.bl true, [.ro encLook [PUnit.unit]]))

 (.br ((8192 : Int) == p)

 (.ret (.bl true, [.ro encLook [PUnit.unit]]))

 (.br ((16384 : Int) == p)

 (.ret (.bl true, [.ro encLook [PUnit.unit]]))

 (.br ((32768 : Int) == p)

 (.ret (.bl true, [.ro encLook [PUnit.unit]]))

 (.ret (.bl false, [.ro encLook [PUnit.unit]])))))))))))))))))) := by kernel_rfl
end Go.Proofs.YtplbncncnjiahaaDoor

/- Layer 12: how many words a ring needs. -/
namespace Go.Proofs.YtplbncncnjiahaaDoor
open Go Go.Proofs.YtplbncncnjiahaaDoor.Sx
set_option linter.unusedVariables false
theorem asI_int {env : Env} {s : SVal} {v : Value} {k : IntKind} {x : Int} {b : Bool} (h : asI s = some (k, x, b)) (hd : Den env s v) : Den env (.int k x) v := by rw [asI_den h hd]; simp [Den]
theorem asI_ren {s : SVal} {k : IntKind} {x : Int} {b : Bool} {m : List Nat} (h : asI s = some (k, x, b)) : ren m s = s := by
  cases s <;> simp [asI] at h <;> rfl
theorem and_pow : ∀ (k n : Nat), 1 ≤ n → n < 2 ^ (k + 1) → ((n &&& (n - 1)) = 0 ↔ ∃ j, j ≤ k ∧ n = 2 ^ j)
  | 0, n, h1, h2 => by
    have : n = 1 := by omega
    subst this
    exact ⟨fun _ => ⟨0, Nat.le_refl _, rfl⟩, fun _ => rfl⟩
  | k + 1, n, h1, h2 => by
    have hd : (n &&& (n - 1)) / 2 = n / 2 &&& (n - 1) / 2 := Nat.and_div_two
    have hm := @Nat.and_mod_two_eq_one n (n - 1)
    by_cases he : n % 2 = 1
    · by_cases h3 : n = 1
      · subst h3
        exact ⟨fun _ => ⟨0, Nat.zero_le _, rfl⟩, fun _ => rfl⟩
      · have e : (n - 1) / 2 = n / 2 := by omega
        rw [e, Nat.and_self] at hd
        refine ⟨fun h => by rw [h] at hd; omega, ?_⟩
        rintro ⟨j, _, hj⟩
        exfalso
        cases j with
        | zero => omega
        | succ j => rw [Nat.pow_succ] at hj; omega
    · have ih := and_pow k (n / 2) (by omega) (by rw [Nat.pow_succ] at h2; omega)
      have e : (n - 1) / 2 = n / 2 - 1 := by omega
      rw [e] at hd
      constructor
      · intro h
        rw [h] at hd
        obtain ⟨j, h4, h5⟩ := ih.1 (by omega)
        exact ⟨j + 1, by omega, by rw [Nat.pow_succ]; omega⟩
      · rintro ⟨j, h4, h5⟩
        cases j with
        | zero => omega
        | succ j =>
          have h6 := ih.2 ⟨j, by omega, by rw [Nat.pow_succ] at h5; omega⟩
          rw [h6] at hd
          have : ¬ (n &&& (n - 1)) % 2 = 1 := fun h => he (hm.1 h).1
          omega
theorem pow_nat {n : Nat} (h1 : 1 ≤ n) (h2 : n ≤ 32768) : ((n &&& (n - 1)) == 0) = powN n := by
  have h := and_pow 15 n h1 (by omega)
  have h3 : (∃ j, j ≤ 15 ∧ n = 2 ^ j) ↔ powN n = true := by
    unfold powN
    rw [decide_eq_true_eq]
    constructor
    · rintro ⟨j, hj, rfl⟩
      have : j = 0 ∨ j = 1 ∨ j = 2 ∨ j = 3 ∨ j = 4 ∨ j = 5 ∨ j = 6 ∨ j = 7 ∨ j = 8 ∨ j = 9 ∨ j = 10 ∨ j = 11 ∨ j = 12 ∨ j = 13 ∨ j = 14 ∨ j = 15 := by omega
      rcases this with rfl | rfl | rfl | rfl | rfl | rfl | rfl | rfl | rfl | rfl | rfl | rfl | rfl | rfl | rfl | rfl <;> decide
    · intro h
      rcases h with rfl | rfl | rfl | rfl | rfl | rfl | rfl | rfl | rfl | rfl | rfl | rfl | rfl | rfl | rfl | rfl
      · exact ⟨0, by omega, rfl⟩
      · exact ⟨1, by omega, rfl⟩
      · exact ⟨2, by omega, rfl⟩
      · exact ⟨3, by omega, rfl⟩
      · exact ⟨4, by omega, rfl⟩
      · exact ⟨5, by omega, rfl⟩
      · exact ⟨6, by omega, rfl⟩
      · exact ⟨7, by omega, rfl⟩
      · exact ⟨8, by omega, rfl⟩
      · exact ⟨9, by omega, rfl⟩
      · exact ⟨10, by omega, rfl⟩
      · exact ⟨11, by omega, rfl⟩
      · exact ⟨12, by omega, rfl⟩
      · exact ⟨13, by omega, rfl⟩
      · exact ⟨14, by omega, rfl⟩
      · exact ⟨15, by omega, rfl⟩
  rw [h3] at h
  cases hq : powN n with
  | true => exact beq_iff_eq.2 (h.2 hq)
  | false =>
    refine beq_eq_false_iff_ne.2 fun e => ?_
    have := h.1 e
    rw [hq] at this; cases this
theorem w32_mod (x : Int) : IntKind.u32.wrap x = x % 4294967296 := by
  simp [IntKind.wrap, IntKind.signed, IntKind.bits]
theorem low_u32 (x : Int) : ((low .u32 x : Nat) : Int) = x % 4294967296 := by
  have : 0 ≤ x % 4294967296 := by omega
  simp only [low, IntKind.bits]
  omega
theorem pow_and {p : Int} (h1 : 1 ≤ p) (h2 : p ≤ 32768) : (bitop .and .u32 p (p - 1) == 0) = powB p := by
  have e1 : low .u32 p = p.toNat := by have := low_u32 p; omega
  have e2 : low .u32 (p - 1) = p.toNat - 1 := by have := low_u32 (p - 1); omega
  have h3 := pow_nat (n := p.toNat) (by omega) (by omega)
  have e6 : powB p = powN p.toNat := by rw [← powB_nat]; congr 1; omega
  rw [e6, ← h3]
  have hle : p.toNat &&& (p.toNat - 1) ≤ p.toNat := Nat.and_le_left
  simp only [bitop, e1, e2, w32_mod]
  cases hq : (p.toNat &&& (p.toNat - 1)) == 0 with
  | true => rw [beq_iff_eq] at hq ⊢; rw [hq]; rfl
  | false => rw [beq_eq_false_iff_ne] at hq ⊢; omega
theorem wrap_i64 {x : Int} (h : -9223372036854775808 ≤ x ∧ x ≤ 9223372036854775807) : IntKind.i64.wrap x = x := wrap_inR (by rw [inR_i64]; omega)
theorem look_ren : renSt (List.range 1) [lookB] (List.range 1) = some [lookB] := by kernel_rfl
set_option maxHeartbeats 1000000 in
theorem words_call {p s : Int} : ∀ (env : Env) (w : World) (vs : List Value), GlOk cfgM.gl env → Rep env [lookB] w → DenL env [.int .i64 p, .int .i64 s] vs → Calls cfgM.P 10 ⟨vs⟩ w (Ends1 env [lookB] w (.tup [.int .i64 (wordsP p s).1, .int .i64 (wordsP p s).2]) [lookB]) := by
  refine ends_allg (c := cfgM) cfgM_ok w_call (by kernel_rfl) rfl look_ren rfl ?_
  have bad : ∀ {x : SVal × St}, (p < 1 ∨ 32768 < p ∨ powB p = false) → x = (.tup [.lit .i64 0, .lit .i64 120], [lookB]) → All (fun r => ∃ X, gen r.1 = gen (.tup [.int .i64 (wordsP p s).1, .int .i64 (wordsP p s).2]) ∧ genS r.2 = genS ([lookB] ++ X)) (.ret x) := by
    intro x h e
    subst e
    have : wordsP p s = (0, 120) := by unfold wordsP; rw [if_pos h]
    rw [this]
    exact all_ret ⟨[], rfl, rfl⟩
  refine all_brp (by simp only [decide_eq_true_eq] <;> exact Iff.rfl) (fun h1 => bad (.inl h1) rfl) (fun h1 => ?_)
  refine all_brp (by simp only [decide_eq_true_eq] <;> exact Iff.rfl) (fun h2 => bad (.inr (.inl h2)) rfl) (fun h2 => ?_)
  have e1 : IntKind.u32.wrap p = p := wrap_inR (by rw [inR_u32]; omega)
  have e2 : IntKind.u32.wrap (p - 1) = p - 1 := wrap_inR (by rw [inR_u32]; omega)
  rw [e1, e2, pow_and (by omega) (by omega)]
  refine all_brp (by simp only [decide_eq_true_eq]; exact Iff.rfl) (fun h3 => ?_) (fun h3 => by exfalso; omega)
  refine all_brp (by simp only [decide_eq_true_eq]; exact Iff.rfl) (fun h4 => ?_) (fun h4 => by exfalso; omega)
  refine all_br (fun h5 => bad (.inr (.inr (by simpa using h5))) rfl) (fun h5 => ?_)
  have h5' : powB p = true := by simpa using h5
  refine all_brp (by simp only [decide_eq_true_eq]; exact Iff.rfl) (fun h6 => by exfalso; omega) (fun h6 => ?_)
  have hn : ¬ (p < 1 ∨ 32768 < p ∨ powB p = false) := by rw [h5']; simp; omega
  refine all_brp (by simp only [decide_eq_true_eq]; exact Iff.rfl) (fun h7 => ?_) (fun h7 => ?_)
  · have : wordsP p s = (0, 121) := by unfold wordsP; rw [if_neg hn, if_pos (.inl h7)]
    rw [this]; exact all_ret ⟨[], rfl, rfl⟩
  refine all_brp (by simp only [decide_eq_true_eq]; exact Iff.rfl) (fun h8 => ?_) (fun h8 => ?_)
  · have : wordsP p s = (0, 121) := by unfold wordsP; rw [if_neg hn, if_pos (.inr h8)]
    rw [this]; exact all_ret ⟨[], rfl, rfl⟩
  have e3 : IntKind.i64.wrap ((s + 3).tdiv 4) = (s + 3) / 4 := by
    rw [Int.tdiv_eq_ediv_of_nonneg (by omega), wrap_i64 (by omega)]
  rw [e3]
  have hm : 0 ≤ p * (1 + (s + 3) / 4) ∧ p * (1 + (s + 3) / 4) ≤ 32768 * 9 := by
    have h9 : 1 + (s + 3) / 4 ≤ 9 := by omega
    have h10 : 0 ≤ 1 + (s + 3) / 4 := by omega
    exact ⟨Int.mul_nonneg (by omega) h10, Int.mul_le_mul (by omega) h9 h10 (by omega)⟩
  refine all_needq (by simp only [inR_i64]; exact Iff.rfl) (by omega) ?_
  refine all_need rfl fun _ => ?_
  refine all_needq (by simp only [inR_i64]; exact Iff.rfl) (by omega) ?_
  refine all_needq (by simp only [inR_i64]; exact Iff.rfl) (by omega) ?_
  refine all_needq (by simp only [inR_i64]; exact Iff.rfl) (by omega) ?_
  have : wordsP p s = (2 + p * (1 + (s + 3) / 4), 0) := by unfold wordsP; rw [if_neg hn, if_neg (by omega)]
  rw [this]; exact all_ret ⟨[], rfl, rfl⟩
noncomputable def gWords (args : List SVal) (S : St) : T (SVal × St) := match args with
  | [a, b] => match asI a, asI b with
    | some (.i64, p, _), some (.i64, s, _) => .eq (S = [lookB]) (.ret (.tup [.int .i64 (wordsP p s).1, .int .i64 (wordsP p s).2], [lookB]))
    | _, _ => .no 200
  | _ => .no 201
theorem gWords_ok (args : List SVal) (S : St) (v : SVal) (S' : St) (h : (gWords args S).at (v, S')) : PreOk cfgM 1 10 args S v S' := by
  unfold gWords at h
  split at h
  · rename_i a b
    split at h
    · rename_i p la s lb h1 h2
      obtain ⟨rfl, h⟩ := h
      simp only [T.at, Prod.mk.injEq] at h
      obtain ⟨rfl, rfl⟩ := h
      refine ⟨fun env w vs hg hr hd => ?_, rfl, rfl, fun _ _ h => .inr h, look_ren, by simp only [renL, asI_ren h1, asI_ren h2]⟩
      obtain ⟨u, us, rfl, h4, u2, us2, rfl, h5, rfl⟩ := hd
      exact words_call env w _ hg hr ⟨_, _, rfl, asI_int h1 h4, _, _, rfl, asI_int h2 h5, rfl⟩
    · exact h.elim
  · exact h.elim
theorem places_call {p : Int} : ∀ (env : Env) (w : World) (vs : List Value), GlOk cfgM.gl env → Rep env [lookB] w → DenL env [.int .u32 p] vs → Calls cfgM.P 29 ⟨vs⟩ w (Ends1 env [lookB] w (.sb (powB p)) [lookB]) := by
  refine ends_allg (c := cfgM) cfgM_ok pl_call (by kernel_rfl) rfl look_ren rfl ?_
  have yes : (powB p = true) → All (fun r => ∃ X, gen r.1 = gen (.sb (powB p)) ∧ genS r.2 = genS ([lookB] ++ X)) (.ret (.bl true, [lookB])) := by
    intro h; rw [h]; exact all_ret ⟨[], rfl, rfl⟩
  repeat' (refine all_brp (by simp only [beq_iff_eq]; exact Iff.rfl) (fun h => yes (decide_eq_true (by omega))) (fun h => ?_))
  have : powB p = false := decide_eq_false (by omega)
  rw [this]; exact all_ret ⟨[], rfl, rfl⟩
end Go.Proofs.YtplbncncnjiahaaDoor

