/- SlotFresh returns true at every input, without condition, and leaves its arguments as they were; its listed variable is tied to the program's text. -/
import Derived.Test.YtfapadgpihpmhaaDoorSxB
import Derived.Test.YtfapadgpihpmhaaDoorRows
import Derived.Test.YtfapadgpihpmhaaDoorCards
import Derived.Test.YtfapadgpihpmhaaDoorTie
import Derived.ProofKit
import Derived.LaidMore
import Derived.OpenShut
import Derived.Stop.Joined
/- Layer 13: the configuration. -/
namespace Go.Proofs.YtfapadgpihpmhaaDoor
open Go Go.Proofs.YtfapadgpihpmhaaDoor.Sx
set_option linter.unusedVariables false
/-- the package's variable, as it was laid -/
def encLook : Enc Unit := encOf 2 (fun _ => [.lit .u32 4294967295, .lit .u32 0, .lit .u32 0]) () (fun _ => rfl) (by intro env env' x vs h; simpa [DenL, Den] using h)
abbrev lookB : Blk := .ro encLook [()]
noncomputable def cfg0 : Cfg := { P := Tryd.prog, ex := fun k => match k with | .i64 => true | _ => false, gl := [(0, 0)], sm := fun _ => none }
theorem cfg0_ok : SmOk cfg0 := by intro f g h; cases h
abbrev awL (i : Nat) : T SVal := T.need true (T.ret ((List.take (1 : Nat) ([[SVal.lit IntKind.u32 (9 : Int)], [SVal.lit IntKind.u32 (5 : Int)], [SVal.lit IntKind.u32 (1633837924 : Int)], [SVal.lit IntKind.u32 (1694498816 : Int)]].getD i []) ++ List.replicate (0 : Nat) SVal.bad).getD (0 : Nat) SVal.bad))
set_option maxRecDepth 100000 in
theorem awake_val : (callF cfg0 100 8 [] [lookB]).valE = some (awL 0 = awL 0 ∧ awL 1 = awL 1 ∧ awL 2 = awL 2 ∧ awL 3 = awL 3 ∧ True, .bl true) := by kernel_rfl
noncomputable def cfg : Cfg := { P := Tryd.prog, ex := fun k => match k with | .i64 => true | _ => false, gl := [(0, 0)], sm := fun f => match f with | 8 => some (smClosed [0] [lookB] (.bl true)) | _ => none }
theorem cfg_ok : SmOk cfg := by
  intro f g h
  simp only [cfg] at h
  split at h
  · simp only [Option.some.injEq] at h; subst h
    exact smClosedE_ok cfg0_ok awake_val ⟨rfl, rfl, rfl, rfl, trivial⟩ (by kernel_rfl) rfl rfl (by intro b hb e; rw [List.mem_singleton.1 hb]; rfl)
  · cases h
end Go.Proofs.YtfapadgpihpmhaaDoor

namespace Go.Proofs.YtfapadgpihpmhaaDoor
open Go Go.Proofs.YtfapadgpihpmhaaDoor.Sx
set_option linter.unusedVariables false
set_option maxRecDepth 100000 in
theorem r4 {tick later age : Int} : callF cfg 100 4 [.int .u32 tick, .int .u32 later, .int .u16 age] [lookB] =
 
 (.br (age == (0 : Int))
 (.br (age == (0 : Int))
 (.eq (some [Blk.ro encLook [PUnit.unit]] = some [Blk.ro encLook [PUnit.unit]])
 (.ret (.bl true, [.ro encLook [PUnit.unit]])))
 (.br (age == (0 : Int))
 (.eq (some [Blk.ro encLook [PUnit.unit]] = some [Blk.ro encLook [PUnit.unit]])
 (.ret (.bl false, [.ro encLook [PUnit.unit]])))
 (.need (inR .u32 age)
 (.eq (some [Blk.ro encLook [PUnit.unit]] = some [Blk.ro encLook [PUnit.unit]])
 (.ret (.bl false, [.ro encLook [PUnit.unit]]))))))
 (.need (inR .u32 age)
 (.br (age == (0 : Int))
 (.eq (some [Blk.ro encLook [PUnit.unit]] = some [Blk.ro encLook [PUnit.unit]])
 (.ret (.bl false, [.ro encLook [PUnit.unit]])))
 (.br (age == (0 : Int))
 (.eq (some [Blk.ro encLook [PUnit.unit]] = some [Blk.ro encLook [PUnit.unit]])
 (.need (inR .u32 age)
 (.br (decide (IntKind.u32.wrap (IntKind.u32.wrap (tick + later) - tick) < age) == decide (later < age))
 (.ret (.bl false, [.ro encLook [PUnit.unit]]))
 (.ret (.bl false, [.ro encLook [PUnit.unit]])))))
 (.need (inR .u32 age)
 (.eq (some [Blk.ro encLook [PUnit.unit]] = some [Blk.ro encLook [PUnit.unit]])
 (.need (inR .u32 age)
 (.br (decide (IntKind.u32.wrap (IntKind.u32.wrap (tick + later) - tick) < age) == decide (later < age))
 (.ret (.sb (decide (IntKind.u32.wrap (later - (0 : Int)) < age) == decide (IntKind.u32.wrap (IntKind.u32.wrap (tick + later) - tick) < age)), [.ro encLook [PUnit.unit]]))
 (.ret (.bl false, [.ro encLook [PUnit.unit]])))))))))) := by kernel_rfl
end Go.Proofs.YtfapadgpihpmhaaDoor

/- SlotFresh: its call. -/
namespace Go.Proofs.YtfapadgpihpmhaaDoor
open Go Go.Proofs.YtfapadgpihpmhaaDoor.Sx
set_option linter.unusedVariables false
theorem wrap_u32 (x : Int) : IntKind.u32.wrap x = x % 4294967296 := by simp [IntKind.wrap, IntKind.signed, IntKind.bits]
theorem fresh_call {tick later age : Int} (ht : 0 ≤ tick ∧ tick ≤ 4294967295) (hl : 0 ≤ later ∧ later ≤ 4294967295) (ha : 0 ≤ age ∧ age ≤ 65535) {e : Slot} (he : e.blk = 0 ∧ e.off = 0) {w : World} (hr : Rep [e] [lookB] w) :
    Calls Tryd.prog 4 ⟨[.int .u32 tick, .int .u32 later, .int .u16 age]⟩ w (Said ⟨w, fun _ => False⟩) := by
  have h1 : IntKind.u32.wrap (IntKind.u32.wrap (tick + later) - tick) = later := by rw [wrap_u32, wrap_u32]; omega
  have h2 : IntKind.u32.wrap (later - 0) = later := by rw [wrap_u32]; omega
  refine callT (c := cfg) cfg_ok (r4 (tick := tick) (later := later) (age := age)) (by kernel_rfl) (env := [e]) (w := w) (F := fun _ => False) (by
    intro p hp
    rw [List.mem_singleton.1 hp]
    exact ⟨e, rfl, he⟩) hr (by simp [DenL, Den]) (by
    rintro x ⟨id, e', b, he', hb, hx⟩
    match id with
    | 0 => simp at hb; subst hb; cases hx
    | n + 1 => simp at hb) ?_
  rw [h1, h2]
  simp only [beq_self_eq_true]
  repeat' (first
    | refine all_brp (by simp only [beq_iff_eq]; exact Iff.rfl) (fun _ => ?_) (fun _ => ?_)
    | refine all_needp (by simp only [inR_u32]; exact Iff.rfl) ?_ (fun _ => ?_)
    | refine all_br (fun _ => ?_) (fun _ => ?_)
    | refine all_eq trivial ?_
    | refine all_eq rfl ?_
    | refine all_ret (fun _ _ _ _ _ _ => ?_))
  all_goals first
    | omega
    | exact said_of ‹_› ‹_›
    | (exfalso; omega)
    | (rename_i hf hrp hd; exact said_of hf (by simpa [Den] using hd))
    | (exfalso; simp_all; done)
end Go.Proofs.YtfapadgpihpmhaaDoor

/- Layer 13: the package's variable, and how a card is closed. -/
namespace Go.Proofs.YtfapadgpihpmhaaDoor
open Go Go.Proofs.YtfapadgpihpmhaaDoor.Sx Go.ChangeShapes Go.WideShapes Go.ChangeAt Go.RowKit
set_option linter.unusedVariables false
abbrev laid1 : List (String × DataW Unit) := [("purlin/mem.look", Rows.laid_purlin_mem_look)]
theorem Tryd.own : ownKnob Tryd.prog.godebug = none := by kernel_rfl
theorem Tryd.laidOut : laidOutB Tryd.prog = true := by kernel_rfl
theorem gLook : Tryd.prog.globalNamed "purlin/mem.look" = some 0 := by kernel_rfl
theorem tLook : (Tryd.prog.globals[0]?).map (·.type) = some 81 := by kernel_rfl
/-- the door's own heap meets the condition -/
theorem door_met (os : Os) (args : Array Value) : laidMetH Tryd.prog laid1 ((World.doorLaid Tryd.prog 400 os).forCall (fun _ _ => 0) ⟨#[], args, []⟩).memory :=
  laidMetH_of_parts3 (fuel := 8) (laidMet_of_run' 8 (by kernel_rfl) (by kernel_rfl)) (by kernel_rfl) (by kernel_rfl)
set_option maxRecDepth 100000 in
/-- what the condition gives -/
theorem of_laid {W : World} (h : laidMetH Tryd.prog laid1 W) : ∃ e : Slot, (e.blk = 0 ∧ e.off = 0) ∧ Rep [e] [lookB] W := by
  rw [MakeChecks.laidMetH_plain _ _ _ (by kernel_rfl)] at h
  obtain ⟨ps, ⟨g0, t0, cs0, f0, p0, q0, hg0, ht0, hv0, hd0, _, _⟩, _, _⟩ := h
  obtain rfl := Option.some.inj (gLook.symm.trans hg0)
  obtain rfl := Option.some.inj (tLook.symm.trans ht0)
  obtain ⟨xs, m, _, hx, hlen, hxl, hf⟩ := DataW.trod_struct Tryd.underlying81 hd0
  have hC : Tryd.prog.cellsOf 81 = 3 := by kernel_rfl
  have k32 : Tryd.prog.cellsOf 32 = 1 := by kernel_rfl
  rw [hC] at hlen
  obtain ⟨l⟩ := cs0
  simp only at hlen hf
  match l, hlen with
  | [c0, c1, c2], _ =>
    match xs, hxl, hx with
    | [y0, y1, y2], _, hx =>
      have f0 : DataW.trod _ Tryd.prog W 0 _ false m 32 (([c0, c1, c2].drop 0).take (Tryd.prog.cellsOf 32)) = some y0 := hf 0 _ rfl
      have f1 : DataW.trod _ Tryd.prog W 0 _ false m 32 (([c0, c1, c2].drop 1).take (Tryd.prog.cellsOf 32)) = some y1 := hf 1 _ rfl
      have f2 : DataW.trod _ Tryd.prog W 0 _ false m 32 (([c0, c1, c2].drop 2).take (Tryd.prog.cellsOf 32)) = some y2 := hf 2 _ rfl
      rw [k32] at f0 f1 f2
      obtain ⟨a0, h0, e0, _⟩ := DataW.trod_int Tryd.underlying32 f0
      obtain ⟨a1, h1, e1, _⟩ := DataW.trod_int Tryd.underlying32 f1
      obtain ⟨a2, h2, e2, _⟩ := DataW.trod_int Tryd.underlying32 f2
      simp at h0 h1 h2
      subst h0 h1 h2 e0 e1 e2
      simp [Rows.laid_purlin_mem_look] at hx
      obtain ⟨⟨rfl, rfl, rfl⟩, _⟩ := hx
      have hc := fun i => World.var?_cell hg0 hv0 i
      have hsz : 0 < W.heap.size := by
        have := hc 0
        simp only [World.cell?] at this
        rcases Nat.eq_zero_or_pos W.heap.size with h | h
        · rw [Array.getElem?_eq_none (by omega)] at this; simp at this
        · exact h
      refine ⟨⟨0, 0, 0⟩, ⟨rfl, rfl⟩, rfl, ?_, ?_, ?_⟩
      · intro id sl b he hb
        match id with
        | 0 =>
          simp only [List.getElem?_cons_zero, Option.some.injEq] at he hb
          subst he hb
          refine ⟨[.int .u32 4294967295, .int .u32 0, .int .u32 0], by simp [encLook, encOf, DenL, Den], fun i hi => ?_⟩
          have := hc i
          simpa using this
        | n + 1 => simp at he
      · intro i j e f b c hij he hf' hb' hc' x hx''
        match i, j with
        | 0, 0 => exact (hij rfl).elim
        | i + 1, _ => simp at he
        | 0, j + 1 => simp at hf'
      · intro id sl b he hb x hx
        match id with
        | 0 =>
          simp only [List.getElem?_cons_zero, Option.some.injEq] at he hb
          subst he hb
          simp [Blk.supp] at hx
          omega
        | n + 1 => simp at he
end Go.Proofs.YtfapadgpihpmhaaDoor

/- SlotFresh: its row and its card. -/
namespace Go.Proofs.YtfapadgpihpmhaaDoor
open Go Go.Proofs.YtfapadgpihpmhaaDoor.Sx Go.ChangeShapes Go.WideShapes Go.ChangeAt Go.RowKit
set_option linter.unusedVariables false
theorem wf_u32 {n : Int} (h : (Lit.int .u32 n).wf = true) : 0 ≤ n ∧ n ≤ 4294967295 := by simp [Lit.wf, IntKind.min, IntKind.max, IntKind.signed, IntKind.bits] at h; omega
theorem wf_u16 {n : Int} (h : (Lit.int .u16 n).wf = true) : 0 ≤ n ∧ n ≤ 65535 := by simp [Lit.wf, IntKind.min, IntKind.max, IntKind.signed, IntKind.bits] at h; omega
set_option maxRecDepth 100000 in
theorem slotFresh_lifted (os : Os) (started : os.Started) (H : Type) (enc : TypeId × Value → H) :
    ReturnsInHanded {} Tryd.checked os 4 .any (fun w args => (Rows.slotFreshSpec.pre enc Tryd.prog Tryd.f4 [] false w args ∧ laidMetH Tryd.prog laid1 w) ∧ sizedMet enc Tryd.prog Tryd.f4 (OpenSpec.ofChange Rows.slotFreshSpec) false w args)
      (Rows.slotFreshSpec.post enc Tryd.prog Tryd.f4 false true false false) := by
  refine returnsInHanded_of_change_and (C := Tryd.checked) (X := fun w _ => laidMetH Tryd.prog laid1 w) (fun _ _ _ hh h => h.of_heap hh) Tryd.own started (by kernel_rfl) Tryd.func4
    (ChangeSpec.witness_shaped (enc := enc) (C := Tryd.checked) (os := os) (X := fun w _ => laidMetH Tryd.prog laid1 w) false (World.doorLaid Tryd.prog 400 os) #[.int .u32 0, .int .u32 0, .int .u16 0] 8 rfl (World.shaped_of_RefB (by kernel_rfl) (by kernel_rfl)) (by kernel_rfl) (by kernel_rfl) (by kernel_rfl) (door_met os _)) ?_
  intro W base args ds gs before hval0 hW _ _ hL _
  have hval : ∀ (j : Nat) t v, Tryd.f4.params[j]? = some t → args[j]? = some v → Value.okWide Tryd.prog W .any base t v := hval0
  have hW' := hW
  obtain ⟨p, q, hA0, hV, rfl, hfz, hnd⟩ := hW
  have hA : DataW.TrodAll enc Tryd.prog W 0 (fun _ => true) true Tryd.f4.params.toList args.toList ds p := hA0
  rw [Tryd.params4] at hA hval
  obtain ⟨v0, v1, v2, d0, d1, d2, p0, p1, p2, rfl, rfl, rfl, h0, h1, h2⟩ := trodAll_three hA
  obtain ⟨rfl, rfl⟩ := trodVars_none hV
  obtain ⟨a, rfl, rfl, rfl, wa⟩ := open_int Tryd.underlying32 (hval 0 32 v0 rfl rfl) h0
  obtain ⟨b, rfl, rfl, rfl, wb⟩ := open_int Tryd.underlying32 (hval 1 32 v1 rfl rfl) h1
  obtain ⟨c, rfl, rfl, rfl, wc⟩ := open_int Tryd.underlying70 (hval 2 70 v2 rfl rfl) h2
  obtain ⟨e, he, hr⟩ := of_laid hL
  clear hA0 hval0
  have fin : ∀ e W', Said ⟨W, fun _ => False⟩ e W' → ∃ v, e = .returned v ∧ Rows.slotFreshSpec.post enc Tryd.prog Tryd.f4 false true false false W #[.int .u32 a, .int .u32 b, .int .u16 c] v W' := by
    rintro e W' ⟨rfl, hsz, hk, hc⟩
    have hk' : ∀ x, x < W.heap.size → W'.heap[x]? = W.heap[x]? := fun x hx => hk x hx (fun h => h)
    refine ⟨_, rfl, _, _, _, [], _, [], hW', ⟨[], [], shut_bool Tryd.underlying4 true, rfl, rfl⟩, trodAll_mk3 (shut_int Tryd.underlying32 wa) (shut_int Tryd.underlying32 wb) (shut_int Tryd.underlying70 wc), rfl, keptBut_of _ hc hk', fun h => by cases h⟩
  exact (fresh_call (wf_u32 wa) (wf_u32 wb) (wf_u16 wc) he hr).mono fun e W' h => fin e W' h
theorem slotFresh_row : Rows.SlotFreshSaid :=
  OpenClaim.holds_of_wide 4 Tryd.f4 rfl rfl rfl rfl rfl rfl rfl ⟨rfl, rfl, rfl, rfl, rfl⟩ rfl rfl rfl rfl rfl (by kernel_rfl) Tryd.func4 (by kernel_rfl)
    (of_decide_eq_true (by kernel_rfl)) (by unfold Func.isWrapper; first | (rw [if_pos (by decide +kernel)]; kernel_rfl) | (rw [if_neg (by decide +kernel)]; exact ⟨rfl, rfl⟩))
    (fun os started H enc _ => slotFresh_lifted os started H enc)
theorem slotFresh_holds : Rows.SlotFreshCardSaid :=
  Claim7.holds_tied_plain_at .later [] [.data] true _ _ slotFresh_row (fun _ h => by cases h) (by kernel_rfl) (fun _ h => by cases h) slotFresh_row_tie rfl ⟨rfl, rfl⟩ (by kernel_rfl) rfl
    (fun f fn hf hfn => by
      obtain rfl : f = 4 := Option.some.inj ((show Tryd.prog.funcNamed "purlin/purlinlaw13.SlotFresh" = some 4 by kernel_rfl).symm.trans hf) |>.symm
      obtain rfl : fn = Tryd.f4 := (Option.some.inj (Tryd.func4.symm.trans hfn)).symm
      exact ⟨by kernel_rfl, fun j t ht => by
        rw [Tryd.params4] at ht
        have hm : t ∈ [32, 32, 70] := by simpa using Array.mem_of_getElem? ht
        have hall : ([32, 32, 70].all fun u => !Tryd.prog.wantsStandIn u) = true := by kernel_rfl
        exact (show Tryd.prog.wantsStandIn t = false by simpa using List.all_eq_true.1 hall t hm)⟩)
    (by kernel_rfl)
end Go.Proofs.YtfapadgpihpmhaaDoor

