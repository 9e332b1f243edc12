/- PortRing: calls that pass through a port and a ring agree. -/
import Derived.Test.YtdadfgeepinpbaaDoorSxC
import Derived.Test.YtdadfgeepinpbaaDoorPga
import Derived.Test.YtdadfgeepinpbaaDoorCards
import Derived.Test.YtdadfgeepinpbaaDoorTie
import Derived.ProofKit
import Derived.LaidMore
import Derived.OpenShut
import Derived.Stop.Joined
/- Layer 19: the package's variable, and how a card is closed. -/
namespace Go.Proofs.YtdadfgeepinpbaaDoor
open Go Go.Proofs.YtdadfgeepinpbaaDoor.Sx Go.ChangeShapes Go.WideShapes Go.ChangeAt Go.RowKit
set_option linter.unusedVariables false
abbrev laid1 : List (String × DataW Unit) := [("purlin/mem.look", Rows.laid_purlin_mem_look)]
theorem Tryd.own : ownKnob Tryd.prog.godebug = none := by kernel_rfl
theorem Tryd.laidOut : laidOutB Tryd.prog = true := by kernel_rfl
theorem gLook : Tryd.prog.globalNamed "purlin/mem.look" = some 0 := by kernel_rfl
theorem tLook : (Tryd.prog.globals[0]?).map (·.type) = some 115 := by kernel_rfl
/-- the door's own heap meets the condition -/
theorem door_met (os : Os) (args : Array Value) : laidMetH Tryd.prog laid1 ((World.doorLaid Tryd.prog 400 os).forCall (fun _ _ => 0) ⟨#[], args, []⟩).memory :=
  laidMetH_of_parts3 (fuel := 8) (laidMet_of_run' 8 (by kernel_rfl) (by kernel_rfl)) (by kernel_rfl) (by kernel_rfl)
set_option maxRecDepth 100000 in
/-- what the condition gives -/
theorem of_laid {W : World} (h : laidMetH Tryd.prog laid1 W) : ∃ e : Slot, (e.blk = 0 ∧ e.off = 0) ∧ Rep [e] [lookB] W := by
  rw [MakeChecks.laidMetH_plain _ _ _ (by kernel_rfl)] at h
  obtain ⟨ps, ⟨g0, t0, cs0, f0, p0, q0, hg0, ht0, hv0, hd0, _, _⟩, _, _⟩ := h
  obtain rfl := Option.some.inj (gLook.symm.trans hg0)
  obtain rfl := Option.some.inj (tLook.symm.trans ht0)
  obtain ⟨xs, m, _, hx, hlen, hxl, hf⟩ := DataW.trod_struct Tryd.underlying115 hd0
  have hC : Tryd.prog.cellsOf 115 = 3 := by kernel_rfl
  have k35 : Tryd.prog.cellsOf 35 = 1 := by kernel_rfl
  rw [hC] at hlen
  obtain ⟨l⟩ := cs0
  simp only at hlen hf
  match l, hlen with
  | [c0, c1, c2], _ =>
    match xs, hxl, hx with
    | [y0, y1, y2], _, hx =>
      have f0 : DataW.trod _ Tryd.prog W 0 _ false m 35 (([c0, c1, c2].drop 0).take (Tryd.prog.cellsOf 35)) = some y0 := hf 0 _ rfl
      have f1 : DataW.trod _ Tryd.prog W 0 _ false m 35 (([c0, c1, c2].drop 1).take (Tryd.prog.cellsOf 35)) = some y1 := hf 1 _ rfl
      have f2 : DataW.trod _ Tryd.prog W 0 _ false m 35 (([c0, c1, c2].drop 2).take (Tryd.prog.cellsOf 35)) = some y2 := hf 2 _ rfl
      rw [k35] at f0 f1 f2
      obtain ⟨a0, h0, e0, _⟩ := DataW.trod_int Tryd.underlying35 f0
      obtain ⟨a1, h1, e1, _⟩ := DataW.trod_int Tryd.underlying35 f1
      obtain ⟨a2, h2, e2, _⟩ := DataW.trod_int Tryd.underlying35 f2
      simp at h0 h1 h2
      subst h0 h1 h2 e0 e1 e2
      simp [Rows.laid_purlin_mem_look] at hx
      obtain ⟨⟨rfl, rfl, rfl⟩, _⟩ := hx
      have hc := fun i => World.var?_cell hg0 hv0 i
      have hsz : 0 < W.heap.size := by
        have := hc 0
        simp only [World.cell?] at this
        rcases Nat.eq_zero_or_pos W.heap.size with h | h
        · rw [Array.getElem?_eq_none (by omega)] at this; simp at this
        · exact h
      refine ⟨⟨0, 0, 0, []⟩, ⟨rfl, rfl⟩, rfl, ?_, ?_, ?_⟩
      · intro id sl b he hb
        match id with
        | 0 =>
          simp only [List.getElem?_cons_zero, Option.some.injEq] at he hb
          subst he hb
          refine ⟨[.int .u32 4294967295, .int .u32 0, .int .u32 0], by simp [encLook, encOf, DenL, Den], fun i hi => ?_⟩
          have := hc i
          simpa using this
        | n + 1 => simp at he
      · intro i j e f b c hij he hf' hb' hc' x hx''
        match i, j with
        | 0, 0 => exact (hij rfl).elim
        | i + 1, _ => simp at he
        | 0, j + 1 => simp at hf'
      · intro id sl b he hb x hx
        match id with
        | 0 =>
          simp only [List.getElem?_cons_zero, Option.some.injEq] at he hb
          subst he hb
          simp [Blk.supp] at hx
          omega
        | n + 1 => simp at he
end Go.Proofs.YtdadfgeepinpbaaDoor

/- PortRing: pieces and states. -/
namespace Go.Proofs.YtdadfgeepinpbaaDoor
open Go Go.Proofs.YtdadfgeepinpbaaDoor.Sx
set_option linter.unusedVariables false
structure U32 where
  v : Int
  h : 0 ≤ v ∧ v < 4294967296
theorem u0_h : (0 : Int) ≤ 0 ∧ (0 : Int) < 4294967296 := by omega
structure Cal where
  k : Int
  s : ByteArray
  t : U32
def encCal : Enc Cal := encOf 2 (fun x => [.int .i64 x.k, .str x.s, .int .u32 x.t.v]) ⟨0, ⟨⟨[]⟩⟩, ⟨0, u0_h⟩⟩ (fun _ => rfl) (by intro env env' x vs h; simpa [DenL, Den] using h)
/-- what comes in -/
structure InG where
  first : Int
  depth : Int
  cs : List Cal
  c : Nat
abbrev csV (q : InG) (i : Nat) : SVal := .sli i (.c 0) 3 (.v q.cs.length) (some (.v q.c))
abbrev s0G (q : InG) : St := [lookB, .ro encCal q.cs]
abbrev argG (q : InG) : List SVal := [.int .u32 q.first, .int .u8 q.depth, csV q 1]
noncomputable def b4 : Code := Tryd.f4.body.getD .skip
noncomputable def c4 : Code := restC 5 b4
noncomputable def reg4 : Code := lft (lft c4)
noncomputable def blk4 : Code := rgt (lft c4)
noncomputable def round4 : Code := lft (lft blk4)
noncomputable def tm4 : Code := lft round4
noncomputable def bb4 : Code := lft (lft (rgt round4))
noncomputable def inc4 : Code := rgt (rgt round4)
noncomputable def end4 : Code := rgt c4
noncomputable def sel4 : Code := lft (lft (restC 1 bb4))
noncomputable def cnd4 : Code := rgt (lft (restC 1 bb4))
noncomputable def snd4 : Code := lft cnd4
noncomputable def rcv4 : Code := restC 2 bb4
/-- a call, its text cut -/
structure Cut where
  k : Int
  s : ByteArray
  t : Int
abbrev calB (x : Cut) : Blk := .own [.c (.int .i64 x.k), .c (.str x.s), .c (.int .u32 x.t)] 37
/-- the port, its queue, the calls -/
abbrev tlG (k : Nat) (q : InG) (Q : List ByteArray) (d : Int) : St := [.own [.c (.ifc 78 (.ptr (k + 1) 0)), .c (.int .i64 5)] 84, .own [.c (.sli (k + 2) (.c 0) 1 (.v Q.length) none), .c (.int .i64 d)] 80, .vec encStr Q 9, .ro encCal q.cs]
abbrev sG (q : InG) (l : List Int) (c : Int) (Q : List ByteArray) (d : Int) : St := memS 40 l c ++ tlG 3 q Q d
abbrev sGc (q : InG) (l : List Int) (c : Int) (Q : List ByteArray) (d : Int) (x : Cut) : St := memS 40 l c ++ tlG 3 q Q d ++ [calB x]
abbrev sGs (q : InG) (l : List Int) (c : Int) (f : Nat) (x : Snd) (ms : List ByteArray) (Q : List ByteArray) (d : Int) (e : Cut) : St := memS 40 l c ++ sndS f 3 x ms ++ tlG 6 q Q d ++ [calB e]
abbrev sGr (q : InG) (l : List Int) (c : Int) (f : Nat) (y : Rcv) (Q : List ByteArray) (d : Int) (e : Cut) : St := memS 40 l c ++ rcvS f 3 y ++ tlG 6 q Q d
abbrev v4 (q : InG) (k : Nat) (d : Int) : List SVal := [csV q (k + 3), .int .i64 d, .ptr k 0, .ptr 2 0]
abbrev v4i (q : InG) (k : Nat) (d : Int) (i : Nat) : List SVal := v4 q k d ++ [.int .i64 (i : Nat)]
abbrev n4 : List Nat := [2, 7, 8, 10]
abbrev n4i : List Nat := [2, 7, 8, 10, 12]
abbrev n4x : List Nat := [2, 7, 8, 10, 12, 13]
abbrev n4k : List Nat := [2, 7, 8, 10, 12, 13, 87]
abbrev n4s : List Nat := [2, 7, 8, 10, 12, 13, 14]
abbrev n4se : List Nat := [2, 7, 8, 10, 12, 13, 14, 15]
abbrev n4sn : List Nat := [2, 7, 8, 10, 12, 13, 14, 16]
abbrev n4r : List Nat := [2, 7, 8, 10, 12, 18]
abbrev n4re : List Nat := [2, 7, 8, 10, 12, 18, 19]
abbrev n4rn : List Nat := [2, 7, 8, 10, 12, 18, 20]
noncomputable def cfgW : Cfg := { P := Tryd.prog, ex := exI, gl := [(0, 0)], sm := fun f => match f with
  | 40 => some (smPre 1 gWords)
  | _ => none }
theorem cfgW_ok : SmOk cfgW := by
  intro f g h
  simp only [cfgW] at h
  split at h
  · simp only [Option.some.injEq] at h; subst h
    exact smPre_ok (c := cfgM) (gl_lt (by omega)) gWords_ok
  · cases h
noncomputable def ssr4 : Code := lft (lft (restC 3 snd4))
noncomputable def ssb4 : Code := rgt (lft (restC 3 snd4))
noncomputable def sround4 : Code := lft (lft ssb4)
noncomputable def stm4 : Code := lft sround4
noncomputable def sinc4 : Code := rgt (rgt sround4)
noncomputable def send4 : Code := rgt (restC 3 snd4)
noncomputable def rrr4 : Code := lft (lft (restC 2 rcv4))
noncomputable def rrb4 : Code := rgt (lft (restC 2 rcv4))
noncomputable def rround4 : Code := lft (lft rrb4)
noncomputable def rtm4 : Code := lft rround4
noncomputable def rinc4 : Code := rgt (rgt rround4)
noncomputable def rend4 : Code := rgt (restC 2 rcv4)
theorem gl_lt19 {k : Nat} (h : 0 < k) : ∀ p ∈ cfgK.gl, p.2 < k := by
  intro p hp
  rw [List.mem_singleton.1 hp]; exact h
theorem roPlain {S S' : St} (h0 : S'[0]? = S[0]?) (h : ∀ i, 0 < i → ∀ b, S'[i]? = some b → plainB b = true) : roSame S S' := by
  intro i b hb
  by_cases hi : i = 0
  · subst hi; exact .inr (by rw [← h0]; exact hb)
  · exact .inl (plainB_ok (h i (by omega) b hb))
abbrev sGsS (q : InG) (l : List Int) (c : Int) (f : Nat) (x : Snd) (ms : List ByteArray) (Q : List ByteArray) (d : Int) (e : Cut) : St := memS 40 l c ++ [.own [.c (.int .i64 x.at'), .c (.int .i64 x.n), .c (.int .i64 x.z), .c (.fn (.func f) [.ptr 3 0] []), .c (.int .u32 x.head), .c (.int .u32 x.tail), .c (.int .i64 x.did), .c (.sli 4 (.c 0) 1 (.v ms.length) none), .c (.sli 11 (.c 0) 1 (.v x.sent.length) none)] 124, .vec encStr ms 9, .gone] ++ (tlG 6 q Q d ++ [calB e] ++ [.vec encBool x.sent 4])
abbrev sGrR (q : InG) (l : List Int) (c : Int) (f : Nat) (y : Rcv) (Q : List ByteArray) (d : Int) (e : Cut) : St := memS 40 l c ++ [.own [.c (.int .i64 y.at'), .c (.int .i64 y.n), .c (.int .i64 y.z), .c (.fn (.func f) [.ptr 3 0] []), .c (.int .u32 y.head), .c (.int .u32 y.tail), .c (.int .i64 y.did), .c (.int .i64 y.times), .c (.int .i64 y.ln), .c (.sli 10 (.c 0) 1 (.v y.b.length) none), .c (.sli 11 (.c 0) 1 (.v y.got.length) none)] 127, .gone, .gone] ++ (tlG 6 q Q d ++ [.vec (encInt .u8) y.b 5, .vec encStr y.got 9])
set_option maxRecDepth 100000 in
theorem stepS {q : InG} {w : List Int} {c : Int} {x : Snd} {L Q : List ByteArray} {d : Int} {e : Cut} (h : SOk 40 w c x L ∧ x.p ≤ 3) (env : Env) (W : World) (vs : List Value) (hg : GlOk cfgK.gl env) (hr : Rep env (sGs q w c (sfn x.p) x L Q d e) W) (hd : DenL env [.ptr 3 0, .ptr 2 0] vs) :
    Calls cfgK.P 21 ⟨vs⟩ W (Ends1 env (sGs q w c (sfn x.p) x L Q d e) W (.sb (sStill (sNext x L w).1 L)) (sGsS q (sNext x L w).2 (sC x L c) (sfn (sNext x L w).1.p) (sNext x L w).1 L Q d e)) := by
  have hs := s_step h.1 h.2
  unfold SStep at hs
  generalize hx' : (sNext x L w).1 = x' at *
  generalize hw' : (sNext x L w).2 = w' at *
  generalize hc' : sC x L c = c' at *
  have hf := frameNew (c := cfgK) (n := 1) hs (tlG 6 q Q d ++ [calB e]) rfl rfl (gl_lt19 (by simp)) (by kernel_rfl) (Sa := memS 40 w' c' ++ [.own [.c (.int .i64 x'.at'), .c (.int .i64 x'.n), .c (.int .i64 x'.z), .c (.fn (.func (sfn x'.p)) [.ptr 3 0] []), .c (.int .u32 x'.head), .c (.int .u32 x'.tail), .c (.int .i64 x'.did), .c (.sli 4 (.c 0) 1 (.v L.length) none), .c (.sli 11 (.c 0) 1 (.v x'.sent.length) none)] 124, .vec encStr L 9, .gone]) (Sb := [.vec encBool x'.sent 4]) (s' := .sb (sStill x' L)) (by kernel_rfl) (by kernel_rfl) rfl
    (roPlain rfl (by
      intro i hi b hb
      match i, hi with
      | 1, _ => simp at hb; subst hb; rfl
      | 2, _ => simp at hb; subst hb; rfl
      | 3, _ => simp at hb; subst hb; rfl
      | 4, _ => simp at hb; subst hb; rfl
      | 5, _ => simp at hb; subst hb; rfl
      | n + 6, _ => simp at hb)) (by intro b hb; rw [List.mem_singleton.1 hb]; rfl) rfl
  exact hf env W vs hg hr hd
set_option maxRecDepth 100000 in
theorem stepR {q : InG} {w : List Int} {c : Int} {y : Rcv} {Q : List ByteArray} {d : Int} {e : Cut} (h : ROk 40 w c y ∧ y.p ≤ 3) (env : Env) (W : World) (vs : List Value) (hg : GlOk cfgK.gl env) (hr : Rep env (sGr q w c (rfn y.p) y Q d e) W) (hd : DenL env [.ptr 3 0, .ptr 2 0] vs) :
    Calls cfgK.P 25 ⟨vs⟩ W (Ends1 env (sGr q w c (rfn y.p) y Q d e) W (.sb (rStill (rNext y w).1)) (sGrR q (rNext y w).2 (rC y c) (rfn (rNext y w).1.p) (rNext y w).1 Q d e)) := by
  have hs := r_step h.1 h.2
  unfold RStep at hs
  generalize hx' : (rNext y w).1 = y' at *
  generalize hw' : (rNext y w).2 = w' at *
  generalize hc' : rC y c = c' at *
  have hf := frameNew (c := cfgK) (n := 2) hs (tlG 6 q Q d) rfl rfl (gl_lt19 (by simp)) (by kernel_rfl) (Sa := memS 40 w' c' ++ [.own [.c (.int .i64 y'.at'), .c (.int .i64 y'.n), .c (.int .i64 y'.z), .c (.fn (.func (rfn y'.p)) [.ptr 3 0] []), .c (.int .u32 y'.head), .c (.int .u32 y'.tail), .c (.int .i64 y'.did), .c (.int .i64 y'.times), .c (.int .i64 y'.ln), .c (.sli 10 (.c 0) 1 (.v y'.b.length) none), .c (.sli 11 (.c 0) 1 (.v y'.got.length) none)] 127, .gone, .gone]) (Sb := [.vec (encInt .u8) y'.b 5, .vec encStr y'.got 9]) (s' := .sb (rStill y')) (by kernel_rfl) (by kernel_rfl) rfl
    (roPlain rfl (by
      intro i hi b hb
      match i, hi with
      | 1, _ => simp at hb; subst hb; rfl
      | 2, _ => simp at hb; subst hb; rfl
      | 3, _ => simp at hb; subst hb; rfl
      | 4, _ => simp at hb; subst hb; rfl
      | 5, _ => simp at hb; subst hb; rfl
      | n + 6, _ => simp at hb)) (by
      intro b hb
      simp only [List.mem_cons, List.not_mem_nil, or_false] at hb
      rcases hb with rfl | rfl <;> rfl) rfl
  exact hf env W vs hg hr hd
/-- a side's step, what it comes to named -/
noncomputable def cfgSs (S S' : St) (b : Bool) (P : Prop) : Cfg := { P := Tryd.prog, ex := exI, gl := [(0, 0)], sm := fun F => match F with
  | 21 => some (smEq [.ptr 3 0, .ptr 2 0] S P (.sb b) S')
  | _ => none }
theorem cfgSs_ok {S S' : St} {b : Bool} {P : Prop} (hC : P → ∀ (env : Env) (w : World) (vs : List Value), GlOk cfgK.gl env → Rep env S w → DenL env [.ptr 3 0, .ptr 2 0] vs → Calls cfgK.P 21 ⟨vs⟩ w (Ends1 env S w (.sb b) S')) : SmOk (cfgSs S S' b P) := by
  intro F G h
  simp only [cfgSs] at h
  split at h
  · simp only [Option.some.injEq] at h; subst h
    exact smEq_ok (c := cfgSs S S' b P) hC
  · cases h
noncomputable def cfgRs (S S' : St) (b : Bool) (P : Prop) : Cfg := { P := Tryd.prog, ex := exI, gl := [(0, 0)], sm := fun F => match F with
  | 25 => some (smEq [.ptr 3 0, .ptr 2 0] S P (.sb b) S')
  | _ => none }
theorem cfgRs_ok {S S' : St} {b : Bool} {P : Prop} (hC : P → ∀ (env : Env) (w : World) (vs : List Value), GlOk cfgK.gl env → Rep env S w → DenL env [.ptr 3 0, .ptr 2 0] vs → Calls cfgK.P 25 ⟨vs⟩ w (Ends1 env S w (.sb b) S')) : SmOk (cfgRs S S' b P) := by
  intro F G h
  simp only [cfgRs] at h
  split at h
  · simp only [Option.some.injEq] at h; subst h
    exact smEq_ok (c := cfgRs S S' b P) hC
  · cases h
end Go.Proofs.YtdadfgeepinpbaaDoor

namespace Go.Proofs.YtdadfgeepinpbaaDoor
open Go Go.Proofs.YtdadfgeepinpbaaDoor.Sx
set_option linter.unusedVariables false
set_option maxRecDepth 100000 in
theorem g_a {q : InG} : (execN cfg 100 2 b4 (argG q ++ List.replicate 179 .bad) (s0G q)).bind (canonK 2 [(0,0)] 182 [0, 2, 7]) =
 

 (.need (true)

 (.need (inR .u64 (q.2.tmod (4 : Int)))

 (.need (decide ((0 : Int) ≤ q.2.tmod (4 : Int)))

 (.ret (.normal, [.int .u32 q.1, .sli 1 (.c 0) 3 (.v q.3.length) (some (.v q.4)), .int .i64 (IntKind.i64.wrap ((1 : Int) * (2 : Int) ^ min (q.2.tmod (4 : Int)).toNat 64))], [.ro encLook [PUnit.unit], .ro encCal q.3]))))) := by kernel_rfl
set_option maxRecDepth 100000 in
theorem g_b {q : InG} {d : Int} : (execN cfg 100 3 (restC 2 b4) (fr 182 [0, 2, 7] [.int .u32 q.first, csV q 1, .int .i64 d]) (s0G q)).bind (canonK 0 [(0,0)] 182 n4) =
 

 (.br (decide ((0 : Int) < IntKind.u8.wrap d))

 (.br (decide (IntKind.u8.wrap d ≤ (16 : Int)))

 (.br (bitop BinOp.and IntKind.u8 (IntKind.u8.wrap d) (IntKind.u8.wrap (IntKind.u8.wrap d - (1 : Int))) == (0 : Int))

 (.need (inR .i64 (IntKind.u8.wrap d))

 (.eq (some [Blk.ro encLook [PUnit.unit]] = some [Blk.ro encLook [PUnit.unit]])

 (.need (true)

 (.need (true)

 (.need (true)
 (.eq (T.ret (SVal.int IntKind.u32 q.1) = T.ret (SVal.int IntKind.u32 q.1))
 (.eq (T.ret (SVal.int IntKind.u32 (bitop BinOp.or IntKind.u32 (0 : Int) q.1)) = T.ret (SVal.int IntKind.u32 (bitop BinOp.or IntKind.u32 (0 : Int) q.1)))

 (.need (true)

 (.need (true)

 (.need (true)
 (.eq (T.ret (SVal.int IntKind.u32 q.1) = T.ret (SVal.int IntKind.u32 q.1))
 (.eq (T.ret (SVal.int IntKind.u32 (bitop BinOp.or IntKind.u32 (0 : Int) q.1)) = T.ret (SVal.int IntKind.u32 (bitop BinOp.or IntKind.u32 (0 : Int) q.1)))

 (.ret (.normal, [.sli 1 (.c 0) 3 (.v q.3.length) (some (.v q.4)), .int .i64 d, .ptr 2 0, .ptr 4 0], [.ro encLook [PUnit.unit], .ro encCal q.3, .own [.c (.ifc 78 (.ptr 3 0)), .c (.lit .i64 (5 : Int))] 84, .own [.c .snil, .c (.int .i64 (IntKind.u8.wrap d))] 80, .own [.c (.sli 5 (.c 0) 1 (.c 40) (some (.c 40))), .c (.lit .i64 (2 : Int))] 90, .own [.c (.int .u32 (IntKind.u32.wrap (bitop BinOp.or IntKind.u32 (0 : Int) q.1 + (0 : Int)))), .c (.int .u32 (IntKind.u32.wrap (bitop BinOp.or IntKind.u32 (0 : Int) q.1 + (0 : Int)))), .c (.lit .u32 (0 : Int)), .c (.lit .u32 (0 : Int)), .c (.lit .u32 (0 : Int)), .c (.lit .u32 (0 : Int)), .c (.lit .u32 (0 : Int)), .c (.lit .u32 (0 : Int)), .c (.lit .u32 (0 : Int)), .c (.lit .u32 (0 : Int)), .c (.lit .u32 (0 : Int)), .c (.lit .u32 (0 : Int)), .c (.lit .u32 (0 : Int)), .c (.lit .u32 (0 : Int)), .c (.lit .u32 (0 : Int)), .c (.lit .u32 (0 : Int)), .c (.lit .u32 (0 : Int)), .c (.lit .u32 (0 : Int)), .c (.lit .u32 (0 : Int)), .c (.lit .u32 (0 : Int)), .c (.lit .u32 (0 : Int)), .c (.lit .u32 (0 : Int)), .c (.lit .u32 (0 : Int)), .c (.lit .u32 (0 : Int)), .c (.lit .u32 (0 : Int)), .c (.lit .u32 (0 : Int)), .c (.lit .u32 (0 : Int)), .c (.lit .u32 (0 : Int)), .c (.lit .u32 (0 : Int)), .c (.lit .u32 (0 : Int)), .c (.lit .u32 (0 : Int)), .c (.lit .u32 (0 : Int)), .c (.lit .u32 (0 : Int)), .c (.lit .u32 (0 : Int)), .c (.lit .u32 (0 : Int)), .c (.lit .u32 (0 : Int)), .c (.lit .u32 (0 : Int)), .c (.lit .u32 (0 : Int)), .c (.lit .u32 (0 : Int)), .c (.lit .u32 (0 : Int))] 35]))))))))))))))

 (.eq (some [Blk.ro encLook [PUnit.unit]] = some [Blk.ro encLook [PUnit.unit]])

 (.ret (.ret, [.sli 1 (.c 0) 3 (.v q.3.length) (some (.v q.4)), .int .i64 d, .pnil, .ptr 2 0], [.ro encLook [PUnit.unit], .ro encCal q.3, .own [.c (.sli 3 (.c 0) 1 (.c 40) (some (.c 40))), .c (.lit .i64 (0 : Int))] 90, .own [.c (.lit .u32 (0 : Int)), .c (.lit .u32 (0 : Int)), .c (.lit .u32 (0 : Int)), .c (.lit .u32 (0 : Int)), .c (.lit .u32 (0 : Int)), .c (.lit .u32 (0 : Int)), .c (.lit .u32 (0 : Int)), .c (.lit .u32 (0 : Int)), .c (.lit .u32 (0 : Int)), .c (.lit .u32 (0 : Int)), .c (.lit .u32 (0 : Int)), .c (.lit .u32 (0 : Int)), .c (.lit .u32 (0 : Int)), .c (.lit .u32 (0 : Int)), .c (.lit .u32 (0 : Int)), .c (.lit .u32 (0 : Int)), .c (.lit .u32 (0 : Int)), .c (.lit .u32 (0 : Int)), .c (.lit .u32 (0 : Int)), .c (.lit .u32 (0 : Int)), .c (.lit .u32 (0 : Int)), .c (.lit .u32 (0 : Int)), .c (.lit .u32 (0 : Int)), .c (.lit .u32 (0 : Int)), .c (.lit .u32 (0 : Int)), .c (.lit .u32 (0 : Int)), .c (.lit .u32 (0 : Int)), .c (.lit .u32 (0 : Int)), .c (.lit .u32 (0 : Int)), .c (.lit .u32 (0 : Int)), .c (.lit .u32 (0 : Int)), .c (.lit .u32 (0 : Int)), .c (.lit .u32 (0 : Int)), .c (.lit .u32 (0 : Int)), .c (.lit .u32 (0 : Int)), .c (.lit .u32 (0 : Int)), .c (.lit .u32 (0 : Int)), .c (.lit .u32 (0 : Int)), .c (.lit .u32 (0 : Int)), .c (.lit .u32 (0 : Int))] 35]))))

 (.eq (some [Blk.ro encLook [PUnit.unit]] = some [Blk.ro encLook [PUnit.unit]])

 (.ret (.ret, [.sli 1 (.c 0) 3 (.v q.3.length) (some (.v q.4)), .int .i64 d, .pnil, .ptr 2 0], [.ro encLook [PUnit.unit], .ro encCal q.3, .own [.c (.sli 3 (.c 0) 1 (.c 40) (some (.c 40))), .c (.lit .i64 (0 : Int))] 90, .own [.c (.lit .u32 (0 : Int)), .c (.lit .u32 (0 : Int)), .c (.lit .u32 (0 : Int)), .c (.lit .u32 (0 : Int)), .c (.lit .u32 (0 : Int)), .c (.lit .u32 (0 : Int)), .c (.lit .u32 (0 : Int)), .c (.lit .u32 (0 : Int)), .c (.lit .u32 (0 : Int)), .c (.lit .u32 (0 : Int)), .c (.lit .u32 (0 : Int)), .c (.lit .u32 (0 : Int)), .c (.lit .u32 (0 : Int)), .c (.lit .u32 (0 : Int)), .c (.lit .u32 (0 : Int)), .c (.lit .u32 (0 : Int)), .c (.lit .u32 (0 : Int)), .c (.lit .u32 (0 : Int)), .c (.lit .u32 (0 : Int)), .c (.lit .u32 (0 : Int)), .c (.lit .u32 (0 : Int)), .c (.lit .u32 (0 : Int)), .c (.lit .u32 (0 : Int)), .c (.lit .u32 (0 : Int)), .c (.lit .u32 (0 : Int)), .c (.lit .u32 (0 : Int)), .c (.lit .u32 (0 : Int)), .c (.lit .u32 (0 : Int)), .c (.lit .u32 (0 : Int)), .c (.lit .u32 (0 : Int)), .c (.lit .u32 (0 : Int)), .c (.lit .u32 (0 : Int)), .c (.lit .u32 (0 : Int)), .c (.lit .u32 (0 : Int)), .c (.lit .u32 (0 : Int)), .c (.lit .u32 (0 : Int)), .c (.lit .u32 (0 : Int)), .c (.lit .u32 (0 : Int)), .c (.lit .u32 (0 : Int)), .c (.lit .u32 (0 : Int))] 35]))))

 (.eq (some [Blk.ro encLook [PUnit.unit]] = some [Blk.ro encLook [PUnit.unit]])

 (.ret (.ret, [.sli 1 (.c 0) 3 (.v q.3.length) (some (.v q.4)), .int .i64 d, .pnil, .ptr 2 0], [.ro encLook [PUnit.unit], .ro encCal q.3, .own [.c (.sli 3 (.c 0) 1 (.c 40) (some (.c 40))), .c (.lit .i64 (0 : Int))] 90, .own [.c (.lit .u32 (0 : Int)), .c (.lit .u32 (0 : Int)), .c (.lit .u32 (0 : Int)), .c (.lit .u32 (0 : Int)), .c (.lit .u32 (0 : Int)), .c (.lit .u32 (0 : Int)), .c (.lit .u32 (0 : Int)), .c (.lit .u32 (0 : Int)), .c (.lit .u32 (0 : Int)), .c (.lit .u32 (0 : Int)), .c (.lit .u32 (0 : Int)), .c (.lit .u32 (0 : Int)), .c (.lit .u32 (0 : Int)), .c (.lit .u32 (0 : Int)), .c (.lit .u32 (0 : Int)), .c (.lit .u32 (0 : Int)), .c (.lit .u32 (0 : Int)), .c (.lit .u32 (0 : Int)), .c (.lit .u32 (0 : Int)), .c (.lit .u32 (0 : Int)), .c (.lit .u32 (0 : Int)), .c (.lit .u32 (0 : Int)), .c (.lit .u32 (0 : Int)), .c (.lit .u32 (0 : Int)), .c (.lit .u32 (0 : Int)), .c (.lit .u32 (0 : Int)), .c (.lit .u32 (0 : Int)), .c (.lit .u32 (0 : Int)), .c (.lit .u32 (0 : Int)), .c (.lit .u32 (0 : Int)), .c (.lit .u32 (0 : Int)), .c (.lit .u32 (0 : Int)), .c (.lit .u32 (0 : Int)), .c (.lit .u32 (0 : Int)), .c (.lit .u32 (0 : Int)), .c (.lit .u32 (0 : Int)), .c (.lit .u32 (0 : Int)), .c (.lit .u32 (0 : Int)), .c (.lit .u32 (0 : Int)), .c (.lit .u32 (0 : Int))] 35])))) := by kernel_rfl
set_option maxRecDepth 100000 in
theorem g_reg {q : InG} {l : List Int} {c : Int} {Q : List ByteArray} {d : Int} : (exec cfgM 100 reg4 (fr 182 n4 (v4 q 3 d)) (sG q l c Q d)).bind (canonK 7 [(0,0)] 182 n4i) =
 

 (.ret (.normal, [.sli 6 (.c 0) 3 (.v q.3.length) (some (.v q.4)), .int .i64 d, .ptr 3 0, .ptr 2 0, .lit .i64 (0 : Int)], [.ro encLook [PUnit.unit], .own [.a (encInt IntKind.u32) 40 l] 35, .own [.c (.sli 1 (.c 0) 1 (.v 40) (some (.v 40))), .c (.int .i64 c)] 90, .own [.c (.ifc 78 (.ptr 4 0)), .c (.int .i64 (5 : Int))] 84, .own [.c (.sli 5 (.c 0) 1 (.v Q.length) none), .c (.int .i64 d)] 80, .vec encStr Q 9, .ro encCal q.3])) := by kernel_rfl
set_option maxRecDepth 100000 in
theorem g_tm {q : InG} {l : List Int} {c : Int} {Q : List ByteArray} {d : Int} {i : Nat} : (exec cfgM 100 tm4 (fr 182 n4i (v4i q 3 d i)) (sG q l c Q d)).bind (canonK 7 [(0,0)] 182 n4i) =
 

 (.br (decide ((↑i : Int) < (↑q.3.length : Int)))

 (.br (decide ((↑i : Int) < (40 : Int)))

 (.ret (.normal, [.sli 6 (.c 0) 3 (.v q.3.length) (some (.v q.4)), .int .i64 d, .ptr 3 0, .ptr 2 0, .int .i64 (↑i : Int)], [.ro encLook [PUnit.unit], .own [.a (encInt IntKind.u32) 40 l] 35, .own [.c (.sli 1 (.c 0) 1 (.v 40) (some (.v 40))), .c (.int .i64 c)] 90, .own [.c (.ifc 78 (.ptr 4 0)), .c (.int .i64 (5 : Int))] 84, .own [.c (.sli 5 (.c 0) 1 (.v Q.length) none), .c (.int .i64 d)] 80, .vec encStr Q 9, .ro encCal q.3]))

 (.ret (.exit 0, [.sli 6 (.c 0) 3 (.v q.3.length) (some (.v q.4)), .int .i64 d, .ptr 3 0, .ptr 2 0, .int .i64 (↑i : Int)], [.ro encLook [PUnit.unit], .own [.a (encInt IntKind.u32) 40 l] 35, .own [.c (.sli 1 (.c 0) 1 (.v 40) (some (.v 40))), .c (.int .i64 c)] 90, .own [.c (.ifc 78 (.ptr 4 0)), .c (.int .i64 (5 : Int))] 84, .own [.c (.sli 5 (.c 0) 1 (.v Q.length) none), .c (.int .i64 d)] 80, .vec encStr Q 9, .ro encCal q.3])))

 (.ret (.exit 0, [.sli 6 (.c 0) 3 (.v q.3.length) (some (.v q.4)), .int .i64 d, .ptr 3 0, .ptr 2 0, .int .i64 (↑i : Int)], [.ro encLook [PUnit.unit], .own [.a (encInt IntKind.u32) 40 l] 35, .own [.c (.sli 1 (.c 0) 1 (.v 40) (some (.v 40))), .c (.int .i64 c)] 90, .own [.c (.ifc 78 (.ptr 4 0)), .c (.int .i64 (5 : Int))] 84, .own [.c (.sli 5 (.c 0) 1 (.v Q.length) none), .c (.int .i64 d)] 80, .vec encStr Q 9, .ro encCal q.3]))) := by kernel_rfl
set_option maxRecDepth 100000 in
theorem g_few {q : InG} {l : List Int} {c : Int} {Q : List ByteArray} {d : Int} {i : Nat} : (execN cfgM 100 1 bb4 (fr 182 n4i (v4i q 3 d i)) (sG q l c Q d)).bind (canonK 7 [(0,0)] 182 n4x) =
 

 (.need (decide ((0 : Int) ≤ (↑i : Int)) && decide ((↑i : Int).toNat < q.3.length))

 (.need (decide ((↑i : Int).toNat < q.3.length))

 (.need (decide ((↑i : Int).toNat < q.3.length))

 (.need (decide ((↑i : Int).toNat < q.3.length))

 (.br (decide ((40 : Int) < (↑(q.3.getD (↑i : Int).toNat { k := (0 : Int), s := { data := { toList := [] } }, t := { v := (0 : Int), h := u0_h } }).s.size : Int)))

 (.need (decide (40 ≤ (q.3.getD (↑i : Int).toNat { k := (0 : Int), s := { data := { toList := [] } }, t := { v := (0 : Int), h := u0_h } }).s.size))

 (.need (decide (0 ≤ 40))

 (.ret (.normal, [.sli 6 (.c 0) 3 (.v q.3.length) (some (.v q.4)), .int .i64 d, .ptr 3 0, .ptr 2 0, .int .i64 (↑i : Int), .ptr 7 0], [.ro encLook [PUnit.unit], .own [.a (encInt IntKind.u32) 40 l] 35, .own [.c (.sli 1 (.c 0) 1 (.v 40) (some (.v 40))), .c (.int .i64 c)] 90, .own [.c (.ifc 78 (.ptr 4 0)), .c (.int .i64 (5 : Int))] 84, .own [.c (.sli 5 (.c 0) 1 (.v Q.length) none), .c (.int .i64 d)] 80, .vec encStr Q 9, .ro encCal q.3, .own [.c (.int .i64 (q.3.getD (↑i : Int).toNat { k := (0 : Int), s := { data := { toList := [] } }, t := { v := (0 : Int), h := u0_h } }).k), .c (.str ((q.3.getD (↑i : Int).toNat { k := (0 : Int), s := { data := { toList := [] } }, t := { v := (0 : Int), h := u0_h } }).s.extract 0 40)), .c (.int .u32 (q.3.getD (↑i : Int).toNat encCal.dflt).t.1)] 37]))))

 (.ret (.normal, [.sli 6 (.c 0) 3 (.v q.3.length) (some (.v q.4)), .int .i64 d, .ptr 3 0, .ptr 2 0, .int .i64 (↑i : Int), .ptr 7 0], [.ro encLook [PUnit.unit], .own [.a (encInt IntKind.u32) 40 l] 35, .own [.c (.sli 1 (.c 0) 1 (.v 40) (some (.v 40))), .c (.int .i64 c)] 90, .own [.c (.ifc 78 (.ptr 4 0)), .c (.int .i64 (5 : Int))] 84, .own [.c (.sli 5 (.c 0) 1 (.v Q.length) none), .c (.int .i64 d)] 80, .vec encStr Q 9, .ro encCal q.3, .own [.c (.int .i64 (q.3.getD (↑i : Int).toNat { k := (0 : Int), s := { data := { toList := [] } }, t := { v := (0 : Int), h := u0_h } }).k), .c (.str (q.3.getD (↑i : Int).toNat { k := (0 : Int), s := { data := { toList := [] } }, t := { v := (0 : Int), h := u0_h } }).s), .c (.int .u32 (q.3.getD (↑i : Int).toNat encCal.dflt).t.1)] 37]))))))) := by kernel_rfl
set_option maxRecDepth 100000 in
theorem g_sel {q : InG} {l : List Int} {c : Int} {Q : List ByteArray} {d : Int} {i : Nat} {e : Cut} : (exec cfgM 100 sel4 (fr 182 n4x (v4i q 3 d i ++ [.ptr 7 0])) (sGc q l c Q d e)).bind (canonK 8 [(0,0)] 182 n4k) =
 

 (.ret (.normal, [.sli 6 (.c 0) 3 (.v q.3.length) (some (.v q.4)), .int .i64 d, .ptr 3 0, .ptr 2 0, .int .i64 (↑i : Int), .ptr 7 0, .sb (bitop BinOp.and IntKind.i64 e.1 (1 : Int) == (0 : Int))], [.ro encLook [PUnit.unit], .own [.a (encInt IntKind.u32) 40 l] 35, .own [.c (.sli 1 (.c 0) 1 (.v 40) (some (.v 40))), .c (.int .i64 c)] 90, .own [.c (.ifc 78 (.ptr 4 0)), .c (.int .i64 (5 : Int))] 84, .own [.c (.sli 5 (.c 0) 1 (.v Q.length) none), .c (.int .i64 d)] 80, .vec encStr Q 9, .ro encCal q.3, .own [.c (.int .i64 e.1), .c (.str e.2), .c (.int .u32 e.3)] 37])) := by kernel_rfl
set_option maxRecDepth 100000 in
theorem s_ok {q : InG} {l : List Int} {c : Int} {Q : List ByteArray} {d : Int} {i : Nat} {e : Cut} : (execN cfgM 100 1 snd4 (fr 182 n4x (v4i q 3 d i ++ [.ptr 7 0])) (sGc q l c Q d e)).bind (canonK 8 [(0,0)] 182 n4x) =
 

 (.br (strEq e.2 { data := { toList := [] } })

 (.ret (.exit 1, [.sli 6 (.c 0) 3 (.v q.3.length) (some (.v q.4)), .int .i64 d, .ptr 3 0, .ptr 2 0, .int .i64 (↑i : Int), .ptr 7 0], [.ro encLook [PUnit.unit], .own [.a (encInt IntKind.u32) 40 l] 35, .own [.c (.sli 1 (.c 0) 1 (.v 40) (some (.v 40))), .c (.int .i64 c)] 90, .own [.c (.ifc 78 (.ptr 4 0)), .c (.int .i64 (5 : Int))] 84, .own [.c (.sli 5 (.c 0) 1 (.v Q.length) none), .c (.int .i64 d)] 80, .vec encStr Q 9, .ro encCal q.3, .own [.c (.int .i64 e.1), .c (.str e.2), .c (.int .u32 e.3)] 37]))

 (.br (decide ((5 : Int) < (↑e.2.size : Int)))

 (.ret (.exit 1, [.sli 6 (.c 0) 3 (.v q.3.length) (some (.v q.4)), .int .i64 d, .ptr 3 0, .ptr 2 0, .int .i64 (↑i : Int), .ptr 7 0], [.ro encLook [PUnit.unit], .own [.a (encInt IntKind.u32) 40 l] 35, .own [.c (.sli 1 (.c 0) 1 (.v 40) (some (.v 40))), .c (.int .i64 c)] 90, .own [.c (.ifc 78 (.ptr 4 0)), .c (.int .i64 (5 : Int))] 84, .own [.c (.sli 5 (.c 0) 1 (.v Q.length) none), .c (.int .i64 d)] 80, .vec encStr Q 9, .ro encCal q.3, .own [.c (.int .i64 e.1), .c (.str e.2), .c (.int .u32 e.3)] 37]))

 (.ret (.normal, [.sli 6 (.c 0) 3 (.v q.3.length) (some (.v q.4)), .int .i64 d, .ptr 3 0, .ptr 2 0, .int .i64 (↑i : Int), .ptr 7 0], [.ro encLook [PUnit.unit], .own [.a (encInt IntKind.u32) 40 l] 35, .own [.c (.sli 1 (.c 0) 1 (.v 40) (some (.v 40))), .c (.int .i64 c)] 90, .own [.c (.ifc 78 (.ptr 4 0)), .c (.int .i64 (5 : Int))] 84, .own [.c (.sli 5 (.c 0) 1 (.v Q.length) none), .c (.int .i64 d)] 80, .vec encStr Q 9, .ro encCal q.3, .own [.c (.int .i64 e.1), .c (.str e.2), .c (.int .u32 e.3)] 37])))) := by kernel_rfl
set_option maxRecDepth 100000 in
theorem s_new {q : InG} {l : List Int} {c : Int} {Q : List ByteArray} {d : Int} {i : Nat} {e : Cut} : (execN cfgW 100 2 (restC 1 snd4) (fr 182 n4x (v4i q 3 d i ++ [.ptr 7 0])) (sGc q l c Q d e)).bind (canonK 8 [(0,0)] 182 n4s) =
 

 (.eq ([Blk.ro encLook [PUnit.unit]] = [Blk.ro encLook [PUnit.unit]])

 (.br ((wordsP d (5 : Int)).snd != (0 : Int))

 (.br ((wordsP d (5 : Int)).snd != (0 : Int))

 (.ret (.ret, [.sli 6 (.c 0) 3 (.v q.3.length) (some (.v q.4)), .int .i64 d, .ptr 3 0, .ptr 2 0, .int .i64 (↑i : Int), .ptr 7 0, .pnil], [.ro encLook [PUnit.unit], .own [.a (encInt IntKind.u32) 40 l] 35, .own [.c (.sli 1 (.c 0) 1 (.v 40) (some (.v 40))), .c (.int .i64 c)] 90, .own [.c (.ifc 78 (.ptr 4 0)), .c (.int .i64 (5 : Int))] 84, .own [.c (.sli 5 (.c 0) 1 (.v Q.length) none), .c (.int .i64 d)] 80, .vec encStr Q 9, .ro encCal q.3, .own [.c (.int .i64 e.1), .c (.str e.2), .c (.int .u32 e.3)] 37]))

 (.ret (.ret, [.sli 6 (.c 0) 3 (.v q.3.length) (some (.v q.4)), .int .i64 d, .ptr 3 0, .ptr 2 0, .int .i64 (↑i : Int), .ptr 7 0, .pnil], [.ro encLook [PUnit.unit], .own [.a (encInt IntKind.u32) 40 l] 35, .own [.c (.sli 1 (.c 0) 1 (.v 40) (some (.v 40))), .c (.int .i64 c)] 90, .own [.c (.ifc 78 (.ptr 4 0)), .c (.int .i64 (5 : Int))] 84, .own [.c (.sli 5 (.c 0) 1 (.v Q.length) none), .c (.int .i64 d)] 80, .vec encStr Q 9, .ro encCal q.3, .own [.c (.int .i64 e.1), .c (.str e.2), .c (.int .u32 e.3)] 37])))

 (.br (decide ((↑e.2.size : Int) < (1 : Int)))

 (.ret (.ret, [.sli 6 (.c 0) 3 (.v q.3.length) (some (.v q.4)), .int .i64 d, .ptr 3 0, .ptr 2 0, .int .i64 (↑i : Int), .ptr 7 0, .pnil], [.ro encLook [PUnit.unit], .own [.a (encInt IntKind.u32) 40 l] 35, .own [.c (.sli 1 (.c 0) 1 (.v 40) (some (.v 40))), .c (.int .i64 c)] 90, .own [.c (.ifc 78 (.ptr 4 0)), .c (.int .i64 (5 : Int))] 84, .own [.c (.sli 5 (.c 0) 1 (.v Q.length) none), .c (.int .i64 d)] 80, .vec encStr Q 9, .ro encCal q.3, .own [.c (.int .i64 e.1), .c (.str e.2), .c (.int .u32 e.3)] 37]))

 (.br (decide ((5 : Int) < (↑e.2.size : Int)))

 (.ret (.ret, [.sli 6 (.c 0) 3 (.v q.3.length) (some (.v q.4)), .int .i64 d, .ptr 3 0, .ptr 2 0, .int .i64 (↑i : Int), .ptr 7 0, .pnil], [.ro encLook [PUnit.unit], .own [.a (encInt IntKind.u32) 40 l] 35, .own [.c (.sli 1 (.c 0) 1 (.v 40) (some (.v 40))), .c (.int .i64 c)] 90, .own [.c (.ifc 78 (.ptr 4 0)), .c (.int .i64 (5 : Int))] 84, .own [.c (.sli 5 (.c 0) 1 (.v Q.length) none), .c (.int .i64 d)] 80, .vec encStr Q 9, .ro encCal q.3, .own [.c (.int .i64 e.1), .c (.str e.2), .c (.int .u32 e.3)] 37]))

 (.need (true)

 (.need (roomy 1 16)

 (.ret (.normal, [.sli 6 (.c 0) 3 (.v q.3.length) (some (.v q.4)), .int .i64 d, .ptr 3 0, .ptr 2 0, .int .i64 (↑i : Int), .ptr 7 0, .ptr 8 0], [.ro encLook [PUnit.unit], .own [.a (encInt IntKind.u32) 40 l] 35, .own [.c (.sli 1 (.c 0) 1 (.v 40) (some (.v 40))), .c (.int .i64 c)] 90, .own [.c (.ifc 78 (.ptr 4 0)), .c (.int .i64 (5 : Int))] 84, .own [.c (.sli 5 (.c 0) 1 (.v Q.length) none), .c (.int .i64 d)] 80, .vec encStr Q 9, .ro encCal q.3, .own [.c (.int .i64 e.1), .c (.str e.2), .c (.int .u32 e.3)] 37, .own [.c (.lit .i64 (0 : Int)), .c (.int .i64 d), .c (.lit .i64 (5 : Int)), .c (SVal.fn (Fn.func 41) [.ptr 8 0] []), .c (.lit .u32 (0 : Int)), .c (.lit .u32 (0 : Int)), .c (.lit .i64 (0 : Int)), .c (.sli 9 (.c 0) 1 (.c 1) none), .c .snil] 124, .vec (encRow 0) (renRows [0, 1, 2, 3, 4, 5, 6, 7, 11, 10] (encRow 0) [[.str e.2]]) 9])))))))) := by kernel_rfl
set_option maxRecDepth 100000 in
theorem s_reg {q : InG} {l : List Int} {c : Int} {f : Nat} {x : Snd} {ms Q : List ByteArray} {d : Int} {i : Nat} {e : Cut} : (exec cfgM 100 ssr4 (fr 182 n4s (v4i q 6 d i ++ [.ptr 10 0, .ptr 3 0])) (sGs q l c f x ms Q d e)).bind (canonK 11 [(0,0)] 182 n4sn) =
 

 (.ret (.normal, [.sli 9 (.c 0) 3 (.v q.3.length) (some (.v q.4)), .int .i64 d, .ptr 6 0, .ptr 2 0, .int .i64 (↑i : Int), .ptr 10 0, .ptr 3 0, .lit .i64 (0 : Int)], [.ro encLook [PUnit.unit], .own [.a (encInt IntKind.u32) 40 l] 35, .own [.c (.sli 1 (.c 0) 1 (.v 40) (some (.v 40))), .c (.int .i64 c)] 90, .own [.c (.int .i64 x.1), .c (.int .i64 x.2), .c (.int .i64 x.3), .c (SVal.fn (Fn.func f) [.ptr 3 0] []), .c (.int .u32 x.4), .c (.int .u32 x.5), .c (.int .i64 x.6), .c (.sli 4 (.c 0) 1 (.v ms.length) none), .c (.sli 5 (.c 0) 1 (.v x.7.length) none)] 124, .vec encStr ms 9, .vec encBool x.7 4, .own [.c (.ifc 78 (.ptr 7 0)), .c (.int .i64 (5 : Int))] 84, .own [.c (.sli 8 (.c 0) 1 (.v Q.length) none), .c (.int .i64 d)] 80, .vec encStr Q 9, .ro encCal q.3, .own [.c (.int .i64 e.1), .c (.str e.2), .c (.int .u32 e.3)] 37])) := by kernel_rfl
set_option maxRecDepth 100000 in
theorem s_tm {q : InG} {l : List Int} {c : Int} {f : Nat} {x : Snd} {l1 : List Int} {c1 : Int} {f1 : Nat} {x1 : Snd} {ms Q : List ByteArray} {d : Int} {i n : Nat} {e : Cut} {b : Bool} {P : Prop} : (exec (cfgSs (sGs q l c f x ms Q d e) (sGsS q l1 c1 f1 x1 ms Q d e) b P) 100 stm4 (fr 182 n4sn (v4i q 6 d i ++ [.ptr 10 0, .ptr 3 0, .int .i64 (n : Nat)])) (sGs q l c f x ms Q d e)).bind (canonK 0 [(0,0)] 182 n4sn) =
 

 (.br (decide ((↑n : Int) < (20 : Int)))

 (.eq ([SVal.ptr 3 0, .ptr 2 0] = [SVal.ptr 3 0, .ptr 2 0] ∧ [Blk.ro encLook [PUnit.unit], .own [.a (encInt IntKind.u32) 40 l] 35, .own [.c (.sli 1 (.c 0) 1 (.v 40) (some (.v 40))), .c (.int .i64 c)] 90, .own [.c (.int .i64 x.1), .c (.int .i64 x.2), .c (.int .i64 x.3), .c (SVal.fn (Fn.func f) [.ptr 3 0] []), .c (.int .u32 x.4), .c (.int .u32 x.5), .c (.int .i64 x.6), .c (.sli 4 (.c 0) 1 (.v ms.length) none), .c (.sli 5 (.c 0) 1 (.v x.7.length) none)] 124, .vec encStr ms 9, .vec encBool x.7 4, .own [.c (.ifc 78 (.ptr 7 0)), .c (.int .i64 (5 : Int))] 84, .own [.c (.sli 8 (.c 0) 1 (.v Q.length) none), .c (.int .i64 d)] 80, .vec encStr Q 9, .ro encCal q.3, .own [.c (.int .i64 e.1), .c (.str e.2), .c (.int .u32 e.3)] 37] = [Blk.ro encLook [PUnit.unit], .own [.a (encInt IntKind.u32) 40 l] 35, .own [.c (.sli 1 (.c 0) 1 (.v 40) (some (.v 40))), .c (.int .i64 c)] 90, .own [.c (.int .i64 x.1), .c (.int .i64 x.2), .c (.int .i64 x.3), .c (SVal.fn (Fn.func f) [.ptr 3 0] []), .c (.int .u32 x.4), .c (.int .u32 x.5), .c (.int .i64 x.6), .c (.sli 4 (.c 0) 1 (.v ms.length) none), .c (.sli 5 (.c 0) 1 (.v x.7.length) none)] 124, .vec encStr ms 9, .vec encBool x.7 4, .own [.c (.ifc 78 (.ptr 7 0)), .c (.int .i64 (5 : Int))] 84, .own [.c (.sli 8 (.c 0) 1 (.v Q.length) none), .c (.int .i64 d)] 80, .vec encStr Q 9, .ro encCal q.3, .own [.c (.int .i64 e.1), .c (.str e.2), .c (.int .u32 e.3)] 37] ∧ P)

 (.br (!b)

 (.ret (.normal, [.sli 1 (.c 0) 3 (.v q.3.length) (some (.v q.4)), .int .i64 d, .ptr 2 0, .ptr 5 0, .int .i64 (↑i : Int), .ptr 7 0, .ptr 8 0, .int .i64 (↑n : Int)], [.ro encLook [PUnit.unit], .ro encCal q.3, .own [.c (.ifc 78 (.ptr 3 0)), .c (.int .i64 (5 : Int))] 84, .own [.c (.sli 4 (.c 0) 1 (.v Q.length) none), .c (.int .i64 d)] 80, .vec encStr Q 9, .own [.c (.sli 6 (.c 0) 1 (.v 40) (some (.v 40))), .c (.int .i64 c1)] 90, .own [.a (encInt IntKind.u32) 40 l1] 35, .own [.c (.int .i64 e.1), .c (.str e.2), .c (.int .u32 e.3)] 37, .own [.c (.int .i64 x1.1), .c (.int .i64 x1.2), .c (.int .i64 x1.3), .c (SVal.fn (Fn.func f1) [.ptr 8 0] []), .c (.int .u32 x1.4), .c (.int .u32 x1.5), .c (.int .i64 x1.6), .c (.sli 9 (.c 0) 1 (.v ms.length) none), .c (.sli 10 (.c 0) 1 (.v x1.7.length) none)] 124, .vec encStr ms 9, .vec encBool x1.7 4]))

 (.ret (.exit 2, [.sli 1 (.c 0) 3 (.v q.3.length) (some (.v q.4)), .int .i64 d, .ptr 2 0, .ptr 5 0, .int .i64 (↑i : Int), .ptr 7 0, .ptr 8 0, .int .i64 (↑n : Int)], [.ro encLook [PUnit.unit], .ro encCal q.3, .own [.c (.ifc 78 (.ptr 3 0)), .c (.int .i64 (5 : Int))] 84, .own [.c (.sli 4 (.c 0) 1 (.v Q.length) none), .c (.int .i64 d)] 80, .vec encStr Q 9, .own [.c (.sli 6 (.c 0) 1 (.v 40) (some (.v 40))), .c (.int .i64 c1)] 90, .own [.a (encInt IntKind.u32) 40 l1] 35, .own [.c (.int .i64 e.1), .c (.str e.2), .c (.int .u32 e.3)] 37, .own [.c (.int .i64 x1.1), .c (.int .i64 x1.2), .c (.int .i64 x1.3), .c (SVal.fn (Fn.func f1) [.ptr 8 0] []), .c (.int .u32 x1.4), .c (.int .u32 x1.5), .c (.int .i64 x1.6), .c (.sli 9 (.c 0) 1 (.v ms.length) none), .c (.sli 10 (.c 0) 1 (.v x1.7.length) none)] 124, .vec encStr ms 9, .vec encBool x1.7 4]))))

 (.ret (.exit 2, [.sli 1 (.c 0) 3 (.v q.3.length) (some (.v q.4)), .int .i64 d, .ptr 2 0, .ptr 5 0, .int .i64 (↑i : Int), .ptr 7 0, .ptr 8 0, .int .i64 (↑n : Int)], [.ro encLook [PUnit.unit], .ro encCal q.3, .own [.c (.ifc 78 (.ptr 3 0)), .c (.int .i64 (5 : Int))] 84, .own [.c (.sli 4 (.c 0) 1 (.v Q.length) none), .c (.int .i64 d)] 80, .vec encStr Q 9, .own [.c (.sli 6 (.c 0) 1 (.v 40) (some (.v 40))), .c (.int .i64 c)] 90, .own [.a (encInt IntKind.u32) 40 l] 35, .own [.c (.int .i64 e.1), .c (.str e.2), .c (.int .u32 e.3)] 37, .own [.c (.int .i64 x.1), .c (.int .i64 x.2), .c (.int .i64 x.3), .c (SVal.fn (Fn.func f) [.ptr 8 0] []), .c (.int .u32 x.4), .c (.int .u32 x.5), .c (.int .i64 x.6), .c (.sli 9 (.c 0) 1 (.v ms.length) none), .c (.sli 10 (.c 0) 1 (.v x.7.length) none)] 124, .vec encStr ms 9, .vec encBool x.7 4]))) := by kernel_rfl
set_option maxRecDepth 100000 in
theorem s_inc {q : InG} {l : List Int} {c : Int} {f : Nat} {x : Snd} {ms Q : List ByteArray} {d : Int} {i n : Nat} {e : Cut} : (exec cfgM 100 sinc4 (fr 182 n4sn (v4i q 6 d i ++ [.ptr 10 0, .ptr 3 0, .int .i64 (n : Nat)])) (sGs q l c f x ms Q d e)).bind (canonK 11 [(0,0)] 182 n4sn) =
 

 (.need (inR .i64 ((↑n : Int) + (1 : Int)))

 (.ret (.normal, [.sli 9 (.c 0) 3 (.v q.3.length) (some (.v q.4)), .int .i64 d, .ptr 6 0, .ptr 2 0, .int .i64 (↑i : Int), .ptr 10 0, .ptr 3 0, .int .i64 ((↑n : Int) + (1 : Int))], [.ro encLook [PUnit.unit], .own [.a (encInt IntKind.u32) 40 l] 35, .own [.c (.sli 1 (.c 0) 1 (.v 40) (some (.v 40))), .c (.int .i64 c)] 90, .own [.c (.int .i64 x.1), .c (.int .i64 x.2), .c (.int .i64 x.3), .c (SVal.fn (Fn.func f) [.ptr 3 0] []), .c (.int .u32 x.4), .c (.int .u32 x.5), .c (.int .i64 x.6), .c (.sli 4 (.c 0) 1 (.v ms.length) none), .c (.sli 5 (.c 0) 1 (.v x.7.length) none)] 124, .vec encStr ms 9, .vec encBool x.7 4, .own [.c (.ifc 78 (.ptr 7 0)), .c (.int .i64 (5 : Int))] 84, .own [.c (.sli 8 (.c 0) 1 (.v Q.length) none), .c (.int .i64 d)] 80, .vec encStr Q 9, .ro encCal q.3, .own [.c (.int .i64 e.1), .c (.str e.2), .c (.int .u32 e.3)] 37]))) := by kernel_rfl
set_option maxRecDepth 100000 in
theorem r_new {q : InG} {l : List Int} {c : Int} {Q : List ByteArray} {d : Int} {i : Nat} {e : Cut} : (execN cfgW 100 2 rcv4 (fr 182 n4x (v4i q 3 d i ++ [.ptr 7 0])) (sGc q l c Q d e)).bind (canonK 8 [(0,0)] 182 n4r) =
 

 (.eq ([Blk.ro encLook [PUnit.unit]] = [Blk.ro encLook [PUnit.unit]])

 (.br ((wordsP d (5 : Int)).snd != (0 : Int))

 (.br ((wordsP d (5 : Int)).snd != (0 : Int))

 (.ret (.ret, [.sli 6 (.c 0) 3 (.v q.3.length) (some (.v q.4)), .int .i64 d, .ptr 3 0, .ptr 2 0, .int .i64 (↑i : Int), .pnil], [.ro encLook [PUnit.unit], .own [.a (encInt IntKind.u32) 40 l] 35, .own [.c (.sli 1 (.c 0) 1 (.v 40) (some (.v 40))), .c (.int .i64 c)] 90, .own [.c (.ifc 78 (.ptr 4 0)), .c (.int .i64 (5 : Int))] 84, .own [.c (.sli 5 (.c 0) 1 (.v Q.length) none), .c (.int .i64 d)] 80, .vec encStr Q 9, .ro encCal q.3, .own [.c (.int .i64 e.1), .c (.str e.2), .c (.int .u32 e.3)] 37]))

 (.ret (.ret, [.sli 6 (.c 0) 3 (.v q.3.length) (some (.v q.4)), .int .i64 d, .ptr 3 0, .ptr 2 0, .int .i64 (↑i : Int), .pnil], [.ro encLook [PUnit.unit], .own [.a (encInt IntKind.u32) 40 l] 35, .own [.c (.sli 1 (.c 0) 1 (.v 40) (some (.v 40))), .c (.int .i64 c)] 90, .own [.c (.ifc 78 (.ptr 4 0)), .c (.int .i64 (5 : Int))] 84, .own [.c (.sli 5 (.c 0) 1 (.v Q.length) none), .c (.int .i64 d)] 80, .vec encStr Q 9, .ro encCal q.3, .own [.c (.int .i64 e.1), .c (.str e.2), .c (.int .u32 e.3)] 37])))

 (.ret (.normal, [.sli 6 (.c 0) 3 (.v q.3.length) (some (.v q.4)), .int .i64 d, .ptr 3 0, .ptr 2 0, .int .i64 (↑i : Int), .ptr 8 0], [.ro encLook [PUnit.unit], .own [.a (encInt IntKind.u32) 40 l] 35, .own [.c (.sli 1 (.c 0) 1 (.v 40) (some (.v 40))), .c (.int .i64 c)] 90, .own [.c (.ifc 78 (.ptr 4 0)), .c (.int .i64 (5 : Int))] 84, .own [.c (.sli 5 (.c 0) 1 (.v Q.length) none), .c (.int .i64 d)] 80, .vec encStr Q 9, .ro encCal q.3, .own [.c (.int .i64 e.1), .c (.str e.2), .c (.int .u32 e.3)] 37, .own [.c (.lit .i64 (0 : Int)), .c (.int .i64 d), .c (.lit .i64 (5 : Int)), .c (SVal.fn (Fn.func 42) [.ptr 8 0] []), .c (.lit .u32 (0 : Int)), .c (.lit .u32 (0 : Int)), .c (.lit .i64 (0 : Int)), .c (.lit .i64 (1 : Int)), .c (.lit .i64 (0 : Int)), .c .snil, .c .snil] 127])))) := by kernel_rfl
set_option maxRecDepth 100000 in
theorem r_reg {q : InG} {l : List Int} {c : Int} {f : Nat} {y : Rcv} {Q : List ByteArray} {d : Int} {i : Nat} {e : Cut} : (exec cfgM 100 rrr4 (fr 182 n4r (v4i q 6 d i ++ [.ptr 3 0])) (sGr q l c f y Q d e)).bind (canonK 10 [(0,0)] 182 n4rn) =
 

 (.ret (.normal, [.sli 9 (.c 0) 3 (.v q.3.length) (some (.v q.4)), .int .i64 d, .ptr 6 0, .ptr 2 0, .int .i64 (↑i : Int), .ptr 3 0, .lit .i64 (0 : Int)], [.ro encLook [PUnit.unit], .own [.a (encInt IntKind.u32) 40 l] 35, .own [.c (.sli 1 (.c 0) 1 (.v 40) (some (.v 40))), .c (.int .i64 c)] 90, .own [.c (.int .i64 y.1), .c (.int .i64 y.2), .c (.int .i64 y.3), .c (SVal.fn (Fn.func f) [.ptr 3 0] []), .c (.int .u32 y.4), .c (.int .u32 y.5), .c (.int .i64 y.6), .c (.int .i64 y.7), .c (.int .i64 y.8), .c (.sli 4 (.c 0) 1 (.v y.9.length) none), .c (.sli 5 (.c 0) 1 (.v y.10.length) none)] 127, .vec (encInt IntKind.u8) y.9 5, .vec encStr y.10 9, .own [.c (.ifc 78 (.ptr 7 0)), .c (.int .i64 (5 : Int))] 84, .own [.c (.sli 8 (.c 0) 1 (.v Q.length) none), .c (.int .i64 d)] 80, .vec encStr Q 9, .ro encCal q.3])) := by kernel_rfl
set_option maxRecDepth 100000 in
theorem r_tm {q : InG} {l : List Int} {c : Int} {f : Nat} {y : Rcv} {l1 : List Int} {c1 : Int} {f1 : Nat} {y1 : Rcv} {Q : List ByteArray} {d : Int} {i n : Nat} {e : Cut} {b : Bool} {P : Prop} : (exec (cfgRs (sGr q l c f y Q d e) (sGrR q l1 c1 f1 y1 Q d e) b P) 100 rtm4 (fr 182 n4rn (v4i q 6 d i ++ [.ptr 3 0, .int .i64 (n : Nat)])) (sGr q l c f y Q d e)).bind (canonK 0 [(0,0)] 182 n4rn) =
 

 (.br (decide ((↑n : Int) < (20 : Int)))

 (.eq ([SVal.ptr 3 0, .ptr 2 0] = [SVal.ptr 3 0, .ptr 2 0] ∧ [Blk.ro encLook [PUnit.unit], .own [.a (encInt IntKind.u32) 40 l] 35, .own [.c (.sli 1 (.c 0) 1 (.v 40) (some (.v 40))), .c (.int .i64 c)] 90, .own [.c (.int .i64 y.1), .c (.int .i64 y.2), .c (.int .i64 y.3), .c (SVal.fn (Fn.func f) [.ptr 3 0] []), .c (.int .u32 y.4), .c (.int .u32 y.5), .c (.int .i64 y.6), .c (.int .i64 y.7), .c (.int .i64 y.8), .c (.sli 4 (.c 0) 1 (.v y.9.length) none), .c (.sli 5 (.c 0) 1 (.v y.10.length) none)] 127, .vec (encInt IntKind.u8) y.9 5, .vec encStr y.10 9, .own [.c (.ifc 78 (.ptr 7 0)), .c (.int .i64 (5 : Int))] 84, .own [.c (.sli 8 (.c 0) 1 (.v Q.length) none), .c (.int .i64 d)] 80, .vec encStr Q 9, .ro encCal q.3] = [Blk.ro encLook [PUnit.unit], .own [.a (encInt IntKind.u32) 40 l] 35, .own [.c (.sli 1 (.c 0) 1 (.v 40) (some (.v 40))), .c (.int .i64 c)] 90, .own [.c (.int .i64 y.1), .c (.int .i64 y.2), .c (.int .i64 y.3), .c (SVal.fn (Fn.func f) [.ptr 3 0] []), .c (.int .u32 y.4), .c (.int .u32 y.5), .c (.int .i64 y.6), .c (.int .i64 y.7), .c (.int .i64 y.8), .c (.sli 4 (.c 0) 1 (.v y.9.length) none), .c (.sli 5 (.c 0) 1 (.v y.10.length) none)] 127, .vec (encInt IntKind.u8) y.9 5, .vec encStr y.10 9, .own [.c (.ifc 78 (.ptr 7 0)), .c (.int .i64 (5 : Int))] 84, .own [.c (.sli 8 (.c 0) 1 (.v Q.length) none), .c (.int .i64 d)] 80, .vec encStr Q 9, .ro encCal q.3] ∧ P)

 (.br (!b)

 (.ret (.normal, [.sli 1 (.c 0) 3 (.v q.3.length) (some (.v q.4)), .int .i64 d, .ptr 2 0, .ptr 5 0, .int .i64 (↑i : Int), .ptr 7 0, .int .i64 (↑n : Int)], [.ro encLook [PUnit.unit], .ro encCal q.3, .own [.c (.ifc 78 (.ptr 3 0)), .c (.int .i64 (5 : Int))] 84, .own [.c (.sli 4 (.c 0) 1 (.v Q.length) none), .c (.int .i64 d)] 80, .vec encStr Q 9, .own [.c (.sli 6 (.c 0) 1 (.v 40) (some (.v 40))), .c (.int .i64 c1)] 90, .own [.a (encInt IntKind.u32) 40 l1] 35, .own [.c (.int .i64 y1.1), .c (.int .i64 y1.2), .c (.int .i64 y1.3), .c (SVal.fn (Fn.func f1) [.ptr 7 0] []), .c (.int .u32 y1.4), .c (.int .u32 y1.5), .c (.int .i64 y1.6), .c (.int .i64 y1.7), .c (.int .i64 y1.8), .c (.sli 8 (.c 0) 1 (.v y1.9.length) none), .c (.sli 9 (.c 0) 1 (.v y1.10.length) none)] 127, .vec (encInt IntKind.u8) y1.9 5, .vec encStr y1.10 9]))

 (.ret (.exit 4, [.sli 1 (.c 0) 3 (.v q.3.length) (some (.v q.4)), .int .i64 d, .ptr 2 0, .ptr 5 0, .int .i64 (↑i : Int), .ptr 7 0, .int .i64 (↑n : Int)], [.ro encLook [PUnit.unit], .ro encCal q.3, .own [.c (.ifc 78 (.ptr 3 0)), .c (.int .i64 (5 : Int))] 84, .own [.c (.sli 4 (.c 0) 1 (.v Q.length) none), .c (.int .i64 d)] 80, .vec encStr Q 9, .own [.c (.sli 6 (.c 0) 1 (.v 40) (some (.v 40))), .c (.int .i64 c1)] 90, .own [.a (encInt IntKind.u32) 40 l1] 35, .own [.c (.int .i64 y1.1), .c (.int .i64 y1.2), .c (.int .i64 y1.3), .c (SVal.fn (Fn.func f1) [.ptr 7 0] []), .c (.int .u32 y1.4), .c (.int .u32 y1.5), .c (.int .i64 y1.6), .c (.int .i64 y1.7), .c (.int .i64 y1.8), .c (.sli 8 (.c 0) 1 (.v y1.9.length) none), .c (.sli 9 (.c 0) 1 (.v y1.10.length) none)] 127, .vec (encInt IntKind.u8) y1.9 5, .vec encStr y1.10 9]))))

 (.ret (.exit 4, [.sli 1 (.c 0) 3 (.v q.3.length) (some (.v q.4)), .int .i64 d, .ptr 2 0, .ptr 5 0, .int .i64 (↑i : Int), .ptr 7 0, .int .i64 (↑n : Int)], [.ro encLook [PUnit.unit], .ro encCal q.3, .own [.c (.ifc 78 (.ptr 3 0)), .c (.int .i64 (5 : Int))] 84, .own [.c (.sli 4 (.c 0) 1 (.v Q.length) none), .c (.int .i64 d)] 80, .vec encStr Q 9, .own [.c (.sli 6 (.c 0) 1 (.v 40) (some (.v 40))), .c (.int .i64 c)] 90, .own [.a (encInt IntKind.u32) 40 l] 35, .own [.c (.int .i64 y.1), .c (.int .i64 y.2), .c (.int .i64 y.3), .c (SVal.fn (Fn.func f) [.ptr 7 0] []), .c (.int .u32 y.4), .c (.int .u32 y.5), .c (.int .i64 y.6), .c (.int .i64 y.7), .c (.int .i64 y.8), .c (.sli 8 (.c 0) 1 (.v y.9.length) none), .c (.sli 9 (.c 0) 1 (.v y.10.length) none)] 127, .vec (encInt IntKind.u8) y.9 5, .vec encStr y.10 9]))) := by kernel_rfl
set_option maxRecDepth 100000 in
theorem r_inc {q : InG} {l : List Int} {c : Int} {f : Nat} {y : Rcv} {Q : List ByteArray} {d : Int} {i n : Nat} {e : Cut} : (exec cfgM 100 rinc4 (fr 182 n4rn (v4i q 6 d i ++ [.ptr 3 0, .int .i64 (n : Nat)])) (sGr q l c f y Q d e)).bind (canonK 10 [(0,0)] 182 n4rn) =
 

 (.need (inR .i64 ((↑n : Int) + (1 : Int)))

 (.ret (.normal, [.sli 9 (.c 0) 3 (.v q.3.length) (some (.v q.4)), .int .i64 d, .ptr 6 0, .ptr 2 0, .int .i64 (↑i : Int), .ptr 3 0, .int .i64 ((↑n : Int) + (1 : Int))], [.ro encLook [PUnit.unit], .own [.a (encInt IntKind.u32) 40 l] 35, .own [.c (.sli 1 (.c 0) 1 (.v 40) (some (.v 40))), .c (.int .i64 c)] 90, .own [.c (.int .i64 y.1), .c (.int .i64 y.2), .c (.int .i64 y.3), .c (SVal.fn (Fn.func f) [.ptr 3 0] []), .c (.int .u32 y.4), .c (.int .u32 y.5), .c (.int .i64 y.6), .c (.int .i64 y.7), .c (.int .i64 y.8), .c (.sli 4 (.c 0) 1 (.v y.9.length) none), .c (.sli 5 (.c 0) 1 (.v y.10.length) none)] 127, .vec (encInt IntKind.u8) y.9 5, .vec encStr y.10 9, .own [.c (.ifc 78 (.ptr 7 0)), .c (.int .i64 (5 : Int))] 84, .own [.c (.sli 8 (.c 0) 1 (.v Q.length) none), .c (.int .i64 d)] 80, .vec encStr Q 9, .ro encCal q.3]))) := by kernel_rfl
set_option maxRecDepth 100000 in
theorem r_end {q : InG} {l : List Int} {c : Int} {f : Nat} {y : Rcv} {Q : List ByteArray} {d : Int} {i : Nat} {e : Cut} : (exec cfgM 100 rend4 (fr 182 n4r (v4i q 6 d i ++ [.ptr 3 0])) (sGr q l c f y Q d e)).bind (canonK 0 [(0,0)] 182 n4i) =
 

 (.need (decide (0 + y.10.length ≤ y.10.length))

 (.need (decide (0 + y.10.length ≤ y.10.length))

 (.need (roomy (List.take y.10.length (List.drop 0 y.10)).length 16)

 (.br ((↑Q.length : Int) == (0 : Int))

 (.br ((↑(List.take y.10.length (List.drop 0 y.10)).length : Int) != (1 : Int))

 (.ret (.ret, [.sli 1 (.c 0) 3 (.v q.3.length) (some (.v q.4)), .int .i64 d, .ptr 2 0, .ptr 5 0, .int .i64 (↑i : Int)], [.ro encLook [PUnit.unit], .ro encCal q.3, .own [.c (.ifc 78 (.ptr 3 0)), .c (.int .i64 (5 : Int))] 84, .own [.c (.sli 4 (.c 0) 1 (.v Q.length) none), .c (.int .i64 d)] 80, .vec encStr Q 9, .own [.c (.sli 6 (.c 0) 1 (.v 40) (some (.v 40))), .c (.int .i64 c)] 90, .own [.a (encInt IntKind.u32) 40 l] 35]))

 (.need (decide (0 < (List.take y.10.length (List.drop 0 y.10)).length))

 (.need (decide (0 < (List.take y.10.length (List.drop 0 y.10)).length))

 (.br (!strEq ((List.take y.10.length (List.drop 0 y.10)).getD 0 { data := { toList := [] } }) { data := { toList := [] } })

 (.ret (.ret, [.sli 1 (.c 0) 3 (.v q.3.length) (some (.v q.4)), .int .i64 d, .ptr 2 0, .ptr 5 0, .int .i64 (↑i : Int)], [.ro encLook [PUnit.unit], .ro encCal q.3, .own [.c (.ifc 78 (.ptr 3 0)), .c (.int .i64 (5 : Int))] 84, .own [.c (.sli 4 (.c 0) 1 (.v Q.length) none), .c (.int .i64 d)] 80, .vec encStr Q 9, .own [.c (.sli 6 (.c 0) 1 (.v 40) (some (.v 40))), .c (.int .i64 c)] 90, .own [.a (encInt IntKind.u32) 40 l] 35]))

 (.ret (.normal, [.sli 1 (.c 0) 3 (.v q.3.length) (some (.v q.4)), .int .i64 d, .ptr 2 0, .ptr 5 0, .int .i64 (↑i : Int)], [.ro encLook [PUnit.unit], .ro encCal q.3, .own [.c (.ifc 78 (.ptr 3 0)), .c (.int .i64 (5 : Int))] 84, .own [.c (.sli 4 (.c 0) 1 (.v Q.length) none), .c (.int .i64 d)] 80, .vec encStr Q 9, .own [.c (.sli 6 (.c 0) 1 (.v 40) (some (.v 40))), .c (.int .i64 c)] 90, .own [.a (encInt IntKind.u32) 40 l] 35]))))))

 (.need (decide (0 < Q.length))

 (.need (decide (0 < Q.length))

 (.need (decide (Q.length ≤ Q.length))

 (.need (decide (1 ≤ Q.length))

 (.need (decide (1 + (Q.length - 1) ≤ Q.length))

 (.need (decide (1 + (Q.length - 1) ≤ Q.length))

 (.need (roomy (List.take (Q.length - 1) (List.drop 1 Q)).length 16)

 (.br ((↑(List.take y.10.length (List.drop 0 y.10)).length : Int) != (1 : Int))

 (.ret (.ret, [.sli 1 (.c 0) 3 (.v q.3.length) (some (.v q.4)), .int .i64 d, .ptr 2 0, .ptr 5 0, .int .i64 (↑i : Int)], [.ro encLook [PUnit.unit], .ro encCal q.3, .own [.c (.ifc 78 (.ptr 3 0)), .c (.int .i64 (5 : Int))] 84, .own [.c (.sli 4 (.c 0) 1 (.v (List.take (Q.length - 1) (List.drop 1 Q)).length) none), .c (.int .i64 d)] 80, .vec encStr (List.take (Q.length - 1) (List.drop 1 Q)) 9, .own [.c (.sli 6 (.c 0) 1 (.v 40) (some (.v 40))), .c (.int .i64 c)] 90, .own [.a (encInt IntKind.u32) 40 l] 35]))

 (.need (decide (0 < (List.take y.10.length (List.drop 0 y.10)).length))

 (.need (decide (0 < (List.take y.10.length (List.drop 0 y.10)).length))

 (.br (!strEq ((List.take y.10.length (List.drop 0 y.10)).getD 0 { data := { toList := [] } }) (Q.getD 0 { data := { toList := [] } }))

 (.ret (.ret, [.sli 1 (.c 0) 3 (.v q.3.length) (some (.v q.4)), .int .i64 d, .ptr 2 0, .ptr 5 0, .int .i64 (↑i : Int)], [.ro encLook [PUnit.unit], .ro encCal q.3, .own [.c (.ifc 78 (.ptr 3 0)), .c (.int .i64 (5 : Int))] 84, .own [.c (.sli 4 (.c 0) 1 (.v (List.take (Q.length - 1) (List.drop 1 Q)).length) none), .c (.int .i64 d)] 80, .vec encStr (List.take (Q.length - 1) (List.drop 1 Q)) 9, .own [.c (.sli 6 (.c 0) 1 (.v 40) (some (.v 40))), .c (.int .i64 c)] 90, .own [.a (encInt IntKind.u32) 40 l] 35]))

 (.br (!true == !strEq (Q.getD 0 { data := { toList := [] } }) { data := { toList := [] } })

 (.ret (.ret, [.sli 1 (.c 0) 3 (.v q.3.length) (some (.v q.4)), .int .i64 d, .ptr 2 0, .ptr 5 0, .int .i64 (↑i : Int)], [.ro encLook [PUnit.unit], .ro encCal q.3, .own [.c (.ifc 78 (.ptr 3 0)), .c (.int .i64 (5 : Int))] 84, .own [.c (.sli 4 (.c 0) 1 (.v (List.take (Q.length - 1) (List.drop 1 Q)).length) none), .c (.int .i64 d)] 80, .vec encStr (List.take (Q.length - 1) (List.drop 1 Q)) 9, .own [.c (.sli 6 (.c 0) 1 (.v 40) (some (.v 40))), .c (.int .i64 c)] 90, .own [.a (encInt IntKind.u32) 40 l] 35]))

 (.ret (.normal, [.sli 1 (.c 0) 3 (.v q.3.length) (some (.v q.4)), .int .i64 d, .ptr 2 0, .ptr 5 0, .int .i64 (↑i : Int)], [.ro encLook [PUnit.unit], .ro encCal q.3, .own [.c (.ifc 78 (.ptr 3 0)), .c (.int .i64 (5 : Int))] 84, .own [.c (.sli 4 (.c 0) 1 (.v (List.take (Q.length - 1) (List.drop 1 Q)).length) none), .c (.int .i64 d)] 80, .vec encStr (List.take (Q.length - 1) (List.drop 1 Q)) 9, .own [.c (.sli 6 (.c 0) 1 (.v 40) (some (.v 40))), .c (.int .i64 c)] 90, .own [.a (encInt IntKind.u32) 40 l] 35])))))))))))))))))) := by kernel_rfl
set_option maxRecDepth 100000 in
theorem g_inc {q : InG} {l : List Int} {c : Int} {Q : List ByteArray} {d : Int} {i : Nat} : (exec cfgM 100 inc4 (fr 182 n4i (v4i q 3 d i)) (sG q l c Q d)).bind (canonK 7 [(0,0)] 182 n4i) =
 

 (.need (inR .i64 ((↑i : Int) + (1 : Int)))

 (.ret (.normal, [.sli 6 (.c 0) 3 (.v q.3.length) (some (.v q.4)), .int .i64 d, .ptr 3 0, .ptr 2 0, .int .i64 ((↑i : Int) + (1 : Int))], [.ro encLook [PUnit.unit], .own [.a (encInt IntKind.u32) 40 l] 35, .own [.c (.sli 1 (.c 0) 1 (.v 40) (some (.v 40))), .c (.int .i64 c)] 90, .own [.c (.ifc 78 (.ptr 4 0)), .c (.int .i64 (5 : Int))] 84, .own [.c (.sli 5 (.c 0) 1 (.v Q.length) none), .c (.int .i64 d)] 80, .vec encStr Q 9, .ro encCal q.3]))) := by kernel_rfl
set_option maxRecDepth 100000 in
theorem g_end {q : InG} {l : List Int} {c : Int} {Q : List ByteArray} {d : Int} {i : Nat} : (exec cfgM 100 end4 (fr 182 n4i (v4i q 3 d i)) (sG q l c Q d)).bind (canonK 7 [(0,0)] 182 [6]) =
 

 (.ret (.ret, [.bl true], [.ro encLook [PUnit.unit], .own [.a (encInt IntKind.u32) 40 l] 35, .own [.c (.sli 1 (.c 0) 1 (.v 40) (some (.v 40))), .c (.int .i64 c)] 90, .own [.c (.ifc 78 (.ptr 4 0)), .c (.int .i64 (5 : Int))] 84, .own [.c (.sli 5 (.c 0) 1 (.v Q.length) none), .c (.int .i64 d)] 80, .vec encStr Q 9, .ro encCal q.3])) := by kernel_rfl
end Go.Proofs.YtdadfgeepinpbaaDoor

namespace Go.Proofs.YtdadfgeepinpbaaDoor
open Go Go.Proofs.YtdadfgeepinpbaaDoor.Sx
set_option linter.unusedVariables false
set_option maxRecDepth 100000 in
theorem s_end {q : InG} {l : List Int} {c : Int} {f : Nat} {x : Snd} {b0 : Bool} {ms Q : List ByteArray} {d : Int} {i : Nat} {e : Cut} : (exec cfgM 100 send4 (fr 182 n4s (v4i q 6 d i ++ [.ptr 10 0, .ptr 3 0])) (sGs q l c f { x with sent := [b0] } ms Q d e)).bind (canonK 0 [(0,0)] 182 n4i) =
 

 (.need (true)

 (.need (true)

 (.need (true)

 (.need (decide (1 ≤ 1))

 (.need (decide (1 = 1))

 (.need (decide (1 = 1))

 (.need (true)

 (.br (false)

 (.ret (.ret, [.sli 1 (.c 0) 3 (.v q.3.length) (some (.v q.4)), .int .i64 d, .ptr 2 0, .ptr 5 0, .int .i64 (↑i : Int)], [.ro encLook [PUnit.unit], .ro encCal q.3, .own [.c (.ifc 78 (.ptr 3 0)), .c (.int .i64 (5 : Int))] 84, .own [.c (.sli 4 (.c 0) 1 (.v Q.length) none), .c (.int .i64 d)] 80, .vec encStr Q 9, .own [.c (.sli 6 (.c 0) 1 (.v 40) (some (.v 40))), .c (.int .i64 c)] 90, .own [.a (encInt IntKind.u32) 40 l] 35]))

 (.need (true)

 (.br (decide ((1 : Int) ≤ (↑e.2.size : Int)))

 (.br (!decide ((↑e.2.size : Int) ≤ (5 : Int)))
 (.eq (T.ret ([SVal.sb ((List.take (1 : Nat) (List.drop (0 : Nat) [b0])).getD (0 : Nat) false)].getD (0 : Nat) SVal.bad) = T.ret ([SVal.sb ((List.take (1 : Nat) (List.drop (0 : Nat) [b0])).getD (0 : Nat) false)].getD (0 : Nat) SVal.bad))
 (.eq (T.ret ([SVal.sb ((List.take (1 : Nat) (List.drop (0 : Nat) [b0])).getD (0 : Nat) false)].getD (0 : Nat) SVal.bad) = T.ret ([SVal.sb ((List.take (1 : Nat) (List.drop (0 : Nat) [b0])).getD (0 : Nat) false)].getD (0 : Nat) SVal.bad))
 (.eq (T.ret (SVal.str e.2) = T.ret (SVal.str e.2))

 (.br (!(List.take 1 (List.drop 0 [b0])).getD 0 false == false)

 (.ret (.ret, [.sli 1 (.c 0) 3 (.v q.3.length) (some (.v q.4)), .int .i64 d, .ptr 2 0, .ptr 5 0, .int .i64 (↑i : Int)], [.ro encLook [PUnit.unit], .ro encCal q.3, .own [.c (.ifc 78 (.ptr 3 0)), .c (.int .i64 (5 : Int))] 84, .own [.c (.sli 4 (.c 0) 1 (.v Q.length) none), .c (.int .i64 d)] 80, .vec encStr Q 9, .own [.c (.sli 6 (.c 0) 1 (.v 40) (some (.v 40))), .c (.int .i64 c)] 90, .own [.a (encInt IntKind.u32) 40 l] 35]))

 (.ret (.exit 1, [.sli 1 (.c 0) 3 (.v q.3.length) (some (.v q.4)), .int .i64 d, .ptr 2 0, .ptr 5 0, .int .i64 (↑i : Int)], [.ro encLook [PUnit.unit], .ro encCal q.3, .own [.c (.ifc 78 (.ptr 3 0)), .c (.int .i64 (5 : Int))] 84, .own [.c (.sli 4 (.c 0) 1 (.v Q.length) none), .c (.int .i64 d)] 80, .vec encStr Q 9, .own [.c (.sli 6 (.c 0) 1 (.v 40) (some (.v 40))), .c (.int .i64 c)] 90, .own [.a (encInt IntKind.u32) 40 l] 35]))))))

 (.br ((↑Q.length : Int) == d)
 (.eq (T.ret ([SVal.sb ((List.take (1 : Nat) (List.drop (0 : Nat) [b0])).getD (0 : Nat) false)].getD (0 : Nat) SVal.bad) = T.ret ([SVal.sb ((List.take (1 : Nat) (List.drop (0 : Nat) [b0])).getD (0 : Nat) false)].getD (0 : Nat) SVal.bad))
 (.eq (T.ret ([SVal.sb ((List.take (1 : Nat) (List.drop (0 : Nat) [b0])).getD (0 : Nat) false)].getD (0 : Nat) SVal.bad) = T.ret ([SVal.sb ((List.take (1 : Nat) (List.drop (0 : Nat) [b0])).getD (0 : Nat) false)].getD (0 : Nat) SVal.bad))
 (.eq (T.ret (SVal.str e.2) = T.ret (SVal.str e.2))

 (.br (!(List.take 1 (List.drop 0 [b0])).getD 0 false == false)

 (.ret (.ret, [.sli 1 (.c 0) 3 (.v q.3.length) (some (.v q.4)), .int .i64 d, .ptr 2 0, .ptr 5 0, .int .i64 (↑i : Int)], [.ro encLook [PUnit.unit], .ro encCal q.3, .own [.c (.ifc 78 (.ptr 3 0)), .c (.int .i64 (5 : Int))] 84, .own [.c (.sli 4 (.c 0) 1 (.v Q.length) none), .c (.int .i64 d)] 80, .vec encStr Q 9, .own [.c (.sli 6 (.c 0) 1 (.v 40) (some (.v 40))), .c (.int .i64 c)] 90, .own [.a (encInt IntKind.u32) 40 l] 35]))

 (.ret (.exit 1, [.sli 1 (.c 0) 3 (.v q.3.length) (some (.v q.4)), .int .i64 d, .ptr 2 0, .ptr 5 0, .int .i64 (↑i : Int)], [.ro encLook [PUnit.unit], .ro encCal q.3, .own [.c (.ifc 78 (.ptr 3 0)), .c (.int .i64 (5 : Int))] 84, .own [.c (.sli 4 (.c 0) 1 (.v Q.length) none), .c (.int .i64 d)] 80, .vec encStr Q 9, .own [.c (.sli 6 (.c 0) 1 (.v 40) (some (.v 40))), .c (.int .i64 c)] 90, .own [.a (encInt IntKind.u32) 40 l] 35]))))))

 (.need (true)

 (.need (decide (Q.length = Q.length))

 (.need (roomy (Q.length + 1) 16)
 (.eq (T.ret ([SVal.sb ((List.take (1 : Nat) (List.drop (0 : Nat) [b0])).getD (0 : Nat) false)].getD (0 : Nat) SVal.bad) = T.ret ([SVal.sb ((List.take (1 : Nat) (List.drop (0 : Nat) [b0])).getD (0 : Nat) false)].getD (0 : Nat) SVal.bad))
 (.eq (T.ret ([SVal.sb ((List.take (1 : Nat) (List.drop (0 : Nat) [b0])).getD (0 : Nat) false)].getD (0 : Nat) SVal.bad) = T.ret ([SVal.sb ((List.take (1 : Nat) (List.drop (0 : Nat) [b0])).getD (0 : Nat) false)].getD (0 : Nat) SVal.bad))
 (.eq (T.ret (SVal.str e.2) = T.ret (SVal.str e.2))

 (.br (!(List.take 1 (List.drop 0 [b0])).getD 0 false == true)

 (.ret (.ret, [.sli 1 (.c 0) 3 (.v q.3.length) (some (.v q.4)), .int .i64 d, .ptr 2 0, .ptr 5 0, .int .i64 (↑i : Int)], [.ro encLook [PUnit.unit], .ro encCal q.3, .own [.c (.ifc 78 (.ptr 3 0)), .c (.int .i64 (5 : Int))] 84, .own [.c (.sli 4 (.c 0) 1 (.v (Q.length + 1)) none), .c (.int .i64 d)] 80, .vec encStr (Q ++ [e.2]) 9, .own [.c (.sli 6 (.c 0) 1 (.v 40) (some (.v 40))), .c (.int .i64 c)] 90, .own [.a (encInt IntKind.u32) 40 l] 35]))

 (.ret (.exit 1, [.sli 1 (.c 0) 3 (.v q.3.length) (some (.v q.4)), .int .i64 d, .ptr 2 0, .ptr 5 0, .int .i64 (↑i : Int)], [.ro encLook [PUnit.unit], .ro encCal q.3, .own [.c (.ifc 78 (.ptr 3 0)), .c (.int .i64 (5 : Int))] 84, .own [.c (.sli 4 (.c 0) 1 (.v (Q.length + 1)) none), .c (.int .i64 d)] 80, .vec encStr (Q ++ [e.2]) 9, .own [.c (.sli 6 (.c 0) 1 (.v 40) (some (.v 40))), .c (.int .i64 c)] 90, .own [.a (encInt IntKind.u32) 40 l] 35])))))))))))
 (.eq (T.ret ([SVal.sb ((List.take (1 : Nat) (List.drop (0 : Nat) [b0])).getD (0 : Nat) false)].getD (0 : Nat) SVal.bad) = T.ret ([SVal.sb ((List.take (1 : Nat) (List.drop (0 : Nat) [b0])).getD (0 : Nat) false)].getD (0 : Nat) SVal.bad))
 (.eq (T.ret ([SVal.sb ((List.take (1 : Nat) (List.drop (0 : Nat) [b0])).getD (0 : Nat) false)].getD (0 : Nat) SVal.bad) = T.ret ([SVal.sb ((List.take (1 : Nat) (List.drop (0 : Nat) [b0])).getD (0 : Nat) false)].getD (0 : Nat) SVal.bad))
 (.eq (T.ret (SVal.str e.2) = T.ret (SVal.str e.2))

 (.br (!(List.take 1 (List.drop 0 [b0])).getD 0 false == false)

 (.ret (.ret, [.sli 1 (.c 0) 3 (.v q.3.length) (some (.v q.4)), .int .i64 d, .ptr 2 0, .ptr 5 0, .int .i64 (↑i : Int)], [.ro encLook [PUnit.unit], .ro encCal q.3, .own [.c (.ifc 78 (.ptr 3 0)), .c (.int .i64 (5 : Int))] 84, .own [.c (.sli 4 (.c 0) 1 (.v Q.length) none), .c (.int .i64 d)] 80, .vec encStr Q 9, .own [.c (.sli 6 (.c 0) 1 (.v 40) (some (.v 40))), .c (.int .i64 c)] 90, .own [.a (encInt IntKind.u32) 40 l] 35]))

 (.ret (.exit 1, [.sli 1 (.c 0) 3 (.v q.3.length) (some (.v q.4)), .int .i64 d, .ptr 2 0, .ptr 5 0, .int .i64 (↑i : Int)], [.ro encLook [PUnit.unit], .ro encCal q.3, .own [.c (.ifc 78 (.ptr 3 0)), .c (.int .i64 (5 : Int))] 84, .own [.c (.sli 4 (.c 0) 1 (.v Q.length) none), .c (.int .i64 d)] 80, .vec encStr Q 9, .own [.c (.sli 6 (.c 0) 1 (.v 40) (some (.v 40))), .c (.int .i64 c)] 90, .own [.a (encInt IntKind.u32) 40 l] 35])))))))))))))))) := by kernel_rfl
end Go.Proofs.YtdadfgeepinpbaaDoor

/- PortRing, plain: one side alone, on a queue. -/
namespace Go.Proofs.YtdadfgeepinpbaaDoor
open Go Go.Proofs.YtdadfgeepinpbaaDoor.Sx
set_option linter.unusedVariables false
theorem rel_sok {k : Nat} {a n z t c : Int} {ms : List ByteArray} {l : List Int} {x : Snd} {y : Rcv} {A : Ab} (h : Rel k a n z t ms l x y A) (hc : 0 ≤ c ∧ c ≤ 1000000) : SOk k l c x ms ∧ x.p ≤ 3 := by
  have hs := h.s
  refine ⟨⟨by rw [hs.at', hs.en, hs.ez]; exact h.m.on hc, hs.tl, fun hp => ?_, hs.ml, fun s hm => by rw [hs.ez]; exact (hs.fit s hm).2, by rw [hs.sent]; exact hs.le⟩, by rw [hs.p]; exact hs.p3⟩
  rw [hs.p] at hp
  obtain ⟨k1, k2, k3, k4, k5⟩ := hs.s2 (by omega)
  have h2 := hs.e2 hp
  have h3 := nw_le (fit_get hs.fit k1)
  rw [k4, hs.ez]
  unfold msg at h2
  omega
theorem rel_rok {k : Nat} {a n z t c : Int} {ms : List ByteArray} {l : List Int} {x : Snd} {y : Rcv} {A : Ab} (h : Rel k a n z t ms l x y A) (hc : 0 ≤ c ∧ c ≤ 1000000) : ROk k l c y ∧ y.p ≤ 3 := by
  have hs := h.r
  have hf : A.q ≠ [] → fitB z (A.q.headD nilB) := fun hq => by rw [headD_get]; exact fit_get h.q.fit (List.length_pos_iff.2 hq)
  refine ⟨⟨by rw [hs.at', hs.en, hs.ez]; exact h.m.on hc, hs.hd, fun hp => ?_, by rw [hs.et]; exact hs.t0, by rw [hs.got, hs.et]; exact hs.le, fun hp hd => ?_, hs.bl, fun hp => ?_⟩, by rw [hs.p]; exact hs.p3⟩
  · rw [hs.p] at hp
    obtain ⟨k1, k2, k3, k4, k5⟩ := hs.s2 (by omega)
    have h2 := hs.e2 hp
    have h3 := nw_le (hf k2)
    rw [k3, hs.ez]
    omega
  · rw [hs.p] at hp
    obtain ⟨k1, k2, k3, k4, k5⟩ := hs.s2 (by omega)
    rw [k3] at hd
    have h3 := hf k2
    rw [k4 (by omega), hs.ez]
    exact ⟨by have := h3.1; omega, h3.2⟩
  · rw [hs.p] at hp
    obtain ⟨k1, k2, k3, k4, k5⟩ := hs.s2 (by omega)
    have h2 := hs.e3 hp
    rw [k4 (by omega), k5, bytesD_len, h2]
    unfold nw
    omega
theorem words_nz {n z : Int} (h : RingOk n z) : (wordsP n z).2 = 0 := by
  have h1 := h.p
  have h2 := h.n
  have h3 := h.z
  unfold wordsP
  rw [if_neg (by rw [h1]; simp; omega), if_neg (by omega)]
abbrev w40 (h : Int) : List Int := ((List.replicate 40 0).set 0 h).set 1 h
/-- a depth's kind -/
structure DOk (d : Int) : Prop where
  v : d = 1 ∨ d = 2 ∨ d = 4 ∨ d = 8
  w : IntKind.u8.wrap d = d
  p : (bitop .and .u8 d (IntKind.u8.wrap (d - 1)) == 0) = true
def dG (p : Int) : Int := IntKind.i64.wrap ((1 : Int) * (2 : Int) ^ min (p.tmod (4 : Int)).toNat 64)
theorem dG_ok {p : Int} (hp : 0 ≤ p ∧ p ≤ 255) : DOk (dG p) := by
  unfold dG
  have h : p.tmod 4 = 0 ∨ p.tmod 4 = 1 ∨ p.tmod 4 = 2 ∨ p.tmod 4 = 3 := by rw [Int.tmod_eq_emod_of_nonneg hp.1]; omega
  rcases h with h | h | h | h <;> rw [h] <;> exact ⟨by decide, by decide, by decide⟩
theorem ring_d {d : Int} (h : DOk d) : RingOk d 5 := by
  have hv := h.v
  refine ⟨?_, by omega, by omega⟩
  unfold powB
  exact decide_eq_true (by omega)
theorem relM_start {d h : Int} (hd : DOk d) (hh : 0 ≤ h ∧ h < 4294967296) : RelM 40 0 d 5 (w40 h) := by
  have hv := hd.v
  refine ⟨Int.le_refl _, by omega, by omega, by simp, ring_d hd, ?_⟩
  refine u32s_set (u32s_set ?_ 0 hh) 1 hh
  intro x hx
  rw [(List.mem_replicate.1 hx).2]; omega
theorem relQ_start {d h : Int} (hd : DOk d) (hh : 0 ≤ h ∧ h < 4294967296) : RelQ 0 d 5 (w40 h) [] := by
  have hv := hd.v
  refine ⟨?_, by simp only [List.length_nil]; omega, fun s hs => (by cases hs), fun j hj => (by simp only [List.length_nil] at hj; omega)⟩
  have h0 : hdW 0 (w40 h) = h := rfl
  have h1 : tlW 0 (w40 h) = h := rfl
  rw [h0, h1]
  simp only [List.length_nil]
  omega
abbrev sndD (d : Int) : Snd := ⟨0, d, 5, 0, 0, 0, [], 0⟩
abbrev rcvD (d t : Int) : Rcv := ⟨0, d, 5, 0, 0, 0, t, 0, [], [], 0⟩
abbrev abD (Q : List ByteArray) : Ab := ⟨[], 0, 0, 0, [], 0, 0, 0, Q⟩
theorem rel_alone {d t : Int} {l : List Int} {Q ms : List ByteArray} (h1 : RelM 40 0 d 5 l) (h2 : RelQ 0 d 5 l Q) (ht : 0 ≤ t ∧ t ≤ 1000) (hl : ms.length ≤ 1000) (hf : ∀ s ∈ ms, fitB 5 s) : Rel 40 0 d 5 t ms l (sndD d) (rcvD d t) (abD Q) :=
  ⟨h1, h2, ⟨rfl, rfl, rfl, rfl, rfl, by simp, Nat.zero_le _, hl, hf, by simp, fun h => (by cases h), fun h => (by simp only at h; omega), fun h => (by cases h), fun h => (by cases h)⟩,
    ⟨rfl, rfl, rfl, rfl, ht, rfl, rfl, by simp, by simp only [List.length_nil]; omega, by simp, by simp, fun h => (by cases h), fun h => (by simp only at h; omega), fun h => (by cases h), fun h => (by cases h)⟩⟩
theorem nw_5 {s : ByteArray} (h : fitB 5 s) : nw s ≤ 2 := by unfold nw; have := h.2; omega
/-- a sender alone, behind n steps -/
def AsS (d : Int) (S : ByteArray) (Q : List ByteArray) (n : Nat) (A : Ab) : Prop :=
  (n = 0 ∧ A = abD Q) ∨ (n = 1 ∧ A = ⟨[], 1, 0, Q.length, [], 0, 0, 0, Q⟩) ∨ (2 ≤ n ∧ n - 2 ≤ nw S + 1 ∧ ¬ d ≤ (Q.length : Int) ∧ A = ⟨[], if nw S < n - 2 then 3 else 2, n - 2, Q.length, [], 0, 0, 0, Q⟩)
/-- what a sender alone has done -/
def DoneS (d : Int) (S : ByteArray) (Q : List ByteArray) (A : Ab) : Prop :=
  (d ≤ (Q.length : Int) ∧ A.sent = [false] ∧ A.q = Q) ∨ (¬ d ≤ (Q.length : Int) ∧ A.sent = [true] ∧ A.q = Q ++ [S])
theorem AsS.sent {d : Int} {S : ByteArray} {Q : List ByteArray} {n : Nat} {A : Ab} (h : AsS d S Q n A) : A.sent = [] ∧ n ≤ nw S + 3 := by
  rcases h with ⟨rfl, rfl⟩ | ⟨rfl, rfl⟩ | ⟨h1, h2, h3, rfl⟩
  · exact ⟨rfl, by omega⟩
  · exact ⟨rfl, by omega⟩
  · exact ⟨rfl, by omega⟩
theorem asS_step {d : Int} {S : ByteArray} {Q : List ByteArray} {n : Nat} {A : Ab} (h : AsS d S Q n A) : (AsS d S Q (n + 1) (aStepS d [S] A) ∧ (aStepS d [S] A).sent = []) ∨ DoneS d S Q (aStepS d [S] A) := by
  rcases h with ⟨rfl, rfl⟩ | ⟨rfl, rfl⟩ | ⟨h1, h2, h3, rfl⟩
  · exact .inl ⟨.inr (.inl ⟨rfl, rfl⟩), rfl⟩
  · by_cases hf : d ≤ (Q.length : Int)
    · have e : aStepS d [S] ⟨[], 1, 0, Q.length, [], 0, 0, 0, Q⟩ = ⟨[false], 0, 0, Q.length, [], 0, 0, 0, Q⟩ := by
        simp only [aStepS, List.length_nil, List.length_singleton, if_pos hf]; rfl
      rw [e]; exact .inr (.inl ⟨hf, rfl, rfl⟩)
    · have e : aStepS d [S] ⟨[], 1, 0, Q.length, [], 0, 0, 0, Q⟩ = ⟨[], 2, 0, Q.length, [], 0, 0, 0, Q⟩ := by
        simp only [aStepS, List.length_nil, List.length_singleton, if_neg hf]; rfl
      rw [e]; exact .inl ⟨.inr (.inr ⟨by omega, by omega, hf, by rw [if_neg (by omega)]⟩), rfl⟩
  · by_cases h4 : nw S < n - 2
    · rw [if_pos h4]
      exact .inr (.inr ⟨h3, rfl, rfl⟩)
    · rw [if_neg h4]
      have e : aStepS d [S] ⟨[], 2, n - 2, Q.length, [], 0, 0, 0, Q⟩ = ⟨[], if nw S < n - 2 + 1 then 3 else 2, n - 2 + 1, Q.length, [], 0, 0, 0, Q⟩ := rfl
      rw [e, show n - 2 + 1 = n + 1 - 2 by omega]
      exact .inl ⟨.inr (.inr ⟨by omega, by omega, h3, rfl⟩), rfl⟩
/-- a receiver alone, behind n steps -/
def AsR (Q : List ByteArray) (n : Nat) (A : Ab) : Prop :=
  (n = 0 ∧ A = abD Q) ∨ (n = 1 ∧ A = ⟨[], 0, 0, 0, [], 1, 0, Q.length, Q⟩) ∨ (2 ≤ n ∧ n - 2 ≤ nw (Q.headD nilB) + 1 ∧ Q ≠ [] ∧ A = ⟨[], 0, 0, 0, [], if nw (Q.headD nilB) < n - 2 then 3 else 2, n - 2, Q.length, Q⟩)
def DoneR (Q : List ByteArray) (A : Ab) : Prop :=
  (Q = [] ∧ A.got = [nilB] ∧ A.q = Q) ∨ (Q ≠ [] ∧ A.got = [Q.headD nilB] ∧ A.q = Q.tail)
theorem AsR.got {Q : List ByteArray} {n : Nat} {A : Ab} (h : AsR Q n A) : A.got = [] ∧ n ≤ nw (Q.headD nilB) + 3 := by
  rcases h with ⟨rfl, rfl⟩ | ⟨rfl, rfl⟩ | ⟨h1, h2, h3, rfl⟩
  · exact ⟨rfl, by omega⟩
  · exact ⟨rfl, by omega⟩
  · exact ⟨rfl, by omega⟩
theorem asR_step {Q : List ByteArray} {n : Nat} {A : Ab} (h : AsR Q n A) : (AsR Q (n + 1) (aStepR 1 A) ∧ (aStepR 1 A).got = []) ∨ DoneR Q (aStepR 1 A) := by
  rcases h with ⟨rfl, rfl⟩ | ⟨rfl, rfl⟩ | ⟨h1, h2, h3, rfl⟩
  · exact .inl ⟨.inr (.inl ⟨rfl, rfl⟩), rfl⟩
  · cases Q with
    | nil => exact .inr (.inl ⟨rfl, rfl, rfl⟩)
    | cons a Q => exact .inl ⟨.inr (.inr ⟨by omega, by omega, by simp, by rw [if_neg (by omega)]; rfl⟩), rfl⟩
  · by_cases h4 : nw (Q.headD nilB) < n - 2
    · rw [if_pos h4]
      exact .inr (.inr ⟨h3, rfl, rfl⟩)
    · rw [if_neg h4]
      have e : aStepR 1 ⟨[], 0, 0, 0, [], 2, n - 2, Q.length, Q⟩ = ⟨[], 0, 0, 0, [], if nw (Q.headD nilB) < n - 2 + 1 then 3 else 2, n - 2 + 1, Q.length, Q⟩ := rfl
      rw [e, show n - 2 + 1 = n + 1 - 2 by omega]
      exact .inl ⟨.inr (.inr ⟨by omega, by omega, h3, rfl⟩), rfl⟩
theorem nw_head {d : Int} {l : List Int} {Q : List ByteArray} (h : RelQ 0 d 5 l Q) : nw (Q.headD nilB) ≤ 2 := by
  cases Q with
  | nil => show nw nilB ≤ 2; exact (by decide : (nilB.size + 3) / 4 ≤ 2)
  | cons a Q => exact nw_5 (h.fit a (List.mem_cons_self))
/-- between calls, in a sender's loop, in a receiver's -/
structure LG (d : Int) (m : Nat) (l : List Int) (c : Int) (Q : List ByteArray) : Prop where
  dk : DOk d
  rm : RelM 40 0 d 5 l
  rq : RelQ 0 d 5 l Q
  c : 0 ≤ c ∧ c ≤ 2 + 20 * (m : Int)
structure LS (d : Int) (m : Nat) (S : ByteArray) (Q : List ByteArray) (n : Nat) (l : List Int) (c : Int) (x : Snd) (A : Ab) : Prop where
  rel : Rel 40 0 d 5 1 [S] l x (rcvD d 1) A
  how : AsS d S Q n A
  c : 0 ≤ c ∧ c ≤ 2 + 20 * (m : Int) + n
structure LR (d : Int) (m : Nat) (Q : List ByteArray) (n : Nat) (l : List Int) (c : Int) (y : Rcv) (A : Ab) : Prop where
  rel : Rel 40 0 d 5 1 [] l (sndD d) y A
  how : AsR Q n A
  c : 0 ≤ c ∧ c ≤ 2 + 20 * (m : Int) + n
theorem LG.snd {d : Int} {m : Nat} {l : List Int} {c : Int} {Q : List ByteArray} (h : LG d m l c Q) {S : ByteArray} (hS : fitB 5 S) : LS d m S Q 0 l c (sndD d) (abD Q) :=
  ⟨rel_alone h.rm h.rq (by omega) (by simp) (fun s hs => by rw [List.mem_singleton.1 hs]; exact hS), .inl ⟨rfl, rfl⟩, by have := h.c; omega⟩
theorem LG.rcv {d : Int} {m : Nat} {l : List Int} {c : Int} {Q : List ByteArray} (h : LG d m l c Q) : LR d m Q 0 l c (rcvD d 1) (abD Q) :=
  ⟨rel_alone h.rm h.rq (by omega) (by simp) (fun s hs => by cases hs), .inl ⟨rfl, rfl⟩, by have := h.c; omega⟩
theorem LS.c1 {d : Int} {m : Nat} {S : ByteArray} {Q : List ByteArray} {n : Nat} {l : List Int} {c : Int} {x : Snd} {A : Ab} (h : LS d m S Q n l c x A) : 0 ≤ sC x [S] c ∧ sC x [S] c ≤ 2 + 20 * (m : Int) + ((n + 1 : Nat) : Int) := by
  have := h.c
  unfold sC
  split <;> omega
theorem LR.c1 {d : Int} {m : Nat} {Q : List ByteArray} {n : Nat} {l : List Int} {c : Int} {y : Rcv} {A : Ab} (h : LR d m Q n l c y A) : 0 ≤ rC y c ∧ rC y c ≤ 2 + 20 * (m : Int) + ((n + 1 : Nat) : Int) := by
  have := h.c
  unfold rC
  split <;> omega
/-- a sender's step goes on, or is done -/
theorem LS.step {d : Int} {m : Nat} {S : ByteArray} {Q : List ByteArray} {n : Nat} {l : List Int} {c : Int} {x : Snd} {A : Ab} (hd : DOk d) (hS : fitB 5 S) (h : LS d m S Q n l c x A) :
    (sStill (sNext x [S] l).1 [S] = false ∧ LS d m S Q (n + 1) (sNext x [S] l).2 (sC x [S] c) (sNext x [S] l).1 (aStepS d [S] A)) ∨
    (sStill (sNext x [S] l).1 [S] = true ∧ ∃ b Q', (sNext x [S] l).1.sent = [b] ∧ LG d (m + 1) (sNext x [S] l).2 (sC x [S] c) Q' ∧ ((d ≤ (Q.length : Int) ∧ b = false ∧ Q' = Q) ∨ (¬ d ≤ (Q.length : Int) ∧ b = true ∧ Q' = Q ++ [S]))) := by
  obtain ⟨h1, h2⟩ := rel_s h.rel
  have hn := h.how.sent.2
  have h5 := nw_5 hS
  have hc := h.c1
  rcases asS_step h.how with ⟨h3, h4⟩ | h3
  · exact .inl ⟨by rw [h2, h4]; rfl, h1, h3, hc⟩
  · rcases h3 with ⟨k1, k2, k3⟩ | ⟨k1, k2, k3⟩
    · exact .inr ⟨by rw [h2, k2]; rfl, false, Q, by rw [h1.s.sent, k2], ⟨hd, h1.m, by rw [← k3]; exact h1.q, by omega⟩, .inl ⟨k1, rfl, rfl⟩⟩
    · exact .inr ⟨by rw [h2, k2]; rfl, true, Q ++ [S], by rw [h1.s.sent, k2], ⟨hd, h1.m, by rw [← k3]; exact h1.q, by omega⟩, .inr ⟨k1, rfl, rfl⟩⟩
theorem LR.step {d : Int} {m : Nat} {Q : List ByteArray} {n : Nat} {l : List Int} {c : Int} {y : Rcv} {A : Ab} (hd : DOk d) (hq : nw (Q.headD nilB) ≤ 2) (h : LR d m Q n l c y A) :
    (rStill (rNext y l).1 = false ∧ LR d m Q (n + 1) (rNext y l).2 (rC y c) (rNext y l).1 (aStepR 1 A)) ∨
    (rStill (rNext y l).1 = true ∧ ∃ g Q', (rNext y l).1.got = [g] ∧ LG d (m + 1) (rNext y l).2 (rC y c) Q' ∧ ((Q = [] ∧ g = nilB ∧ Q' = Q) ∨ (Q ≠ [] ∧ g = Q.headD nilB ∧ Q' = Q.tail))) := by
  obtain ⟨h1, h2⟩ := rel_r h.rel
  have hn := h.how.got.2
  have hc := h.c1
  rcases asR_step h.how with ⟨h3, h4⟩ | h3
  · exact .inl ⟨by rw [h2, h4]; rfl, h1, h3, hc⟩
  · rcases h3 with ⟨k1, k2, k3⟩ | ⟨k1, k2, k3⟩
    · exact .inr ⟨by rw [h2, k2]; rfl, nilB, Q, by rw [h1.r.got, k2], ⟨hd, h1.m, by rw [← k3]; exact h1.q, by omega⟩, .inl ⟨k1, rfl, rfl⟩⟩
    · exact .inr ⟨by rw [h2, k2]; rfl, Q.headD nilB, Q.tail, by rw [h1.r.got, k2], ⟨hd, h1.m, by rw [← k3]; exact h1.q, by omega⟩, .inr ⟨k1, rfl, rfl⟩⟩
end Go.Proofs.YtdadfgeepinpbaaDoor

/- PortRing: a call that sends. -/
namespace Go.Proofs.YtdadfgeepinpbaaDoor
open Go Go.Proofs.YtdadfgeepinpbaaDoor.Sx
set_option linter.unusedVariables false
abbrev Q4 (w0 : From) : Exit → Act → World → Prop := bodyPost Tryd.prog Tryd.f4 (Said w0)
def InvG (w0 : From) (q : InG) (d : Int) (i : Nat) (a : Act) (W : World) : Prop :=
  i ≤ 40 ∧ ∃ l c Q, LG d i l c Q ∧ ∃ env, At [(0, 0)] w0 env (fr 182 n4i (v4i q 3 d i)) (sG q l c Q d) a W
abbrev RG (w0 : From) (q : InG) (d : Int) (i : Nat) : Exit → Act → World → Prop :=
  Exit.then (fun a' w' => ∃ k, InvG w0 q d k a' w' ∧ 40 - k < 40 - i) (Exit.inBlock 0 (Exit.then (end4.wp Tryd.prog (Q4 w0)) (Q4 w0)))
abbrev BG (w0 : From) (q : InG) (d : Int) (i : Nat) : Exit → Act → World → Prop :=
  Exit.inBlock 1 (Exit.then (inc4.wp Tryd.prog (RG w0 q d i)) (RG w0 q d i))
theorem LG.up {d : Int} {m : Nat} {l : List Int} {c : Int} {Q : List ByteArray} (h : LG d m l c Q) : LG d (m + 1) l c Q := ⟨h.dk, h.rm, h.rq, by have := h.c; omega⟩
theorem next4 {w0 : From} {q : InG} {d : Int} {i : Nat} (hi : i < 40) {l : List Int} {c : Int} {Q : List ByteArray} (h : LG d (i + 1) l c Q) {env : Env} {a : Act} {W : World} (hA : At [(0, 0)] w0 env (fr 182 n4i (v4i q 3 d i)) (sG q l c Q d) a W) :
    inc4.wp Tryd.prog (RG w0 q d i) a W := by
  refine pieceT0 (c := cfgM) cfgM_ok n4i g_inc hA ?_
  refine all_needp (by simp only [inR_i64]; exact Iff.rfl) (by omega) fun _ => all_ret fun env4 a4 w4 hA4 => ?_
  exact ⟨i + 1, ⟨by omega, l, c, Q, h, env4, hA4⟩, by omega⟩
abbrev BC (w0 : From) (q : InG) (d : Int) (i : Nat) : Exit → Act → World → Prop := Exit.then (rcv4.wp Tryd.prog (BG w0 q d i)) (BG w0 q d i)
theorem bc_exit {w0 : From} {q : InG} {d : Int} {i : Nat} {a : Act} {W : World} (h : inc4.wp Tryd.prog (RG w0 q d i) a W) : BC w0 q d i (.exit 1) a W := by
  simp only [BC, Exit.then, BG, Exit.inBlock, if_true]
  exact h
set_option maxHeartbeats 2000000 in
theorem send_end {w0 : From} {q : InG} {d : Int} {i : Nat} (hi : i < 40) {l : List Int} {c : Int} {f : Nat} {x : Snd} {b : Bool} {S : ByteArray} {Q Q' : List ByteArray} {e : Cut} (hS : fitB 5 e.s) (hQ : (Q.length : Int) ≤ d) (hd : DOk d) (h : LG d (i + 1) l c Q') (hb : (d ≤ (Q.length : Int) ∧ b = false ∧ Q' = Q) ∨ (¬ d ≤ (Q.length : Int) ∧ b = true ∧ Q' = Q ++ [e.s])) {env : Env} {a : Act} {W : World}
    (hA : At [(0, 0)] w0 env (fr 182 n4s (v4i q 6 d i ++ [.ptr 10 0, .ptr 3 0])) (sGs q l c f { x with sent := [b] } [e.s] Q d e) a W) :
    send4.wp Tryd.prog (BC w0 q d i) a W := by
  have hv := hd.v
  obtain ⟨hS1, hS2⟩ := hS
  refine pieceT0 (c := cfgM) cfgM_ok n4i s_end hA ?_
  iterate 7 refine all_need (by first | rfl | decide) fun _ => ?_
  refine all_br (fun hh => by cases hh) (fun _ => ?_)
  refine all_need rfl fun _ => ?_
  refine all_brt (by simp only [decide_eq_true_eq]; exact Iff.rfl) (by omega) ?_
  refine all_brf (p := ¬ (e.2.size : Int) ≤ 5) (by simp) (by omega) ?_
  refine all_brp (by simp only [beq_iff_eq]; exact Iff.rfl) (fun hf => ?_) (fun hf => ?_)
  · rcases hb with ⟨h1, rfl, rfl⟩ | ⟨h1, rfl, rfl⟩
    · refine all_eq rfl (all_eq rfl (all_eq rfl ?_))
      refine all_br (fun hh => by cases hh) (fun _ => all_ret fun env1 a1 w1 hA1 => ?_)
      have hA2 := hA1.perm [0, 6, 5, 2, 3, 4, 1] (by kernel_rfl) (by kernel_rfl) (st' := sG q l c Q' d) (vals' := v4i q 3 d i) (by kernel_rfl) (by kernel_rfl)
      exact bc_exit (next4 hi h hA2)
    · exfalso; omega
  · rcases hb with ⟨h1, rfl, rfl⟩ | ⟨h1, rfl, rfl⟩
    · exfalso; omega
    · refine all_need rfl fun _ => ?_
      refine all_need (decide_eq_true rfl) fun _ => ?_
      refine all_needq (by simp only [roomy_iff]; exact Iff.rfl) (by omega) ?_
      refine all_eq rfl (all_eq rfl (all_eq rfl ?_))
      refine all_br (fun hh => by cases hh) (fun _ => all_ret fun env1 a1 w1 hA1 => ?_)
      have e2 : Q.length + 1 = (Q ++ [e.2]).length := by simp
      rw [e2] at hA1
      generalize Q ++ [e.2] = Q2 at *
      have hA2 := hA1.perm [0, 6, 5, 2, 3, 4, 1] (by kernel_rfl) (by kernel_rfl) (st' := sG q l c Q2 d) (vals' := v4i q 3 d i) (by kernel_rfl) (by kernel_rfl)
      exact bc_exit (next4 hi h hA2)
def InvS (w0 : From) (q : InG) (d : Int) (i : Nat) (e : Cut) (Q : List ByteArray) (n : Nat) (a : Act) (W : World) : Prop :=
  n ≤ 19 ∧ ∃ l c x A, LS d i e.s Q n l c x A ∧ ∃ env, At [(0, 0)] w0 env (fr 182 n4sn (v4i q 6 d i ++ [.ptr 10 0, .ptr 3 0, .int .i64 (n : Nat)])) (sGs q l c (sfn x.p) x [e.s] Q d e) a W
abbrev RS (w0 : From) (q : InG) (d : Int) (i : Nat) (e : Cut) (Q : List ByteArray) (n : Nat) : Exit → Act → World → Prop :=
  Exit.then (fun a' w' => ∃ k, InvS w0 q d i e Q k a' w' ∧ 20 - k < 20 - n) (Exit.inBlock 2 (Exit.then (send4.wp Tryd.prog (BC w0 q d i)) (BC w0 q d i)))
set_option maxHeartbeats 4000000 in
theorem sround_ok {w0 : From} {q : InG} {d : Int} {i : Nat} (hi : i < 40) {e : Cut} {Q : List ByteArray} (hS : fitB 5 e.s) (hQ : (Q.length : Int) ≤ d) (hd : DOk d) {n : Nat} {a : Act} {W : World} (hI : InvS w0 q d i e Q n a W) :
    sround4.wp Tryd.prog (RS w0 q d i e Q n) a W := by
  obtain ⟨hn, l, c, x, A, h, env, hA⟩ := hI
  have hc := h.c
  refine wpS (by kernel_rfl) ?_
  have hsok := rel_sok h.rel (c := c) (by omega)
  have hst := h.step hd hS
  refine pieceT0 (c := cfgSs (sGs q l c (sfn x.p) x [e.s] Q d e) (sGsS q (sNext x [e.s] l).2 (sC x [e.s] c) (sfn (sNext x [e.s] l).1.p) (sNext x [e.s] l).1 [e.s] Q d e) (sStill (sNext x [e.s] l).1 [e.s]) (SOk 40 l c x [e.s] ∧ x.p ≤ 3)) (cfgSs_ok fun hp env w vs hg hr hd => stepS hp env w vs hg hr hd) n4sn s_tm hA ?_
  refine all_brt (by simp only [decide_eq_true_eq]; exact Iff.rfl) (by omega) ?_
  refine all_eq ⟨rfl, rfl, hsok⟩ ?_
  have hnb := h.how.sent.2
  have h5 := nw_5 hS
  generalize sC x [e.s] c = c1 at *
  generalize (sNext x [e.s] l).2 = l1 at *
  generalize (sNext x [e.s] l).1 = x1 at *
  generalize aStepS d [e.s] A = A1 at *
  rcases hst with ⟨hb, hs⟩ | ⟨hb, b, Q', hx, hg, hh⟩
  · rw [hb]
    refine all_br (fun _ => all_ret fun env1 a1 w1 hA1 => ?_) (fun hh => by cases hh)
    have hA2 := hA1.perm [0, 6, 5, 8, 9, 10, 2, 3, 4, 1, 7] (by kernel_rfl) (by kernel_rfl) (st' := sGs q l1 c1 (sfn x1.p) x1 [e.s] Q d e) (vals' := v4i q 6 d i ++ [.ptr 10 0, .ptr 3 0, .int .i64 (n : Nat)]) (by kernel_rfl) (by kernel_rfl)
    simp only [Ex.to, Exit.then]
    refine (show (rgt sround4).wp _ _ _ _ from wpS (by kernel_rfl) (wpB 3 (by kernel_rfl) ?_))
    refine wp_skip ?_
    simp only [Exit.inBlock, Exit.then]
    refine (show sinc4.wp _ _ _ _ from ?_)
    refine pieceT0 (c := cfgM) cfgM_ok n4sn s_inc hA2 ?_
    refine all_needp (by simp only [inR_i64]; exact Iff.rfl) (by omega) fun _ => all_ret fun env4 a4 w4 hA4 => ?_
    exact ⟨n + 1, ⟨by omega, l1, c1, x1, A1, hs, env4, hA4⟩, by omega⟩
  · rw [hb]
    refine all_br (fun hh => by cases hh) (fun _ => all_ret fun env1 a1 w1 hA1 => ?_)
    have hA2 := hA1.perm [0, 6, 5, 8, 9, 10, 2, 3, 4, 1, 7] (by kernel_rfl) (by kernel_rfl) (st' := sGs q l1 c1 (sfn x1.p) x1 [e.s] Q d e) (vals' := v4i q 6 d i ++ [.ptr 10 0, .ptr 3 0, .int .i64 (n : Nat)]) (by kernel_rfl) (by kernel_rfl)
    simp only [Ex.to, RS, Exit.then, Exit.inBlock, if_true]
    obtain ⟨a1', a2', a3', a4', a5', a6', a7', a8'⟩ := x1
    simp only at hx
    subst hx
    exact send_end (x := ⟨a1', a2', a3', a4', a5', a6', [b], a8'⟩) (f := sfn a8') (S := e.s) hi hS hQ hd hg hh (At.few (names := n4s) (extra := [16]) (vals := v4i q 6 d i ++ [.ptr 10 0, .ptr 3 0]) (ev := [.int .i64 (n : Nat)]) hA2 rfl)
theorem words_d {d : Int} (hd : DOk d) : (wordsP d 5).2 = 0 := words_nz (ring_d hd)
set_option maxHeartbeats 4000000 in
theorem snd4_ok {w0 : From} {q : InG} {d : Int} {i : Nat} (hi : i < 40) {l : List Int} {c : Int} {Q : List ByteArray} {e : Cut} (h : LG d i l c Q) {env : Env} {a : Act} {W : World} (hA : At [(0, 0)] w0 env (fr 182 n4x (v4i q 3 d i ++ [.ptr 7 0])) (sGc q l c Q d e) a W) :
    snd4.wp Tryd.prog (BC w0 q d i) a W := by
  have hd := h.dk
  have hw := words_d hd
  refine pieceNT0 (c := cfgM) cfgM_ok 1 n4x s_ok hA ?_
  have drop : ∀ {env : Env} {a : Act} {W : World}, At [(0, 0)] w0 env (fr 182 n4x (v4i q 3 d i ++ [.ptr 7 0])) (sGc q l c Q d e) a W → BC w0 q d i (.exit 1) a W := by
    intro env a W hA
    have hA1 : At [(0, 0)] w0 env (fr 182 n4i (v4i q 3 d i)) (sGc q l c Q d e) a W := At.few (names := n4i) (extra := [13]) (vals := v4i q 3 d i) (ev := [.ptr 7 0]) hA rfl
    have hA2 := hA1.perm [0, 1, 2, 3, 4, 5, 6] (by kernel_rfl) (by kernel_rfl) (st' := sG q l c Q d) (vals' := v4i q 3 d i) (by kernel_rfl) (by kernel_rfl)
    exact bc_exit (next4 hi h.up hA2)
  have hse : strEq e.2 { data := { toList := [] } } = true ↔ e.s.size = 0 := by
    rw [show ({ data := { toList := [] } } : ByteArray) = ByteArray.mk ⟨[]⟩ from rfl, strEq_nil, decide_eq_true_eq]
  refine all_brp hse (fun h1 => all_ret fun env1 a1 w1 hA1 => drop hA1) (fun h1 => ?_)
  refine all_brp (by simp only [decide_eq_true_eq]; exact Iff.rfl) (fun h2 => all_ret fun env1 a1 w1 hA1 => drop hA1) (fun h2 => all_ret fun env1 a1 w1 hA1 => ?_)
  have hS : fitB 5 e.s := ⟨by omega, by omega⟩
  simp only [Ex.to, Exit.then]
  refine pieceNT0 (c := cfgW) cfgW_ok 2 n4s s_new hA1 ?_
  refine all_eq rfl ?_
  refine all_br (fun hh => absurd hw (bne_iff_ne.1 hh)) (fun _ => ?_)
  refine all_brf (by simp only [decide_eq_true_eq]; exact Iff.rfl) (by omega) ?_
  refine all_brf (by simp only [decide_eq_true_eq]; exact Iff.rfl) (by omega) ?_
  refine all_need rfl fun _ => ?_
  refine all_needq (by simp only [roomy_iff]; exact Iff.rfl) (by omega) ?_
  refine all_ret fun env2 a2 w2 hA2 => ?_
  simp only [Ex.to, Exit.then]
  have hA3 := hA2.typed 9 (E' := encStr) (ys := [e.s]) rfl rfl rfl (by kernel_rfl)
  obtain ⟨env4, hA4⟩ := hA3.nilv 8 8 1 (l := [.lit .i64 0, .int .i64 d, .lit .i64 5, .fn (.func 41) [.ptr 8 0] [], .lit .u32 0, .lit .u32 0, .lit .i64 0, .sli 9 (.c 0) 1 (.c 1) none, .snil]) (T0 := 124) rfl rfl encBool 4
  have hA5 := hA4.perm [0, 1, 2, 8, 9, 10, 3, 4, 5, 6, 7] (by kernel_rfl) (by kernel_rfl) (st' := memS 40 l c ++ [.own [.c (.lit .i64 0), .c (.int .i64 d), .c (.lit .i64 5), .c (.fn (.func 41) [.ptr 3 0] []), .c (.lit .u32 0), .c (.lit .u32 0), .c (.lit .i64 0), .c (.sli 4 (.c 0) 1 (.c 1) none), .c (.sli 5 (.c 0) 1 (.v 0) none)] 124, .vec encStr [e.s] 9, .vec encBool [] 4] ++ tlG 6 q Q d ++ [calB e]) (vals' := v4i q 6 d i ++ [.ptr 10 0, .ptr 3 0]) (by kernel_rfl) (by kernel_rfl)
  have hA6 : At [(0, 0)] w0 _ (fr 182 n4s (v4i q 6 d i ++ [.ptr 10 0, .ptr 3 0])) (sGs q l c (sfn (sndD d).p) (sndD d) [e.s] Q d e) a2 w2 := hA5.gen rfl
  refine (show (restC 3 snd4).wp _ _ _ _ from wpS (by kernel_rfl) (wpS (by kernel_rfl) ?_))
  refine (show ssr4.wp _ _ _ _ from ?_)
  refine pieceT0 (c := cfgM) cfgM_ok n4sn s_reg hA6 (all_ret fun env7 a7 w7 hA7 => ?_)
  simp only [Ex.to, Exit.then]
  have hA8 := hA7.gvals (v4i q 6 d i ++ [.ptr 10 0, .ptr 3 0, .int .i64 (0 : Nat)]) rfl
  refine (show ssb4.wp _ _ _ _ from wpB 2 (by kernel_rfl) (wpL (by kernel_rfl) (InvS w0 q d i e Q) (fun i => 20 - i) 0 ⟨Nat.zero_le _, l, c, sndD d, _, h.snd hS, env7, hA8⟩ ?_))
  intro n a w hn
  exact sround_ok hi hS h.rq.cap hd hn
end Go.Proofs.YtdadfgeepinpbaaDoor

/- PortRing: a call that receives, and the law's call. -/
namespace Go.Proofs.YtdadfgeepinpbaaDoor
open Go Go.Proofs.YtdadfgeepinpbaaDoor.Sx
set_option linter.unusedVariables false
abbrev BGx (w0 : From) (q : InG) (d : Int) (i : Nat) : Exit → Act → World → Prop := BG w0 q d i
theorem bg_norm {w0 : From} {q : InG} {d : Int} {i : Nat} {a : Act} {W : World} (h : inc4.wp Tryd.prog (RG w0 q d i) a W) : BG w0 q d i .normal a W := by
  simp only [BG, Exit.then, Exit.inBlock]
  exact h
theorem strEq_size (s : ByteArray) : strEq s { data := { toList := [] } } = true ↔ s.size = 0 := by
  rw [show ({ data := { toList := [] } } : ByteArray) = ByteArray.mk ⟨[]⟩ from rfl, strEq_nil, decide_eq_true_eq]
theorem strEq_same (s : ByteArray) : strEq s s = true := by simp [strEq]
set_option maxHeartbeats 2000000 in
theorem recv_end {w0 : From} {q : InG} {d : Int} {i : Nat} (hi : i < 40) {l : List Int} {c : Int} {f : Nat} {y : Rcv} {g : ByteArray} {Q Q' : List ByteArray} {e : Cut} (hf : ∀ s ∈ Q, fitB 5 s) (hQ : (Q.length : Int) ≤ d) (hd : DOk d) (h : LG d (i + 1) l c Q') (hg : y.got = [g]) (hb : (Q = [] ∧ g = nilB ∧ Q' = Q) ∨ (Q ≠ [] ∧ g = Q.headD nilB ∧ Q' = Q.tail)) {env : Env} {a : Act} {W : World}
    (hA : At [(0, 0)] w0 env (fr 182 n4r (v4i q 6 d i ++ [.ptr 3 0])) (sGr q l c f y Q d e) a W) :
    rend4.wp Tryd.prog (BG w0 q d i) a W := by
  have hv := hd.v
  obtain ⟨a1, a2, a3, a4, a5, a6, a7, a8, a9, got, p⟩ := y
  simp only at hg
  subst hg
  refine pieceT0 (c := cfgM) cfgM_ok n4i r_end hA ?_
  refine all_need (decide_eq_true (Nat.le_refl _)) fun _ => ?_
  refine all_need (decide_eq_true (Nat.le_refl _)) fun _ => ?_
  refine all_need (by first | rfl | decide) fun _ => ?_
  have hl1 : ∀ {t f : T (Ex × List SVal × St)} {R : Ex × List SVal × St → Prop}, All R f → All R (.br (((List.take [g].length (List.drop 0 [g])).length : Int) != (1 : Int)) t f) := fun h => all_br (fun hh => by simp at hh) (fun _ => h)
  rcases hb with ⟨rfl, rfl, rfl⟩ | ⟨hne, rfl, rfl⟩
  · refine all_br (fun _ => ?_) (fun hh => by cases hh)
    refine hl1 ?_
    refine all_need rfl fun _ => ?_
    refine all_need rfl fun _ => ?_
    refine all_br (fun hh => by cases hh) (fun _ => all_ret fun env1 a1 w1 hA1 => ?_)
    have hA2 := hA1.perm [0, 6, 5, 2, 3, 4, 1] (by kernel_rfl) (by kernel_rfl) (st' := sG q l c [] d) (vals' := v4i q 3 d i) (by kernel_rfl) (by kernel_rfl)
    exact bg_norm (next4 hi h hA2)
  · cases Q with
    | nil => exact absurd rfl hne
    | cons s Q =>
      simp only [List.headD_cons, List.tail_cons] at *
      have hs := hf s List.mem_cons_self
      have hlen : (s :: Q).length = Q.length + 1 := List.length_cons
      have hnq : strEq s { data := { toList := [] } } = false := by
        cases hb : strEq s { data := { toList := [] } } with
        | false => rfl
        | true => have := (strEq_size s).1 hb; have := hs.1; omega
      refine all_brf (by simp only [beq_iff_eq]; exact Iff.rfl) (by omega) ?_
      refine all_need (decide_eq_true (by omega)) fun _ => ?_
      refine all_need (decide_eq_true (by omega)) fun _ => ?_
      refine all_need (decide_eq_true (Nat.le_refl _)) fun _ => ?_
      refine all_need (decide_eq_true (by omega)) fun _ => ?_
      refine all_need (decide_eq_true (by omega)) fun _ => ?_
      refine all_need (decide_eq_true (by omega)) fun _ => ?_
      have e1 : List.take ((s :: Q).length - 1) (List.drop 1 (s :: Q)) = Q := by simp
      rw [e1]
      refine all_needq (by simp only [roomy_iff]; exact Iff.rfl) (by omega) ?_
      refine hl1 ?_
      refine all_need rfl fun _ => ?_
      refine all_need rfl fun _ => ?_
      refine all_br (fun hh => ?_) (fun _ => ?_)
      · have h9 : (!strEq s s) = true := hh
        rw [strEq_same] at h9
        cases h9
      · refine all_br (fun hh => ?_) (fun _ => all_ret fun env1 a1 w1 hA1 => ?_)
        · exfalso
          have h9 : (!true == !strEq s { data := { toList := [] } }) = true := hh
          rw [hnq] at h9
          cases h9
        have hA2 := hA1.perm [0, 6, 5, 2, 3, 4, 1] (by kernel_rfl) (by kernel_rfl) (st' := sG q l c Q d) (vals' := v4i q 3 d i) (by kernel_rfl) (by kernel_rfl)
        exact bg_norm (next4 hi h hA2)
def InvR (w0 : From) (q : InG) (d : Int) (i : Nat) (e : Cut) (Q : List ByteArray) (n : Nat) (a : Act) (W : World) : Prop :=
  n ≤ 19 ∧ ∃ l c y A, LR d i Q n l c y A ∧ ∃ env, At [(0, 0)] w0 env (fr 182 n4rn (v4i q 6 d i ++ [.ptr 3 0, .int .i64 (n : Nat)])) (sGr q l c (rfn y.p) y Q d e) a W
abbrev RR (w0 : From) (q : InG) (d : Int) (i : Nat) (e : Cut) (Q : List ByteArray) (n : Nat) : Exit → Act → World → Prop :=
  Exit.then (fun a' w' => ∃ k, InvR w0 q d i e Q k a' w' ∧ 20 - k < 20 - n) (Exit.inBlock 4 (Exit.then (rend4.wp Tryd.prog (BG w0 q d i)) (BG w0 q d i)))
set_option maxHeartbeats 4000000 in
theorem rround_ok {w0 : From} {q : InG} {d : Int} {i : Nat} (hi : i < 40) {e : Cut} {Q : List ByteArray} (hf : ∀ s ∈ Q, fitB 5 s) (hq : nw (Q.headD nilB) ≤ 2) (hQ : (Q.length : Int) ≤ d) (hd : DOk d) {n : Nat} {a : Act} {W : World} (hI : InvR w0 q d i e Q n a W) :
    rround4.wp Tryd.prog (RR w0 q d i e Q n) a W := by
  obtain ⟨hn, l, c, y, A, h, env, hA⟩ := hI
  have hc := h.c
  refine wpS (by kernel_rfl) ?_
  have hrok := rel_rok h.rel (c := c) (by omega)
  have hst := h.step hd hq
  refine pieceT0 (c := cfgRs (sGr q l c (rfn y.p) y Q d e) (sGrR q (rNext y l).2 (rC y c) (rfn (rNext y l).1.p) (rNext y l).1 Q d e) (rStill (rNext y l).1) (ROk 40 l c y ∧ y.p ≤ 3)) (cfgRs_ok fun hp env w vs hg hr hd => stepR hp env w vs hg hr hd) n4rn r_tm hA ?_
  refine all_brt (by simp only [decide_eq_true_eq]; exact Iff.rfl) (by omega) ?_
  refine all_eq ⟨rfl, rfl, hrok⟩ ?_
  have hnb := h.how.got.2
  generalize rC y c = c1 at *
  generalize (rNext y l).2 = l1 at *
  generalize (rNext y l).1 = y1 at *
  generalize aStepR 1 A = A1 at *
  rcases hst with ⟨hb, hs⟩ | ⟨hb, g, Q', hx, hg, hh⟩
  · rw [hb]
    refine all_br (fun _ => all_ret fun env1 a1 w1 hA1 => ?_) (fun hh => by cases hh)
    have hA2 := hA1.perm [0, 6, 5, 7, 8, 9, 2, 3, 4, 1] (by kernel_rfl) (by kernel_rfl) (st' := sGr q l1 c1 (rfn y1.p) y1 Q d e) (vals' := v4i q 6 d i ++ [.ptr 3 0, .int .i64 (n : Nat)]) (by kernel_rfl) (by kernel_rfl)
    simp only [Ex.to, Exit.then]
    refine (show (rgt rround4).wp _ _ _ _ from wpS (by kernel_rfl) (wpB 5 (by kernel_rfl) ?_))
    refine wp_skip ?_
    simp only [Exit.inBlock, Exit.then]
    refine (show rinc4.wp _ _ _ _ from ?_)
    refine pieceT0 (c := cfgM) cfgM_ok n4rn r_inc hA2 ?_
    refine all_needp (by simp only [inR_i64]; exact Iff.rfl) (by omega) fun _ => all_ret fun env4 a4 w4 hA4 => ?_
    exact ⟨n + 1, ⟨by omega, l1, c1, y1, A1, hs, env4, hA4⟩, by omega⟩
  · rw [hb]
    refine all_br (fun hh => by cases hh) (fun _ => all_ret fun env1 a1 w1 hA1 => ?_)
    have hA2 := hA1.perm [0, 6, 5, 7, 8, 9, 2, 3, 4, 1] (by kernel_rfl) (by kernel_rfl) (st' := sGr q l1 c1 (rfn y1.p) y1 Q d e) (vals' := v4i q 6 d i ++ [.ptr 3 0, .int .i64 (n : Nat)]) (by kernel_rfl) (by kernel_rfl)
    simp only [Ex.to, RR, Exit.then, Exit.inBlock, if_true]
    exact recv_end (e := e) hi hf hQ hd hg hx hh (At.few (names := n4r) (extra := [20]) (vals := v4i q 6 d i ++ [.ptr 3 0]) (ev := [.int .i64 (n : Nat)]) hA2 rfl)
set_option maxHeartbeats 4000000 in
theorem rcv4_ok {w0 : From} {q : InG} {d : Int} {i : Nat} (hi : i < 40) {l : List Int} {c : Int} {Q : List ByteArray} {e : Cut} (h : LG d i l c Q) {env : Env} {a : Act} {W : World} (hA : At [(0, 0)] w0 env (fr 182 n4x (v4i q 3 d i ++ [.ptr 7 0])) (sGc q l c Q d e) a W) :
    rcv4.wp Tryd.prog (BG w0 q d i) a W := by
  have hd := h.dk
  have hw := words_d hd
  refine pieceNT0 (c := cfgW) cfgW_ok 2 n4r r_new hA ?_
  refine all_eq rfl ?_
  refine all_br (fun hh => absurd hw (bne_iff_ne.1 hh)) (fun _ => ?_)
  refine all_ret fun env2 a2 w2 hA2 => ?_
  simp only [Ex.to, Exit.then]
  obtain ⟨env3, hA3⟩ := hA2.nilv 8 9 1 (l := [.lit .i64 0, .int .i64 d, .lit .i64 5, .fn (.func 42) [.ptr 8 0] [], .lit .u32 0, .lit .u32 0, .lit .i64 0, .lit .i64 1, .lit .i64 0, .snil, .snil]) (T0 := 127) rfl rfl (encInt .u8) 5
  obtain ⟨env4, hA4⟩ := hA3.nilv 8 10 1 (l := [.lit .i64 0, .int .i64 d, .lit .i64 5, .fn (.func 42) [.ptr 8 0] [], .lit .u32 0, .lit .u32 0, .lit .i64 0, .lit .i64 1, .lit .i64 0, .sli 9 (.c 0) 1 (.v 0) none, .snil]) (T0 := 127) rfl rfl encStr 9
  have hA5 := hA4.perm [0, 1, 2, 8, 9, 10, 3, 4, 5, 6] (by kernel_rfl) (by kernel_rfl) (st' := memS 40 l c ++ [.own [.c (.lit .i64 0), .c (.int .i64 d), .c (.lit .i64 5), .c (.fn (.func 42) [.ptr 3 0] []), .c (.lit .u32 0), .c (.lit .u32 0), .c (.lit .i64 0), .c (.lit .i64 1), .c (.lit .i64 0), .c (.sli 4 (.c 0) 1 (.v 0) none), .c (.sli 5 (.c 0) 1 (.v 0) none)] 127, .vec (encInt .u8) [] 5, .vec encStr [] 9] ++ tlG 6 q Q d) (vals' := v4i q 6 d i ++ [.ptr 3 0]) (by kernel_rfl) (by kernel_rfl)
  have hA6 : At [(0, 0)] w0 _ (fr 182 n4r (v4i q 6 d i ++ [.ptr 3 0])) (sGr q l c (rfn (rcvD d 1).p) (rcvD d 1) Q d e) a2 w2 := hA5.gen rfl
  refine (show (restC 2 rcv4).wp _ _ _ _ from wpS (by kernel_rfl) (wpS (by kernel_rfl) ?_))
  refine (show rrr4.wp _ _ _ _ from ?_)
  refine pieceT0 (c := cfgM) cfgM_ok n4rn r_reg hA6 (all_ret fun env7 a7 w7 hA7 => ?_)
  simp only [Ex.to, Exit.then]
  have hA8 := hA7.gvals (v4i q 6 d i ++ [.ptr 3 0, .int .i64 (0 : Nat)]) rfl
  refine (show rrb4.wp _ _ _ _ from wpB 4 (by kernel_rfl) (wpL (by kernel_rfl) (InvR w0 q d i e Q) (fun i => 20 - i) 0 ⟨Nat.zero_le _, l, c, rcvD d 1, _, h.rcv, env7, hA8⟩ ?_))
  intro n a w hn
  exact rround_ok hi h.rq.fit (nw_head h.rq) h.rq.cap hd hn
set_option maxHeartbeats 4000000 in
theorem round4_ok {w0 : From} {q : InG} {d : Int} {i : Nat} {a : Act} {W : World} (hI : InvG w0 q d i a W) : round4.wp Tryd.prog (RG w0 q d i) a W := by
  obtain ⟨hi, l, c, Q, h, env, hA⟩ := hI
  refine wpS (by kernel_rfl) ?_
  refine pieceT0 (c := cfgM) cfgM_ok n4i g_tm hA ?_
  have out : ∀ {env : Env} {a : Act} {W : World}, At [(0, 0)] w0 env (fr 182 n4i (v4i q 3 d i)) (sG q l c Q d) a W → RG w0 q d i (.exit 0) a W := by
    intro env a W hA
    simp only [RG, Exit.then, Exit.inBlock, if_true]
    refine pieceT0 (c := cfgM) cfgM_ok [6] g_end hA ?_
    exact all_ret fun _ _ _ h => h.said (by kernel_rfl)
  refine all_brp (by simp only [decide_eq_true_eq]; exact Iff.rfl) (fun h1 => ?_) (fun h1 => all_ret fun _ _ _ h => out h)
  refine all_brp (by simp only [decide_eq_true_eq]; exact Iff.rfl) (fun h2 => all_ret fun env1 a1 w1 hA1 => ?_) (fun h2 => all_ret fun _ _ _ h => out h)
  simp only [Ex.to, Exit.then]
  refine (show (rgt round4).wp _ _ _ _ from wpS (by kernel_rfl) (wpB 1 (by kernel_rfl) ?_))
  refine (show bb4.wp Tryd.prog (BG w0 q d i) a1 w1 from ?_)
  have main : ∀ {e : Cut} {env : Env} {a : Act} {W : World}, At [(0, 0)] w0 env (fr 182 n4x (v4i q 3 d i ++ [.ptr 7 0])) (sGc q l c Q d e) a W → (restC 1 bb4).wp Tryd.prog (BG w0 q d i) a W := by
    intro e env a W hA
    refine wpS (by kernel_rfl) (wpS (by kernel_rfl) ?_)
    refine (show sel4.wp _ _ _ _ from ?_)
    refine pieceT0 (c := cfgM) cfgM_ok n4k g_sel hA ?_
    refine all_ret fun env3 a3 w3 hA3 => ?_
    simp only [Ex.to, Exit.then]
    have hA4 : At [(0, 0)] w0 env3 (fr 182 n4x (v4i q 3 d i ++ [.ptr 7 0])) (sGc q l c Q d e) a3 w3 := At.few (names := n4x) (extra := [87]) (vals := v4i q 3 d i ++ [.ptr 7 0]) (ev := [.sb _]) hA3 rfl
    refine wpC 87 (by kernel_rfl) hA3 (bitop BinOp.and IntKind.i64 e.1 (1 : Int) == (0 : Int)) (.inr rfl) ?_
    cases hb : (bitop BinOp.and IntKind.i64 e.1 (1 : Int) == (0 : Int)) with
    | true =>
      rw [if_pos rfl]
      exact (show snd4.wp Tryd.prog _ a3 w3 from snd4_ok (by omega) h hA4)
    | false =>
      rw [if_neg (by simp)]
      refine (show (rgt cnd4).wp Tryd.prog _ a3 w3 from wp_skip ?_)
      simp only [Exit.then]
      exact rcv4_ok (by omega) h hA4
  refine pieceNT0 (c := cfgM) cfgM_ok 1 n4x g_few hA1 ?_
  simp only [Int.toNat_natCast]
  refine all_needq (by simp only [decide_eq_true_eq, Bool.and_eq_true]; exact Iff.rfl) (by omega) ?_
  refine all_needq (by simp only [decide_eq_true_eq]; exact Iff.rfl) (by omega) ?_
  refine all_needq (by simp only [decide_eq_true_eq]; exact Iff.rfl) (by omega) ?_
  refine all_needq (by simp only [decide_eq_true_eq]; exact Iff.rfl) (by omega) ?_
  refine all_brp (by simp only [decide_eq_true_eq] <;> exact Iff.rfl) (fun h8 => ?_) (fun h8 => ?_)
  · refine all_needq (by simp only [decide_eq_true_eq]; exact Iff.rfl) (by omega) ?_
    refine all_need (by decide) fun _ => ?_
    refine all_ret fun env2 a2 w2 hA2 => ?_
    simp only [Ex.to, Exit.then]
    exact main (e := ⟨_, _, _⟩) hA2
  · refine all_ret fun env2 a2 w2 hA2 => ?_
    simp only [Ex.to, Exit.then]
    exact main (e := ⟨_, _, _⟩) hA2
theorem noFootR {e0 e1 : Slot} {q : InG} (x : Nat) (h : inFoot [e0, e1] (s0G q) x) : False := by
  obtain ⟨i, e, b, _, h2, h3⟩ := h
  match i with
  | 0 => simp at h2; subst h2; simp [Blk.foot] at h3
  | 1 => simp at h2; subst h2; simp [Blk.foot] at h3
  | n + 2 => simp at h2
theorem b4_eq : Tryd.f4.body = some b4 := by kernel_rfl
set_option maxRecDepth 100000 in
set_option maxHeartbeats 4000000 in
theorem portRing_call {q : InG} (hh : 0 ≤ q.first ∧ q.first < 4294967296) (hs : 0 ≤ q.depth ∧ q.depth ≤ 255) {e0 e1 : Slot} (he : e0.blk = 0 ∧ e0.off = 0) {w : World} {v0 v1 v2 : Value} (hr : Rep [e0, e1] (s0G q) w) (h0 : Den [e0, e1] (.int .u32 q.first) v0) (h1 : Den [e0, e1] (.int .u8 q.depth) v1) (h2 : Den [e0, e1] (csV q 1) v2) :
    Calls Tryd.prog 4 ⟨[v0, v1, v2]⟩ w (Said ⟨w, fun _ => False⟩) := by
  refine call_begin (c := cfg) Tryd.func4 b4_eq (args := argG q) (by
    intro p hp
    rw [List.mem_singleton.1 hp]
    exact ⟨e0, rfl, he⟩) hr ⟨_, _, rfl, h0, _, _, rfl, h1, _, _, rfl, h2, rfl⟩ (F := fun _ => False) (fun x h => noFootR x h) ?_
  intro a hA
  refine pieceNT0 (c := cfg) cfg_ok 2 [0, 2, 7] g_a hA ?_
  refine all_need rfl fun _ => ?_
  have ht : q.depth.tmod 4 = 0 ∨ q.depth.tmod 4 = 1 ∨ q.depth.tmod 4 = 2 ∨ q.depth.tmod 4 = 3 := by rw [Int.tmod_eq_emod_of_nonneg hs.1]; omega
  refine all_need (by
    have e : inR .u64 (q.depth.tmod (4 : Int)) = true := by
      simp only [inR, IntKind.min, IntKind.max, IntKind.signed, IntKind.bits]
      rcases ht with h | h | h | h <;> rw [h] <;> decide
    exact e) fun _ => ?_
  refine all_needq (by simp only [decide_eq_true_eq]; exact Iff.rfl) (by omega) ?_
  refine all_ret fun env1 a1 w1 hA1 => ?_
  simp only [Ex.to, Exit.then]
  have hd := dG_ok hs
  have hA1' : At [(0, 0)] ⟨w, fun _ => False⟩ env1 (fr 182 [0, 2, 7] [.int .u32 q.first, csV q 1, .int .i64 (dG q.depth)]) (s0G q) a1 w1 := hA1
  generalize dG q.depth = d at *
  have hv := hd.v
  refine pieceNT0 (c := cfg) cfg_ok 3 n4 g_b hA1' ?_
  have hdw := hd.w
  have hdp := hd.p
  rw [hdw]
  refine all_brt (by simp only [decide_eq_true_eq]; exact Iff.rfl) (by omega) ?_
  refine all_brt (by simp only [decide_eq_true_eq]; exact Iff.rfl) (by omega) ?_
  refine all_brt (p := True) (by simp only [iff_true]; exact hdp) trivial ?_
  refine all_needq (by simp only [inR_i64]; exact Iff.rfl) (by omega) ?_
  have eX : IntKind.u32.wrap (bitop BinOp.or IntKind.u32 (0 : Int) q.first + (0 : Int)) = q.first := by
    rw [zero_or, w32_mod]; omega
  rw [eX]
  repeat' (first
    | refine all_need rfl (fun _ => ?_)
    | refine all_eq trivial ?_
    | refine all_eq rfl ?_)
  refine all_ret fun env2 a2 w2 hA2 => ?_
  simp only [Ex.to, Exit.then]
  have hA3 := hA2.segs 5 (l' := [.a (encInt .u32) 40 (w40 q.first)]) rfl (by intro s hs; rw [List.mem_singleton.1 hs]; rfl) (fun cs h => denL_gen2 (by kernel_rfl) h)
  obtain ⟨env4, hA4⟩ := hA3.nilv 3 0 1 (l := [.snil, .int .i64 d]) (T0 := 80) rfl rfl encStr 9
  have hA5 := hA4.perm [0, 5, 4, 2, 3, 6, 1] (by kernel_rfl) (by kernel_rfl) (st' := [lookB, .own [.a (encInt .u32) 40 (w40 q.first)] 35, .own [.c (.sli 1 (.c 0) 1 (.c 40) (some (.c 40))), .c (.lit .i64 2)] 90, .own [.c (.ifc 78 (.ptr 4 0)), .c (.lit .i64 5)] 84, .own [.c (.sli 5 (.c 0) 1 (.v 0) none), .c (.int .i64 d)] 80, .vec encStr [] 9, .ro encCal q.cs]) (vals' := v4 q 3 d) (by kernel_rfl) (by kernel_rfl)
  have hA6 : At [(0, 0)] ⟨w, fun _ => False⟩ _ (fr 182 n4 (v4 q 3 d)) (sG q (w40 q.first) 2 [] d) a2 w2 := hA5.gen rfl
  refine (show c4.wp Tryd.prog (Q4 ⟨w, fun _ => False⟩) a2 w2 from wpS (by kernel_rfl) (wpS (by kernel_rfl) ?_))
  refine (show reg4.wp _ _ _ _ from ?_)
  refine pieceT0 (c := cfgM) cfgM_ok n4i g_reg hA6 (all_ret fun env7 a7 w7 hA7 => ?_)
  simp only [Ex.to, Exit.then]
  have hA8 := hA7.gvals (v4i q 3 d 0) rfl
  refine (show blk4.wp _ _ _ _ from wpB 0 (by kernel_rfl) (wpL (by kernel_rfl) (InvG ⟨w, fun _ => False⟩ q d) (fun i => 40 - i) 0 ⟨Nat.zero_le _, w40 q.first, 2, [], ⟨hd, relM_start hd hh, relQ_start hd hh, by simp⟩, env7, hA8⟩ ?_))
  intro i a w h
  exact round4_ok h
end Go.Proofs.YtdadfgeepinpbaaDoor

/- PortRing: its row and its card. -/
namespace Go.Proofs.YtdadfgeepinpbaaDoor
open Go Go.Proofs.YtdadfgeepinpbaaDoor.Sx Go.ChangeShapes Go.WideShapes Go.ChangeAt Go.RowKit
set_option linter.unusedVariables false
theorem wf_u32W {n : Int} (h : (Lit.int .u32 n).wf = true) : 0 ≤ n ∧ n < 4294967296 := by simp [Lit.wf, IntKind.min, IntKind.max, IntKind.signed, IntKind.bits] at h; omega
set_option maxRecDepth 100000 in
/-- an element of the calls -/
theorem open_cal {H : Type} {enc : TypeId × Value → H} {w : World} {base : Nat} {spare : Nat → Bool} {held : Bool} (n : Nat) (cs : List Value) (y : DataW H × List MemPlace) (h : DataW.trod enc Tryd.prog w base spare held n 37 cs = some y) :
    ∃ x : Cal, DenL [] (encCal.enc x) cs := by
  obtain ⟨xs, m, _, _, hlen, hxl, hf⟩ := DataW.trod_struct Tryd.underlying37 h
  have hC : Tryd.prog.cellsOf 37 = 3 := by kernel_rfl
  rw [hC] at hlen
  match cs, hlen with
  | [c0, c1, c2], _ =>
    match xs, hxl with
    | [y0, y1, y2], _ =>
      have f0 : DataW.trod enc Tryd.prog w base spare held m 3 (([c0, c1, c2].drop 0).take (Tryd.prog.cellsOf 3)) = some y0 := hf 0 _ rfl
      have f1 : DataW.trod enc Tryd.prog w base spare held m 9 (([c0, c1, c2].drop 1).take (Tryd.prog.cellsOf 9)) = some y1 := hf 1 _ rfl
      have f2 : DataW.trod enc Tryd.prog w base spare held m 35 (([c0, c1, c2].drop 2).take (Tryd.prog.cellsOf 35)) = some y2 := hf 2 _ rfl
      have k0 : Tryd.prog.cellsOf 3 = 1 := by kernel_rfl
      have k1 : Tryd.prog.cellsOf 9 = 1 := by kernel_rfl
      have k2 : Tryd.prog.cellsOf 35 = 1 := by kernel_rfl
      rw [k0] at f0
      rw [k1] at f1
      rw [k2] at f2
      obtain ⟨a, h0, _⟩ := DataW.trod_int Tryd.underlying3 f0
      obtain ⟨b, h1, _⟩ := DataW.trod_string Tryd.underlying9 f1
      obtain ⟨c, h2, _, hw⟩ := DataW.trod_int Tryd.underlying35 f2
      simp at h0 h1 h2
      subst h0 h1 h2
      exact ⟨⟨a, b, ⟨c, wf_u32W hw⟩⟩, by simp [encCal, encOf, DenL, Den]⟩
set_option maxRecDepth 100000 in
theorem portRing_lifted (os : Os) (started : os.Started) (H : Type) (enc : TypeId × Value → H) :
    ReturnsInHanded {} Tryd.checked os 4 .any (fun w args => (Rows.portRingSpec.pre enc Tryd.prog Tryd.f4 [] false w args ∧ laidMetH Tryd.prog laid1 w) ∧ sizedMet enc Tryd.prog Tryd.f4 (OpenSpec.ofChange Rows.portRingSpec) false w args)
      (Rows.portRingSpec.post enc Tryd.prog Tryd.f4 false true false false) := by
  refine returnsInHanded_of_change_and (C := Tryd.checked) (X := fun w _ => laidMetH Tryd.prog laid1 w) (fun _ _ _ hh h => h.of_heap hh) Tryd.own started (by kernel_rfl) Tryd.func4
    (ChangeSpec.witness_shaped (enc := enc) (C := Tryd.checked) (os := os) (X := fun w _ => laidMetH Tryd.prog laid1 w) false (World.doorLaid Tryd.prog 400 os) #[.int .u32 0, .int .u8 0, .slice none 0 0] 8 rfl (World.shaped_of_RefB (by kernel_rfl) (by kernel_rfl)) (by kernel_rfl) (by kernel_rfl) (by kernel_rfl) (door_met os _)) ?_
  intro W base args ds gs before hval0 hW _ _ hL _
  have hval : ∀ (j : Nat) t v, Tryd.f4.params[j]? = some t → args[j]? = some v → Value.okWide Tryd.prog W .any base t v := hval0
  have hW' := hW
  obtain ⟨p, q, hA0, hV, rfl, hfz, hnd⟩ := hW
  have hA : DataW.TrodAll enc Tryd.prog W 0 (fun _ => true) true Tryd.f4.params.toList args.toList ds p := hA0
  rw [Tryd.params4] at hA hval
  obtain ⟨v0, v1, v2, d0, d1, d2, p0, p1, p2, rfl, rfl, rfl, h0, h1, h2⟩ := trodAll_three hA
  obtain ⟨rfl, rfl⟩ := trodVars_none hV
  obtain ⟨a, rfl, rfl, rfl, wa⟩ := open_int Tryd.underlying35 (hval 0 35 v0 rfl rfl) h0
  obtain ⟨b, rfl, rfl, rfl, wb⟩ := open_int Tryd.underlying5 (hval 1 5 v1 rfl rfl) h1
  clear hA0 hval0
  have hlt2 : ∀ x ∈ p2, x.block < W.heap.size := fun x hx => by simpa using hW'.lt x (by simp [hx])
  obtain ⟨e0, he, hr0⟩ := of_laid hL
  have wfa : 0 ≤ a ∧ a < 4294967296 := wf_u32W wa
  have wfb : 0 ≤ b ∧ b ≤ 255 := by simp [Lit.wf, IntKind.min, IntKind.max, IntKind.signed, IntKind.bits] at wb; omega
  have fin : ∀ e W', Said ⟨W, fun _ => False⟩ e W' → ∃ v, e = .returned v ∧ Rows.portRingSpec.post enc Tryd.prog Tryd.f4 false true false false W #[.int .u32 a, .int .u8 b, v2] v W' := by
    rintro e W' ⟨rfl, hsz, hk, hc⟩
    have hk' : ∀ x, x < W.heap.size → W'.heap[x]? = W.heap[x]? := fun x hx => hk x hx (fun h => h)
    refine ⟨_, rfl, _, _, _, [], _, [], hW', ⟨[], [], shut_bool Tryd.underlying4 true, rfl, rfl⟩, trodAll_mk3 (shut_int Tryd.underlying35 wa) (shut_int Tryd.underlying5 wb) (trod_same Tryd.laidOut (by kernel_rfl) (of_decide_eq_true (by kernel_rfl)) h2 hk' hlt2), rfl, keptBut_of _ hc hk', fun h => by cases h⟩
  obtain ⟨cs, c1, e1, hr1, hd1⟩ := open_sli encCal Tryd.underlying23 (by kernel_rfl) open_cal rfl (hval 2 23 v2 rfl rfl) h2
  obtain ⟨hr, hn1⟩ := ro_add hr0 (by intro b hb e; rw [List.mem_singleton.1 hb]; rfl) rfl hr1
  have g1 : Den ([e0] ++ [e1]) (csV ⟨a, b, cs, c1⟩ 1) v2 := den_add (env := [e0]) (n := 1) hd1 rfl
  exact (portRing_call (q := ⟨a, b, cs, c1⟩) wfa wfb he hr rfl rfl g1).mono fun e W' h => fin e W' h
theorem portRing_row : Rows.PortRingSaid :=
  OpenClaim.holds_of_wide 4 Tryd.f4 rfl rfl rfl rfl rfl rfl rfl ⟨rfl, rfl, rfl, rfl, rfl⟩ rfl rfl rfl rfl rfl (by kernel_rfl) Tryd.func4 (by kernel_rfl)
    (of_decide_eq_true (by kernel_rfl)) (by unfold Func.isWrapper; first | (rw [if_pos (by decide +kernel)]; kernel_rfl) | (rw [if_neg (by decide +kernel)]; exact ⟨rfl, rfl⟩))
    (fun os started H enc _ => portRing_lifted os started H enc)
theorem portRing_holds : Rows.PortRingCardSaid :=
  Claim7.holds_tied_plain_at .later [] [.data] true _ _ portRing_row (fun _ h => by cases h) (by kernel_rfl) (fun _ h => by cases h) portRing_row_tie rfl ⟨rfl, rfl⟩ (by kernel_rfl) rfl
    (fun f fn hf hfn => by
      obtain rfl : f = 4 := Option.some.inj ((show Tryd.prog.funcNamed "purlin/purlinlaw19.PortRing" = some 4 by kernel_rfl).symm.trans hf) |>.symm
      obtain rfl : fn = Tryd.f4 := (Option.some.inj (Tryd.func4.symm.trans hfn)).symm
      exact ⟨by kernel_rfl, fun j t ht => by
        rw [Tryd.params4] at ht
        have hm : t ∈ [35, 5, 23] := by simpa using Array.mem_of_getElem? ht
        have hall : ([35, 5, 23].all fun u => !Tryd.prog.wantsStandIn u) = true := by kernel_rfl
        exact (show Tryd.prog.wantsStandIn t = false by simpa using List.all_eq_true.1 hall t hm)⟩)
    (by kernel_rfl)
end Go.Proofs.YtdadfgeepinpbaaDoor

