/- SlotWhole: what is read is always a message as it was written, with its tick, or nothing, if there was none; not older than the last one when the reading began. -/
import Derived.Test.YtfapadgpihpmhaaDoorSlb
import Derived.Test.YtfapadgpihpmhaaDoorSxC
import Derived.Test.YtfapadgpihpmhaaDoorCards
import Derived.Test.YtfapadgpihpmhaaDoorTie
import Derived.ProofKit
import Derived.LaidMore
import Derived.OpenShut
import Derived.Stop.Joined
/- SlotWhole: pieces and states. -/
namespace Go.Proofs.YtfapadgpihpmhaaDoor
open Go Go.Proofs.YtfapadgpihpmhaaDoor.Sx
set_option linter.unusedVariables false
structure U32 where
  v : Int
  h : 0 ≤ v ∧ v < 4294967296
theorem u0_h : (0 : Int) ≤ 0 ∧ (0 : Int) < 4294967296 := by omega
def encU32 : Enc U32 := encOf 0 (fun x => [.int .u32 x.v]) ⟨0, u0_h⟩ (fun _ => rfl) (by intro env env' x vs h; simpa [DenL, Den] using h)
/-- what comes in -/
structure InW where
  ms : List ByteArray
  c1 : Nat
  ts : List U32
  c2 : Nat
  ps : List Int
  c3 : Nat
abbrev msV (q : InW) (i : Nat) : SVal := .sli i (.c 0) 1 (.v q.ms.length) (some (.v q.c1))
abbrev tsV (q : InW) (i : Nat) : SVal := .sli i (.c 0) 1 (.v q.ts.length) (some (.v q.c2))
abbrev psV (q : InW) (i : Nat) : SVal := .sli i (.c 0) 1 (.v q.ps.length) (some (.v q.c3))
abbrev s0W (q : InW) : St := [lookB, .ro encStr q.ms, .ro encU32 q.ts, .ro (encInt .u8) q.ps]
abbrev argW (q : InW) : List SVal := [msV q 1, tsV q 2, psV q 3]
noncomputable def b6 : Code := Tryd.f6.body.getD .skip
noncomputable def c6 : Code := restC 6 b6
noncomputable def reg6 : Code := lft (lft c6)
noncomputable def blk6 : Code := rgt (lft c6)
noncomputable def round6 : Code := lft (lft blk6)
noncomputable def tm6 : Code := lft round6
noncomputable def bb6 : Code := lft (lft (rgt round6))
noncomputable def inc6 : Code := rgt (rgt round6)
noncomputable def end6 : Code := rgt c6
noncomputable def blk2 : Code := restC 7 bb6
noncomputable def round2 : Code := lft (lft blk2)
noncomputable def tm2 : Code := lft round2
noncomputable def bb2 : Code := lft (rgt round2)
noncomputable def srch : Code := restC 10 bb2
noncomputable def reg4 : Code := lft (lft srch)
noncomputable def blk4 : Code := rgt (lft srch)
noncomputable def round4 : Code := lft (lft blk4)
noncomputable def tm4 : Code := lft round4
noncomputable def bb4 : Code := lft (lft (rgt round4))
noncomputable def inc4 : Code := rgt (rgt round4)
noncomputable def end4 : Code := rgt srch
/-- between messages -/
abbrev tailW (q : InW) (was : List ByteArray) (wn : List Int) : St := [.ro encStr q.ms, .ro encU32 q.ts, .ro (encInt .u8) q.ps, .vec encStr was 9, .vec (encInt .u32) wn 32]
abbrev sO (q : InW) (l : List Int) (c : Int) (x : Rd) (was : List ByteArray) (wn : List Int) : St := sG 5 l c x 8 ++ tailW q was wn
abbrev sI (q : InW) (l : List Int) (c : Int) (x : Rd) (was : List ByteArray) (wn : List Int) (w : Wr) (z : Int) : St := sO q l c x was wn ++ putW 10 w z
abbrev n6p : List Nat := [0, 1, 2, 7, 9, 11, 12, 13, 14, 15]
abbrev n6a : List Nat := [0, 1, 2, 7, 9, 11, 12, 13, 14, 15, 16]
abbrev n6b : List Nat := [0, 1, 2, 7, 9, 11, 12, 13, 14, 15, 16, 17, 18]
abbrev n6c : List Nat := [0, 1, 2, 7, 9, 11, 12, 13, 14, 15, 16, 17, 18, 19]
abbrev n6i : List Nat := [0, 1, 2, 7, 9, 11, 12, 13, 14, 15, 16, 19]
abbrev n6j : List Nat := [0, 1, 2, 7, 9, 11, 12, 13, 14, 15, 16, 19, 22, 23, 25]
abbrev n6k : List Nat := [0, 1, 2, 7, 9, 11, 12, 13, 14, 15, 16, 19, 22, 23, 25, 26]
abbrev v6p (q : InW) (a least : Nat) (dn : Bool) (n m : Nat) : List SVal := [msV q 5, tsV q 6, psV q 7, .ptr 2 0, .ptr 3 0, .int .i64 (a : Nat), .int .i64 (least : Nat), .sb dn, .sli 8 (.c 0) 1 (.v n) none, .sli 9 (.c 0) 1 (.v m) none]
abbrev v6a (q : InW) (a least : Nat) (dn : Bool) (n m i : Nat) : List SVal := v6p q a least dn n m ++ [.int .i64 (i : Nat)]
abbrev v6b (q : InW) (a least : Nat) (dn : Bool) (n m i : Nat) (s : ByteArray) (t : Int) : List SVal := v6a q a least dn n m i ++ [.str s, .int .u32 t]
abbrev v6i (q : InW) (a least : Nat) (dn : Bool) (n m i : Nat) : List SVal := v6a q a least dn n m i ++ [.ptr 10 0]
/-- with the pieces behind a pick known to be a reader's: done is written out -/
abbrev v6d (q : InW) (a least : Nat) (dn : SVal) (n m i : Nat) : List SVal := [msV q 5, tsV q 6, psV q 7, .ptr 2 0, .ptr 3 0, .int .i64 (a : Nat), .int .i64 (least : Nat), dn, .sli 8 (.c 0) 1 (.v n) none, .sli 9 (.c 0) 1 (.v m) none, .int .i64 (i : Nat), .ptr 10 0]
end Go.Proofs.YtfapadgpihpmhaaDoor

/- SlotWhole: its calls. -/
namespace Go.Proofs.YtfapadgpihpmhaaDoor
open Go Go.Proofs.YtfapadgpihpmhaaDoor.Sx
set_option linter.unusedVariables false
theorem gl_ltW {k : Nat} (h : 0 < k) : ∀ p ∈ cfgM.gl, p.2 < k := by
  intro p hp
  rw [List.mem_singleton.1 hp]; exact h
theorem roSame_reflW (S : St) : roSame S S := fun _ _ h => .inr h
theorem putB_plainW {k : Nat} {x : Wr} : ∀ b ∈ putB k x, plainB b = true := by
  intro b h
  simp only [List.mem_cons, List.not_mem_nil, or_false] at h
  rcases h with rfl | rfl | rfl | rfl <;> rfl
set_option maxRecDepth 100000 in
theorem put_9 {q : PutI} (h : PutOk q) {B1 B2 B3 B4 B5 B6 B7 B8 B9 : Blk} (env : Env) (w : World) (vs : List Value) (hg : GlOk cfgM.gl env) (hr : Rep env [lookB, B1, B2, B3, B4, B5, B6, B7, B8, B9] w) (hd : DenL env (argN q) vs) :
    Calls cfgM.P 13 ⟨vs⟩ w (Ends1 env [lookB, B1, B2, B3, B4, B5, B6, B7, B8, B9] w (.tup [.ptr 10 0, .lit .i64 0]) ([lookB, B1, B2, B3, B4, B5, B6, B7, B8, B9] ++ putB 10 (w0P q))) :=
  frameNew (c := cfgM) (n := 4) (put_ok h) [B1, B2, B3, B4, B5, B6, B7, B8, B9] rfl rfl (gl_ltW (by simp)) (by kernel_rfl) (Sa := [lookB]) (Sb := putB 10 (w0P q)) (by kernel_rfl) (by kernel_rfl) rfl (roSame_reflW _) putB_plainW rfl env w vs hg hr hd
theorem args_litW {env : Env} {t : Int} {s : ByteArray} {vs : List Value} (h : DenL env [.lit .i64 0, .lit .i64 8, .str s, .int .u32 t] vs) : DenL env (argN ⟨0, 8, s, t⟩) vs := by
  simpa [DenL, Den] using h
abbrev idW : List Nat := [0, 1, 2, 10, 11, 12, 13, 3, 4, 5, 6, 7, 8, 9]
abbrev ivW : List Nat := [0, 1, 2, 7, 8, 9, 10, 11, 12, 13, 3, 4, 5, 6]
abbrev rstW (q : InW) (x : Rd) (was : List ByteArray) (wn : List Int) : St := [.own [.c (.ptr 8 0), .c (.int .i64 8)] 63, .own [.c (.int .i64 x.at'), .c (.int .i64 x.n), .c (.int .i64 x.next), .c (.int .i64 x.phase), .c (.int .u32 x.count), .a (encInt .u32) 32 x.l, .c (.sb x.got), .c (.int .i64 x.tries)] 99] ++ tailW q was wn
theorem sI_ren {q : InW} {l : List Int} {c : Int} {x : Rd} {was : List ByteArray} {wn : List Int} {w : Wr} {z : Int} : renSt idW (sI q l c x was wn w z) idW = some (memS 5 l c ++ putW 3 w z ++ rstW q x was wn) := by kernel_rfl
theorem sI_back {q : InW} {l : List Int} {c : Int} {x : Rd} {was : List ByteArray} {wn : List Int} {w : Wr} {z : Int} : renSt ivW (memS 5 l c ++ putW 3 w z ++ rstW q x was wn) ivW = some (sI q l c x was wn w z) := by kernel_rfl
theorem sW_ro {n : Nat} {l l' : List Int} {c c' : Int} {w w' : Wr} {z z' : Int} : roSame (memS n l c ++ putW 3 w z) (memS n l' c' ++ putW 3 w' z') :=
  roSame_cons (.inr rfl) (roSame_cons (.inl rfl) (roSame_cons (.inl rfl) (roSame_cons (.inl rfl) (roSame_cons (.inl rfl) (roSame_cons (.inl rfl) (roSame_cons (.inl rfl) roSame_nil))))))
theorem sG_ro {n : Nat} {l l' : List Int} {c c' : Int} {x x' : Rd} {z : Int} : roSame (sG n l c x z) (sG n l' c' x' z) :=
  roSame_cons (.inr rfl) (roSame_cons (.inl rfl) (roSame_cons (.inl rfl) (roSame_cons (.inl rfl) (roSame_cons (.inl rfl) roSame_nil))))
theorem stepI {q : InW} {l l' : List Int} {c c' : Int} {x : Rd} {was : List ByteArray} {wn : List Int} {w w' : Wr} {z : Int} {b : Bool}
    (hC : ∀ (env : Env) (W : World) (vs : List Value), GlOk cfgM.gl env → Rep env (sW 5 l c w) W → DenL env [.ptr 4 0, .ptr 2 0] vs → Calls cfgM.P 16 ⟨vs⟩ W (Ends1 env (sW 5 l c w) W (.bl b) (memS 5 l' c' ++ putW 3 w' z))) (env : Env) (W : World) (vs : List Value) (hg : GlOk cfgM.gl env) (hr : Rep env (sI q l c x was wn w 0) W) (hd : DenL env [.ptr 11 0, .ptr 2 0] vs) :
    Calls cfgM.P 16 ⟨vs⟩ W (Ends1 env (sI q l c x was wn w 0) W (.bl b) (sI q l' c' x was wn w' z)) :=
  permCall (st := sI q l c x was wn w 0) (S0 := memS 5 l c ++ putW 3 w 0 ++ rstW q x was wn) (st0' := sI q l' c' x was wn w' z) (st' := sI q l' c' x was wn w' z) idW ivW
    (frame (c := cfgM) hC (rstW q x was wn) rfl rfl (gl_ltW (by simp)) (by kernel_rfl) sW_ro) rfl rfl rfl rfl rfl (by rfl) sI_ren EqvSt.rfl' sI_back EqvSt.rfl' rfl rfl env W vs hg hr hd
theorem readI {q : InW} {l : List Int} {c : Int} {x : Rd} {was : List ByteArray} {wn : List Int} {w : Wr} {z : Int} (h : ROk 5 l c x) (env : Env) (W : World) (vs : List Value) (hg : GlOk cfgM.gl env) (hr : Rep env (sI q l c x was wn w z) W) (hd : DenL env [.ptr 4 0, .ptr 2 0] vs) :
    Calls cfgM.P 20 ⟨vs⟩ W (Ends1 env (sI q l c x was wn w z) W (.sb (rStep x l).got) (sI q l (c + 1) (rStep x l) was wn w z)) :=
  frame (c := cfgM) (r_step h) (tailW q was wn ++ putW 10 w z) rfl rfl (gl_ltW (by simp)) (by kernel_rfl) sG_ro env W vs hg hr hd
abbrev sIt (q : InW) (l : List Int) (c : Int) (x : Rd) (was : List ByteArray) (wn : List Int) (w : Wr) (z : Int) : St := sGt 5 l c x 8 ++ (tailW q was wn ++ putW 10 w z)
theorem msgI {q : InW} {l : List Int} {c : Int} {x : Rd} {was : List ByteArray} {wn : List Int} {w : Wr} {z : Int} {m : Nat} (hk : x.n = 4) (hm : imin (x.l.getD 1 0) 8 = (m : Int)) (hm1 : m ≤ 8) (env : Env) (W : World) (vs : List Value) (hg : GlOk cfgM.gl env) (hr : Rep env (sIt q l c x was wn w z) W) (hd : DenL env [.ptr 3 0] vs) :
    Calls cfgM.P 23 ⟨vs⟩ W (Ends1 env (sIt q l c x was wn w z) W (.tup [.str (strU (unpN (L32 x.l) m m)), .int .u32 (x.l.getD 0 0), .bl true]) (sIt q l c x was wn w z)) :=
  frame (c := cfgM) (msg_call (k := 2) hk (by omega) (by omega) hm (by omega)) (tailW q was wn ++ putW 10 w z) rfl rfl (gl_ltW (by simp)) (by kernel_rfl) (roSame_reflW _) env W vs hg hr hd
noncomputable def cfgA : Cfg := cfg
/-- a message's writing is made -/
noncomputable def cfgP (S : St) (s : ByteArray) (t : Int) : Cfg := { P := Tryd.prog, ex := exI, gl := [(0, 0)], sm := fun f => match f with
  | 13 => some (smEq [.lit .i64 0, .lit .i64 8, .str s, .int .u32 t] S (PutOk ⟨0, 8, s, t⟩) (.tup [.ptr 10 0, .lit .i64 0]) (S ++ putB 10 (w0P ⟨0, 8, s, t⟩)))
  | _ => none }
theorem cfgP_ok {B1 B2 B3 B4 B5 B6 B7 B8 B9 : Blk} {s : ByteArray} {t : Int} : SmOk (cfgP [lookB, B1, B2, B3, B4, B5, B6, B7, B8, B9] s t) := by
  intro f g h
  simp only [cfgP] at h
  split at h
  · simp only [Option.some.injEq] at h; subst h
    exact smEq_ok (c := cfgP [lookB, B1, B2, B3, B4, B5, B6, B7, B8, B9] s t) fun h env w vs hg hr hd => put_9 h env w vs hg hr (args_litW hd)
  · cases h
/-- a writer's step -/
noncomputable def cfgWs (S S' : St) (b : Bool) (P : Prop) : Cfg := { P := Tryd.prog, ex := exI, gl := [(0, 0)], sm := fun f => match f with
  | 16 => some (smEq [.ptr 11 0, .ptr 2 0] S P (.bl b) S')
  | _ => none }
theorem cfgWs_ok {S S' : St} {b : Bool} {P : Prop} (h : P → ∀ (env : Env) (w : World) (vs : List Value), GlOk cfgM.gl env → Rep env S w → DenL env [.ptr 11 0, .ptr 2 0] vs → Calls cfgM.P 16 ⟨vs⟩ w (Ends1 env S w (.bl b) S')) : SmOk (cfgWs S S' b P) := by
  intro f g h'
  simp only [cfgWs] at h'
  split at h'
  · simp only [Option.some.injEq] at h'; subst h'
    exact smEq_ok (c := cfgWs S S' b P) h
  · cases h'
/-- a reader's step -/
noncomputable def cfgRs (q : InW) (l : List Int) (c : Int) (x : Rd) (was : List ByteArray) (wn : List Int) (w : Wr) (z : Int) : Cfg := { P := Tryd.prog, ex := exI, gl := [(0, 0)], sm := fun f => match f with
  | 20 => some (smEq [.ptr 4 0, .ptr 2 0] (sI q l c x was wn w z) (ROk 5 l c x) (.sb (rStep x l).got) (sI q l (c + 1) (rStep x l) was wn w z))
  | _ => none }
theorem cfgRs_ok {q : InW} {l : List Int} {c : Int} {x : Rd} {was : List ByteArray} {wn : List Int} {w : Wr} {z : Int} : SmOk (cfgRs q l c x was wn w z) := by
  intro f g h'
  simp only [cfgRs] at h'
  split at h'
  · simp only [Option.some.injEq] at h'; subst h'
    exact smEq_ok (c := cfgRs q l c x was wn w z) fun h => readI h
  · cases h'
/-- what was read -/
noncomputable def cfgMg (q : InW) (l : List Int) (c : Int) (x : Rd) (was : List ByteArray) (wn : List Int) (w : Wr) (z : Int) (m : Nat) : Cfg := { P := Tryd.prog, ex := exI, gl := [(0, 0)], sm := fun f => match f with
  | 23 => some (smEq [.ptr 3 0] (sIt q l c x was wn w z) (x.n = 4 ∧ imin (x.l.getD 1 0) 8 = (m : Int) ∧ m ≤ 8) (.tup [.str (strU (unpN (L32 x.l) m m)), .int .u32 (x.l.getD 0 0), .bl true]) (sIt q l c x was wn w z))
  | _ => none }
theorem cfgMg_ok {q : InW} {l : List Int} {c : Int} {x : Rd} {was : List ByteArray} {wn : List Int} {w : Wr} {z : Int} {m : Nat} : SmOk (cfgMg q l c x was wn w z m) := by
  intro f g h'
  simp only [cfgMg] at h'
  split at h'
  · simp only [Option.some.injEq] at h'; subst h'
    exact smEq_ok (c := cfgMg q l c x was wn w z m) fun h => msgI h.1 h.2.1 h.2.2
  · cases h'
end Go.Proofs.YtfapadgpihpmhaaDoor

namespace Go.Proofs.YtfapadgpihpmhaaDoor
open Go Go.Proofs.YtfapadgpihpmhaaDoor.Sx
set_option linter.unusedVariables false
set_option maxRecDepth 100000 in
theorem a_pre {q : InW} : (execN cfg 100 6 b6 (argW q ++ List.replicate 207 .bad) (s0W q)).bind (canonK 0 [(0,0)] 210 n6p) =
 

 (.need (true)

 (.eq (some [Blk.ro encLook [PUnit.unit]] = some [Blk.ro encLook [PUnit.unit]])

 (.ret (.normal, [.sli 1 (.c 0) 1 (.v q.1.length) (some (.v q.2)), .sli 2 (.c 0) 1 (.v q.3.length) (some (.v q.4)), .sli 3 (.c 0) 1 (.v q.5.length) (some (.v q.6)), .ptr 4 0, .ptr 6 0, .lit .i64 (0 : Int), .lit .i64 (0 : Int), .bl false, .sli 8 (.c 0) 1 (.c 1) (some (.c 1)), .sli 9 (.c 0) 1 (.c 1) (some (.c 1))], [.ro encLook [PUnit.unit], .ro encStr q.1, .ro encU32 q.3, .ro (encInt IntKind.u8) q.5, .own [.c (.sli 5 (.c 0) 1 (.c 5) (some (.c 5))), .c (.lit .i64 (0 : Int))] 77, .own [.c (.lit .u32 (0 : Int)), .c (.lit .u32 (0 : Int)), .c (.lit .u32 (0 : Int)), .c (.lit .u32 (0 : Int)), .c (.lit .u32 (0 : Int))] 32, .own [.c (.ptr 7 0), .c (.lit .i64 (8 : Int))] 63, .own [.c (.lit .i64 (0 : Int)), .c (.lit .i64 (4 : Int)), .c (.lit .i64 (0 : Int)), .c (.lit .i64 (0 : Int)), .c (.lit .u32 (0 : Int)), .c (.lit .u32 (0 : Int)), .c (.lit .u32 (0 : Int)), .c (.lit .u32 (0 : Int)), .c (.lit .u32 (0 : Int)), .c (.lit .u32 (0 : Int)), .c (.lit .u32 (0 : Int)), .c (.lit .u32 (0 : Int)), .c (.lit .u32 (0 : Int)), .c (.lit .u32 (0 : Int)), .c (.lit .u32 (0 : Int)), .c (.lit .u32 (0 : Int)), .c (.lit .u32 (0 : Int)), .c (.lit .u32 (0 : Int)), .c (.lit .u32 (0 : Int)), .c (.lit .u32 (0 : Int)), .c (.lit .u32 (0 : Int)), .c (.lit .u32 (0 : Int)), .c (.lit .u32 (0 : Int)), .c (.lit .u32 (0 : Int)), .c (.lit .u32 (0 : Int)), .c (.lit .u32 (0 : Int)), .c (.lit .u32 (0 : Int)), .c (.lit .u32 (0 : Int)), .c (.lit .u32 (0 : Int)), .c (.lit .u32 (0 : Int)), .c (.lit .u32 (0 : Int)), .c (.lit .u32 (0 : Int)), .c (.lit .u32 (0 : Int)), .c (.lit .u32 (0 : Int)), .c (.lit .u32 (0 : Int)), .c (.lit .u32 (0 : Int)), .c (.lit .u32 (0 : Int)), .c (.bl false), .c (.lit .i64 (0 : Int))] 99, .own [.c (.sl [])] 9, .own [.c (.lit .u32 (0 : Int))] 32])))) := by kernel_rfl
set_option maxRecDepth 100000 in
theorem a_reg {q : InW} {l : List Int} {c : Int} {x : Rd} {was : List ByteArray} {wn : List Int} {a least : Nat} {dn : Bool} : (exec cfgM 100 reg6 (fr 210 n6p (v6p q a least dn was.length wn.length)) (sO q l c x was wn)).bind (canonK 10 [(0,0)] 210 n6a) =
 

 (.ret (.normal, [.sli 5 (.c 0) 1 (.v q.1.length) (some (.v q.2)), .sli 6 (.c 0) 1 (.v q.3.length) (some (.v q.4)), .sli 7 (.c 0) 1 (.v q.5.length) (some (.v q.6)), .ptr 2 0, .ptr 3 0, .int .i64 (↑a : Int), .int .i64 (↑least : Int), .sb dn, .sli 8 (.c 0) 1 (.v was.length) none, .sli 9 (.c 0) 1 (.v wn.length) none, .lit .i64 (0 : Int)], [.ro encLook [PUnit.unit], .own [.a (encInt IntKind.u32) 5 l] 32, .own [.c (.sli 1 (.c 0) 1 (.v 5) (some (.v 5))), .c (.int .i64 c)] 77, .own [.c (.ptr 4 0), .c (.int .i64 (8 : Int))] 63, .own [.c (.int .i64 x.1), .c (.int .i64 x.2), .c (.int .i64 x.3), .c (.int .i64 x.4), .c (.int .u32 x.5), .a (encInt IntKind.u32) 32 x.6, .c (.sb x.7), .c (.int .i64 x.8)] 99, .ro encStr q.1, .ro encU32 q.3, .ro (encInt IntKind.u8) q.5, .vec encStr was 9, .vec (encInt IntKind.u32) wn 32])) := by kernel_rfl
set_option maxRecDepth 100000 in
theorem a_tm {q : InW} {l : List Int} {c : Int} {x : Rd} {was : List ByteArray} {wn : List Int} {a least : Nat} {dn : Bool} {i : Nat} : (exec cfgM 100 tm6 (fr 210 n6a (v6a q a least dn was.length wn.length i)) (sO q l c x was wn)).bind (canonK 10 [(0,0)] 210 n6a) =
 

 (.br (decide ((↑i : Int) < (↑q.1.length : Int)))

 (.br (decide ((↑i : Int) < (8 : Int)))

 (.ret (.normal, [.sli 5 (.c 0) 1 (.v q.1.length) (some (.v q.2)), .sli 6 (.c 0) 1 (.v q.3.length) (some (.v q.4)), .sli 7 (.c 0) 1 (.v q.5.length) (some (.v q.6)), .ptr 2 0, .ptr 3 0, .int .i64 (↑a : Int), .int .i64 (↑least : Int), .sb dn, .sli 8 (.c 0) 1 (.v was.length) none, .sli 9 (.c 0) 1 (.v wn.length) none, .int .i64 (↑i : Int)], [.ro encLook [PUnit.unit], .own [.a (encInt IntKind.u32) 5 l] 32, .own [.c (.sli 1 (.c 0) 1 (.v 5) (some (.v 5))), .c (.int .i64 c)] 77, .own [.c (.ptr 4 0), .c (.int .i64 (8 : Int))] 63, .own [.c (.int .i64 x.1), .c (.int .i64 x.2), .c (.int .i64 x.3), .c (.int .i64 x.4), .c (.int .u32 x.5), .a (encInt IntKind.u32) 32 x.6, .c (.sb x.7), .c (.int .i64 x.8)] 99, .ro encStr q.1, .ro encU32 q.3, .ro (encInt IntKind.u8) q.5, .vec encStr was 9, .vec (encInt IntKind.u32) wn 32]))

 (.ret (.exit 0, [.sli 5 (.c 0) 1 (.v q.1.length) (some (.v q.2)), .sli 6 (.c 0) 1 (.v q.3.length) (some (.v q.4)), .sli 7 (.c 0) 1 (.v q.5.length) (some (.v q.6)), .ptr 2 0, .ptr 3 0, .int .i64 (↑a : Int), .int .i64 (↑least : Int), .sb dn, .sli 8 (.c 0) 1 (.v was.length) none, .sli 9 (.c 0) 1 (.v wn.length) none, .int .i64 (↑i : Int)], [.ro encLook [PUnit.unit], .own [.a (encInt IntKind.u32) 5 l] 32, .own [.c (.sli 1 (.c 0) 1 (.v 5) (some (.v 5))), .c (.int .i64 c)] 77, .own [.c (.ptr 4 0), .c (.int .i64 (8 : Int))] 63, .own [.c (.int .i64 x.1), .c (.int .i64 x.2), .c (.int .i64 x.3), .c (.int .i64 x.4), .c (.int .u32 x.5), .a (encInt IntKind.u32) 32 x.6, .c (.sb x.7), .c (.int .i64 x.8)] 99, .ro encStr q.1, .ro encU32 q.3, .ro (encInt IntKind.u8) q.5, .vec encStr was 9, .vec (encInt IntKind.u32) wn 32])))

 (.ret (.exit 0, [.sli 5 (.c 0) 1 (.v q.1.length) (some (.v q.2)), .sli 6 (.c 0) 1 (.v q.3.length) (some (.v q.4)), .sli 7 (.c 0) 1 (.v q.5.length) (some (.v q.6)), .ptr 2 0, .ptr 3 0, .int .i64 (↑a : Int), .int .i64 (↑least : Int), .sb dn, .sli 8 (.c 0) 1 (.v was.length) none, .sli 9 (.c 0) 1 (.v wn.length) none, .int .i64 (↑i : Int)], [.ro encLook [PUnit.unit], .own [.a (encInt IntKind.u32) 5 l] 32, .own [.c (.sli 1 (.c 0) 1 (.v 5) (some (.v 5))), .c (.int .i64 c)] 77, .own [.c (.ptr 4 0), .c (.int .i64 (8 : Int))] 63, .own [.c (.int .i64 x.1), .c (.int .i64 x.2), .c (.int .i64 x.3), .c (.int .i64 x.4), .c (.int .u32 x.5), .a (encInt IntKind.u32) 32 x.6, .c (.sb x.7), .c (.int .i64 x.8)] 99, .ro encStr q.1, .ro encU32 q.3, .ro (encInt IntKind.u8) q.5, .vec encStr was 9, .vec (encInt IntKind.u32) wn 32]))) := by kernel_rfl
set_option maxRecDepth 100000 in
theorem a_sel {q : InW} {l : List Int} {c : Int} {x : Rd} {was : List ByteArray} {wn : List Int} {a least : Nat} {dn : Bool} {i : Nat} : (execN cfgM 100 4 bb6 (fr 210 n6a (v6a q a least dn was.length wn.length i)) (sO q l c x was wn)).bind (canonK 10 [(0,0)] 210 n6b) =
 

 (.need (decide ((0 : Int) ≤ (↑i : Int)) && decide ((↑i : Int).toNat < q.1.length))

 (.need (decide ((↑i : Int).toNat < q.1.length))

 (.br (decide ((↑i : Int) < (↑q.3.length : Int)))

 (.need (decide ((0 : Int) ≤ (↑i : Int)) && decide ((↑i : Int).toNat < q.3.length))

 (.need (decide ((↑i : Int).toNat < q.3.length))

 (.br (decide ((8 : Int) < (↑(q.1.getD (↑i : Int).toNat { data := { toList := [] } }).size : Int)))

 (.need (decide (8 ≤ (q.1.getD (↑i : Int).toNat { data := { toList := [] } }).size))

 (.need (decide (0 ≤ 8))

 (.br (strEq ((q.1.getD (↑i : Int).toNat { data := { toList := [] } }).extract 0 8) { data := { toList := [] } })

 (.ret (.normal, [.sli 5 (.c 0) 1 (.v q.1.length) (some (.v q.2)), .sli 6 (.c 0) 1 (.v q.3.length) (some (.v q.4)), .sli 7 (.c 0) 1 (.v q.5.length) (some (.v q.6)), .ptr 2 0, .ptr 3 0, .int .i64 (↑a : Int), .int .i64 (↑least : Int), .sb dn, .sli 8 (.c 0) 1 (.v was.length) none, .sli 9 (.c 0) 1 (.v wn.length) none, .int .i64 (↑i : Int), .sl [(101 : UInt8)], .int .u32 (q.3.getD (↑i : Int).toNat { v := (0 : Int), h := u0_h }).v], [.ro encLook [PUnit.unit], .own [.a (encInt IntKind.u32) 5 l] 32, .own [.c (.sli 1 (.c 0) 1 (.v 5) (some (.v 5))), .c (.int .i64 c)] 77, .own [.c (.ptr 4 0), .c (.int .i64 (8 : Int))] 63, .own [.c (.int .i64 x.1), .c (.int .i64 x.2), .c (.int .i64 x.3), .c (.int .i64 x.4), .c (.int .u32 x.5), .a (encInt IntKind.u32) 32 x.6, .c (.sb x.7), .c (.int .i64 x.8)] 99, .ro encStr q.1, .ro encU32 q.3, .ro (encInt IntKind.u8) q.5, .vec encStr was 9, .vec (encInt IntKind.u32) wn 32]))

 (.ret (.normal, [.sli 5 (.c 0) 1 (.v q.1.length) (some (.v q.2)), .sli 6 (.c 0) 1 (.v q.3.length) (some (.v q.4)), .sli 7 (.c 0) 1 (.v q.5.length) (some (.v q.6)), .ptr 2 0, .ptr 3 0, .int .i64 (↑a : Int), .int .i64 (↑least : Int), .sb dn, .sli 8 (.c 0) 1 (.v was.length) none, .sli 9 (.c 0) 1 (.v wn.length) none, .int .i64 (↑i : Int), .str ((q.1.getD (↑i : Int).toNat { data := { toList := [] } }).extract 0 8), .int .u32 (q.3.getD (↑i : Int).toNat { v := (0 : Int), h := u0_h }).v], [.ro encLook [PUnit.unit], .own [.a (encInt IntKind.u32) 5 l] 32, .own [.c (.sli 1 (.c 0) 1 (.v 5) (some (.v 5))), .c (.int .i64 c)] 77, .own [.c (.ptr 4 0), .c (.int .i64 (8 : Int))] 63, .own [.c (.int .i64 x.1), .c (.int .i64 x.2), .c (.int .i64 x.3), .c (.int .i64 x.4), .c (.int .u32 x.5), .a (encInt IntKind.u32) 32 x.6, .c (.sb x.7), .c (.int .i64 x.8)] 99, .ro encStr q.1, .ro encU32 q.3, .ro (encInt IntKind.u8) q.5, .vec encStr was 9, .vec (encInt IntKind.u32) wn 32])))))

 (.br (strEq (q.1.getD (↑i : Int).toNat { data := { toList := [] } }) { data := { toList := [] } })

 (.ret (.normal, [.sli 5 (.c 0) 1 (.v q.1.length) (some (.v q.2)), .sli 6 (.c 0) 1 (.v q.3.length) (some (.v q.4)), .sli 7 (.c 0) 1 (.v q.5.length) (some (.v q.6)), .ptr 2 0, .ptr 3 0, .int .i64 (↑a : Int), .int .i64 (↑least : Int), .sb dn, .sli 8 (.c 0) 1 (.v was.length) none, .sli 9 (.c 0) 1 (.v wn.length) none, .int .i64 (↑i : Int), .sl [(101 : UInt8)], .int .u32 (q.3.getD (↑i : Int).toNat { v := (0 : Int), h := u0_h }).v], [.ro encLook [PUnit.unit], .own [.a (encInt IntKind.u32) 5 l] 32, .own [.c (.sli 1 (.c 0) 1 (.v 5) (some (.v 5))), .c (.int .i64 c)] 77, .own [.c (.ptr 4 0), .c (.int .i64 (8 : Int))] 63, .own [.c (.int .i64 x.1), .c (.int .i64 x.2), .c (.int .i64 x.3), .c (.int .i64 x.4), .c (.int .u32 x.5), .a (encInt IntKind.u32) 32 x.6, .c (.sb x.7), .c (.int .i64 x.8)] 99, .ro encStr q.1, .ro encU32 q.3, .ro (encInt IntKind.u8) q.5, .vec encStr was 9, .vec (encInt IntKind.u32) wn 32]))

 (.ret (.normal, [.sli 5 (.c 0) 1 (.v q.1.length) (some (.v q.2)), .sli 6 (.c 0) 1 (.v q.3.length) (some (.v q.4)), .sli 7 (.c 0) 1 (.v q.5.length) (some (.v q.6)), .ptr 2 0, .ptr 3 0, .int .i64 (↑a : Int), .int .i64 (↑least : Int), .sb dn, .sli 8 (.c 0) 1 (.v was.length) none, .sli 9 (.c 0) 1 (.v wn.length) none, .int .i64 (↑i : Int), .str (q.1.getD (↑i : Int).toNat { data := { toList := [] } }), .int .u32 (q.3.getD (↑i : Int).toNat { v := (0 : Int), h := u0_h }).v], [.ro encLook [PUnit.unit], .own [.a (encInt IntKind.u32) 5 l] 32, .own [.c (.sli 1 (.c 0) 1 (.v 5) (some (.v 5))), .c (.int .i64 c)] 77, .own [.c (.ptr 4 0), .c (.int .i64 (8 : Int))] 63, .own [.c (.int .i64 x.1), .c (.int .i64 x.2), .c (.int .i64 x.3), .c (.int .i64 x.4), .c (.int .u32 x.5), .a (encInt IntKind.u32) 32 x.6, .c (.sb x.7), .c (.int .i64 x.8)] 99, .ro encStr q.1, .ro encU32 q.3, .ro (encInt IntKind.u8) q.5, .vec encStr was 9, .vec (encInt IntKind.u32) wn 32]))))))

 (.br (decide ((8 : Int) < (↑(q.1.getD (↑i : Int).toNat { data := { toList := [] } }).size : Int)))

 (.need (decide (8 ≤ (q.1.getD (↑i : Int).toNat { data := { toList := [] } }).size))

 (.need (decide (0 ≤ 8))

 (.br (strEq ((q.1.getD (↑i : Int).toNat { data := { toList := [] } }).extract 0 8) { data := { toList := [] } })

 (.ret (.normal, [.sli 5 (.c 0) 1 (.v q.1.length) (some (.v q.2)), .sli 6 (.c 0) 1 (.v q.3.length) (some (.v q.4)), .sli 7 (.c 0) 1 (.v q.5.length) (some (.v q.6)), .ptr 2 0, .ptr 3 0, .int .i64 (↑a : Int), .int .i64 (↑least : Int), .sb dn, .sli 8 (.c 0) 1 (.v was.length) none, .sli 9 (.c 0) 1 (.v wn.length) none, .int .i64 (↑i : Int), .sl [(101 : UInt8)], .int .u32 (IntKind.u32.wrap (↑i : Int))], [.ro encLook [PUnit.unit], .own [.a (encInt IntKind.u32) 5 l] 32, .own [.c (.sli 1 (.c 0) 1 (.v 5) (some (.v 5))), .c (.int .i64 c)] 77, .own [.c (.ptr 4 0), .c (.int .i64 (8 : Int))] 63, .own [.c (.int .i64 x.1), .c (.int .i64 x.2), .c (.int .i64 x.3), .c (.int .i64 x.4), .c (.int .u32 x.5), .a (encInt IntKind.u32) 32 x.6, .c (.sb x.7), .c (.int .i64 x.8)] 99, .ro encStr q.1, .ro encU32 q.3, .ro (encInt IntKind.u8) q.5, .vec encStr was 9, .vec (encInt IntKind.u32) wn 32]))

 (.ret (.normal, [.sli 5 (.c 0) 1 (.v q.1.length) (some (.v q.2)), .sli 6 (.c 0) 1 (.v q.3.length) (some (.v q.4)), .sli 7 (.c 0) 1 (.v q.5.length) (some (.v q.6)), .ptr 2 0, .ptr 3 0, .int .i64 (↑a : Int), .int .i64 (↑least : Int), .sb dn, .sli 8 (.c 0) 1 (.v was.length) none, .sli 9 (.c 0) 1 (.v wn.length) none, .int .i64 (↑i : Int), .str ((q.1.getD (↑i : Int).toNat { data := { toList := [] } }).extract 0 8), .int .u32 (IntKind.u32.wrap (↑i : Int))], [.ro encLook [PUnit.unit], .own [.a (encInt IntKind.u32) 5 l] 32, .own [.c (.sli 1 (.c 0) 1 (.v 5) (some (.v 5))), .c (.int .i64 c)] 77, .own [.c (.ptr 4 0), .c (.int .i64 (8 : Int))] 63, .own [.c (.int .i64 x.1), .c (.int .i64 x.2), .c (.int .i64 x.3), .c (.int .i64 x.4), .c (.int .u32 x.5), .a (encInt IntKind.u32) 32 x.6, .c (.sb x.7), .c (.int .i64 x.8)] 99, .ro encStr q.1, .ro encU32 q.3, .ro (encInt IntKind.u8) q.5, .vec encStr was 9, .vec (encInt IntKind.u32) wn 32])))))

 (.br (strEq (q.1.getD (↑i : Int).toNat { data := { toList := [] } }) { data := { toList := [] } })

 (.ret (.normal, [.sli 5 (.c 0) 1 (.v q.1.length) (some (.v q.2)), .sli 6 (.c 0) 1 (.v q.3.length) (some (.v q.4)), .sli 7 (.c 0) 1 (.v q.5.length) (some (.v q.6)), .ptr 2 0, .ptr 3 0, .int .i64 (↑a : Int), .int .i64 (↑least : Int), .sb dn, .sli 8 (.c 0) 1 (.v was.length) none, .sli 9 (.c 0) 1 (.v wn.length) none, .int .i64 (↑i : Int), .sl [(101 : UInt8)], .int .u32 (IntKind.u32.wrap (↑i : Int))], [.ro encLook [PUnit.unit], .own [.a (encInt IntKind.u32) 5 l] 32, .own [.c (.sli 1 (.c 0) 1 (.v 5) (some (.v 5))), .c (.int .i64 c)] 77, .own [.c (.ptr 4 0), .c (.int .i64 (8 : Int))] 63, .own [.c (.int .i64 x.1), .c (.int .i64 x.2), .c (.int .i64 x.3), .c (.int .i64 x.4), .c (.int .u32 x.5), .a (encInt IntKind.u32) 32 x.6, .c (.sb x.7), .c (.int .i64 x.8)] 99, .ro encStr q.1, .ro encU32 q.3, .ro (encInt IntKind.u8) q.5, .vec encStr was 9, .vec (encInt IntKind.u32) wn 32]))

 (.ret (.normal, [.sli 5 (.c 0) 1 (.v q.1.length) (some (.v q.2)), .sli 6 (.c 0) 1 (.v q.3.length) (some (.v q.4)), .sli 7 (.c 0) 1 (.v q.5.length) (some (.v q.6)), .ptr 2 0, .ptr 3 0, .int .i64 (↑a : Int), .int .i64 (↑least : Int), .sb dn, .sli 8 (.c 0) 1 (.v was.length) none, .sli 9 (.c 0) 1 (.v wn.length) none, .int .i64 (↑i : Int), .str (q.1.getD (↑i : Int).toNat { data := { toList := [] } }), .int .u32 (IntKind.u32.wrap (↑i : Int))], [.ro encLook [PUnit.unit], .own [.a (encInt IntKind.u32) 5 l] 32, .own [.c (.sli 1 (.c 0) 1 (.v 5) (some (.v 5))), .c (.int .i64 c)] 77, .own [.c (.ptr 4 0), .c (.int .i64 (8 : Int))] 63, .own [.c (.int .i64 x.1), .c (.int .i64 x.2), .c (.int .i64 x.3), .c (.int .i64 x.4), .c (.int .u32 x.5), .a (encInt IntKind.u32) 32 x.6, .c (.sb x.7), .c (.int .i64 x.8)] 99, .ro encStr q.1, .ro encU32 q.3, .ro (encInt IntKind.u8) q.5, .vec encStr was 9, .vec (encInt IntKind.u32) wn 32]))))))) := by kernel_rfl
set_option maxRecDepth 100000 in
theorem a_put {q : InW} {l : List Int} {c : Int} {x : Rd} {was : List ByteArray} {wn : List Int} {a least : Nat} {dn : Bool} {i : Nat} {s : ByteArray} {t : Int} : (execN (cfgP (sO q l c x was wn) s t) 100 2 (restC 4 bb6) (fr 210 n6b (v6b q a least dn was.length wn.length i s t)) (sO q l c x was wn)).bind (canonK 10 [(0,0)] 210 n6c) =
 

 (.eq ([SVal.lit .i64 (0 : Int), .lit .i64 (8 : Int), .str s, .int .u32 t] = [SVal.lit .i64 (0 : Int), .lit .i64 (8 : Int), .str s, .int .u32 t] ∧ [Blk.ro encLook [PUnit.unit], .own [.a (encInt IntKind.u32) 5 l] 32, .own [.c (.sli 1 (.c 0) 1 (.v 5) (some (.v 5))), .c (.int .i64 c)] 77, .own [.c (.ptr 4 0), .c (.int .i64 (8 : Int))] 63, .own [.c (.int .i64 x.1), .c (.int .i64 x.2), .c (.int .i64 x.3), .c (.int .i64 x.4), .c (.int .u32 x.5), .a (encInt IntKind.u32) 32 x.6, .c (.sb x.7), .c (.int .i64 x.8)] 99, .ro encStr q.1, .ro encU32 q.3, .ro (encInt IntKind.u8) q.5, .vec encStr was 9, .vec (encInt IntKind.u32) wn 32] = [Blk.ro encLook [PUnit.unit], .own [.a (encInt IntKind.u32) 5 l] 32, .own [.c (.sli 1 (.c 0) 1 (.v 5) (some (.v 5))), .c (.int .i64 c)] 77, .own [.c (.ptr 4 0), .c (.int .i64 (8 : Int))] 63, .own [.c (.int .i64 x.1), .c (.int .i64 x.2), .c (.int .i64 x.3), .c (.int .i64 x.4), .c (.int .u32 x.5), .a (encInt IntKind.u32) 32 x.6, .c (.sb x.7), .c (.int .i64 x.8)] 99, .ro encStr q.1, .ro encU32 q.3, .ro (encInt IntKind.u8) q.5, .vec encStr was 9, .vec (encInt IntKind.u32) wn 32] ∧ PutOk { at' := (0 : Int), n := (8 : Int), s := s, tick := t })

 (.ret (.normal, [.sli 5 (.c 0) 1 (.v q.1.length) (some (.v q.2)), .sli 6 (.c 0) 1 (.v q.3.length) (some (.v q.4)), .sli 7 (.c 0) 1 (.v q.5.length) (some (.v q.6)), .ptr 2 0, .ptr 3 0, .int .i64 (↑a : Int), .int .i64 (↑least : Int), .sb dn, .sli 8 (.c 0) 1 (.v was.length) none, .sli 9 (.c 0) 1 (.v wn.length) none, .int .i64 (↑i : Int), .str s, .int .u32 t, .ptr 10 0], [.ro encLook [PUnit.unit], .own [.a (encInt IntKind.u32) 5 l] 32, .own [.c (.sli 1 (.c 0) 1 (.v 5) (some (.v 5))), .c (.int .i64 c)] 77, .own [.c (.ptr 4 0), .c (.int .i64 (8 : Int))] 63, .own [.c (.int .i64 x.1), .c (.int .i64 x.2), .c (.int .i64 x.3), .c (.int .i64 x.4), .c (.int .u32 x.5), .a (encInt IntKind.u32) 32 x.6, .c (.sb x.7), .c (.int .i64 x.8)] 99, .ro encStr q.1, .ro encU32 q.3, .ro (encInt IntKind.u8) q.5, .vec encStr was 9, .vec (encInt IntKind.u32) wn 32, .own [.c (.ptr 11 0)] 57, .own [.c (.int .i64 (w0P { at' := (0 : Int), n := (8 : Int), s := s, tick := t }).at'), .c (.int .i64 (w0P { at' := (0 : Int), n := (8 : Int), s := s, tick := t }).next), .c (.int .i64 (w0P { at' := (0 : Int), n := (8 : Int), s := s, tick := t }).phase), .c (.sli 12 (.c 0) 1 (.c 1) none), .c (.lit .i64 (0 : Int))] 95, .vec (encRow 0) [[.sli 13 (.c 0) 1 (.v 4) none]] 22, .vec (encInt IntKind.u32) (w0P { at' := (0 : Int), n := (8 : Int), s := s, tick := t }).V 32]))) := by kernel_rfl
set_option maxRecDepth 100000 in
theorem a_app {q : InW} {l : List Int} {c : Int} {x : Rd} {was : List ByteArray} {wn : List Int} {w : Wr} {a least : Nat} {dn : Bool} {i : Nat} {s : ByteArray} {t : Int} : (execN cfgM 100 1 (restC 6 bb6) (fr 210 n6c (v6b q a least dn was.length wn.length i s t ++ [.ptr 10 0])) (sI q l c x was wn w 0)).bind (canonK 8 [(0,0)] 210 n6i) =
 

 (.need (true)

 (.need (decide (was.length = was.length))

 (.need (roomy (was.length + 1) 16)

 (.need (true)

 (.need (decide (wn.length = wn.length))

 (.need (roomy (wn.length + 1) 4)

 (.ret (.normal, [.sli 5 (.c 0) 1 (.v q.1.length) (some (.v q.2)), .sli 6 (.c 0) 1 (.v q.3.length) (some (.v q.4)), .sli 7 (.c 0) 1 (.v q.5.length) (some (.v q.6)), .ptr 2 0, .ptr 3 0, .int .i64 (↑a : Int), .int .i64 (↑least : Int), .sb dn, .sli 8 (.c 0) 1 (.v (was.length + 1)) none, .sli 9 (.c 0) 1 (.v (wn.length + 1)) none, .int .i64 (↑i : Int), .ptr 10 0], [.ro encLook [PUnit.unit], .own [.a (encInt IntKind.u32) 5 l] 32, .own [.c (.sli 1 (.c 0) 1 (.v 5) (some (.v 5))), .c (.int .i64 c)] 77, .own [.c (.ptr 4 0), .c (.int .i64 (8 : Int))] 63, .own [.c (.int .i64 x.1), .c (.int .i64 x.2), .c (.int .i64 x.3), .c (.int .i64 x.4), .c (.int .u32 x.5), .a (encInt IntKind.u32) 32 x.6, .c (.sb x.7), .c (.int .i64 x.8)] 99, .ro encStr q.1, .ro encU32 q.3, .ro (encInt IntKind.u8) q.5, .vec encStr (was ++ [s]) 9, .vec (encInt IntKind.u32) (wn ++ [t]) 32, .own [.c (.ptr 11 0)] 57, .own [.c (.int .i64 w.1), .c (.int .i64 w.2), .c (.int .i64 w.3), .c (.sli 12 (.c 0) 1 (.c 1) none), .c (.lit .i64 (0 : Int))] 95, .vec (encRow 0) [[.sli 13 (.c 0) 1 (.v w.4.length) none]] 22, .vec (encInt IntKind.u32) w.4 32])))))))) := by kernel_rfl
set_option maxRecDepth 100000 in
theorem i_tm0 {q : InW} {l : List Int} {c : Int} {x : Rd} {was : List ByteArray} {wn : List Int} {w : Wr} {a least : Nat} {dn : Bool} {i : Nat} : (exec cfgM 100 tm2 (fr 210 n6i (v6i q a least dn was.length wn.length i)) (sI q l c x was wn w 0)).bind (canonK 14 [(0,0)] 210 n6i) =
 

 (.br (decide ((↑a : Int) < (↑q.5.length : Int)))

 (.br (decide ((↑a : Int) < (200 : Int)))

 (.ret (.normal, [.sli 5 (.c 0) 1 (.v q.1.length) (some (.v q.2)), .sli 6 (.c 0) 1 (.v q.3.length) (some (.v q.4)), .sli 7 (.c 0) 1 (.v q.5.length) (some (.v q.6)), .ptr 2 0, .ptr 3 0, .int .i64 (↑a : Int), .int .i64 (↑least : Int), .sb dn, .sli 8 (.c 0) 1 (.v was.length) none, .sli 9 (.c 0) 1 (.v wn.length) none, .int .i64 (↑i : Int), .ptr 10 0], [.ro encLook [PUnit.unit], .own [.a (encInt IntKind.u32) 5 l] 32, .own [.c (.sli 1 (.c 0) 1 (.v 5) (some (.v 5))), .c (.int .i64 c)] 77, .own [.c (.ptr 4 0), .c (.int .i64 (8 : Int))] 63, .own [.c (.int .i64 x.1), .c (.int .i64 x.2), .c (.int .i64 x.3), .c (.int .i64 x.4), .c (.int .u32 x.5), .a (encInt IntKind.u32) 32 x.6, .c (.sb x.7), .c (.int .i64 x.8)] 99, .ro encStr q.1, .ro encU32 q.3, .ro (encInt IntKind.u8) q.5, .vec encStr was 9, .vec (encInt IntKind.u32) wn 32, .own [.c (.ptr 11 0)] 57, .own [.c (.int .i64 w.1), .c (.int .i64 w.2), .c (.int .i64 w.3), .c (.sli 12 (.c 0) 1 (.c 1) none), .c (.lit .i64 (0 : Int))] 95, .vec (encRow 0) [[.sli 13 (.c 0) 1 (.v w.4.length) none]] 22, .vec (encInt IntKind.u32) w.4 32]))

 (.ret (.exit 2, [.sli 5 (.c 0) 1 (.v q.1.length) (some (.v q.2)), .sli 6 (.c 0) 1 (.v q.3.length) (some (.v q.4)), .sli 7 (.c 0) 1 (.v q.5.length) (some (.v q.6)), .ptr 2 0, .ptr 3 0, .int .i64 (↑a : Int), .int .i64 (↑least : Int), .sb dn, .sli 8 (.c 0) 1 (.v was.length) none, .sli 9 (.c 0) 1 (.v wn.length) none, .int .i64 (↑i : Int), .ptr 10 0], [.ro encLook [PUnit.unit], .own [.a (encInt IntKind.u32) 5 l] 32, .own [.c (.sli 1 (.c 0) 1 (.v 5) (some (.v 5))), .c (.int .i64 c)] 77, .own [.c (.ptr 4 0), .c (.int .i64 (8 : Int))] 63, .own [.c (.int .i64 x.1), .c (.int .i64 x.2), .c (.int .i64 x.3), .c (.int .i64 x.4), .c (.int .u32 x.5), .a (encInt IntKind.u32) 32 x.6, .c (.sb x.7), .c (.int .i64 x.8)] 99, .ro encStr q.1, .ro encU32 q.3, .ro (encInt IntKind.u8) q.5, .vec encStr was 9, .vec (encInt IntKind.u32) wn 32, .own [.c (.ptr 11 0)] 57, .own [.c (.int .i64 w.1), .c (.int .i64 w.2), .c (.int .i64 w.3), .c (.sli 12 (.c 0) 1 (.c 1) none), .c (.lit .i64 (0 : Int))] 95, .vec (encRow 0) [[.sli 13 (.c 0) 1 (.v w.4.length) none]] 22, .vec (encInt IntKind.u32) w.4 32])))

 (.ret (.exit 2, [.sli 5 (.c 0) 1 (.v q.1.length) (some (.v q.2)), .sli 6 (.c 0) 1 (.v q.3.length) (some (.v q.4)), .sli 7 (.c 0) 1 (.v q.5.length) (some (.v q.6)), .ptr 2 0, .ptr 3 0, .int .i64 (↑a : Int), .int .i64 (↑least : Int), .sb dn, .sli 8 (.c 0) 1 (.v was.length) none, .sli 9 (.c 0) 1 (.v wn.length) none, .int .i64 (↑i : Int), .ptr 10 0], [.ro encLook [PUnit.unit], .own [.a (encInt IntKind.u32) 5 l] 32, .own [.c (.sli 1 (.c 0) 1 (.v 5) (some (.v 5))), .c (.int .i64 c)] 77, .own [.c (.ptr 4 0), .c (.int .i64 (8 : Int))] 63, .own [.c (.int .i64 x.1), .c (.int .i64 x.2), .c (.int .i64 x.3), .c (.int .i64 x.4), .c (.int .u32 x.5), .a (encInt IntKind.u32) 32 x.6, .c (.sb x.7), .c (.int .i64 x.8)] 99, .ro encStr q.1, .ro encU32 q.3, .ro (encInt IntKind.u8) q.5, .vec encStr was 9, .vec (encInt IntKind.u32) wn 32, .own [.c (.ptr 11 0)] 57, .own [.c (.int .i64 w.1), .c (.int .i64 w.2), .c (.int .i64 w.3), .c (.sli 12 (.c 0) 1 (.c 1) none), .c (.lit .i64 (0 : Int))] 95, .vec (encRow 0) [[.sli 13 (.c 0) 1 (.v w.4.length) none]] 22, .vec (encInt IntKind.u32) w.4 32]))) := by kernel_rfl
set_option maxRecDepth 100000 in
theorem i_tm1 {q : InW} {l : List Int} {c : Int} {x : Rd} {was : List ByteArray} {wn : List Int} {w : Wr} {a least : Nat} {dn : Bool} {i : Nat} : (exec cfgM 100 tm2 (fr 210 n6i (v6i q a least dn was.length wn.length i)) (sI q l c x was wn w 1)).bind (canonK 14 [(0,0)] 210 n6i) =
 

 (.ret (.exit 2, [.sli 5 (.c 0) 1 (.v q.1.length) (some (.v q.2)), .sli 6 (.c 0) 1 (.v q.3.length) (some (.v q.4)), .sli 7 (.c 0) 1 (.v q.5.length) (some (.v q.6)), .ptr 2 0, .ptr 3 0, .int .i64 (↑a : Int), .int .i64 (↑least : Int), .sb dn, .sli 8 (.c 0) 1 (.v was.length) none, .sli 9 (.c 0) 1 (.v wn.length) none, .int .i64 (↑i : Int), .ptr 10 0], [.ro encLook [PUnit.unit], .own [.a (encInt IntKind.u32) 5 l] 32, .own [.c (.sli 1 (.c 0) 1 (.v 5) (some (.v 5))), .c (.int .i64 c)] 77, .own [.c (.ptr 4 0), .c (.int .i64 (8 : Int))] 63, .own [.c (.int .i64 x.1), .c (.int .i64 x.2), .c (.int .i64 x.3), .c (.int .i64 x.4), .c (.int .u32 x.5), .a (encInt IntKind.u32) 32 x.6, .c (.sb x.7), .c (.int .i64 x.8)] 99, .ro encStr q.1, .ro encU32 q.3, .ro (encInt IntKind.u8) q.5, .vec encStr was 9, .vec (encInt IntKind.u32) wn 32, .own [.c (.ptr 11 0)] 57, .own [.c (.int .i64 w.1), .c (.int .i64 w.2), .c (.int .i64 w.3), .c (.sli 12 (.c 0) 1 (.c 1) none), .c (.lit .i64 (1 : Int))] 95, .vec (encRow 0) [[.sli 13 (.c 0) 1 (.v w.4.length) none]] 22, .vec (encInt IntKind.u32) w.4 32])) := by kernel_rfl
set_option maxRecDepth 100000 in
theorem i_pick {q : InW} {l : List Int} {c : Int} {x : Rd} {was : List ByteArray} {wn : List Int} {w : Wr} {a least : Nat} {dn : Bool} {i : Nat} {l' : List Int} {c' : Int} {w' : Wr} {z' : Int} {b : Bool} {P : Prop} : (execN (cfgWs (sI q l c x was wn w 0) (sI q l' c' x was wn w' z') b P) 100 2 bb2 (fr 210 n6i (v6i q a least dn was.length wn.length i)) (sI q l c x was wn w 0)).bind (canonK 14 [(0,0)] 210 n6i) =
 

 (.need (inR .i64 ((↑a : Int) + (1 : Int)))

 (.need (inR .i64 ((↑a : Int) + (1 : Int) - (1 : Int)))

 (.need (decide ((0 : Int) ≤ (↑a : Int) + (1 : Int) - (1 : Int)) && decide (((↑a : Int) + (1 : Int) - (1 : Int)).toNat < q.5.length))

 (.need (decide (((↑a : Int) + (1 : Int) - (1 : Int)).toNat < q.5.length))

 (.br (bitop BinOp.and IntKind.u8 (q.5.getD ((↑a : Int) + (1 : Int) - (1 : Int)).toNat (0 : Int)) (1 : Int) == (0 : Int))

 (.eq ([SVal.ptr 11 0, .ptr 2 0] = [SVal.ptr 11 0, .ptr 2 0] ∧ [Blk.ro encLook [PUnit.unit], .own [.a (encInt IntKind.u32) 5 l] 32, .own [.c (.sli 1 (.c 0) 1 (.v 5) (some (.v 5))), .c (.int .i64 c)] 77, .own [.c (.ptr 4 0), .c (.int .i64 (8 : Int))] 63, .own [.c (.int .i64 x.1), .c (.int .i64 x.2), .c (.int .i64 x.3), .c (.int .i64 x.4), .c (.int .u32 x.5), .a (encInt IntKind.u32) 32 x.6, .c (.sb x.7), .c (.int .i64 x.8)] 99, .ro encStr q.1, .ro encU32 q.3, .ro (encInt IntKind.u8) q.5, .vec encStr was 9, .vec (encInt IntKind.u32) wn 32, .own [.c (.ptr 11 0)] 57, .own [.c (.int .i64 w.1), .c (.int .i64 w.2), .c (.int .i64 w.3), .c (.sli 12 (.c 0) 1 (.c 1) none), .c (.lit .i64 (0 : Int))] 95, .vec (encRow 0) [[.sli 13 (.c 0) 1 (.v w.4.length) none]] 22, .vec (encInt IntKind.u32) w.4 32] = [Blk.ro encLook [PUnit.unit], .own [.a (encInt IntKind.u32) 5 l] 32, .own [.c (.sli 1 (.c 0) 1 (.v 5) (some (.v 5))), .c (.int .i64 c)] 77, .own [.c (.ptr 4 0), .c (.int .i64 (8 : Int))] 63, .own [.c (.int .i64 x.1), .c (.int .i64 x.2), .c (.int .i64 x.3), .c (.int .i64 x.4), .c (.int .u32 x.5), .a (encInt IntKind.u32) 32 x.6, .c (.sb x.7), .c (.int .i64 x.8)] 99, .ro encStr q.1, .ro encU32 q.3, .ro (encInt IntKind.u8) q.5, .vec encStr was 9, .vec (encInt IntKind.u32) wn 32, .own [.c (.ptr 11 0)] 57, .own [.c (.int .i64 w.1), .c (.int .i64 w.2), .c (.int .i64 w.3), .c (.sli 12 (.c 0) 1 (.c 1) none), .c (.lit .i64 (0 : Int))] 95, .vec (encRow 0) [[.sli 13 (.c 0) 1 (.v w.4.length) none]] 22, .vec (encInt IntKind.u32) w.4 32] ∧ P)

 (.ret (.exit 3, [.sli 5 (.c 0) 1 (.v q.1.length) (some (.v q.2)), .sli 6 (.c 0) 1 (.v q.3.length) (some (.v q.4)), .sli 7 (.c 0) 1 (.v q.5.length) (some (.v q.6)), .ptr 2 0, .ptr 3 0, .int .i64 ((↑a : Int) + (1 : Int)), .int .i64 (↑least : Int), .sb dn, .sli 8 (.c 0) 1 (.v was.length) none, .sli 9 (.c 0) 1 (.v wn.length) none, .int .i64 (↑i : Int), .ptr 10 0], [.ro encLook [PUnit.unit], .own [.a (encInt IntKind.u32) 5 l'] 32, .own [.c (.sli 1 (.c 0) 1 (.v 5) (some (.v 5))), .c (.int .i64 c')] 77, .own [.c (.ptr 4 0), .c (.int .i64 (8 : Int))] 63, .own [.c (.int .i64 x.1), .c (.int .i64 x.2), .c (.int .i64 x.3), .c (.int .i64 x.4), .c (.int .u32 x.5), .a (encInt IntKind.u32) 32 x.6, .c (.sb x.7), .c (.int .i64 x.8)] 99, .ro encStr q.1, .ro encU32 q.3, .ro (encInt IntKind.u8) q.5, .vec encStr was 9, .vec (encInt IntKind.u32) wn 32, .own [.c (.ptr 11 0)] 57, .own [.c (.int .i64 w'.1), .c (.int .i64 w'.2), .c (.int .i64 w'.3), .c (.sli 12 (.c 0) 1 (.c 1) none), .c (.lit .i64 z')] 95, .vec (encRow 0) [[.sli 13 (.c 0) 1 (.v w'.4.length) none]] 22, .vec (encInt IntKind.u32) w'.4 32])))

 (.ret (.normal, [.sli 5 (.c 0) 1 (.v q.1.length) (some (.v q.2)), .sli 6 (.c 0) 1 (.v q.3.length) (some (.v q.4)), .sli 7 (.c 0) 1 (.v q.5.length) (some (.v q.6)), .ptr 2 0, .ptr 3 0, .int .i64 ((↑a : Int) + (1 : Int)), .int .i64 (↑least : Int), .sb dn, .sli 8 (.c 0) 1 (.v was.length) none, .sli 9 (.c 0) 1 (.v wn.length) none, .int .i64 (↑i : Int), .ptr 10 0], [.ro encLook [PUnit.unit], .own [.a (encInt IntKind.u32) 5 l] 32, .own [.c (.sli 1 (.c 0) 1 (.v 5) (some (.v 5))), .c (.int .i64 c)] 77, .own [.c (.ptr 4 0), .c (.int .i64 (8 : Int))] 63, .own [.c (.int .i64 x.1), .c (.int .i64 x.2), .c (.int .i64 x.3), .c (.int .i64 x.4), .c (.int .u32 x.5), .a (encInt IntKind.u32) 32 x.6, .c (.sb x.7), .c (.int .i64 x.8)] 99, .ro encStr q.1, .ro encU32 q.3, .ro (encInt IntKind.u8) q.5, .vec encStr was 9, .vec (encInt IntKind.u32) wn 32, .own [.c (.ptr 11 0)] 57, .own [.c (.int .i64 w.1), .c (.int .i64 w.2), .c (.int .i64 w.3), .c (.sli 12 (.c 0) 1 (.c 1) none), .c (.lit .i64 (0 : Int))] 95, .vec (encRow 0) [[.sli 13 (.c 0) 1 (.v w.4.length) none]] 22, .vec (encInt IntKind.u32) w.4 32]))))))) := by kernel_rfl
set_option maxRecDepth 100000 in
theorem i_ren1 {q : InW} {l : List Int} {c : Int} {x : Rd} {was : List ByteArray} {wn : List Int} {w : Wr} {a least : Nat} {i : Nat} : (execN cfgM 100 1 (restC 2 bb2) (fr 210 n6i (v6d q a least (.bl true) was.length wn.length i)) (sI q l c x was wn w 0)).bind (canonK 3 [(0,0)] 210 n6i) =
 

 (.need (true)

 (.ret (.normal, [.sli 3 (.c 0) 1 (.v q.1.length) (some (.v q.2)), .sli 4 (.c 0) 1 (.v q.3.length) (some (.v q.4)), .sli 5 (.c 0) 1 (.v q.5.length) (some (.v q.6)), .ptr 2 0, .ptr 6 0, .int .i64 (↑a : Int), .int .i64 (↑least : Int), .bl true, .sli 8 (.c 0) 1 (.v was.length) none, .sli 9 (.c 0) 1 (.v wn.length) none, .int .i64 (↑i : Int), .ptr 10 0], [.ro encLook [PUnit.unit], .own [.a (encInt IntKind.u32) 5 l] 32, .own [.c (.sli 1 (.c 0) 1 (.v 5) (some (.v 5))), .c (.int .i64 c)] 77, .ro encStr q.1, .ro encU32 q.3, .ro (encInt IntKind.u8) q.5, .own [.c (.ptr 7 0), .c (.lit .i64 (8 : Int))] 63, .own [.c (.lit .i64 (0 : Int)), .c (.lit .i64 (4 : Int)), .c (.lit .i64 (0 : Int)), .c (.lit .i64 (0 : Int)), .c (.lit .u32 (0 : Int)), .c (.lit .u32 (0 : Int)), .c (.lit .u32 (0 : Int)), .c (.lit .u32 (0 : Int)), .c (.lit .u32 (0 : Int)), .c (.lit .u32 (0 : Int)), .c (.lit .u32 (0 : Int)), .c (.lit .u32 (0 : Int)), .c (.lit .u32 (0 : Int)), .c (.lit .u32 (0 : Int)), .c (.lit .u32 (0 : Int)), .c (.lit .u32 (0 : Int)), .c (.lit .u32 (0 : Int)), .c (.lit .u32 (0 : Int)), .c (.lit .u32 (0 : Int)), .c (.lit .u32 (0 : Int)), .c (.lit .u32 (0 : Int)), .c (.lit .u32 (0 : Int)), .c (.lit .u32 (0 : Int)), .c (.lit .u32 (0 : Int)), .c (.lit .u32 (0 : Int)), .c (.lit .u32 (0 : Int)), .c (.lit .u32 (0 : Int)), .c (.lit .u32 (0 : Int)), .c (.lit .u32 (0 : Int)), .c (.lit .u32 (0 : Int)), .c (.lit .u32 (0 : Int)), .c (.lit .u32 (0 : Int)), .c (.lit .u32 (0 : Int)), .c (.lit .u32 (0 : Int)), .c (.lit .u32 (0 : Int)), .c (.lit .u32 (0 : Int)), .c (.lit .u32 (0 : Int)), .c (.bl false), .c (.lit .i64 (0 : Int))] 99, .vec encStr was 9, .vec (encInt IntKind.u32) wn 32, .own [.c (.ptr 11 0)] 57, .own [.c (.int .i64 w.1), .c (.int .i64 w.2), .c (.int .i64 w.3), .c (.sli 12 (.c 0) 1 (.c 1) none), .c (.lit .i64 (0 : Int))] 95, .vec (encRow 0) [[.sli 13 (.c 0) 1 (.v w.4.length) none]] 22, .vec (encInt IntKind.u32) w.4 32]))) := by kernel_rfl
set_option maxRecDepth 100000 in
theorem i_ren0 {q : InW} {l : List Int} {c : Int} {x : Rd} {was : List ByteArray} {wn : List Int} {w : Wr} {a least : Nat} {i : Nat} : (execN cfgM 100 1 (restC 2 bb2) (fr 210 n6i (v6d q a least (.bl false) was.length wn.length i)) (sI q l c x was wn w 0)).bind (canonK 14 [(0,0)] 210 n6i) =
 

 (.ret (.normal, [.sli 5 (.c 0) 1 (.v q.1.length) (some (.v q.2)), .sli 6 (.c 0) 1 (.v q.3.length) (some (.v q.4)), .sli 7 (.c 0) 1 (.v q.5.length) (some (.v q.6)), .ptr 2 0, .ptr 3 0, .int .i64 (↑a : Int), .int .i64 (↑least : Int), .bl false, .sli 8 (.c 0) 1 (.v was.length) none, .sli 9 (.c 0) 1 (.v wn.length) none, .int .i64 (↑i : Int), .ptr 10 0], [.ro encLook [PUnit.unit], .own [.a (encInt IntKind.u32) 5 l] 32, .own [.c (.sli 1 (.c 0) 1 (.v 5) (some (.v 5))), .c (.int .i64 c)] 77, .own [.c (.ptr 4 0), .c (.int .i64 (8 : Int))] 63, .own [.c (.int .i64 x.1), .c (.int .i64 x.2), .c (.int .i64 x.3), .c (.int .i64 x.4), .c (.int .u32 x.5), .a (encInt IntKind.u32) 32 x.6, .c (.sb x.7), .c (.int .i64 x.8)] 99, .ro encStr q.1, .ro encU32 q.3, .ro (encInt IntKind.u8) q.5, .vec encStr was 9, .vec (encInt IntKind.u32) wn 32, .own [.c (.ptr 11 0)] 57, .own [.c (.int .i64 w.1), .c (.int .i64 w.2), .c (.int .i64 w.3), .c (.sli 12 (.c 0) 1 (.c 1) none), .c (.lit .i64 (0 : Int))] 95, .vec (encRow 0) [[.sli 13 (.c 0) 1 (.v w.4.length) none]] 22, .vec (encInt IntKind.u32) w.4 32])) := by kernel_rfl
set_option maxRecDepth 100000 in
theorem i_step {q : InW} {l : List Int} {c : Int} {x : Rd} {was : List ByteArray} {wn : List Int} {w : Wr} {a least : Nat} {d : SVal} {i : Nat} : (execN (cfgRs q l c x was wn w 0) 100 3 (restC 3 bb2) (fr 210 n6i (v6d q a least d was.length wn.length i)) (sI q l c x was wn w 0)).bind (canonK 14 [(0,0)] 210 n6i) =
 

 (.eq ([SVal.ptr 4 0, .ptr 2 0] = [SVal.ptr 4 0, .ptr 2 0] ∧ [Blk.ro encLook [PUnit.unit], .own [.a (encInt IntKind.u32) 5 l] 32, .own [.c (.sli 1 (.c 0) 1 (.v 5) (some (.v 5))), .c (.int .i64 c)] 77, .own [.c (.ptr 4 0), .c (.int .i64 (8 : Int))] 63, .own [.c (.int .i64 x.1), .c (.int .i64 x.2), .c (.int .i64 x.3), .c (.int .i64 x.4), .c (.int .u32 x.5), .a (encInt IntKind.u32) 32 x.6, .c (.sb x.7), .c (.int .i64 x.8)] 99, .ro encStr q.1, .ro encU32 q.3, .ro (encInt IntKind.u8) q.5, .vec encStr was 9, .vec (encInt IntKind.u32) wn 32, .own [.c (.ptr 11 0)] 57, .own [.c (.int .i64 w.1), .c (.int .i64 w.2), .c (.int .i64 w.3), .c (.sli 12 (.c 0) 1 (.c 1) none), .c (.lit .i64 (0 : Int))] 95, .vec (encRow 0) [[.sli 13 (.c 0) 1 (.v w.4.length) none]] 22, .vec (encInt IntKind.u32) w.4 32] = [Blk.ro encLook [PUnit.unit], .own [.a (encInt IntKind.u32) 5 l] 32, .own [.c (.sli 1 (.c 0) 1 (.v 5) (some (.v 5))), .c (.int .i64 c)] 77, .own [.c (.ptr 4 0), .c (.int .i64 (8 : Int))] 63, .own [.c (.int .i64 x.1), .c (.int .i64 x.2), .c (.int .i64 x.3), .c (.int .i64 x.4), .c (.int .u32 x.5), .a (encInt IntKind.u32) 32 x.6, .c (.sb x.7), .c (.int .i64 x.8)] 99, .ro encStr q.1, .ro encU32 q.3, .ro (encInt IntKind.u8) q.5, .vec encStr was 9, .vec (encInt IntKind.u32) wn 32, .own [.c (.ptr 11 0)] 57, .own [.c (.int .i64 w.1), .c (.int .i64 w.2), .c (.int .i64 w.3), .c (.sli 12 (.c 0) 1 (.c 1) none), .c (.lit .i64 (0 : Int))] 95, .vec (encRow 0) [[.sli 13 (.c 0) 1 (.v w.4.length) none]] 22, .vec (encInt IntKind.u32) w.4 32] ∧ ROk 5 l c x)

 (.br (decide (x.8 < (rStep x l).8))

 (.need (inR .i64 ((↑i : Int) + (0 : Int)))

 (.ret (.normal, [.sli 5 (.c 0) 1 (.v q.1.length) (some (.v q.2)), .sli 6 (.c 0) 1 (.v q.3.length) (some (.v q.4)), .sli 7 (.c 0) 1 (.v q.5.length) (some (.v q.6)), .ptr 2 0, .ptr 3 0, .int .i64 (↑a : Int), .int .i64 ((↑i : Int) + (0 : Int)), .sb (rStep x l).7, .sli 8 (.c 0) 1 (.v was.length) none, .sli 9 (.c 0) 1 (.v wn.length) none, .int .i64 (↑i : Int), .ptr 10 0], [.ro encLook [PUnit.unit], .own [.a (encInt IntKind.u32) 5 l] 32, .own [.c (.sli 1 (.c 0) 1 (.v 5) (some (.v 5))), .c (.int .i64 (c + (1 : Int)))] 77, .own [.c (.ptr 4 0), .c (.int .i64 (8 : Int))] 63, .own [.c (.int .i64 (rStep x l).1), .c (.int .i64 (rStep x l).2), .c (.int .i64 (rStep x l).3), .c (.int .i64 (rStep x l).4), .c (.int .u32 (rStep x l).5), .a (encInt IntKind.u32) 32 (rStep x l).6, .c (.sb (rStep x l).7), .c (.int .i64 (rStep x l).8)] 99, .ro encStr q.1, .ro encU32 q.3, .ro (encInt IntKind.u8) q.5, .vec encStr was 9, .vec (encInt IntKind.u32) wn 32, .own [.c (.ptr 11 0)] 57, .own [.c (.int .i64 w.1), .c (.int .i64 w.2), .c (.int .i64 w.3), .c (.sli 12 (.c 0) 1 (.c 1) none), .c (.lit .i64 (0 : Int))] 95, .vec (encRow 0) [[.sli 13 (.c 0) 1 (.v w.4.length) none]] 22, .vec (encInt IntKind.u32) w.4 32])))

 (.ret (.normal, [.sli 5 (.c 0) 1 (.v q.1.length) (some (.v q.2)), .sli 6 (.c 0) 1 (.v q.3.length) (some (.v q.4)), .sli 7 (.c 0) 1 (.v q.5.length) (some (.v q.6)), .ptr 2 0, .ptr 3 0, .int .i64 (↑a : Int), .int .i64 (↑least : Int), .sb (rStep x l).7, .sli 8 (.c 0) 1 (.v was.length) none, .sli 9 (.c 0) 1 (.v wn.length) none, .int .i64 (↑i : Int), .ptr 10 0], [.ro encLook [PUnit.unit], .own [.a (encInt IntKind.u32) 5 l] 32, .own [.c (.sli 1 (.c 0) 1 (.v 5) (some (.v 5))), .c (.int .i64 (c + (1 : Int)))] 77, .own [.c (.ptr 4 0), .c (.int .i64 (8 : Int))] 63, .own [.c (.int .i64 (rStep x l).1), .c (.int .i64 (rStep x l).2), .c (.int .i64 (rStep x l).3), .c (.int .i64 (rStep x l).4), .c (.int .u32 (rStep x l).5), .a (encInt IntKind.u32) 32 (rStep x l).6, .c (.sb (rStep x l).7), .c (.int .i64 (rStep x l).8)] 99, .ro encStr q.1, .ro encU32 q.3, .ro (encInt IntKind.u8) q.5, .vec encStr was 9, .vec (encInt IntKind.u32) wn 32, .own [.c (.ptr 11 0)] 57, .own [.c (.int .i64 w.1), .c (.int .i64 w.2), .c (.int .i64 w.3), .c (.sli 12 (.c 0) 1 (.c 1) none), .c (.lit .i64 (0 : Int))] 95, .vec (encRow 0) [[.sli 13 (.c 0) 1 (.v w.4.length) none]] 22, .vec (encInt IntKind.u32) w.4 32])))) := by kernel_rfl
set_option maxRecDepth 100000 in
theorem i_msg0 {q : InW} {l : List Int} {c : Int} {x : Rd} {was : List ByteArray} {wn : List Int} {w : Wr} {a least : Nat} {i : Nat} : (execN cfgM 100 3 (restC 6 bb2) (fr 210 n6i (v6d q a least (.bl false) was.length wn.length i)) (memS 5 l c ++ ([.own [.c (.ptr 4 0), .c (.int .i64 8)] 63, .own [.c (.int .i64 x.at'), .c (.int .i64 x.n), .c (.int .i64 x.next), .c (.int .i64 x.phase), .c (.int .u32 x.count), .a (encInt .u32) 32 x.l, .c (.bl false), .c (.int .i64 x.tries)] 99] ++ (tailW q was wn ++ putW 10 w 0)))).bind (canonK 14 [(0,0)] 210 n6i) =
 

 (.ret (.exit 3, [.sli 5 (.c 0) 1 (.v q.1.length) (some (.v q.2)), .sli 6 (.c 0) 1 (.v q.3.length) (some (.v q.4)), .sli 7 (.c 0) 1 (.v q.5.length) (some (.v q.6)), .ptr 2 0, .ptr 3 0, .int .i64 (↑a : Int), .int .i64 (↑least : Int), .bl false, .sli 8 (.c 0) 1 (.v was.length) none, .sli 9 (.c 0) 1 (.v wn.length) none, .int .i64 (↑i : Int), .ptr 10 0], [.ro encLook [PUnit.unit], .own [.a (encInt IntKind.u32) 5 l] 32, .own [.c (.sli 1 (.c 0) 1 (.v 5) (some (.v 5))), .c (.int .i64 c)] 77, .own [.c (.ptr 4 0), .c (.int .i64 (8 : Int))] 63, .own [.c (.int .i64 x.1), .c (.int .i64 x.2), .c (.int .i64 x.3), .c (.int .i64 x.4), .c (.int .u32 x.5), .a (encInt IntKind.u32) 32 x.6, .c (.bl false), .c (.int .i64 x.8)] 99, .ro encStr q.1, .ro encU32 q.3, .ro (encInt IntKind.u8) q.5, .vec encStr was 9, .vec (encInt IntKind.u32) wn 32, .own [.c (.ptr 11 0)] 57, .own [.c (.int .i64 w.1), .c (.int .i64 w.2), .c (.int .i64 w.3), .c (.sli 12 (.c 0) 1 (.c 1) none), .c (.lit .i64 (0 : Int))] 95, .vec (encRow 0) [[.sli 13 (.c 0) 1 (.v w.4.length) none]] 22, .vec (encInt IntKind.u32) w.4 32])) := by kernel_rfl
set_option maxRecDepth 100000 in
theorem i_msg1 {q : InW} {l : List Int} {c : Int} {x : Rd} {was : List ByteArray} {wn : List Int} {w : Wr} {a least : Nat} {i : Nat} {m : Nat} : (execN (cfgMg q l c x was wn w 0 m) 100 4 (restC 6 bb2) (fr 210 n6i (v6d q a least (.bl true) was.length wn.length i)) (sIt q l c x was wn w 0)).bind (canonK 14 [(0,0)] 210 n6j) =
 

 (.eq ([SVal.ptr 3 0] = [SVal.ptr 3 0] ∧ [Blk.ro encLook [PUnit.unit], .own [.a (encInt IntKind.u32) 5 l] 32, .own [.c (.sli 1 (.c 0) 1 (.v 5) (some (.v 5))), .c (.int .i64 c)] 77, .own [.c (.ptr 4 0), .c (.int .i64 (8 : Int))] 63, .own [.c (.int .i64 x.1), .c (.int .i64 x.2), .c (.int .i64 x.3), .c (.int .i64 x.4), .c (.int .u32 x.5), .a (encInt IntKind.u32) 32 x.6, .c (.sb true), .c (.int .i64 x.8)] 99, .ro encStr q.1, .ro encU32 q.3, .ro (encInt IntKind.u8) q.5, .vec encStr was 9, .vec (encInt IntKind.u32) wn 32, .own [.c (.ptr 11 0)] 57, .own [.c (.int .i64 w.1), .c (.int .i64 w.2), .c (.int .i64 w.3), .c (.sli 12 (.c 0) 1 (.c 1) none), .c (.lit .i64 (0 : Int))] 95, .vec (encRow 0) [[.sli 13 (.c 0) 1 (.v w.4.length) none]] 22, .vec (encInt IntKind.u32) w.4 32] = [Blk.ro encLook [PUnit.unit], .own [.a (encInt IntKind.u32) 5 l] 32, .own [.c (.sli 1 (.c 0) 1 (.v 5) (some (.v 5))), .c (.int .i64 c)] 77, .own [.c (.ptr 4 0), .c (.int .i64 (8 : Int))] 63, .own [.c (.int .i64 x.1), .c (.int .i64 x.2), .c (.int .i64 x.3), .c (.int .i64 x.4), .c (.int .u32 x.5), .a (encInt IntKind.u32) 32 x.6, .c (.sb true), .c (.int .i64 x.8)] 99, .ro encStr q.1, .ro encU32 q.3, .ro (encInt IntKind.u8) q.5, .vec encStr was 9, .vec (encInt IntKind.u32) wn 32, .own [.c (.ptr 11 0)] 57, .own [.c (.int .i64 w.1), .c (.int .i64 w.2), .c (.int .i64 w.3), .c (.sli 12 (.c 0) 1 (.c 1) none), .c (.lit .i64 (0 : Int))] 95, .vec (encRow 0) [[.sli 13 (.c 0) 1 (.v w.4.length) none]] 22, .vec (encInt IntKind.u32) w.4 32] ∧ x.2 = (4 : Int) ∧ imin (x.6.getD 1 (0 : Int)) (8 : Int) = (↑m : Int) ∧ m ≤ 8)

 (.ret (.normal, [.sli 5 (.c 0) 1 (.v q.1.length) (some (.v q.2)), .sli 6 (.c 0) 1 (.v q.3.length) (some (.v q.4)), .sli 7 (.c 0) 1 (.v q.5.length) (some (.v q.6)), .ptr 2 0, .ptr 3 0, .int .i64 (↑a : Int), .int .i64 (↑least : Int), .bl true, .sli 8 (.c 0) 1 (.v was.length) none, .sli 9 (.c 0) 1 (.v wn.length) none, .int .i64 (↑i : Int), .ptr 10 0, .str (strU (unpN (L32 x.l) m m)), .int .u32 (x.6.getD 0 (0 : Int)), .bl false], [.ro encLook [PUnit.unit], .own [.a (encInt IntKind.u32) 5 l] 32, .own [.c (.sli 1 (.c 0) 1 (.v 5) (some (.v 5))), .c (.int .i64 c)] 77, .own [.c (.ptr 4 0), .c (.int .i64 (8 : Int))] 63, .own [.c (.int .i64 x.1), .c (.int .i64 x.2), .c (.int .i64 x.3), .c (.int .i64 x.4), .c (.int .u32 x.5), .a (encInt IntKind.u32) 32 x.6, .c (.sb true), .c (.int .i64 x.8)] 99, .ro encStr q.1, .ro encU32 q.3, .ro (encInt IntKind.u8) q.5, .vec encStr was 9, .vec (encInt IntKind.u32) wn 32, .own [.c (.ptr 11 0)] 57, .own [.c (.int .i64 w.1), .c (.int .i64 w.2), .c (.int .i64 w.3), .c (.sli 12 (.c 0) 1 (.c 1) none), .c (.lit .i64 (0 : Int))] 95, .vec (encRow 0) [[.sli 13 (.c 0) 1 (.v w.4.length) none]] 22, .vec (encInt IntKind.u32) w.4 32]))) := by kernel_rfl
set_option maxRecDepth 100000 in
theorem s_reg {q : InW} {l : List Int} {c : Int} {x : Rd} {was : List ByteArray} {wn : List Int} {w : Wr} {a least : Nat} {i : Nat} {s : ByteArray} {t : Int} {found : Bool} : (exec cfgM 100 reg4 (fr 210 n6j ((v6d q a least (.bl true) was.length wn.length i) ++ [.str s, .int .u32 t, .sb found])) (sIt q l c x was wn w 0)).bind (canonK 14 [(0,0)] 210 n6k) =
 

 (.ret (.normal, [.sli 5 (.c 0) 1 (.v q.1.length) (some (.v q.2)), .sli 6 (.c 0) 1 (.v q.3.length) (some (.v q.4)), .sli 7 (.c 0) 1 (.v q.5.length) (some (.v q.6)), .ptr 2 0, .ptr 3 0, .int .i64 (↑a : Int), .int .i64 (↑least : Int), .bl true, .sli 8 (.c 0) 1 (.v was.length) none, .sli 9 (.c 0) 1 (.v wn.length) none, .int .i64 (↑i : Int), .ptr 10 0, .str s, .int .u32 t, .sb found, .int .i64 (↑least : Int)], [.ro encLook [PUnit.unit], .own [.a (encInt IntKind.u32) 5 l] 32, .own [.c (.sli 1 (.c 0) 1 (.v 5) (some (.v 5))), .c (.int .i64 c)] 77, .own [.c (.ptr 4 0), .c (.int .i64 (8 : Int))] 63, .own [.c (.int .i64 x.1), .c (.int .i64 x.2), .c (.int .i64 x.3), .c (.int .i64 x.4), .c (.int .u32 x.5), .a (encInt IntKind.u32) 32 x.6, .c (.sb true), .c (.int .i64 x.8)] 99, .ro encStr q.1, .ro encU32 q.3, .ro (encInt IntKind.u8) q.5, .vec encStr was 9, .vec (encInt IntKind.u32) wn 32, .own [.c (.ptr 11 0)] 57, .own [.c (.int .i64 w.1), .c (.int .i64 w.2), .c (.int .i64 w.3), .c (.sli 12 (.c 0) 1 (.c 1) none), .c (.lit .i64 (0 : Int))] 95, .vec (encRow 0) [[.sli 13 (.c 0) 1 (.v w.4.length) none]] 22, .vec (encInt IntKind.u32) w.4 32])) := by kernel_rfl
set_option maxRecDepth 100000 in
theorem s_tm {q : InW} {l : List Int} {c : Int} {x : Rd} {was : List ByteArray} {wn : List Int} {w : Wr} {a least : Nat} {i : Nat} {s : ByteArray} {t : Int} {found : Bool} {k : Nat} : (exec cfgM 100 tm4 (fr 210 n6k (((v6d q a least (.bl true) was.length wn.length i) ++ [.str s, .int .u32 t, .sb found]) ++ [.int .i64 (k : Nat)])) (sIt q l c x was wn w 0)).bind (canonK 14 [(0,0)] 210 n6k) =
 

 (.br (decide ((↑k : Int) < (↑was.length : Int)))

 (.ret (.normal, [.sli 5 (.c 0) 1 (.v q.1.length) (some (.v q.2)), .sli 6 (.c 0) 1 (.v q.3.length) (some (.v q.4)), .sli 7 (.c 0) 1 (.v q.5.length) (some (.v q.6)), .ptr 2 0, .ptr 3 0, .int .i64 (↑a : Int), .int .i64 (↑least : Int), .bl true, .sli 8 (.c 0) 1 (.v was.length) none, .sli 9 (.c 0) 1 (.v wn.length) none, .int .i64 (↑i : Int), .ptr 10 0, .str s, .int .u32 t, .sb found, .int .i64 (↑k : Int)], [.ro encLook [PUnit.unit], .own [.a (encInt IntKind.u32) 5 l] 32, .own [.c (.sli 1 (.c 0) 1 (.v 5) (some (.v 5))), .c (.int .i64 c)] 77, .own [.c (.ptr 4 0), .c (.int .i64 (8 : Int))] 63, .own [.c (.int .i64 x.1), .c (.int .i64 x.2), .c (.int .i64 x.3), .c (.int .i64 x.4), .c (.int .u32 x.5), .a (encInt IntKind.u32) 32 x.6, .c (.sb true), .c (.int .i64 x.8)] 99, .ro encStr q.1, .ro encU32 q.3, .ro (encInt IntKind.u8) q.5, .vec encStr was 9, .vec (encInt IntKind.u32) wn 32, .own [.c (.ptr 11 0)] 57, .own [.c (.int .i64 w.1), .c (.int .i64 w.2), .c (.int .i64 w.3), .c (.sli 12 (.c 0) 1 (.c 1) none), .c (.lit .i64 (0 : Int))] 95, .vec (encRow 0) [[.sli 13 (.c 0) 1 (.v w.4.length) none]] 22, .vec (encInt IntKind.u32) w.4 32]))

 (.ret (.exit 4, [.sli 5 (.c 0) 1 (.v q.1.length) (some (.v q.2)), .sli 6 (.c 0) 1 (.v q.3.length) (some (.v q.4)), .sli 7 (.c 0) 1 (.v q.5.length) (some (.v q.6)), .ptr 2 0, .ptr 3 0, .int .i64 (↑a : Int), .int .i64 (↑least : Int), .bl true, .sli 8 (.c 0) 1 (.v was.length) none, .sli 9 (.c 0) 1 (.v wn.length) none, .int .i64 (↑i : Int), .ptr 10 0, .str s, .int .u32 t, .sb found, .int .i64 (↑k : Int)], [.ro encLook [PUnit.unit], .own [.a (encInt IntKind.u32) 5 l] 32, .own [.c (.sli 1 (.c 0) 1 (.v 5) (some (.v 5))), .c (.int .i64 c)] 77, .own [.c (.ptr 4 0), .c (.int .i64 (8 : Int))] 63, .own [.c (.int .i64 x.1), .c (.int .i64 x.2), .c (.int .i64 x.3), .c (.int .i64 x.4), .c (.int .u32 x.5), .a (encInt IntKind.u32) 32 x.6, .c (.sb true), .c (.int .i64 x.8)] 99, .ro encStr q.1, .ro encU32 q.3, .ro (encInt IntKind.u8) q.5, .vec encStr was 9, .vec (encInt IntKind.u32) wn 32, .own [.c (.ptr 11 0)] 57, .own [.c (.int .i64 w.1), .c (.int .i64 w.2), .c (.int .i64 w.3), .c (.sli 12 (.c 0) 1 (.c 1) none), .c (.lit .i64 (0 : Int))] 95, .vec (encRow 0) [[.sli 13 (.c 0) 1 (.v w.4.length) none]] 22, .vec (encInt IntKind.u32) w.4 32]))) := by kernel_rfl
set_option maxRecDepth 100000 in
theorem s_bb {q : InW} {l : List Int} {c : Int} {x : Rd} {was : List ByteArray} {wn : List Int} {w : Wr} {a least : Nat} {i : Nat} {s : ByteArray} {t : Int} {found : Bool} {k : Nat} : (exec cfgM 100 bb4 (fr 210 n6k (((v6d q a least (.bl true) was.length wn.length i) ++ [.str s, .int .u32 t, .sb found]) ++ [.int .i64 (k : Nat)])) (sIt q l c x was wn w 0)).bind (canonK 14 [(0,0)] 210 n6k) =
 

 (.br (found)

 (.ret (.normal, [.sli 5 (.c 0) 1 (.v q.1.length) (some (.v q.2)), .sli 6 (.c 0) 1 (.v q.3.length) (some (.v q.4)), .sli 7 (.c 0) 1 (.v q.5.length) (some (.v q.6)), .ptr 2 0, .ptr 3 0, .int .i64 (↑a : Int), .int .i64 (↑least : Int), .bl true, .sli 8 (.c 0) 1 (.v was.length) none, .sli 9 (.c 0) 1 (.v wn.length) none, .int .i64 (↑i : Int), .ptr 10 0, .str s, .int .u32 t, .bl true, .int .i64 (↑k : Int)], [.ro encLook [PUnit.unit], .own [.a (encInt IntKind.u32) 5 l] 32, .own [.c (.sli 1 (.c 0) 1 (.v 5) (some (.v 5))), .c (.int .i64 c)] 77, .own [.c (.ptr 4 0), .c (.int .i64 (8 : Int))] 63, .own [.c (.int .i64 x.1), .c (.int .i64 x.2), .c (.int .i64 x.3), .c (.int .i64 x.4), .c (.int .u32 x.5), .a (encInt IntKind.u32) 32 x.6, .c (.sb true), .c (.int .i64 x.8)] 99, .ro encStr q.1, .ro encU32 q.3, .ro (encInt IntKind.u8) q.5, .vec encStr was 9, .vec (encInt IntKind.u32) wn 32, .own [.c (.ptr 11 0)] 57, .own [.c (.int .i64 w.1), .c (.int .i64 w.2), .c (.int .i64 w.3), .c (.sli 12 (.c 0) 1 (.c 1) none), .c (.lit .i64 (0 : Int))] 95, .vec (encRow 0) [[.sli 13 (.c 0) 1 (.v w.4.length) none]] 22, .vec (encInt IntKind.u32) w.4 32]))

 (.need (decide ((0 : Int) ≤ (↑k : Int)) && decide ((↑k : Int).toNat < was.length))

 (.need (decide ((↑k : Int).toNat < was.length))

 (.br (strEq (was.getD (↑k : Int).toNat { data := { toList := [] } }) s)

 (.need (decide ((0 : Int) ≤ (↑k : Int)) && decide ((↑k : Int).toNat < wn.length))

 (.need (decide ((↑k : Int).toNat < wn.length))

 (.ret (.normal, [.sli 5 (.c 0) 1 (.v q.1.length) (some (.v q.2)), .sli 6 (.c 0) 1 (.v q.3.length) (some (.v q.4)), .sli 7 (.c 0) 1 (.v q.5.length) (some (.v q.6)), .ptr 2 0, .ptr 3 0, .int .i64 (↑a : Int), .int .i64 (↑least : Int), .bl true, .sli 8 (.c 0) 1 (.v was.length) none, .sli 9 (.c 0) 1 (.v wn.length) none, .int .i64 (↑i : Int), .ptr 10 0, .str s, .int .u32 t, .sb (wn.getD (↑k : Int).toNat (0 : Int) == t), .int .i64 (↑k : Int)], [.ro encLook [PUnit.unit], .own [.a (encInt IntKind.u32) 5 l] 32, .own [.c (.sli 1 (.c 0) 1 (.v 5) (some (.v 5))), .c (.int .i64 c)] 77, .own [.c (.ptr 4 0), .c (.int .i64 (8 : Int))] 63, .own [.c (.int .i64 x.1), .c (.int .i64 x.2), .c (.int .i64 x.3), .c (.int .i64 x.4), .c (.int .u32 x.5), .a (encInt IntKind.u32) 32 x.6, .c (.sb true), .c (.int .i64 x.8)] 99, .ro encStr q.1, .ro encU32 q.3, .ro (encInt IntKind.u8) q.5, .vec encStr was 9, .vec (encInt IntKind.u32) wn 32, .own [.c (.ptr 11 0)] 57, .own [.c (.int .i64 w.1), .c (.int .i64 w.2), .c (.int .i64 w.3), .c (.sli 12 (.c 0) 1 (.c 1) none), .c (.lit .i64 (0 : Int))] 95, .vec (encRow 0) [[.sli 13 (.c 0) 1 (.v w.4.length) none]] 22, .vec (encInt IntKind.u32) w.4 32]))))

 (.ret (.normal, [.sli 5 (.c 0) 1 (.v q.1.length) (some (.v q.2)), .sli 6 (.c 0) 1 (.v q.3.length) (some (.v q.4)), .sli 7 (.c 0) 1 (.v q.5.length) (some (.v q.6)), .ptr 2 0, .ptr 3 0, .int .i64 (↑a : Int), .int .i64 (↑least : Int), .bl true, .sli 8 (.c 0) 1 (.v was.length) none, .sli 9 (.c 0) 1 (.v wn.length) none, .int .i64 (↑i : Int), .ptr 10 0, .str s, .int .u32 t, .bl false, .int .i64 (↑k : Int)], [.ro encLook [PUnit.unit], .own [.a (encInt IntKind.u32) 5 l] 32, .own [.c (.sli 1 (.c 0) 1 (.v 5) (some (.v 5))), .c (.int .i64 c)] 77, .own [.c (.ptr 4 0), .c (.int .i64 (8 : Int))] 63, .own [.c (.int .i64 x.1), .c (.int .i64 x.2), .c (.int .i64 x.3), .c (.int .i64 x.4), .c (.int .u32 x.5), .a (encInt IntKind.u32) 32 x.6, .c (.sb true), .c (.int .i64 x.8)] 99, .ro encStr q.1, .ro encU32 q.3, .ro (encInt IntKind.u8) q.5, .vec encStr was 9, .vec (encInt IntKind.u32) wn 32, .own [.c (.ptr 11 0)] 57, .own [.c (.int .i64 w.1), .c (.int .i64 w.2), .c (.int .i64 w.3), .c (.sli 12 (.c 0) 1 (.c 1) none), .c (.lit .i64 (0 : Int))] 95, .vec (encRow 0) [[.sli 13 (.c 0) 1 (.v w.4.length) none]] 22, .vec (encInt IntKind.u32) w.4 32])))))) := by kernel_rfl
set_option maxRecDepth 100000 in
theorem s_inc {q : InW} {l : List Int} {c : Int} {x : Rd} {was : List ByteArray} {wn : List Int} {w : Wr} {a least : Nat} {i : Nat} {s : ByteArray} {t : Int} {found : Bool} {k : Nat} : (exec cfgM 100 inc4 (fr 210 n6k (((v6d q a least (.bl true) was.length wn.length i) ++ [.str s, .int .u32 t, .sb found]) ++ [.int .i64 (k : Nat)])) (sIt q l c x was wn w 0)).bind (canonK 14 [(0,0)] 210 n6k) =
 

 (.need (inR .i64 ((↑k : Int) + (1 : Int)))

 (.ret (.normal, [.sli 5 (.c 0) 1 (.v q.1.length) (some (.v q.2)), .sli 6 (.c 0) 1 (.v q.3.length) (some (.v q.4)), .sli 7 (.c 0) 1 (.v q.5.length) (some (.v q.6)), .ptr 2 0, .ptr 3 0, .int .i64 (↑a : Int), .int .i64 (↑least : Int), .bl true, .sli 8 (.c 0) 1 (.v was.length) none, .sli 9 (.c 0) 1 (.v wn.length) none, .int .i64 (↑i : Int), .ptr 10 0, .str s, .int .u32 t, .sb found, .int .i64 ((↑k : Int) + (1 : Int))], [.ro encLook [PUnit.unit], .own [.a (encInt IntKind.u32) 5 l] 32, .own [.c (.sli 1 (.c 0) 1 (.v 5) (some (.v 5))), .c (.int .i64 c)] 77, .own [.c (.ptr 4 0), .c (.int .i64 (8 : Int))] 63, .own [.c (.int .i64 x.1), .c (.int .i64 x.2), .c (.int .i64 x.3), .c (.int .i64 x.4), .c (.int .u32 x.5), .a (encInt IntKind.u32) 32 x.6, .c (.sb true), .c (.int .i64 x.8)] 99, .ro encStr q.1, .ro encU32 q.3, .ro (encInt IntKind.u8) q.5, .vec encStr was 9, .vec (encInt IntKind.u32) wn 32, .own [.c (.ptr 11 0)] 57, .own [.c (.int .i64 w.1), .c (.int .i64 w.2), .c (.int .i64 w.3), .c (.sli 12 (.c 0) 1 (.c 1) none), .c (.lit .i64 (0 : Int))] 95, .vec (encRow 0) [[.sli 13 (.c 0) 1 (.v w.4.length) none]] 22, .vec (encInt IntKind.u32) w.4 32]))) := by kernel_rfl
set_option maxRecDepth 100000 in
theorem s_end {q : InW} {l : List Int} {c : Int} {x : Rd} {was : List ByteArray} {wn : List Int} {w : Wr} {a least : Nat} {i : Nat} {s : ByteArray} {t : Int} {found : Bool} {k : Nat} : (exec cfgM 100 end4 (fr 210 n6k (((v6d q a least (.bl true) was.length wn.length i) ++ [.str s, .int .u32 t, .sb found]) ++ [.int .i64 (k : Nat)])) (sIt q l c x was wn w 0)).bind (canonK 14 [(0,0)] 210 n6i) =
 

 (.br (!found)

 (.ret (.ret, [.sli 5 (.c 0) 1 (.v q.1.length) (some (.v q.2)), .sli 6 (.c 0) 1 (.v q.3.length) (some (.v q.4)), .sli 7 (.c 0) 1 (.v q.5.length) (some (.v q.6)), .ptr 2 0, .ptr 3 0, .int .i64 (↑a : Int), .int .i64 (↑least : Int), .bl true, .sli 8 (.c 0) 1 (.v was.length) none, .sli 9 (.c 0) 1 (.v wn.length) none, .int .i64 (↑i : Int), .ptr 10 0], [.ro encLook [PUnit.unit], .own [.a (encInt IntKind.u32) 5 l] 32, .own [.c (.sli 1 (.c 0) 1 (.v 5) (some (.v 5))), .c (.int .i64 c)] 77, .own [.c (.ptr 4 0), .c (.int .i64 (8 : Int))] 63, .own [.c (.int .i64 x.1), .c (.int .i64 x.2), .c (.int .i64 x.3), .c (.int .i64 x.4), .c (.int .u32 x.5), .a (encInt IntKind.u32) 32 x.6, .c (.sb true), .c (.int .i64 x.8)] 99, .ro encStr q.1, .ro encU32 q.3, .ro (encInt IntKind.u8) q.5, .vec encStr was 9, .vec (encInt IntKind.u32) wn 32, .own [.c (.ptr 11 0)] 57, .own [.c (.int .i64 w.1), .c (.int .i64 w.2), .c (.int .i64 w.3), .c (.sli 12 (.c 0) 1 (.c 1) none), .c (.lit .i64 (0 : Int))] 95, .vec (encRow 0) [[.sli 13 (.c 0) 1 (.v w.4.length) none]] 22, .vec (encInt IntKind.u32) w.4 32]))

 (.ret (.normal, [.sli 5 (.c 0) 1 (.v q.1.length) (some (.v q.2)), .sli 6 (.c 0) 1 (.v q.3.length) (some (.v q.4)), .sli 7 (.c 0) 1 (.v q.5.length) (some (.v q.6)), .ptr 2 0, .ptr 3 0, .int .i64 (↑a : Int), .int .i64 (↑least : Int), .bl true, .sli 8 (.c 0) 1 (.v was.length) none, .sli 9 (.c 0) 1 (.v wn.length) none, .int .i64 (↑i : Int), .ptr 10 0], [.ro encLook [PUnit.unit], .own [.a (encInt IntKind.u32) 5 l] 32, .own [.c (.sli 1 (.c 0) 1 (.v 5) (some (.v 5))), .c (.int .i64 c)] 77, .own [.c (.ptr 4 0), .c (.int .i64 (8 : Int))] 63, .own [.c (.int .i64 x.1), .c (.int .i64 x.2), .c (.int .i64 x.3), .c (.int .i64 x.4), .c (.int .u32 x.5), .a (encInt IntKind.u32) 32 x.6, .c (.sb true), .c (.int .i64 x.8)] 99, .ro encStr q.1, .ro encU32 q.3, .ro (encInt IntKind.u8) q.5, .vec encStr was 9, .vec (encInt IntKind.u32) wn 32, .own [.c (.ptr 11 0)] 57, .own [.c (.int .i64 w.1), .c (.int .i64 w.2), .c (.int .i64 w.3), .c (.sli 12 (.c 0) 1 (.c 1) none), .c (.lit .i64 (0 : Int))] 95, .vec (encRow 0) [[.sli 13 (.c 0) 1 (.v w.4.length) none]] 22, .vec (encInt IntKind.u32) w.4 32]))) := by kernel_rfl
set_option maxRecDepth 100000 in
theorem a_inc {q : InW} {l : List Int} {c : Int} {x : Rd} {was : List ByteArray} {wn : List Int} {w : Wr} {z : Int} {a least : Nat} {dn : Bool} {i : Nat} : (exec cfgM 100 inc6 (fr 210 n6i (v6i q a least dn was.length wn.length i)) (sI q l c x was wn w z)).bind (canonK 10 [(0,0)] 210 n6a) =
 

 (.need (inR .i64 ((↑i : Int) + (1 : Int)))

 (.ret (.normal, [.sli 5 (.c 0) 1 (.v q.1.length) (some (.v q.2)), .sli 6 (.c 0) 1 (.v q.3.length) (some (.v q.4)), .sli 7 (.c 0) 1 (.v q.5.length) (some (.v q.6)), .ptr 2 0, .ptr 3 0, .int .i64 (↑a : Int), .int .i64 (↑least : Int), .sb dn, .sli 8 (.c 0) 1 (.v was.length) none, .sli 9 (.c 0) 1 (.v wn.length) none, .int .i64 ((↑i : Int) + (1 : Int))], [.ro encLook [PUnit.unit], .own [.a (encInt IntKind.u32) 5 l] 32, .own [.c (.sli 1 (.c 0) 1 (.v 5) (some (.v 5))), .c (.int .i64 c)] 77, .own [.c (.ptr 4 0), .c (.int .i64 (8 : Int))] 63, .own [.c (.int .i64 x.1), .c (.int .i64 x.2), .c (.int .i64 x.3), .c (.int .i64 x.4), .c (.int .u32 x.5), .a (encInt IntKind.u32) 32 x.6, .c (.sb x.7), .c (.int .i64 x.8)] 99, .ro encStr q.1, .ro encU32 q.3, .ro (encInt IntKind.u8) q.5, .vec encStr was 9, .vec (encInt IntKind.u32) wn 32]))) := by kernel_rfl
set_option maxRecDepth 100000 in
theorem a_end {q : InW} {l : List Int} {c : Int} {x : Rd} {was : List ByteArray} {wn : List Int} {a least : Nat} {dn : Bool} {i : Nat} : (exec cfgM 100 end6 (fr 210 n6a (v6a q a least dn was.length wn.length i)) (sO q l c x was wn)).bind (canonK 10 [(0,0)] 210 [6]) =
 

 (.ret (.ret, [.bl true], [.ro encLook [PUnit.unit], .own [.a (encInt IntKind.u32) 5 l] 32, .own [.c (.sli 1 (.c 0) 1 (.v 5) (some (.v 5))), .c (.int .i64 c)] 77, .own [.c (.ptr 4 0), .c (.int .i64 (8 : Int))] 63, .own [.c (.int .i64 x.1), .c (.int .i64 x.2), .c (.int .i64 x.3), .c (.int .i64 x.4), .c (.int .u32 x.5), .a (encInt IntKind.u32) 32 x.6, .c (.sb x.7), .c (.int .i64 x.8)] 99, .ro encStr q.1, .ro encU32 q.3, .ro (encInt IntKind.u8) q.5, .vec encStr was 9, .vec (encInt IntKind.u32) wn 32])) := by kernel_rfl
end Go.Proofs.YtfapadgpihpmhaaDoor

/- SlotWhole, plain: what is read is a version as a whole. -/

namespace Go.Proofs.YtfapadgpihpmhaaDoor
open Go Go.Proofs.YtfapadgpihpmhaaDoor.Sx
set_option linter.unusedVariables false
abbrev nilB : ByteArray := ⟨⟨[]⟩⟩
structure Vok (f : Nat → Int) (s : ByteArray) (t : Int) : Prop where
  t : f 0 = t
  z : f 1 = (s.size : Int)
  s8 : s.size ≤ 8
  w0 : f 2 = ((wN s s.size 0 : Nat) : Int)
  w1 : f 3 = ((wN s s.size 1 : Nat) : Int)
abbrev memF (l : List Int) : Nat → Int := fun k => l.getD (1 + k) 0
theorem Vok.congr {f g : Nat → Int} {s : ByteArray} {t : Int} (h : Vok f s t) (e : ∀ k, k < 4 → g k = f k) : Vok g s t :=
  ⟨by rw [e 0 (by omega)]; exact h.t, by rw [e 1 (by omega)]; exact h.z, h.s8, by rw [e 2 (by omega)]; exact h.w0, by rw [e 3 (by omega)]; exact h.w1⟩
/-- while a message is written -/
structure WG (l : List Int) (w : Wr) (i : Nat) (was : List ByteArray) (wn : List Int) : Prop where
  i8 : i ≤ 8
  ll : l.length = 5
  at' : w.at' = 0
  vl : w.V.length = 4
  vu : U32s w.V
  ph : w.phase = 0 ∨ w.phase = 1 ∨ w.phase = 2
  p0 : w.phase = 0 → l.getD 0 0 = 2 * (i : Int) ∧ Vok (memF l) (was.getD i nilB) (wn.getD i 0)
  p1 : w.phase = 1 → l.getD 0 0 = 2 * (i : Int) + 1 ∧ (0 ≤ w.next ∧ w.next < 4) ∧ ∀ k : Nat, (k : Int) < w.next → memF l k = w.V.getD k 0
  p2 : w.phase = 2 → l.getD 0 0 = 2 * (i : Int) + 1 ∧ ∀ k : Nat, k < 4 → memF l k = w.V.getD k 0
  vok : Vok (fun k => w.V.getD k 0) (was.getD (i + 1) nilB) (wn.getD (i + 1) 0)
/-- a message is written -/
structure WE (l : List Int) (i : Nat) (was : List ByteArray) (wn : List Int) : Prop where
  i8 : i ≤ 9
  ll : l.length = 5
  z : l.getD 0 0 = 2 * (i : Int)
  v : Vok (memF l) (was.getD i nilB) (wn.getD i 0)
theorem wg_ok {l : List Int} {w : Wr} {i : Nat} {was : List ByteArray} {wn : List Int} (h : WG l w i was wn) {c : Int} (hc : 0 ≤ c ∧ c ≤ 1000) : WOk 5 l c w :=
  ⟨by rw [h.at']; omega, by rw [h.at', h.vl]; omega, by omega, h.ll, h.vu, by omega⟩
theorem wg_begin {l : List Int} {w : Wr} {i : Nat} {was : List ByteArray} {wn : List Int} (h : WG l w i was wn) (hp : w.phase = 0) :
    WG (lInc w.at' l) ⟨w.at', 0, 1, w.V⟩ i was wn ∧ (lInc w.at' l).getD 0 0 = l.getD 0 0 + 1 := by
  obtain ⟨z, _⟩ := h.p0 hp
  have hl := h.ll
  have hi := h.i8
  have e : (lInc w.at' l).getD 0 0 = l.getD 0 0 + 1 := by
    unfold lInc
    rw [h.at', show (0 : Int).toNat = 0 from rfl, Sx.getD_set_self (by omega), z]; omega
  exact ⟨⟨h.i8, by simp [lInc, hl], h.at', h.vl, h.vu, .inr (.inl rfl), (fun h => by cases h), fun _ => ⟨by rw [e, z], ⟨by simp only; omega, by simp only; omega⟩, fun k hk => by simp only at hk; omega⟩, (fun h => by cases h), h.vok⟩, e⟩
theorem wg_word {l : List Int} {w : Wr} {i : Nat} {was : List ByteArray} {wn : List Int} (h : WG l w i was wn) (hp : w.phase = 1) :
    WG (lPut w l) (wPut w) i was wn ∧ (lPut w l).getD 0 0 = l.getD 0 0 ∧ l.getD 0 0 = 2 * (i : Int) + 1 := by
  obtain ⟨z, hn, hk⟩ := h.p1 hp
  have hl := h.ll
  have e0 : (w.at' + 1 + w.next).toNat = 1 + w.next.toNat := by rw [h.at']; omega
  have e : (lPut w l).getD 0 0 = l.getD 0 0 := by
    unfold lPut
    rw [e0, Sx.getD_set_ne (by omega)]
  have hm : ∀ k : Nat, (k : Int) < w.next + 1 → memF (lPut w l) k = w.V.getD k 0 := by
    intro k hk'
    unfold memF lPut
    rw [e0]
    by_cases hkn : k = w.next.toNat
    · subst hkn; rw [Sx.getD_set_self (by omega)]
    · rw [Sx.getD_set_ne (by omega)]
      exact hk k (by omega)
  refine ⟨⟨h.i8, by simp [lPut, hl], h.at', h.vl, h.vu, ?_, fun hq => ?_, fun hq => ⟨by rw [e, z], ?_, hm⟩, fun hq => ⟨by rw [e, z], fun k hk4 => ?_⟩, h.vok⟩, e, z⟩
  · simp only [wPut]; split
    · exact .inr (.inr rfl)
    · exact .inr (.inl rfl)
  · simp only [wPut] at hq; split at hq <;> cases hq
  · simp only [wPut, h.vl] at hq ⊢
    split at hq
    · cases hq
    · omega
  · simp only [wPut, h.vl] at hq
    split at hq
    · exact hm k (by omega)
    · cases hq
theorem wg_end {l : List Int} {w : Wr} {i : Nat} {was : List ByteArray} {wn : List Int} (h : WG l w i was wn) (hp : w.phase = 2) :
    WE (lInc w.at' l) (i + 1) was wn ∧ (lInc w.at' l).getD 0 0 = l.getD 0 0 + 1 := by
  obtain ⟨z, hk⟩ := h.p2 hp
  have hl := h.ll
  have hi := h.i8
  have e : (lInc w.at' l).getD 0 0 = l.getD 0 0 + 1 := by
    unfold lInc
    rw [h.at', show (0 : Int).toNat = 0 from rfl, Sx.getD_set_self (by omega), z]; omega
  refine ⟨⟨by omega, by simp [lInc, hl], by rw [e, z]; omega, h.vok.congr fun k hk4 => ?_⟩, e⟩
  unfold memF lInc
  rw [h.at', show (0 : Int).toNat = 0 from rfl, Sx.getD_set_ne (by omega)]
  exact hk k hk4
/-- a reader that hasn't read yet -/
structure RG (l : List Int) (x : Rd) (least i : Nat) : Prop where
  at' : x.at' = 0
  n : x.n = 4
  xl : x.l.length = 32
  got : x.got = false
  ph : x.phase = 0 ∨ x.phase = 1 ∨ x.phase = 2
  nx : x.phase = 1 → 0 ≤ x.next ∧ x.next < 4
  cc : x.phase ≠ 0 → x.count % 2 = 0 ∧ x.count ≤ l.getD 0 0
  dd : x.phase ≠ 0 → x.count = l.getD 0 0 → least = i ∧ ∀ k : Nat, k < 4 → (x.phase = 1 → (k : Int) < x.next) → x.l.getD k 0 = memF l k
theorem rg_step {l l' : List Int} {x : Rd} {least i i' : Nat} (h : RG l x least i) (hl : l'.getD 0 0 = l.getD 0 0 + 1 ∨ (l'.getD 0 0 = l.getD 0 0 ∧ l.getD 0 0 % 2 = 1)) : RG l' x least i' := by
  refine ⟨h.at', h.n, h.xl, h.got, h.ph, h.nx, fun hp => ?_, fun hp he => ?_⟩
  · have := h.cc hp; omega
  · have := h.cc hp; omega
theorem rg_ok {l : List Int} {x : Rd} {least i : Nat} (h : RG l x least i) (hl : l.length = 5) {c : Int} (hc : 0 ≤ c ∧ c ≤ 1000) (ht : 0 ≤ x.tries ∧ x.tries ≤ 1000) : ROk 5 l c x :=
  ⟨by rw [h.at']; omega, by rw [h.at', h.n]; omega, by omega, hl, by rw [h.n]; omega, by omega, by omega, h.got, by have := h.ph; omega, fun hp => by rw [h.n]; exact h.nx hp, h.xl⟩
/-- a step of it -/
theorem read_ok {l : List Int} {w : Wr} {x : Rd} {least i : Nat} {was : List ByteArray} {wn : List Int} (hw : WG l w i was wn) (h : RG l x least i) :
    ((rStep x l).got = false ∧ RG l (rStep x l) (if x.tries < (rStep x l).tries then i else least) i) ∨
    ((rStep x l).got = true ∧ (rStep x l).n = 4 ∧ Vok (fun k => (rStep x l).l.getD k 0) (was.getD i nilB) (wn.getD i 0) ∧ (if x.tries < (rStep x l).tries then i else least) = i) := by
  have e0 : x.at'.toNat = 0 := by rw [h.at']; rfl
  have hxl := h.xl
  rcases h.ph with hp | hp | hp
  · left
    by_cases hev : (l.getD 0 0).tmod 2 = 0
    · have hs : rStep x l = ⟨x.at', x.n, 0, 1, l.getD x.at'.toNat 0, x.l, false, x.tries + 1⟩ := by
        unfold rStep; rw [if_pos hp, e0, if_pos hev]
      rw [hs, e0]
      refine ⟨rfl, h.at', h.n, h.xl, rfl, .inr (.inl rfl), fun _ => by simp only; omega, fun _ => ⟨?_, by simp only; omega⟩, fun _ _ => ⟨?_, fun k _ hk => by have := hk rfl; simp only at this; omega⟩⟩
      · simp only
        have hi := hw.i8
        rcases hw.ph with q | q | q
        · have := (hw.p0 q).1; omega
        · have := (hw.p1 q).1; rw [this] at hev ⊢; rw [Int.tmod_eq_emod_of_nonneg (by omega)] at hev; omega
        · have := (hw.p2 q).1; rw [this] at hev ⊢; rw [Int.tmod_eq_emod_of_nonneg (by omega)] at hev; omega
      · rw [if_pos (by simp only; omega)]
    · have hs : rStep x l = x := by
        unfold rStep; rw [if_pos hp, e0, if_neg hev]
      rw [hs, if_neg (by omega)]
      exact ⟨h.got, h⟩
  · left
    have hn := h.nx hp
    have hs : rStep x l = ⟨x.at', x.n, x.next + 1, if x.next + 1 = x.n then 2 else 1, x.count, x.l.set x.next.toNat (l.getD (x.at' + (1 + x.next)).toNat 0), false, x.tries⟩ := by
      unfold rStep; rw [if_neg (by omega), if_pos hp]
    have ht : (rStep x l).tries = x.tries := by rw [hs]
    rw [ht, if_neg (Int.lt_irrefl _), hs]
    have e1 : (x.at' + (1 + x.next)).toNat = 1 + x.next.toNat := by rw [h.at']; omega
    refine ⟨rfl, h.at', h.n, by simp [hxl], rfl, ?_, fun hq => ?_, fun _ => h.cc (by omega), fun _ he => ?_⟩
    · simp only; split
      · exact .inr (.inr rfl)
      · exact .inr (.inl rfl)
    · simp only [h.n] at hq ⊢
      split at hq
      · cases hq
      · omega
    · obtain ⟨d1, d2⟩ := h.dd (by omega) he
      refine ⟨d1, fun k hk4 hk => ?_⟩
      simp only [e1]
      have hkn : (k : Int) < x.next + 1 := by
        by_cases h4 : x.next + 1 = x.n
        · rw [h.n] at h4; omega
        · exact hk (by simp only; rw [if_neg h4])
      by_cases hki : k = x.next.toNat
      · subst hki; rw [Sx.getD_set_self (by omega)]
      · rw [Sx.getD_set_ne (by omega)]
        exact d2 k hk4 fun _ => by omega
  · have hs : rStep x l = ⟨x.at', x.n, x.next, 0, x.count, x.l, l.getD x.at'.toNat 0 == x.count, x.tries⟩ := by
      unfold rStep; rw [if_neg (by omega), if_neg (by omega)]
    have ht : (rStep x l).tries = x.tries := by rw [hs]
    rw [ht, if_neg (Int.lt_irrefl _), hs, e0]
    cases hq : l.getD 0 0 == x.count with
    | false =>
      left
      exact ⟨rfl, h.at', h.n, h.xl, rfl, .inl rfl, (fun hh => by cases hh), fun hh => absurd rfl hh, fun hh => absurd rfl hh⟩
    | true =>
      right
      have he := beq_iff_eq.1 hq
      have hc := h.cc (by omega)
      obtain ⟨d1, d2⟩ := h.dd (by omega) he.symm
      refine ⟨rfl, h.n, ?_, d1⟩
      have hp0 : w.phase = 0 := by
        rcases hw.ph with q | q | q
        · exact q
        · have := (hw.p1 q).1; omega
        · have := (hw.p2 q).1; omega
      exact (hw.p0 hp0).2.congr fun k hk => d2 k hk fun hh => by omega
end Go.Proofs.YtfapadgpihpmhaaDoor

/- SlotWhole: a round between a writer and a reader. -/
namespace Go.Proofs.YtfapadgpihpmhaaDoor
open Go Go.Proofs.YtfapadgpihpmhaaDoor.Sx
set_option linter.unusedVariables false
abbrev Q6 (w0 : From) : Exit → Act → World → Prop := bodyPost Tryd.prog Tryd.f6 (Said w0)
abbrev v6s (q : InW) (a least n m i : Nat) (s : ByteArray) (t : Int) (f : Bool) (j : Nat) : List SVal := v6d q a least (.bl true) n m i ++ [.str s, .int .u32 t, .sb f] ++ [.int .i64 (j : Nat)]
theorem vok_str {xl : List Int} {s : ByteArray} {t : Int} (h : Vok (fun k => xl.getD k 0) s t) : strU (unpN (L32 xl) s.size s.size) = s := by
  have h8 := h.s8
  refine str_back fun j hj => byteU_ok (z := s.size) ?_ hj
  have e : (L32 xl).getD (2 + j / 4) 0 = xl.getD (2 + j / 4) 0 := by
    rw [List.getD_eq_getElem?_getD, List.getElem?_map, List.getElem?_range (by omega)]; rfl
  rw [e]
  have hq : j / 4 = 0 ∨ j / 4 = 1 := by omega
  rcases hq with hq | hq <;> rw [hq]
  · exact h.w0
  · exact h.w1
def over (q : InW) (a : Nat) : Prop := q.ps.length ≤ a ∨ 200 ≤ a
structure II (q : InW) (i : Nat) (was : List ByteArray) (wn : List Int) (a least : Nat) (dn : Bool) (l : List Int) (c : Int) (x : Rd) (w : Wr) (z : Int) : Prop where
  lw : was.length = i + 2
  ln : wn.length = i + 2
  i8 : i < 8
  a2 : a ≤ 200
  c : 0 ≤ c ∧ c ≤ (a : Int)
  ls : least ≤ 8
  tr : 0 ≤ x.tries ∧ x.tries ≤ (a : Int)
  z01 : z = 0 ∨ z = 1
  body : over q a ∨ (z = 0 ∧ WG l w i was wn ∧ dn = x.got ∧ (x.got = false → RG l x least i)) ∨ (z = 1 ∧ WE l (i + 1) was wn ∧ dn = x.got ∧ (x.got = false → RG l x least (i + 1)))
def InvI (w0 : From) (q : InW) (i : Nat) (was : List ByteArray) (wn : List Int) (k : Nat) (a : Act) (W : World) : Prop :=
  ∃ least dn l c x w z, II q i was wn k least dn l c x w z ∧ ∃ env, At [(0, 0)] w0 env (fr 210 n6i (v6i q k least dn was.length wn.length i)) (sI q l c x was wn w z) a W
abbrev RI (w0 : From) (q : InW) (i : Nat) (was : List ByteArray) (wn : List Int) (K : Exit → Act → World → Prop) (k : Nat) : Exit → Act → World → Prop :=
  Exit.then (fun a' w' => ∃ k', InvI w0 q i was wn k' a' w' ∧ 200 - k' < 200 - k) (Exit.inBlock 2 K)
theorem ri_next {w0 : From} {q : InW} {i : Nat} {was : List ByteArray} {wn : List Int} {K : Exit → Act → World → Prop} {k least : Nat} (hk : k < 200) {dn : Bool} {l : List Int} {c : Int} {x : Rd} {w : Wr} {z : Int} (h : II q i was wn (k + 1) least dn l c x w z)
    {env : Env} {a : Act} {W : World} (hA : At [(0, 0)] w0 env (fr 210 n6i (v6i q (k + 1) least dn was.length wn.length i)) (sI q l c x was wn w z) a W) : RI w0 q i was wn K k .normal a W := by
  simp only [RI, Exit.then]
  exact ⟨k + 1, ⟨least, dn, l, c, x, w, z, h, env, hA⟩, by omega⟩
set_option maxHeartbeats 1000000 in
/-- the version that was read is found -/
theorem srch_ok {w0 : From} {q : InW} {i : Nat} {was : List ByteArray} {wn : List Int} {K : Exit → Act → World → Prop} {k least : Nat} (hk : k < 200) {l : List Int} {c : Int} {x : Rd} {w : Wr} (hx : x.got = true) (h : II q i was wn (k + 1) least true l c x w 0) (hls : least ≤ i) {s : ByteArray} {t : Int} (hs : was.getD i nilB = s) (ht : wn.getD i 0 = t)
    {env : Env} {a : Act} {W : World} (hA : At [(0, 0)] w0 env (fr 210 n6j (v6d q (k + 1) least (.bl true) was.length wn.length i ++ [.str s, .int .u32 t, .sb false])) (sIt q l c x was wn w 0) a W) : srch.wp Tryd.prog (Exit.inBlock 3 (RI w0 q i was wn K k)) a W := by
  have hlw := h.lw
  have hln := h.ln
  have hi8 := h.i8
  refine wpS (by kernel_rfl) (wpS (by kernel_rfl) ?_)
  refine pieceT0 (c := cfgM) cfgM_ok n6k s_reg hA (all_ret fun env2 a2 w2 hA2 => ?_)
  simp only [Ex.to, Exit.then]
  refine wpB 4 (by kernel_rfl) (wpL (by kernel_rfl) (fun (j : Nat) a' w' => (j ≤ was.length ∧ (least ≤ j ∧ True)) ∧ ∃ found, (i < j → found = true) ∧ ∃ env', At [(0, 0)] w0 env' (fr 210 n6k (v6s q (k + 1) least was.length wn.length i s t found j)) (sIt q l c x was wn w 0) a' w') (fun (j : Nat) => was.length - j) least ⟨⟨by omega, Nat.le_refl _, trivial⟩, false, fun hh => by omega, env2, hA2⟩ ?_)
  rintro j a' w' ⟨⟨hj, hlj, _⟩, found, hf, env', hA⟩
  refine (show round4.wp _ _ _ _ from wpS (by kernel_rfl) ?_)
  refine pieceT0 (c := cfgM) cfgM_ok n6k s_tm hA ?_
  refine all_brp (by simp only [decide_eq_true_eq] <;> exact Iff.rfl) (fun h6 => all_ret fun env1 a1 w1 hA1 => ?_) (fun h6 => all_ret fun env1 a1 w1 hA1 => ?_)
  · simp only [Ex.to, Exit.then]
    have hj' : j < was.length := by omega
    refine (show (rgt round4).wp _ _ _ _ from wpS (by kernel_rfl) (wpB 5 (by kernel_rfl) ?_))
    refine (show bb4.wp _ _ _ _ from ?_)
    refine pieceT0 (c := cfgM) cfgM_ok n6k s_bb hA1 ?_
    simp only [Int.toNat_natCast]
    have fin : ∀ {f' : Bool}, (i < j + 1 → f' = true) → ∀ {env' : Env} {a' : Act} {w' : World}, At [(0, 0)] w0 env' (fr 210 n6k (v6s q (k + 1) least was.length wn.length i s t f' j)) (sIt q l c x was wn w 0) a' w' →
        Exit.inBlock 5 (Exit.then (inc4.wp Tryd.prog (Exit.then (fun a' w' => ∃ k', ((k' ≤ was.length ∧ (least ≤ k' ∧ True)) ∧ ∃ found, (i < k' → found = true) ∧ ∃ env', At [(0, 0)] w0 env' (fr 210 n6k (v6s q (k + 1) least was.length wn.length i s t found k')) (sIt q l c x was wn w 0) a' w') ∧ was.length - k' < was.length - j) (Exit.inBlock 4 (Exit.then (end4.wp Tryd.prog (Exit.inBlock 3 (RI w0 q i was wn K k))) (Exit.inBlock 3 (RI w0 q i was wn K k))))))
          (Exit.then (fun a' w' => ∃ k', ((k' ≤ was.length ∧ (least ≤ k' ∧ True)) ∧ ∃ found, (i < k' → found = true) ∧ ∃ env', At [(0, 0)] w0 env' (fr 210 n6k (v6s q (k + 1) least was.length wn.length i s t found k')) (sIt q l c x was wn w 0) a' w') ∧ was.length - k' < was.length - j) (Exit.inBlock 4 (Exit.then (end4.wp Tryd.prog (Exit.inBlock 3 (RI w0 q i was wn K k))) (Exit.inBlock 3 (RI w0 q i was wn K k)))))) .normal a' w' := by
      intro f' hf' env' a' w' h'
      simp only [Exit.inBlock, Exit.then]
      refine pieceT0 (c := cfgM) cfgM_ok n6k s_inc h' ?_
      refine all_needp (by simp only [inR_i64]; exact Iff.rfl) (by omega) fun _ => all_ret fun env'' a'' w'' hA' => ?_
      exact ⟨j + 1, ⟨⟨by omega, by omega, trivial⟩, f', hf', env'', hA'⟩, by omega⟩
    refine all_br (fun h7 => all_ret fun _ _ _ h' => fin (fun _ => rfl) (h'.gvals _ rfl)) (fun h7 => ?_)
    have hnj : ¬ i < j := fun hh => by rw [hf hh] at h7; cases h7
    refine all_needq (by simp only [decide_eq_true_eq, Bool.and_eq_true]; exact Iff.rfl) (by omega) ?_
    refine all_needq (by simp only [decide_eq_true_eq]; exact Iff.rfl) (by omega) ?_
    have hws : i < j + 1 → was.getD j nilB = s := by
      intro hh
      have : j = i := by omega
      subst this; exact hs
    refine all_brp (by rw [strEq_iff]) (fun h8 => ?_) (fun h8 => all_ret fun _ _ _ h' => fin (fun hh => absurd (hws hh) h8) (h'.gvals _ rfl))
    refine all_needq (by simp only [decide_eq_true_eq, Bool.and_eq_true]; exact Iff.rfl) (by omega) ?_
    refine all_needq (by simp only [decide_eq_true_eq]; exact Iff.rfl) (by omega) ?_
    exact all_ret fun _ _ _ h' => fin (fun hh => by
      have : j = i := by omega
      subst this; rw [ht, beq_self_eq_true]) h'
  · simp only [Ex.to, Exit.then, Exit.inBlock, if_true]
    have hjl : j = was.length := by omega
    have hft := hf (by omega)
    refine (show end4.wp _ _ _ _ from ?_)
    refine pieceT0 (c := cfgM) cfgM_ok n6i s_end hA1 ?_
    refine all_br (fun hh => by rw [hft] at hh; cases hh) (fun _ => all_ret fun env3 a3 w3 hA3 => ?_)
    simp only [Ex.to, Exit.inBlock]
    obtain ⟨at', n, next, phase, count, xl, got, tries⟩ := x
    simp only at hx
    subst hx
    have hA4 : At [(0, 0)] w0 env3 (fr 210 n6i (v6i q (k + 1) least true was.length wn.length i)) (sI q l c ⟨at', n, next, phase, count, xl, true, tries⟩ was wn w 0) a3 w3 := hA3.gvals _ rfl
    exact ri_next hk h hA4
end Go.Proofs.YtfapadgpihpmhaaDoor

/- SlotWhole: a round between a writer and a reader, its walk. -/
namespace Go.Proofs.YtfapadgpihpmhaaDoor
open Go Go.Proofs.YtfapadgpihpmhaaDoor.Sx
set_option linter.unusedVariables false
theorem rs_tries (x : Rd) (l : List Int) : x.tries ≤ (rStep x l).tries ∧ (rStep x l).tries ≤ x.tries + 1 := by
  unfold rStep
  split
  · split
    · simp only; omega
    · omega
  · split
    · simp only; omega
    · simp only; omega
/-- one pick more -/
theorem ii_next {q : InW} {i : Nat} {was : List ByteArray} {wn : List Int} {k least : Nat} {dn : Bool} {l : List Int} {c : Int} {x : Rd} {w : Wr} {z : Int} (h : II q i was wn k least dn l c x w z) (hk : k < 200) {least' : Nat} {dn' : Bool} {l' : List Int} {c' : Int} {x' : Rd} {w' : Wr} {z' : Int}
    (hc : c' = c ∨ c' = c + 1) (hl : least' ≤ 8) (ht : 0 ≤ x'.tries ∧ x'.tries ≤ (k : Int) + 1) (hz : z' = 0 ∨ z' = 1)
    (hb : (z' = 0 ∧ WG l' w' i was wn ∧ dn' = x'.got ∧ (x'.got = false → RG l' x' least' i)) ∨ (z' = 1 ∧ WE l' (i + 1) was wn ∧ dn' = x'.got ∧ (x'.got = false → RG l' x' least' (i + 1)))) : II q i was wn (k + 1) least' dn' l' c' x' w' z' :=
  ⟨h.lw, h.ln, h.i8, by omega, by have := h.c; push_cast; omega, hl, by push_cast; omega, hz, .inr hb⟩
set_option maxHeartbeats 2000000 in
theorem st_ok {w0 : From} {q : InW} {i : Nat} {was : List ByteArray} {wn : List Int} {K : Exit → Act → World → Prop} {k least : Nat} (hk : k < 200) {dn : Bool} {l : List Int} {c : Int} {x x0 : Rd} {w : Wr} (h : II q i was wn k least dn l c x0 w 0) (hw : WG l w i was wn) (hr : RG l x least i) (ht : 0 ≤ x.tries ∧ x.tries ≤ (k : Int)) {d : SVal}
    {env : Env} {a : Act} {W : World} (hA : At [(0, 0)] w0 env (fr 210 n6i (v6d q (k + 1) least d was.length wn.length i)) (sI q l c x was wn w 0) a W) : (restC 3 bb2).wp Tryd.prog (Exit.inBlock 3 (RI w0 q i was wn K k)) a W := by
  have hc := h.c
  have hi8 := h.i8
  have hro := read_ok hw hr
  have htr := rs_tries x l
  refine pieceNT0 (c := cfgRs q l c x was wn w 0) cfgRs_ok 3 n6i i_step hA ?_
  refine all_eq ⟨by first | exact True.intro | rfl, by first | exact True.intro | rfl, rg_ok hr hw.ll (by omega) (by omega)⟩ ?_
  have main : ∀ {least' : Nat}, least' = (if x.tries < (rStep x l).tries then i else least) → ∀ {env1 : Env} {a1 : Act} {w1 : World}, At [(0, 0)] w0 env1 (fr 210 n6i (v6d q (k + 1) least' (.sb (rStep x l).got) was.length wn.length i)) (sI q l (c + 1) (rStep x l) was wn w 0) a1 w1 → (restC 6 bb2).wp Tryd.prog (Exit.inBlock 3 (RI w0 q i was wn K k)) a1 w1 := by
    intro least' hle env1 a1 w1 hA1
    have hl8 : least' ≤ 8 := by rw [hle]; have := h.ls; split <;> omega
    rw [← hle] at hro
    generalize rStep x l = x' at *
    obtain ⟨at', n, next, phase, count, xl, got, tries⟩ := x'
    simp only at hro htr
    rcases hro with ⟨g1, g2⟩ | ⟨g1, g2, g3, g4⟩
    · subst g1
      have hA2 := (hA1.gvals (v6d q (k + 1) least' (.bl false) was.length wn.length i) rfl).gen (st' := memS 5 l (c + 1) ++ ([.own [.c (.ptr 4 0), .c (.int .i64 8)] 63, .own [.c (.int .i64 at'), .c (.int .i64 n), .c (.int .i64 next), .c (.int .i64 phase), .c (.int .u32 count), .a (encInt .u32) 32 xl, .c (.bl false), .c (.int .i64 tries)] 99] ++ (tailW q was wn ++ putW 10 w 0))) rfl
      refine pieceNT0 (c := cfgM) cfgM_ok 3 n6i (i_msg0 (x := ⟨at', n, next, phase, count, xl, false, tries⟩)) hA2 ?_
      refine all_ret fun env2 a2 w2 hA3 => ?_
      simp only [Ex.to, Exit.inBlock, Exit.then, if_true]
      have hA4 : At [(0, 0)] w0 env2 (fr 210 n6i (v6i q (k + 1) least' false was.length wn.length i)) (sI q l (c + 1) ⟨at', n, next, phase, count, xl, false, tries⟩ was wn w 0) a2 w2 := (hA3.gvals (v6i q (k + 1) least' false was.length wn.length i) rfl).gen rfl
      exact ri_next (K := K) hk (ii_next h hk (.inr rfl) hl8 (by simp only; omega) (.inl rfl) (.inl ⟨rfl, hw, rfl, fun _ => g2⟩)) hA4
    · subst g1
      have hs8 := g3.s8
      have hm : imin (xl.getD 1 0) 8 = ((was.getD i nilB).size : Int) := by
        have e1 : xl.getD 1 0 = ((was.getD i nilB).size : Int) := g3.z
        rw [e1]; unfold imin; split <;> omega
      have hA2 : At [(0, 0)] w0 env1 (fr 210 n6i (v6d q (k + 1) least' (.bl true) was.length wn.length i)) (sIt q l (c + 1) ⟨at', n, next, phase, count, xl, true, tries⟩ was wn w 0) a1 w1 := hA1.gvals _ rfl
      refine pieceNT0 (c := cfgMg q l (c + 1) ⟨at', n, next, phase, count, xl, true, tries⟩ was wn w 0 (was.getD i nilB).size) cfgMg_ok 4 n6j i_msg1 hA2 ?_
      refine all_eq ⟨by first | exact True.intro | rfl, by first | exact True.intro | rfl, g2, hm, hs8⟩ ?_
      have hst := vok_str g3
      have htk : xl.getD 0 0 = wn.getD i 0 := g3.t
      simp only [hst, htk]
      refine all_ret fun env2 a2 w2 hA3 => ?_
      simp only [Ex.to, Exit.then]
      have hA4 : At [(0, 0)] w0 env2 (fr 210 n6j (v6d q (k + 1) least' (.bl true) was.length wn.length i ++ [.str (was.getD i nilB), .int .u32 (wn.getD i 0), .sb false])) (sIt q l (c + 1) ⟨at', n, next, phase, count, xl, true, tries⟩ was wn w 0) a2 w2 := hA3.gvals _ rfl
      exact (show srch.wp Tryd.prog (Exit.inBlock 3 (RI w0 q i was wn K k)) a2 w2 from srch_ok hk rfl (ii_next h hk (.inr rfl) hl8 (by simp only; omega) (.inl rfl) (.inl ⟨rfl, hw, rfl, fun hh => by cases hh⟩)) (by omega) rfl rfl hA4)
  refine all_brp (by simp only [decide_eq_true_eq] <;> exact Iff.rfl) (fun h1 => ?_) (fun h1 => ?_)
  · refine all_needq (by simp only [inR_i64]; exact Iff.rfl) (by omega) ?_
    refine all_ret fun env1 a1 w1 hA1 => ?_
    simp only [Ex.to, Exit.then]
    have e : (i : Int) + 0 = (i : Nat) := by omega
    rw [e] at hA1
    exact main (least' := i) (by rw [if_pos h1]) hA1
  · refine all_ret fun env1 a1 w1 hA1 => ?_
    simp only [Ex.to, Exit.then]
    exact main (least' := least) (by rw [if_neg h1]) hA1
end Go.Proofs.YtfapadgpihpmhaaDoor

/- SlotWhole: a round between a writer and a reader, whole. -/
namespace Go.Proofs.YtfapadgpihpmhaaDoor
open Go Go.Proofs.YtfapadgpihpmhaaDoor.Sx
set_option linter.unusedVariables false
abbrev rd0 : Rd := ⟨0, 4, 0, 0, 0, List.replicate 32 0, false, 0⟩
theorem rg_new {l : List Int} {least i : Nat} : RG l rd0 least i :=
  ⟨rfl, rfl, by simp, rfl, .inl rfl, (fun h => by cases h), fun h => absurd rfl h, fun h => absurd rfl h⟩
set_option maxHeartbeats 2000000 in
theorem rd_ok {w0 : From} {q : InW} {i : Nat} {was : List ByteArray} {wn : List Int} {K : Exit → Act → World → Prop} {k least : Nat} (hk : k < 200) {dn : Bool} {l : List Int} {c : Int} {x : Rd} {w : Wr} (h : II q i was wn k least dn l c x w 0) (hw : WG l w i was wn) (hd : dn = x.got) (hr : x.got = false → RG l x least i)
    {env : Env} {a : Act} {W : World} (hA : At [(0, 0)] w0 env (fr 210 n6i (v6i q (k + 1) least dn was.length wn.length i)) (sI q l c x was wn w 0) a W) : (restC 2 bb2).wp Tryd.prog (Exit.inBlock 3 (RI w0 q i was wn K k)) a W := by
  cases dn with
  | false =>
    have hA1 : At [(0, 0)] w0 env (fr 210 n6i (v6d q (k + 1) least (.bl false) was.length wn.length i)) (sI q l c x was wn w 0) a W := hA.gvals _ rfl
    refine pieceNT0 (c := cfgM) cfgM_ok 1 n6i i_ren0 hA1 ?_
    refine all_ret fun env2 a2 w2 hA2 => ?_
    simp only [Ex.to, Exit.then]
    exact (show (restC 3 bb2).wp Tryd.prog (Exit.inBlock 3 (RI w0 q i was wn K k)) a2 w2 from st_ok hk h hw (hr hd.symm) h.tr hA2)
  | true =>
    have hA1 : At [(0, 0)] w0 env (fr 210 n6i (v6d q (k + 1) least (.bl true) was.length wn.length i)) (sI q l c x was wn w 0) a W := hA.gvals _ rfl
    refine pieceNT0 (c := cfgM) cfgM_ok 1 n6i i_ren1 hA1 ?_
    refine all_need rfl fun _ => all_ret fun env2 a2 w2 hA2 => ?_
    simp only [Ex.to, Exit.then]
    have hA3 := hA2.perm [0, 1, 2, 6, 7, 3, 4, 5, 8, 9, 10, 11, 12, 13] (by kernel_rfl) (by kernel_rfl) (st' := memS 5 l c ++ ([.own [.c (.ptr 4 0), .c (.lit .i64 8)] 63, .own ([.c (.lit .i64 0), .c (.lit .i64 4), .c (.lit .i64 0), .c (.lit .i64 0)] ++ List.replicate 33 (.c (.lit .u32 0)) ++ [.c (.bl false), .c (.lit .i64 0)]) 99] ++ (tailW q was wn ++ putW 10 w 0))) (vals' := v6d q (k + 1) least (.bl true) was.length wn.length i) (by kernel_rfl) (by kernel_rfl)
    have hA4 := hA3.segs 4 (l' := [.c (.int .i64 0), .c (.int .i64 4), .c (.int .i64 0), .c (.int .i64 0), .c (.int .u32 0), .a (encInt .u32) 32 (List.replicate 32 0), .c (.sb false), .c (.int .i64 0)]) rfl (by
      intro s hs
      simp only [List.mem_cons, List.not_mem_nil, or_false] at hs
      rcases hs with rfl | rfl | rfl | rfl | rfl | rfl | rfl | rfl <;> first | trivial | rfl) (fun cs h => denL_gen2 (by kernel_rfl) h)
    have hA5 : At [(0, 0)] w0 _ (fr 210 n6i (v6d q (k + 1) least (.bl true) was.length wn.length i)) (sI q l c rd0 was wn w 0) a2 w2 := hA4.gen rfl
    exact (show (restC 3 bb2).wp Tryd.prog (Exit.inBlock 3 (RI w0 q i was wn K k)) a2 w2 from st_ok hk h hw rg_new (by simp only; omega) hA5)
set_option maxHeartbeats 2000000 in
theorem roundI_ok {w0 : From} {q : InW} {i : Nat} {was : List ByteArray} {wn : List Int} {K : Exit → Act → World → Prop}
    (hK : ∀ {k least : Nat} {dn : Bool} {l : List Int} {c : Int} {x : Rd} {w : Wr} {z : Int}, II q i was wn k least dn l c x w z → (over q k ∨ z = 1) → ∀ {env : Env} {a : Act} {W : World}, At [(0, 0)] w0 env (fr 210 n6i (v6i q k least dn was.length wn.length i)) (sI q l c x was wn w z) a W → K .normal a W)
    {k : Nat} {a : Act} {W : World} (h : InvI w0 q i was wn k a W) : round2.wp Tryd.prog (RI w0 q i was wn K k) a W := by
  obtain ⟨least, dn, l, c, x, w, z, hI, env, hA⟩ := h
  rcases hI.z01 with rfl | rfl
  · have out : over q k → ∀ {env : Env} {a : Act} {W : World}, At [(0, 0)] w0 env (fr 210 n6i (v6i q k least dn was.length wn.length i)) (sI q l c x was wn w 0) a W → RI w0 q i was wn K k (.exit 2) a W := by
      intro ho env a W h'
      simp only [RI, Exit.then, Exit.inBlock, if_true]
      exact hK hI (.inl ho) h'
    refine wpS (by kernel_rfl) ?_
    refine pieceT0 (c := cfgM) cfgM_ok n6i i_tm0 hA ?_
    refine all_brp (by simp only [decide_eq_true_eq] <;> exact Iff.rfl) (fun h1 => ?_) (fun h1 => all_ret fun _ _ _ h => out (.inl (by omega)) h)
    refine all_brp (by simp only [decide_eq_true_eq] <;> exact Iff.rfl) (fun h2 => all_ret fun env1 a1 w1 hA1 => ?_) (fun h2 => all_ret fun _ _ _ h => out (.inr (by omega)) h)
    simp only [Ex.to, Exit.then]
    have hk : k < 200 := by omega
    have hno : ¬ over q k := by rintro (h | h) <;> omega
    have hb : WG l w i was wn ∧ dn = x.got ∧ (x.got = false → RG l x least i) := by
      rcases hI.body with h | ⟨_, h⟩ | ⟨h, _⟩
      · exact absurd h hno
      · exact h
      · cases h
    obtain ⟨hw, hd, hr⟩ := hb
    refine (show (rgt round2).wp Tryd.prog (RI w0 q i was wn K k) a1 w1 from wpB 3 (by kernel_rfl) ?_)
    refine (show bb2.wp Tryd.prog (Exit.inBlock 3 (RI w0 q i was wn K k)) a1 w1 from ?_)
    have hc := hI.c
    have hok := wg_ok hw (c := c) (by omega)
    have go : ∀ {l' : List Int} {w' : Wr} {z' : Int} {b : Bool}, (∀ (env : Env) (W : World) (vs : List Value), GlOk cfgM.gl env → Rep env (sW 5 l c w) W → DenL env [.ptr 4 0, .ptr 2 0] vs → Calls cfgM.P 16 ⟨vs⟩ W (Ends1 env (sW 5 l c w) W (.bl b) (memS 5 l' (c + 1) ++ putW 3 w' z'))) →
        II q i was wn (k + 1) least dn l' (c + 1) x w' z' → bb2.wp Tryd.prog (Exit.inBlock 3 (RI w0 q i was wn K k)) a1 w1 := by
      intro l' w' z' b hC hII
      refine pieceNT0 (c := cfgWs (sI q l c x was wn w 0) (sI q l' (c + 1) x was wn w' z') b True) (cfgWs_ok fun _ => stepI hC) 2 n6i i_pick hA1 ?_
      refine all_needq (by simp only [inR_i64]; exact Iff.rfl) (by omega) ?_
      refine all_needq (by simp only [inR_i64]; exact Iff.rfl) (by omega) ?_
      refine all_needq (by simp only [decide_eq_true_eq, Bool.and_eq_true]; exact Iff.rfl) (by omega) ?_
      refine all_needq (by simp only [decide_eq_true_eq]; exact Iff.rfl) (by omega) ?_
      refine all_br (fun _ => ?_) (fun _ => ?_)
      · refine all_eq ⟨by first | exact True.intro | rfl, by first | exact True.intro | rfl, trivial⟩ ?_
        refine all_ret fun env2 a2 w2 hA2 => ?_
        simp only [Ex.to, Exit.inBlock, Exit.then, if_true]
        exact ri_next (K := K) hk hII hA2
      · refine all_ret fun env2 a2 w2 hA2 => ?_
        simp only [Ex.to, Exit.then]
        exact (show (restC 2 bb2).wp Tryd.prog (Exit.inBlock 3 (RI w0 q i was wn K k)) a2 w2 from rd_ok hk hI hw hd hr hA2)
    rcases hw.ph with hp | hp | hp
    · obtain ⟨g1, g2⟩ := wg_begin hw hp
      exact go (w_begin hok hp) (ii_next hI hk (.inr rfl) hI.ls (by have := hI.tr; omega) (.inl rfl) (.inl ⟨rfl, g1, hd, fun hg => rg_step (hr hg) (.inl g2)⟩))
    · obtain ⟨g1, g2, g3⟩ := wg_word hw hp
      have hn := (hw.p1 hp).2.1
      exact go (w_word hok hp (by rw [hw.vl]; omega)) (ii_next hI hk (.inr rfl) hI.ls (by have := hI.tr; omega) (.inl rfl) (.inl ⟨rfl, g1, hd, fun hg => rg_step (hr hg) (.inr ⟨g2, by omega⟩)⟩))
    · obtain ⟨g1, g2⟩ := wg_end hw hp
      exact go (w_end hok hp) (ii_next hI hk (.inr rfl) hI.ls (by have := hI.tr; omega) (.inr rfl) (.inr ⟨rfl, g1, hd, fun hg => rg_step (hr hg) (.inl g2)⟩))
  · refine wpS (by kernel_rfl) ?_
    refine pieceT0 (c := cfgM) cfgM_ok n6i i_tm1 hA ?_
    refine all_ret fun env1 a1 w1 hA1 => ?_
    simp only [Ex.to, Exit.then, RI, Exit.inBlock, if_true]
    exact hK hI (.inr rfl) hA1
theorem blk2_ok {w0 : From} {q : InW} {i : Nat} {was : List ByteArray} {wn : List Int} {K : Exit → Act → World → Prop}
    (hK : ∀ {k least : Nat} {dn : Bool} {l : List Int} {c : Int} {x : Rd} {w : Wr} {z : Int}, II q i was wn k least dn l c x w z → (over q k ∨ z = 1) → ∀ {env : Env} {a : Act} {W : World}, At [(0, 0)] w0 env (fr 210 n6i (v6i q k least dn was.length wn.length i)) (sI q l c x was wn w z) a W → K .normal a W)
    {k : Nat} {a : Act} {W : World} (h : InvI w0 q i was wn k a W) : blk2.wp Tryd.prog K a W := by
  refine wpB 2 (by kernel_rfl) (wpL (by kernel_rfl) (InvI w0 q i was wn) (fun k => 200 - k) k h ?_)
  intro k a w h'
  exact roundI_ok hK h'
end Go.Proofs.YtfapadgpihpmhaaDoor

/- SlotWhole: its rounds, message by message. -/
namespace Go.Proofs.YtfapadgpihpmhaaDoor
open Go Go.Proofs.YtfapadgpihpmhaaDoor.Sx
set_option linter.unusedVariables false
theorem verP_getW {q : PutI} (h : PutOk q) {k : Nat} (hk : k < four q.n) : (verP q).getD (2 + k) 0 = ((wN q.s q.s.size k : Nat) : Int) := by
  have hf := four_le h.n
  have hs := h.s
  have hn := h.n
  have h1 : (verP q).getD (2 + k) 0 = (l8 (packN q.s q.s.size)).getD k 0 := by
    unfold verP
    rw [List.getD_eq_getElem?_getD, List.getD_eq_getElem?_getD, List.getElem?_append_right (by simp)]
    simp only [List.length_cons, List.length_nil]
    rw [show 2 + k - (0 + 1 + 1) = k by omega, List.getElem?_take, if_pos hk]
  have h2 : (l8 (packN q.s q.s.size)).getD k 0 = (packN q.s q.s.size).getD k 0 := by
    have hq : k = 0 ∨ k = 1 ∨ k = 2 ∨ k = 3 ∨ k = 4 ∨ k = 5 ∨ k = 6 ∨ k = 7 := by omega
    rcases hq with rfl | rfl | rfl | rfl | rfl | rfl | rfl | rfl <;> rfl
  rw [h1, h2]
  exact packN_w q.s _ (by omega) k (by omega)
theorem u32s_verW {q : PutI} (h : PutOk q) (ht : 0 ≤ q.tick ∧ q.tick < 4294967296) : U32s (verP q) := by
  have hs := h.s
  have hn := h.n
  have hw : ∀ k, k < 8 → 0 ≤ (packN q.s q.s.size).getD k 0 ∧ (packN q.s q.s.size).getD k 0 < 4294967296 := by
    intro k hk
    rw [packN_w q.s _ (by omega) k hk]
    have f0 := fN_lt q.s q.s.size k 0
    have f1 := fN_lt q.s q.s.size k 1
    have f2 := fN_lt q.s q.s.size k 2
    have f3 := fN_lt q.s q.s.size k 3
    unfold wN
    omega
  intro x hx
  unfold verP at hx
  rcases List.mem_append.1 hx with hx | hx
  · simp only [List.mem_cons, List.not_mem_nil, or_false] at hx
    rcases hx with rfl | rfl
    · exact ht
    · omega
  · have hx := List.mem_of_mem_take hx
    simp only [List.mem_cons, List.not_mem_nil, or_false] at hx
    rcases hx with rfl | rfl | rfl | rfl | rfl | rfl | rfl | rfl
    · exact hw 0 (by omega)
    · exact hw 1 (by omega)
    · exact hw 2 (by omega)
    · exact hw 3 (by omega)
    · exact hw 4 (by omega)
    · exact hw 5 (by omega)
    · exact hw 6 (by omega)
    · exact hw 7 (by omega)
structure OI (q : InW) (i : Nat) (was : List ByteArray) (wn : List Int) (a least : Nat) (dn : Bool) (l : List Int) (c : Int) (x : Rd) : Prop where
  lw : was.length = i + 1
  ln : wn.length = i + 1
  i8 : i ≤ 8
  im : i ≤ q.ms.length
  a2 : a ≤ 200
  c : 0 ≤ c ∧ c ≤ (a : Int)
  ls : least ≤ 8
  tr : 0 ≤ x.tries ∧ x.tries ≤ (a : Int)
  body : over q a ∨ (WE l i was wn ∧ dn = x.got ∧ (x.got = false → RG l x least i))
def InvO (w0 : From) (q : InW) (i : Nat) (a : Act) (W : World) : Prop :=
  ∃ was wn k least dn l c x, OI q i was wn k least dn l c x ∧ ∃ env, At [(0, 0)] w0 env (fr 210 n6a (v6a q k least dn was.length wn.length i)) (sO q l c x was wn) a W
abbrev RO (w0 : From) (q : InW) (i : Nat) : Exit → Act → World → Prop :=
  Exit.then (fun a' w' => ∃ k, InvO w0 q k a' w' ∧ 8 - k < 8 - i) (Exit.inBlock 0 (Exit.then (end6.wp Tryd.prog (Q6 w0)) (Q6 w0)))
abbrev KO (w0 : From) (q : InW) (i : Nat) : Exit → Act → World → Prop := Exit.inBlock 1 (Exit.then (inc6.wp Tryd.prog (RO w0 q i)) (RO w0 q i))
theorem getD_appW {α : Type} {l : List α} {x : α} {i : Nat} (h : i < l.length) (d : α) : (l ++ [x]).getD i d = l.getD i d := by
  simp [List.getD_eq_getElem?_getD, List.getElem?_append_left h]
theorem getD_endW {α : Type} {l : List α} {x : α} {i : Nat} (h : i = l.length) (d : α) : (l ++ [x]).getD i d = x := by
  subst h; simp [List.getD_eq_getElem?_getD]
theorem vok_ver {s : ByteArray} {t : Int} (h : PutOk ⟨0, 8, s, t⟩) : Vok (fun k => (verP ⟨0, 8, s, t⟩).getD k 0) s t :=
  ⟨rfl, rfl, by have := h.s.2; simp only at this; omega, verP_getW h (k := 0) (by show 0 < four 8; decide), verP_getW h (k := 1) (by show 1 < four 8; decide)⟩
theorem inc_ok {w0 : From} {q : InW} {i : Nat} (hm : i < q.ms.length) {was : List ByteArray} {wn : List Int} {k least : Nat} {dn : Bool} {l : List Int} {c : Int} {x : Rd} {w : Wr} {z : Int} (h : II q i was wn k least dn l c x w z) (hz : over q k ∨ z = 1)
    {env : Env} {a : Act} {W : World} (hA : At [(0, 0)] w0 env (fr 210 n6i (v6i q k least dn was.length wn.length i)) (sI q l c x was wn w z) a W) : KO w0 q i .normal a W := by
  have hi8 := h.i8
  simp only [KO, Exit.inBlock, Exit.then]
  refine pieceT0 (c := cfgM) cfgM_ok n6a a_inc hA ?_
  refine all_needp (by simp only [inR_i64]; exact Iff.rfl) (by omega) fun _ => all_ret fun env1 a1 w1 hA1 => ?_
  refine ⟨i + 1, ⟨was, wn, k, least, dn, l, c, x, ⟨h.lw, h.ln, by omega, by omega, h.a2, h.c, h.ls, h.tr, ?_⟩, env1, hA1⟩, by omega⟩
  rcases h.body with hb | ⟨hb, _⟩ | ⟨_, hb⟩
  · exact .inl hb
  · rcases hz with hz | hz
    · exact .inl hz
    · rw [hb] at hz; cases hz
  · exact .inr hb
set_option maxHeartbeats 2000000 in
theorem next_ok {w0 : From} {q : InW} {i : Nat} (hi : i < 8) (hm : i < q.ms.length) {was : List ByteArray} {wn : List Int} {k least : Nat} {dn : Bool} {l : List Int} {c : Int} {x : Rd} (h : OI q i was wn k least dn l c x) {s : ByteArray} {t : Int} (hs : 1 ≤ s.size ∧ s.size ≤ 8) (ht : 0 ≤ t ∧ t < 4294967296)
    {env : Env} {a : Act} {W : World} (hA : At [(0, 0)] w0 env (fr 210 n6b (v6b q k least dn was.length wn.length i s t)) (sO q l c x was wn) a W) : (restC 4 bb6).wp Tryd.prog (KO w0 q i) a W := by
  have hput : PutOk ⟨0, 8, s, t⟩ := ⟨by simp only; omega, by simp only; omega⟩
  have hlw := h.lw
  have hln := h.ln
  have hl4 : (verP ⟨0, 8, s, t⟩).length = 4 := verP_len hput
  refine pieceNT0 (c := cfgP (sO q l c x was wn) s t) cfgP_ok 2 n6c a_put hA ?_
  refine all_eq ⟨by first | exact True.intro | rfl, by first | exact True.intro | rfl, hput⟩ ?_
  refine all_ret fun env1 a1 w1 hA1 => ?_
  simp only [Ex.to, Exit.then]
  have hA2 : At [(0, 0)] w0 env1 (fr 210 n6c (v6b q k least dn was.length wn.length i s t ++ [.ptr 10 0])) (sI q l c x was wn (w0P ⟨0, 8, s, t⟩) 0) a1 w1 := hA1.gen rfl
  refine (show (restC 6 bb6).wp Tryd.prog (KO w0 q i) a1 w1 from ?_)
  refine pieceNT0 (c := cfgM) cfgM_ok 1 n6i a_app hA2 ?_
  refine all_need rfl fun _ => ?_
  refine all_need (decide_eq_true rfl) fun _ => ?_
  refine all_needq (by simp only [roomy_iff]; exact Iff.rfl) (by omega) ?_
  refine all_need rfl fun _ => ?_
  refine all_need (decide_eq_true rfl) fun _ => ?_
  refine all_needq (by simp only [roomy_iff]; exact Iff.rfl) (by omega) ?_
  refine all_ret fun env2 a2 w2 hA3 => ?_
  simp only [Ex.to, Exit.then]
  have e1 : (was ++ [s]).length = was.length + 1 := by simp
  have e2 : (wn ++ [t]).length = wn.length + 1 := by simp
  have hA4 : At [(0, 0)] w0 env2 (fr 210 n6i (v6i q k least dn (was ++ [s]).length (wn ++ [t]).length i)) (sI q l c x (was ++ [s]) (wn ++ [t]) (w0P ⟨0, 8, s, t⟩) 0) a2 w2 := by
    rw [e1, e2]; exact hA3
  refine (show blk2.wp Tryd.prog (KO w0 q i) a2 w2 from ?_)
  refine blk2_ok (K := KO w0 q i) (fun hI hz => inc_ok hm hI hz) (k := k) ⟨least, dn, l, c, x, _, 0, ⟨by omega, by omega, hi, h.a2, h.c, h.ls, h.tr, .inl rfl, ?_⟩, env2, hA4⟩
  rcases h.body with hb | ⟨hw, hd, hr⟩
  · exact .inl hb
  · refine .inr (.inl ⟨rfl, ⟨by omega, hw.ll, rfl, hl4, u32s_verW hput ht, .inl rfl, fun _ => ⟨hw.z, ?_⟩, (fun hh => by cases hh), (fun hh => by cases hh), ?_⟩, hd, hr⟩)
    · rw [getD_appW (by omega), getD_appW (by omega)]; exact hw.v
    · rw [getD_endW (by omega), getD_endW (by omega)]; exact vok_ver hput
set_option maxHeartbeats 2000000 in
theorem roundO_ok {w0 : From} {q : InW} {i : Nat} {a : Act} {W : World} (h : InvO w0 q i a W) : round6.wp Tryd.prog (RO w0 q i) a W := by
  obtain ⟨was, wn, k, least, dn, l, c, x, hO, env, hA⟩ := h
  have hi8 := hO.i8
  have him := hO.im
  have out : ∀ {env : Env} {a : Act} {W : World}, At [(0, 0)] w0 env (fr 210 n6a (v6a q k least dn was.length wn.length i)) (sO q l c x was wn) a W → RO w0 q i (.exit 0) a W := by
    intro env a W h'
    simp only [RO, Exit.then, Exit.inBlock, if_true]
    exact pieceT0 (c := cfgM) cfgM_ok [6] a_end h' (all_ret fun env' a' w' hA' => hA'.said (by kernel_rfl))
  refine wpS (by kernel_rfl) ?_
  refine pieceT0 (c := cfgM) cfgM_ok n6a a_tm hA ?_
  refine all_brp (by simp only [decide_eq_true_eq] <;> exact Iff.rfl) (fun h1 => ?_) (fun h1 => all_ret fun _ _ _ h => out h)
  refine all_brp (by simp only [decide_eq_true_eq] <;> exact Iff.rfl) (fun h2 => all_ret fun env1 a1 w1 hA1 => ?_) (fun h2 => all_ret fun _ _ _ h => out h)
  simp only [Ex.to, Exit.then]
  have hi : i < 8 := by omega
  have hm : i < q.ms.length := by omega
  refine (show (rgt round6).wp Tryd.prog (RO w0 q i) a1 w1 from wpS (by kernel_rfl) (wpB 1 (by kernel_rfl) ?_))
  refine (show bb6.wp Tryd.prog (KO w0 q i) a1 w1 from ?_)
  refine pieceNT0 (c := cfgM) cfgM_ok 4 n6b a_sel hA1 ?_
  simp only [Int.toNat_natCast]
  refine all_needq (by simp only [decide_eq_true_eq, Bool.and_eq_true]; exact Iff.rfl) (by omega) ?_
  refine all_needq (by simp only [decide_eq_true_eq]; exact Iff.rfl) (by omega) ?_
  rw [strEq_nil, strEq_nil]
  have ew : IntKind.u32.wrap (i : Int) = (i : Int) := wrap_inR (by rw [inR_u32]; omega)
  rw [ew]
  have fin : ∀ {s : ByteArray} {t : Int}, (1 ≤ s.size ∧ s.size ≤ 8) → (0 ≤ t ∧ t < 4294967296) → ∀ {env : Env} {a : Act} {W : World}, At [(0, 0)] w0 env (fr 210 n6b (v6b q k least dn was.length wn.length i s t)) (sO q l c x was wn) a W → (restC 4 bb6).wp Tryd.prog (KO w0 q i) a W := fun hs ht _ _ _ h => next_ok hi hm hO hs ht h
  have finE : ∀ {t : Int}, (0 ≤ t ∧ t < 4294967296) → ∀ {env : Env} {a : Act} {W : World}, At [(0, 0)] w0 env (fr 210 n6b (v6a q k least dn was.length wn.length i ++ [.sl [(101 : UInt8)], .int .u32 t])) (sO q l c x was wn) a W → (restC 4 bb6).wp Tryd.prog (KO w0 q i) a W := fun ht _ _ _ h => next_ok hi hm hO (s := ⟨#[101]⟩) ⟨by decide, by decide⟩ ht (h.gvals _ rfl)
  have hx : 8 < (q.ms.getD i ⟨⟨[]⟩⟩).size → ((q.ms.getD i ⟨⟨[]⟩⟩).extract 0 8).size = 8 := by
    intro h8
    rw [ByteArray.size_extract]; omega
  refine all_brp (by simp only [decide_eq_true_eq] <;> exact Iff.rfl) (fun h3 => ?_) (fun h3 => ?_)
  · have htb := (q.ts.getD i ⟨0, u0_h⟩).h
    refine all_needq (by simp only [decide_eq_true_eq, Bool.and_eq_true]; exact Iff.rfl) (by omega) ?_
    refine all_needq (by simp only [decide_eq_true_eq]; exact Iff.rfl) (by omega) ?_
    refine all_brp (by simp only [decide_eq_true_eq] <;> exact Iff.rfl) (fun h4 => ?_) (fun h4 => ?_)
    · refine all_needq (by simp only [decide_eq_true_eq]; exact Iff.rfl) (by omega) ?_
      refine all_needq (by simp only [decide_eq_true_eq]; exact Iff.rfl) (by omega) ?_
      have := hx (by omega)
      refine all_brp (by simp only [decide_eq_true_eq] <;> exact Iff.rfl) (fun h5 => all_ret fun _ _ _ h => finE htb h) (fun h5 => all_ret fun _ _ _ h => fin (by omega) htb h)
    · refine all_brp (by simp only [decide_eq_true_eq] <;> exact Iff.rfl) (fun h5 => all_ret fun _ _ _ h => finE htb h) (fun h5 => all_ret fun _ _ _ h => fin (by omega) htb h)
  · refine all_brp (by simp only [decide_eq_true_eq] <;> exact Iff.rfl) (fun h4 => ?_) (fun h4 => ?_)
    · refine all_needq (by simp only [decide_eq_true_eq]; exact Iff.rfl) (by omega) ?_
      refine all_needq (by simp only [decide_eq_true_eq]; exact Iff.rfl) (by omega) ?_
      have := hx (by omega)
      refine all_brp (by simp only [decide_eq_true_eq] <;> exact Iff.rfl) (fun h5 => all_ret fun _ _ _ h => finE (by omega) h) (fun h5 => all_ret fun _ _ _ h => fin (by omega) (by omega) h)
    · refine all_brp (by simp only [decide_eq_true_eq] <;> exact Iff.rfl) (fun h5 => all_ret fun _ _ _ h => finE (by omega) h) (fun h5 => all_ret fun _ _ _ h => fin (by omega) (by omega) h)
end Go.Proofs.YtfapadgpihpmhaaDoor

/- SlotWhole: from its beginning. -/
namespace Go.Proofs.YtfapadgpihpmhaaDoor
open Go Go.Proofs.YtfapadgpihpmhaaDoor.Sx
set_option linter.unusedVariables false
theorem noFootW {e0 e1 e2 e3 : Slot} {q : InW} (x : Nat) (h : inFoot [e0, e1, e2, e3] (s0W q) x) : False := by
  obtain ⟨id, e, b, he, hb, hx⟩ := h
  match id with
  | 0 => simp at hb; subst hb; cases hx
  | 1 => simp at hb; subst hb; cases hx
  | 2 => simp at hb; subst hb; cases hx
  | 3 => simp at hb; subst hb; cases hx
  | n + 4 => simp at hb
theorem b6_eq : Tryd.f6.body = some b6 := by kernel_rfl
abbrev z5 : List Int := [0, 0, 0, 0, 0]
theorem oi_start (q : InW) : OI q 0 [nilB] [0] 0 0 false z5 0 rd0 :=
  ⟨rfl, rfl, by omega, Nat.zero_le _, by omega, by simp, by omega, by simp, .inr ⟨⟨by omega, rfl, rfl, ⟨rfl, rfl, by decide, by simp [wN, fN]; rfl, by simp [wN, fN]; rfl⟩⟩, rfl, fun _ => rg_new⟩⟩
set_option maxHeartbeats 2000000 in
theorem slotWhole_call {q : InW} {e0 e1 e2 e3 : Slot} (he : e0.blk = 0 ∧ e0.off = 0) {w : World} {v0 v1 v2 : Value} (hr : Rep [e0, e1, e2, e3] (s0W q) w) (h0 : Den [e0, e1, e2, e3] (msV q 1) v0) (h1 : Den [e0, e1, e2, e3] (tsV q 2) v1) (h2 : Den [e0, e1, e2, e3] (psV q 3) v2) :
    Calls Tryd.prog 6 ⟨[v0, v1, v2]⟩ w (Said ⟨w, fun _ => False⟩) := by
  refine call_begin (c := cfgM) Tryd.func6 b6_eq (args := argW q) (by
    intro p hp
    rw [List.mem_singleton.1 hp]
    exact ⟨e0, rfl, he⟩) hr ⟨_, _, rfl, h0, _, _, rfl, h1, _, _, rfl, h2, rfl⟩ (F := fun _ => False) (fun x h => noFootW x h) ?_
  intro a hA
  refine pieceNT0 (c := cfg) cfg_ok 6 n6p a_pre hA ?_
  refine all_need rfl fun _ => all_eq rfl (all_ret fun env1 a1 w1 hA1 => ?_)
  simp only [Ex.to, Exit.then]
  have hA2 := hA1.perm [0, 5, 4, 6, 7, 1, 2, 3, 8, 9] (by kernel_rfl) (by kernel_rfl) (st' := [lookB, .own [.c (.lit .u32 0), .c (.lit .u32 0), .c (.lit .u32 0), .c (.lit .u32 0), .c (.lit .u32 0)] 32, .own [.c (.sli 1 (.c 0) 1 (.c 5) (some (.c 5))), .c (.lit .i64 0)] 77, .own [.c (.ptr 4 0), .c (.lit .i64 8)] 63, .own ([.c (.lit .i64 0), .c (.lit .i64 4), .c (.lit .i64 0), .c (.lit .i64 0)] ++ List.replicate 33 (.c (.lit .u32 0)) ++ [.c (.bl false), .c (.lit .i64 0)]) 99, .ro encStr q.ms, .ro encU32 q.ts, .ro (encInt .u8) q.ps, .own [.c (.sl [])] 9, .own [.c (.lit .u32 0)] 32])
    (vals' := [msV q 5, tsV q 6, psV q 7, .ptr 2 0, .ptr 3 0, .lit .i64 0, .lit .i64 0, .bl false, .sli 8 (.c 0) 1 (.c 1) (some (.c 1)), .sli 9 (.c 0) 1 (.c 1) (some (.c 1))]) (by kernel_rfl) (by kernel_rfl)
  have hA3 := hA2.segs 1 (l' := [.a (encInt .u32) 5 z5]) rfl (by intro s hs; rw [List.mem_singleton.1 hs]; rfl) (fun cs h => denL_gen2 (by kernel_rfl) h)
  have hA4 := hA3.segs 4 (l' := [.c (.int .i64 0), .c (.int .i64 4), .c (.int .i64 0), .c (.int .i64 0), .c (.int .u32 0), .a (encInt .u32) 32 (List.replicate 32 0), .c (.sb false), .c (.int .i64 0)]) rfl (by
    intro s hs
    simp only [List.mem_cons, List.not_mem_nil, or_false] at hs
    rcases hs with rfl | rfl | rfl | rfl | rfl | rfl | rfl | rfl <;> first | trivial | rfl) (fun cs h => denL_gen2 (by kernel_rfl) h)
  obtain ⟨env5, hA5⟩ := hA4.vecd 8 encStr [nilB] rfl (fun env cs h => denL_gen2 (by kernel_rfl) h) rfl
    [msV q 5, tsV q 6, psV q 7, .ptr 2 0, .ptr 3 0, .lit .i64 0, .lit .i64 0, .bl false, .sli 10 (.c 0) 1 (.v 1) none, .sli 9 (.c 0) 1 (.c 1) (some (.c 1))] (fun env' hm h1 h2 => ⟨hm _, hm _, hm _, hm _, hm _, hm _, hm _, hm _, h1 1, hm _, trivial⟩)
  obtain ⟨env6, hA6⟩ := hA5.vecd 9 (encInt .u32) [0] rfl (fun env cs h => denL_gen2 (by kernel_rfl) h) rfl
    [msV q 5, tsV q 6, psV q 7, .ptr 2 0, .ptr 3 0, .lit .i64 0, .lit .i64 0, .bl false, .sli 10 (.c 0) 1 (.v 1) none, .sli 11 (.c 0) 1 (.v 1) none] (fun env' hm h1 h2 => ⟨hm _, hm _, hm _, hm _, hm _, hm _, hm _, hm _, hm _, h1 1, trivial⟩)
  have hA7 := hA6.perm [0, 1, 2, 3, 4, 5, 6, 7, 10, 11] (by kernel_rfl) (by kernel_rfl) (st' := [lookB, .own [.a (encInt .u32) 5 z5] 32, .own [.c (.sli 1 (.c 0) 1 (.c 5) (some (.c 5))), .c (.lit .i64 0)] 77, .own [.c (.ptr 4 0), .c (.lit .i64 8)] 63, .own [.c (.int .i64 0), .c (.int .i64 4), .c (.int .i64 0), .c (.int .i64 0), .c (.int .u32 0), .a (encInt .u32) 32 (List.replicate 32 0), .c (.sb false), .c (.int .i64 0)] 99] ++ tailW q [nilB] [0])
    (vals' := [msV q 5, tsV q 6, psV q 7, .ptr 2 0, .ptr 3 0, .lit .i64 0, .lit .i64 0, .bl false, .sli 8 (.c 0) 1 (.v 1) none, .sli 9 (.c 0) 1 (.v 1) none]) (by kernel_rfl) (by kernel_rfl)
  have hA8 : At [(0, 0)] ⟨w, fun _ => False⟩ _ (fr 210 n6p (v6p q 0 0 false [nilB].length [(0 : Int)].length)) (sO q z5 0 rd0 [nilB] [0]) a1 w1 := (hA7.gvals (v6p q 0 0 false [nilB].length [(0 : Int)].length) rfl).gen rfl
  refine (show c6.wp Tryd.prog (Q6 ⟨w, fun _ => False⟩) a1 w1 from wpS (by kernel_rfl) (wpS (by kernel_rfl) ?_))
  refine pieceT0 (c := cfgM) cfgM_ok n6a a_reg hA8 (all_ret fun env2 a2 w2 hA9 => ?_)
  simp only [Ex.to, Exit.then]
  have hA10 : At [(0, 0)] ⟨w, fun _ => False⟩ env2 (fr 210 n6a (v6a q 0 0 false [nilB].length [(0 : Int)].length 0)) (sO q z5 0 rd0 [nilB] [0]) a2 w2 := hA9.gvals _ rfl
  refine wpB 0 (by kernel_rfl) (wpL (by kernel_rfl) (InvO ⟨w, fun _ => False⟩ q) (fun i => 8 - i) 0 ⟨_, _, 0, 0, false, z5, 0, rd0, oi_start q, env2, hA10⟩ ?_)
  intro i a w h
  exact roundO_ok h
end Go.Proofs.YtfapadgpihpmhaaDoor

/- Layer 13: the package's variable, and how a card is closed. -/
namespace Go.Proofs.YtfapadgpihpmhaaDoor
open Go Go.Proofs.YtfapadgpihpmhaaDoor.Sx Go.ChangeShapes Go.WideShapes Go.ChangeAt Go.RowKit
set_option linter.unusedVariables false
abbrev laid1 : List (String × DataW Unit) := [("purlin/mem.look", Rows.laid_purlin_mem_look)]
theorem Tryd.own : ownKnob Tryd.prog.godebug = none := by kernel_rfl
theorem Tryd.laidOut : laidOutB Tryd.prog = true := by kernel_rfl
theorem gLook : Tryd.prog.globalNamed "purlin/mem.look" = some 0 := by kernel_rfl
theorem tLook : (Tryd.prog.globals[0]?).map (·.type) = some 81 := by kernel_rfl
/-- the door's own heap meets the condition -/
theorem door_met (os : Os) (args : Array Value) : laidMetH Tryd.prog laid1 ((World.doorLaid Tryd.prog 400 os).forCall (fun _ _ => 0) ⟨#[], args, []⟩).memory :=
  laidMetH_of_parts3 (fuel := 8) (laidMet_of_run' 8 (by kernel_rfl) (by kernel_rfl)) (by kernel_rfl) (by kernel_rfl)
set_option maxRecDepth 100000 in
/-- what the condition gives -/
theorem of_laid {W : World} (h : laidMetH Tryd.prog laid1 W) : ∃ e : Slot, (e.blk = 0 ∧ e.off = 0) ∧ Rep [e] [lookB] W := by
  rw [MakeChecks.laidMetH_plain _ _ _ (by kernel_rfl)] at h
  obtain ⟨ps, ⟨g0, t0, cs0, f0, p0, q0, hg0, ht0, hv0, hd0, _, _⟩, _, _⟩ := h
  obtain rfl := Option.some.inj (gLook.symm.trans hg0)
  obtain rfl := Option.some.inj (tLook.symm.trans ht0)
  obtain ⟨xs, m, _, hx, hlen, hxl, hf⟩ := DataW.trod_struct Tryd.underlying81 hd0
  have hC : Tryd.prog.cellsOf 81 = 3 := by kernel_rfl
  have k32 : Tryd.prog.cellsOf 32 = 1 := by kernel_rfl
  rw [hC] at hlen
  obtain ⟨l⟩ := cs0
  simp only at hlen hf
  match l, hlen with
  | [c0, c1, c2], _ =>
    match xs, hxl, hx with
    | [y0, y1, y2], _, hx =>
      have f0 : DataW.trod _ Tryd.prog W 0 _ false m 32 (([c0, c1, c2].drop 0).take (Tryd.prog.cellsOf 32)) = some y0 := hf 0 _ rfl
      have f1 : DataW.trod _ Tryd.prog W 0 _ false m 32 (([c0, c1, c2].drop 1).take (Tryd.prog.cellsOf 32)) = some y1 := hf 1 _ rfl
      have f2 : DataW.trod _ Tryd.prog W 0 _ false m 32 (([c0, c1, c2].drop 2).take (Tryd.prog.cellsOf 32)) = some y2 := hf 2 _ rfl
      rw [k32] at f0 f1 f2
      obtain ⟨a0, h0, e0, _⟩ := DataW.trod_int Tryd.underlying32 f0
      obtain ⟨a1, h1, e1, _⟩ := DataW.trod_int Tryd.underlying32 f1
      obtain ⟨a2, h2, e2, _⟩ := DataW.trod_int Tryd.underlying32 f2
      simp at h0 h1 h2
      subst h0 h1 h2 e0 e1 e2
      simp [Rows.laid_purlin_mem_look] at hx
      obtain ⟨⟨rfl, rfl, rfl⟩, _⟩ := hx
      have hc := fun i => World.var?_cell hg0 hv0 i
      have hsz : 0 < W.heap.size := by
        have := hc 0
        simp only [World.cell?] at this
        rcases Nat.eq_zero_or_pos W.heap.size with h | h
        · rw [Array.getElem?_eq_none (by omega)] at this; simp at this
        · exact h
      refine ⟨⟨0, 0, 0, []⟩, ⟨rfl, rfl⟩, rfl, ?_, ?_, ?_⟩
      · intro id sl b he hb
        match id with
        | 0 =>
          simp only [List.getElem?_cons_zero, Option.some.injEq] at he hb
          subst he hb
          refine ⟨[.int .u32 4294967295, .int .u32 0, .int .u32 0], by simp [encLook, encOf, DenL, Den], fun i hi => ?_⟩
          have := hc i
          simpa using this
        | n + 1 => simp at he
      · intro i j e f b c hij he hf' hb' hc' x hx''
        match i, j with
        | 0, 0 => exact (hij rfl).elim
        | i + 1, _ => simp at he
        | 0, j + 1 => simp at hf'
      · intro id sl b he hb x hx
        match id with
        | 0 =>
          simp only [List.getElem?_cons_zero, Option.some.injEq] at he hb
          subst he hb
          simp [Blk.supp] at hx
          omega
        | n + 1 => simp at he
end Go.Proofs.YtfapadgpihpmhaaDoor

/- SlotWhole: its row and its card. -/
namespace Go.Proofs.YtfapadgpihpmhaaDoor
open Go Go.Proofs.YtfapadgpihpmhaaDoor.Sx Go.ChangeShapes Go.WideShapes Go.ChangeAt Go.RowKit
set_option linter.unusedVariables false
theorem wf_u32W {n : Int} (h : (Lit.int .u32 n).wf = true) : 0 ≤ n ∧ n < 4294967296 := by simp [Lit.wf, IntKind.min, IntKind.max, IntKind.signed, IntKind.bits] at h; omega
theorem open_strW {H : Type} {enc : TypeId × Value → H} {w : World} {base : Nat} {spare : Nat → Bool} {held : Bool} (n : Nat) (cs : List Value) (y : DataW H × List MemPlace) (h : DataW.trod enc Tryd.prog w base spare held n 9 cs = some y) :
    ∃ x : ByteArray, DenL [] (encStr.enc x) cs := by
  obtain ⟨s, h0, _⟩ := DataW.trod_string Tryd.underlying9 h
  subst h0
  exact ⟨s, by simp [encStr, DenL, Den]⟩
theorem open_u32W {H : Type} {enc : TypeId × Value → H} {w : World} {base : Nat} {spare : Nat → Bool} {held : Bool} (n : Nat) (cs : List Value) (y : DataW H × List MemPlace) (h : DataW.trod enc Tryd.prog w base spare held n 32 cs = some y) :
    ∃ x : U32, DenL [] (encU32.enc x) cs := by
  obtain ⟨a, h0, _, hw⟩ := DataW.trod_int Tryd.underlying32 h
  subst h0
  exact ⟨⟨a, wf_u32W hw⟩, by simp [encU32, encOf, DenL, Den]⟩
theorem open_u8W {H : Type} {enc : TypeId × Value → H} {w : World} {base : Nat} {spare : Nat → Bool} {held : Bool} (n : Nat) (cs : List Value) (y : DataW H × List MemPlace) (h : DataW.trod enc Tryd.prog w base spare held n 5 cs = some y) :
    ∃ x : Int, DenL [] ((encInt .u8).enc x) cs := by
  obtain ⟨a, h0, _, hw⟩ := DataW.trod_int Tryd.underlying5 h
  subst h0
  exact ⟨a, by simp [encInt, DenL, Den]⟩
set_option maxRecDepth 100000 in
theorem slotWhole_lifted (os : Os) (started : os.Started) (H : Type) (enc : TypeId × Value → H) :
    ReturnsInHanded {} Tryd.checked os 6 .any (fun w args => (Rows.slotWholeSpec.pre enc Tryd.prog Tryd.f6 [] false w args ∧ laidMetH Tryd.prog laid1 w) ∧ sizedMet enc Tryd.prog Tryd.f6 (OpenSpec.ofChange Rows.slotWholeSpec) false w args)
      (Rows.slotWholeSpec.post enc Tryd.prog Tryd.f6 false true false false) := by
  refine returnsInHanded_of_change_and (C := Tryd.checked) (X := fun w _ => laidMetH Tryd.prog laid1 w) (fun _ _ _ hh h => h.of_heap hh) Tryd.own started (by kernel_rfl) Tryd.func6
    (ChangeSpec.witness_shaped (enc := enc) (C := Tryd.checked) (os := os) (X := fun w _ => laidMetH Tryd.prog laid1 w) false (World.doorLaid Tryd.prog 400 os) #[.slice none 0 0, .slice none 0 0, .slice none 0 0] 8 rfl (World.shaped_of_RefB (by kernel_rfl) (by kernel_rfl)) (by kernel_rfl) (by kernel_rfl) (by kernel_rfl) (door_met os _)) ?_
  intro W base args ds gs before hval0 hW _ _ hL _
  have hval : ∀ (j : Nat) t v, Tryd.f6.params[j]? = some t → args[j]? = some v → Value.okWide Tryd.prog W .any base t v := hval0
  have hW' := hW
  obtain ⟨p, q, hA0, hV, rfl, hfz, hnd⟩ := hW
  have hA : DataW.TrodAll enc Tryd.prog W 0 (fun _ => true) true Tryd.f6.params.toList args.toList ds p := hA0
  rw [Tryd.params6] at hA hval
  obtain ⟨v0, v1, v2, d0, d1, d2, p0, p1, p2, rfl, rfl, rfl, h0, h1, h2⟩ := trodAll_three hA
  obtain ⟨rfl, rfl⟩ := trodVars_none hV
  clear hA0 hval0
  have hlt0 : ∀ x ∈ p0, x.block < W.heap.size := fun x hx => by simpa using hW'.lt x (by simp [hx])
  have hlt1 : ∀ x ∈ p1, x.block < W.heap.size := fun x hx => by simpa using hW'.lt x (by simp [hx])
  have hlt2 : ∀ x ∈ p2, x.block < W.heap.size := fun x hx => by simpa using hW'.lt x (by simp [hx])
  obtain ⟨e0, he, hr0⟩ := of_laid hL
  have fin : ∀ e W', Said ⟨W, fun _ => False⟩ e W' → ∃ v, e = .returned v ∧ Rows.slotWholeSpec.post enc Tryd.prog Tryd.f6 false true false false W #[v0, v1, v2] v W' := by
    rintro e W' ⟨rfl, hsz, hk, hc⟩
    have hk' : ∀ x, x < W.heap.size → W'.heap[x]? = W.heap[x]? := fun x hx => hk x hx (fun h => h)
    refine ⟨_, rfl, _, _, _, [], _, [], hW', ⟨[], [], shut_bool Tryd.underlying4 true, rfl, rfl⟩, trodAll_mk3 (trod_same Tryd.laidOut (by kernel_rfl) (of_decide_eq_true (by kernel_rfl)) h0 hk' hlt0) (trod_same Tryd.laidOut (by kernel_rfl) (of_decide_eq_true (by kernel_rfl)) h1 hk' hlt1) (trod_same Tryd.laidOut (by kernel_rfl) (of_decide_eq_true (by kernel_rfl)) h2 hk' hlt2), rfl, keptBut_of _ hc hk', fun h => by cases h⟩
  obtain ⟨ms, c1, e1, hr1, hd1⟩ := open_sli encStr Tryd.underlying23 (by kernel_rfl) open_strW rfl (hval 0 23 v0 rfl rfl) h0
  obtain ⟨ts, c2, e2, hr2, hd2⟩ := open_sli encU32 Tryd.underlying22 (by kernel_rfl) open_u32W rfl (hval 1 22 v1 rfl rfl) h1
  obtain ⟨ps, c3, e3, hr3, hd3⟩ := open_sli (encInt .u8) Tryd.underlying24 (by kernel_rfl) open_u8W rfl (hval 2 24 v2 rfl rfl) h2
  obtain ⟨hq1, hn1⟩ := ro_add hr0 (by intro b hb e; rw [List.mem_singleton.1 hb]; rfl) rfl hr1
  obtain ⟨hq2, hn2⟩ := ro_add hq1 hn1 rfl hr2
  obtain ⟨hr, _⟩ := ro_add hq2 hn2 rfl hr3
  have g1 : Den ([e0, e1, e2] ++ [e3]) (msV ⟨ms, c1, ts, c2, ps, c3⟩ 1) v0 := den_wide (den_wide (den_add (env := [e0]) (n := 1) hd1 rfl))
  have g2 : Den ([e0, e1, e2] ++ [e3]) (tsV ⟨ms, c1, ts, c2, ps, c3⟩ 2) v1 := den_wide (den_add (env := [e0, e1]) (n := 2) hd2 rfl)
  have g3 : Den ([e0, e1, e2] ++ [e3]) (psV ⟨ms, c1, ts, c2, ps, c3⟩ 3) v2 := den_add (env := [e0, e1, e2]) (n := 3) hd3 rfl
  exact (slotWhole_call (q := ⟨ms, c1, ts, c2, ps, c3⟩) he hr g1 g2 g3).mono fun e W' h => fin e W' h
theorem slotWhole_row : Rows.SlotWholeSaid :=
  OpenClaim.holds_of_wide 6 Tryd.f6 rfl rfl rfl rfl rfl rfl rfl ⟨rfl, rfl, rfl, rfl, rfl⟩ rfl rfl rfl rfl rfl (by kernel_rfl) Tryd.func6 (by kernel_rfl)
    (of_decide_eq_true (by kernel_rfl)) (by unfold Func.isWrapper; first | (rw [if_pos (by decide +kernel)]; kernel_rfl) | (rw [if_neg (by decide +kernel)]; exact ⟨rfl, rfl⟩))
    (fun os started H enc _ => slotWhole_lifted os started H enc)
theorem slotWhole_holds : Rows.SlotWholeCardSaid :=
  Claim7.holds_tied_plain_at .later [] [.data] true _ _ slotWhole_row (fun _ h => by cases h) (by kernel_rfl) (fun _ h => by cases h) slotWhole_row_tie rfl ⟨rfl, rfl⟩ (by kernel_rfl) rfl
    (fun f fn hf hfn => by
      obtain rfl : f = 6 := Option.some.inj ((show Tryd.prog.funcNamed "purlin/purlinlaw13.SlotWhole" = some 6 by kernel_rfl).symm.trans hf) |>.symm
      obtain rfl : fn = Tryd.f6 := (Option.some.inj (Tryd.func6.symm.trans hfn)).symm
      exact ⟨by kernel_rfl, fun j t ht => by
        rw [Tryd.params6] at ht
        have hm : t ∈ [23, 22, 24] := by simpa using Array.mem_of_getElem? ht
        have hall : ([23, 22, 24].all fun u => !Tryd.prog.wantsStandIn u) = true := by kernel_rfl
        exact (show Tryd.prog.wantsStandIn t = false by simpa using List.all_eq_true.1 hall t hm)⟩)
    (by kernel_rfl)
end Go.Proofs.YtfapadgpihpmhaaDoor

