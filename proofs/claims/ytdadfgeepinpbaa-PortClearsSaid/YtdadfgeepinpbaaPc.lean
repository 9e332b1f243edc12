/- PortClears returns true at every input, without condition, and leaves its arguments as they were. -/
import Derived.Test.YtdadfgeepinpbaaSxB
import Derived.Test.YtdadfgeepinpbaaRows
/- PortOrder: the configuration and the state. -/
namespace Go.Proofs.Ytdadfgeepinpbaa
open Go Go.Proofs.Ytdadfgeepinpbaa.Sx
set_option linter.unusedVariables false
/-- a call as it lies in cells -/
structure Cl where
  kind : Int
  s : ByteArray
  tick : Int
def encCl : Enc Cl := encOf 2 (fun x => [.int .i64 x.kind, .str x.s, .int .u32 x.tick]) ⟨0, .empty, 0⟩ (fun _ => rfl) (by intro env env' x vs h; simpa [DenL, Den] using h)
def Cl0 : Cl := ⟨0, .empty, 0⟩
noncomputable def cfg0 : Cfg := { P := Try.prog, ex := fun k => match k with | .i64 => true | _ => false, gl := [], sm := fun _ => none }
theorem cfg0_ok : SmOk cfg0 := by intro f g h; cases h
set_option maxRecDepth 100000 in
theorem awake_val : (callF cfg0 100 8 [] []).val = some (.bl true) := by kernel_rfl
noncomputable def cfg : Cfg := { P := Try.prog, ex := fun k => match k with | .i64 => true | _ => false, gl := [], sm := fun f => match f with | 8 => some (smClosed [] [] (.bl true)) | _ => none }
theorem cfg_ok : SmOk cfg := by
  intro f g h
  simp only [cfg] at h
  split at h
  · simp only [Option.some.injEq] at h; subst h
    exact smClosed_ok cfg0_ok awake_val (by kernel_rfl) rfl rfl (by intro b hb; cases hb)
  · cases h
noncomputable def b3 : Code := Try.f3.body.getD .skip
noncomputable def blk3 : Code := rgt (lft (restC 7 b3))
noncomputable def reg3 : Code := lft (lft (restC 7 b3))
noncomputable def round3 : Code := lft (lft blk3)
noncomputable def end3 : Code := rgt (restC 7 b3)
abbrev n3 : List Nat := [2, 6, 7, 8, 9, 11, 12, 13]
abbrev v3 (cl : SVal) (d z : Int) (se : SVal) (got i : Int) : List SVal := [cl, .bl false, .int .u8 d, .int .u8 z, .ptr 1 0, se, .int .i64 got, .int .i64 i]
abbrev s3n (calls : List Cl) (d z : Int) (sent : List ByteArray) : St := [.ro encCl calls, .own [.c (.ifc 56 (.ptr 2 0)), .c (.int .i64 z)] 62, .own [.c .snil, .c (.int .i64 d)] 58, .vec encStr sent 9]
abbrev s3v (calls : List Cl) (d z : Int) (xs sent : List ByteArray) : St := [.ro encCl calls, .own [.c (.ifc 56 (.ptr 2 0)), .c (.int .i64 z)] 62, .own [.c (.sli 3 (.c 0) 1 (.v xs.length) none), .c (.int .i64 d)] 58, .vec encStr xs 9, .vec encStr sent 9]
abbrev callsV (calls : List Cl) (cap : Nat) : SVal := .sli 0 (.c 0) 3 (.v calls.length) (some (.v cap))
end Go.Proofs.Ytdadfgeepinpbaa

/- What the rows share: the calls that come in. -/
namespace Go.Proofs.Ytdadfgeepinpbaa
open Go Go.Proofs.Ytdadfgeepinpbaa.Sx Go.ChangeShapes Go.WideShapes Go.ChangeAt Go.RowKit
set_option linter.unusedVariables false
theorem Try.own : ownKnob Try.prog.godebug = none := by kernel_rfl
theorem Try.laidOut : laidOutB Try.prog = true := by kernel_rfl
/-- an element of the calls -/
theorem open_cl {H : Type} {enc : TypeId × Value → H} {w : World} {base : Nat} {spare : Nat → Bool} {held : Bool} (n : Nat) (cs : List Value) (y : DataW H × List MemPlace) (h : DataW.trod enc Try.prog w base spare held n 35 cs = some y) :
    ∃ x : Cl, DenL [] (encCl.enc x) cs := by
  obtain ⟨xs, m, _, _, hlen, hxl, hf⟩ := DataW.trod_struct Try.underlying35 h
  have hC : Try.prog.cellsOf 35 = 3 := by kernel_rfl
  rw [hC] at hlen
  match cs, hlen with
  | [c0, c1, c2], _ =>
    match xs, hxl with
    | [y0, y1, y2], _ =>
      have f0 : DataW.trod enc Try.prog w base spare held m 3 (([c0, c1, c2].drop 0).take (Try.prog.cellsOf 3)) = some y0 := hf 0 _ rfl
      have f1 : DataW.trod enc Try.prog w base spare held m 9 (([c0, c1, c2].drop 1).take (Try.prog.cellsOf 9)) = some y1 := hf 1 _ rfl
      have f2 : DataW.trod enc Try.prog w base spare held m 33 (([c0, c1, c2].drop 2).take (Try.prog.cellsOf 33)) = some y2 := hf 2 _ rfl
      have k0 : Try.prog.cellsOf 3 = 1 := by kernel_rfl
      have k1 : Try.prog.cellsOf 9 = 1 := by kernel_rfl
      have k2 : Try.prog.cellsOf 33 = 1 := by kernel_rfl
      rw [k0] at f0
      rw [k1] at f1
      rw [k2] at f2
      obtain ⟨a, h0, _⟩ := DataW.trod_int Try.underlying3 f0
      obtain ⟨b, h1, _⟩ := DataW.trod_string Try.underlying9 f1
      obtain ⟨c, h2, _⟩ := DataW.trod_int Try.underlying33 f2
      simp at h0 h1 h2
      subst h0 h1 h2
      exact ⟨⟨a, b, c⟩, by simp [encCl, encOf, DenL, Den]⟩
end Go.Proofs.Ytdadfgeepinpbaa

/- PortPlays: the pieces of code and the states. -/
namespace Go.Proofs.Ytdadfgeepinpbaa
open Go Go.Proofs.Ytdadfgeepinpbaa.Sx
set_option linter.unusedVariables false
/-- a call whose text isn't too long -/
def smFew : List SVal → St → T (SVal × St) := fun args st => match args with
  | [.agg [.int .i64 k, .str s, .int .u32 t]] => .ret (.agg [.int .i64 k, .str (bs (decide (40 < (s.size : Int))) (s.extract 0 40) s), .int .u32 t], st)
  | _ => .no 122
theorem few_tree {k t : Int} {s : ByteArray} : callF cfg0 100 9 [.agg [.int .i64 k, .str s, .int .u32 t]] [] =
  (.br (decide ((40 : Int) < (s.size : Int)))
   (.need (decide ((40 : Nat) ≤ s.size))
    (.need (decide ((0 : Nat) ≤ (40 : Nat)))
     (.ret (.agg [.int .i64 k, .str (s.extract 0 40), .int .u32 t], [.own [.c (.int .i64 k), .c (.str (s.extract 0 40)), .c (.int .u32 t)] 35, .own [.c (.int .i64 k), .c (.str (s.extract 0 40)), .c (.int .u32 t)] 35]))))
   (.ret (.agg [.int .i64 k, .str s, .int .u32 t], [.own [.c (.int .i64 k), .c (.str s), .c (.int .u32 t)] 35, .own [.c (.int .i64 k), .c (.str s), .c (.int .u32 t)] 35]))) := by kernel_rfl
theorem smFew_ok (args : List SVal) (st : St) (s : SVal) (st' : St) (env : Env) (w : World) (vs : List Value) (hat : (smFew args st).at (s, st')) (hr : Rep env st w) (hd : DenL env args vs) :
    Calls Try.prog 9 ⟨vs⟩ w fun e w' => ∃ env' v, e = .returned v ∧ Ext env st w env' st' w' ∧ Rep env' st' w' ∧ Den env' s v := by
  unfold smFew at hat
  split at hat
  · rename_i k s t
    simp only [T.at, Prod.mk.injEq] at hat
    obtain ⟨rfl, rfl⟩ := hat
    refine smAll_ok (c := cfg0) cfg0_ok (by kernel_rfl) rfl (args0 := [.agg [.int .i64 k, .str s, .int .u32 t]]) (by simp [renL, ren]) few_tree ?_ (by simp [renL, ren]) st env w vs hr hd
    refine all_br (fun h => ?_) (fun h => ?_)
    · refine all_need (by simp at h ⊢; omega) fun _ => all_need (by simp) fun _ => all_ret fun env x hx => ?_
      rw [h]; exact hx
    · refine all_ret fun env x hx => ?_
      rw [h]; exact hx
  · exact hat.elim
noncomputable def cfg4 : Cfg := { P := Try.prog, ex := fun k => match k with | .i64 => true | _ => false, gl := [], sm := fun f => match f with | 8 => some (smClosed [] [] (.bl true)) | 9 => some smFew | _ => none }
theorem cfg4_ok : SmOk cfg4 := by
  intro f g h
  simp only [cfg4] at h
  split at h
  · simp only [Option.some.injEq] at h; subst h
    exact smClosed_ok cfg0_ok awake_val (by kernel_rfl) rfl rfl (by intro b hb; cases hb)
  · simp only [Option.some.injEq] at h; subst h
    intro args st s st' env w vs hat hg hr hd
    exact smFew_ok args st s st' env w vs hat hr hd
  · cases h
noncomputable def b4 : Code := Try.f4.body.getD .skip
noncomputable def reg4 : Code := lft (lft (restC 5 b4))
noncomputable def blk4 : Code := rgt (lft (restC 5 b4))
noncomputable def end4 : Code := rgt (restC 5 b4)
noncomputable def round4 : Code := lft (lft blk4)
abbrev chanV (k ff tt sz dp age : Int) : SVal := .agg [.int .u8 k, .int .u8 ff, .int .u8 tt, .int .u8 sz, .int .u8 dp, .int .u16 age]
/-- the channel as it was given; the port of a queue, of a sample; what the document has -/
abbrev choV (k : SVal) (ff tt sz dp age : Int) : Blk := .own [.c k, .c (.int .u8 ff), .c (.int .u8 tt), .c (.int .u8 sz), .c (.int .u8 dp), .c (.int .u16 age)] 29
abbrev refB (k : SVal) (ff tt sz dp age : Int) (m t : SVal) : Blk := .own [.c k, .c (.int .u8 ff), .c (.int .u8 tt), .c (.int .u8 sz), .c (.int .u8 dp), .c (.int .u16 age), .c m, .c t] 43
abbrev portQ (i : Nat) (sz : Int) : Blk := .own [.c (.ifc 56 (.ptr i 0)), .c (.int .i64 sz)] 62
abbrev portS (i : Nat) (sz : Int) : Blk := .own [.c (.ifc 63 (.ptr i 0)), .c (.int .i64 sz)] 62
abbrev queB (q : SVal) (dp : Int) : Blk := .own [.c q, .c (.int .i64 dp)] 58
abbrev samB (s t : SVal) (age : Int) : Blk := .own [.c s, .c t, .c (.int .u16 age)] 65
abbrev n4 : List Nat := [1, 4, 5, 7, 9]
abbrev v4 (cl : SVal) (m : Nat) (i : Int) : List SVal := [cl, .bl false, .ptr 1 0, .ptr m 0, .int .i64 i]
abbrev s4qn (calls : List Cl) (ff tt sz dp age : Int) : St := [.ro encCl calls, portQ 2 sz, queB .snil dp, refB (.lit .u8 0) ff tt sz dp age .snil (.lit .u32 0)]
abbrev s4qv (calls : List Cl) (ff tt sz dp age : Int) (xs ys : List ByteArray) (o n : NN) : St := [.ro encCl calls, portQ 2 sz, queB (.sli 3 (.c 0) 1 (.v xs.length) none) dp, .vec encStr xs 9, refB (.lit .u8 0) ff tt sz dp age (.sli 5 o 1 n none) (.lit .u32 0), .vec encStr ys 9]
abbrev s4sn (calls : List Cl) (ff tt sz dp age t : Int) : St := [.ro encCl calls, portS 2 sz, samB (.sl []) (.lit .u32 0) age, refB (.lit .u8 1) ff tt sz dp age .snil (.int .u32 t)]
abbrev s4sv (calls : List Cl) (ff tt sz dp age t : Int) (s : ByteArray) : St := [.ro encCl calls, portS 2 sz, samB (.str s) (.int .u32 t) age, refB (.lit .u8 1) ff tt sz dp age (.sli 4 (.c 0) 1 (.c 1) (some (.c 1))) (.int .u32 t), .own [.c (.str s)] 9]
end Go.Proofs.Ytdadfgeepinpbaa

/- The channel that comes in. -/
namespace Go.Proofs.Ytdadfgeepinpbaa
open Go Go.Proofs.Ytdadfgeepinpbaa.Sx Go.ChangeShapes Go.WideShapes Go.ChangeAt Go.RowKit
set_option linter.unusedVariables false
structure Chan where
  ff : Int
  tt : Int
  sz : Int
  dp : Int
  age : Int
def WfC (k : Int) (p : Chan) : Prop := (0 ≤ k ∧ k ≤ 255) ∧ (0 ≤ p.sz ∧ p.sz ≤ 255) ∧ (0 ≤ p.dp ∧ p.dp ≤ 255) ∧ (0 ≤ p.age ∧ p.age ≤ 65535)
theorem wf_u8 {n : Int} (h : (Lit.int .u8 n).wf = true) : 0 ≤ n ∧ n ≤ 255 := by simp [Lit.wf, IntKind.min, IntKind.max, IntKind.signed, IntKind.bits] at h; omega
theorem wf_u16 {n : Int} (h : (Lit.int .u16 n).wf = true) : 0 ≤ n ∧ n ≤ 65535 := by simp [Lit.wf, IntKind.min, IntKind.max, IntKind.signed, IntKind.bits] at h; omega
/-- an argument that is a struct lies in cells -/
theorem okWide_agg {P : Program} {r : Reach} {w : World} {base : Nat} {t : TypeId} {fs : Array Field} {v : Value} (ht : P.underlying t = some (.struct fs)) (h : Value.okWide P w r base t v) : ∃ l : List Value, v = .agg ⟨l⟩ := by
  unfold Value.okWide at h
  simp only [ht] at h
  obtain ⟨⟨l⟩, rfl, _⟩ := h
  exact ⟨l, rfl⟩
/-- the channel that comes in -/
theorem open_chan {H : Type} {enc : TypeId × Value → H} {w : World} {base : Nat} {spare : Nat → Bool} {held : Bool} {v : Value} {d : DataW H} {ps : List MemPlace} (hval : Value.okWide Try.prog w .any base 29 v) (h : DataW.Trod enc Try.prog w 0 spare held 29 v d ps) :
    ∃ (k : Int) (p : Chan), WfC k p ∧ ∀ env, Den env (chanV k p.ff p.tt p.sz p.dp p.age) v := by
  obtain ⟨l, rfl⟩ := okWide_agg Try.underlying29 hval
  obtain ⟨fuel, hf⟩ := h
  obtain ⟨xs, m, _, _, hlen, hxl, hf⟩ := DataW.trod_struct Try.underlying29 hf
  have hC : Try.prog.cellsOf 29 = 6 := by kernel_rfl
  have k5 : Try.prog.cellsOf 5 = 1 := by kernel_rfl
  have k27 : Try.prog.cellsOf 27 = 1 := by kernel_rfl
  rw [hC] at hlen
  simp only [Value.cells] at hlen hf
  match l, hlen with
  | [c0, c1, c2, c3, c4, c5], _ =>
    match xs, hxl with
    | [y0, y1, y2, y3, y4, y5], _ =>
      have f0 : DataW.trod enc Try.prog w 0 spare held m 5 (([c0, c1, c2, c3, c4, c5].drop 0).take (Try.prog.cellsOf 5)) = some y0 := hf 0 _ rfl
      rw [k5] at f0
      have f1 : DataW.trod enc Try.prog w 0 spare held m 5 (([c0, c1, c2, c3, c4, c5].drop 1).take (Try.prog.cellsOf 5)) = some y1 := hf 1 _ rfl
      rw [k5] at f1
      have f2 : DataW.trod enc Try.prog w 0 spare held m 5 (([c0, c1, c2, c3, c4, c5].drop 2).take (Try.prog.cellsOf 5)) = some y2 := hf 2 _ rfl
      rw [k5] at f2
      have f3 : DataW.trod enc Try.prog w 0 spare held m 5 (([c0, c1, c2, c3, c4, c5].drop 3).take (Try.prog.cellsOf 5)) = some y3 := hf 3 _ rfl
      rw [k5] at f3
      have f4 : DataW.trod enc Try.prog w 0 spare held m 5 (([c0, c1, c2, c3, c4, c5].drop 4).take (Try.prog.cellsOf 5)) = some y4 := hf 4 _ rfl
      rw [k5] at f4
      have f5 : DataW.trod enc Try.prog w 0 spare held m 27 (([c0, c1, c2, c3, c4, c5].drop 5).take (Try.prog.cellsOf 27)) = some y5 := hf 5 _ rfl
      rw [k27] at f5
      obtain ⟨a0, h0, _, w0⟩ := DataW.trod_int Try.underlying5 f0
      obtain ⟨a1, h1, _, w1⟩ := DataW.trod_int Try.underlying5 f1
      obtain ⟨a2, h2, _, w2⟩ := DataW.trod_int Try.underlying5 f2
      obtain ⟨a3, h3, _, w3⟩ := DataW.trod_int Try.underlying5 f3
      obtain ⟨a4, h4, _, w4⟩ := DataW.trod_int Try.underlying5 f4
      obtain ⟨a5, h5, _, w5⟩ := DataW.trod_int Try.underlying27 f5
      simp at h0 h1 h2 h3 h4 h5
      subst h0 h1 h2 h3 h4 h5
      exact ⟨a0, ⟨a1, a2, a3, a4, a5⟩, ⟨wf_u8 w0, wf_u8 w3, wf_u8 w4, wf_u16 w5⟩, fun env => by simp [Den, DenL]⟩
end Go.Proofs.Ytdadfgeepinpbaa

/- PortClears: the pieces of code and the states. -/
namespace Go.Proofs.Ytdadfgeepinpbaa
open Go Go.Proofs.Ytdadfgeepinpbaa.Sx
set_option linter.unusedVariables false
noncomputable def b5 : Code := Try.f5.body.getD .skip
noncomputable def reg5 : Code := lft (lft (restC 4 b5))
noncomputable def blk5 : Code := rgt (lft (restC 4 b5))
noncomputable def round5 : Code := lft (lft blk5)
noncomputable def regm5 : Code := lft (lft (restC 7 b5))
noncomputable def blkm5 : Code := rgt (lft (restC 7 b5))
noncomputable def roundm5 : Code := lft (lft blkm5)
noncomputable def tm5 : Code := lft roundm5
noncomputable def im5 : Code := lft (lft (rgt roundm5))
noncomputable def pa5 : Code := lft im5
noncomputable def pb5 : Code := lft (rgt im5)
noncomputable def pc5 : Code := lft (rgt (rgt im5))
noncomputable def pd5 : Code := rgt (rgt (rgt im5))
noncomputable def inc5 : Code := rgt (rgt roundm5)
noncomputable def end5 : Code := rgt (restC 7 b5)
/-- what came in -/
structure In5 where
  calls : List Cl
  cap : Nat
  more : List Cl
  cap' : Nat
  sz : Int
  dp : Int
  age : Int
  ff : Int
  tt : Int
abbrev c5v (p : In5) (i : Nat) : SVal := .sli i (.c 0) 3 (.v p.calls.length) (some (.v p.cap))
abbrev m5v (p : In5) (i : Nat) : SVal := .sli i (.c 0) 3 (.v p.more.length) (some (.v p.cap'))
abbrev n5a : List Nat := [1, 2, 3, 6, 7, 8]
abbrev n5b : List Nat := [1, 2, 6, 7, 9]
abbrev n5l : List Nat := [1, 2, 6, 7, 9, 11]
abbrev n5c : List Nat := [2, 6, 7, 9]
abbrev n5m : List Nat := [2, 6, 7, 9, 13]
abbrev n5x : List Nat := [2, 6, 7, 9, 13, 14]
/-- the call of the round -/
abbrev xB (k : Int) (s : ByteArray) (t : Int) : Blk := .own [.c (.int .i64 k), .c (.str s), .c (.int .u32 t)] 35
abbrev queV (i : Nat) (xs : List ByteArray) (dp : Int) : Blk := queB (.sli i (.c 0) 1 (.v xs.length) none) dp
/-- in the first loop -/
abbrev s5q (p : In5) (xs : List ByteArray) (q : SVal) : St := [.ro encCl p.calls, .ro encCl p.more, portQ 3 p.sz, queV 4 xs p.dp, .vec encStr xs 9, portQ 6 p.sz, queB q p.dp]
abbrev s5s (p : In5) (s : ByteArray) (t : Int) : St := [.ro encCl p.calls, .ro encCl p.more, portS 3 p.sz, samB (.str s) (.int .u32 t) p.age, portS 5 p.sz, samB (.sl []) (.lit .u32 0) p.age]
/-- in the second loop -/
abbrev s5mq (p : In5) (xs ys : List ByteArray) : St := [.ro encCl p.more, portQ 2 p.sz, queV 3 xs p.dp, .vec encStr xs 9, portQ 5 p.sz, queV 6 ys p.dp, .vec encStr ys 9]
abbrev s5ms (p : In5) (s : ByteArray) (t : Int) : St := [.ro encCl p.more, portS 2 p.sz, samB (.str s) (.int .u32 t) p.age, portS 4 p.sz, samB (.str s) (.int .u32 t) p.age]
abbrev s5xq (p : In5) (xs ys : List ByteArray) (k : Int) (s : ByteArray) (t : Int) : St := s5mq p xs ys ++ [xB k s t]
abbrev s5xs (p : In5) (s : ByteArray) (t : Int) (k : Int) (s' : ByteArray) (t' : Int) : St := s5ms p s t ++ [xB k s' t']
end Go.Proofs.Ytdadfgeepinpbaa

namespace Go.Proofs.Ytdadfgeepinpbaa
open Go Go.Proofs.Ytdadfgeepinpbaa.Sx
set_option linter.unusedVariables false
set_option maxRecDepth 100000 in
theorem p5_a {p : In5} {k : Int} : (execN cfg4 100 2 b5 ([chanV k p.ff p.tt p.sz p.dp p.age, c5v p 0, m5v p 1] ++ List.replicate 182 .bad) [.ro encCl p.calls, .ro encCl p.more]).bind (canon [] 185 n5a) =
 
 (.br (decide (p.5 < (1 : Int)))
 (.ret (.normal, [.sli 0 (.c 0) 3 (.v p.1.length) (some (.v p.2)), .sli 1 (.c 0) 3 (.v p.3.length) (some (.v p.4)), .ptr 2 0, .bl false, .pnil, .lit .i64 (190 : Int)], [.ro encCl p.1, .ro encCl p.3, .own [.c (.int .u8 k), .c (.int .u8 p.8), .c (.int .u8 p.9), .c (.int .u8 p.5), .c (.int .u8 p.6), .c (.int .u16 p.7)] 29]))
 (.br (decide ((32 : Int) < p.5))
 (.ret (.normal, [.sli 0 (.c 0) 3 (.v p.1.length) (some (.v p.2)), .sli 1 (.c 0) 3 (.v p.3.length) (some (.v p.4)), .ptr 2 0, .bl false, .pnil, .lit .i64 (190 : Int)], [.ro encCl p.1, .ro encCl p.3, .own [.c (.int .u8 k), .c (.int .u8 p.8), .c (.int .u8 p.9), .c (.int .u8 p.5), .c (.int .u8 p.6), .c (.int .u16 p.7)] 29]))
 (.br (k == (0 : Int))
 (.br (decide ((0 : Int) < p.6))
 (.br (decide (p.6 ≤ (16 : Int)))
 (.br (bitop BinOp.and IntKind.u8 p.6 (IntKind.u8.wrap (p.6 - (1 : Int))) == (0 : Int))
 (.need (inR .i64 p.6)
 (.need (inR .i64 p.5)
 (.ret (.normal, [.sli 0 (.c 0) 3 (.v p.1.length) (some (.v p.2)), .sli 1 (.c 0) 3 (.v p.3.length) (some (.v p.4)), .ptr 2 0, .bl false, .ptr 3 0, .lit .i64 (0 : Int)], [.ro encCl p.1, .ro encCl p.3, .own [.c (.int .u8 k), .c (.int .u8 p.8), .c (.int .u8 p.9), .c (.int .u8 p.5), .c (.int .u8 p.6), .c (.int .u16 p.7)] 29, .own [.c (.ifc 56 (.ptr 4 0)), .c (.int .i64 p.5)] 62, .own [.c .snil, .c (.int .i64 p.6)] 58]))))
 (.br (k == (1 : Int))
 (.br (decide ((0 : Int) < p.7))
 (.need (inR .i64 p.5)
 (.ret (.normal, [.sli 0 (.c 0) 3 (.v p.1.length) (some (.v p.2)), .sli 1 (.c 0) 3 (.v p.3.length) (some (.v p.4)), .ptr 2 0, .bl false, .ptr 3 0, .lit .i64 (0 : Int)], [.ro encCl p.1, .ro encCl p.3, .own [.c (.int .u8 k), .c (.int .u8 p.8), .c (.int .u8 p.9), .c (.int .u8 p.5), .c (.int .u8 p.6), .c (.int .u16 p.7)] 29, .own [.c (.ifc 63 (.ptr 4 0)), .c (.int .i64 p.5)] 62, .own [.c (.sl []), .c (.lit .u32 (0 : Int)), .c (.int .u16 p.7)] 65])))
 (.ret (.normal, [.sli 0 (.c 0) 3 (.v p.1.length) (some (.v p.2)), .sli 1 (.c 0) 3 (.v p.3.length) (some (.v p.4)), .ptr 2 0, .bl false, .pnil, .lit .i64 (190 : Int)], [.ro encCl p.1, .ro encCl p.3, .own [.c (.int .u8 k), .c (.int .u8 p.8), .c (.int .u8 p.9), .c (.int .u8 p.5), .c (.int .u8 p.6), .c (.int .u16 p.7)] 29])))
 (.ret (.normal, [.sli 0 (.c 0) 3 (.v p.1.length) (some (.v p.2)), .sli 1 (.c 0) 3 (.v p.3.length) (some (.v p.4)), .ptr 2 0, .bl false, .pnil, .lit .i64 (190 : Int)], [.ro encCl p.1, .ro encCl p.3, .own [.c (.int .u8 k), .c (.int .u8 p.8), .c (.int .u8 p.9), .c (.int .u8 p.5), .c (.int .u8 p.6), .c (.int .u16 p.7)] 29]))))
 (.br (k == (1 : Int))
 (.br (decide ((0 : Int) < p.7))
 (.need (inR .i64 p.5)
 (.ret (.normal, [.sli 0 (.c 0) 3 (.v p.1.length) (some (.v p.2)), .sli 1 (.c 0) 3 (.v p.3.length) (some (.v p.4)), .ptr 2 0, .bl false, .ptr 3 0, .lit .i64 (0 : Int)], [.ro encCl p.1, .ro encCl p.3, .own [.c (.int .u8 k), .c (.int .u8 p.8), .c (.int .u8 p.9), .c (.int .u8 p.5), .c (.int .u8 p.6), .c (.int .u16 p.7)] 29, .own [.c (.ifc 63 (.ptr 4 0)), .c (.int .i64 p.5)] 62, .own [.c (.sl []), .c (.lit .u32 (0 : Int)), .c (.int .u16 p.7)] 65])))
 (.ret (.normal, [.sli 0 (.c 0) 3 (.v p.1.length) (some (.v p.2)), .sli 1 (.c 0) 3 (.v p.3.length) (some (.v p.4)), .ptr 2 0, .bl false, .pnil, .lit .i64 (190 : Int)], [.ro encCl p.1, .ro encCl p.3, .own [.c (.int .u8 k), .c (.int .u8 p.8), .c (.int .u8 p.9), .c (.int .u8 p.5), .c (.int .u8 p.6), .c (.int .u16 p.7)] 29])))
 (.ret (.normal, [.sli 0 (.c 0) 3 (.v p.1.length) (some (.v p.2)), .sli 1 (.c 0) 3 (.v p.3.length) (some (.v p.4)), .ptr 2 0, .bl false, .pnil, .lit .i64 (190 : Int)], [.ro encCl p.1, .ro encCl p.3, .own [.c (.int .u8 k), .c (.int .u8 p.8), .c (.int .u8 p.9), .c (.int .u8 p.5), .c (.int .u8 p.6), .c (.int .u16 p.7)] 29]))))
 (.br (k == (1 : Int))
 (.br (decide ((0 : Int) < p.7))
 (.need (inR .i64 p.5)
 (.ret (.normal, [.sli 0 (.c 0) 3 (.v p.1.length) (some (.v p.2)), .sli 1 (.c 0) 3 (.v p.3.length) (some (.v p.4)), .ptr 2 0, .bl false, .ptr 3 0, .lit .i64 (0 : Int)], [.ro encCl p.1, .ro encCl p.3, .own [.c (.int .u8 k), .c (.int .u8 p.8), .c (.int .u8 p.9), .c (.int .u8 p.5), .c (.int .u8 p.6), .c (.int .u16 p.7)] 29, .own [.c (.ifc 63 (.ptr 4 0)), .c (.int .i64 p.5)] 62, .own [.c (.sl []), .c (.lit .u32 (0 : Int)), .c (.int .u16 p.7)] 65])))
 (.ret (.normal, [.sli 0 (.c 0) 3 (.v p.1.length) (some (.v p.2)), .sli 1 (.c 0) 3 (.v p.3.length) (some (.v p.4)), .ptr 2 0, .bl false, .pnil, .lit .i64 (190 : Int)], [.ro encCl p.1, .ro encCl p.3, .own [.c (.int .u8 k), .c (.int .u8 p.8), .c (.int .u8 p.9), .c (.int .u8 p.5), .c (.int .u8 p.6), .c (.int .u16 p.7)] 29])))
 (.ret (.normal, [.sli 0 (.c 0) 3 (.v p.1.length) (some (.v p.2)), .sli 1 (.c 0) 3 (.v p.3.length) (some (.v p.4)), .ptr 2 0, .bl false, .pnil, .lit .i64 (190 : Int)], [.ro encCl p.1, .ro encCl p.3, .own [.c (.int .u8 k), .c (.int .u8 p.8), .c (.int .u8 p.9), .c (.int .u8 p.5), .c (.int .u8 p.6), .c (.int .u16 p.7)] 29]))))
 (.br (k == (1 : Int))
 (.br (decide ((0 : Int) < p.7))
 (.need (inR .i64 p.5)
 (.ret (.normal, [.sli 0 (.c 0) 3 (.v p.1.length) (some (.v p.2)), .sli 1 (.c 0) 3 (.v p.3.length) (some (.v p.4)), .ptr 2 0, .bl false, .ptr 3 0, .lit .i64 (0 : Int)], [.ro encCl p.1, .ro encCl p.3, .own [.c (.int .u8 k), .c (.int .u8 p.8), .c (.int .u8 p.9), .c (.int .u8 p.5), .c (.int .u8 p.6), .c (.int .u16 p.7)] 29, .own [.c (.ifc 63 (.ptr 4 0)), .c (.int .i64 p.5)] 62, .own [.c (.sl []), .c (.lit .u32 (0 : Int)), .c (.int .u16 p.7)] 65])))
 (.ret (.normal, [.sli 0 (.c 0) 3 (.v p.1.length) (some (.v p.2)), .sli 1 (.c 0) 3 (.v p.3.length) (some (.v p.4)), .ptr 2 0, .bl false, .pnil, .lit .i64 (190 : Int)], [.ro encCl p.1, .ro encCl p.3, .own [.c (.int .u8 k), .c (.int .u8 p.8), .c (.int .u8 p.9), .c (.int .u8 p.5), .c (.int .u8 p.6), .c (.int .u16 p.7)] 29])))
 (.ret (.normal, [.sli 0 (.c 0) 3 (.v p.1.length) (some (.v p.2)), .sli 1 (.c 0) 3 (.v p.3.length) (some (.v p.4)), .ptr 2 0, .bl false, .pnil, .lit .i64 (190 : Int)], [.ro encCl p.1, .ro encCl p.3, .own [.c (.int .u8 k), .c (.int .u8 p.8), .c (.int .u8 p.9), .c (.int .u8 p.5), .c (.int .u8 p.6), .c (.int .u16 p.7)] 29])))))) := by kernel_rfl
set_option maxRecDepth 100000 in
theorem p5_n {p : In5} {k : Int} : (execN cfg4 100 2 (restC 2 b5) (fr 185 n5a [c5v p 0, m5v p 1, .ptr 2 0, .bl false, .pnil, .lit .i64 190]) [.ro encCl p.calls, .ro encCl p.more, choV (.int .u8 k) p.ff p.tt p.sz p.dp p.age]).bind (canon [] 185 [6]) =
 
 (.br (decide (p.5 < (1 : Int)))
 (.ret (.ret, [.bl true], []))
 (.br (decide ((32 : Int) < p.5))
 (.ret (.ret, [.bl true], []))
 (.br (k == (0 : Int))
 (.br (decide ((0 : Int) < p.6))
 (.br (decide (p.6 ≤ (16 : Int)))
 (.br (bitop BinOp.and IntKind.u8 p.6 (IntKind.u8.wrap (p.6 - (1 : Int))) == (0 : Int))
 (.need (inR .i64 p.6)
 (.need (inR .i64 p.5)
 (.ret (.ret, [.bl false], []))))
 (.br (k == (1 : Int))
 (.br (decide ((0 : Int) < p.7))
 (.need (inR .i64 p.5)
 (.ret (.ret, [.bl false], [])))
 (.ret (.ret, [.bl true], [])))
 (.ret (.ret, [.bl true], []))))
 (.br (k == (1 : Int))
 (.br (decide ((0 : Int) < p.7))
 (.need (inR .i64 p.5)
 (.ret (.ret, [.bl false], [])))
 (.ret (.ret, [.bl true], [])))
 (.ret (.ret, [.bl true], []))))
 (.br (k == (1 : Int))
 (.br (decide ((0 : Int) < p.7))
 (.need (inR .i64 p.5)
 (.ret (.ret, [.bl false], [])))
 (.ret (.ret, [.bl true], [])))
 (.ret (.ret, [.bl true], []))))
 (.br (k == (1 : Int))
 (.br (decide ((0 : Int) < p.7))
 (.need (inR .i64 p.5)
 (.ret (.ret, [.bl false], [])))
 (.ret (.ret, [.bl true], [])))
 (.ret (.ret, [.bl true], [])))))) := by kernel_rfl
set_option maxRecDepth 100000 in
theorem p5_q {p : In5} : (execN cfg4 100 2 (restC 2 b5) (fr 185 n5a [c5v p 0, m5v p 1, .ptr 2 0, .bl false, .ptr 3 0, .lit .i64 0]) [.ro encCl p.calls, .ro encCl p.more, choV (.lit .u8 0) p.ff p.tt p.sz p.dp p.age, portQ 4 p.sz, queB .snil p.dp]).bind (canon [] 185 n5b) =
 
 (.br (decide (p.5 < (1 : Int)))
 (.ret (.ret, [.sli 0 (.c 0) 3 (.v p.1.length) (some (.v p.2)), .sli 1 (.c 0) 3 (.v p.3.length) (some (.v p.4)), .bl false, .ptr 2 0, .pnil], [.ro encCl p.1, .ro encCl p.3, .own [.c (.ifc 56 (.ptr 3 0)), .c (.int .i64 p.5)] 62, .own [.c .snil, .c (.int .i64 p.6)] 58]))
 (.br (decide ((32 : Int) < p.5))
 (.ret (.ret, [.sli 0 (.c 0) 3 (.v p.1.length) (some (.v p.2)), .sli 1 (.c 0) 3 (.v p.3.length) (some (.v p.4)), .bl false, .ptr 2 0, .pnil], [.ro encCl p.1, .ro encCl p.3, .own [.c (.ifc 56 (.ptr 3 0)), .c (.int .i64 p.5)] 62, .own [.c .snil, .c (.int .i64 p.6)] 58]))
 (.br (decide ((0 : Int) < p.6))
 (.br (decide (p.6 ≤ (16 : Int)))
 (.br (bitop BinOp.and IntKind.u8 p.6 (IntKind.u8.wrap (p.6 - (1 : Int))) == (0 : Int))
 (.need (inR .i64 p.6)
 (.need (inR .i64 p.5)
 (.ret (.normal, [.sli 0 (.c 0) 3 (.v p.1.length) (some (.v p.2)), .sli 1 (.c 0) 3 (.v p.3.length) (some (.v p.4)), .bl false, .ptr 2 0, .ptr 4 0], [.ro encCl p.1, .ro encCl p.3, .own [.c (.ifc 56 (.ptr 3 0)), .c (.int .i64 p.5)] 62, .own [.c .snil, .c (.int .i64 p.6)] 58, .own [.c (.ifc 56 (.ptr 5 0)), .c (.int .i64 p.5)] 62, .own [.c .snil, .c (.int .i64 p.6)] 58]))))
 (.ret (.ret, [.sli 0 (.c 0) 3 (.v p.1.length) (some (.v p.2)), .sli 1 (.c 0) 3 (.v p.3.length) (some (.v p.4)), .bl false, .ptr 2 0, .pnil], [.ro encCl p.1, .ro encCl p.3, .own [.c (.ifc 56 (.ptr 3 0)), .c (.int .i64 p.5)] 62, .own [.c .snil, .c (.int .i64 p.6)] 58])))
 (.ret (.ret, [.sli 0 (.c 0) 3 (.v p.1.length) (some (.v p.2)), .sli 1 (.c 0) 3 (.v p.3.length) (some (.v p.4)), .bl false, .ptr 2 0, .pnil], [.ro encCl p.1, .ro encCl p.3, .own [.c (.ifc 56 (.ptr 3 0)), .c (.int .i64 p.5)] 62, .own [.c .snil, .c (.int .i64 p.6)] 58])))
 (.ret (.ret, [.sli 0 (.c 0) 3 (.v p.1.length) (some (.v p.2)), .sli 1 (.c 0) 3 (.v p.3.length) (some (.v p.4)), .bl false, .ptr 2 0, .pnil], [.ro encCl p.1, .ro encCl p.3, .own [.c (.ifc 56 (.ptr 3 0)), .c (.int .i64 p.5)] 62, .own [.c .snil, .c (.int .i64 p.6)] 58]))))) := by kernel_rfl
set_option maxRecDepth 100000 in
theorem p5_s {p : In5} : (execN cfg4 100 2 (restC 2 b5) (fr 185 n5a [c5v p 0, m5v p 1, .ptr 2 0, .bl false, .ptr 3 0, .lit .i64 0]) [.ro encCl p.calls, .ro encCl p.more, choV (.lit .u8 1) p.ff p.tt p.sz p.dp p.age, portS 4 p.sz, samB (.sl []) (.lit .u32 0) p.age]).bind (canon [] 185 n5b) =
 
 (.br (decide (p.5 < (1 : Int)))
 (.ret (.ret, [.sli 0 (.c 0) 3 (.v p.1.length) (some (.v p.2)), .sli 1 (.c 0) 3 (.v p.3.length) (some (.v p.4)), .bl false, .ptr 2 0, .pnil], [.ro encCl p.1, .ro encCl p.3, .own [.c (.ifc 63 (.ptr 3 0)), .c (.int .i64 p.5)] 62, .own [.c (.sl []), .c (.lit .u32 (0 : Int)), .c (.int .u16 p.7)] 65]))
 (.br (decide ((32 : Int) < p.5))
 (.ret (.ret, [.sli 0 (.c 0) 3 (.v p.1.length) (some (.v p.2)), .sli 1 (.c 0) 3 (.v p.3.length) (some (.v p.4)), .bl false, .ptr 2 0, .pnil], [.ro encCl p.1, .ro encCl p.3, .own [.c (.ifc 63 (.ptr 3 0)), .c (.int .i64 p.5)] 62, .own [.c (.sl []), .c (.lit .u32 (0 : Int)), .c (.int .u16 p.7)] 65]))
 (.br (decide ((0 : Int) < p.7))
 (.need (inR .i64 p.5)
 (.ret (.normal, [.sli 0 (.c 0) 3 (.v p.1.length) (some (.v p.2)), .sli 1 (.c 0) 3 (.v p.3.length) (some (.v p.4)), .bl false, .ptr 2 0, .ptr 4 0], [.ro encCl p.1, .ro encCl p.3, .own [.c (.ifc 63 (.ptr 3 0)), .c (.int .i64 p.5)] 62, .own [.c (.sl []), .c (.lit .u32 (0 : Int)), .c (.int .u16 p.7)] 65, .own [.c (.ifc 63 (.ptr 5 0)), .c (.int .i64 p.5)] 62, .own [.c (.sl []), .c (.lit .u32 (0 : Int)), .c (.int .u16 p.7)] 65])))
 (.ret (.ret, [.sli 0 (.c 0) 3 (.v p.1.length) (some (.v p.2)), .sli 1 (.c 0) 3 (.v p.3.length) (some (.v p.4)), .bl false, .ptr 2 0, .pnil], [.ro encCl p.1, .ro encCl p.3, .own [.c (.ifc 63 (.ptr 3 0)), .c (.int .i64 p.5)] 62, .own [.c (.sl []), .c (.lit .u32 (0 : Int)), .c (.int .u16 p.7)] 65]))))) := by kernel_rfl
set_option maxRecDepth 100000 in
theorem p5_regq {p : In5} : (exec cfg4 100 reg5 (fr 185 n5b [c5v p 0, m5v p 1, .bl false, .ptr 2 0, .ptr 4 0]) [.ro encCl p.calls, .ro encCl p.more, portQ 3 p.sz, queB .snil p.dp, portQ 5 p.sz, queB .snil p.dp]).bind (canon [] 185 n5l) =
 
 (.ret (.normal, [.sli 0 (.c 0) 3 (.v p.1.length) (some (.v p.2)), .sli 1 (.c 0) 3 (.v p.3.length) (some (.v p.4)), .bl false, .ptr 2 0, .ptr 4 0, .lit .i64 (0 : Int)], [.ro encCl p.1, .ro encCl p.3, .own [.c (.ifc 56 (.ptr 3 0)), .c (.int .i64 p.5)] 62, .own [.c .snil, .c (.int .i64 p.6)] 58, .own [.c (.ifc 56 (.ptr 5 0)), .c (.int .i64 p.5)] 62, .own [.c .snil, .c (.int .i64 p.6)] 58])) := by kernel_rfl
set_option maxRecDepth 100000 in
theorem p5_regs {p : In5} : (exec cfg4 100 reg5 (fr 185 n5b [c5v p 0, m5v p 1, .bl false, .ptr 2 0, .ptr 4 0]) [.ro encCl p.calls, .ro encCl p.more, portS 3 p.sz, samB (.sl []) (.lit .u32 0) p.age, portS 5 p.sz, samB (.sl []) (.lit .u32 0) p.age]).bind (canon [] 185 n5l) =
 
 (.ret (.normal, [.sli 0 (.c 0) 3 (.v p.1.length) (some (.v p.2)), .sli 1 (.c 0) 3 (.v p.3.length) (some (.v p.4)), .bl false, .ptr 2 0, .ptr 4 0, .lit .i64 (0 : Int)], [.ro encCl p.1, .ro encCl p.3, .own [.c (.ifc 63 (.ptr 3 0)), .c (.int .i64 p.5)] 62, .own [.c (.sl []), .c (.lit .u32 (0 : Int)), .c (.int .u16 p.7)] 65, .own [.c (.ifc 63 (.ptr 5 0)), .c (.int .i64 p.5)] 62, .own [.c (.sl []), .c (.lit .u32 (0 : Int)), .c (.int .u16 p.7)] 65])) := by kernel_rfl
end Go.Proofs.Ytdadfgeepinpbaa

namespace Go.Proofs.Ytdadfgeepinpbaa
open Go Go.Proofs.Ytdadfgeepinpbaa.Sx
set_option linter.unusedVariables false
set_option maxRecDepth 100000 in
theorem p5_rq {p : In5} {xs : List ByteArray} {i : Int} : (exec cfg4 100 round5 (fr 185 n5l [c5v p 0, m5v p 1, .bl false, .ptr 2 0, .ptr 5 0, .int .i64 i]) (s5q p xs .snil)).bind (canon [] 185 n5l) =
 
 (.br (decide (i < (↑p.1.length : Int)))
 (.br (decide (i < (40 : Int)))
 (.need (decide ((0 : Int) ≤ i) && decide (i.toNat < p.1.length))
 (.need (decide (i.toNat < p.1.length))
 (.need (decide (i.toNat < p.1.length))
 (.need (decide (i.toNat < p.1.length))
 (.br (decide ((1 : Int) ≤ (↑(bs (decide ((40 : Int) < (↑(p.1.getD i.toNat encCl.dflt).2.size : Int))) ((p.1.getD i.toNat encCl.dflt).2.extract 0 40) (p.1.getD i.toNat encCl.dflt).2).size : Int)))
 (.br (!decide ((↑(bs (decide ((40 : Int) < (↑(p.1.getD i.toNat encCl.dflt).2.size : Int))) ((p.1.getD i.toNat encCl.dflt).2.extract 0 40) (p.1.getD i.toNat encCl.dflt).2).size : Int) ≤ p.5))
 (.need (inR .i64 (i + (1 : Int)))
 (.ret (.normal, [.sli 0 (.c 0) 3 (.v p.1.length) (some (.v p.2)), .sli 1 (.c 0) 3 (.v p.3.length) (some (.v p.4)), .bl false, .ptr 2 0, .ptr 5 0, .int .i64 (i + (1 : Int))], [.ro encCl p.1, .ro encCl p.3, .own [.c (.ifc 56 (.ptr 3 0)), .c (.int .i64 p.5)] 62, .own [.c (.sli 4 (.c 0) 1 (.v xs.length) none), .c (.int .i64 p.6)] 58, .vec encStr xs 9, .own [.c (.ifc 56 (.ptr 6 0)), .c (.int .i64 p.5)] 62, .own [.c .snil, .c (.int .i64 p.6)] 58])))
 (.br ((↑xs.length : Int) == p.6)
 (.need (inR .i64 (i + (1 : Int)))
 (.ret (.normal, [.sli 0 (.c 0) 3 (.v p.1.length) (some (.v p.2)), .sli 1 (.c 0) 3 (.v p.3.length) (some (.v p.4)), .bl false, .ptr 2 0, .ptr 5 0, .int .i64 (i + (1 : Int))], [.ro encCl p.1, .ro encCl p.3, .own [.c (.ifc 56 (.ptr 3 0)), .c (.int .i64 p.5)] 62, .own [.c (.sli 4 (.c 0) 1 (.v xs.length) none), .c (.int .i64 p.6)] 58, .vec encStr xs 9, .own [.c (.ifc 56 (.ptr 6 0)), .c (.int .i64 p.5)] 62, .own [.c .snil, .c (.int .i64 p.6)] 58])))
 (.need (true)
 (.need (decide (xs.length = xs.length))
 (.need (roomy (xs.length + 1) 16)
 (.need (inR .i64 (i + (1 : Int)))
 (.ret (.normal, [.sli 0 (.c 0) 3 (.v p.1.length) (some (.v p.2)), .sli 1 (.c 0) 3 (.v p.3.length) (some (.v p.4)), .bl false, .ptr 2 0, .ptr 5 0, .int .i64 (i + (1 : Int))], [.ro encCl p.1, .ro encCl p.3, .own [.c (.ifc 56 (.ptr 3 0)), .c (.int .i64 p.5)] 62, .own [.c (.sli 4 (.c 0) 1 (.v (xs.length + 1)) none), .c (.int .i64 p.6)] 58, .vec encStr (xs ++ [bs (decide ((40 : Int) < (↑(p.1.getD i.toNat encCl.dflt).2.size : Int))) ((p.1.getD i.toNat encCl.dflt).2.extract 0 40) (p.1.getD i.toNat encCl.dflt).2]) 9, .own [.c (.ifc 56 (.ptr 6 0)), .c (.int .i64 p.5)] 62, .own [.c .snil, .c (.int .i64 p.6)] 58]))))))))
 (.need (inR .i64 (i + (1 : Int)))
 (.ret (.normal, [.sli 0 (.c 0) 3 (.v p.1.length) (some (.v p.2)), .sli 1 (.c 0) 3 (.v p.3.length) (some (.v p.4)), .bl false, .ptr 2 0, .ptr 5 0, .int .i64 (i + (1 : Int))], [.ro encCl p.1, .ro encCl p.3, .own [.c (.ifc 56 (.ptr 3 0)), .c (.int .i64 p.5)] 62, .own [.c (.sli 4 (.c 0) 1 (.v xs.length) none), .c (.int .i64 p.6)] 58, .vec encStr xs 9, .own [.c (.ifc 56 (.ptr 6 0)), .c (.int .i64 p.5)] 62, .own [.c .snil, .c (.int .i64 p.6)] 58]))))))))
 (.ret (.exit (0 : Nat), [.sli 0 (.c 0) 3 (.v p.1.length) (some (.v p.2)), .sli 1 (.c 0) 3 (.v p.3.length) (some (.v p.4)), .bl false, .ptr 2 0, .ptr 5 0, .int .i64 i], [.ro encCl p.1, .ro encCl p.3, .own [.c (.ifc 56 (.ptr 3 0)), .c (.int .i64 p.5)] 62, .own [.c (.sli 4 (.c 0) 1 (.v xs.length) none), .c (.int .i64 p.6)] 58, .vec encStr xs 9, .own [.c (.ifc 56 (.ptr 6 0)), .c (.int .i64 p.5)] 62, .own [.c .snil, .c (.int .i64 p.6)] 58])))
 (.ret (.exit (0 : Nat), [.sli 0 (.c 0) 3 (.v p.1.length) (some (.v p.2)), .sli 1 (.c 0) 3 (.v p.3.length) (some (.v p.4)), .bl false, .ptr 2 0, .ptr 5 0, .int .i64 i], [.ro encCl p.1, .ro encCl p.3, .own [.c (.ifc 56 (.ptr 3 0)), .c (.int .i64 p.5)] 62, .own [.c (.sli 4 (.c 0) 1 (.v xs.length) none), .c (.int .i64 p.6)] 58, .vec encStr xs 9, .own [.c (.ifc 56 (.ptr 6 0)), .c (.int .i64 p.5)] 62, .own [.c .snil, .c (.int .i64 p.6)] 58]))) := by kernel_rfl
set_option maxRecDepth 100000 in
theorem p5_rs {p : In5} {s : ByteArray} {t i : Int} : (exec cfg4 100 round5 (fr 185 n5l [c5v p 0, m5v p 1, .bl false, .ptr 2 0, .ptr 4 0, .int .i64 i]) (s5s p s t)).bind (canon [] 185 n5l) =
 
 (.br (decide (i < (↑p.1.length : Int)))
 (.br (decide (i < (40 : Int)))
 (.need (decide ((0 : Int) ≤ i) && decide (i.toNat < p.1.length))
 (.need (decide (i.toNat < p.1.length))
 (.need (decide (i.toNat < p.1.length))
 (.need (decide (i.toNat < p.1.length))
 (.br (decide ((1 : Int) ≤ (↑(bs (decide ((40 : Int) < (↑(p.1.getD i.toNat encCl.dflt).2.size : Int))) ((p.1.getD i.toNat encCl.dflt).2.extract 0 40) (p.1.getD i.toNat encCl.dflt).2).size : Int)))
 (.br (!decide ((↑(bs (decide ((40 : Int) < (↑(p.1.getD i.toNat encCl.dflt).2.size : Int))) ((p.1.getD i.toNat encCl.dflt).2.extract 0 40) (p.1.getD i.toNat encCl.dflt).2).size : Int) ≤ p.5))
 (.need (inR .i64 (i + (1 : Int)))
 (.ret (.normal, [.sli 0 (.c 0) 3 (.v p.1.length) (some (.v p.2)), .sli 1 (.c 0) 3 (.v p.3.length) (some (.v p.4)), .bl false, .ptr 2 0, .ptr 4 0, .int .i64 (i + (1 : Int))], [.ro encCl p.1, .ro encCl p.3, .own [.c (.ifc 63 (.ptr 3 0)), .c (.int .i64 p.5)] 62, .own [.c (.str s), .c (.int .u32 t), .c (.int .u16 p.7)] 65, .own [.c (.ifc 63 (.ptr 5 0)), .c (.int .i64 p.5)] 62, .own [.c (.sl []), .c (.lit .u32 (0 : Int)), .c (.int .u16 p.7)] 65])))
 (.need (inR .i64 (i + (1 : Int)))
 (.ret (.normal, [.sli 0 (.c 0) 3 (.v p.1.length) (some (.v p.2)), .sli 1 (.c 0) 3 (.v p.3.length) (some (.v p.4)), .bl false, .ptr 2 0, .ptr 4 0, .int .i64 (i + (1 : Int))], [.ro encCl p.1, .ro encCl p.3, .own [.c (.ifc 63 (.ptr 3 0)), .c (.int .i64 p.5)] 62, .own [.c (.str (bs (decide ((40 : Int) < (↑(p.1.getD i.toNat encCl.dflt).2.size : Int))) ((p.1.getD i.toNat encCl.dflt).2.extract 0 40) (p.1.getD i.toNat encCl.dflt).2)), .c (.int .u32 (p.1.getD i.toNat encCl.dflt).3), .c (.int .u16 p.7)] 65, .own [.c (.ifc 63 (.ptr 5 0)), .c (.int .i64 p.5)] 62, .own [.c (.sl []), .c (.lit .u32 (0 : Int)), .c (.int .u16 p.7)] 65]))))
 (.need (inR .i64 (i + (1 : Int)))
 (.ret (.normal, [.sli 0 (.c 0) 3 (.v p.1.length) (some (.v p.2)), .sli 1 (.c 0) 3 (.v p.3.length) (some (.v p.4)), .bl false, .ptr 2 0, .ptr 4 0, .int .i64 (i + (1 : Int))], [.ro encCl p.1, .ro encCl p.3, .own [.c (.ifc 63 (.ptr 3 0)), .c (.int .i64 p.5)] 62, .own [.c (.str s), .c (.int .u32 t), .c (.int .u16 p.7)] 65, .own [.c (.ifc 63 (.ptr 5 0)), .c (.int .i64 p.5)] 62, .own [.c (.sl []), .c (.lit .u32 (0 : Int)), .c (.int .u16 p.7)] 65]))))))))
 (.ret (.exit (0 : Nat), [.sli 0 (.c 0) 3 (.v p.1.length) (some (.v p.2)), .sli 1 (.c 0) 3 (.v p.3.length) (some (.v p.4)), .bl false, .ptr 2 0, .ptr 4 0, .int .i64 i], [.ro encCl p.1, .ro encCl p.3, .own [.c (.ifc 63 (.ptr 3 0)), .c (.int .i64 p.5)] 62, .own [.c (.str s), .c (.int .u32 t), .c (.int .u16 p.7)] 65, .own [.c (.ifc 63 (.ptr 5 0)), .c (.int .i64 p.5)] 62, .own [.c (.sl []), .c (.lit .u32 (0 : Int)), .c (.int .u16 p.7)] 65])))
 (.ret (.exit (0 : Nat), [.sli 0 (.c 0) 3 (.v p.1.length) (some (.v p.2)), .sli 1 (.c 0) 3 (.v p.3.length) (some (.v p.4)), .bl false, .ptr 2 0, .ptr 4 0, .int .i64 i], [.ro encCl p.1, .ro encCl p.3, .own [.c (.ifc 63 (.ptr 3 0)), .c (.int .i64 p.5)] 62, .own [.c (.str s), .c (.int .u32 t), .c (.int .u16 p.7)] 65, .own [.c (.ifc 63 (.ptr 5 0)), .c (.int .i64 p.5)] 62, .own [.c (.sl []), .c (.lit .u32 (0 : Int)), .c (.int .u16 p.7)] 65]))) := by kernel_rfl
set_option maxRecDepth 100000 in
theorem p5_mq {p : In5} {xs : List ByteArray} {i : Int} : (execN cfg4 100 2 (restC 5 b5) (fr 185 n5l [c5v p 0, m5v p 1, .bl false, .ptr 2 0, .ptr 5 0, .int .i64 i]) (s5q p xs .snil)).bind (canon [] 185 n5c) =
 
 (.ret (.normal, [.sli 0 (.c 0) 3 (.v p.3.length) (some (.v p.4)), .bl false, .ptr 1 0, .ptr 3 0], [.ro encCl p.3, .own [.c (.ifc 56 (.ptr 2 0)), .c (.int .i64 p.5)] 62, .own [.c .snil, .c (.int .i64 p.6)] 58, .own [.c (.ifc 56 (.ptr 4 0)), .c (.int .i64 p.5)] 62, .own [.c .snil, .c (.int .i64 p.6)] 58])) := by kernel_rfl
set_option maxRecDepth 100000 in
theorem p5_ms {p : In5} {s : ByteArray} {t i : Int} : (execN cfg4 100 2 (restC 5 b5) (fr 185 n5l [c5v p 0, m5v p 1, .bl false, .ptr 2 0, .ptr 4 0, .int .i64 i]) (s5s p s t)).bind (canon [] 185 n5c) =
 
 (.ret (.normal, [.sli 0 (.c 0) 3 (.v p.3.length) (some (.v p.4)), .bl false, .ptr 1 0, .ptr 3 0], [.ro encCl p.3, .own [.c (.ifc 63 (.ptr 2 0)), .c (.int .i64 p.5)] 62, .own [.c (.sl []), .c (.lit .u32 (0 : Int)), .c (.int .u16 p.7)] 65, .own [.c (.ifc 63 (.ptr 4 0)), .c (.int .i64 p.5)] 62, .own [.c (.sl []), .c (.lit .u32 (0 : Int)), .c (.int .u16 p.7)] 65])) := by kernel_rfl
set_option maxRecDepth 100000 in
theorem p5_regmq {p : In5} : (exec cfg4 100 regm5 (fr 185 n5c [m5v p 0, .bl false, .ptr 1 0, .ptr 3 0]) [.ro encCl p.more, portQ 2 p.sz, queB .snil p.dp, portQ 4 p.sz, queB .snil p.dp]).bind (canon [] 185 n5m) =
 
 (.ret (.normal, [.sli 0 (.c 0) 3 (.v p.3.length) (some (.v p.4)), .bl false, .ptr 1 0, .ptr 3 0, .lit .i64 (0 : Int)], [.ro encCl p.3, .own [.c (.ifc 56 (.ptr 2 0)), .c (.int .i64 p.5)] 62, .own [.c .snil, .c (.int .i64 p.6)] 58, .own [.c (.ifc 56 (.ptr 4 0)), .c (.int .i64 p.5)] 62, .own [.c .snil, .c (.int .i64 p.6)] 58])) := by kernel_rfl
set_option maxRecDepth 100000 in
theorem p5_regms {p : In5} : (exec cfg4 100 regm5 (fr 185 n5c [m5v p 0, .bl false, .ptr 1 0, .ptr 3 0]) [.ro encCl p.more, portS 2 p.sz, samB (.sl []) (.lit .u32 0) p.age, portS 4 p.sz, samB (.sl []) (.lit .u32 0) p.age]).bind (canon [] 185 n5m) =
 
 (.ret (.normal, [.sli 0 (.c 0) 3 (.v p.3.length) (some (.v p.4)), .bl false, .ptr 1 0, .ptr 3 0, .lit .i64 (0 : Int)], [.ro encCl p.3, .own [.c (.ifc 63 (.ptr 2 0)), .c (.int .i64 p.5)] 62, .own [.c (.sl []), .c (.lit .u32 (0 : Int)), .c (.int .u16 p.7)] 65, .own [.c (.ifc 63 (.ptr 4 0)), .c (.int .i64 p.5)] 62, .own [.c (.sl []), .c (.lit .u32 (0 : Int)), .c (.int .u16 p.7)] 65])) := by kernel_rfl
end Go.Proofs.Ytdadfgeepinpbaa

namespace Go.Proofs.Ytdadfgeepinpbaa
open Go Go.Proofs.Ytdadfgeepinpbaa.Sx
set_option linter.unusedVariables false
set_option maxRecDepth 100000 in
theorem p5_tq {p : In5} {xs ys : List ByteArray} {i : Int} : (exec cfg4 100 tm5 (fr 185 n5m [m5v p 0, .bl false, .ptr 1 0, .ptr 4 0, .int .i64 i]) (s5mq p xs ys)).bind (canon [] 185 n5m) =
 
 (.br (decide (i < (↑p.3.length : Int)))
 (.br (decide (i < (40 : Int)))
 (.ret (.normal, [.sli 0 (.c 0) 3 (.v p.3.length) (some (.v p.4)), .bl false, .ptr 1 0, .ptr 4 0, .int .i64 i], [.ro encCl p.3, .own [.c (.ifc 56 (.ptr 2 0)), .c (.int .i64 p.5)] 62, .own [.c (.sli 3 (.c 0) 1 (.v xs.length) none), .c (.int .i64 p.6)] 58, .vec encStr xs 9, .own [.c (.ifc 56 (.ptr 5 0)), .c (.int .i64 p.5)] 62, .own [.c (.sli 6 (.c 0) 1 (.v ys.length) none), .c (.int .i64 p.6)] 58, .vec encStr ys 9]))
 (.ret (.exit (2 : Nat), [.sli 0 (.c 0) 3 (.v p.3.length) (some (.v p.4)), .bl false, .ptr 1 0, .ptr 4 0, .int .i64 i], [.ro encCl p.3, .own [.c (.ifc 56 (.ptr 2 0)), .c (.int .i64 p.5)] 62, .own [.c (.sli 3 (.c 0) 1 (.v xs.length) none), .c (.int .i64 p.6)] 58, .vec encStr xs 9, .own [.c (.ifc 56 (.ptr 5 0)), .c (.int .i64 p.5)] 62, .own [.c (.sli 6 (.c 0) 1 (.v ys.length) none), .c (.int .i64 p.6)] 58, .vec encStr ys 9])))
 (.ret (.exit (2 : Nat), [.sli 0 (.c 0) 3 (.v p.3.length) (some (.v p.4)), .bl false, .ptr 1 0, .ptr 4 0, .int .i64 i], [.ro encCl p.3, .own [.c (.ifc 56 (.ptr 2 0)), .c (.int .i64 p.5)] 62, .own [.c (.sli 3 (.c 0) 1 (.v xs.length) none), .c (.int .i64 p.6)] 58, .vec encStr xs 9, .own [.c (.ifc 56 (.ptr 5 0)), .c (.int .i64 p.5)] 62, .own [.c (.sli 6 (.c 0) 1 (.v ys.length) none), .c (.int .i64 p.6)] 58, .vec encStr ys 9]))) := by kernel_rfl
set_option maxRecDepth 100000 in
theorem p5_paq {p : In5} {xs ys : List ByteArray} {i : Int} : (exec cfg4 100 pa5 (fr 185 n5m [m5v p 0, .bl false, .ptr 1 0, .ptr 4 0, .int .i64 i]) (s5mq p xs ys)).bind (canon [] 185 n5x) =
 
 (.need (decide ((0 : Int) ≤ i) && decide (i.toNat < p.3.length))
 (.need (decide (i.toNat < p.3.length))
 (.need (decide (i.toNat < p.3.length))
 (.need (decide (i.toNat < p.3.length))
 (.ret (.normal, [.sli 0 (.c 0) 3 (.v p.3.length) (some (.v p.4)), .bl false, .ptr 1 0, .ptr 4 0, .int .i64 i, .ptr 7 0], [.ro encCl p.3, .own [.c (.ifc 56 (.ptr 2 0)), .c (.int .i64 p.5)] 62, .own [.c (.sli 3 (.c 0) 1 (.v xs.length) none), .c (.int .i64 p.6)] 58, .vec encStr xs 9, .own [.c (.ifc 56 (.ptr 5 0)), .c (.int .i64 p.5)] 62, .own [.c (.sli 6 (.c 0) 1 (.v ys.length) none), .c (.int .i64 p.6)] 58, .vec encStr ys 9, .own [.c (.int .i64 (p.3.getD i.toNat encCl.dflt).1), .c (.str (bs (decide ((40 : Int) < (↑(p.3.getD i.toNat encCl.dflt).2.size : Int))) ((p.3.getD i.toNat encCl.dflt).2.extract 0 40) (p.3.getD i.toNat encCl.dflt).2)), .c (.int .u32 (p.3.getD i.toNat encCl.dflt).3)] 35])))))) := by kernel_rfl
set_option maxRecDepth 100000 in
theorem p5_ts {p : In5} {s : ByteArray} {t i : Int} : (exec cfg4 100 tm5 (fr 185 n5m [m5v p 0, .bl false, .ptr 1 0, .ptr 3 0, .int .i64 i]) (s5ms p s t)).bind (canon [] 185 n5m) =
 
 (.br (decide (i < (↑p.3.length : Int)))
 (.br (decide (i < (40 : Int)))
 (.ret (.normal, [.sli 0 (.c 0) 3 (.v p.3.length) (some (.v p.4)), .bl false, .ptr 1 0, .ptr 3 0, .int .i64 i], [.ro encCl p.3, .own [.c (.ifc 63 (.ptr 2 0)), .c (.int .i64 p.5)] 62, .own [.c (.str s), .c (.int .u32 t), .c (.int .u16 p.7)] 65, .own [.c (.ifc 63 (.ptr 4 0)), .c (.int .i64 p.5)] 62, .own [.c (.str s), .c (.int .u32 t), .c (.int .u16 p.7)] 65]))
 (.ret (.exit (2 : Nat), [.sli 0 (.c 0) 3 (.v p.3.length) (some (.v p.4)), .bl false, .ptr 1 0, .ptr 3 0, .int .i64 i], [.ro encCl p.3, .own [.c (.ifc 63 (.ptr 2 0)), .c (.int .i64 p.5)] 62, .own [.c (.str s), .c (.int .u32 t), .c (.int .u16 p.7)] 65, .own [.c (.ifc 63 (.ptr 4 0)), .c (.int .i64 p.5)] 62, .own [.c (.str s), .c (.int .u32 t), .c (.int .u16 p.7)] 65])))
 (.ret (.exit (2 : Nat), [.sli 0 (.c 0) 3 (.v p.3.length) (some (.v p.4)), .bl false, .ptr 1 0, .ptr 3 0, .int .i64 i], [.ro encCl p.3, .own [.c (.ifc 63 (.ptr 2 0)), .c (.int .i64 p.5)] 62, .own [.c (.str s), .c (.int .u32 t), .c (.int .u16 p.7)] 65, .own [.c (.ifc 63 (.ptr 4 0)), .c (.int .i64 p.5)] 62, .own [.c (.str s), .c (.int .u32 t), .c (.int .u16 p.7)] 65]))) := by kernel_rfl
set_option maxRecDepth 100000 in
theorem p5_pas {p : In5} {s : ByteArray} {t i : Int} : (exec cfg4 100 pa5 (fr 185 n5m [m5v p 0, .bl false, .ptr 1 0, .ptr 3 0, .int .i64 i]) (s5ms p s t)).bind (canon [] 185 n5x) =
 
 (.need (decide ((0 : Int) ≤ i) && decide (i.toNat < p.3.length))
 (.need (decide (i.toNat < p.3.length))
 (.need (decide (i.toNat < p.3.length))
 (.need (decide (i.toNat < p.3.length))
 (.ret (.normal, [.sli 0 (.c 0) 3 (.v p.3.length) (some (.v p.4)), .bl false, .ptr 1 0, .ptr 3 0, .int .i64 i, .ptr 5 0], [.ro encCl p.3, .own [.c (.ifc 63 (.ptr 2 0)), .c (.int .i64 p.5)] 62, .own [.c (.str s), .c (.int .u32 t), .c (.int .u16 p.7)] 65, .own [.c (.ifc 63 (.ptr 4 0)), .c (.int .i64 p.5)] 62, .own [.c (.str s), .c (.int .u32 t), .c (.int .u16 p.7)] 65, .own [.c (.int .i64 (p.3.getD i.toNat encCl.dflt).1), .c (.str (bs (decide ((40 : Int) < (↑(p.3.getD i.toNat encCl.dflt).2.size : Int))) ((p.3.getD i.toNat encCl.dflt).2.extract 0 40) (p.3.getD i.toNat encCl.dflt).2)), .c (.int .u32 (p.3.getD i.toNat encCl.dflt).3)] 35])))))) := by kernel_rfl
set_option maxRecDepth 100000 in
theorem p5_inq {p : In5} {xs ys : List ByteArray} {i : Int} : (exec cfg4 100 inc5 (fr 185 n5m [m5v p 0, .bl false, .ptr 1 0, .ptr 4 0, .int .i64 i]) (s5mq p xs ys)).bind (canon [] 185 n5m) =
 
 (.need (inR .i64 (i + (1 : Int)))
 (.ret (.normal, [.sli 0 (.c 0) 3 (.v p.3.length) (some (.v p.4)), .bl false, .ptr 1 0, .ptr 4 0, .int .i64 (i + (1 : Int))], [.ro encCl p.3, .own [.c (.ifc 56 (.ptr 2 0)), .c (.int .i64 p.5)] 62, .own [.c (.sli 3 (.c 0) 1 (.v xs.length) none), .c (.int .i64 p.6)] 58, .vec encStr xs 9, .own [.c (.ifc 56 (.ptr 5 0)), .c (.int .i64 p.5)] 62, .own [.c (.sli 6 (.c 0) 1 (.v ys.length) none), .c (.int .i64 p.6)] 58, .vec encStr ys 9]))) := by kernel_rfl
set_option maxRecDepth 100000 in
theorem p5_ins {p : In5} {s : ByteArray} {t i : Int} : (exec cfg4 100 inc5 (fr 185 n5m [m5v p 0, .bl false, .ptr 1 0, .ptr 3 0, .int .i64 i]) (s5ms p s t)).bind (canon [] 185 n5m) =
 
 (.need (inR .i64 (i + (1 : Int)))
 (.ret (.normal, [.sli 0 (.c 0) 3 (.v p.3.length) (some (.v p.4)), .bl false, .ptr 1 0, .ptr 3 0, .int .i64 (i + (1 : Int))], [.ro encCl p.3, .own [.c (.ifc 63 (.ptr 2 0)), .c (.int .i64 p.5)] 62, .own [.c (.str s), .c (.int .u32 t), .c (.int .u16 p.7)] 65, .own [.c (.ifc 63 (.ptr 4 0)), .c (.int .i64 p.5)] 62, .own [.c (.str s), .c (.int .u32 t), .c (.int .u16 p.7)] 65]))) := by kernel_rfl
end Go.Proofs.Ytdadfgeepinpbaa

namespace Go.Proofs.Ytdadfgeepinpbaa
open Go Go.Proofs.Ytdadfgeepinpbaa.Sx
set_option linter.unusedVariables false
set_option maxRecDepth 100000 in
theorem p5_pbq {p : In5} {xs ys : List ByteArray} {i k : Int} {s : ByteArray} {t : Int} : (exec cfg4 100 pb5 (fr 185 n5x [m5v p 0, .bl false, .ptr 1 0, .ptr 4 0, .int .i64 i, .ptr 7 0]) (s5xq p xs ys k s t)).bind (canon [] 185 n5x) =
 
 (.br (decide ((1 : Int) ≤ (↑s.size : Int)))
 (.br (!decide ((↑s.size : Int) ≤ p.5))
 (.br (decide ((1 : Int) ≤ (↑s.size : Int)))
 (.br (!decide ((↑s.size : Int) ≤ p.5))
 (.eq (T.ret (SVal.str s) = T.ret (SVal.str s))
 (.eq (T.ret (SVal.str s) = T.ret (SVal.str s))
 (.eq (T.ret (SVal.str s) = T.ret (SVal.str s))
 (.br ((↑xs.length : Int) != (↑ys.length : Int))
 (.ret (.ret, [.sli 0 (.c 0) 3 (.v p.3.length) (some (.v p.4)), .bl false, .ptr 1 0, .ptr 4 0, .int .i64 i, .ptr 7 0], [.ro encCl p.3, .own [.c (.ifc 56 (.ptr 2 0)), .c (.int .i64 p.5)] 62, .own [.c (.sli 3 (.c 0) 1 (.v xs.length) none), .c (.int .i64 p.6)] 58, .vec encStr xs 9, .own [.c (.ifc 56 (.ptr 5 0)), .c (.int .i64 p.5)] 62, .own [.c (.sli 6 (.c 0) 1 (.v ys.length) none), .c (.int .i64 p.6)] 58, .vec encStr ys 9, .own [.c (.int .i64 k), .c (.str s), .c (.int .u32 t)] 35]))
 (.ret (.normal, [.sli 0 (.c 0) 3 (.v p.3.length) (some (.v p.4)), .bl false, .ptr 1 0, .ptr 4 0, .int .i64 i, .ptr 7 0], [.ro encCl p.3, .own [.c (.ifc 56 (.ptr 2 0)), .c (.int .i64 p.5)] 62, .own [.c (.sli 3 (.c 0) 1 (.v xs.length) none), .c (.int .i64 p.6)] 58, .vec encStr xs 9, .own [.c (.ifc 56 (.ptr 5 0)), .c (.int .i64 p.5)] 62, .own [.c (.sli 6 (.c 0) 1 (.v ys.length) none), .c (.int .i64 p.6)] 58, .vec encStr ys 9, .own [.c (.int .i64 k), .c (.str s), .c (.int .u32 t)] 35]))))))
 (.br ((↑ys.length : Int) == p.6)
 (.eq (T.ret (SVal.str s) = T.ret (SVal.str s))
 (.eq (T.ret (SVal.str s) = T.ret (SVal.str s))
 (.eq (T.ret (SVal.str s) = T.ret (SVal.str s))
 (.ret (.ret, [.sli 0 (.c 0) 3 (.v p.3.length) (some (.v p.4)), .bl false, .ptr 1 0, .ptr 4 0, .int .i64 i, .ptr 7 0], [.ro encCl p.3, .own [.c (.ifc 56 (.ptr 2 0)), .c (.int .i64 p.5)] 62, .own [.c (.sli 3 (.c 0) 1 (.v xs.length) none), .c (.int .i64 p.6)] 58, .vec encStr xs 9, .own [.c (.ifc 56 (.ptr 5 0)), .c (.int .i64 p.5)] 62, .own [.c (.sli 6 (.c 0) 1 (.v ys.length) none), .c (.int .i64 p.6)] 58, .vec encStr ys 9, .own [.c (.int .i64 k), .c (.str s), .c (.int .u32 t)] 35])))))
 (.need (true)
 (.need (decide (ys.length = ys.length))
 (.need (roomy (ys.length + 1) 16)
 (.eq (T.ret (SVal.str s) = T.ret (SVal.str s))
 (.eq (T.ret (SVal.str s) = T.ret (SVal.str s))
 (.eq (T.ret (SVal.str s) = T.ret (SVal.str s))
 (.ret (.ret, [.sli 0 (.c 0) 3 (.v p.3.length) (some (.v p.4)), .bl false, .ptr 1 0, .ptr 4 0, .int .i64 i, .ptr 7 0], [.ro encCl p.3, .own [.c (.ifc 56 (.ptr 2 0)), .c (.int .i64 p.5)] 62, .own [.c (.sli 3 (.c 0) 1 (.v xs.length) none), .c (.int .i64 p.6)] 58, .vec encStr xs 9, .own [.c (.ifc 56 (.ptr 5 0)), .c (.int .i64 p.5)] 62, .own [.c (.sli 6 (.c 0) 1 (.v (ys.length + 1)) none), .c (.int .i64 p.6)] 58, .vec encStr (ys ++ [s]) 9, .own [.c (.int .i64 k), .c (.str s), .c (.int .u32 t)] 35]))))))))))
 (.eq (T.ret (SVal.str s) = T.ret (SVal.str s))
 (.eq (T.ret (SVal.str s) = T.ret (SVal.str s))
 (.eq (T.ret (SVal.str s) = T.ret (SVal.str s))
 (.br ((↑xs.length : Int) != (↑ys.length : Int))
 (.ret (.ret, [.sli 0 (.c 0) 3 (.v p.3.length) (some (.v p.4)), .bl false, .ptr 1 0, .ptr 4 0, .int .i64 i, .ptr 7 0], [.ro encCl p.3, .own [.c (.ifc 56 (.ptr 2 0)), .c (.int .i64 p.5)] 62, .own [.c (.sli 3 (.c 0) 1 (.v xs.length) none), .c (.int .i64 p.6)] 58, .vec encStr xs 9, .own [.c (.ifc 56 (.ptr 5 0)), .c (.int .i64 p.5)] 62, .own [.c (.sli 6 (.c 0) 1 (.v ys.length) none), .c (.int .i64 p.6)] 58, .vec encStr ys 9, .own [.c (.int .i64 k), .c (.str s), .c (.int .u32 t)] 35]))
 (.ret (.normal, [.sli 0 (.c 0) 3 (.v p.3.length) (some (.v p.4)), .bl false, .ptr 1 0, .ptr 4 0, .int .i64 i, .ptr 7 0], [.ro encCl p.3, .own [.c (.ifc 56 (.ptr 2 0)), .c (.int .i64 p.5)] 62, .own [.c (.sli 3 (.c 0) 1 (.v xs.length) none), .c (.int .i64 p.6)] 58, .vec encStr xs 9, .own [.c (.ifc 56 (.ptr 5 0)), .c (.int .i64 p.5)] 62, .own [.c (.sli 6 (.c 0) 1 (.v ys.length) none), .c (.int .i64 p.6)] 58, .vec encStr ys 9, .own [.c (.int .i64 k), .c (.str s), .c (.int .u32 t)] 35])))))))
 (.br ((↑xs.length : Int) == p.6)
 (.br (decide ((1 : Int) ≤ (↑s.size : Int)))
 (.br (!decide ((↑s.size : Int) ≤ p.5))
 (.eq (T.ret (SVal.str s) = T.ret (SVal.str s))
 (.eq (T.ret (SVal.str s) = T.ret (SVal.str s))
 (.eq (T.ret (SVal.str s) = T.ret (SVal.str s))
 (.ret (.ret, [.sli 0 (.c 0) 3 (.v p.3.length) (some (.v p.4)), .bl false, .ptr 1 0, .ptr 4 0, .int .i64 i, .ptr 7 0], [.ro encCl p.3, .own [.c (.ifc 56 (.ptr 2 0)), .c (.int .i64 p.5)] 62, .own [.c (.sli 3 (.c 0) 1 (.v xs.length) none), .c (.int .i64 p.6)] 58, .vec encStr xs 9, .own [.c (.ifc 56 (.ptr 5 0)), .c (.int .i64 p.5)] 62, .own [.c (.sli 6 (.c 0) 1 (.v ys.length) none), .c (.int .i64 p.6)] 58, .vec encStr ys 9, .own [.c (.int .i64 k), .c (.str s), .c (.int .u32 t)] 35])))))
 (.br ((↑ys.length : Int) == p.6)
 (.eq (T.ret (SVal.str s) = T.ret (SVal.str s))
 (.eq (T.ret (SVal.str s) = T.ret (SVal.str s))
 (.eq (T.ret (SVal.str s) = T.ret (SVal.str s))
 (.br ((↑xs.length : Int) != (↑ys.length : Int))
 (.ret (.ret, [.sli 0 (.c 0) 3 (.v p.3.length) (some (.v p.4)), .bl false, .ptr 1 0, .ptr 4 0, .int .i64 i, .ptr 7 0], [.ro encCl p.3, .own [.c (.ifc 56 (.ptr 2 0)), .c (.int .i64 p.5)] 62, .own [.c (.sli 3 (.c 0) 1 (.v xs.length) none), .c (.int .i64 p.6)] 58, .vec encStr xs 9, .own [.c (.ifc 56 (.ptr 5 0)), .c (.int .i64 p.5)] 62, .own [.c (.sli 6 (.c 0) 1 (.v ys.length) none), .c (.int .i64 p.6)] 58, .vec encStr ys 9, .own [.c (.int .i64 k), .c (.str s), .c (.int .u32 t)] 35]))
 (.ret (.normal, [.sli 0 (.c 0) 3 (.v p.3.length) (some (.v p.4)), .bl false, .ptr 1 0, .ptr 4 0, .int .i64 i, .ptr 7 0], [.ro encCl p.3, .own [.c (.ifc 56 (.ptr 2 0)), .c (.int .i64 p.5)] 62, .own [.c (.sli 3 (.c 0) 1 (.v xs.length) none), .c (.int .i64 p.6)] 58, .vec encStr xs 9, .own [.c (.ifc 56 (.ptr 5 0)), .c (.int .i64 p.5)] 62, .own [.c (.sli 6 (.c 0) 1 (.v ys.length) none), .c (.int .i64 p.6)] 58, .vec encStr ys 9, .own [.c (.int .i64 k), .c (.str s), .c (.int .u32 t)] 35]))))))
 (.need (true)
 (.need (decide (ys.length = ys.length))
 (.need (roomy (ys.length + 1) 16)
 (.eq (T.ret (SVal.str s) = T.ret (SVal.str s))
 (.eq (T.ret (SVal.str s) = T.ret (SVal.str s))
 (.eq (T.ret (SVal.str s) = T.ret (SVal.str s))
 (.ret (.ret, [.sli 0 (.c 0) 3 (.v p.3.length) (some (.v p.4)), .bl false, .ptr 1 0, .ptr 4 0, .int .i64 i, .ptr 7 0], [.ro encCl p.3, .own [.c (.ifc 56 (.ptr 2 0)), .c (.int .i64 p.5)] 62, .own [.c (.sli 3 (.c 0) 1 (.v xs.length) none), .c (.int .i64 p.6)] 58, .vec encStr xs 9, .own [.c (.ifc 56 (.ptr 5 0)), .c (.int .i64 p.5)] 62, .own [.c (.sli 6 (.c 0) 1 (.v (ys.length + 1)) none), .c (.int .i64 p.6)] 58, .vec encStr (ys ++ [s]) 9, .own [.c (.int .i64 k), .c (.str s), .c (.int .u32 t)] 35]))))))))))
 (.eq (T.ret (SVal.str s) = T.ret (SVal.str s))
 (.eq (T.ret (SVal.str s) = T.ret (SVal.str s))
 (.eq (T.ret (SVal.str s) = T.ret (SVal.str s))
 (.ret (.ret, [.sli 0 (.c 0) 3 (.v p.3.length) (some (.v p.4)), .bl false, .ptr 1 0, .ptr 4 0, .int .i64 i, .ptr 7 0], [.ro encCl p.3, .own [.c (.ifc 56 (.ptr 2 0)), .c (.int .i64 p.5)] 62, .own [.c (.sli 3 (.c 0) 1 (.v xs.length) none), .c (.int .i64 p.6)] 58, .vec encStr xs 9, .own [.c (.ifc 56 (.ptr 5 0)), .c (.int .i64 p.5)] 62, .own [.c (.sli 6 (.c 0) 1 (.v ys.length) none), .c (.int .i64 p.6)] 58, .vec encStr ys 9, .own [.c (.int .i64 k), .c (.str s), .c (.int .u32 t)] 35]))))))
 (.need (true)
 (.need (decide (xs.length = xs.length))
 (.need (roomy (xs.length + 1) 16)
 (.br (decide ((1 : Int) ≤ (↑s.size : Int)))
 (.br (!decide ((↑s.size : Int) ≤ p.5))
 (.eq (T.ret (SVal.str s) = T.ret (SVal.str s))
 (.eq (T.ret (SVal.str s) = T.ret (SVal.str s))
 (.eq (T.ret (SVal.str s) = T.ret (SVal.str s))
 (.ret (.ret, [.sli 0 (.c 0) 3 (.v p.3.length) (some (.v p.4)), .bl false, .ptr 1 0, .ptr 4 0, .int .i64 i, .ptr 7 0], [.ro encCl p.3, .own [.c (.ifc 56 (.ptr 2 0)), .c (.int .i64 p.5)] 62, .own [.c (.sli 3 (.c 0) 1 (.v (xs.length + 1)) none), .c (.int .i64 p.6)] 58, .vec encStr (xs ++ [s]) 9, .own [.c (.ifc 56 (.ptr 5 0)), .c (.int .i64 p.5)] 62, .own [.c (.sli 6 (.c 0) 1 (.v ys.length) none), .c (.int .i64 p.6)] 58, .vec encStr ys 9, .own [.c (.int .i64 k), .c (.str s), .c (.int .u32 t)] 35])))))
 (.br ((↑ys.length : Int) == p.6)
 (.eq (T.ret (SVal.str s) = T.ret (SVal.str s))
 (.eq (T.ret (SVal.str s) = T.ret (SVal.str s))
 (.eq (T.ret (SVal.str s) = T.ret (SVal.str s))
 (.ret (.ret, [.sli 0 (.c 0) 3 (.v p.3.length) (some (.v p.4)), .bl false, .ptr 1 0, .ptr 4 0, .int .i64 i, .ptr 7 0], [.ro encCl p.3, .own [.c (.ifc 56 (.ptr 2 0)), .c (.int .i64 p.5)] 62, .own [.c (.sli 3 (.c 0) 1 (.v (xs.length + 1)) none), .c (.int .i64 p.6)] 58, .vec encStr (xs ++ [s]) 9, .own [.c (.ifc 56 (.ptr 5 0)), .c (.int .i64 p.5)] 62, .own [.c (.sli 6 (.c 0) 1 (.v ys.length) none), .c (.int .i64 p.6)] 58, .vec encStr ys 9, .own [.c (.int .i64 k), .c (.str s), .c (.int .u32 t)] 35])))))
 (.need (true)
 (.need (decide (ys.length = ys.length))
 (.need (roomy (ys.length + 1) 16)
 (.eq (T.ret (SVal.str s) = T.ret (SVal.str s))
 (.eq (T.ret (SVal.str s) = T.ret (SVal.str s))
 (.eq (T.ret (SVal.str s) = T.ret (SVal.str s))
 (.br ((↑(xs.length + 1) : Int) != (↑(ys.length + 1) : Int))
 (.ret (.ret, [.sli 0 (.c 0) 3 (.v p.3.length) (some (.v p.4)), .bl false, .ptr 1 0, .ptr 4 0, .int .i64 i, .ptr 7 0], [.ro encCl p.3, .own [.c (.ifc 56 (.ptr 2 0)), .c (.int .i64 p.5)] 62, .own [.c (.sli 3 (.c 0) 1 (.v (xs.length + 1)) none), .c (.int .i64 p.6)] 58, .vec encStr (xs ++ [s]) 9, .own [.c (.ifc 56 (.ptr 5 0)), .c (.int .i64 p.5)] 62, .own [.c (.sli 6 (.c 0) 1 (.v (ys.length + 1)) none), .c (.int .i64 p.6)] 58, .vec encStr (ys ++ [s]) 9, .own [.c (.int .i64 k), .c (.str s), .c (.int .u32 t)] 35]))
 (.ret (.normal, [.sli 0 (.c 0) 3 (.v p.3.length) (some (.v p.4)), .bl false, .ptr 1 0, .ptr 4 0, .int .i64 i, .ptr 7 0], [.ro encCl p.3, .own [.c (.ifc 56 (.ptr 2 0)), .c (.int .i64 p.5)] 62, .own [.c (.sli 3 (.c 0) 1 (.v (xs.length + 1)) none), .c (.int .i64 p.6)] 58, .vec encStr (xs ++ [s]) 9, .own [.c (.ifc 56 (.ptr 5 0)), .c (.int .i64 p.5)] 62, .own [.c (.sli 6 (.c 0) 1 (.v (ys.length + 1)) none), .c (.int .i64 p.6)] 58, .vec encStr (ys ++ [s]) 9, .own [.c (.int .i64 k), .c (.str s), .c (.int .u32 t)] 35])))))))))))
 (.eq (T.ret (SVal.str s) = T.ret (SVal.str s))
 (.eq (T.ret (SVal.str s) = T.ret (SVal.str s))
 (.eq (T.ret (SVal.str s) = T.ret (SVal.str s))
 (.ret (.ret, [.sli 0 (.c 0) 3 (.v p.3.length) (some (.v p.4)), .bl false, .ptr 1 0, .ptr 4 0, .int .i64 i, .ptr 7 0], [.ro encCl p.3, .own [.c (.ifc 56 (.ptr 2 0)), .c (.int .i64 p.5)] 62, .own [.c (.sli 3 (.c 0) 1 (.v (xs.length + 1)) none), .c (.int .i64 p.6)] 58, .vec encStr (xs ++ [s]) 9, .own [.c (.ifc 56 (.ptr 5 0)), .c (.int .i64 p.5)] 62, .own [.c (.sli 6 (.c 0) 1 (.v ys.length) none), .c (.int .i64 p.6)] 58, .vec encStr ys 9, .own [.c (.int .i64 k), .c (.str s), .c (.int .u32 t)] 35])))))))))))
 (.br (decide ((1 : Int) ≤ (↑s.size : Int)))
 (.br (!decide ((↑s.size : Int) ≤ p.5))
 (.eq (T.ret (SVal.str s) = T.ret (SVal.str s))
 (.eq (T.ret (SVal.str s) = T.ret (SVal.str s))
 (.eq (T.ret (SVal.str s) = T.ret (SVal.str s))
 (.br ((↑xs.length : Int) != (↑ys.length : Int))
 (.ret (.ret, [.sli 0 (.c 0) 3 (.v p.3.length) (some (.v p.4)), .bl false, .ptr 1 0, .ptr 4 0, .int .i64 i, .ptr 7 0], [.ro encCl p.3, .own [.c (.ifc 56 (.ptr 2 0)), .c (.int .i64 p.5)] 62, .own [.c (.sli 3 (.c 0) 1 (.v xs.length) none), .c (.int .i64 p.6)] 58, .vec encStr xs 9, .own [.c (.ifc 56 (.ptr 5 0)), .c (.int .i64 p.5)] 62, .own [.c (.sli 6 (.c 0) 1 (.v ys.length) none), .c (.int .i64 p.6)] 58, .vec encStr ys 9, .own [.c (.int .i64 k), .c (.str s), .c (.int .u32 t)] 35]))
 (.ret (.normal, [.sli 0 (.c 0) 3 (.v p.3.length) (some (.v p.4)), .bl false, .ptr 1 0, .ptr 4 0, .int .i64 i, .ptr 7 0], [.ro encCl p.3, .own [.c (.ifc 56 (.ptr 2 0)), .c (.int .i64 p.5)] 62, .own [.c (.sli 3 (.c 0) 1 (.v xs.length) none), .c (.int .i64 p.6)] 58, .vec encStr xs 9, .own [.c (.ifc 56 (.ptr 5 0)), .c (.int .i64 p.5)] 62, .own [.c (.sli 6 (.c 0) 1 (.v ys.length) none), .c (.int .i64 p.6)] 58, .vec encStr ys 9, .own [.c (.int .i64 k), .c (.str s), .c (.int .u32 t)] 35]))))))
 (.br ((↑ys.length : Int) == p.6)
 (.eq (T.ret (SVal.str s) = T.ret (SVal.str s))
 (.eq (T.ret (SVal.str s) = T.ret (SVal.str s))
 (.eq (T.ret (SVal.str s) = T.ret (SVal.str s))
 (.ret (.ret, [.sli 0 (.c 0) 3 (.v p.3.length) (some (.v p.4)), .bl false, .ptr 1 0, .ptr 4 0, .int .i64 i, .ptr 7 0], [.ro encCl p.3, .own [.c (.ifc 56 (.ptr 2 0)), .c (.int .i64 p.5)] 62, .own [.c (.sli 3 (.c 0) 1 (.v xs.length) none), .c (.int .i64 p.6)] 58, .vec encStr xs 9, .own [.c (.ifc 56 (.ptr 5 0)), .c (.int .i64 p.5)] 62, .own [.c (.sli 6 (.c 0) 1 (.v ys.length) none), .c (.int .i64 p.6)] 58, .vec encStr ys 9, .own [.c (.int .i64 k), .c (.str s), .c (.int .u32 t)] 35])))))
 (.need (true)
 (.need (decide (ys.length = ys.length))
 (.need (roomy (ys.length + 1) 16)
 (.eq (T.ret (SVal.str s) = T.ret (SVal.str s))
 (.eq (T.ret (SVal.str s) = T.ret (SVal.str s))
 (.eq (T.ret (SVal.str s) = T.ret (SVal.str s))
 (.ret (.ret, [.sli 0 (.c 0) 3 (.v p.3.length) (some (.v p.4)), .bl false, .ptr 1 0, .ptr 4 0, .int .i64 i, .ptr 7 0], [.ro encCl p.3, .own [.c (.ifc 56 (.ptr 2 0)), .c (.int .i64 p.5)] 62, .own [.c (.sli 3 (.c 0) 1 (.v xs.length) none), .c (.int .i64 p.6)] 58, .vec encStr xs 9, .own [.c (.ifc 56 (.ptr 5 0)), .c (.int .i64 p.5)] 62, .own [.c (.sli 6 (.c 0) 1 (.v (ys.length + 1)) none), .c (.int .i64 p.6)] 58, .vec encStr (ys ++ [s]) 9, .own [.c (.int .i64 k), .c (.str s), .c (.int .u32 t)] 35]))))))))))
 (.eq (T.ret (SVal.str s) = T.ret (SVal.str s))
 (.eq (T.ret (SVal.str s) = T.ret (SVal.str s))
 (.eq (T.ret (SVal.str s) = T.ret (SVal.str s))
 (.br ((↑xs.length : Int) != (↑ys.length : Int))
 (.ret (.ret, [.sli 0 (.c 0) 3 (.v p.3.length) (some (.v p.4)), .bl false, .ptr 1 0, .ptr 4 0, .int .i64 i, .ptr 7 0], [.ro encCl p.3, .own [.c (.ifc 56 (.ptr 2 0)), .c (.int .i64 p.5)] 62, .own [.c (.sli 3 (.c 0) 1 (.v xs.length) none), .c (.int .i64 p.6)] 58, .vec encStr xs 9, .own [.c (.ifc 56 (.ptr 5 0)), .c (.int .i64 p.5)] 62, .own [.c (.sli 6 (.c 0) 1 (.v ys.length) none), .c (.int .i64 p.6)] 58, .vec encStr ys 9, .own [.c (.int .i64 k), .c (.str s), .c (.int .u32 t)] 35]))
 (.ret (.normal, [.sli 0 (.c 0) 3 (.v p.3.length) (some (.v p.4)), .bl false, .ptr 1 0, .ptr 4 0, .int .i64 i, .ptr 7 0], [.ro encCl p.3, .own [.c (.ifc 56 (.ptr 2 0)), .c (.int .i64 p.5)] 62, .own [.c (.sli 3 (.c 0) 1 (.v xs.length) none), .c (.int .i64 p.6)] 58, .vec encStr xs 9, .own [.c (.ifc 56 (.ptr 5 0)), .c (.int .i64 p.5)] 62, .own [.c (.sli 6 (.c 0) 1 (.v ys.length) none), .c (.int .i64 p.6)] 58, .vec encStr ys 9, .own [.c (.int .i64 k), .c (.str s), .c (.int .u32 t)] 35])))))))) := by kernel_rfl
end Go.Proofs.Ytdadfgeepinpbaa

namespace Go.Proofs.Ytdadfgeepinpbaa
open Go Go.Proofs.Ytdadfgeepinpbaa.Sx
set_option linter.unusedVariables false
set_option maxRecDepth 100000 in
theorem p5_pbs {p : In5} {s : ByteArray} {t i k : Int} {s' : ByteArray} {t' : Int} : (exec cfg4 100 pb5 (fr 185 n5x [m5v p 0, .bl false, .ptr 1 0, .ptr 3 0, .int .i64 i, .ptr 5 0]) (s5xs p s t k s' t')).bind (canon [] 185 n5x) =
 
 (.eq (T.ret (SVal.str s') = T.ret (SVal.str s'))
 (.eq (T.ret (SVal.str s') = T.ret (SVal.str s'))
 (.eq (T.ret (SVal.str s') = T.ret (SVal.str s'))
 (.br (imin (↑s.size : Int) (1 : Int) != imin (↑s.size : Int) (1 : Int))
 (.ret (.ret, [.sli 0 (.c 0) 3 (.v p.3.length) (some (.v p.4)), .bl false, .ptr 1 0, .ptr 3 0, .int .i64 i, .ptr 5 0], [.ro encCl p.3, .own [.c (.ifc 63 (.ptr 2 0)), .c (.int .i64 p.5)] 62, .own [.c (.str s), .c (.int .u32 t), .c (.int .u16 p.7)] 65, .own [.c (.ifc 63 (.ptr 4 0)), .c (.int .i64 p.5)] 62, .own [.c (.str s), .c (.int .u32 t), .c (.int .u16 p.7)] 65, .own [.c (.int .i64 k), .c (.str s'), .c (.int .u32 t')] 35]))
 (.ret (.normal, [.sli 0 (.c 0) 3 (.v p.3.length) (some (.v p.4)), .bl false, .ptr 1 0, .ptr 3 0, .int .i64 i, .ptr 5 0], [.ro encCl p.3, .own [.c (.ifc 63 (.ptr 2 0)), .c (.int .i64 p.5)] 62, .own [.c (.str s), .c (.int .u32 t), .c (.int .u16 p.7)] 65, .own [.c (.ifc 63 (.ptr 4 0)), .c (.int .i64 p.5)] 62, .own [.c (.str s), .c (.int .u32 t), .c (.int .u16 p.7)] 65, .own [.c (.int .i64 k), .c (.str s'), .c (.int .u32 t')] 35])))))) := by kernel_rfl
set_option maxRecDepth 100000 in
theorem p5_pcs {p : In5} {s : ByteArray} {t i k : Int} {s' : ByteArray} {t' : Int} : (exec cfg4 100 pc5 (fr 185 n5x [m5v p 0, .bl false, .ptr 1 0, .ptr 3 0, .int .i64 i, .ptr 5 0]) (s5xs p s t k s' t')).bind (canon [] 185 n5x) =
 
 (.br (bitop BinOp.and IntKind.i64 k (1 : Int) == (1 : Int))
 (.ret (.normal, [.sli 0 (.c 0) 3 (.v p.3.length) (some (.v p.4)), .bl false, .ptr 1 0, .ptr 3 0, .int .i64 i, .ptr 5 0], [.ro encCl p.3, .own [.c (.ifc 63 (.ptr 2 0)), .c (.int .i64 p.5)] 62, .own [.c (.str s), .c (.int .u32 t), .c (.int .u16 p.7)] 65, .own [.c (.ifc 63 (.ptr 4 0)), .c (.int .i64 p.5)] 62, .own [.c (.str s), .c (.int .u32 t), .c (.int .u16 p.7)] 65, .own [.c (.int .i64 k), .c (.str s'), .c (.int .u32 t')] 35]))
 (.br (decide ((1 : Int) ≤ (↑s'.size : Int)))
 (.br (!decide ((↑s'.size : Int) ≤ p.5))
 (.br (decide ((1 : Int) ≤ (↑s'.size : Int)))
 (.br (!decide ((↑s'.size : Int) ≤ p.5))
 (.eq (T.ret (SVal.str s') = T.ret (SVal.str s'))
 (.eq (T.ret (SVal.int .u32 t') = T.ret (SVal.int .u32 t'))
 (.eq (T.ret (SVal.str s') = T.ret (SVal.str s'))
 (.eq (T.ret (SVal.str s') = T.ret (SVal.str s'))
 (.eq (T.ret (SVal.int .u32 t') = T.ret (SVal.int .u32 t'))
 (.eq (T.ret (SVal.int .u32 t') = T.ret (SVal.int .u32 t'))
 (.ret (.normal, [.sli 0 (.c 0) 3 (.v p.3.length) (some (.v p.4)), .bl false, .ptr 1 0, .ptr 3 0, .int .i64 i, .ptr 5 0], [.ro encCl p.3, .own [.c (.ifc 63 (.ptr 2 0)), .c (.int .i64 p.5)] 62, .own [.c (.str s), .c (.int .u32 t), .c (.int .u16 p.7)] 65, .own [.c (.ifc 63 (.ptr 4 0)), .c (.int .i64 p.5)] 62, .own [.c (.str s), .c (.int .u32 t), .c (.int .u16 p.7)] 65, .own [.c (.int .i64 k), .c (.str s'), .c (.int .u32 t')] 35]))))))))
 (.eq (T.ret (SVal.str s') = T.ret (SVal.str s'))
 (.eq (T.ret (SVal.int .u32 t') = T.ret (SVal.int .u32 t'))
 (.eq (T.ret (SVal.str s') = T.ret (SVal.str s'))
 (.eq (T.ret (SVal.str s') = T.ret (SVal.str s'))
 (.eq (T.ret (SVal.int .u32 t') = T.ret (SVal.int .u32 t'))
 (.eq (T.ret (SVal.int .u32 t') = T.ret (SVal.int .u32 t'))
 (.ret (.ret, [.sli 0 (.c 0) 3 (.v p.3.length) (some (.v p.4)), .bl false, .ptr 1 0, .ptr 3 0, .int .i64 i, .ptr 5 0], [.ro encCl p.3, .own [.c (.ifc 63 (.ptr 2 0)), .c (.int .i64 p.5)] 62, .own [.c (.str s), .c (.int .u32 t), .c (.int .u16 p.7)] 65, .own [.c (.ifc 63 (.ptr 4 0)), .c (.int .i64 p.5)] 62, .own [.c (.str s'), .c (.int .u32 t'), .c (.int .u16 p.7)] 65, .own [.c (.int .i64 k), .c (.str s'), .c (.int .u32 t')] 35])))))))))
 (.eq (T.ret (SVal.str s') = T.ret (SVal.str s'))
 (.eq (T.ret (SVal.int .u32 t') = T.ret (SVal.int .u32 t'))
 (.eq (T.ret (SVal.str s') = T.ret (SVal.str s'))
 (.eq (T.ret (SVal.str s') = T.ret (SVal.str s'))
 (.eq (T.ret (SVal.int .u32 t') = T.ret (SVal.int .u32 t'))
 (.eq (T.ret (SVal.int .u32 t') = T.ret (SVal.int .u32 t'))
 (.ret (.normal, [.sli 0 (.c 0) 3 (.v p.3.length) (some (.v p.4)), .bl false, .ptr 1 0, .ptr 3 0, .int .i64 i, .ptr 5 0], [.ro encCl p.3, .own [.c (.ifc 63 (.ptr 2 0)), .c (.int .i64 p.5)] 62, .own [.c (.str s), .c (.int .u32 t), .c (.int .u16 p.7)] 65, .own [.c (.ifc 63 (.ptr 4 0)), .c (.int .i64 p.5)] 62, .own [.c (.str s), .c (.int .u32 t), .c (.int .u16 p.7)] 65, .own [.c (.int .i64 k), .c (.str s'), .c (.int .u32 t')] 35])))))))))
 (.br (decide ((1 : Int) ≤ (↑s'.size : Int)))
 (.br (!decide ((↑s'.size : Int) ≤ p.5))
 (.eq (T.ret (SVal.str s') = T.ret (SVal.str s'))
 (.eq (T.ret (SVal.int .u32 t') = T.ret (SVal.int .u32 t'))
 (.eq (T.ret (SVal.str s') = T.ret (SVal.str s'))
 (.eq (T.ret (SVal.str s') = T.ret (SVal.str s'))
 (.eq (T.ret (SVal.int .u32 t') = T.ret (SVal.int .u32 t'))
 (.eq (T.ret (SVal.int .u32 t') = T.ret (SVal.int .u32 t'))
 (.ret (.ret, [.sli 0 (.c 0) 3 (.v p.3.length) (some (.v p.4)), .bl false, .ptr 1 0, .ptr 3 0, .int .i64 i, .ptr 5 0], [.ro encCl p.3, .own [.c (.ifc 63 (.ptr 2 0)), .c (.int .i64 p.5)] 62, .own [.c (.str s'), .c (.int .u32 t'), .c (.int .u16 p.7)] 65, .own [.c (.ifc 63 (.ptr 4 0)), .c (.int .i64 p.5)] 62, .own [.c (.str s), .c (.int .u32 t), .c (.int .u16 p.7)] 65, .own [.c (.int .i64 k), .c (.str s'), .c (.int .u32 t')] 35]))))))))
 (.eq (T.ret (SVal.str s') = T.ret (SVal.str s'))
 (.eq (T.ret (SVal.int .u32 t') = T.ret (SVal.int .u32 t'))
 (.eq (T.ret (SVal.str s') = T.ret (SVal.str s'))
 (.eq (T.ret (SVal.str s') = T.ret (SVal.str s'))
 (.eq (T.ret (SVal.int .u32 t') = T.ret (SVal.int .u32 t'))
 (.eq (T.ret (SVal.int .u32 t') = T.ret (SVal.int .u32 t'))
 (.ret (.normal, [.sli 0 (.c 0) 3 (.v p.3.length) (some (.v p.4)), .bl false, .ptr 1 0, .ptr 3 0, .int .i64 i, .ptr 5 0], [.ro encCl p.3, .own [.c (.ifc 63 (.ptr 2 0)), .c (.int .i64 p.5)] 62, .own [.c (.str s'), .c (.int .u32 t'), .c (.int .u16 p.7)] 65, .own [.c (.ifc 63 (.ptr 4 0)), .c (.int .i64 p.5)] 62, .own [.c (.str s'), .c (.int .u32 t'), .c (.int .u16 p.7)] 65, .own [.c (.int .i64 k), .c (.str s'), .c (.int .u32 t')] 35])))))))))
 (.eq (T.ret (SVal.str s') = T.ret (SVal.str s'))
 (.eq (T.ret (SVal.int .u32 t') = T.ret (SVal.int .u32 t'))
 (.eq (T.ret (SVal.str s') = T.ret (SVal.str s'))
 (.eq (T.ret (SVal.str s') = T.ret (SVal.str s'))
 (.eq (T.ret (SVal.int .u32 t') = T.ret (SVal.int .u32 t'))
 (.eq (T.ret (SVal.int .u32 t') = T.ret (SVal.int .u32 t'))
 (.ret (.ret, [.sli 0 (.c 0) 3 (.v p.3.length) (some (.v p.4)), .bl false, .ptr 1 0, .ptr 3 0, .int .i64 i, .ptr 5 0], [.ro encCl p.3, .own [.c (.ifc 63 (.ptr 2 0)), .c (.int .i64 p.5)] 62, .own [.c (.str s'), .c (.int .u32 t'), .c (.int .u16 p.7)] 65, .own [.c (.ifc 63 (.ptr 4 0)), .c (.int .i64 p.5)] 62, .own [.c (.str s), .c (.int .u32 t), .c (.int .u16 p.7)] 65, .own [.c (.int .i64 k), .c (.str s'), .c (.int .u32 t')] 35]))))))))))
 (.br (decide ((1 : Int) ≤ (↑s'.size : Int)))
 (.br (!decide ((↑s'.size : Int) ≤ p.5))
 (.eq (T.ret (SVal.str s') = T.ret (SVal.str s'))
 (.eq (T.ret (SVal.int .u32 t') = T.ret (SVal.int .u32 t'))
 (.eq (T.ret (SVal.str s') = T.ret (SVal.str s'))
 (.eq (T.ret (SVal.str s') = T.ret (SVal.str s'))
 (.eq (T.ret (SVal.int .u32 t') = T.ret (SVal.int .u32 t'))
 (.eq (T.ret (SVal.int .u32 t') = T.ret (SVal.int .u32 t'))
 (.ret (.normal, [.sli 0 (.c 0) 3 (.v p.3.length) (some (.v p.4)), .bl false, .ptr 1 0, .ptr 3 0, .int .i64 i, .ptr 5 0], [.ro encCl p.3, .own [.c (.ifc 63 (.ptr 2 0)), .c (.int .i64 p.5)] 62, .own [.c (.str s), .c (.int .u32 t), .c (.int .u16 p.7)] 65, .own [.c (.ifc 63 (.ptr 4 0)), .c (.int .i64 p.5)] 62, .own [.c (.str s), .c (.int .u32 t), .c (.int .u16 p.7)] 65, .own [.c (.int .i64 k), .c (.str s'), .c (.int .u32 t')] 35]))))))))
 (.eq (T.ret (SVal.str s') = T.ret (SVal.str s'))
 (.eq (T.ret (SVal.int .u32 t') = T.ret (SVal.int .u32 t'))
 (.eq (T.ret (SVal.str s') = T.ret (SVal.str s'))
 (.eq (T.ret (SVal.str s') = T.ret (SVal.str s'))
 (.eq (T.ret (SVal.int .u32 t') = T.ret (SVal.int .u32 t'))
 (.eq (T.ret (SVal.int .u32 t') = T.ret (SVal.int .u32 t'))
 (.ret (.ret, [.sli 0 (.c 0) 3 (.v p.3.length) (some (.v p.4)), .bl false, .ptr 1 0, .ptr 3 0, .int .i64 i, .ptr 5 0], [.ro encCl p.3, .own [.c (.ifc 63 (.ptr 2 0)), .c (.int .i64 p.5)] 62, .own [.c (.str s), .c (.int .u32 t), .c (.int .u16 p.7)] 65, .own [.c (.ifc 63 (.ptr 4 0)), .c (.int .i64 p.5)] 62, .own [.c (.str s'), .c (.int .u32 t'), .c (.int .u16 p.7)] 65, .own [.c (.int .i64 k), .c (.str s'), .c (.int .u32 t')] 35])))))))))
 (.eq (T.ret (SVal.str s') = T.ret (SVal.str s'))
 (.eq (T.ret (SVal.int .u32 t') = T.ret (SVal.int .u32 t'))
 (.eq (T.ret (SVal.str s') = T.ret (SVal.str s'))
 (.eq (T.ret (SVal.str s') = T.ret (SVal.str s'))
 (.eq (T.ret (SVal.int .u32 t') = T.ret (SVal.int .u32 t'))
 (.eq (T.ret (SVal.int .u32 t') = T.ret (SVal.int .u32 t'))
 (.ret (.normal, [.sli 0 (.c 0) 3 (.v p.3.length) (some (.v p.4)), .bl false, .ptr 1 0, .ptr 3 0, .int .i64 i, .ptr 5 0], [.ro encCl p.3, .own [.c (.ifc 63 (.ptr 2 0)), .c (.int .i64 p.5)] 62, .own [.c (.str s), .c (.int .u32 t), .c (.int .u16 p.7)] 65, .own [.c (.ifc 63 (.ptr 4 0)), .c (.int .i64 p.5)] 62, .own [.c (.str s), .c (.int .u32 t), .c (.int .u16 p.7)] 65, .own [.c (.int .i64 k), .c (.str s'), .c (.int .u32 t')] 35]))))))))))) := by kernel_rfl
set_option maxRecDepth 100000 in
theorem p5_pds {p : In5} {s : ByteArray} {t i k : Int} {s' : ByteArray} {t' : Int} : (exec cfg4 100 pd5 (fr 185 n5x [m5v p 0, .bl false, .ptr 1 0, .ptr 3 0, .int .i64 i, .ptr 5 0]) (s5xs p s t k s' t')).bind (canon [] 185 n5m) =
 
 (.br (strEq s { data := { toList := [] } })
 (.br (strEq s { data := { toList := [] } })
 (.ret (.normal, [.sli 0 (.c 0) 3 (.v p.3.length) (some (.v p.4)), .bl false, .ptr 1 0, .ptr 3 0, .int .i64 i], [.ro encCl p.3, .own [.c (.ifc 63 (.ptr 2 0)), .c (.int .i64 p.5)] 62, .own [.c (.str s), .c (.int .u32 t), .c (.int .u16 p.7)] 65, .own [.c (.ifc 63 (.ptr 4 0)), .c (.int .i64 p.5)] 62, .own [.c (.str s), .c (.int .u32 t), .c (.int .u16 p.7)] 65]))
 (.br (p.7 == (0 : Int))
 (.eq (T.ret (SVal.int .u32 t) = T.ret (SVal.int .u32 t))
 (.eq (T.ret (SVal.int .u16 p.7) = T.ret (SVal.int .u16 p.7))
 (.br (!strEq { data := { toList := [] } } s)
 (.ret (.ret, [.sli 0 (.c 0) 3 (.v p.3.length) (some (.v p.4)), .bl false, .ptr 1 0, .ptr 3 0, .int .i64 i], [.ro encCl p.3, .own [.c (.ifc 63 (.ptr 2 0)), .c (.int .i64 p.5)] 62, .own [.c (.str s), .c (.int .u32 t), .c (.int .u16 p.7)] 65, .own [.c (.ifc 63 (.ptr 4 0)), .c (.int .i64 p.5)] 62, .own [.c (.str s), .c (.int .u32 t), .c (.int .u16 p.7)] 65]))
 (.ret (.ret, [.sli 0 (.c 0) 3 (.v p.3.length) (some (.v p.4)), .bl false, .ptr 1 0, .ptr 3 0, .int .i64 i], [.ro encCl p.3, .own [.c (.ifc 63 (.ptr 2 0)), .c (.int .i64 p.5)] 62, .own [.c (.str s), .c (.int .u32 t), .c (.int .u16 p.7)] 65, .own [.c (.ifc 63 (.ptr 4 0)), .c (.int .i64 p.5)] 62, .own [.c (.str s), .c (.int .u32 t), .c (.int .u16 p.7)] 65])))))
 (.need (inR .u32 p.7)
 (.eq (T.ret (SVal.int .u32 t) = T.ret (SVal.int .u32 t))
 (.eq (T.ret (SVal.int .u16 p.7) = T.ret (SVal.int .u16 p.7))
 (.br (!strEq { data := { toList := [] } } s)
 (.ret (.ret, [.sli 0 (.c 0) 3 (.v p.3.length) (some (.v p.4)), .bl false, .ptr 1 0, .ptr 3 0, .int .i64 i], [.ro encCl p.3, .own [.c (.ifc 63 (.ptr 2 0)), .c (.int .i64 p.5)] 62, .own [.c (.str s), .c (.int .u32 t), .c (.int .u16 p.7)] 65, .own [.c (.ifc 63 (.ptr 4 0)), .c (.int .i64 p.5)] 62, .own [.c (.str s), .c (.int .u32 t), .c (.int .u16 p.7)] 65]))
 (.br (!false == decide (IntKind.u32.wrap (t' - t) < p.7))
 (.ret (.ret, [.sli 0 (.c 0) 3 (.v p.3.length) (some (.v p.4)), .bl false, .ptr 1 0, .ptr 3 0, .int .i64 i], [.ro encCl p.3, .own [.c (.ifc 63 (.ptr 2 0)), .c (.int .i64 p.5)] 62, .own [.c (.str s), .c (.int .u32 t), .c (.int .u16 p.7)] 65, .own [.c (.ifc 63 (.ptr 4 0)), .c (.int .i64 p.5)] 62, .own [.c (.str s), .c (.int .u32 t), .c (.int .u16 p.7)] 65]))
 (.ret (.ret, [.sli 0 (.c 0) 3 (.v p.3.length) (some (.v p.4)), .bl false, .ptr 1 0, .ptr 3 0, .int .i64 i], [.ro encCl p.3, .own [.c (.ifc 63 (.ptr 2 0)), .c (.int .i64 p.5)] 62, .own [.c (.str s), .c (.int .u32 t), .c (.int .u16 p.7)] 65, .own [.c (.ifc 63 (.ptr 4 0)), .c (.int .i64 p.5)] 62, .own [.c (.str s), .c (.int .u32 t), .c (.int .u16 p.7)] 65])))))))))
 (.br (p.7 == (0 : Int))
 (.eq (T.ret (SVal.int .u32 t) = T.ret (SVal.int .u32 t))
 (.eq (T.ret (SVal.int .u16 p.7) = T.ret (SVal.int .u16 p.7))
 (.br (strEq s { data := { toList := [] } })
 (.br (!strEq s { data := { toList := [] } })
 (.ret (.ret, [.sli 0 (.c 0) 3 (.v p.3.length) (some (.v p.4)), .bl false, .ptr 1 0, .ptr 3 0, .int .i64 i], [.ro encCl p.3, .own [.c (.ifc 63 (.ptr 2 0)), .c (.int .i64 p.5)] 62, .own [.c (.str s), .c (.int .u32 t), .c (.int .u16 p.7)] 65, .own [.c (.ifc 63 (.ptr 4 0)), .c (.int .i64 p.5)] 62, .own [.c (.str s), .c (.int .u32 t), .c (.int .u16 p.7)] 65]))
 (.ret (.ret, [.sli 0 (.c 0) 3 (.v p.3.length) (some (.v p.4)), .bl false, .ptr 1 0, .ptr 3 0, .int .i64 i], [.ro encCl p.3, .own [.c (.ifc 63 (.ptr 2 0)), .c (.int .i64 p.5)] 62, .own [.c (.str s), .c (.int .u32 t), .c (.int .u16 p.7)] 65, .own [.c (.ifc 63 (.ptr 4 0)), .c (.int .i64 p.5)] 62, .own [.c (.str s), .c (.int .u32 t), .c (.int .u16 p.7)] 65])))
 (.br (p.7 == (0 : Int))
 (.eq (T.ret (SVal.int .u32 t) = T.ret (SVal.int .u32 t))
 (.eq (T.ret (SVal.int .u16 p.7) = T.ret (SVal.int .u16 p.7))
 (.br (!strEq s s)
 (.ret (.ret, [.sli 0 (.c 0) 3 (.v p.3.length) (some (.v p.4)), .bl false, .ptr 1 0, .ptr 3 0, .int .i64 i], [.ro encCl p.3, .own [.c (.ifc 63 (.ptr 2 0)), .c (.int .i64 p.5)] 62, .own [.c (.str s), .c (.int .u32 t), .c (.int .u16 p.7)] 65, .own [.c (.ifc 63 (.ptr 4 0)), .c (.int .i64 p.5)] 62, .own [.c (.str s), .c (.int .u32 t), .c (.int .u16 p.7)] 65]))
 (.ret (.normal, [.sli 0 (.c 0) 3 (.v p.3.length) (some (.v p.4)), .bl false, .ptr 1 0, .ptr 3 0, .int .i64 i], [.ro encCl p.3, .own [.c (.ifc 63 (.ptr 2 0)), .c (.int .i64 p.5)] 62, .own [.c (.str s), .c (.int .u32 t), .c (.int .u16 p.7)] 65, .own [.c (.ifc 63 (.ptr 4 0)), .c (.int .i64 p.5)] 62, .own [.c (.str s), .c (.int .u32 t), .c (.int .u16 p.7)] 65])))))
 (.need (inR .u32 p.7)
 (.eq (T.ret (SVal.int .u32 t) = T.ret (SVal.int .u32 t))
 (.eq (T.ret (SVal.int .u16 p.7) = T.ret (SVal.int .u16 p.7))
 (.br (!strEq s s)
 (.ret (.ret, [.sli 0 (.c 0) 3 (.v p.3.length) (some (.v p.4)), .bl false, .ptr 1 0, .ptr 3 0, .int .i64 i], [.ro encCl p.3, .own [.c (.ifc 63 (.ptr 2 0)), .c (.int .i64 p.5)] 62, .own [.c (.str s), .c (.int .u32 t), .c (.int .u16 p.7)] 65, .own [.c (.ifc 63 (.ptr 4 0)), .c (.int .i64 p.5)] 62, .own [.c (.str s), .c (.int .u32 t), .c (.int .u16 p.7)] 65]))
 (.br (!false == decide (IntKind.u32.wrap (t' - t) < p.7))
 (.ret (.ret, [.sli 0 (.c 0) 3 (.v p.3.length) (some (.v p.4)), .bl false, .ptr 1 0, .ptr 3 0, .int .i64 i], [.ro encCl p.3, .own [.c (.ifc 63 (.ptr 2 0)), .c (.int .i64 p.5)] 62, .own [.c (.str s), .c (.int .u32 t), .c (.int .u16 p.7)] 65, .own [.c (.ifc 63 (.ptr 4 0)), .c (.int .i64 p.5)] 62, .own [.c (.str s), .c (.int .u32 t), .c (.int .u16 p.7)] 65]))
 (.ret (.normal, [.sli 0 (.c 0) 3 (.v p.3.length) (some (.v p.4)), .bl false, .ptr 1 0, .ptr 3 0, .int .i64 i], [.ro encCl p.3, .own [.c (.ifc 63 (.ptr 2 0)), .c (.int .i64 p.5)] 62, .own [.c (.str s), .c (.int .u32 t), .c (.int .u16 p.7)] 65, .own [.c (.ifc 63 (.ptr 4 0)), .c (.int .i64 p.5)] 62, .own [.c (.str s), .c (.int .u32 t), .c (.int .u16 p.7)] 65])))))))))))
 (.need (inR .u32 p.7)
 (.eq (T.ret (SVal.int .u32 t) = T.ret (SVal.int .u32 t))
 (.eq (T.ret (SVal.int .u16 p.7) = T.ret (SVal.int .u16 p.7))
 (.br (strEq s { data := { toList := [] } })
 (.br (!strEq s { data := { toList := [] } })
 (.ret (.ret, [.sli 0 (.c 0) 3 (.v p.3.length) (some (.v p.4)), .bl false, .ptr 1 0, .ptr 3 0, .int .i64 i], [.ro encCl p.3, .own [.c (.ifc 63 (.ptr 2 0)), .c (.int .i64 p.5)] 62, .own [.c (.str s), .c (.int .u32 t), .c (.int .u16 p.7)] 65, .own [.c (.ifc 63 (.ptr 4 0)), .c (.int .i64 p.5)] 62, .own [.c (.str s), .c (.int .u32 t), .c (.int .u16 p.7)] 65]))
 (.br (!decide (IntKind.u32.wrap (t' - t) < p.7) == false)
 (.ret (.ret, [.sli 0 (.c 0) 3 (.v p.3.length) (some (.v p.4)), .bl false, .ptr 1 0, .ptr 3 0, .int .i64 i], [.ro encCl p.3, .own [.c (.ifc 63 (.ptr 2 0)), .c (.int .i64 p.5)] 62, .own [.c (.str s), .c (.int .u32 t), .c (.int .u16 p.7)] 65, .own [.c (.ifc 63 (.ptr 4 0)), .c (.int .i64 p.5)] 62, .own [.c (.str s), .c (.int .u32 t), .c (.int .u16 p.7)] 65]))
 (.ret (.ret, [.sli 0 (.c 0) 3 (.v p.3.length) (some (.v p.4)), .bl false, .ptr 1 0, .ptr 3 0, .int .i64 i], [.ro encCl p.3, .own [.c (.ifc 63 (.ptr 2 0)), .c (.int .i64 p.5)] 62, .own [.c (.str s), .c (.int .u32 t), .c (.int .u16 p.7)] 65, .own [.c (.ifc 63 (.ptr 4 0)), .c (.int .i64 p.5)] 62, .own [.c (.str s), .c (.int .u32 t), .c (.int .u16 p.7)] 65]))))
 (.br (p.7 == (0 : Int))
 (.eq (T.ret (SVal.int .u32 t) = T.ret (SVal.int .u32 t))
 (.eq (T.ret (SVal.int .u16 p.7) = T.ret (SVal.int .u16 p.7))
 (.br (!strEq s s)
 (.ret (.ret, [.sli 0 (.c 0) 3 (.v p.3.length) (some (.v p.4)), .bl false, .ptr 1 0, .ptr 3 0, .int .i64 i], [.ro encCl p.3, .own [.c (.ifc 63 (.ptr 2 0)), .c (.int .i64 p.5)] 62, .own [.c (.str s), .c (.int .u32 t), .c (.int .u16 p.7)] 65, .own [.c (.ifc 63 (.ptr 4 0)), .c (.int .i64 p.5)] 62, .own [.c (.str s), .c (.int .u32 t), .c (.int .u16 p.7)] 65]))
 (.br (!decide (IntKind.u32.wrap (t' - t) < p.7) == false)
 (.ret (.ret, [.sli 0 (.c 0) 3 (.v p.3.length) (some (.v p.4)), .bl false, .ptr 1 0, .ptr 3 0, .int .i64 i], [.ro encCl p.3, .own [.c (.ifc 63 (.ptr 2 0)), .c (.int .i64 p.5)] 62, .own [.c (.str s), .c (.int .u32 t), .c (.int .u16 p.7)] 65, .own [.c (.ifc 63 (.ptr 4 0)), .c (.int .i64 p.5)] 62, .own [.c (.str s), .c (.int .u32 t), .c (.int .u16 p.7)] 65]))
 (.ret (.normal, [.sli 0 (.c 0) 3 (.v p.3.length) (some (.v p.4)), .bl false, .ptr 1 0, .ptr 3 0, .int .i64 i], [.ro encCl p.3, .own [.c (.ifc 63 (.ptr 2 0)), .c (.int .i64 p.5)] 62, .own [.c (.str s), .c (.int .u32 t), .c (.int .u16 p.7)] 65, .own [.c (.ifc 63 (.ptr 4 0)), .c (.int .i64 p.5)] 62, .own [.c (.str s), .c (.int .u32 t), .c (.int .u16 p.7)] 65]))))))
 (.need (inR .u32 p.7)
 (.eq (T.ret (SVal.int .u32 t) = T.ret (SVal.int .u32 t))
 (.eq (T.ret (SVal.int .u16 p.7) = T.ret (SVal.int .u16 p.7))
 (.br (!strEq s s)
 (.ret (.ret, [.sli 0 (.c 0) 3 (.v p.3.length) (some (.v p.4)), .bl false, .ptr 1 0, .ptr 3 0, .int .i64 i], [.ro encCl p.3, .own [.c (.ifc 63 (.ptr 2 0)), .c (.int .i64 p.5)] 62, .own [.c (.str s), .c (.int .u32 t), .c (.int .u16 p.7)] 65, .own [.c (.ifc 63 (.ptr 4 0)), .c (.int .i64 p.5)] 62, .own [.c (.str s), .c (.int .u32 t), .c (.int .u16 p.7)] 65]))
 (.br (!decide (IntKind.u32.wrap (t' - t) < p.7) == decide (IntKind.u32.wrap (t' - t) < p.7))
 (.ret (.ret, [.sli 0 (.c 0) 3 (.v p.3.length) (some (.v p.4)), .bl false, .ptr 1 0, .ptr 3 0, .int .i64 i], [.ro encCl p.3, .own [.c (.ifc 63 (.ptr 2 0)), .c (.int .i64 p.5)] 62, .own [.c (.str s), .c (.int .u32 t), .c (.int .u16 p.7)] 65, .own [.c (.ifc 63 (.ptr 4 0)), .c (.int .i64 p.5)] 62, .own [.c (.str s), .c (.int .u32 t), .c (.int .u16 p.7)] 65]))
 (.ret (.normal, [.sli 0 (.c 0) 3 (.v p.3.length) (some (.v p.4)), .bl false, .ptr 1 0, .ptr 3 0, .int .i64 i], [.ro encCl p.3, .own [.c (.ifc 63 (.ptr 2 0)), .c (.int .i64 p.5)] 62, .own [.c (.str s), .c (.int .u32 t), .c (.int .u16 p.7)] 65, .own [.c (.ifc 63 (.ptr 4 0)), .c (.int .i64 p.5)] 62, .own [.c (.str s), .c (.int .u32 t), .c (.int .u16 p.7)] 65])))))))))))))) := by kernel_rfl
end Go.Proofs.Ytdadfgeepinpbaa

namespace Go.Proofs.Ytdadfgeepinpbaa
open Go Go.Proofs.Ytdadfgeepinpbaa.Sx
set_option linter.unusedVariables false
set_option maxRecDepth 100000 in
theorem p5_pcq {p : In5} {xs ys : List ByteArray} {i k : Int} {s : ByteArray} {t : Int} : (exec cfg4 100 pc5 (fr 185 n5x [m5v p 0, .bl false, .ptr 1 0, .ptr 4 0, .int .i64 i, .ptr 7 0]) (s5xq p xs ys k s t)).bind (canon [] 185 n5x) =
 
 (.br (bitop BinOp.and IntKind.i64 k (1 : Int) == (1 : Int))
 (.br ((↑xs.length : Int) == (0 : Int))
 (.br ((↑ys.length : Int) == (0 : Int))
 (.ret (.normal, [.sli 0 (.c 0) 3 (.v p.3.length) (some (.v p.4)), .bl false, .ptr 1 0, .ptr 4 0, .int .i64 i, .ptr 7 0], [.ro encCl p.3, .own [.c (.ifc 56 (.ptr 2 0)), .c (.int .i64 p.5)] 62, .own [.c (.sli 3 (.c 0) 1 (.v xs.length) none), .c (.int .i64 p.6)] 58, .vec encStr xs 9, .own [.c (.ifc 56 (.ptr 5 0)), .c (.int .i64 p.5)] 62, .own [.c (.sli 6 (.c 0) 1 (.v ys.length) none), .c (.int .i64 p.6)] 58, .vec encStr ys 9, .own [.c (.int .i64 k), .c (.str s), .c (.int .u32 t)] 35]))
 (.need (decide (0 < ys.length))
 (.need (decide (0 < ys.length))
 (.need (decide (ys.length ≤ ys.length))
 (.need (decide (1 ≤ ys.length))
 (.need (decide (1 + (ys.length - 1) ≤ ys.length))
 (.need (decide (1 + (ys.length - 1) ≤ ys.length))
 (.need (roomy (List.take (ys.length - 1) (List.drop 1 ys)).length 16)
 (.br (!strEq { data := { toList := [] } } (ys.getD 0 { data := { toList := [] } }))
 (.ret (.ret, [.sli 0 (.c 0) 3 (.v p.3.length) (some (.v p.4)), .bl false, .ptr 1 0, .ptr 4 0, .int .i64 i, .ptr 7 0], [.ro encCl p.3, .own [.c (.ifc 56 (.ptr 2 0)), .c (.int .i64 p.5)] 62, .own [.c (.sli 3 (.c 0) 1 (.v xs.length) none), .c (.int .i64 p.6)] 58, .vec encStr xs 9, .own [.c (.ifc 56 (.ptr 5 0)), .c (.int .i64 p.5)] 62, .own [.c (.sli 6 (.c 0) 1 (.v (List.take (ys.length - 1) (List.drop 1 ys)).length) none), .c (.int .i64 p.6)] 58, .vec encStr (List.take (ys.length - 1) (List.drop 1 ys)) 9, .own [.c (.int .i64 k), .c (.str s), .c (.int .u32 t)] 35]))
 (.ret (.ret, [.sli 0 (.c 0) 3 (.v p.3.length) (some (.v p.4)), .bl false, .ptr 1 0, .ptr 4 0, .int .i64 i, .ptr 7 0], [.ro encCl p.3, .own [.c (.ifc 56 (.ptr 2 0)), .c (.int .i64 p.5)] 62, .own [.c (.sli 3 (.c 0) 1 (.v xs.length) none), .c (.int .i64 p.6)] 58, .vec encStr xs 9, .own [.c (.ifc 56 (.ptr 5 0)), .c (.int .i64 p.5)] 62, .own [.c (.sli 6 (.c 0) 1 (.v (List.take (ys.length - 1) (List.drop 1 ys)).length) none), .c (.int .i64 p.6)] 58, .vec encStr (List.take (ys.length - 1) (List.drop 1 ys)) 9, .own [.c (.int .i64 k), .c (.str s), .c (.int .u32 t)] 35])))))))))))
 (.need (decide (0 < xs.length))
 (.need (decide (0 < xs.length))
 (.need (decide (xs.length ≤ xs.length))
 (.need (decide (1 ≤ xs.length))
 (.need (decide (1 + (xs.length - 1) ≤ xs.length))
 (.need (decide (1 + (xs.length - 1) ≤ xs.length))
 (.need (roomy (List.take (xs.length - 1) (List.drop 1 xs)).length 16)
 (.br ((↑ys.length : Int) == (0 : Int))
 (.br (!strEq (xs.getD 0 { data := { toList := [] } }) { data := { toList := [] } })
 (.ret (.ret, [.sli 0 (.c 0) 3 (.v p.3.length) (some (.v p.4)), .bl false, .ptr 1 0, .ptr 4 0, .int .i64 i, .ptr 7 0], [.ro encCl p.3, .own [.c (.ifc 56 (.ptr 2 0)), .c (.int .i64 p.5)] 62, .own [.c (.sli 3 (.c 0) 1 (.v (List.take (xs.length - 1) (List.drop 1 xs)).length) none), .c (.int .i64 p.6)] 58, .vec encStr (List.take (xs.length - 1) (List.drop 1 xs)) 9, .own [.c (.ifc 56 (.ptr 5 0)), .c (.int .i64 p.5)] 62, .own [.c (.sli 6 (.c 0) 1 (.v ys.length) none), .c (.int .i64 p.6)] 58, .vec encStr ys 9, .own [.c (.int .i64 k), .c (.str s), .c (.int .u32 t)] 35]))
 (.ret (.ret, [.sli 0 (.c 0) 3 (.v p.3.length) (some (.v p.4)), .bl false, .ptr 1 0, .ptr 4 0, .int .i64 i, .ptr 7 0], [.ro encCl p.3, .own [.c (.ifc 56 (.ptr 2 0)), .c (.int .i64 p.5)] 62, .own [.c (.sli 3 (.c 0) 1 (.v (List.take (xs.length - 1) (List.drop 1 xs)).length) none), .c (.int .i64 p.6)] 58, .vec encStr (List.take (xs.length - 1) (List.drop 1 xs)) 9, .own [.c (.ifc 56 (.ptr 5 0)), .c (.int .i64 p.5)] 62, .own [.c (.sli 6 (.c 0) 1 (.v ys.length) none), .c (.int .i64 p.6)] 58, .vec encStr ys 9, .own [.c (.int .i64 k), .c (.str s), .c (.int .u32 t)] 35])))
 (.need (decide (0 < ys.length))
 (.need (decide (0 < ys.length))
 (.need (decide (ys.length ≤ ys.length))
 (.need (decide (1 ≤ ys.length))
 (.need (decide (1 + (ys.length - 1) ≤ ys.length))
 (.need (decide (1 + (ys.length - 1) ≤ ys.length))
 (.need (roomy (List.take (ys.length - 1) (List.drop 1 ys)).length 16)
 (.br (!strEq (xs.getD 0 { data := { toList := [] } }) (ys.getD 0 { data := { toList := [] } }))
 (.ret (.ret, [.sli 0 (.c 0) 3 (.v p.3.length) (some (.v p.4)), .bl false, .ptr 1 0, .ptr 4 0, .int .i64 i, .ptr 7 0], [.ro encCl p.3, .own [.c (.ifc 56 (.ptr 2 0)), .c (.int .i64 p.5)] 62, .own [.c (.sli 3 (.c 0) 1 (.v (List.take (xs.length - 1) (List.drop 1 xs)).length) none), .c (.int .i64 p.6)] 58, .vec encStr (List.take (xs.length - 1) (List.drop 1 xs)) 9, .own [.c (.ifc 56 (.ptr 5 0)), .c (.int .i64 p.5)] 62, .own [.c (.sli 6 (.c 0) 1 (.v (List.take (ys.length - 1) (List.drop 1 ys)).length) none), .c (.int .i64 p.6)] 58, .vec encStr (List.take (ys.length - 1) (List.drop 1 ys)) 9, .own [.c (.int .i64 k), .c (.str s), .c (.int .u32 t)] 35]))
 (.ret (.normal, [.sli 0 (.c 0) 3 (.v p.3.length) (some (.v p.4)), .bl false, .ptr 1 0, .ptr 4 0, .int .i64 i, .ptr 7 0], [.ro encCl p.3, .own [.c (.ifc 56 (.ptr 2 0)), .c (.int .i64 p.5)] 62, .own [.c (.sli 3 (.c 0) 1 (.v (List.take (xs.length - 1) (List.drop 1 xs)).length) none), .c (.int .i64 p.6)] 58, .vec encStr (List.take (xs.length - 1) (List.drop 1 xs)) 9, .own [.c (.ifc 56 (.ptr 5 0)), .c (.int .i64 p.5)] 62, .own [.c (.sli 6 (.c 0) 1 (.v (List.take (ys.length - 1) (List.drop 1 ys)).length) none), .c (.int .i64 p.6)] 58, .vec encStr (List.take (ys.length - 1) (List.drop 1 ys)) 9, .own [.c (.int .i64 k), .c (.str s), .c (.int .u32 t)] 35])))))))))))))))))))
 (.eq (T.ret (SVal.str s) = T.ret (SVal.str s))
 (.eq (T.ret (SVal.int .u32 t) = T.ret (SVal.int .u32 t))
 (.eq (T.ret (SVal.str s) = T.ret (SVal.str s))
 (.eq (T.ret (SVal.str s) = T.ret (SVal.str s))
 (.eq (T.ret (SVal.int .u32 t) = T.ret (SVal.int .u32 t))
 (.eq (T.ret (SVal.int .u32 t) = T.ret (SVal.int .u32 t))
 (.ret (.normal, [.sli 0 (.c 0) 3 (.v p.3.length) (some (.v p.4)), .bl false, .ptr 1 0, .ptr 4 0, .int .i64 i, .ptr 7 0], [.ro encCl p.3, .own [.c (.ifc 56 (.ptr 2 0)), .c (.int .i64 p.5)] 62, .own [.c (.sli 3 (.c 0) 1 (.v xs.length) none), .c (.int .i64 p.6)] 58, .vec encStr xs 9, .own [.c (.ifc 56 (.ptr 5 0)), .c (.int .i64 p.5)] 62, .own [.c (.sli 6 (.c 0) 1 (.v ys.length) none), .c (.int .i64 p.6)] 58, .vec encStr ys 9, .own [.c (.int .i64 k), .c (.str s), .c (.int .u32 t)] 35]))))))))) := by kernel_rfl
set_option maxRecDepth 100000 in
theorem p5_pdq {p : In5} {xs ys : List ByteArray} {i k : Int} {s : ByteArray} {t : Int} : (exec cfg4 100 pd5 (fr 185 n5x [m5v p 0, .bl false, .ptr 1 0, .ptr 4 0, .int .i64 i, .ptr 7 0]) (s5xq p xs ys k s t)).bind (canon [] 185 n5m) =
 
 (.ret (.normal, [.sli 0 (.c 0) 3 (.v p.3.length) (some (.v p.4)), .bl false, .ptr 1 0, .ptr 4 0, .int .i64 i], [.ro encCl p.3, .own [.c (.ifc 56 (.ptr 2 0)), .c (.int .i64 p.5)] 62, .own [.c (.sli 3 (.c 0) 1 (.v xs.length) none), .c (.int .i64 p.6)] 58, .vec encStr xs 9, .own [.c (.ifc 56 (.ptr 5 0)), .c (.int .i64 p.5)] 62, .own [.c (.sli 6 (.c 0) 1 (.v ys.length) none), .c (.int .i64 p.6)] 58, .vec encStr ys 9])) := by kernel_rfl
end Go.Proofs.Ytdadfgeepinpbaa

/- PortClears: the second loop. -/
namespace Go.Proofs.Ytdadfgeepinpbaa
open Go Go.Proofs.Ytdadfgeepinpbaa.Sx
set_option linter.unusedVariables false
abbrev Q5 (w0 : From) : Exit → Act → World → Prop := bodyPost Try.prog Try.f5 (Said w0)
theorem strEq_self (s : ByteArray) : strEq s s = true := by rw [strEq_iff]
theorem end5_ok {w0 : From} {vals : List SVal} {st : St} {env : Env} {a : Act} {w : World} (h : At [] w0 env (fr 185 n5m vals) st a w) : end5.wp Try.prog (Q5 w0) a w := by
  have ht : (exec cfg4 100 end5 (fr 185 [] []) []).bind (canon [] 185 [6]) = (.ret (.ret, [.bl true], [])) := by kernel_rfl
  obtain ⟨env', h'⟩ := h.canon (N := 185) [] (vals := []) (st' := []) (by rfl)
  refine pieceT (c := cfg4) cfg4_ok [6] ht h' (all_ret fun env' a' w' hA' => ?_)
  exact hA'.said (by kernel_rfl)
abbrev sqn (p : In5) (xs : List ByteArray) (n m : Nat) : St := [.ro encCl p.more, portQ 2 p.sz, queB (.sli 3 (.c 0) 1 (.v n) none) p.dp, .vec encStr xs 9, portQ 5 p.sz, queB (.sli 6 (.c 0) 1 (.v m) none) p.dp, .vec encStr xs 9]
def I2q (w0 : From) (p : In5) (j : List ByteArray × Nat) (a : Act) (w : World) : Prop :=
  j.2 ≤ 40 ∧ j.1.length ≤ j.2 ∧ ∃ env, At [] w0 env (fr 185 n5m [m5v p 0, .bl false, .ptr 1 0, .ptr 4 0, .int .i64 (j.2 : Nat)]) (s5mq p j.1 j.1) a w
def I2s (w0 : From) (p : In5) (j : (ByteArray × Int) × Nat) (a : Act) (w : World) : Prop :=
  j.2 ≤ 40 ∧ ∃ env, At [] w0 env (fr 185 n5m [m5v p 0, .bl false, .ptr 1 0, .ptr 3 0, .int .i64 (j.2 : Nat)]) (s5ms p j.1.1 j.1.2) a w
abbrev R2 {ι : Type} (w0 : From) (I : ι × Nat → Act → World → Prop) (i : Nat) : Exit → Act → World → Prop :=
  Exit.then (fun a' w' => ∃ k, I k a' w' ∧ 40 - k.2 < 40 - i) (Exit.inBlock 2 (Exit.then (end5.wp Try.prog (Q5 w0)) (Q5 w0)))
abbrev K2 {ι : Type} (w0 : From) (I : ι × Nat → Act → World → Prop) (i : Nat) : Exit → Act → World → Prop :=
  Exit.inBlock 3 (Exit.then (inc5.wp Try.prog (R2 w0 I i)) (R2 w0 I i))
theorem exit5 {ι : Type} {I : ι × Nat → Act → World → Prop} {w0 : From} {i : Nat} {a : Act} {w : World} {env : Env} {vals : List SVal} {st : St} (h : At [] w0 env (fr 185 n5m vals) st a w) : R2 w0 I i (.exit 2) a w := by
  simp only [R2, Exit.then, Exit.inBlock, if_true]
  exact end5_ok h
theorem incq {w0 : From} {p : In5} {xs : List ByteArray} {n m i : Nat} (hi : i < 40) (hx : xs.length ≤ i + 1) (hn : n = xs.length) (hm : m = xs.length) {env : Env} {a : Act} {w : World}
    (hA : At [] w0 env (fr 185 n5m [m5v p 0, .bl false, .ptr 1 0, .ptr 4 0, .int .i64 (i : Nat)]) (sqn p xs n m) a w) : inc5.wp Try.prog (R2 w0 (I2q w0 p) i) a w := by
  subst hn hm
  refine pieceT cfg4_ok n5m p5_inq hA ?_
  refine all_needp (by simp only [inR_i64]; exact Iff.rfl) (by omega) fun _ => all_ret fun env' a' w' hA' => ?_
  exact ⟨(xs, i + 1), ⟨by simp only; omega, hx, env', hA'⟩, by simp only; omega⟩
theorem pdq {w0 : From} {p : In5} {xs : List ByteArray} {n m i : Nat} (hi : i < 40) (hx : xs.length ≤ i + 1) (hn : n = xs.length) (hm : m = xs.length) {k : Int} {s : ByteArray} {t : Int} {env : Env} {a : Act} {w : World}
    (hA : At [] w0 env (fr 185 n5x [m5v p 0, .bl false, .ptr 1 0, .ptr 4 0, .int .i64 (i : Nat), .ptr 7 0]) (sqn p xs n m ++ [xB k s t]) a w) : pd5.wp Try.prog (K2 w0 (I2q w0 p) i) a w := by
  subst hn hm
  refine pieceT cfg4_ok n5m p5_pdq hA (all_ret fun env' a' w' hA' => ?_)
  exact incq hi hx rfl rfl hA'
set_option maxHeartbeats 4000000 in
theorem pcq {w0 : From} {p : In5} {xs : List ByteArray} {n m i : Nat} (hi : i < 40) (hx : xs.length ≤ i + 1) (hn : n = xs.length) (hm : m = xs.length) {k : Int} {s : ByteArray} {t : Int} {env : Env} {a : Act} {w : World}
    (hA : At [] w0 env (fr 185 n5x [m5v p 0, .bl false, .ptr 1 0, .ptr 4 0, .int .i64 (i : Nat), .ptr 7 0]) (sqn p xs n m ++ [xB k s t]) a w) : pc5.wp Try.prog (Exit.then (pd5.wp Try.prog (K2 w0 (I2q w0 p) i)) (K2 w0 (I2q w0 p) i)) a w := by
  subst hn hm
  refine pieceT cfg4_ok n5x p5_pcq hA ?_
  repeat' (first
    | refine all_brp (by simp only [decide_eq_true_eq, Bool.not_eq_true', beq_iff_eq, bne_iff_ne, strEq_self, Bool.not_true, Bool.false_eq_true, ne_eq]; exact Iff.rfl) (fun _ => ?_) (fun _ => ?_)
    | refine all_needp (by simp only [decide_eq_true_eq, Bool.and_eq_true, roomy_iff, List.length_take, List.length_drop]; exact Iff.rfl) ?_ (fun _ => ?_)
    | refine all_br (fun _ => ?_) (fun _ => ?_)
    | refine all_eq rfl ?_
    | refine all_ret (fun _ _ _ _ => ?_))
  all_goals first
    | omega
    | trivial
    | (exfalso; omega)
    | (refine (show pd5.wp Try.prog (K2 w0 (I2q w0 p) i) _ _ from pdq hi ?_ ?_ ?_ ‹_›) <;> first | omega | rfl)
    | (refine (show pd5.wp Try.prog (K2 w0 (I2q w0 p) i) _ _ from pdq hi ?_ ?_ ?_ ‹_›) <;> first | rfl | omega | (simp only [List.length_take, List.length_drop] <;> omega))
    | (exfalso; assumption)
set_option maxHeartbeats 4000000 in
theorem pbq {w0 : From} {p : In5} {xs : List ByteArray} {i : Nat} (hi : i < 40) (hx : xs.length ≤ i) {k : Int} {s : ByteArray} {t : Int} {env : Env} {a : Act} {w : World}
    (hA : At [] w0 env (fr 185 n5x [m5v p 0, .bl false, .ptr 1 0, .ptr 4 0, .int .i64 (i : Nat), .ptr 7 0]) (s5xq p xs xs k s t) a w) : pb5.wp Try.prog (Exit.then ((rgt (rgt im5)).wp Try.prog (K2 w0 (I2q w0 p) i)) (K2 w0 (I2q w0 p) i)) a w := by
  have go : ∀ {xs : List ByteArray} {n m : Nat} {env : Env} {a : Act} {w : World}, xs.length ≤ i + 1 → n = xs.length → m = xs.length → At [] w0 env (fr 185 n5x [m5v p 0, .bl false, .ptr 1 0, .ptr 4 0, .int .i64 (i : Nat), .ptr 7 0]) (sqn p xs n m ++ [xB k s t]) a w →
      (rgt (rgt im5)).wp Try.prog (K2 w0 (I2q w0 p) i) a w := fun h1 h2 h3 h4 => wpS (by kernel_rfl) (pcq hi h1 h2 h3 h4)
  refine pieceT cfg4_ok n5x p5_pbq hA ?_
  repeat' (first
    | refine all_brp (by simp only [decide_eq_true_eq, Bool.not_eq_true', decide_eq_false_iff_not, beq_iff_eq, bne_iff_ne, strEq_self, Bool.not_true, Bool.false_eq_true, ne_eq]; exact Iff.rfl) (fun _ => ?_) (fun _ => ?_)
    | refine all_needp (by simp only [decide_eq_true_eq, Bool.and_eq_true, roomy_iff, List.length_take, List.length_drop]; exact Iff.rfl) ?_ (fun _ => ?_)
    | refine all_br (fun _ => ?_) (fun _ => ?_)
    | refine all_eq rfl ?_
    | refine all_ret (fun _ _ _ _ => ?_))
  all_goals first
    | omega
    | trivial
    | (exfalso; omega)
    | (refine (show (rgt (rgt im5)).wp Try.prog (K2 w0 (I2q w0 p) i) _ _ from go ?_ ?_ ?_ ‹_›) <;> first | omega | rfl)
    | (refine (show (rgt (rgt im5)).wp Try.prog (K2 w0 (I2q w0 p) i) _ _ from go ?_ ?_ ?_ ‹_›) <;> first | rfl | omega | (simp only [List.length_append, List.length_cons, List.length_nil] <;> omega))
theorem roundq {w0 : From} {p : In5} {xs : List ByteArray} {i : Nat} (hi : i ≤ 40) (hx : xs.length ≤ i) {env : Env} {a : Act} {w : World}
    (hA : At [] w0 env (fr 185 n5m [m5v p 0, .bl false, .ptr 1 0, .ptr 4 0, .int .i64 (i : Nat)]) (s5mq p xs xs) a w) : roundm5.wp Try.prog (R2 w0 (I2q w0 p) i) a w := by
  refine wpS (by kernel_rfl) ?_
  refine pieceT cfg4_ok n5m p5_tq hA ?_
  repeat' (first
    | refine all_brp (by simp only [decide_eq_true_eq]; exact Iff.rfl) (fun _ => ?_) (fun _ => ?_)
    | refine all_ret (fun _ _ _ _ => ?_))
  · rename_i h1 h2 env' a' w' hA'
    refine (show (rgt roundm5).wp Try.prog (R2 w0 (I2q w0 p) i) a' w' from wpS (by kernel_rfl) (wpB 3 (by kernel_rfl) ?_))
    refine (show im5.wp Try.prog (K2 w0 (I2q w0 p) i) a' w' from wpS (by kernel_rfl) ?_)
    refine pieceT cfg4_ok n5x p5_paq hA' ?_
    generalize bs _ _ _ = s0
    repeat' (first
      | refine all_needp (by simp only [decide_eq_true_eq, Bool.and_eq_true]; exact Iff.rfl) (by omega) (fun _ => ?_)
      | refine all_ret (fun _ _ _ _ => ?_))
    exact (show (rgt im5).wp Try.prog (K2 w0 (I2q w0 p) i) _ _ from wpS (by kernel_rfl) (pbq (by omega) hx ‹_›))
  · exact (show R2 w0 (I2q w0 p) i (.exit 2) _ _ from exit5 ‹_›)
  · exact (show R2 w0 (I2q w0 p) i (.exit 2) _ _ from exit5 ‹_›)
end Go.Proofs.Ytdadfgeepinpbaa

/- PortClears: the second loop of a sampling port; the first loops. -/
namespace Go.Proofs.Ytdadfgeepinpbaa
open Go Go.Proofs.Ytdadfgeepinpbaa.Sx
set_option linter.unusedVariables false
theorem incs {w0 : From} {p : In5} {s : ByteArray} {t : Int} {i : Nat} (hi : i < 40) {env : Env} {a : Act} {w : World}
    (hA : At [] w0 env (fr 185 n5m [m5v p 0, .bl false, .ptr 1 0, .ptr 3 0, .int .i64 (i : Nat)]) (s5ms p s t) a w) : inc5.wp Try.prog (R2 w0 (I2s w0 p) i) a w := by
  refine pieceT cfg4_ok n5m p5_ins hA ?_
  refine all_needp (by simp only [inR_i64]; exact Iff.rfl) (by omega) fun _ => all_ret fun env' a' w' hA' => ?_
  exact ⟨((s, t), i + 1), ⟨by simp only; omega, env', hA'⟩, by simp only; omega⟩
set_option maxHeartbeats 4000000 in
theorem pds {w0 : From} {p : In5} (ha : 0 < p.age ∧ p.age ≤ 65535) {s : ByteArray} {t : Int} {i : Nat} (hi : i < 40) {k : Int} {s' : ByteArray} {t' : Int} {env : Env} {a : Act} {w : World}
    (hA : At [] w0 env (fr 185 n5x [m5v p 0, .bl false, .ptr 1 0, .ptr 3 0, .int .i64 (i : Nat), .ptr 5 0]) (s5xs p s t k s' t') a w) : pd5.wp Try.prog (K2 w0 (I2s w0 p) i) a w := by
  refine pieceT cfg4_ok n5m p5_pds hA ?_
  repeat' (first
    | refine all_brp (by simp only [decide_eq_true_eq, Bool.not_eq_true', beq_iff_eq, bne_iff_ne, bne_self_eq_false, beq_self_eq_true, strEq_self, strEq_nil, Bool.not_true, Bool.false_eq_true, ne_eq]; exact Iff.rfl) (fun _ => ?_) (fun _ => ?_)
    | refine all_needp (by simp only [decide_eq_true_eq, Bool.and_eq_true, inR_u32]; exact Iff.rfl) ?_ (fun _ => ?_)
    | refine all_br (fun _ => ?_) (fun _ => ?_)
    | refine all_eq rfl ?_
    | refine all_ret (fun _ _ _ _ => ?_))
  all_goals first
    | omega
    | trivial
    | (exfalso; omega)
    | exact (show inc5.wp Try.prog (R2 w0 (I2s w0 p) i) _ _ from incs hi ‹_›)
    | (exfalso; assumption)
    | (exfalso; simp_all; done)
set_option maxHeartbeats 4000000 in
theorem pcs {w0 : From} {p : In5} (ha : 0 < p.age ∧ p.age ≤ 65535) {s : ByteArray} {t : Int} {i : Nat} (hi : i < 40) {k : Int} {s' : ByteArray} {t' : Int} {env : Env} {a : Act} {w : World}
    (hA : At [] w0 env (fr 185 n5x [m5v p 0, .bl false, .ptr 1 0, .ptr 3 0, .int .i64 (i : Nat), .ptr 5 0]) (s5xs p s t k s' t') a w) : pc5.wp Try.prog (Exit.then (pd5.wp Try.prog (K2 w0 (I2s w0 p) i)) (K2 w0 (I2s w0 p) i)) a w := by
  refine pieceT cfg4_ok n5x p5_pcs hA ?_
  repeat' (first
    | refine all_brp (by simp only [decide_eq_true_eq, Bool.not_eq_true', beq_iff_eq, bne_iff_ne, strEq_self, Bool.not_true, Bool.false_eq_true, ne_eq]; exact Iff.rfl) (fun _ => ?_) (fun _ => ?_)
    | refine all_needp (by simp only [decide_eq_true_eq, Bool.and_eq_true, roomy_iff]; exact Iff.rfl) ?_ (fun _ => ?_)
    | refine all_br (fun _ => ?_) (fun _ => ?_)
    | refine all_eq rfl ?_
    | refine all_ret (fun _ _ _ _ => ?_))
  all_goals first
    | omega
    | trivial
    | (exfalso; omega)
    | exact (show pd5.wp Try.prog (K2 w0 (I2s w0 p) i) _ _ from pds ha hi ‹_›)
    | (exfalso; assumption)
theorem pbs {w0 : From} {p : In5} (ha : 0 < p.age ∧ p.age ≤ 65535) {s : ByteArray} {t : Int} {i : Nat} (hi : i < 40) {k : Int} {s' : ByteArray} {t' : Int} {env : Env} {a : Act} {w : World}
    (hA : At [] w0 env (fr 185 n5x [m5v p 0, .bl false, .ptr 1 0, .ptr 3 0, .int .i64 (i : Nat), .ptr 5 0]) (s5xs p s t k s' t') a w) : pb5.wp Try.prog (Exit.then ((rgt (rgt im5)).wp Try.prog (K2 w0 (I2s w0 p) i)) (K2 w0 (I2s w0 p) i)) a w := by
  refine pieceT cfg4_ok n5x p5_pbs hA ?_
  repeat' (first
    | refine all_brp (by simp only [bne_self_eq_false, Bool.false_eq_true]; exact Iff.rfl) (fun _ => ?_) (fun _ => ?_)
    | refine all_br (fun _ => ?_) (fun _ => ?_)
    | refine all_eq rfl ?_
    | refine all_ret (fun _ _ _ _ => ?_))
  all_goals first
    | exact (show (rgt (rgt im5)).wp Try.prog (K2 w0 (I2s w0 p) i) _ _ from wpS (by kernel_rfl) (pcs ha hi ‹_›))
    | (exfalso; assumption)
    | (exfalso; simp_all; done)
theorem rounds {w0 : From} {p : In5} (ha : 0 < p.age ∧ p.age ≤ 65535) {s : ByteArray} {t : Int} {i : Nat} (hi : i ≤ 40) {env : Env} {a : Act} {w : World}
    (hA : At [] w0 env (fr 185 n5m [m5v p 0, .bl false, .ptr 1 0, .ptr 3 0, .int .i64 (i : Nat)]) (s5ms p s t) a w) : roundm5.wp Try.prog (R2 w0 (I2s w0 p) i) a w := by
  refine wpS (by kernel_rfl) ?_
  refine pieceT cfg4_ok n5m p5_ts hA ?_
  repeat' (first
    | refine all_brp (by simp only [decide_eq_true_eq]; exact Iff.rfl) (fun _ => ?_) (fun _ => ?_)
    | refine all_ret (fun _ _ _ _ => ?_))
  · rename_i h1 h2 env' a' w' hA'
    refine (show (rgt roundm5).wp Try.prog (R2 w0 (I2s w0 p) i) a' w' from wpS (by kernel_rfl) (wpB 3 (by kernel_rfl) ?_))
    refine (show im5.wp Try.prog (K2 w0 (I2s w0 p) i) a' w' from wpS (by kernel_rfl) ?_)
    refine pieceT cfg4_ok n5x p5_pas hA' ?_
    generalize bs _ _ _ = s0
    repeat' (first
      | refine all_needp (by simp only [decide_eq_true_eq, Bool.and_eq_true]; exact Iff.rfl) (by omega) (fun _ => ?_)
      | refine all_ret (fun _ _ _ _ => ?_))
    exact (show (rgt im5).wp Try.prog (K2 w0 (I2s w0 p) i) _ _ from wpS (by kernel_rfl) (pbs ha (by omega) ‹_›))
  · exact (show R2 w0 (I2s w0 p) i (.exit 2) _ _ from exit5 ‹_›)
  · exact (show R2 w0 (I2s w0 p) i (.exit 2) _ _ from exit5 ‹_›)
/-! ## the first loop -/
def I1q (w0 : From) (p : In5) (j : List ByteArray × Nat) (a : Act) (w : World) : Prop :=
  j.2 ≤ 40 ∧ j.1.length ≤ j.2 ∧ ∃ env, At [] w0 env (fr 185 n5l [c5v p 0, m5v p 1, .bl false, .ptr 2 0, .ptr 5 0, .int .i64 (j.2 : Nat)]) (s5q p j.1 .snil) a w
def I1s (w0 : From) (p : In5) (j : (ByteArray × Int) × Nat) (a : Act) (w : World) : Prop :=
  j.2 ≤ 40 ∧ ∃ env, At [] w0 env (fr 185 n5l [c5v p 0, m5v p 1, .bl false, .ptr 2 0, .ptr 4 0, .int .i64 (j.2 : Nat)]) (s5s p j.1.1 j.1.2) a w
abbrev R1 {ι : Type} (w0 : From) (I : ι × Nat → Act → World → Prop) (i : Nat) : Exit → Act → World → Prop :=
  Exit.then (fun a' w' => ∃ k, I k a' w' ∧ 40 - k.2 < 40 - i) (Exit.inBlock 0 (Exit.then ((rgt (restC 4 b5)).wp Try.prog (Q5 w0)) (Q5 w0)))
theorem rest5 : rgt (restC 4 b5) = restC 5 b5 := by kernel_rfl
theorem rest7 : restC 2 (restC 5 b5) = restC 7 b5 := by kernel_rfl
theorem midq {w0 : From} {p : In5} {xs : List ByteArray} {i : Int} {env : Env} {a : Act} {w : World}
    (hA : At [] w0 env (fr 185 n5l [c5v p 0, m5v p 1, .bl false, .ptr 2 0, .ptr 5 0, .int .i64 i]) (s5q p xs .snil) a w) : (restC 5 b5).wp Try.prog (Q5 w0) a w := by
  refine pieceNT cfg4_ok 2 n5c p5_mq hA (all_ret fun env1 a1 w1 hA1 => ?_)
  simp only [Ex.to, Exit.then]
  rw [rest7]
  refine wpS (by kernel_rfl) (wpS (by kernel_rfl) ?_)
  refine pieceT cfg4_ok n5m p5_regmq hA1 (all_ret fun env2 a2 w2 hA2 => ?_)
  have hA3 := hA2.vals [m5v p 0, .bl false, .ptr 1 0, .ptr 3 0, .int .i64 (0 : Nat)] ⟨fun _ h => h, fun _ h => h, fun _ h => h, fun _ h => h, fun _ h => by simpa [Den] using h, trivial⟩
  obtain ⟨env3, hA4⟩ := hA3.nilv 2 0 1 (l := [.snil, .int .i64 p.dp]) rfl rfl encStr 9
  obtain ⟨env4, hA5⟩ := hA4.nilv 4 0 1 (l := [.snil, .int .i64 p.dp]) rfl rfl encStr 9
  obtain ⟨env5, hA6⟩ := hA5.canon (N := 185) n5m (vals := [m5v p 0, .bl false, .ptr 1 0, .ptr 4 0, .int .i64 (0 : Nat)]) (st' := s5mq p [] []) (by rfl)
  refine wpB 2 (by kernel_rfl) (wpL (by kernel_rfl) (I2q w0 p) (fun j => 40 - j.2) ([], 0) ⟨by simp, by simp, env5, hA6⟩ ?_)
  rintro ⟨xs, i⟩ a w ⟨h1, h2, env, hA⟩
  exact roundq h1 h2 hA
theorem mids {w0 : From} {p : In5} (ha : 0 < p.age ∧ p.age ≤ 65535) {s : ByteArray} {t i : Int} {env : Env} {a : Act} {w : World}
    (hA : At [] w0 env (fr 185 n5l [c5v p 0, m5v p 1, .bl false, .ptr 2 0, .ptr 4 0, .int .i64 i]) (s5s p s t) a w) : (restC 5 b5).wp Try.prog (Q5 w0) a w := by
  refine pieceNT cfg4_ok 2 n5c p5_ms hA (all_ret fun env1 a1 w1 hA1 => ?_)
  simp only [Ex.to, Exit.then]
  rw [rest7]
  refine wpS (by kernel_rfl) (wpS (by kernel_rfl) ?_)
  refine pieceT cfg4_ok n5m p5_regms hA1 (all_ret fun env2 a2 w2 hA2 => ?_)
  have hA3 := hA2.vals [m5v p 0, .bl false, .ptr 1 0, .ptr 3 0, .int .i64 (0 : Nat)] ⟨fun _ h => h, fun _ h => h, fun _ h => h, fun _ h => h, fun _ h => by simpa [Den] using h, trivial⟩
  have hA4 := (hA3.own 2 (l := [.sl [], .lit .u32 0, .int .u16 p.age]) (l' := [.str (ByteArray.mk ⟨[]⟩), .int .u32 0, .int .u16 p.age]) rfl (fun env cs h => by simpa [DenL, Den] using h)).own 4 (l := [.sl [], .lit .u32 0, .int .u16 p.age]) (l' := [.str (ByteArray.mk ⟨[]⟩), .int .u32 0, .int .u16 p.age]) rfl (fun env cs h => by simpa [DenL, Den] using h)
  refine wpB 2 (by kernel_rfl) (wpL (by kernel_rfl) (I2s w0 p) (fun j => 40 - j.2) ((ByteArray.mk ⟨[]⟩, 0), 0) ⟨by simp, env2, hA4⟩ ?_)
  rintro ⟨⟨s, t⟩, i⟩ a w ⟨h1, env, hA⟩
  exact rounds ha h1 hA
set_option maxHeartbeats 4000000 in
theorem round1q {w0 : From} {p : In5} (hz : 1 ≤ p.sz ∧ p.sz ≤ 32) {xs : List ByteArray} {i : Nat} (hi : i ≤ 40) (hx : xs.length ≤ i) {env : Env} {a : Act} {w : World}
    (hA : At [] w0 env (fr 185 n5l [c5v p 0, m5v p 1, .bl false, .ptr 2 0, .ptr 5 0, .int .i64 (i : Nat)]) (s5q p xs .snil) a w) : round5.wp Try.prog (R1 w0 (I1q w0 p) i) a w := by
  have step : ∀ {ys : List ByteArray} {n : Nat} {x : Int} {env : Env} {a : Act} {w : World}, i < 40 → ys.length ≤ i + 1 → n = ys.length → x = (i : Int) + 1 → At [] w0 env (fr 185 n5l [c5v p 0, m5v p 1, .bl false, .ptr 2 0, .ptr 5 0, .int .i64 x]) [.ro encCl p.calls, .ro encCl p.more, portQ 3 p.sz, queB (.sli 4 (.c 0) 1 (.v n) none) p.dp, .vec encStr ys 9, portQ 6 p.sz, queB .snil p.dp] a w → R1 w0 (I1q w0 p) i .normal a w := by
    intro ys n x env a w h1 h2 h3 h4 h5
    subst h3 h4
    exact ⟨(ys, i + 1), ⟨by simp only; omega, h2, env, h5⟩, by simp only; omega⟩
  refine pieceT cfg4_ok n5l p5_rq hA ?_
  generalize bs _ _ _ = s0
  repeat' (first
    | refine all_brp (by simp only [decide_eq_true_eq, Bool.not_eq_true', decide_eq_false_iff_not, beq_iff_eq]; exact Iff.rfl) (fun _ => ?_) (fun _ => ?_)
    | refine all_needp (by simp only [decide_eq_true_eq, Bool.and_eq_true, roomy_iff, inR_i64]; exact Iff.rfl) ?_ (fun _ => ?_)
    | refine all_br (fun _ => ?_) (fun _ => ?_)
    | refine all_eq rfl ?_
    | refine all_ret (fun _ _ _ _ => ?_))
  all_goals first
    | omega
    | trivial
    | (exfalso; omega)
    | (refine (show R1 w0 (I1q w0 p) i .normal _ _ from step ?_ ?_ ?_ rfl ‹_›) <;> first | omega | rfl)
    | (refine (show R1 w0 (I1q w0 p) i .normal _ _ from step ?_ ?_ ?_ rfl ‹_›) <;> first | omega | rfl | (simp only [List.length_append, List.length_cons, List.length_nil] <;> omega))
    | (refine (show R1 w0 (I1q w0 p) i (.exit 0) _ _ from ?_); simp only [R1, Exit.then, Exit.inBlock, if_true]; rw [rest5]; exact midq ‹_›)
set_option maxHeartbeats 4000000 in
theorem round1s {w0 : From} {p : In5} (hz : 1 ≤ p.sz ∧ p.sz ≤ 32) (ha : 0 < p.age ∧ p.age ≤ 65535) {s : ByteArray} {t : Int} {i : Nat} (hi : i ≤ 40) {env : Env} {a : Act} {w : World}
    (hA : At [] w0 env (fr 185 n5l [c5v p 0, m5v p 1, .bl false, .ptr 2 0, .ptr 4 0, .int .i64 (i : Nat)]) (s5s p s t) a w) : round5.wp Try.prog (R1 w0 (I1s w0 p) i) a w := by
  have step : ∀ {s : ByteArray} {t : Int} {x : Int} {env : Env} {a : Act} {w : World}, i < 40 → x = (i : Int) + 1 → At [] w0 env (fr 185 n5l [c5v p 0, m5v p 1, .bl false, .ptr 2 0, .ptr 4 0, .int .i64 x]) (s5s p s t) a w → R1 w0 (I1s w0 p) i .normal a w := by
    intro s t x env a w h1 h4 h5
    subst h4
    exact ⟨((s, t), i + 1), ⟨by simp only; omega, env, h5⟩, by simp only; omega⟩
  refine pieceT cfg4_ok n5l p5_rs hA ?_
  generalize bs _ _ _ = s0
  repeat' (first
    | refine all_brp (by simp only [decide_eq_true_eq, Bool.not_eq_true', decide_eq_false_iff_not, beq_iff_eq]; exact Iff.rfl) (fun _ => ?_) (fun _ => ?_)
    | refine all_needp (by simp only [decide_eq_true_eq, Bool.and_eq_true, roomy_iff, inR_i64]; exact Iff.rfl) ?_ (fun _ => ?_)
    | refine all_br (fun _ => ?_) (fun _ => ?_)
    | refine all_eq rfl ?_
    | refine all_ret (fun _ _ _ _ => ?_))
  all_goals first
    | omega
    | trivial
    | (exfalso; omega)
    | (refine (show R1 w0 (I1s w0 p) i .normal _ _ from step ?_ rfl ‹_›); omega)
    | (refine (show R1 w0 (I1s w0 p) i (.exit 0) _ _ from ?_); simp only [R1, Exit.then, Exit.inBlock, if_true]; rw [rest5]; exact mids ha ‹_›)
end Go.Proofs.Ytdadfgeepinpbaa

/- PortClears, of whatever comes in: its call and its row. -/
namespace Go.Proofs.Ytdadfgeepinpbaa
open Go Go.Proofs.Ytdadfgeepinpbaa.Sx Go.ChangeShapes Go.WideShapes Go.ChangeAt Go.RowKit
set_option linter.unusedVariables false
theorem b5_eq : Try.f5.body = some b5 := by kernel_rfl
theorem rest4' : restC 2 (restC 2 b5) = restC 4 b5 := by kernel_rfl
theorem cont_q5 {w0 : From} {p : In5} (hz : 1 ≤ p.sz ∧ p.sz ≤ 32) (hd : 0 < p.dp ∧ p.dp ≤ 16) (hb : bitop .and .u8 p.dp (IntKind.u8.wrap (p.dp - 1)) = 0) {env : Env} {a : Act} {w : World}
    (hA : At [] w0 env (fr 185 n5a [c5v p 0, m5v p 1, .ptr 2 0, .bl false, .ptr 3 0, .lit .i64 0]) [.ro encCl p.calls, .ro encCl p.more, choV (.lit .u8 0) p.ff p.tt p.sz p.dp p.age, portQ 4 p.sz, queB .snil p.dp] a w) : (restC 2 b5).wp Try.prog (Q5 w0) a w := by
  refine pieceNT cfg4_ok 2 n5b p5_q hA ?_
  rw [hb]
  repeat' (first
    | refine all_brp (by simp only [decide_eq_true_eq, beq_iff_eq, beq_self_eq_true]; exact Iff.rfl) (fun _ => ?_) (fun _ => ?_)
    | refine all_needp (by simp only [inR_i64]; exact Iff.rfl) ?_ (fun _ => ?_)
    | refine all_br (fun _ => ?_) (fun _ => ?_)
    | refine all_ret (fun _ _ _ _ => ?_))
  all_goals first
    | omega
    | (exfalso; omega)
    | (exfalso; simp_all; done)
    | skip
  rename_i env1 a1 w1 hA1
  simp only [Ex.to, Exit.then]
  rw [rest4']
  refine wpS (by kernel_rfl) (wpS (by kernel_rfl) ?_)
  refine pieceT cfg4_ok n5l p5_regq hA1 (all_ret fun env2 a2 w2 hA2 => ?_)
  have hA3 := hA2.vals [c5v p 0, m5v p 1, .bl false, .ptr 2 0, .ptr 4 0, .int .i64 (0 : Nat)] ⟨fun _ h => h, fun _ h => h, fun _ h => h, fun _ h => h, fun _ h => h, fun _ h => by simpa [Den] using h, trivial⟩
  obtain ⟨env3, hA4⟩ := hA3.nilv 3 0 1 (l := [.snil, .int .i64 p.dp]) rfl rfl encStr 9
  obtain ⟨env5, hA6⟩ := hA4.canon (N := 185) n5l (vals := [c5v p 0, m5v p 1, .bl false, .ptr 2 0, .ptr 5 0, .int .i64 (0 : Nat)]) (st' := s5q p [] .snil) (by rfl)
  refine wpB 0 (by kernel_rfl) (wpL (by kernel_rfl) (I1q w0 p) (fun j => 40 - j.2) ([], 0) ⟨by simp, by simp, env5, hA6⟩ ?_)
  rintro ⟨xs, i⟩ a w ⟨h1, h2, env, hA⟩
  exact round1q hz h1 h2 hA
theorem cont_s5 {w0 : From} {p : In5} (hz : 1 ≤ p.sz ∧ p.sz ≤ 32) (ha : 0 < p.age ∧ p.age ≤ 65535) {env : Env} {a : Act} {w : World}
    (hA : At [] w0 env (fr 185 n5a [c5v p 0, m5v p 1, .ptr 2 0, .bl false, .ptr 3 0, .lit .i64 0]) [.ro encCl p.calls, .ro encCl p.more, choV (.lit .u8 1) p.ff p.tt p.sz p.dp p.age, portS 4 p.sz, samB (.sl []) (.lit .u32 0) p.age] a w) : (restC 2 b5).wp Try.prog (Q5 w0) a w := by
  refine pieceNT cfg4_ok 2 n5b p5_s hA ?_
  repeat' (first
    | refine all_brp (by simp only [decide_eq_true_eq, beq_iff_eq]; exact Iff.rfl) (fun _ => ?_) (fun _ => ?_)
    | refine all_needp (by simp only [inR_i64]; exact Iff.rfl) ?_ (fun _ => ?_)
    | refine all_br (fun _ => ?_) (fun _ => ?_)
    | refine all_ret (fun _ _ _ _ => ?_))
  all_goals first
    | omega
    | (exfalso; omega)
    | skip
  rename_i env1 a1 w1 hA1
  simp only [Ex.to, Exit.then]
  rw [rest4']
  refine wpS (by kernel_rfl) (wpS (by kernel_rfl) ?_)
  refine pieceT cfg4_ok n5l p5_regs hA1 (all_ret fun env2 a2 w2 hA2 => ?_)
  have hA3 := hA2.vals [c5v p 0, m5v p 1, .bl false, .ptr 2 0, .ptr 4 0, .int .i64 (0 : Nat)] ⟨fun _ h => h, fun _ h => h, fun _ h => h, fun _ h => h, fun _ h => h, fun _ h => by simpa [Den] using h, trivial⟩
  have hA4 := hA3.own 3 (l := [.sl [], .lit .u32 0, .int .u16 p.age]) (l' := [.str (ByteArray.mk ⟨[]⟩), .int .u32 0, .int .u16 p.age]) rfl (fun env cs h => by simpa [DenL, Den] using h)
  refine wpB 0 (by kernel_rfl) (wpL (by kernel_rfl) (I1s w0 p) (fun j => 40 - j.2) ((ByteArray.mk ⟨[]⟩, 0), 0) ⟨by simp, env2, hA4⟩ ?_)
  rintro ⟨⟨s, t⟩, i⟩ a w ⟨h1, env, hA⟩
  exact round1s hz ha h1 hA
theorem cont_n5 {w0 : From} {p : In5} {k : Int} (hn : ¬ (1 ≤ p.sz ∧ p.sz ≤ 32 ∧ (k = 0 ∧ (0 < p.dp ∧ p.dp ≤ 16 ∧ bitop .and .u8 p.dp (IntKind.u8.wrap (p.dp - 1)) = 0) ∨ k = 1 ∧ 0 < p.age))) {env : Env} {a : Act} {w : World}
    (hA : At [] w0 env (fr 185 n5a [c5v p 0, m5v p 1, .ptr 2 0, .bl false, .pnil, .lit .i64 190]) [.ro encCl p.calls, .ro encCl p.more, choV (.int .u8 k) p.ff p.tt p.sz p.dp p.age] a w) : (restC 2 b5).wp Try.prog (Q5 w0) a w := by
  refine pieceNT cfg4_ok 2 [6] p5_n hA ?_
  generalize bitop .and .u8 p.dp (IntKind.u8.wrap (p.dp - 1)) = bt at *
  repeat' (first
    | refine all_brp (by simp only [decide_eq_true_eq, beq_iff_eq]; exact Iff.rfl) (fun _ => ?_) (fun _ => ?_)
    | refine all_needp (by simp only [inR_i64]; exact Iff.rfl) ?_ (fun _ => ?_)
    | refine all_br (fun _ => ?_) (fun _ => ?_)
    | refine all_ret (fun _ _ _ _ => ?_))
  all_goals first
    | omega
    | (exfalso; omega)
    | (rename_i hA1; exact hA1.said (by kernel_rfl))
/-- what is known of the channel -/
def Wf5 (k : Int) (p : In5) : Prop := (0 ≤ k ∧ k ≤ 255) ∧ (0 ≤ p.sz ∧ p.sz ≤ 255) ∧ (0 ≤ p.dp ∧ p.dp ≤ 255) ∧ (0 ≤ p.age ∧ p.age ≤ 65535)
theorem portClears_call {k : Int} {p : In5} (hw : Wf5 k p) {e e' : Slot} {w : World} {u v v' : Value} (hr : Rep [e, e'] [.ro encCl p.calls, .ro encCl p.more] w) (hu : Den [e, e'] (chanV k p.ff p.tt p.sz p.dp p.age) u) (hv : Den [e, e'] (c5v p 0) v) (hv' : Den [e, e'] (m5v p 1) v') :
    Calls Try.prog 5 ⟨[u, v, v']⟩ w (Said ⟨w, fun _ => False⟩) := by
  obtain ⟨h1, h2, h3, h4⟩ := hw
  refine call_begin (c := cfg4) Try.func5 b5_eq (args := [chanV k p.ff p.tt p.sz p.dp p.age, c5v p 0, m5v p 1]) (by intro p hp; cases hp) hr ⟨_, _, rfl, hu, _, _, rfl, hv, _, _, rfl, hv', rfl⟩ (F := fun _ => False) ?_ ?_
  · rintro x ⟨id, e, b, he, hb, hx⟩
    match id with
    | 0 => simp at hb; subst hb; cases hx
    | 1 => simp at hb; subst hb; cases hx
    | n + 2 => simp at hb
  intro a hA
  refine pieceNT (c := cfg4) cfg4_ok 2 n5a p5_a hA ?_
  have hcq := fun (hz : 1 ≤ p.sz ∧ p.sz ≤ 32) (hd : 0 < p.dp ∧ p.dp ≤ 16) (hb : bitop .and .u8 p.dp (IntKind.u8.wrap (p.dp - 1)) = 0) env a w' hA => @cont_q5 ⟨w, fun _ => False⟩ p hz hd hb env a w' hA
  have hcn := fun (hn : ¬ (1 ≤ p.sz ∧ p.sz ≤ 32 ∧ (k = 0 ∧ (0 < p.dp ∧ p.dp ≤ 16 ∧ bitop .and .u8 p.dp (IntKind.u8.wrap (p.dp - 1)) = 0) ∨ k = 1 ∧ 0 < p.age))) env a w' hA => @cont_n5 ⟨w, fun _ => False⟩ p k hn env a w' hA
  generalize bitop .and .u8 p.dp (IntKind.u8.wrap (p.dp - 1)) = bt at *
  repeat' (first
    | refine all_brp (by simp only [decide_eq_true_eq, beq_iff_eq]; exact Iff.rfl) (fun _ => ?_) (fun _ => ?_)
    | refine all_needp (by simp only [inR_i64]; exact Iff.rfl) ?_ (fun _ => ?_)
    | refine all_ret (fun _ _ _ _ => ?_))
  all_goals first
    | omega
    | (refine (show (restC 2 b5).wp Try.prog (Q5 ⟨w, fun _ => False⟩) _ _ from hcn ?_ _ _ _ ‹_›); omega)
    | (have h0 : k = 0 := by omega
       subst h0
       rename_i hA1
       have hA2 := hA1.own 2 (l := [.int .u8 0, .int .u8 p.ff, .int .u8 p.tt, .int .u8 p.sz, .int .u8 p.dp, .int .u16 p.age]) (l' := [.lit .u8 0, .int .u8 p.ff, .int .u8 p.tt, .int .u8 p.sz, .int .u8 p.dp, .int .u16 p.age]) rfl (fun env cs h => by simpa [DenL, Den] using h)
       refine (show (restC 2 b5).wp Try.prog (Q5 ⟨w, fun _ => False⟩) _ _ from hcq ?_ ?_ ?_ _ _ _ hA2) <;> omega)
    | (have h0 : k = 1 := by omega
       subst h0
       rename_i hA1
       have hA2 := hA1.own 2 (l := [.int .u8 1, .int .u8 p.ff, .int .u8 p.tt, .int .u8 p.sz, .int .u8 p.dp, .int .u16 p.age]) (l' := [.lit .u8 1, .int .u8 p.ff, .int .u8 p.tt, .int .u8 p.sz, .int .u8 p.dp, .int .u16 p.age]) rfl (fun env cs h => by simpa [DenL, Den] using h)
       refine (show (restC 2 b5).wp Try.prog (Q5 ⟨w, fun _ => False⟩) _ _ from cont_s5 ?_ ?_ hA2) <;> omega)
set_option maxRecDepth 100000 in
theorem portClears_lifted (os : Os) (started : os.Started) (H : Type) (enc : TypeId × Value → H) :
    ReturnsInHanded {} Try.checked os 5 .any (Rows.portClearsSpec.pre6 enc Try.prog Try.f5 Rows.portClearsRow.domain false) (Rows.portClearsSpec.post enc Try.prog Try.f5 false true false false) := by
  refine returnsInHanded_of_change (C := Try.checked) Try.own started (by kernel_rfl) Try.func5
    (ChangeSpec.witness6 (enc := enc) (C := Try.checked) false ⟨#[], #[.agg #[.int .u8 0, .int .u8 0, .int .u8 0, .int .u8 0, .int .u8 0, .int .u16 0], .slice none 0 0, .slice none 0 0], []⟩ 8 (by kernel_rfl) (by kernel_rfl) (by kernel_rfl) (by kernel_rfl)) ?_
  intro W base args ds gs before hval0 hW hcnd _
  have hval : ∀ (j : Nat) t v, Try.f5.params[j]? = some t → args[j]? = some v → Value.okWide Try.prog W .any base t v := hval0
  have hW' := hW
  obtain ⟨p, q, hA0, hV, rfl, hfz, hnd⟩ := hW
  have hA : DataW.TrodAll enc Try.prog W 0 (fun _ => true) true Try.f5.params.toList args.toList ds p := hA0
  rw [Try.params5] at hA hval
  obtain ⟨v0, v1, v2, d0, d1, d2, p0, p1, p2, rfl, rfl, rfl, h0, h1, h2⟩ := trodAll_three hA
  obtain ⟨rfl, rfl⟩ := trodVars_none hV
  clear hA0 hval0
  have hlt0 : ∀ x ∈ p0, x.block < W.heap.size := fun x hx => by simpa using hW'.lt x (by simp [hx])
  have hlt1 : ∀ x ∈ p1, x.block < W.heap.size := fun x hx => by simpa using hW'.lt x (by simp [hx])
  have hlt2 : ∀ x ∈ p2, x.block < W.heap.size := fun x hx => by simpa using hW'.lt x (by simp [hx])
  have fin : ∀ e W', Said ⟨W, fun _ => False⟩ e W' → ∃ v, e = .returned v ∧ Rows.portClearsSpec.post enc Try.prog Try.f5 false true false false W #[v0, v1, v2] v W' := by
    rintro e W' ⟨rfl, hsz, hk, hc⟩
    have hk' : ∀ x, x < W.heap.size → W'.heap[x]? = W.heap[x]? := fun x hx => hk x hx (fun h => h)
    refine ⟨_, rfl, _, _, _, [], _, [], hW', ⟨[], [], shut_bool Try.underlying4 true, rfl, rfl⟩, trodAll_mk3 (trod_same Try.laidOut (by kernel_rfl) (of_decide_eq_true (by kernel_rfl)) h0 hk' hlt0) (trod_same Try.laidOut (by kernel_rfl) (of_decide_eq_true (by kernel_rfl)) h1 hk' hlt1) (trod_same Try.laidOut (by kernel_rfl) (of_decide_eq_true (by kernel_rfl)) h2 hk' hlt2), rfl, keptBut_of _ hc hk', fun h => by cases h⟩
  obtain ⟨k, p, hw, hu⟩ := open_chan (hval 0 29 v0 rfl rfl) h0
  obtain ⟨xs, cap, e1, hr1, hd1⟩ := open_sli encCl Try.underlying22 (by kernel_rfl) open_cl rfl (hval 1 22 v1 rfl rfl) h1
  obtain ⟨ys, cap', e2, hr2, hd2⟩ := open_sli encCl Try.underlying22 (by kernel_rfl) open_cl rfl (hval 2 22 v2 rfl rfl) h2
  obtain ⟨hr, _⟩ := ro_add hr1 (by intro b hb e; rw [List.mem_singleton.1 hb]; rfl) rfl hr2
  exact (portClears_call (p := ⟨xs, cap, ys, cap', p.sz, p.dp, p.age, p.ff, p.tt⟩) hw hr (hu _) (den_wide (env := [e1]) (more := [e2]) hd1) (den_add (env := [e1]) (n := 1) hd2 rfl)).mono fun e W' h => fin e W' h
theorem portClears_holds : Rows.PortClearsSaid :=
  OpenClaim.holds_of_wide 5 Try.f5 rfl rfl rfl rfl rfl rfl rfl ⟨rfl, rfl, rfl, rfl, rfl⟩ rfl rfl rfl rfl rfl (by kernel_rfl) Try.func5 (by kernel_rfl)
    (of_decide_eq_true (by kernel_rfl)) (by unfold Func.isWrapper; first | (rw [if_pos (by decide +kernel)]; kernel_rfl) | (rw [if_neg (by decide +kernel)]; exact ⟨rfl, rfl⟩))
    (fun os started H enc _ => portClears_lifted os started H enc)
end Go.Proofs.Ytdadfgeepinpbaa

