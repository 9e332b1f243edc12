/- PortPlays returns true at every input, without condition, and leaves its arguments as they were. -/
import Derived.Test.YtdadfgeepinpbaaSxB
import Derived.Test.YtdadfgeepinpbaaRows
/- PortOrder: the configuration and the state. -/
namespace Go.Proofs.Ytdadfgeepinpbaa
open Go Go.Proofs.Ytdadfgeepinpbaa.Sx
set_option linter.unusedVariables false
/-- a call as it lies in cells -/
structure Cl where
  kind : Int
  s : ByteArray
  tick : Int
def encCl : Enc Cl := encOf 2 (fun x => [.int .i64 x.kind, .str x.s, .int .u32 x.tick]) ⟨0, .empty, 0⟩ (fun _ => rfl) (by intro env env' x vs h; simpa [DenL, Den] using h)
def Cl0 : Cl := ⟨0, .empty, 0⟩
noncomputable def cfg0 : Cfg := { P := Try.prog, ex := fun k => match k with | .i64 => true | _ => false, gl := [], sm := fun _ => none }
theorem cfg0_ok : SmOk cfg0 := by intro f g h; cases h
set_option maxRecDepth 100000 in
theorem awake_val : (callF cfg0 100 8 [] []).val = some (.bl true) := by kernel_rfl
noncomputable def cfg : Cfg := { P := Try.prog, ex := fun k => match k with | .i64 => true | _ => false, gl := [], sm := fun f => match f with | 8 => some (smClosed [] [] (.bl true)) | _ => none }
theorem cfg_ok : SmOk cfg := by
  intro f g h
  simp only [cfg] at h
  split at h
  · simp only [Option.some.injEq] at h; subst h
    exact smClosed_ok cfg0_ok awake_val (by kernel_rfl) rfl rfl (by intro b hb; cases hb)
  · cases h
noncomputable def b3 : Code := Try.f3.body.getD .skip
noncomputable def blk3 : Code := rgt (lft (restC 7 b3))
noncomputable def reg3 : Code := lft (lft (restC 7 b3))
noncomputable def round3 : Code := lft (lft blk3)
noncomputable def end3 : Code := rgt (restC 7 b3)
abbrev n3 : List Nat := [2, 6, 7, 8, 9, 11, 12, 13]
abbrev v3 (cl : SVal) (d z : Int) (se : SVal) (got i : Int) : List SVal := [cl, .bl false, .int .u8 d, .int .u8 z, .ptr 1 0, se, .int .i64 got, .int .i64 i]
abbrev s3n (calls : List Cl) (d z : Int) (sent : List ByteArray) : St := [.ro encCl calls, .own [.c (.ifc 56 (.ptr 2 0)), .c (.int .i64 z)] 62, .own [.c .snil, .c (.int .i64 d)] 58, .vec encStr sent 9]
abbrev s3v (calls : List Cl) (d z : Int) (xs sent : List ByteArray) : St := [.ro encCl calls, .own [.c (.ifc 56 (.ptr 2 0)), .c (.int .i64 z)] 62, .own [.c (.sli 3 (.c 0) 1 (.v xs.length) none), .c (.int .i64 d)] 58, .vec encStr xs 9, .vec encStr sent 9]
abbrev callsV (calls : List Cl) (cap : Nat) : SVal := .sli 0 (.c 0) 3 (.v calls.length) (some (.v cap))
end Go.Proofs.Ytdadfgeepinpbaa

/- What the rows share: the calls that come in. -/
namespace Go.Proofs.Ytdadfgeepinpbaa
open Go Go.Proofs.Ytdadfgeepinpbaa.Sx Go.ChangeShapes Go.WideShapes Go.ChangeAt Go.RowKit
set_option linter.unusedVariables false
theorem Try.own : ownKnob Try.prog.godebug = none := by kernel_rfl
theorem Try.laidOut : laidOutB Try.prog = true := by kernel_rfl
/-- an element of the calls -/
theorem open_cl {H : Type} {enc : TypeId × Value → H} {w : World} {base : Nat} {spare : Nat → Bool} {held : Bool} (n : Nat) (cs : List Value) (y : DataW H × List MemPlace) (h : DataW.trod enc Try.prog w base spare held n 35 cs = some y) :
    ∃ x : Cl, DenL [] (encCl.enc x) cs := by
  obtain ⟨xs, m, _, _, hlen, hxl, hf⟩ := DataW.trod_struct Try.underlying35 h
  have hC : Try.prog.cellsOf 35 = 3 := by kernel_rfl
  rw [hC] at hlen
  match cs, hlen with
  | [c0, c1, c2], _ =>
    match xs, hxl with
    | [y0, y1, y2], _ =>
      have f0 : DataW.trod enc Try.prog w base spare held m 3 (([c0, c1, c2].drop 0).take (Try.prog.cellsOf 3)) = some y0 := hf 0 _ rfl
      have f1 : DataW.trod enc Try.prog w base spare held m 9 (([c0, c1, c2].drop 1).take (Try.prog.cellsOf 9)) = some y1 := hf 1 _ rfl
      have f2 : DataW.trod enc Try.prog w base spare held m 33 (([c0, c1, c2].drop 2).take (Try.prog.cellsOf 33)) = some y2 := hf 2 _ rfl
      have k0 : Try.prog.cellsOf 3 = 1 := by kernel_rfl
      have k1 : Try.prog.cellsOf 9 = 1 := by kernel_rfl
      have k2 : Try.prog.cellsOf 33 = 1 := by kernel_rfl
      rw [k0] at f0
      rw [k1] at f1
      rw [k2] at f2
      obtain ⟨a, h0, _⟩ := DataW.trod_int Try.underlying3 f0
      obtain ⟨b, h1, _⟩ := DataW.trod_string Try.underlying9 f1
      obtain ⟨c, h2, _⟩ := DataW.trod_int Try.underlying33 f2
      simp at h0 h1 h2
      subst h0 h1 h2
      exact ⟨⟨a, b, c⟩, by simp [encCl, encOf, DenL, Den]⟩
end Go.Proofs.Ytdadfgeepinpbaa

/- PortPlays: the pieces of code and the states. -/
namespace Go.Proofs.Ytdadfgeepinpbaa
open Go Go.Proofs.Ytdadfgeepinpbaa.Sx
set_option linter.unusedVariables false
/-- a call whose text isn't too long -/
def smFew : List SVal → St → T (SVal × St) := fun args st => match args with
  | [.agg [.int .i64 k, .str s, .int .u32 t]] => .ret (.agg [.int .i64 k, .str (bs (decide (40 < (s.size : Int))) (s.extract 0 40) s), .int .u32 t], st)
  | _ => .no 122
theorem few_tree {k t : Int} {s : ByteArray} : callF cfg0 100 9 [.agg [.int .i64 k, .str s, .int .u32 t]] [] =
  (.br (decide ((40 : Int) < (s.size : Int)))
   (.need (decide ((40 : Nat) ≤ s.size))
    (.need (decide ((0 : Nat) ≤ (40 : Nat)))
     (.ret (.agg [.int .i64 k, .str (s.extract 0 40), .int .u32 t], [.own [.c (.int .i64 k), .c (.str (s.extract 0 40)), .c (.int .u32 t)] 35, .own [.c (.int .i64 k), .c (.str (s.extract 0 40)), .c (.int .u32 t)] 35]))))
   (.ret (.agg [.int .i64 k, .str s, .int .u32 t], [.own [.c (.int .i64 k), .c (.str s), .c (.int .u32 t)] 35, .own [.c (.int .i64 k), .c (.str s), .c (.int .u32 t)] 35]))) := by kernel_rfl
theorem smFew_ok (args : List SVal) (st : St) (s : SVal) (st' : St) (env : Env) (w : World) (vs : List Value) (hat : (smFew args st).at (s, st')) (hr : Rep env st w) (hd : DenL env args vs) :
    Calls Try.prog 9 ⟨vs⟩ w fun e w' => ∃ env' v, e = .returned v ∧ Ext env st w env' st' w' ∧ Rep env' st' w' ∧ Den env' s v := by
  unfold smFew at hat
  split at hat
  · rename_i k s t
    simp only [T.at, Prod.mk.injEq] at hat
    obtain ⟨rfl, rfl⟩ := hat
    refine smAll_ok (c := cfg0) cfg0_ok (by kernel_rfl) rfl (args0 := [.agg [.int .i64 k, .str s, .int .u32 t]]) (by simp [renL, ren]) few_tree ?_ (by simp [renL, ren]) st env w vs hr hd
    refine all_br (fun h => ?_) (fun h => ?_)
    · refine all_need (by simp at h ⊢; omega) fun _ => all_need (by simp) fun _ => all_ret fun env x hx => ?_
      rw [h]; exact hx
    · refine all_ret fun env x hx => ?_
      rw [h]; exact hx
  · exact hat.elim
noncomputable def cfg4 : Cfg := { P := Try.prog, ex := fun k => match k with | .i64 => true | _ => false, gl := [], sm := fun f => match f with | 8 => some (smClosed [] [] (.bl true)) | 9 => some smFew | _ => none }
theorem cfg4_ok : SmOk cfg4 := by
  intro f g h
  simp only [cfg4] at h
  split at h
  · simp only [Option.some.injEq] at h; subst h
    exact smClosed_ok cfg0_ok awake_val (by kernel_rfl) rfl rfl (by intro b hb; cases hb)
  · simp only [Option.some.injEq] at h; subst h
    intro args st s st' env w vs hat hg hr hd
    exact smFew_ok args st s st' env w vs hat hr hd
  · cases h
noncomputable def b4 : Code := Try.f4.body.getD .skip
noncomputable def reg4 : Code := lft (lft (restC 5 b4))
noncomputable def blk4 : Code := rgt (lft (restC 5 b4))
noncomputable def end4 : Code := rgt (restC 5 b4)
noncomputable def round4 : Code := lft (lft blk4)
abbrev chanV (k ff tt sz dp age : Int) : SVal := .agg [.int .u8 k, .int .u8 ff, .int .u8 tt, .int .u8 sz, .int .u8 dp, .int .u16 age]
/-- the channel as it was given; the port of a queue, of a sample; what the document has -/
abbrev choV (k : SVal) (ff tt sz dp age : Int) : Blk := .own [.c k, .c (.int .u8 ff), .c (.int .u8 tt), .c (.int .u8 sz), .c (.int .u8 dp), .c (.int .u16 age)] 29
abbrev refB (k : SVal) (ff tt sz dp age : Int) (m t : SVal) : Blk := .own [.c k, .c (.int .u8 ff), .c (.int .u8 tt), .c (.int .u8 sz), .c (.int .u8 dp), .c (.int .u16 age), .c m, .c t] 43
abbrev portQ (i : Nat) (sz : Int) : Blk := .own [.c (.ifc 56 (.ptr i 0)), .c (.int .i64 sz)] 62
abbrev portS (i : Nat) (sz : Int) : Blk := .own [.c (.ifc 63 (.ptr i 0)), .c (.int .i64 sz)] 62
abbrev queB (q : SVal) (dp : Int) : Blk := .own [.c q, .c (.int .i64 dp)] 58
abbrev samB (s t : SVal) (age : Int) : Blk := .own [.c s, .c t, .c (.int .u16 age)] 65
abbrev n4 : List Nat := [1, 4, 5, 7, 9]
abbrev v4 (cl : SVal) (m : Nat) (i : Int) : List SVal := [cl, .bl false, .ptr 1 0, .ptr m 0, .int .i64 i]
abbrev s4qn (calls : List Cl) (ff tt sz dp age : Int) : St := [.ro encCl calls, portQ 2 sz, queB .snil dp, refB (.lit .u8 0) ff tt sz dp age .snil (.lit .u32 0)]
abbrev s4qv (calls : List Cl) (ff tt sz dp age : Int) (xs ys : List ByteArray) (o n : NN) : St := [.ro encCl calls, portQ 2 sz, queB (.sli 3 (.c 0) 1 (.v xs.length) none) dp, .vec encStr xs 9, refB (.lit .u8 0) ff tt sz dp age (.sli 5 o 1 n none) (.lit .u32 0), .vec encStr ys 9]
abbrev s4sn (calls : List Cl) (ff tt sz dp age t : Int) : St := [.ro encCl calls, portS 2 sz, samB (.sl []) (.lit .u32 0) age, refB (.lit .u8 1) ff tt sz dp age .snil (.int .u32 t)]
abbrev s4sv (calls : List Cl) (ff tt sz dp age t : Int) (s : ByteArray) : St := [.ro encCl calls, portS 2 sz, samB (.str s) (.int .u32 t) age, refB (.lit .u8 1) ff tt sz dp age (.sli 4 (.c 0) 1 (.c 1) (some (.c 1))) (.int .u32 t), .own [.c (.str s)] 9]
end Go.Proofs.Ytdadfgeepinpbaa

namespace Go.Proofs.Ytdadfgeepinpbaa
open Go Go.Proofs.Ytdadfgeepinpbaa.Sx
set_option linter.unusedVariables false
set_option maxRecDepth 100000 in
theorem p4_a {k ff tt sz dp age : Int} {calls : List Cl} {cap : Nat} : (execN cfg4 100 2 b4 ([chanV k ff tt sz dp age, callsV calls cap] ++ List.replicate 167 .bad) [.ro encCl calls]).bind (canon [] 169 [1,2,4,5,6]) =
 
 (.br (decide (sz < (1 : Int)))
 (.ret (.normal, [.sli 0 (.c 0) 3 (.v calls.length) (some (.v cap)), .ptr 1 0, .bl false, .pnil, .lit .i64 (190 : Int)], [.ro encCl calls, .own [.c (.int .u8 k), .c (.int .u8 ff), .c (.int .u8 tt), .c (.int .u8 sz), .c (.int .u8 dp), .c (.int .u16 age)] 29]))
 (.br (decide ((32 : Int) < sz))
 (.ret (.normal, [.sli 0 (.c 0) 3 (.v calls.length) (some (.v cap)), .ptr 1 0, .bl false, .pnil, .lit .i64 (190 : Int)], [.ro encCl calls, .own [.c (.int .u8 k), .c (.int .u8 ff), .c (.int .u8 tt), .c (.int .u8 sz), .c (.int .u8 dp), .c (.int .u16 age)] 29]))
 (.br (k == (0 : Int))
 (.br (decide ((0 : Int) < dp))
 (.br (decide (dp ≤ (16 : Int)))
 (.br (bitop BinOp.and IntKind.u8 dp (IntKind.u8.wrap (dp - (1 : Int))) == (0 : Int))
 (.need (inR .i64 dp)
 (.need (inR .i64 sz)
 (.ret (.normal, [.sli 0 (.c 0) 3 (.v calls.length) (some (.v cap)), .ptr 1 0, .bl false, .ptr 2 0, .lit .i64 (0 : Int)], [.ro encCl calls, .own [.c (.int .u8 k), .c (.int .u8 ff), .c (.int .u8 tt), .c (.int .u8 sz), .c (.int .u8 dp), .c (.int .u16 age)] 29, .own [.c (.ifc 56 (.ptr 3 0)), .c (.int .i64 sz)] 62, .own [.c .snil, .c (.int .i64 dp)] 58]))))
 (.br (k == (1 : Int))
 (.br (decide ((0 : Int) < age))
 (.need (inR .i64 sz)
 (.ret (.normal, [.sli 0 (.c 0) 3 (.v calls.length) (some (.v cap)), .ptr 1 0, .bl false, .ptr 2 0, .lit .i64 (0 : Int)], [.ro encCl calls, .own [.c (.int .u8 k), .c (.int .u8 ff), .c (.int .u8 tt), .c (.int .u8 sz), .c (.int .u8 dp), .c (.int .u16 age)] 29, .own [.c (.ifc 63 (.ptr 3 0)), .c (.int .i64 sz)] 62, .own [.c (.sl []), .c (.lit .u32 (0 : Int)), .c (.int .u16 age)] 65])))
 (.ret (.normal, [.sli 0 (.c 0) 3 (.v calls.length) (some (.v cap)), .ptr 1 0, .bl false, .pnil, .lit .i64 (190 : Int)], [.ro encCl calls, .own [.c (.int .u8 k), .c (.int .u8 ff), .c (.int .u8 tt), .c (.int .u8 sz), .c (.int .u8 dp), .c (.int .u16 age)] 29])))
 (.ret (.normal, [.sli 0 (.c 0) 3 (.v calls.length) (some (.v cap)), .ptr 1 0, .bl false, .pnil, .lit .i64 (190 : Int)], [.ro encCl calls, .own [.c (.int .u8 k), .c (.int .u8 ff), .c (.int .u8 tt), .c (.int .u8 sz), .c (.int .u8 dp), .c (.int .u16 age)] 29]))))
 (.br (k == (1 : Int))
 (.br (decide ((0 : Int) < age))
 (.need (inR .i64 sz)
 (.ret (.normal, [.sli 0 (.c 0) 3 (.v calls.length) (some (.v cap)), .ptr 1 0, .bl false, .ptr 2 0, .lit .i64 (0 : Int)], [.ro encCl calls, .own [.c (.int .u8 k), .c (.int .u8 ff), .c (.int .u8 tt), .c (.int .u8 sz), .c (.int .u8 dp), .c (.int .u16 age)] 29, .own [.c (.ifc 63 (.ptr 3 0)), .c (.int .i64 sz)] 62, .own [.c (.sl []), .c (.lit .u32 (0 : Int)), .c (.int .u16 age)] 65])))
 (.ret (.normal, [.sli 0 (.c 0) 3 (.v calls.length) (some (.v cap)), .ptr 1 0, .bl false, .pnil, .lit .i64 (190 : Int)], [.ro encCl calls, .own [.c (.int .u8 k), .c (.int .u8 ff), .c (.int .u8 tt), .c (.int .u8 sz), .c (.int .u8 dp), .c (.int .u16 age)] 29])))
 (.ret (.normal, [.sli 0 (.c 0) 3 (.v calls.length) (some (.v cap)), .ptr 1 0, .bl false, .pnil, .lit .i64 (190 : Int)], [.ro encCl calls, .own [.c (.int .u8 k), .c (.int .u8 ff), .c (.int .u8 tt), .c (.int .u8 sz), .c (.int .u8 dp), .c (.int .u16 age)] 29]))))
 (.br (k == (1 : Int))
 (.br (decide ((0 : Int) < age))
 (.need (inR .i64 sz)
 (.ret (.normal, [.sli 0 (.c 0) 3 (.v calls.length) (some (.v cap)), .ptr 1 0, .bl false, .ptr 2 0, .lit .i64 (0 : Int)], [.ro encCl calls, .own [.c (.int .u8 k), .c (.int .u8 ff), .c (.int .u8 tt), .c (.int .u8 sz), .c (.int .u8 dp), .c (.int .u16 age)] 29, .own [.c (.ifc 63 (.ptr 3 0)), .c (.int .i64 sz)] 62, .own [.c (.sl []), .c (.lit .u32 (0 : Int)), .c (.int .u16 age)] 65])))
 (.ret (.normal, [.sli 0 (.c 0) 3 (.v calls.length) (some (.v cap)), .ptr 1 0, .bl false, .pnil, .lit .i64 (190 : Int)], [.ro encCl calls, .own [.c (.int .u8 k), .c (.int .u8 ff), .c (.int .u8 tt), .c (.int .u8 sz), .c (.int .u8 dp), .c (.int .u16 age)] 29])))
 (.ret (.normal, [.sli 0 (.c 0) 3 (.v calls.length) (some (.v cap)), .ptr 1 0, .bl false, .pnil, .lit .i64 (190 : Int)], [.ro encCl calls, .own [.c (.int .u8 k), .c (.int .u8 ff), .c (.int .u8 tt), .c (.int .u8 sz), .c (.int .u8 dp), .c (.int .u16 age)] 29]))))
 (.br (k == (1 : Int))
 (.br (decide ((0 : Int) < age))
 (.need (inR .i64 sz)
 (.ret (.normal, [.sli 0 (.c 0) 3 (.v calls.length) (some (.v cap)), .ptr 1 0, .bl false, .ptr 2 0, .lit .i64 (0 : Int)], [.ro encCl calls, .own [.c (.int .u8 k), .c (.int .u8 ff), .c (.int .u8 tt), .c (.int .u8 sz), .c (.int .u8 dp), .c (.int .u16 age)] 29, .own [.c (.ifc 63 (.ptr 3 0)), .c (.int .i64 sz)] 62, .own [.c (.sl []), .c (.lit .u32 (0 : Int)), .c (.int .u16 age)] 65])))
 (.ret (.normal, [.sli 0 (.c 0) 3 (.v calls.length) (some (.v cap)), .ptr 1 0, .bl false, .pnil, .lit .i64 (190 : Int)], [.ro encCl calls, .own [.c (.int .u8 k), .c (.int .u8 ff), .c (.int .u8 tt), .c (.int .u8 sz), .c (.int .u8 dp), .c (.int .u16 age)] 29])))
 (.ret (.normal, [.sli 0 (.c 0) 3 (.v calls.length) (some (.v cap)), .ptr 1 0, .bl false, .pnil, .lit .i64 (190 : Int)], [.ro encCl calls, .own [.c (.int .u8 k), .c (.int .u8 ff), .c (.int .u8 tt), .c (.int .u8 sz), .c (.int .u8 dp), .c (.int .u16 age)] 29])))))) := by kernel_rfl
set_option maxRecDepth 100000 in
theorem p4_a0 {k ff tt sz dp age : Int} : (execN cfg4 100 2 b4 ([chanV k ff tt sz dp age, .snil] ++ List.replicate 167 .bad) []).bind (canon [] 169 [1,2,4,5,6]) =
 
 (.br (decide (sz < (1 : Int)))
 (.ret (.normal, [.snil, .ptr 0 0, .bl false, .pnil, .lit .i64 (190 : Int)], [.own [.c (.int .u8 k), .c (.int .u8 ff), .c (.int .u8 tt), .c (.int .u8 sz), .c (.int .u8 dp), .c (.int .u16 age)] 29]))
 (.br (decide ((32 : Int) < sz))
 (.ret (.normal, [.snil, .ptr 0 0, .bl false, .pnil, .lit .i64 (190 : Int)], [.own [.c (.int .u8 k), .c (.int .u8 ff), .c (.int .u8 tt), .c (.int .u8 sz), .c (.int .u8 dp), .c (.int .u16 age)] 29]))
 (.br (k == (0 : Int))
 (.br (decide ((0 : Int) < dp))
 (.br (decide (dp ≤ (16 : Int)))
 (.br (bitop BinOp.and IntKind.u8 dp (IntKind.u8.wrap (dp - (1 : Int))) == (0 : Int))
 (.need (inR .i64 dp)
 (.need (inR .i64 sz)
 (.ret (.normal, [.snil, .ptr 0 0, .bl false, .ptr 1 0, .lit .i64 (0 : Int)], [.own [.c (.int .u8 k), .c (.int .u8 ff), .c (.int .u8 tt), .c (.int .u8 sz), .c (.int .u8 dp), .c (.int .u16 age)] 29, .own [.c (.ifc 56 (.ptr 2 0)), .c (.int .i64 sz)] 62, .own [.c .snil, .c (.int .i64 dp)] 58]))))
 (.br (k == (1 : Int))
 (.br (decide ((0 : Int) < age))
 (.need (inR .i64 sz)
 (.ret (.normal, [.snil, .ptr 0 0, .bl false, .ptr 1 0, .lit .i64 (0 : Int)], [.own [.c (.int .u8 k), .c (.int .u8 ff), .c (.int .u8 tt), .c (.int .u8 sz), .c (.int .u8 dp), .c (.int .u16 age)] 29, .own [.c (.ifc 63 (.ptr 2 0)), .c (.int .i64 sz)] 62, .own [.c (.sl []), .c (.lit .u32 (0 : Int)), .c (.int .u16 age)] 65])))
 (.ret (.normal, [.snil, .ptr 0 0, .bl false, .pnil, .lit .i64 (190 : Int)], [.own [.c (.int .u8 k), .c (.int .u8 ff), .c (.int .u8 tt), .c (.int .u8 sz), .c (.int .u8 dp), .c (.int .u16 age)] 29])))
 (.ret (.normal, [.snil, .ptr 0 0, .bl false, .pnil, .lit .i64 (190 : Int)], [.own [.c (.int .u8 k), .c (.int .u8 ff), .c (.int .u8 tt), .c (.int .u8 sz), .c (.int .u8 dp), .c (.int .u16 age)] 29]))))
 (.br (k == (1 : Int))
 (.br (decide ((0 : Int) < age))
 (.need (inR .i64 sz)
 (.ret (.normal, [.snil, .ptr 0 0, .bl false, .ptr 1 0, .lit .i64 (0 : Int)], [.own [.c (.int .u8 k), .c (.int .u8 ff), .c (.int .u8 tt), .c (.int .u8 sz), .c (.int .u8 dp), .c (.int .u16 age)] 29, .own [.c (.ifc 63 (.ptr 2 0)), .c (.int .i64 sz)] 62, .own [.c (.sl []), .c (.lit .u32 (0 : Int)), .c (.int .u16 age)] 65])))
 (.ret (.normal, [.snil, .ptr 0 0, .bl false, .pnil, .lit .i64 (190 : Int)], [.own [.c (.int .u8 k), .c (.int .u8 ff), .c (.int .u8 tt), .c (.int .u8 sz), .c (.int .u8 dp), .c (.int .u16 age)] 29])))
 (.ret (.normal, [.snil, .ptr 0 0, .bl false, .pnil, .lit .i64 (190 : Int)], [.own [.c (.int .u8 k), .c (.int .u8 ff), .c (.int .u8 tt), .c (.int .u8 sz), .c (.int .u8 dp), .c (.int .u16 age)] 29]))))
 (.br (k == (1 : Int))
 (.br (decide ((0 : Int) < age))
 (.need (inR .i64 sz)
 (.ret (.normal, [.snil, .ptr 0 0, .bl false, .ptr 1 0, .lit .i64 (0 : Int)], [.own [.c (.int .u8 k), .c (.int .u8 ff), .c (.int .u8 tt), .c (.int .u8 sz), .c (.int .u8 dp), .c (.int .u16 age)] 29, .own [.c (.ifc 63 (.ptr 2 0)), .c (.int .i64 sz)] 62, .own [.c (.sl []), .c (.lit .u32 (0 : Int)), .c (.int .u16 age)] 65])))
 (.ret (.normal, [.snil, .ptr 0 0, .bl false, .pnil, .lit .i64 (190 : Int)], [.own [.c (.int .u8 k), .c (.int .u8 ff), .c (.int .u8 tt), .c (.int .u8 sz), .c (.int .u8 dp), .c (.int .u16 age)] 29])))
 (.ret (.normal, [.snil, .ptr 0 0, .bl false, .pnil, .lit .i64 (190 : Int)], [.own [.c (.int .u8 k), .c (.int .u8 ff), .c (.int .u8 tt), .c (.int .u8 sz), .c (.int .u8 dp), .c (.int .u16 age)] 29]))))
 (.br (k == (1 : Int))
 (.br (decide ((0 : Int) < age))
 (.need (inR .i64 sz)
 (.ret (.normal, [.snil, .ptr 0 0, .bl false, .ptr 1 0, .lit .i64 (0 : Int)], [.own [.c (.int .u8 k), .c (.int .u8 ff), .c (.int .u8 tt), .c (.int .u8 sz), .c (.int .u8 dp), .c (.int .u16 age)] 29, .own [.c (.ifc 63 (.ptr 2 0)), .c (.int .i64 sz)] 62, .own [.c (.sl []), .c (.lit .u32 (0 : Int)), .c (.int .u16 age)] 65])))
 (.ret (.normal, [.snil, .ptr 0 0, .bl false, .pnil, .lit .i64 (190 : Int)], [.own [.c (.int .u8 k), .c (.int .u8 ff), .c (.int .u8 tt), .c (.int .u8 sz), .c (.int .u8 dp), .c (.int .u16 age)] 29])))
 (.ret (.normal, [.snil, .ptr 0 0, .bl false, .pnil, .lit .i64 (190 : Int)], [.own [.c (.int .u8 k), .c (.int .u8 ff), .c (.int .u8 tt), .c (.int .u8 sz), .c (.int .u8 dp), .c (.int .u16 age)] 29])))))) := by kernel_rfl
set_option maxRecDepth 100000 in
theorem p4_q {ff tt sz dp age : Int} {calls : List Cl} {cap : Nat} : (execN cfg4 100 3 (restC 2 b4) (fr 169 [1,2,4,5,6] [callsV calls cap, .ptr 1 0, .bl false, .ptr 2 0, .lit .i64 0]) [.ro encCl calls, choV (.lit .u8 0) ff tt sz dp age, portQ 3 sz, queB .snil dp]).bind (canon [] 169 [1,4,5,7]) =
 
 (.br (dp == (1 : Int))
 (.br (decide (sz < (1 : Int)))
 (.ret (.ret, [.sli 0 (.c 0) 3 (.v calls.length) (some (.v cap)), .bl false, .ptr 1 0, .ptr 3 0], [.ro encCl calls, .own [.c (.ifc 56 (.ptr 2 0)), .c (.int .i64 sz)] 62, .own [.c .snil, .c (.int .i64 dp)] 58, .own [.c (.lit .u8 (0 : Int)), .c (.lit .u8 (0 : Int)), .c (.lit .u8 (0 : Int)), .c (.lit .u8 (0 : Int)), .c (.lit .u8 (0 : Int)), .c (.lit .u16 (0 : Int)), .c .snil, .c (.lit .u32 (0 : Int))] 43]))
 (.br (decide ((32 : Int) < sz))
 (.ret (.ret, [.sli 0 (.c 0) 3 (.v calls.length) (some (.v cap)), .bl false, .ptr 1 0, .ptr 3 0], [.ro encCl calls, .own [.c (.ifc 56 (.ptr 2 0)), .c (.int .i64 sz)] 62, .own [.c .snil, .c (.int .i64 dp)] 58, .own [.c (.lit .u8 (0 : Int)), .c (.lit .u8 (0 : Int)), .c (.lit .u8 (0 : Int)), .c (.lit .u8 (0 : Int)), .c (.lit .u8 (0 : Int)), .c (.lit .u16 (0 : Int)), .c .snil, .c (.lit .u32 (0 : Int))] 43]))
 (.ret (.normal, [.sli 0 (.c 0) 3 (.v calls.length) (some (.v cap)), .bl false, .ptr 1 0, .ptr 3 0], [.ro encCl calls, .own [.c (.ifc 56 (.ptr 2 0)), .c (.int .i64 sz)] 62, .own [.c .snil, .c (.int .i64 dp)] 58, .own [.c (.lit .u8 (0 : Int)), .c (.int .u8 ff), .c (.int .u8 tt), .c (.int .u8 sz), .c (.int .u8 dp), .c (.int .u16 age), .c .snil, .c (.lit .u32 (0 : Int))] 43]))))
 (.br (dp == (2 : Int))
 (.br (decide (sz < (1 : Int)))
 (.ret (.ret, [.sli 0 (.c 0) 3 (.v calls.length) (some (.v cap)), .bl false, .ptr 1 0, .ptr 3 0], [.ro encCl calls, .own [.c (.ifc 56 (.ptr 2 0)), .c (.int .i64 sz)] 62, .own [.c .snil, .c (.int .i64 dp)] 58, .own [.c (.lit .u8 (0 : Int)), .c (.lit .u8 (0 : Int)), .c (.lit .u8 (0 : Int)), .c (.lit .u8 (0 : Int)), .c (.lit .u8 (0 : Int)), .c (.lit .u16 (0 : Int)), .c .snil, .c (.lit .u32 (0 : Int))] 43]))
 (.br (decide ((32 : Int) < sz))
 (.ret (.ret, [.sli 0 (.c 0) 3 (.v calls.length) (some (.v cap)), .bl false, .ptr 1 0, .ptr 3 0], [.ro encCl calls, .own [.c (.ifc 56 (.ptr 2 0)), .c (.int .i64 sz)] 62, .own [.c .snil, .c (.int .i64 dp)] 58, .own [.c (.lit .u8 (0 : Int)), .c (.lit .u8 (0 : Int)), .c (.lit .u8 (0 : Int)), .c (.lit .u8 (0 : Int)), .c (.lit .u8 (0 : Int)), .c (.lit .u16 (0 : Int)), .c .snil, .c (.lit .u32 (0 : Int))] 43]))
 (.ret (.normal, [.sli 0 (.c 0) 3 (.v calls.length) (some (.v cap)), .bl false, .ptr 1 0, .ptr 3 0], [.ro encCl calls, .own [.c (.ifc 56 (.ptr 2 0)), .c (.int .i64 sz)] 62, .own [.c .snil, .c (.int .i64 dp)] 58, .own [.c (.lit .u8 (0 : Int)), .c (.int .u8 ff), .c (.int .u8 tt), .c (.int .u8 sz), .c (.int .u8 dp), .c (.int .u16 age), .c .snil, .c (.lit .u32 (0 : Int))] 43]))))
 (.br (dp == (4 : Int))
 (.br (decide (sz < (1 : Int)))
 (.ret (.ret, [.sli 0 (.c 0) 3 (.v calls.length) (some (.v cap)), .bl false, .ptr 1 0, .ptr 3 0], [.ro encCl calls, .own [.c (.ifc 56 (.ptr 2 0)), .c (.int .i64 sz)] 62, .own [.c .snil, .c (.int .i64 dp)] 58, .own [.c (.lit .u8 (0 : Int)), .c (.lit .u8 (0 : Int)), .c (.lit .u8 (0 : Int)), .c (.lit .u8 (0 : Int)), .c (.lit .u8 (0 : Int)), .c (.lit .u16 (0 : Int)), .c .snil, .c (.lit .u32 (0 : Int))] 43]))
 (.br (decide ((32 : Int) < sz))
 (.ret (.ret, [.sli 0 (.c 0) 3 (.v calls.length) (some (.v cap)), .bl false, .ptr 1 0, .ptr 3 0], [.ro encCl calls, .own [.c (.ifc 56 (.ptr 2 0)), .c (.int .i64 sz)] 62, .own [.c .snil, .c (.int .i64 dp)] 58, .own [.c (.lit .u8 (0 : Int)), .c (.lit .u8 (0 : Int)), .c (.lit .u8 (0 : Int)), .c (.lit .u8 (0 : Int)), .c (.lit .u8 (0 : Int)), .c (.lit .u16 (0 : Int)), .c .snil, .c (.lit .u32 (0 : Int))] 43]))
 (.ret (.normal, [.sli 0 (.c 0) 3 (.v calls.length) (some (.v cap)), .bl false, .ptr 1 0, .ptr 3 0], [.ro encCl calls, .own [.c (.ifc 56 (.ptr 2 0)), .c (.int .i64 sz)] 62, .own [.c .snil, .c (.int .i64 dp)] 58, .own [.c (.lit .u8 (0 : Int)), .c (.int .u8 ff), .c (.int .u8 tt), .c (.int .u8 sz), .c (.int .u8 dp), .c (.int .u16 age), .c .snil, .c (.lit .u32 (0 : Int))] 43]))))
 (.br (dp == (8 : Int))
 (.br (decide (sz < (1 : Int)))
 (.ret (.ret, [.sli 0 (.c 0) 3 (.v calls.length) (some (.v cap)), .bl false, .ptr 1 0, .ptr 3 0], [.ro encCl calls, .own [.c (.ifc 56 (.ptr 2 0)), .c (.int .i64 sz)] 62, .own [.c .snil, .c (.int .i64 dp)] 58, .own [.c (.lit .u8 (0 : Int)), .c (.lit .u8 (0 : Int)), .c (.lit .u8 (0 : Int)), .c (.lit .u8 (0 : Int)), .c (.lit .u8 (0 : Int)), .c (.lit .u16 (0 : Int)), .c .snil, .c (.lit .u32 (0 : Int))] 43]))
 (.br (decide ((32 : Int) < sz))
 (.ret (.ret, [.sli 0 (.c 0) 3 (.v calls.length) (some (.v cap)), .bl false, .ptr 1 0, .ptr 3 0], [.ro encCl calls, .own [.c (.ifc 56 (.ptr 2 0)), .c (.int .i64 sz)] 62, .own [.c .snil, .c (.int .i64 dp)] 58, .own [.c (.lit .u8 (0 : Int)), .c (.lit .u8 (0 : Int)), .c (.lit .u8 (0 : Int)), .c (.lit .u8 (0 : Int)), .c (.lit .u8 (0 : Int)), .c (.lit .u16 (0 : Int)), .c .snil, .c (.lit .u32 (0 : Int))] 43]))
 (.ret (.normal, [.sli 0 (.c 0) 3 (.v calls.length) (some (.v cap)), .bl false, .ptr 1 0, .ptr 3 0], [.ro encCl calls, .own [.c (.ifc 56 (.ptr 2 0)), .c (.int .i64 sz)] 62, .own [.c .snil, .c (.int .i64 dp)] 58, .own [.c (.lit .u8 (0 : Int)), .c (.int .u8 ff), .c (.int .u8 tt), .c (.int .u8 sz), .c (.int .u8 dp), .c (.int .u16 age), .c .snil, .c (.lit .u32 (0 : Int))] 43]))))
 (.br (decide (sz < (1 : Int)))
 (.ret (.ret, [.sli 0 (.c 0) 3 (.v calls.length) (some (.v cap)), .bl false, .ptr 1 0, .ptr 3 0], [.ro encCl calls, .own [.c (.ifc 56 (.ptr 2 0)), .c (.int .i64 sz)] 62, .own [.c .snil, .c (.int .i64 dp)] 58, .own [.c (.lit .u8 (0 : Int)), .c (.lit .u8 (0 : Int)), .c (.lit .u8 (0 : Int)), .c (.lit .u8 (0 : Int)), .c (.lit .u8 (0 : Int)), .c (.lit .u16 (0 : Int)), .c .snil, .c (.lit .u32 (0 : Int))] 43]))
 (.br (decide ((32 : Int) < sz))
 (.ret (.ret, [.sli 0 (.c 0) 3 (.v calls.length) (some (.v cap)), .bl false, .ptr 1 0, .ptr 3 0], [.ro encCl calls, .own [.c (.ifc 56 (.ptr 2 0)), .c (.int .i64 sz)] 62, .own [.c .snil, .c (.int .i64 dp)] 58, .own [.c (.lit .u8 (0 : Int)), .c (.lit .u8 (0 : Int)), .c (.lit .u8 (0 : Int)), .c (.lit .u8 (0 : Int)), .c (.lit .u8 (0 : Int)), .c (.lit .u16 (0 : Int)), .c .snil, .c (.lit .u32 (0 : Int))] 43]))
 (.br (!dp == (16 : Int))
 (.ret (.ret, [.sli 0 (.c 0) 3 (.v calls.length) (some (.v cap)), .bl false, .ptr 1 0, .ptr 3 0], [.ro encCl calls, .own [.c (.ifc 56 (.ptr 2 0)), .c (.int .i64 sz)] 62, .own [.c .snil, .c (.int .i64 dp)] 58, .own [.c (.lit .u8 (0 : Int)), .c (.lit .u8 (0 : Int)), .c (.lit .u8 (0 : Int)), .c (.lit .u8 (0 : Int)), .c (.lit .u8 (0 : Int)), .c (.lit .u16 (0 : Int)), .c .snil, .c (.lit .u32 (0 : Int))] 43]))
 (.ret (.normal, [.sli 0 (.c 0) 3 (.v calls.length) (some (.v cap)), .bl false, .ptr 1 0, .ptr 3 0], [.ro encCl calls, .own [.c (.ifc 56 (.ptr 2 0)), .c (.int .i64 sz)] 62, .own [.c .snil, .c (.int .i64 dp)] 58, .own [.c (.lit .u8 (0 : Int)), .c (.int .u8 ff), .c (.int .u8 tt), .c (.int .u8 sz), .c (.int .u8 dp), .c (.int .u16 age), .c .snil, .c (.lit .u32 (0 : Int))] 43]))))))))) := by kernel_rfl
set_option maxRecDepth 100000 in
theorem p4_s {ff tt sz dp age : Int} {calls : List Cl} {cap : Nat} : (execN cfg4 100 3 (restC 2 b4) (fr 169 [1,2,4,5,6] [callsV calls cap, .ptr 1 0, .bl false, .ptr 2 0, .lit .i64 0]) [.ro encCl calls, choV (.lit .u8 1) ff tt sz dp age, portS 3 sz, samB (.sl []) (.lit .u32 0) age]).bind (canon [] 169 [1,4,5,7]) =
 
 (.br (decide (sz < (1 : Int)))
 (.ret (.ret, [.sli 0 (.c 0) 3 (.v calls.length) (some (.v cap)), .bl false, .ptr 1 0, .ptr 3 0], [.ro encCl calls, .own [.c (.ifc 63 (.ptr 2 0)), .c (.int .i64 sz)] 62, .own [.c (.sl []), .c (.lit .u32 (0 : Int)), .c (.int .u16 age)] 65, .own [.c (.lit .u8 (0 : Int)), .c (.lit .u8 (0 : Int)), .c (.lit .u8 (0 : Int)), .c (.lit .u8 (0 : Int)), .c (.lit .u8 (0 : Int)), .c (.lit .u16 (0 : Int)), .c .snil, .c (.lit .u32 (0 : Int))] 43]))
 (.br (decide ((32 : Int) < sz))
 (.ret (.ret, [.sli 0 (.c 0) 3 (.v calls.length) (some (.v cap)), .bl false, .ptr 1 0, .ptr 3 0], [.ro encCl calls, .own [.c (.ifc 63 (.ptr 2 0)), .c (.int .i64 sz)] 62, .own [.c (.sl []), .c (.lit .u32 (0 : Int)), .c (.int .u16 age)] 65, .own [.c (.lit .u8 (0 : Int)), .c (.lit .u8 (0 : Int)), .c (.lit .u8 (0 : Int)), .c (.lit .u8 (0 : Int)), .c (.lit .u8 (0 : Int)), .c (.lit .u16 (0 : Int)), .c .snil, .c (.lit .u32 (0 : Int))] 43]))
 (.br (age == (0 : Int))
 (.ret (.ret, [.sli 0 (.c 0) 3 (.v calls.length) (some (.v cap)), .bl false, .ptr 1 0, .ptr 3 0], [.ro encCl calls, .own [.c (.ifc 63 (.ptr 2 0)), .c (.int .i64 sz)] 62, .own [.c (.sl []), .c (.lit .u32 (0 : Int)), .c (.int .u16 age)] 65, .own [.c (.lit .u8 (0 : Int)), .c (.lit .u8 (0 : Int)), .c (.lit .u8 (0 : Int)), .c (.lit .u8 (0 : Int)), .c (.lit .u8 (0 : Int)), .c (.lit .u16 (0 : Int)), .c .snil, .c (.lit .u32 (0 : Int))] 43]))
 (.ret (.normal, [.sli 0 (.c 0) 3 (.v calls.length) (some (.v cap)), .bl false, .ptr 1 0, .ptr 3 0], [.ro encCl calls, .own [.c (.ifc 63 (.ptr 2 0)), .c (.int .i64 sz)] 62, .own [.c (.sl []), .c (.lit .u32 (0 : Int)), .c (.int .u16 age)] 65, .own [.c (.lit .u8 (1 : Int)), .c (.int .u8 ff), .c (.int .u8 tt), .c (.int .u8 sz), .c (.int .u8 dp), .c (.int .u16 age), .c .snil, .c (.lit .u32 (0 : Int))] 43]))))) := by kernel_rfl
set_option maxRecDepth 100000 in
theorem p4_n {k ff tt sz dp age : Int} {calls : List Cl} {cap : Nat} : (execN cfg4 100 3 (restC 2 b4) (fr 169 [1,2,4,5,6] [callsV calls cap, .ptr 1 0, .bl false, .pnil, .lit .i64 190]) [.ro encCl calls, choV (.int .u8 k) ff tt sz dp age]).bind (canon [] 169 [4]) =
 
 (.br (k == (0 : Int))
 (.br (dp == (1 : Int))
 (.br (decide (sz < (1 : Int)))
 (.ret (.ret, [.bl true], []))
 (.br (decide ((32 : Int) < sz))
 (.ret (.ret, [.bl true], []))
 (.ret (.ret, [.bl false], []))))
 (.br (dp == (2 : Int))
 (.br (decide (sz < (1 : Int)))
 (.ret (.ret, [.bl true], []))
 (.br (decide ((32 : Int) < sz))
 (.ret (.ret, [.bl true], []))
 (.ret (.ret, [.bl false], []))))
 (.br (dp == (4 : Int))
 (.br (decide (sz < (1 : Int)))
 (.ret (.ret, [.bl true], []))
 (.br (decide ((32 : Int) < sz))
 (.ret (.ret, [.bl true], []))
 (.ret (.ret, [.bl false], []))))
 (.br (dp == (8 : Int))
 (.br (decide (sz < (1 : Int)))
 (.ret (.ret, [.bl true], []))
 (.br (decide ((32 : Int) < sz))
 (.ret (.ret, [.bl true], []))
 (.ret (.ret, [.bl false], []))))
 (.br (decide (sz < (1 : Int)))
 (.ret (.ret, [.bl true], []))
 (.br (decide ((32 : Int) < sz))
 (.ret (.ret, [.bl true], []))
 (.br (!dp == (16 : Int))
 (.br (k != (1 : Int))
 (.ret (.ret, [.bl true], []))
 (.br (age == (0 : Int))
 (.ret (.ret, [.bl true], []))
 (.ret (.ret, [.bl false], []))))
 (.ret (.ret, [.bl false], [])))))))))
 (.br (decide (sz < (1 : Int)))
 (.ret (.ret, [.bl true], []))
 (.br (decide ((32 : Int) < sz))
 (.ret (.ret, [.bl true], []))
 (.br (k != (1 : Int))
 (.ret (.ret, [.bl true], []))
 (.br (age == (0 : Int))
 (.ret (.ret, [.bl true], []))
 (.ret (.ret, [.bl false], []))))))) := by kernel_rfl
set_option maxRecDepth 100000 in
theorem p4_n0 {k ff tt sz dp age : Int} : (execN cfg4 100 3 (restC 2 b4) (fr 169 [1,2,4,5,6] [.snil, .ptr 0 0, .bl false, .pnil, .lit .i64 190]) [choV (.int .u8 k) ff tt sz dp age]).bind (canon [] 169 [4]) =
 
 (.br (k == (0 : Int))
 (.br (dp == (1 : Int))
 (.br (decide (sz < (1 : Int)))
 (.ret (.ret, [.bl true], []))
 (.br (decide ((32 : Int) < sz))
 (.ret (.ret, [.bl true], []))
 (.ret (.ret, [.bl false], []))))
 (.br (dp == (2 : Int))
 (.br (decide (sz < (1 : Int)))
 (.ret (.ret, [.bl true], []))
 (.br (decide ((32 : Int) < sz))
 (.ret (.ret, [.bl true], []))
 (.ret (.ret, [.bl false], []))))
 (.br (dp == (4 : Int))
 (.br (decide (sz < (1 : Int)))
 (.ret (.ret, [.bl true], []))
 (.br (decide ((32 : Int) < sz))
 (.ret (.ret, [.bl true], []))
 (.ret (.ret, [.bl false], []))))
 (.br (dp == (8 : Int))
 (.br (decide (sz < (1 : Int)))
 (.ret (.ret, [.bl true], []))
 (.br (decide ((32 : Int) < sz))
 (.ret (.ret, [.bl true], []))
 (.ret (.ret, [.bl false], []))))
 (.br (decide (sz < (1 : Int)))
 (.ret (.ret, [.bl true], []))
 (.br (decide ((32 : Int) < sz))
 (.ret (.ret, [.bl true], []))
 (.br (!dp == (16 : Int))
 (.br (k != (1 : Int))
 (.ret (.ret, [.bl true], []))
 (.br (age == (0 : Int))
 (.ret (.ret, [.bl true], []))
 (.ret (.ret, [.bl false], []))))
 (.ret (.ret, [.bl false], [])))))))))
 (.br (decide (sz < (1 : Int)))
 (.ret (.ret, [.bl true], []))
 (.br (decide ((32 : Int) < sz))
 (.ret (.ret, [.bl true], []))
 (.br (k != (1 : Int))
 (.ret (.ret, [.bl true], []))
 (.br (age == (0 : Int))
 (.ret (.ret, [.bl true], []))
 (.ret (.ret, [.bl false], []))))))) := by kernel_rfl
set_option maxRecDepth 100000 in
theorem p4_q0 {ff tt sz dp age : Int} : (exec cfg4 100 (restC 2 b4) (fr 169 [1,2,4,5,6] [.snil, .ptr 0 0, .bl false, .ptr 1 0, .lit .i64 0]) [choV (.lit .u8 0) ff tt sz dp age, portQ 2 sz, queB .snil dp]).bind (canon [] 169 [4]) =
 
 (.br (dp == (1 : Int))
 (.br (decide (sz < (1 : Int)))
 (.ret (.ret, [.bl false], []))
 (.br (decide ((32 : Int) < sz))
 (.ret (.ret, [.bl false], []))
 (.ret (.ret, [.bl true], []))))
 (.br (dp == (2 : Int))
 (.br (decide (sz < (1 : Int)))
 (.ret (.ret, [.bl false], []))
 (.br (decide ((32 : Int) < sz))
 (.ret (.ret, [.bl false], []))
 (.ret (.ret, [.bl true], []))))
 (.br (dp == (4 : Int))
 (.br (decide (sz < (1 : Int)))
 (.ret (.ret, [.bl false], []))
 (.br (decide ((32 : Int) < sz))
 (.ret (.ret, [.bl false], []))
 (.ret (.ret, [.bl true], []))))
 (.br (dp == (8 : Int))
 (.br (decide (sz < (1 : Int)))
 (.ret (.ret, [.bl false], []))
 (.br (decide ((32 : Int) < sz))
 (.ret (.ret, [.bl false], []))
 (.ret (.ret, [.bl true], []))))
 (.br (decide (sz < (1 : Int)))
 (.ret (.ret, [.bl false], []))
 (.br (decide ((32 : Int) < sz))
 (.ret (.ret, [.bl false], []))
 (.br (!dp == (16 : Int))
 (.ret (.ret, [.bl false], []))
 (.ret (.ret, [.bl true], []))))))))) := by kernel_rfl
set_option maxRecDepth 100000 in
theorem p4_s0 {ff tt sz dp age : Int} : (exec cfg4 100 (restC 2 b4) (fr 169 [1,2,4,5,6] [.snil, .ptr 0 0, .bl false, .ptr 1 0, .lit .i64 0]) [choV (.lit .u8 1) ff tt sz dp age, portS 2 sz, samB (.sl []) (.lit .u32 0) age]).bind (canon [] 169 [4]) =
 
 (.br (decide (sz < (1 : Int)))
 (.ret (.ret, [.bl false], []))
 (.br (decide ((32 : Int) < sz))
 (.ret (.ret, [.bl false], []))
 (.br (age == (0 : Int))
 (.ret (.ret, [.bl false], []))
 (.ret (.ret, [.bl true], []))))) := by kernel_rfl
end Go.Proofs.Ytdadfgeepinpbaa

namespace Go.Proofs.Ytdadfgeepinpbaa
open Go Go.Proofs.Ytdadfgeepinpbaa.Sx
set_option linter.unusedVariables false
set_option maxRecDepth 100000 in
theorem p4_rqn {ff tt sz dp age i : Int} {calls : List Cl} {cap : Nat} : (exec cfg4 100 round4 (fr 169 n4 (v4 (callsV calls cap) 3 i)) (s4qn calls ff tt sz dp age)).bind (canon [] 169 n4) =
 
 (.br (decide (i < (↑calls.length : Int)))
 (.br (decide (i < (60 : Int)))
 (.need (decide ((0 : Int) ≤ i) && decide (i.toNat < calls.length))
 (.need (decide (i.toNat < calls.length))
 (.need (decide (i.toNat < calls.length))
 (.need (decide (i.toNat < calls.length))
 (.br ((calls.getD i.toNat encCl.dflt).1 == (0 : Int))
 (.br (!strEq (bs (decide ((40 : Int) < (↑(calls.getD i.toNat encCl.dflt).2.size : Int))) ((calls.getD i.toNat encCl.dflt).2.extract 0 40) (calls.getD i.toNat encCl.dflt).2) { data := { toList := [] } })
 (.need (inR .i64 sz)
 (.br (!decide ((↑(bs (decide ((40 : Int) < (↑(calls.getD i.toNat encCl.dflt).2.size : Int))) ((calls.getD i.toNat encCl.dflt).2.extract 0 40) (calls.getD i.toNat encCl.dflt).2).size : Int) ≤ sz))
 (.br (decide ((1 : Int) ≤ (↑(bs (decide ((40 : Int) < (↑(calls.getD i.toNat encCl.dflt).2.size : Int))) ((calls.getD i.toNat encCl.dflt).2.extract 0 40) (calls.getD i.toNat encCl.dflt).2).size : Int)))
 (.br (!decide ((↑(bs (decide ((40 : Int) < (↑(calls.getD i.toNat encCl.dflt).2.size : Int))) ((calls.getD i.toNat encCl.dflt).2.extract 0 40) (calls.getD i.toNat encCl.dflt).2).size : Int) ≤ sz))
 (.need (inR .i64 (i + (1 : Int)))
 (.ret (.normal, [.sli 0 (.c 0) 3 (.v calls.length) (some (.v cap)), .bl false, .ptr 1 0, .ptr 3 0, .int .i64 (i + (1 : Int))], [.ro encCl calls, .own [.c (.ifc 56 (.ptr 2 0)), .c (.int .i64 sz)] 62, .own [.c .snil, .c (.int .i64 dp)] 58, .own [.c (.lit .u8 (0 : Int)), .c (.int .u8 ff), .c (.int .u8 tt), .c (.int .u8 sz), .c (.int .u8 dp), .c (.int .u16 age), .c .snil, .c (.lit .u32 (0 : Int))] 43])))
 (.br ((0 : Int) == dp)
 (.ret (.ret, [.sli 0 (.c 0) 3 (.v calls.length) (some (.v cap)), .bl false, .ptr 1 0, .ptr 3 0, .int .i64 i], [.ro encCl calls, .own [.c (.ifc 56 (.ptr 2 0)), .c (.int .i64 sz)] 62, .own [.c .snil, .c (.int .i64 dp)] 58, .own [.c (.lit .u8 (0 : Int)), .c (.int .u8 ff), .c (.int .u8 tt), .c (.int .u8 sz), .c (.int .u8 dp), .c (.int .u16 age), .c .snil, .c (.lit .u32 (0 : Int))] 43]))
 (.need (true)
 (.need (true)
 (.ret (.ret, [.sli 0 (.c 0) 3 (.v calls.length) (some (.v cap)), .bl false, .ptr 1 0, .ptr 4 0, .int .i64 i], [.ro encCl calls, .own [.c (.ifc 56 (.ptr 2 0)), .c (.int .i64 sz)] 62, .own [.c (.sli 3 (.c 0) 1 (.c 1) none), .c (.int .i64 dp)] 58, .vec (encRow 0) [[.str (bs (decide ((40 : Int) < (↑(calls.getD i.toNat encCl.dflt).2.size : Int))) ((calls.getD i.toNat encCl.dflt).2.extract 0 40) (calls.getD i.toNat encCl.dflt).2)]] 9, .own [.c (.lit .u8 (0 : Int)), .c (.int .u8 ff), .c (.int .u8 tt), .c (.int .u8 sz), .c (.int .u8 dp), .c (.int .u16 age), .c .snil, .c (.lit .u32 (0 : Int))] 43]))))))
 (.need (inR .i64 (i + (1 : Int)))
 (.ret (.normal, [.sli 0 (.c 0) 3 (.v calls.length) (some (.v cap)), .bl false, .ptr 1 0, .ptr 3 0, .int .i64 (i + (1 : Int))], [.ro encCl calls, .own [.c (.ifc 56 (.ptr 2 0)), .c (.int .i64 sz)] 62, .own [.c .snil, .c (.int .i64 dp)] 58, .own [.c (.lit .u8 (0 : Int)), .c (.int .u8 ff), .c (.int .u8 tt), .c (.int .u8 sz), .c (.int .u8 dp), .c (.int .u16 age), .c .snil, .c (.lit .u32 (0 : Int))] 43]))))
 (.need (inR .i64 dp)
 (.br (decide (dp ≤ (0 : Int)))
 (.br (decide ((1 : Int) ≤ (↑(bs (decide ((40 : Int) < (↑(calls.getD i.toNat encCl.dflt).2.size : Int))) ((calls.getD i.toNat encCl.dflt).2.extract 0 40) (calls.getD i.toNat encCl.dflt).2).size : Int)))
 (.br (!decide ((↑(bs (decide ((40 : Int) < (↑(calls.getD i.toNat encCl.dflt).2.size : Int))) ((calls.getD i.toNat encCl.dflt).2.extract 0 40) (calls.getD i.toNat encCl.dflt).2).size : Int) ≤ sz))
 (.ret (.ret, [.sli 0 (.c 0) 3 (.v calls.length) (some (.v cap)), .bl false, .ptr 1 0, .ptr 3 0, .int .i64 i], [.ro encCl calls, .own [.c (.ifc 56 (.ptr 2 0)), .c (.int .i64 sz)] 62, .own [.c .snil, .c (.int .i64 dp)] 58, .own [.c (.lit .u8 (0 : Int)), .c (.int .u8 ff), .c (.int .u8 tt), .c (.int .u8 sz), .c (.int .u8 dp), .c (.int .u16 age), .c .snil, .c (.lit .u32 (0 : Int))] 43]))
 (.br ((0 : Int) == dp)
 (.need (inR .i64 (i + (1 : Int)))
 (.ret (.normal, [.sli 0 (.c 0) 3 (.v calls.length) (some (.v cap)), .bl false, .ptr 1 0, .ptr 3 0, .int .i64 (i + (1 : Int))], [.ro encCl calls, .own [.c (.ifc 56 (.ptr 2 0)), .c (.int .i64 sz)] 62, .own [.c .snil, .c (.int .i64 dp)] 58, .own [.c (.lit .u8 (0 : Int)), .c (.int .u8 ff), .c (.int .u8 tt), .c (.int .u8 sz), .c (.int .u8 dp), .c (.int .u16 age), .c .snil, .c (.lit .u32 (0 : Int))] 43])))
 (.need (true)
 (.need (true)
 (.ret (.ret, [.sli 0 (.c 0) 3 (.v calls.length) (some (.v cap)), .bl false, .ptr 1 0, .ptr 4 0, .int .i64 i], [.ro encCl calls, .own [.c (.ifc 56 (.ptr 2 0)), .c (.int .i64 sz)] 62, .own [.c (.sli 3 (.c 0) 1 (.c 1) none), .c (.int .i64 dp)] 58, .vec (encRow 0) [[.str (bs (decide ((40 : Int) < (↑(calls.getD i.toNat encCl.dflt).2.size : Int))) ((calls.getD i.toNat encCl.dflt).2.extract 0 40) (calls.getD i.toNat encCl.dflt).2)]] 9, .own [.c (.lit .u8 (0 : Int)), .c (.int .u8 ff), .c (.int .u8 tt), .c (.int .u8 sz), .c (.int .u8 dp), .c (.int .u16 age), .c .snil, .c (.lit .u32 (0 : Int))] 43]))))))
 (.ret (.ret, [.sli 0 (.c 0) 3 (.v calls.length) (some (.v cap)), .bl false, .ptr 1 0, .ptr 3 0, .int .i64 i], [.ro encCl calls, .own [.c (.ifc 56 (.ptr 2 0)), .c (.int .i64 sz)] 62, .own [.c .snil, .c (.int .i64 dp)] 58, .own [.c (.lit .u8 (0 : Int)), .c (.int .u8 ff), .c (.int .u8 tt), .c (.int .u8 sz), .c (.int .u8 dp), .c (.int .u16 age), .c .snil, .c (.lit .u32 (0 : Int))] 43])))
 (.need (true)
 (.need (true)
 (.need (roomy 1 16)
 (.br (decide ((1 : Int) ≤ (↑(bs (decide ((40 : Int) < (↑(calls.getD i.toNat encCl.dflt).2.size : Int))) ((calls.getD i.toNat encCl.dflt).2.extract 0 40) (calls.getD i.toNat encCl.dflt).2).size : Int)))
 (.br (!decide ((↑(bs (decide ((40 : Int) < (↑(calls.getD i.toNat encCl.dflt).2.size : Int))) ((calls.getD i.toNat encCl.dflt).2.extract 0 40) (calls.getD i.toNat encCl.dflt).2).size : Int) ≤ sz))
 (.ret (.ret, [.sli 0 (.c 0) 3 (.v calls.length) (some (.v cap)), .bl false, .ptr 1 0, .ptr 3 0, .int .i64 i], [.ro encCl calls, .own [.c (.ifc 56 (.ptr 2 0)), .c (.int .i64 sz)] 62, .own [.c .snil, .c (.int .i64 dp)] 58, .own [.c (.lit .u8 (0 : Int)), .c (.int .u8 ff), .c (.int .u8 tt), .c (.int .u8 sz), .c (.int .u8 dp), .c (.int .u16 age), .c (.sli 4 (.c 0) 1 (.c 1) none), .c (.lit .u32 (0 : Int))] 43, .vec (encRow 0) [[.str (bs (decide ((40 : Int) < (↑(calls.getD i.toNat encCl.dflt).2.size : Int))) ((calls.getD i.toNat encCl.dflt).2.extract 0 40) (calls.getD i.toNat encCl.dflt).2)]] 9]))
 (.br ((0 : Int) == dp)
 (.ret (.ret, [.sli 0 (.c 0) 3 (.v calls.length) (some (.v cap)), .bl false, .ptr 1 0, .ptr 3 0, .int .i64 i], [.ro encCl calls, .own [.c (.ifc 56 (.ptr 2 0)), .c (.int .i64 sz)] 62, .own [.c .snil, .c (.int .i64 dp)] 58, .own [.c (.lit .u8 (0 : Int)), .c (.int .u8 ff), .c (.int .u8 tt), .c (.int .u8 sz), .c (.int .u8 dp), .c (.int .u16 age), .c (.sli 4 (.c 0) 1 (.c 1) none), .c (.lit .u32 (0 : Int))] 43, .vec (encRow 0) [[.str (bs (decide ((40 : Int) < (↑(calls.getD i.toNat encCl.dflt).2.size : Int))) ((calls.getD i.toNat encCl.dflt).2.extract 0 40) (calls.getD i.toNat encCl.dflt).2)]] 9]))
 (.need (true)
 (.need (true)
 (.need (inR .i64 (i + (1 : Int)))
 (.ret (.normal, [.sli 0 (.c 0) 3 (.v calls.length) (some (.v cap)), .bl false, .ptr 1 0, .ptr 4 0, .int .i64 (i + (1 : Int))], [.ro encCl calls, .own [.c (.ifc 56 (.ptr 2 0)), .c (.int .i64 sz)] 62, .own [.c (.sli 3 (.c 0) 1 (.c 1) none), .c (.int .i64 dp)] 58, .vec (encRow 0) [[.str (bs (decide ((40 : Int) < (↑(calls.getD i.toNat encCl.dflt).2.size : Int))) ((calls.getD i.toNat encCl.dflt).2.extract 0 40) (calls.getD i.toNat encCl.dflt).2)]] 9, .own [.c (.lit .u8 (0 : Int)), .c (.int .u8 ff), .c (.int .u8 tt), .c (.int .u8 sz), .c (.int .u8 dp), .c (.int .u16 age), .c (.sli 5 (.c 0) 1 (.c 1) none), .c (.lit .u32 (0 : Int))] 43, .vec (encRow 0) [[.str (bs (decide ((40 : Int) < (↑(calls.getD i.toNat encCl.dflt).2.size : Int))) ((calls.getD i.toNat encCl.dflt).2.extract 0 40) (calls.getD i.toNat encCl.dflt).2)]] 9])))))))
 (.ret (.ret, [.sli 0 (.c 0) 3 (.v calls.length) (some (.v cap)), .bl false, .ptr 1 0, .ptr 3 0, .int .i64 i], [.ro encCl calls, .own [.c (.ifc 56 (.ptr 2 0)), .c (.int .i64 sz)] 62, .own [.c .snil, .c (.int .i64 dp)] 58, .own [.c (.lit .u8 (0 : Int)), .c (.int .u8 ff), .c (.int .u8 tt), .c (.int .u8 sz), .c (.int .u8 dp), .c (.int .u16 age), .c (.sli 4 (.c 0) 1 (.c 1) none), .c (.lit .u32 (0 : Int))] 43, .vec (encRow 0) [[.str (bs (decide ((40 : Int) < (↑(calls.getD i.toNat encCl.dflt).2.size : Int))) ((calls.getD i.toNat encCl.dflt).2.extract 0 40) (calls.getD i.toNat encCl.dflt).2)]] 9]))))))))))
 (.br (decide ((1 : Int) ≤ (↑(bs (decide ((40 : Int) < (↑(calls.getD i.toNat encCl.dflt).2.size : Int))) ((calls.getD i.toNat encCl.dflt).2.extract 0 40) (calls.getD i.toNat encCl.dflt).2).size : Int)))
 (.br (!decide ((↑(bs (decide ((40 : Int) < (↑(calls.getD i.toNat encCl.dflt).2.size : Int))) ((calls.getD i.toNat encCl.dflt).2.extract 0 40) (calls.getD i.toNat encCl.dflt).2).size : Int) ≤ sz))
 (.need (inR .i64 (i + (1 : Int)))
 (.ret (.normal, [.sli 0 (.c 0) 3 (.v calls.length) (some (.v cap)), .bl false, .ptr 1 0, .ptr 3 0, .int .i64 (i + (1 : Int))], [.ro encCl calls, .own [.c (.ifc 56 (.ptr 2 0)), .c (.int .i64 sz)] 62, .own [.c .snil, .c (.int .i64 dp)] 58, .own [.c (.lit .u8 (0 : Int)), .c (.int .u8 ff), .c (.int .u8 tt), .c (.int .u8 sz), .c (.int .u8 dp), .c (.int .u16 age), .c .snil, .c (.lit .u32 (0 : Int))] 43])))
 (.br ((0 : Int) == dp)
 (.ret (.ret, [.sli 0 (.c 0) 3 (.v calls.length) (some (.v cap)), .bl false, .ptr 1 0, .ptr 3 0, .int .i64 i], [.ro encCl calls, .own [.c (.ifc 56 (.ptr 2 0)), .c (.int .i64 sz)] 62, .own [.c .snil, .c (.int .i64 dp)] 58, .own [.c (.lit .u8 (0 : Int)), .c (.int .u8 ff), .c (.int .u8 tt), .c (.int .u8 sz), .c (.int .u8 dp), .c (.int .u16 age), .c .snil, .c (.lit .u32 (0 : Int))] 43]))
 (.need (true)
 (.need (true)
 (.ret (.ret, [.sli 0 (.c 0) 3 (.v calls.length) (some (.v cap)), .bl false, .ptr 1 0, .ptr 4 0, .int .i64 i], [.ro encCl calls, .own [.c (.ifc 56 (.ptr 2 0)), .c (.int .i64 sz)] 62, .own [.c (.sli 3 (.c 0) 1 (.c 1) none), .c (.int .i64 dp)] 58, .vec (encRow 0) [[.str (bs (decide ((40 : Int) < (↑(calls.getD i.toNat encCl.dflt).2.size : Int))) ((calls.getD i.toNat encCl.dflt).2.extract 0 40) (calls.getD i.toNat encCl.dflt).2)]] 9, .own [.c (.lit .u8 (0 : Int)), .c (.int .u8 ff), .c (.int .u8 tt), .c (.int .u8 sz), .c (.int .u8 dp), .c (.int .u16 age), .c .snil, .c (.lit .u32 (0 : Int))] 43]))))))
 (.need (inR .i64 (i + (1 : Int)))
 (.ret (.normal, [.sli 0 (.c 0) 3 (.v calls.length) (some (.v cap)), .bl false, .ptr 1 0, .ptr 3 0, .int .i64 (i + (1 : Int))], [.ro encCl calls, .own [.c (.ifc 56 (.ptr 2 0)), .c (.int .i64 sz)] 62, .own [.c .snil, .c (.int .i64 dp)] 58, .own [.c (.lit .u8 (0 : Int)), .c (.int .u8 ff), .c (.int .u8 tt), .c (.int .u8 sz), .c (.int .u8 dp), .c (.int .u16 age), .c .snil, .c (.lit .u32 (0 : Int))] 43])))))
 (.br ((calls.getD i.toNat encCl.dflt).1 == (1 : Int))
 (.need (inR .i64 (i + (1 : Int)))
 (.ret (.normal, [.sli 0 (.c 0) 3 (.v calls.length) (some (.v cap)), .bl false, .ptr 1 0, .ptr 3 0, .int .i64 (i + (1 : Int))], [.ro encCl calls, .own [.c (.ifc 56 (.ptr 2 0)), .c (.int .i64 sz)] 62, .own [.c .snil, .c (.int .i64 dp)] 58, .own [.c (.lit .u8 (0 : Int)), .c (.int .u8 ff), .c (.int .u8 tt), .c (.int .u8 sz), .c (.int .u8 dp), .c (.int .u16 age), .c .snil, .c (.lit .u32 (0 : Int))] 43])))
 (.br ((calls.getD i.toNat encCl.dflt).1 == (2 : Int))
 (.need (inR .i64 (i + (1 : Int)))
 (.ret (.normal, [.sli 0 (.c 0) 3 (.v calls.length) (some (.v cap)), .bl false, .ptr 1 0, .ptr 3 0, .int .i64 (i + (1 : Int))], [.ro encCl calls, .own [.c (.ifc 56 (.ptr 2 0)), .c (.int .i64 sz)] 62, .own [.c .snil, .c (.int .i64 dp)] 58, .own [.c (.lit .u8 (0 : Int)), .c (.int .u8 ff), .c (.int .u8 tt), .c (.int .u8 sz), .c (.int .u8 dp), .c (.int .u16 age), .c .snil, .c (.lit .u32 (0 : Int))] 43])))
 (.br ((calls.getD i.toNat encCl.dflt).1 == (3 : Int))
 (.need (inR .i64 (i + (1 : Int)))
 (.ret (.normal, [.sli 0 (.c 0) 3 (.v calls.length) (some (.v cap)), .bl false, .ptr 1 0, .ptr 3 0, .int .i64 (i + (1 : Int))], [.ro encCl calls, .own [.c (.ifc 56 (.ptr 2 0)), .c (.int .i64 sz)] 62, .own [.c .snil, .c (.int .i64 dp)] 58, .own [.c (.lit .u8 (0 : Int)), .c (.int .u8 ff), .c (.int .u8 tt), .c (.int .u8 sz), .c (.int .u8 dp), .c (.int .u16 age), .c .snil, .c (.lit .u32 (0 : Int))] 43])))
 (.br ((calls.getD i.toNat encCl.dflt).1 == (4 : Int))
 (.need (inR .i64 (i + (1 : Int)))
 (.ret (.normal, [.sli 0 (.c 0) 3 (.v calls.length) (some (.v cap)), .bl false, .ptr 1 0, .ptr 3 0, .int .i64 (i + (1 : Int))], [.ro encCl calls, .own [.c (.ifc 56 (.ptr 2 0)), .c (.int .i64 sz)] 62, .own [.c .snil, .c (.int .i64 dp)] 58, .own [.c (.lit .u8 (0 : Int)), .c (.int .u8 ff), .c (.int .u8 tt), .c (.int .u8 sz), .c (.int .u8 dp), .c (.int .u16 age), .c .snil, .c (.lit .u32 (0 : Int))] 43])))
 (.need (inR .i64 (i + (1 : Int)))
 (.ret (.normal, [.sli 0 (.c 0) 3 (.v calls.length) (some (.v cap)), .bl false, .ptr 1 0, .ptr 3 0, .int .i64 (i + (1 : Int))], [.ro encCl calls, .own [.c (.ifc 56 (.ptr 2 0)), .c (.int .i64 sz)] 62, .own [.c .snil, .c (.int .i64 dp)] 58, .own [.c (.lit .u8 (0 : Int)), .c (.int .u8 ff), .c (.int .u8 tt), .c (.int .u8 sz), .c (.int .u8 dp), .c (.int .u16 age), .c .snil, .c (.lit .u32 (0 : Int))] 43]))))))))))))
 (.ret (.exit (0 : Nat), [.sli 0 (.c 0) 3 (.v calls.length) (some (.v cap)), .bl false, .ptr 1 0, .ptr 3 0, .int .i64 i], [.ro encCl calls, .own [.c (.ifc 56 (.ptr 2 0)), .c (.int .i64 sz)] 62, .own [.c .snil, .c (.int .i64 dp)] 58, .own [.c (.lit .u8 (0 : Int)), .c (.int .u8 ff), .c (.int .u8 tt), .c (.int .u8 sz), .c (.int .u8 dp), .c (.int .u16 age), .c .snil, .c (.lit .u32 (0 : Int))] 43])))
 (.ret (.exit (0 : Nat), [.sli 0 (.c 0) 3 (.v calls.length) (some (.v cap)), .bl false, .ptr 1 0, .ptr 3 0, .int .i64 i], [.ro encCl calls, .own [.c (.ifc 56 (.ptr 2 0)), .c (.int .i64 sz)] 62, .own [.c .snil, .c (.int .i64 dp)] 58, .own [.c (.lit .u8 (0 : Int)), .c (.int .u8 ff), .c (.int .u8 tt), .c (.int .u8 sz), .c (.int .u8 dp), .c (.int .u16 age), .c .snil, .c (.lit .u32 (0 : Int))] 43]))) := by kernel_rfl
end Go.Proofs.Ytdadfgeepinpbaa

namespace Go.Proofs.Ytdadfgeepinpbaa
open Go Go.Proofs.Ytdadfgeepinpbaa.Sx
set_option linter.unusedVariables false
set_option maxRecDepth 100000 in
theorem p4_rqv {ff tt sz dp age i : Int} {calls : List Cl} {cap o n : Nat} {xs ys : List ByteArray} : (exec cfg4 100 round4 (fr 169 n4 (v4 (callsV calls cap) 4 i)) (s4qv calls ff tt sz dp age xs ys (.v o) (.v n))).bind (canon [] 169 n4) =
 
 (.br (decide (i < (↑calls.length : Int)))
 (.br (decide (i < (60 : Int)))
 (.need (decide ((0 : Int) ≤ i) && decide (i.toNat < calls.length))
 (.need (decide (i.toNat < calls.length))
 (.need (decide (i.toNat < calls.length))
 (.need (decide (i.toNat < calls.length))
 (.br ((calls.getD i.toNat encCl.dflt).1 == (0 : Int))
 (.br (!strEq (bs (decide ((40 : Int) < (↑(calls.getD i.toNat encCl.dflt).2.size : Int))) ((calls.getD i.toNat encCl.dflt).2.extract 0 40) (calls.getD i.toNat encCl.dflt).2) { data := { toList := [] } })
 (.need (inR .i64 sz)
 (.br (!decide ((↑(bs (decide ((40 : Int) < (↑(calls.getD i.toNat encCl.dflt).2.size : Int))) ((calls.getD i.toNat encCl.dflt).2.extract 0 40) (calls.getD i.toNat encCl.dflt).2).size : Int) ≤ sz))
 (.br (decide ((1 : Int) ≤ (↑(bs (decide ((40 : Int) < (↑(calls.getD i.toNat encCl.dflt).2.size : Int))) ((calls.getD i.toNat encCl.dflt).2.extract 0 40) (calls.getD i.toNat encCl.dflt).2).size : Int)))
 (.br (!decide ((↑(bs (decide ((40 : Int) < (↑(calls.getD i.toNat encCl.dflt).2.size : Int))) ((calls.getD i.toNat encCl.dflt).2.extract 0 40) (calls.getD i.toNat encCl.dflt).2).size : Int) ≤ sz))
 (.eq (T.ret (SVal.sli 5 (.v o) 1 (.v n) none) = T.ret (SVal.sli 5 (.v o) 1 (.v n) none))
 (.eq (T.ret (SVal.sli 5 (.v o) 1 (.v n) none) = T.ret (SVal.sli 5 (.v o) 1 (.v n) none))
 (.br ((↑xs.length : Int) != (↑n : Int))
 (.ret (.ret, [.sli 0 (.c 0) 3 (.v calls.length) (some (.v cap)), .bl false, .ptr 1 0, .ptr 4 0, .int .i64 i], [.ro encCl calls, .own [.c (.ifc 56 (.ptr 2 0)), .c (.int .i64 sz)] 62, .own [.c (.sli 3 (.c 0) 1 (.v xs.length) none), .c (.int .i64 dp)] 58, .vec encStr xs 9, .own [.c (.lit .u8 (0 : Int)), .c (.int .u8 ff), .c (.int .u8 tt), .c (.int .u8 sz), .c (.int .u8 dp), .c (.int .u16 age), .c (.sli 5 (.v o) 1 (.v n) none), .c (.lit .u32 (0 : Int))] 43, .vec encStr ys 9]))
 (.need (inR .i64 (i + (1 : Int)))
 (.ret (.normal, [.sli 0 (.c 0) 3 (.v calls.length) (some (.v cap)), .bl false, .ptr 1 0, .ptr 4 0, .int .i64 (i + (1 : Int))], [.ro encCl calls, .own [.c (.ifc 56 (.ptr 2 0)), .c (.int .i64 sz)] 62, .own [.c (.sli 3 (.c 0) 1 (.v xs.length) none), .c (.int .i64 dp)] 58, .vec encStr xs 9, .own [.c (.lit .u8 (0 : Int)), .c (.int .u8 ff), .c (.int .u8 tt), .c (.int .u8 sz), .c (.int .u8 dp), .c (.int .u16 age), .c (.sli 5 (.v o) 1 (.v n) none), .c (.lit .u32 (0 : Int))] 43, .vec encStr ys 9]))))))
 (.br ((↑xs.length : Int) == dp)
 (.ret (.ret, [.sli 0 (.c 0) 3 (.v calls.length) (some (.v cap)), .bl false, .ptr 1 0, .ptr 4 0, .int .i64 i], [.ro encCl calls, .own [.c (.ifc 56 (.ptr 2 0)), .c (.int .i64 sz)] 62, .own [.c (.sli 3 (.c 0) 1 (.v xs.length) none), .c (.int .i64 dp)] 58, .vec encStr xs 9, .own [.c (.lit .u8 (0 : Int)), .c (.int .u8 ff), .c (.int .u8 tt), .c (.int .u8 sz), .c (.int .u8 dp), .c (.int .u16 age), .c (.sli 5 (.v o) 1 (.v n) none), .c (.lit .u32 (0 : Int))] 43, .vec encStr ys 9]))
 (.need (true)
 (.need (decide (xs.length = xs.length))
 (.need (roomy (xs.length + 1) 16)
 (.ret (.ret, [.sli 0 (.c 0) 3 (.v calls.length) (some (.v cap)), .bl false, .ptr 1 0, .ptr 4 0, .int .i64 i], [.ro encCl calls, .own [.c (.ifc 56 (.ptr 2 0)), .c (.int .i64 sz)] 62, .own [.c (.sli 3 (.c 0) 1 (.v (xs.length + 1)) none), .c (.int .i64 dp)] 58, .vec encStr (xs ++ [bs (decide ((40 : Int) < (↑(calls.getD i.toNat encCl.dflt).2.size : Int))) ((calls.getD i.toNat encCl.dflt).2.extract 0 40) (calls.getD i.toNat encCl.dflt).2]) 9, .own [.c (.lit .u8 (0 : Int)), .c (.int .u8 ff), .c (.int .u8 tt), .c (.int .u8 sz), .c (.int .u8 dp), .c (.int .u16 age), .c (.sli 5 (.v o) 1 (.v n) none), .c (.lit .u32 (0 : Int))] 43, .vec encStr ys 9])))))))
 (.eq (T.ret (SVal.sli 5 (.v o) 1 (.v n) none) = T.ret (SVal.sli 5 (.v o) 1 (.v n) none))
 (.eq (T.ret (SVal.sli 5 (.v o) 1 (.v n) none) = T.ret (SVal.sli 5 (.v o) 1 (.v n) none))
 (.br ((↑xs.length : Int) != (↑n : Int))
 (.ret (.ret, [.sli 0 (.c 0) 3 (.v calls.length) (some (.v cap)), .bl false, .ptr 1 0, .ptr 4 0, .int .i64 i], [.ro encCl calls, .own [.c (.ifc 56 (.ptr 2 0)), .c (.int .i64 sz)] 62, .own [.c (.sli 3 (.c 0) 1 (.v xs.length) none), .c (.int .i64 dp)] 58, .vec encStr xs 9, .own [.c (.lit .u8 (0 : Int)), .c (.int .u8 ff), .c (.int .u8 tt), .c (.int .u8 sz), .c (.int .u8 dp), .c (.int .u16 age), .c (.sli 5 (.v o) 1 (.v n) none), .c (.lit .u32 (0 : Int))] 43, .vec encStr ys 9]))
 (.need (inR .i64 (i + (1 : Int)))
 (.ret (.normal, [.sli 0 (.c 0) 3 (.v calls.length) (some (.v cap)), .bl false, .ptr 1 0, .ptr 4 0, .int .i64 (i + (1 : Int))], [.ro encCl calls, .own [.c (.ifc 56 (.ptr 2 0)), .c (.int .i64 sz)] 62, .own [.c (.sli 3 (.c 0) 1 (.v xs.length) none), .c (.int .i64 dp)] 58, .vec encStr xs 9, .own [.c (.lit .u8 (0 : Int)), .c (.int .u8 ff), .c (.int .u8 tt), .c (.int .u8 sz), .c (.int .u8 dp), .c (.int .u16 age), .c (.sli 5 (.v o) 1 (.v n) none), .c (.lit .u32 (0 : Int))] 43, .vec encStr ys 9])))))))
 (.need (inR .i64 dp)
 (.br (decide (dp ≤ (↑n : Int)))
 (.br (decide ((1 : Int) ≤ (↑(bs (decide ((40 : Int) < (↑(calls.getD i.toNat encCl.dflt).2.size : Int))) ((calls.getD i.toNat encCl.dflt).2.extract 0 40) (calls.getD i.toNat encCl.dflt).2).size : Int)))
 (.br (!decide ((↑(bs (decide ((40 : Int) < (↑(calls.getD i.toNat encCl.dflt).2.size : Int))) ((calls.getD i.toNat encCl.dflt).2.extract 0 40) (calls.getD i.toNat encCl.dflt).2).size : Int) ≤ sz))
 (.ret (.ret, [.sli 0 (.c 0) 3 (.v calls.length) (some (.v cap)), .bl false, .ptr 1 0, .ptr 4 0, .int .i64 i], [.ro encCl calls, .own [.c (.ifc 56 (.ptr 2 0)), .c (.int .i64 sz)] 62, .own [.c (.sli 3 (.c 0) 1 (.v xs.length) none), .c (.int .i64 dp)] 58, .vec encStr xs 9, .own [.c (.lit .u8 (0 : Int)), .c (.int .u8 ff), .c (.int .u8 tt), .c (.int .u8 sz), .c (.int .u8 dp), .c (.int .u16 age), .c (.sli 5 (.v o) 1 (.v n) none), .c (.lit .u32 (0 : Int))] 43, .vec encStr ys 9]))
 (.br ((↑xs.length : Int) == dp)
 (.eq (T.ret (SVal.sli 5 (.v o) 1 (.v n) none) = T.ret (SVal.sli 5 (.v o) 1 (.v n) none))
 (.eq (T.ret (SVal.sli 5 (.v o) 1 (.v n) none) = T.ret (SVal.sli 5 (.v o) 1 (.v n) none))
 (.br ((↑xs.length : Int) != (↑n : Int))
 (.ret (.ret, [.sli 0 (.c 0) 3 (.v calls.length) (some (.v cap)), .bl false, .ptr 1 0, .ptr 4 0, .int .i64 i], [.ro encCl calls, .own [.c (.ifc 56 (.ptr 2 0)), .c (.int .i64 sz)] 62, .own [.c (.sli 3 (.c 0) 1 (.v xs.length) none), .c (.int .i64 dp)] 58, .vec encStr xs 9, .own [.c (.lit .u8 (0 : Int)), .c (.int .u8 ff), .c (.int .u8 tt), .c (.int .u8 sz), .c (.int .u8 dp), .c (.int .u16 age), .c (.sli 5 (.v o) 1 (.v n) none), .c (.lit .u32 (0 : Int))] 43, .vec encStr ys 9]))
 (.need (inR .i64 (i + (1 : Int)))
 (.ret (.normal, [.sli 0 (.c 0) 3 (.v calls.length) (some (.v cap)), .bl false, .ptr 1 0, .ptr 4 0, .int .i64 (i + (1 : Int))], [.ro encCl calls, .own [.c (.ifc 56 (.ptr 2 0)), .c (.int .i64 sz)] 62, .own [.c (.sli 3 (.c 0) 1 (.v xs.length) none), .c (.int .i64 dp)] 58, .vec encStr xs 9, .own [.c (.lit .u8 (0 : Int)), .c (.int .u8 ff), .c (.int .u8 tt), .c (.int .u8 sz), .c (.int .u8 dp), .c (.int .u16 age), .c (.sli 5 (.v o) 1 (.v n) none), .c (.lit .u32 (0 : Int))] 43, .vec encStr ys 9]))))))
 (.need (true)
 (.need (decide (xs.length = xs.length))
 (.need (roomy (xs.length + 1) 16)
 (.ret (.ret, [.sli 0 (.c 0) 3 (.v calls.length) (some (.v cap)), .bl false, .ptr 1 0, .ptr 4 0, .int .i64 i], [.ro encCl calls, .own [.c (.ifc 56 (.ptr 2 0)), .c (.int .i64 sz)] 62, .own [.c (.sli 3 (.c 0) 1 (.v (xs.length + 1)) none), .c (.int .i64 dp)] 58, .vec encStr (xs ++ [bs (decide ((40 : Int) < (↑(calls.getD i.toNat encCl.dflt).2.size : Int))) ((calls.getD i.toNat encCl.dflt).2.extract 0 40) (calls.getD i.toNat encCl.dflt).2]) 9, .own [.c (.lit .u8 (0 : Int)), .c (.int .u8 ff), .c (.int .u8 tt), .c (.int .u8 sz), .c (.int .u8 dp), .c (.int .u16 age), .c (.sli 5 (.v o) 1 (.v n) none), .c (.lit .u32 (0 : Int))] 43, .vec encStr ys 9])))))))
 (.ret (.ret, [.sli 0 (.c 0) 3 (.v calls.length) (some (.v cap)), .bl false, .ptr 1 0, .ptr 4 0, .int .i64 i], [.ro encCl calls, .own [.c (.ifc 56 (.ptr 2 0)), .c (.int .i64 sz)] 62, .own [.c (.sli 3 (.c 0) 1 (.v xs.length) none), .c (.int .i64 dp)] 58, .vec encStr xs 9, .own [.c (.lit .u8 (0 : Int)), .c (.int .u8 ff), .c (.int .u8 tt), .c (.int .u8 sz), .c (.int .u8 dp), .c (.int .u16 age), .c (.sli 5 (.v o) 1 (.v n) none), .c (.lit .u32 (0 : Int))] 43, .vec encStr ys 9])))
 (.need (decide (o + n ≤ ys.length))
 (.need (decide (o + n ≤ ys.length))
 (.need (roomy (List.take n (List.drop o ys)).length 16)
 (.need (true)
 (.need (decide ((List.take n (List.drop o ys)).length = (List.take n (List.drop o ys)).length))
 (.need (roomy ((List.take n (List.drop o ys)).length + 1) 16)
 (.br (decide ((1 : Int) ≤ (↑(bs (decide ((40 : Int) < (↑(calls.getD i.toNat encCl.dflt).2.size : Int))) ((calls.getD i.toNat encCl.dflt).2.extract 0 40) (calls.getD i.toNat encCl.dflt).2).size : Int)))
 (.br (!decide ((↑(bs (decide ((40 : Int) < (↑(calls.getD i.toNat encCl.dflt).2.size : Int))) ((calls.getD i.toNat encCl.dflt).2.extract 0 40) (calls.getD i.toNat encCl.dflt).2).size : Int) ≤ sz))
 (.ret (.ret, [.sli 0 (.c 0) 3 (.v calls.length) (some (.v cap)), .bl false, .ptr 1 0, .ptr 4 0, .int .i64 i], [.ro encCl calls, .own [.c (.ifc 56 (.ptr 2 0)), .c (.int .i64 sz)] 62, .own [.c (.sli 3 (.c 0) 1 (.v xs.length) none), .c (.int .i64 dp)] 58, .vec encStr xs 9, .own [.c (.lit .u8 (0 : Int)), .c (.int .u8 ff), .c (.int .u8 tt), .c (.int .u8 sz), .c (.int .u8 dp), .c (.int .u16 age), .c (.sli 5 (.c 0) 1 (.v ((List.take n (List.drop o ys)).length + 1)) none), .c (.lit .u32 (0 : Int))] 43, .vec encStr (List.take n (List.drop o ys) ++ [bs (decide ((40 : Int) < (↑(calls.getD i.toNat encCl.dflt).2.size : Int))) ((calls.getD i.toNat encCl.dflt).2.extract 0 40) (calls.getD i.toNat encCl.dflt).2]) 9]))
 (.br ((↑xs.length : Int) == dp)
 (.ret (.ret, [.sli 0 (.c 0) 3 (.v calls.length) (some (.v cap)), .bl false, .ptr 1 0, .ptr 4 0, .int .i64 i], [.ro encCl calls, .own [.c (.ifc 56 (.ptr 2 0)), .c (.int .i64 sz)] 62, .own [.c (.sli 3 (.c 0) 1 (.v xs.length) none), .c (.int .i64 dp)] 58, .vec encStr xs 9, .own [.c (.lit .u8 (0 : Int)), .c (.int .u8 ff), .c (.int .u8 tt), .c (.int .u8 sz), .c (.int .u8 dp), .c (.int .u16 age), .c (.sli 5 (.c 0) 1 (.v ((List.take n (List.drop o ys)).length + 1)) none), .c (.lit .u32 (0 : Int))] 43, .vec encStr (List.take n (List.drop o ys) ++ [bs (decide ((40 : Int) < (↑(calls.getD i.toNat encCl.dflt).2.size : Int))) ((calls.getD i.toNat encCl.dflt).2.extract 0 40) (calls.getD i.toNat encCl.dflt).2]) 9]))
 (.need (true)
 (.need (decide (xs.length = xs.length))
 (.need (roomy (xs.length + 1) 16)
 (.eq (T.ret (SVal.sli 13 (.c 0) 1 (.v ((List.take n (List.drop o ys)).length + 1)) none) = T.ret (SVal.sli 13 (.c 0) 1 (.v ((List.take n (List.drop o ys)).length + 1)) none))
 (.eq (T.ret (SVal.sli 13 (.c 0) 1 (.v ((List.take n (List.drop o ys)).length + 1)) none) = T.ret (SVal.sli 13 (.c 0) 1 (.v ((List.take n (List.drop o ys)).length + 1)) none))
 (.br ((↑(xs.length + 1) : Int) != (↑((List.take n (List.drop o ys)).length + 1) : Int))
 (.ret (.ret, [.sli 0 (.c 0) 3 (.v calls.length) (some (.v cap)), .bl false, .ptr 1 0, .ptr 4 0, .int .i64 i], [.ro encCl calls, .own [.c (.ifc 56 (.ptr 2 0)), .c (.int .i64 sz)] 62, .own [.c (.sli 3 (.c 0) 1 (.v (xs.length + 1)) none), .c (.int .i64 dp)] 58, .vec encStr (xs ++ [bs (decide ((40 : Int) < (↑(calls.getD i.toNat encCl.dflt).2.size : Int))) ((calls.getD i.toNat encCl.dflt).2.extract 0 40) (calls.getD i.toNat encCl.dflt).2]) 9, .own [.c (.lit .u8 (0 : Int)), .c (.int .u8 ff), .c (.int .u8 tt), .c (.int .u8 sz), .c (.int .u8 dp), .c (.int .u16 age), .c (.sli 5 (.c 0) 1 (.v ((List.take n (List.drop o ys)).length + 1)) none), .c (.lit .u32 (0 : Int))] 43, .vec encStr (List.take n (List.drop o ys) ++ [bs (decide ((40 : Int) < (↑(calls.getD i.toNat encCl.dflt).2.size : Int))) ((calls.getD i.toNat encCl.dflt).2.extract 0 40) (calls.getD i.toNat encCl.dflt).2]) 9]))
 (.need (inR .i64 (i + (1 : Int)))
 (.ret (.normal, [.sli 0 (.c 0) 3 (.v calls.length) (some (.v cap)), .bl false, .ptr 1 0, .ptr 4 0, .int .i64 (i + (1 : Int))], [.ro encCl calls, .own [.c (.ifc 56 (.ptr 2 0)), .c (.int .i64 sz)] 62, .own [.c (.sli 3 (.c 0) 1 (.v (xs.length + 1)) none), .c (.int .i64 dp)] 58, .vec encStr (xs ++ [bs (decide ((40 : Int) < (↑(calls.getD i.toNat encCl.dflt).2.size : Int))) ((calls.getD i.toNat encCl.dflt).2.extract 0 40) (calls.getD i.toNat encCl.dflt).2]) 9, .own [.c (.lit .u8 (0 : Int)), .c (.int .u8 ff), .c (.int .u8 tt), .c (.int .u8 sz), .c (.int .u8 dp), .c (.int .u16 age), .c (.sli 5 (.c 0) 1 (.v ((List.take n (List.drop o ys)).length + 1)) none), .c (.lit .u32 (0 : Int))] 43, .vec encStr (List.take n (List.drop o ys) ++ [bs (decide ((40 : Int) < (↑(calls.getD i.toNat encCl.dflt).2.size : Int))) ((calls.getD i.toNat encCl.dflt).2.extract 0 40) (calls.getD i.toNat encCl.dflt).2]) 9])))))))))))
 (.ret (.ret, [.sli 0 (.c 0) 3 (.v calls.length) (some (.v cap)), .bl false, .ptr 1 0, .ptr 4 0, .int .i64 i], [.ro encCl calls, .own [.c (.ifc 56 (.ptr 2 0)), .c (.int .i64 sz)] 62, .own [.c (.sli 3 (.c 0) 1 (.v xs.length) none), .c (.int .i64 dp)] 58, .vec encStr xs 9, .own [.c (.lit .u8 (0 : Int)), .c (.int .u8 ff), .c (.int .u8 tt), .c (.int .u8 sz), .c (.int .u8 dp), .c (.int .u16 age), .c (.sli 5 (.c 0) 1 (.v ((List.take n (List.drop o ys)).length + 1)) none), .c (.lit .u32 (0 : Int))] 43, .vec encStr (List.take n (List.drop o ys) ++ [bs (decide ((40 : Int) < (↑(calls.getD i.toNat encCl.dflt).2.size : Int))) ((calls.getD i.toNat encCl.dflt).2.extract 0 40) (calls.getD i.toNat encCl.dflt).2]) 9])))))))))))))
 (.br (decide ((1 : Int) ≤ (↑(bs (decide ((40 : Int) < (↑(calls.getD i.toNat encCl.dflt).2.size : Int))) ((calls.getD i.toNat encCl.dflt).2.extract 0 40) (calls.getD i.toNat encCl.dflt).2).size : Int)))
 (.br (!decide ((↑(bs (decide ((40 : Int) < (↑(calls.getD i.toNat encCl.dflt).2.size : Int))) ((calls.getD i.toNat encCl.dflt).2.extract 0 40) (calls.getD i.toNat encCl.dflt).2).size : Int) ≤ sz))
 (.eq (T.ret (SVal.sli 5 (.v o) 1 (.v n) none) = T.ret (SVal.sli 5 (.v o) 1 (.v n) none))
 (.eq (T.ret (SVal.sli 5 (.v o) 1 (.v n) none) = T.ret (SVal.sli 5 (.v o) 1 (.v n) none))
 (.br ((↑xs.length : Int) != (↑n : Int))
 (.ret (.ret, [.sli 0 (.c 0) 3 (.v calls.length) (some (.v cap)), .bl false, .ptr 1 0, .ptr 4 0, .int .i64 i], [.ro encCl calls, .own [.c (.ifc 56 (.ptr 2 0)), .c (.int .i64 sz)] 62, .own [.c (.sli 3 (.c 0) 1 (.v xs.length) none), .c (.int .i64 dp)] 58, .vec encStr xs 9, .own [.c (.lit .u8 (0 : Int)), .c (.int .u8 ff), .c (.int .u8 tt), .c (.int .u8 sz), .c (.int .u8 dp), .c (.int .u16 age), .c (.sli 5 (.v o) 1 (.v n) none), .c (.lit .u32 (0 : Int))] 43, .vec encStr ys 9]))
 (.need (inR .i64 (i + (1 : Int)))
 (.ret (.normal, [.sli 0 (.c 0) 3 (.v calls.length) (some (.v cap)), .bl false, .ptr 1 0, .ptr 4 0, .int .i64 (i + (1 : Int))], [.ro encCl calls, .own [.c (.ifc 56 (.ptr 2 0)), .c (.int .i64 sz)] 62, .own [.c (.sli 3 (.c 0) 1 (.v xs.length) none), .c (.int .i64 dp)] 58, .vec encStr xs 9, .own [.c (.lit .u8 (0 : Int)), .c (.int .u8 ff), .c (.int .u8 tt), .c (.int .u8 sz), .c (.int .u8 dp), .c (.int .u16 age), .c (.sli 5 (.v o) 1 (.v n) none), .c (.lit .u32 (0 : Int))] 43, .vec encStr ys 9]))))))
 (.br ((↑xs.length : Int) == dp)
 (.ret (.ret, [.sli 0 (.c 0) 3 (.v calls.length) (some (.v cap)), .bl false, .ptr 1 0, .ptr 4 0, .int .i64 i], [.ro encCl calls, .own [.c (.ifc 56 (.ptr 2 0)), .c (.int .i64 sz)] 62, .own [.c (.sli 3 (.c 0) 1 (.v xs.length) none), .c (.int .i64 dp)] 58, .vec encStr xs 9, .own [.c (.lit .u8 (0 : Int)), .c (.int .u8 ff), .c (.int .u8 tt), .c (.int .u8 sz), .c (.int .u8 dp), .c (.int .u16 age), .c (.sli 5 (.v o) 1 (.v n) none), .c (.lit .u32 (0 : Int))] 43, .vec encStr ys 9]))
 (.need (true)
 (.need (decide (xs.length = xs.length))
 (.need (roomy (xs.length + 1) 16)
 (.ret (.ret, [.sli 0 (.c 0) 3 (.v calls.length) (some (.v cap)), .bl false, .ptr 1 0, .ptr 4 0, .int .i64 i], [.ro encCl calls, .own [.c (.ifc 56 (.ptr 2 0)), .c (.int .i64 sz)] 62, .own [.c (.sli 3 (.c 0) 1 (.v (xs.length + 1)) none), .c (.int .i64 dp)] 58, .vec encStr (xs ++ [bs (decide ((40 : Int) < (↑(calls.getD i.toNat encCl.dflt).2.size : Int))) ((calls.getD i.toNat encCl.dflt).2.extract 0 40) (calls.getD i.toNat encCl.dflt).2]) 9, .own [.c (.lit .u8 (0 : Int)), .c (.int .u8 ff), .c (.int .u8 tt), .c (.int .u8 sz), .c (.int .u8 dp), .c (.int .u16 age), .c (.sli 5 (.v o) 1 (.v n) none), .c (.lit .u32 (0 : Int))] 43, .vec encStr ys 9])))))))
 (.eq (T.ret (SVal.sli 5 (.v o) 1 (.v n) none) = T.ret (SVal.sli 5 (.v o) 1 (.v n) none))
 (.eq (T.ret (SVal.sli 5 (.v o) 1 (.v n) none) = T.ret (SVal.sli 5 (.v o) 1 (.v n) none))
 (.br ((↑xs.length : Int) != (↑n : Int))
 (.ret (.ret, [.sli 0 (.c 0) 3 (.v calls.length) (some (.v cap)), .bl false, .ptr 1 0, .ptr 4 0, .int .i64 i], [.ro encCl calls, .own [.c (.ifc 56 (.ptr 2 0)), .c (.int .i64 sz)] 62, .own [.c (.sli 3 (.c 0) 1 (.v xs.length) none), .c (.int .i64 dp)] 58, .vec encStr xs 9, .own [.c (.lit .u8 (0 : Int)), .c (.int .u8 ff), .c (.int .u8 tt), .c (.int .u8 sz), .c (.int .u8 dp), .c (.int .u16 age), .c (.sli 5 (.v o) 1 (.v n) none), .c (.lit .u32 (0 : Int))] 43, .vec encStr ys 9]))
 (.need (inR .i64 (i + (1 : Int)))
 (.ret (.normal, [.sli 0 (.c 0) 3 (.v calls.length) (some (.v cap)), .bl false, .ptr 1 0, .ptr 4 0, .int .i64 (i + (1 : Int))], [.ro encCl calls, .own [.c (.ifc 56 (.ptr 2 0)), .c (.int .i64 sz)] 62, .own [.c (.sli 3 (.c 0) 1 (.v xs.length) none), .c (.int .i64 dp)] 58, .vec encStr xs 9, .own [.c (.lit .u8 (0 : Int)), .c (.int .u8 ff), .c (.int .u8 tt), .c (.int .u8 sz), .c (.int .u8 dp), .c (.int .u16 age), .c (.sli 5 (.v o) 1 (.v n) none), .c (.lit .u32 (0 : Int))] 43, .vec encStr ys 9]))))))))
 (.br ((calls.getD i.toNat encCl.dflt).1 == (1 : Int))
 (.br ((↑n : Int) == (0 : Int))
 (.br ((↑xs.length : Int) == (0 : Int))
 (.eq (T.ret (SVal.sli 5 (.v o) 1 (.v n) none) = T.ret (SVal.sli 5 (.v o) 1 (.v n) none))
 (.eq (T.ret (SVal.sli 5 (.v o) 1 (.v n) none) = T.ret (SVal.sli 5 (.v o) 1 (.v n) none))
 (.br ((↑xs.length : Int) != (↑n : Int))
 (.ret (.ret, [.sli 0 (.c 0) 3 (.v calls.length) (some (.v cap)), .bl false, .ptr 1 0, .ptr 4 0, .int .i64 i], [.ro encCl calls, .own [.c (.ifc 56 (.ptr 2 0)), .c (.int .i64 sz)] 62, .own [.c (.sli 3 (.c 0) 1 (.v xs.length) none), .c (.int .i64 dp)] 58, .vec encStr xs 9, .own [.c (.lit .u8 (0 : Int)), .c (.int .u8 ff), .c (.int .u8 tt), .c (.int .u8 sz), .c (.int .u8 dp), .c (.int .u16 age), .c (.sli 5 (.v o) 1 (.v n) none), .c (.lit .u32 (0 : Int))] 43, .vec encStr ys 9]))
 (.need (inR .i64 (i + (1 : Int)))
 (.ret (.normal, [.sli 0 (.c 0) 3 (.v calls.length) (some (.v cap)), .bl false, .ptr 1 0, .ptr 4 0, .int .i64 (i + (1 : Int))], [.ro encCl calls, .own [.c (.ifc 56 (.ptr 2 0)), .c (.int .i64 sz)] 62, .own [.c (.sli 3 (.c 0) 1 (.v xs.length) none), .c (.int .i64 dp)] 58, .vec encStr xs 9, .own [.c (.lit .u8 (0 : Int)), .c (.int .u8 ff), .c (.int .u8 tt), .c (.int .u8 sz), .c (.int .u8 dp), .c (.int .u16 age), .c (.sli 5 (.v o) 1 (.v n) none), .c (.lit .u32 (0 : Int))] 43, .vec encStr ys 9]))))))
 (.need (decide (0 < xs.length))
 (.need (decide (0 < xs.length))
 (.need (decide (xs.length ≤ xs.length))
 (.need (decide (1 ≤ xs.length))
 (.need (decide (1 + (xs.length - 1) ≤ xs.length))
 (.need (decide (1 + (xs.length - 1) ≤ xs.length))
 (.need (roomy (List.take (xs.length - 1) (List.drop 1 xs)).length 16)
 (.br (!strEq (xs.getD 0 { data := { toList := [] } }) { data := { toList := [] } })
 (.ret (.ret, [.sli 0 (.c 0) 3 (.v calls.length) (some (.v cap)), .bl false, .ptr 1 0, .ptr 4 0, .int .i64 i], [.ro encCl calls, .own [.c (.ifc 56 (.ptr 2 0)), .c (.int .i64 sz)] 62, .own [.c (.sli 3 (.c 0) 1 (.v (List.take (xs.length - 1) (List.drop 1 xs)).length) none), .c (.int .i64 dp)] 58, .vec encStr (List.take (xs.length - 1) (List.drop 1 xs)) 9, .own [.c (.lit .u8 (0 : Int)), .c (.int .u8 ff), .c (.int .u8 tt), .c (.int .u8 sz), .c (.int .u8 dp), .c (.int .u16 age), .c (.sli 5 (.v o) 1 (.v n) none), .c (.lit .u32 (0 : Int))] 43, .vec encStr ys 9]))
 (.ret (.ret, [.sli 0 (.c 0) 3 (.v calls.length) (some (.v cap)), .bl false, .ptr 1 0, .ptr 4 0, .int .i64 i], [.ro encCl calls, .own [.c (.ifc 56 (.ptr 2 0)), .c (.int .i64 sz)] 62, .own [.c (.sli 3 (.c 0) 1 (.v (List.take (xs.length - 1) (List.drop 1 xs)).length) none), .c (.int .i64 dp)] 58, .vec encStr (List.take (xs.length - 1) (List.drop 1 xs)) 9, .own [.c (.lit .u8 (0 : Int)), .c (.int .u8 ff), .c (.int .u8 tt), .c (.int .u8 sz), .c (.int .u8 dp), .c (.int .u16 age), .c (.sli 5 (.v o) 1 (.v n) none), .c (.lit .u32 (0 : Int))] 43, .vec encStr ys 9])))))))))))
 (.need (decide (0 < n))
 (.need (decide (o < ys.length))
 (.need (decide (n ≤ n))
 (.need (decide (1 ≤ n))
 (.br ((↑xs.length : Int) == (0 : Int))
 (.br (!strEq { data := { toList := [] } } (ys.getD o { data := { toList := [] } }))
 (.ret (.ret, [.sli 0 (.c 0) 3 (.v calls.length) (some (.v cap)), .bl false, .ptr 1 0, .ptr 4 0, .int .i64 i], [.ro encCl calls, .own [.c (.ifc 56 (.ptr 2 0)), .c (.int .i64 sz)] 62, .own [.c (.sli 3 (.c 0) 1 (.v xs.length) none), .c (.int .i64 dp)] 58, .vec encStr xs 9, .own [.c (.lit .u8 (0 : Int)), .c (.int .u8 ff), .c (.int .u8 tt), .c (.int .u8 sz), .c (.int .u8 dp), .c (.int .u16 age), .c (.sli 5 (.v (o + 1)) 1 (.v (n - 1)) none), .c (.lit .u32 (0 : Int))] 43, .vec encStr ys 9]))
 (.ret (.ret, [.sli 0 (.c 0) 3 (.v calls.length) (some (.v cap)), .bl false, .ptr 1 0, .ptr 4 0, .int .i64 i], [.ro encCl calls, .own [.c (.ifc 56 (.ptr 2 0)), .c (.int .i64 sz)] 62, .own [.c (.sli 3 (.c 0) 1 (.v xs.length) none), .c (.int .i64 dp)] 58, .vec encStr xs 9, .own [.c (.lit .u8 (0 : Int)), .c (.int .u8 ff), .c (.int .u8 tt), .c (.int .u8 sz), .c (.int .u8 dp), .c (.int .u16 age), .c (.sli 5 (.v (o + 1)) 1 (.v (n - 1)) none), .c (.lit .u32 (0 : Int))] 43, .vec encStr ys 9])))
 (.need (decide (0 < xs.length))
 (.need (decide (0 < xs.length))
 (.need (decide (xs.length ≤ xs.length))
 (.need (decide (1 ≤ xs.length))
 (.need (decide (1 + (xs.length - 1) ≤ xs.length))
 (.need (decide (1 + (xs.length - 1) ≤ xs.length))
 (.need (roomy (List.take (xs.length - 1) (List.drop 1 xs)).length 16)
 (.br (!strEq (xs.getD 0 { data := { toList := [] } }) (ys.getD o { data := { toList := [] } }))
 (.ret (.ret, [.sli 0 (.c 0) 3 (.v calls.length) (some (.v cap)), .bl false, .ptr 1 0, .ptr 4 0, .int .i64 i], [.ro encCl calls, .own [.c (.ifc 56 (.ptr 2 0)), .c (.int .i64 sz)] 62, .own [.c (.sli 3 (.c 0) 1 (.v (List.take (xs.length - 1) (List.drop 1 xs)).length) none), .c (.int .i64 dp)] 58, .vec encStr (List.take (xs.length - 1) (List.drop 1 xs)) 9, .own [.c (.lit .u8 (0 : Int)), .c (.int .u8 ff), .c (.int .u8 tt), .c (.int .u8 sz), .c (.int .u8 dp), .c (.int .u16 age), .c (.sli 5 (.v (o + 1)) 1 (.v (n - 1)) none), .c (.lit .u32 (0 : Int))] 43, .vec encStr ys 9]))
 (.eq (T.ret (SVal.sli 5 (.v (o + 1)) 1 (.v (n - 1)) none) = T.ret (SVal.sli 5 (.v (o + 1)) 1 (.v (n - 1)) none))
 (.eq (T.ret (SVal.sli 5 (.v (o + 1)) 1 (.v (n - 1)) none) = T.ret (SVal.sli 5 (.v (o + 1)) 1 (.v (n - 1)) none))
 (.br ((↑(List.take (xs.length - 1) (List.drop 1 xs)).length : Int) != (↑(n - 1) : Int))
 (.ret (.ret, [.sli 0 (.c 0) 3 (.v calls.length) (some (.v cap)), .bl false, .ptr 1 0, .ptr 4 0, .int .i64 i], [.ro encCl calls, .own [.c (.ifc 56 (.ptr 2 0)), .c (.int .i64 sz)] 62, .own [.c (.sli 3 (.c 0) 1 (.v (List.take (xs.length - 1) (List.drop 1 xs)).length) none), .c (.int .i64 dp)] 58, .vec encStr (List.take (xs.length - 1) (List.drop 1 xs)) 9, .own [.c (.lit .u8 (0 : Int)), .c (.int .u8 ff), .c (.int .u8 tt), .c (.int .u8 sz), .c (.int .u8 dp), .c (.int .u16 age), .c (.sli 5 (.v (o + 1)) 1 (.v (n - 1)) none), .c (.lit .u32 (0 : Int))] 43, .vec encStr ys 9]))
 (.need (inR .i64 (i + (1 : Int)))
 (.ret (.normal, [.sli 0 (.c 0) 3 (.v calls.length) (some (.v cap)), .bl false, .ptr 1 0, .ptr 4 0, .int .i64 (i + (1 : Int))], [.ro encCl calls, .own [.c (.ifc 56 (.ptr 2 0)), .c (.int .i64 sz)] 62, .own [.c (.sli 3 (.c 0) 1 (.v (List.take (xs.length - 1) (List.drop 1 xs)).length) none), .c (.int .i64 dp)] 58, .vec encStr (List.take (xs.length - 1) (List.drop 1 xs)) 9, .own [.c (.lit .u8 (0 : Int)), .c (.int .u8 ff), .c (.int .u8 tt), .c (.int .u8 sz), .c (.int .u8 dp), .c (.int .u16 age), .c (.sli 5 (.v (o + 1)) 1 (.v (n - 1)) none), .c (.lit .u32 (0 : Int))] 43, .vec encStr ys 9]))))))))))))))))))))
 (.br ((calls.getD i.toNat encCl.dflt).1 == (2 : Int))
 (.eq (T.ret (SVal.sli 5 (.v o) 1 (.v n) none) = T.ret (SVal.sli 5 (.v o) 1 (.v n) none))
 (.eq (T.ret (SVal.sli 5 (.v o) 1 (.v n) none) = T.ret (SVal.sli 5 (.v o) 1 (.v n) none))
 (.br ((↑xs.length : Int) != (↑n : Int))
 (.ret (.ret, [.sli 0 (.c 0) 3 (.v calls.length) (some (.v cap)), .bl false, .ptr 1 0, .ptr 4 0, .int .i64 i], [.ro encCl calls, .own [.c (.ifc 56 (.ptr 2 0)), .c (.int .i64 sz)] 62, .own [.c (.sli 3 (.c 0) 1 (.v xs.length) none), .c (.int .i64 dp)] 58, .vec encStr xs 9, .own [.c (.lit .u8 (0 : Int)), .c (.int .u8 ff), .c (.int .u8 tt), .c (.int .u8 sz), .c (.int .u8 dp), .c (.int .u16 age), .c (.sli 5 (.v o) 1 (.v n) none), .c (.lit .u32 (0 : Int))] 43, .vec encStr ys 9]))
 (.need (inR .i64 (i + (1 : Int)))
 (.ret (.normal, [.sli 0 (.c 0) 3 (.v calls.length) (some (.v cap)), .bl false, .ptr 1 0, .ptr 4 0, .int .i64 (i + (1 : Int))], [.ro encCl calls, .own [.c (.ifc 56 (.ptr 2 0)), .c (.int .i64 sz)] 62, .own [.c (.sli 3 (.c 0) 1 (.v xs.length) none), .c (.int .i64 dp)] 58, .vec encStr xs 9, .own [.c (.lit .u8 (0 : Int)), .c (.int .u8 ff), .c (.int .u8 tt), .c (.int .u8 sz), .c (.int .u8 dp), .c (.int .u16 age), .c (.sli 5 (.v o) 1 (.v n) none), .c (.lit .u32 (0 : Int))] 43, .vec encStr ys 9]))))))
 (.br ((calls.getD i.toNat encCl.dflt).1 == (3 : Int))
 (.eq (T.ret (SVal.sli 5 (.v o) 1 (.v n) none) = T.ret (SVal.sli 5 (.v o) 1 (.v n) none))
 (.eq (T.ret (SVal.sli 5 (.v o) 1 (.v n) none) = T.ret (SVal.sli 5 (.v o) 1 (.v n) none))
 (.br ((↑xs.length : Int) != (↑n : Int))
 (.ret (.ret, [.sli 0 (.c 0) 3 (.v calls.length) (some (.v cap)), .bl false, .ptr 1 0, .ptr 4 0, .int .i64 i], [.ro encCl calls, .own [.c (.ifc 56 (.ptr 2 0)), .c (.int .i64 sz)] 62, .own [.c (.sli 3 (.c 0) 1 (.v xs.length) none), .c (.int .i64 dp)] 58, .vec encStr xs 9, .own [.c (.lit .u8 (0 : Int)), .c (.int .u8 ff), .c (.int .u8 tt), .c (.int .u8 sz), .c (.int .u8 dp), .c (.int .u16 age), .c (.sli 5 (.v o) 1 (.v n) none), .c (.lit .u32 (0 : Int))] 43, .vec encStr ys 9]))
 (.need (inR .i64 (i + (1 : Int)))
 (.ret (.normal, [.sli 0 (.c 0) 3 (.v calls.length) (some (.v cap)), .bl false, .ptr 1 0, .ptr 4 0, .int .i64 (i + (1 : Int))], [.ro encCl calls, .own [.c (.ifc 56 (.ptr 2 0)), .c (.int .i64 sz)] 62, .own [.c (.sli 3 (.c 0) 1 (.v xs.length) none), .c (.int .i64 dp)] 58, .vec encStr xs 9, .own [.c (.lit .u8 (0 : Int)), .c (.int .u8 ff), .c (.int .u8 tt), .c (.int .u8 sz), .c (.int .u8 dp), .c (.int .u16 age), .c (.sli 5 (.v o) 1 (.v n) none), .c (.lit .u32 (0 : Int))] 43, .vec encStr ys 9]))))))
 (.br ((calls.getD i.toNat encCl.dflt).1 == (4 : Int))
 (.need (inR .i64 (i + (1 : Int)))
 (.ret (.normal, [.sli 0 (.c 0) 3 (.v calls.length) (some (.v cap)), .bl false, .ptr 1 0, .ptr 3 0, .int .i64 (i + (1 : Int))], [.ro encCl calls, .own [.c (.ifc 56 (.ptr 2 0)), .c (.int .i64 sz)] 62, .own [.c .snil, .c (.int .i64 dp)] 58, .own [.c (.lit .u8 (0 : Int)), .c (.int .u8 ff), .c (.int .u8 tt), .c (.int .u8 sz), .c (.int .u8 dp), .c (.int .u16 age), .c .snil, .c (.lit .u32 (0 : Int))] 43])))
 (.eq (T.ret (SVal.sli 5 (.v o) 1 (.v n) none) = T.ret (SVal.sli 5 (.v o) 1 (.v n) none))
 (.eq (T.ret (SVal.sli 5 (.v o) 1 (.v n) none) = T.ret (SVal.sli 5 (.v o) 1 (.v n) none))
 (.br ((↑xs.length : Int) != (↑n : Int))
 (.ret (.ret, [.sli 0 (.c 0) 3 (.v calls.length) (some (.v cap)), .bl false, .ptr 1 0, .ptr 4 0, .int .i64 i], [.ro encCl calls, .own [.c (.ifc 56 (.ptr 2 0)), .c (.int .i64 sz)] 62, .own [.c (.sli 3 (.c 0) 1 (.v xs.length) none), .c (.int .i64 dp)] 58, .vec encStr xs 9, .own [.c (.lit .u8 (0 : Int)), .c (.int .u8 ff), .c (.int .u8 tt), .c (.int .u8 sz), .c (.int .u8 dp), .c (.int .u16 age), .c (.sli 5 (.v o) 1 (.v n) none), .c (.lit .u32 (0 : Int))] 43, .vec encStr ys 9]))
 (.need (inR .i64 (i + (1 : Int)))
 (.ret (.normal, [.sli 0 (.c 0) 3 (.v calls.length) (some (.v cap)), .bl false, .ptr 1 0, .ptr 4 0, .int .i64 (i + (1 : Int))], [.ro encCl calls, .own [.c (.ifc 56 (.ptr 2 0)), .c (.int .i64 sz)] 62, .own [.c (.sli 3 (.c 0) 1 (.v xs.length) none), .c (.int .i64 dp)] 58, .vec encStr xs 9, .own [.c (.lit .u8 (0 : Int)), .c (.int .u8 ff), .c (.int .u8 tt), .c (.int .u8 sz), .c (.int .u8 dp), .c (.int .u16 age), .c (.sli 5 (.v o) 1 (.v n) none), .c (.lit .u32 (0 : Int))] 43, .vec encStr ys 9])))))))))))))))
 (.ret (.exit (0 : Nat), [.sli 0 (.c 0) 3 (.v calls.length) (some (.v cap)), .bl false, .ptr 1 0, .ptr 4 0, .int .i64 i], [.ro encCl calls, .own [.c (.ifc 56 (.ptr 2 0)), .c (.int .i64 sz)] 62, .own [.c (.sli 3 (.c 0) 1 (.v xs.length) none), .c (.int .i64 dp)] 58, .vec encStr xs 9, .own [.c (.lit .u8 (0 : Int)), .c (.int .u8 ff), .c (.int .u8 tt), .c (.int .u8 sz), .c (.int .u8 dp), .c (.int .u16 age), .c (.sli 5 (.v o) 1 (.v n) none), .c (.lit .u32 (0 : Int))] 43, .vec encStr ys 9])))
 (.ret (.exit (0 : Nat), [.sli 0 (.c 0) 3 (.v calls.length) (some (.v cap)), .bl false, .ptr 1 0, .ptr 4 0, .int .i64 i], [.ro encCl calls, .own [.c (.ifc 56 (.ptr 2 0)), .c (.int .i64 sz)] 62, .own [.c (.sli 3 (.c 0) 1 (.v xs.length) none), .c (.int .i64 dp)] 58, .vec encStr xs 9, .own [.c (.lit .u8 (0 : Int)), .c (.int .u8 ff), .c (.int .u8 tt), .c (.int .u8 sz), .c (.int .u8 dp), .c (.int .u16 age), .c (.sli 5 (.v o) 1 (.v n) none), .c (.lit .u32 (0 : Int))] 43, .vec encStr ys 9]))) := by kernel_rfl
end Go.Proofs.Ytdadfgeepinpbaa

namespace Go.Proofs.Ytdadfgeepinpbaa
open Go Go.Proofs.Ytdadfgeepinpbaa.Sx
set_option linter.unusedVariables false
set_option maxRecDepth 100000 in
theorem p4_rsn {ff tt sz dp age t i : Int} {calls : List Cl} {cap : Nat} : (exec cfg4 100 round4 (fr 169 n4 (v4 (callsV calls cap) 3 i)) (s4sn calls ff tt sz dp age t)).bind (canon [] 169 n4) =
 
 (.br (decide (i < (↑calls.length : Int)))
 (.br (decide (i < (60 : Int)))
 (.need (decide ((0 : Int) ≤ i) && decide (i.toNat < calls.length))
 (.need (decide (i.toNat < calls.length))
 (.need (decide (i.toNat < calls.length))
 (.need (decide (i.toNat < calls.length))
 (.br ((calls.getD i.toNat encCl.dflt).1 == (0 : Int))
 (.need (inR .i64 (i + (1 : Int)))
 (.ret (.normal, [.sli 0 (.c 0) 3 (.v calls.length) (some (.v cap)), .bl false, .ptr 1 0, .ptr 3 0, .int .i64 (i + (1 : Int))], [.ro encCl calls, .own [.c (.ifc 63 (.ptr 2 0)), .c (.int .i64 sz)] 62, .own [.c (.sl []), .c (.lit .u32 (0 : Int)), .c (.int .u16 age)] 65, .own [.c (.lit .u8 (1 : Int)), .c (.int .u8 ff), .c (.int .u8 tt), .c (.int .u8 sz), .c (.int .u8 dp), .c (.int .u16 age), .c .snil, .c (.int .u32 t)] 43])))
 (.br ((calls.getD i.toNat encCl.dflt).1 == (1 : Int))
 (.need (inR .i64 (i + (1 : Int)))
 (.ret (.normal, [.sli 0 (.c 0) 3 (.v calls.length) (some (.v cap)), .bl false, .ptr 1 0, .ptr 3 0, .int .i64 (i + (1 : Int))], [.ro encCl calls, .own [.c (.ifc 63 (.ptr 2 0)), .c (.int .i64 sz)] 62, .own [.c (.sl []), .c (.lit .u32 (0 : Int)), .c (.int .u16 age)] 65, .own [.c (.lit .u8 (1 : Int)), .c (.int .u8 ff), .c (.int .u8 tt), .c (.int .u8 sz), .c (.int .u8 dp), .c (.int .u16 age), .c .snil, .c (.int .u32 t)] 43])))
 (.br ((calls.getD i.toNat encCl.dflt).1 == (2 : Int))
 (.br (!strEq (bs (decide ((40 : Int) < (↑(calls.getD i.toNat encCl.dflt).2.size : Int))) ((calls.getD i.toNat encCl.dflt).2.extract 0 40) (calls.getD i.toNat encCl.dflt).2) { data := { toList := [] } })
 (.need (inR .i64 sz)
 (.br (!decide ((↑(bs (decide ((40 : Int) < (↑(calls.getD i.toNat encCl.dflt).2.size : Int))) ((calls.getD i.toNat encCl.dflt).2.extract 0 40) (calls.getD i.toNat encCl.dflt).2).size : Int) ≤ sz))
 (.br (decide ((1 : Int) ≤ (↑(bs (decide ((40 : Int) < (↑(calls.getD i.toNat encCl.dflt).2.size : Int))) ((calls.getD i.toNat encCl.dflt).2.extract 0 40) (calls.getD i.toNat encCl.dflt).2).size : Int)))
 (.br (!decide ((↑(bs (decide ((40 : Int) < (↑(calls.getD i.toNat encCl.dflt).2.size : Int))) ((calls.getD i.toNat encCl.dflt).2.extract 0 40) (calls.getD i.toNat encCl.dflt).2).size : Int) ≤ sz))
 (.need (inR .i64 (i + (1 : Int)))
 (.ret (.normal, [.sli 0 (.c 0) 3 (.v calls.length) (some (.v cap)), .bl false, .ptr 1 0, .ptr 3 0, .int .i64 (i + (1 : Int))], [.ro encCl calls, .own [.c (.ifc 63 (.ptr 2 0)), .c (.int .i64 sz)] 62, .own [.c (.sl []), .c (.lit .u32 (0 : Int)), .c (.int .u16 age)] 65, .own [.c (.lit .u8 (1 : Int)), .c (.int .u8 ff), .c (.int .u8 tt), .c (.int .u8 sz), .c (.int .u8 dp), .c (.int .u16 age), .c .snil, .c (.int .u32 t)] 43])))
 (.ret (.ret, [.sli 0 (.c 0) 3 (.v calls.length) (some (.v cap)), .bl false, .ptr 1 0, .ptr 3 0, .int .i64 i], [.ro encCl calls, .own [.c (.ifc 63 (.ptr 2 0)), .c (.int .i64 sz)] 62, .own [.c (.str (bs (decide ((40 : Int) < (↑(calls.getD i.toNat encCl.dflt).2.size : Int))) ((calls.getD i.toNat encCl.dflt).2.extract 0 40) (calls.getD i.toNat encCl.dflt).2)), .c (.int .u32 (calls.getD i.toNat encCl.dflt).3), .c (.int .u16 age)] 65, .own [.c (.lit .u8 (1 : Int)), .c (.int .u8 ff), .c (.int .u8 tt), .c (.int .u8 sz), .c (.int .u8 dp), .c (.int .u16 age), .c .snil, .c (.int .u32 t)] 43])))
 (.need (inR .i64 (i + (1 : Int)))
 (.ret (.normal, [.sli 0 (.c 0) 3 (.v calls.length) (some (.v cap)), .bl false, .ptr 1 0, .ptr 3 0, .int .i64 (i + (1 : Int))], [.ro encCl calls, .own [.c (.ifc 63 (.ptr 2 0)), .c (.int .i64 sz)] 62, .own [.c (.sl []), .c (.lit .u32 (0 : Int)), .c (.int .u16 age)] 65, .own [.c (.lit .u8 (1 : Int)), .c (.int .u8 ff), .c (.int .u8 tt), .c (.int .u8 sz), .c (.int .u8 dp), .c (.int .u16 age), .c .snil, .c (.int .u32 t)] 43]))))
 (.br (decide ((1 : Int) ≤ (↑(bs (decide ((40 : Int) < (↑(calls.getD i.toNat encCl.dflt).2.size : Int))) ((calls.getD i.toNat encCl.dflt).2.extract 0 40) (calls.getD i.toNat encCl.dflt).2).size : Int)))
 (.br (!decide ((↑(bs (decide ((40 : Int) < (↑(calls.getD i.toNat encCl.dflt).2.size : Int))) ((calls.getD i.toNat encCl.dflt).2.extract 0 40) (calls.getD i.toNat encCl.dflt).2).size : Int) ≤ sz))
 (.ret (.ret, [.sli 0 (.c 0) 3 (.v calls.length) (some (.v cap)), .bl false, .ptr 1 0, .ptr 3 0, .int .i64 i], [.ro encCl calls, .own [.c (.ifc 63 (.ptr 2 0)), .c (.int .i64 sz)] 62, .own [.c (.sl []), .c (.lit .u32 (0 : Int)), .c (.int .u16 age)] 65, .own [.c (.lit .u8 (1 : Int)), .c (.int .u8 ff), .c (.int .u8 tt), .c (.int .u8 sz), .c (.int .u8 dp), .c (.int .u16 age), .c (.sli 4 (.c 0) 1 (.c 1) (some (.c 1))), .c (.int .u32 (calls.getD i.toNat encCl.dflt).3)] 43, .own [.c (.str (bs (decide ((40 : Int) < (↑(calls.getD i.toNat encCl.dflt).2.size : Int))) ((calls.getD i.toNat encCl.dflt).2.extract 0 40) (calls.getD i.toNat encCl.dflt).2))] 9]))
 (.br (imin (↑(bs (decide ((40 : Int) < (↑(calls.getD i.toNat encCl.dflt).2.size : Int))) ((calls.getD i.toNat encCl.dflt).2.extract 0 40) (calls.getD i.toNat encCl.dflt).2).size : Int) (1 : Int) != (1 : Int))
 (.ret (.ret, [.sli 0 (.c 0) 3 (.v calls.length) (some (.v cap)), .bl false, .ptr 1 0, .ptr 3 0, .int .i64 i], [.ro encCl calls, .own [.c (.ifc 63 (.ptr 2 0)), .c (.int .i64 sz)] 62, .own [.c (.str (bs (decide ((40 : Int) < (↑(calls.getD i.toNat encCl.dflt).2.size : Int))) ((calls.getD i.toNat encCl.dflt).2.extract 0 40) (calls.getD i.toNat encCl.dflt).2)), .c (.int .u32 (calls.getD i.toNat encCl.dflt).3), .c (.int .u16 age)] 65, .own [.c (.lit .u8 (1 : Int)), .c (.int .u8 ff), .c (.int .u8 tt), .c (.int .u8 sz), .c (.int .u8 dp), .c (.int .u16 age), .c (.sli 4 (.c 0) 1 (.c 1) (some (.c 1))), .c (.int .u32 (calls.getD i.toNat encCl.dflt).3)] 43, .own [.c (.str (bs (decide ((40 : Int) < (↑(calls.getD i.toNat encCl.dflt).2.size : Int))) ((calls.getD i.toNat encCl.dflt).2.extract 0 40) (calls.getD i.toNat encCl.dflt).2))] 9]))
 (.need (inR .i64 (i + (1 : Int)))
 (.ret (.normal, [.sli 0 (.c 0) 3 (.v calls.length) (some (.v cap)), .bl false, .ptr 1 0, .ptr 3 0, .int .i64 (i + (1 : Int))], [.ro encCl calls, .own [.c (.ifc 63 (.ptr 2 0)), .c (.int .i64 sz)] 62, .own [.c (.str (bs (decide ((40 : Int) < (↑(calls.getD i.toNat encCl.dflt).2.size : Int))) ((calls.getD i.toNat encCl.dflt).2.extract 0 40) (calls.getD i.toNat encCl.dflt).2)), .c (.int .u32 (calls.getD i.toNat encCl.dflt).3), .c (.int .u16 age)] 65, .own [.c (.lit .u8 (1 : Int)), .c (.int .u8 ff), .c (.int .u8 tt), .c (.int .u8 sz), .c (.int .u8 dp), .c (.int .u16 age), .c (.sli 4 (.c 0) 1 (.c 1) (some (.c 1))), .c (.int .u32 (calls.getD i.toNat encCl.dflt).3)] 43, .own [.c (.str (bs (decide ((40 : Int) < (↑(calls.getD i.toNat encCl.dflt).2.size : Int))) ((calls.getD i.toNat encCl.dflt).2.extract 0 40) (calls.getD i.toNat encCl.dflt).2))] 9])))))
 (.ret (.ret, [.sli 0 (.c 0) 3 (.v calls.length) (some (.v cap)), .bl false, .ptr 1 0, .ptr 3 0, .int .i64 i], [.ro encCl calls, .own [.c (.ifc 63 (.ptr 2 0)), .c (.int .i64 sz)] 62, .own [.c (.sl []), .c (.lit .u32 (0 : Int)), .c (.int .u16 age)] 65, .own [.c (.lit .u8 (1 : Int)), .c (.int .u8 ff), .c (.int .u8 tt), .c (.int .u8 sz), .c (.int .u8 dp), .c (.int .u16 age), .c (.sli 4 (.c 0) 1 (.c 1) (some (.c 1))), .c (.int .u32 (calls.getD i.toNat encCl.dflt).3)] 43, .own [.c (.str (bs (decide ((40 : Int) < (↑(calls.getD i.toNat encCl.dflt).2.size : Int))) ((calls.getD i.toNat encCl.dflt).2.extract 0 40) (calls.getD i.toNat encCl.dflt).2))] 9])))))
 (.br (decide ((1 : Int) ≤ (↑(bs (decide ((40 : Int) < (↑(calls.getD i.toNat encCl.dflt).2.size : Int))) ((calls.getD i.toNat encCl.dflt).2.extract 0 40) (calls.getD i.toNat encCl.dflt).2).size : Int)))
 (.br (!decide ((↑(bs (decide ((40 : Int) < (↑(calls.getD i.toNat encCl.dflt).2.size : Int))) ((calls.getD i.toNat encCl.dflt).2.extract 0 40) (calls.getD i.toNat encCl.dflt).2).size : Int) ≤ sz))
 (.need (inR .i64 (i + (1 : Int)))
 (.ret (.normal, [.sli 0 (.c 0) 3 (.v calls.length) (some (.v cap)), .bl false, .ptr 1 0, .ptr 3 0, .int .i64 (i + (1 : Int))], [.ro encCl calls, .own [.c (.ifc 63 (.ptr 2 0)), .c (.int .i64 sz)] 62, .own [.c (.sl []), .c (.lit .u32 (0 : Int)), .c (.int .u16 age)] 65, .own [.c (.lit .u8 (1 : Int)), .c (.int .u8 ff), .c (.int .u8 tt), .c (.int .u8 sz), .c (.int .u8 dp), .c (.int .u16 age), .c .snil, .c (.int .u32 t)] 43])))
 (.ret (.ret, [.sli 0 (.c 0) 3 (.v calls.length) (some (.v cap)), .bl false, .ptr 1 0, .ptr 3 0, .int .i64 i], [.ro encCl calls, .own [.c (.ifc 63 (.ptr 2 0)), .c (.int .i64 sz)] 62, .own [.c (.str (bs (decide ((40 : Int) < (↑(calls.getD i.toNat encCl.dflt).2.size : Int))) ((calls.getD i.toNat encCl.dflt).2.extract 0 40) (calls.getD i.toNat encCl.dflt).2)), .c (.int .u32 (calls.getD i.toNat encCl.dflt).3), .c (.int .u16 age)] 65, .own [.c (.lit .u8 (1 : Int)), .c (.int .u8 ff), .c (.int .u8 tt), .c (.int .u8 sz), .c (.int .u8 dp), .c (.int .u16 age), .c .snil, .c (.int .u32 t)] 43])))
 (.need (inR .i64 (i + (1 : Int)))
 (.ret (.normal, [.sli 0 (.c 0) 3 (.v calls.length) (some (.v cap)), .bl false, .ptr 1 0, .ptr 3 0, .int .i64 (i + (1 : Int))], [.ro encCl calls, .own [.c (.ifc 63 (.ptr 2 0)), .c (.int .i64 sz)] 62, .own [.c (.sl []), .c (.lit .u32 (0 : Int)), .c (.int .u16 age)] 65, .own [.c (.lit .u8 (1 : Int)), .c (.int .u8 ff), .c (.int .u8 tt), .c (.int .u8 sz), .c (.int .u8 dp), .c (.int .u16 age), .c .snil, .c (.int .u32 t)] 43])))))
 (.br ((calls.getD i.toNat encCl.dflt).1 == (3 : Int))
 (.need (inR .i64 (i + (1 : Int)))
 (.ret (.normal, [.sli 0 (.c 0) 3 (.v calls.length) (some (.v cap)), .bl false, .ptr 1 0, .ptr 3 0, .int .i64 (i + (1 : Int))], [.ro encCl calls, .own [.c (.ifc 63 (.ptr 2 0)), .c (.int .i64 sz)] 62, .own [.c (.sl []), .c (.lit .u32 (0 : Int)), .c (.int .u16 age)] 65, .own [.c (.lit .u8 (1 : Int)), .c (.int .u8 ff), .c (.int .u8 tt), .c (.int .u8 sz), .c (.int .u8 dp), .c (.int .u16 age), .c .snil, .c (.int .u32 t)] 43])))
 (.br ((calls.getD i.toNat encCl.dflt).1 == (4 : Int))
 (.need (inR .i64 (i + (1 : Int)))
 (.ret (.normal, [.sli 0 (.c 0) 3 (.v calls.length) (some (.v cap)), .bl false, .ptr 1 0, .ptr 3 0, .int .i64 (i + (1 : Int))], [.ro encCl calls, .own [.c (.ifc 63 (.ptr 2 0)), .c (.int .i64 sz)] 62, .own [.c (.sl []), .c (.lit .u32 (0 : Int)), .c (.int .u16 age)] 65, .own [.c (.lit .u8 (1 : Int)), .c (.int .u8 ff), .c (.int .u8 tt), .c (.int .u8 sz), .c (.int .u8 dp), .c (.int .u16 age), .c .snil, .c (.int .u32 t)] 43])))
 (.need (inR .i64 (i + (1 : Int)))
 (.ret (.normal, [.sli 0 (.c 0) 3 (.v calls.length) (some (.v cap)), .bl false, .ptr 1 0, .ptr 3 0, .int .i64 (i + (1 : Int))], [.ro encCl calls, .own [.c (.ifc 63 (.ptr 2 0)), .c (.int .i64 sz)] 62, .own [.c (.sl []), .c (.lit .u32 (0 : Int)), .c (.int .u16 age)] 65, .own [.c (.lit .u8 (1 : Int)), .c (.int .u8 ff), .c (.int .u8 tt), .c (.int .u8 sz), .c (.int .u8 dp), .c (.int .u16 age), .c .snil, .c (.int .u32 t)] 43]))))))))))))
 (.ret (.exit (0 : Nat), [.sli 0 (.c 0) 3 (.v calls.length) (some (.v cap)), .bl false, .ptr 1 0, .ptr 3 0, .int .i64 i], [.ro encCl calls, .own [.c (.ifc 63 (.ptr 2 0)), .c (.int .i64 sz)] 62, .own [.c (.sl []), .c (.lit .u32 (0 : Int)), .c (.int .u16 age)] 65, .own [.c (.lit .u8 (1 : Int)), .c (.int .u8 ff), .c (.int .u8 tt), .c (.int .u8 sz), .c (.int .u8 dp), .c (.int .u16 age), .c .snil, .c (.int .u32 t)] 43])))
 (.ret (.exit (0 : Nat), [.sli 0 (.c 0) 3 (.v calls.length) (some (.v cap)), .bl false, .ptr 1 0, .ptr 3 0, .int .i64 i], [.ro encCl calls, .own [.c (.ifc 63 (.ptr 2 0)), .c (.int .i64 sz)] 62, .own [.c (.sl []), .c (.lit .u32 (0 : Int)), .c (.int .u16 age)] 65, .own [.c (.lit .u8 (1 : Int)), .c (.int .u8 ff), .c (.int .u8 tt), .c (.int .u8 sz), .c (.int .u8 dp), .c (.int .u16 age), .c .snil, .c (.int .u32 t)] 43]))) := by kernel_rfl
set_option maxRecDepth 100000 in
theorem p4_rsv {ff tt sz dp age t i : Int} {calls : List Cl} {cap : Nat} {s : ByteArray} : (exec cfg4 100 round4 (fr 169 n4 (v4 (callsV calls cap) 3 i)) (s4sv calls ff tt sz dp age t s)).bind (canon [] 169 n4) =
 
 (.br (decide (i < (↑calls.length : Int)))
 (.br (decide (i < (60 : Int)))
 (.need (decide ((0 : Int) ≤ i) && decide (i.toNat < calls.length))
 (.need (decide (i.toNat < calls.length))
 (.need (decide (i.toNat < calls.length))
 (.need (decide (i.toNat < calls.length))
 (.br ((calls.getD i.toNat encCl.dflt).1 == (0 : Int))
 (.br (imin (↑s.size : Int) (1 : Int) != (1 : Int))
 (.ret (.ret, [.sli 0 (.c 0) 3 (.v calls.length) (some (.v cap)), .bl false, .ptr 1 0, .ptr 3 0, .int .i64 i], [.ro encCl calls, .own [.c (.ifc 63 (.ptr 2 0)), .c (.int .i64 sz)] 62, .own [.c (.str s), .c (.int .u32 t), .c (.int .u16 age)] 65, .own [.c (.lit .u8 (1 : Int)), .c (.int .u8 ff), .c (.int .u8 tt), .c (.int .u8 sz), .c (.int .u8 dp), .c (.int .u16 age), .c (.sli 4 (.c 0) 1 (.c 1) (some (.c 1))), .c (.int .u32 t)] 43, .own [.c (.str s)] 9]))
 (.need (inR .i64 (i + (1 : Int)))
 (.ret (.normal, [.sli 0 (.c 0) 3 (.v calls.length) (some (.v cap)), .bl false, .ptr 1 0, .ptr 3 0, .int .i64 (i + (1 : Int))], [.ro encCl calls, .own [.c (.ifc 63 (.ptr 2 0)), .c (.int .i64 sz)] 62, .own [.c (.str s), .c (.int .u32 t), .c (.int .u16 age)] 65, .own [.c (.lit .u8 (1 : Int)), .c (.int .u8 ff), .c (.int .u8 tt), .c (.int .u8 sz), .c (.int .u8 dp), .c (.int .u16 age), .c (.sli 4 (.c 0) 1 (.c 1) (some (.c 1))), .c (.int .u32 t)] 43, .own [.c (.str s)] 9]))))
 (.br ((calls.getD i.toNat encCl.dflt).1 == (1 : Int))
 (.br (imin (↑s.size : Int) (1 : Int) != (1 : Int))
 (.ret (.ret, [.sli 0 (.c 0) 3 (.v calls.length) (some (.v cap)), .bl false, .ptr 1 0, .ptr 3 0, .int .i64 i], [.ro encCl calls, .own [.c (.ifc 63 (.ptr 2 0)), .c (.int .i64 sz)] 62, .own [.c (.str s), .c (.int .u32 t), .c (.int .u16 age)] 65, .own [.c (.lit .u8 (1 : Int)), .c (.int .u8 ff), .c (.int .u8 tt), .c (.int .u8 sz), .c (.int .u8 dp), .c (.int .u16 age), .c (.sli 4 (.c 0) 1 (.c 1) (some (.c 1))), .c (.int .u32 t)] 43, .own [.c (.str s)] 9]))
 (.need (inR .i64 (i + (1 : Int)))
 (.ret (.normal, [.sli 0 (.c 0) 3 (.v calls.length) (some (.v cap)), .bl false, .ptr 1 0, .ptr 3 0, .int .i64 (i + (1 : Int))], [.ro encCl calls, .own [.c (.ifc 63 (.ptr 2 0)), .c (.int .i64 sz)] 62, .own [.c (.str s), .c (.int .u32 t), .c (.int .u16 age)] 65, .own [.c (.lit .u8 (1 : Int)), .c (.int .u8 ff), .c (.int .u8 tt), .c (.int .u8 sz), .c (.int .u8 dp), .c (.int .u16 age), .c (.sli 4 (.c 0) 1 (.c 1) (some (.c 1))), .c (.int .u32 t)] 43, .own [.c (.str s)] 9]))))
 (.br ((calls.getD i.toNat encCl.dflt).1 == (2 : Int))
 (.br (!strEq (bs (decide ((40 : Int) < (↑(calls.getD i.toNat encCl.dflt).2.size : Int))) ((calls.getD i.toNat encCl.dflt).2.extract 0 40) (calls.getD i.toNat encCl.dflt).2) { data := { toList := [] } })
 (.need (inR .i64 sz)
 (.br (!decide ((↑(bs (decide ((40 : Int) < (↑(calls.getD i.toNat encCl.dflt).2.size : Int))) ((calls.getD i.toNat encCl.dflt).2.extract 0 40) (calls.getD i.toNat encCl.dflt).2).size : Int) ≤ sz))
 (.br (decide ((1 : Int) ≤ (↑(bs (decide ((40 : Int) < (↑(calls.getD i.toNat encCl.dflt).2.size : Int))) ((calls.getD i.toNat encCl.dflt).2.extract 0 40) (calls.getD i.toNat encCl.dflt).2).size : Int)))
 (.br (!decide ((↑(bs (decide ((40 : Int) < (↑(calls.getD i.toNat encCl.dflt).2.size : Int))) ((calls.getD i.toNat encCl.dflt).2.extract 0 40) (calls.getD i.toNat encCl.dflt).2).size : Int) ≤ sz))
 (.br (imin (↑s.size : Int) (1 : Int) != (1 : Int))
 (.ret (.ret, [.sli 0 (.c 0) 3 (.v calls.length) (some (.v cap)), .bl false, .ptr 1 0, .ptr 3 0, .int .i64 i], [.ro encCl calls, .own [.c (.ifc 63 (.ptr 2 0)), .c (.int .i64 sz)] 62, .own [.c (.str s), .c (.int .u32 t), .c (.int .u16 age)] 65, .own [.c (.lit .u8 (1 : Int)), .c (.int .u8 ff), .c (.int .u8 tt), .c (.int .u8 sz), .c (.int .u8 dp), .c (.int .u16 age), .c (.sli 4 (.c 0) 1 (.c 1) (some (.c 1))), .c (.int .u32 t)] 43, .own [.c (.str s)] 9]))
 (.need (inR .i64 (i + (1 : Int)))
 (.ret (.normal, [.sli 0 (.c 0) 3 (.v calls.length) (some (.v cap)), .bl false, .ptr 1 0, .ptr 3 0, .int .i64 (i + (1 : Int))], [.ro encCl calls, .own [.c (.ifc 63 (.ptr 2 0)), .c (.int .i64 sz)] 62, .own [.c (.str s), .c (.int .u32 t), .c (.int .u16 age)] 65, .own [.c (.lit .u8 (1 : Int)), .c (.int .u8 ff), .c (.int .u8 tt), .c (.int .u8 sz), .c (.int .u8 dp), .c (.int .u16 age), .c (.sli 4 (.c 0) 1 (.c 1) (some (.c 1))), .c (.int .u32 t)] 43, .own [.c (.str s)] 9]))))
 (.ret (.ret, [.sli 0 (.c 0) 3 (.v calls.length) (some (.v cap)), .bl false, .ptr 1 0, .ptr 3 0, .int .i64 i], [.ro encCl calls, .own [.c (.ifc 63 (.ptr 2 0)), .c (.int .i64 sz)] 62, .own [.c (.str (bs (decide ((40 : Int) < (↑(calls.getD i.toNat encCl.dflt).2.size : Int))) ((calls.getD i.toNat encCl.dflt).2.extract 0 40) (calls.getD i.toNat encCl.dflt).2)), .c (.int .u32 (calls.getD i.toNat encCl.dflt).3), .c (.int .u16 age)] 65, .own [.c (.lit .u8 (1 : Int)), .c (.int .u8 ff), .c (.int .u8 tt), .c (.int .u8 sz), .c (.int .u8 dp), .c (.int .u16 age), .c (.sli 4 (.c 0) 1 (.c 1) (some (.c 1))), .c (.int .u32 t)] 43, .own [.c (.str s)] 9])))
 (.br (imin (↑s.size : Int) (1 : Int) != (1 : Int))
 (.ret (.ret, [.sli 0 (.c 0) 3 (.v calls.length) (some (.v cap)), .bl false, .ptr 1 0, .ptr 3 0, .int .i64 i], [.ro encCl calls, .own [.c (.ifc 63 (.ptr 2 0)), .c (.int .i64 sz)] 62, .own [.c (.str s), .c (.int .u32 t), .c (.int .u16 age)] 65, .own [.c (.lit .u8 (1 : Int)), .c (.int .u8 ff), .c (.int .u8 tt), .c (.int .u8 sz), .c (.int .u8 dp), .c (.int .u16 age), .c (.sli 4 (.c 0) 1 (.c 1) (some (.c 1))), .c (.int .u32 t)] 43, .own [.c (.str s)] 9]))
 (.need (inR .i64 (i + (1 : Int)))
 (.ret (.normal, [.sli 0 (.c 0) 3 (.v calls.length) (some (.v cap)), .bl false, .ptr 1 0, .ptr 3 0, .int .i64 (i + (1 : Int))], [.ro encCl calls, .own [.c (.ifc 63 (.ptr 2 0)), .c (.int .i64 sz)] 62, .own [.c (.str s), .c (.int .u32 t), .c (.int .u16 age)] 65, .own [.c (.lit .u8 (1 : Int)), .c (.int .u8 ff), .c (.int .u8 tt), .c (.int .u8 sz), .c (.int .u8 dp), .c (.int .u16 age), .c (.sli 4 (.c 0) 1 (.c 1) (some (.c 1))), .c (.int .u32 t)] 43, .own [.c (.str s)] 9])))))
 (.br (decide ((1 : Int) ≤ (↑(bs (decide ((40 : Int) < (↑(calls.getD i.toNat encCl.dflt).2.size : Int))) ((calls.getD i.toNat encCl.dflt).2.extract 0 40) (calls.getD i.toNat encCl.dflt).2).size : Int)))
 (.br (!decide ((↑(bs (decide ((40 : Int) < (↑(calls.getD i.toNat encCl.dflt).2.size : Int))) ((calls.getD i.toNat encCl.dflt).2.extract 0 40) (calls.getD i.toNat encCl.dflt).2).size : Int) ≤ sz))
 (.ret (.ret, [.sli 0 (.c 0) 3 (.v calls.length) (some (.v cap)), .bl false, .ptr 1 0, .ptr 3 0, .int .i64 i], [.ro encCl calls, .own [.c (.ifc 63 (.ptr 2 0)), .c (.int .i64 sz)] 62, .own [.c (.str s), .c (.int .u32 t), .c (.int .u16 age)] 65, .own [.c (.lit .u8 (1 : Int)), .c (.int .u8 ff), .c (.int .u8 tt), .c (.int .u8 sz), .c (.int .u8 dp), .c (.int .u16 age), .c (.sli 4 (.c 0) 1 (.c 1) (some (.c 1))), .c (.int .u32 (calls.getD i.toNat encCl.dflt).3)] 43, .own [.c (.str (bs (decide ((40 : Int) < (↑(calls.getD i.toNat encCl.dflt).2.size : Int))) ((calls.getD i.toNat encCl.dflt).2.extract 0 40) (calls.getD i.toNat encCl.dflt).2))] 9]))
 (.br (imin (↑(bs (decide ((40 : Int) < (↑(calls.getD i.toNat encCl.dflt).2.size : Int))) ((calls.getD i.toNat encCl.dflt).2.extract 0 40) (calls.getD i.toNat encCl.dflt).2).size : Int) (1 : Int) != (1 : Int))
 (.ret (.ret, [.sli 0 (.c 0) 3 (.v calls.length) (some (.v cap)), .bl false, .ptr 1 0, .ptr 3 0, .int .i64 i], [.ro encCl calls, .own [.c (.ifc 63 (.ptr 2 0)), .c (.int .i64 sz)] 62, .own [.c (.str (bs (decide ((40 : Int) < (↑(calls.getD i.toNat encCl.dflt).2.size : Int))) ((calls.getD i.toNat encCl.dflt).2.extract 0 40) (calls.getD i.toNat encCl.dflt).2)), .c (.int .u32 (calls.getD i.toNat encCl.dflt).3), .c (.int .u16 age)] 65, .own [.c (.lit .u8 (1 : Int)), .c (.int .u8 ff), .c (.int .u8 tt), .c (.int .u8 sz), .c (.int .u8 dp), .c (.int .u16 age), .c (.sli 4 (.c 0) 1 (.c 1) (some (.c 1))), .c (.int .u32 (calls.getD i.toNat encCl.dflt).3)] 43, .own [.c (.str (bs (decide ((40 : Int) < (↑(calls.getD i.toNat encCl.dflt).2.size : Int))) ((calls.getD i.toNat encCl.dflt).2.extract 0 40) (calls.getD i.toNat encCl.dflt).2))] 9]))
 (.need (inR .i64 (i + (1 : Int)))
 (.ret (.normal, [.sli 0 (.c 0) 3 (.v calls.length) (some (.v cap)), .bl false, .ptr 1 0, .ptr 3 0, .int .i64 (i + (1 : Int))], [.ro encCl calls, .own [.c (.ifc 63 (.ptr 2 0)), .c (.int .i64 sz)] 62, .own [.c (.str (bs (decide ((40 : Int) < (↑(calls.getD i.toNat encCl.dflt).2.size : Int))) ((calls.getD i.toNat encCl.dflt).2.extract 0 40) (calls.getD i.toNat encCl.dflt).2)), .c (.int .u32 (calls.getD i.toNat encCl.dflt).3), .c (.int .u16 age)] 65, .own [.c (.lit .u8 (1 : Int)), .c (.int .u8 ff), .c (.int .u8 tt), .c (.int .u8 sz), .c (.int .u8 dp), .c (.int .u16 age), .c (.sli 4 (.c 0) 1 (.c 1) (some (.c 1))), .c (.int .u32 (calls.getD i.toNat encCl.dflt).3)] 43, .own [.c (.str (bs (decide ((40 : Int) < (↑(calls.getD i.toNat encCl.dflt).2.size : Int))) ((calls.getD i.toNat encCl.dflt).2.extract 0 40) (calls.getD i.toNat encCl.dflt).2))] 9])))))
 (.ret (.ret, [.sli 0 (.c 0) 3 (.v calls.length) (some (.v cap)), .bl false, .ptr 1 0, .ptr 3 0, .int .i64 i], [.ro encCl calls, .own [.c (.ifc 63 (.ptr 2 0)), .c (.int .i64 sz)] 62, .own [.c (.str s), .c (.int .u32 t), .c (.int .u16 age)] 65, .own [.c (.lit .u8 (1 : Int)), .c (.int .u8 ff), .c (.int .u8 tt), .c (.int .u8 sz), .c (.int .u8 dp), .c (.int .u16 age), .c (.sli 4 (.c 0) 1 (.c 1) (some (.c 1))), .c (.int .u32 (calls.getD i.toNat encCl.dflt).3)] 43, .own [.c (.str (bs (decide ((40 : Int) < (↑(calls.getD i.toNat encCl.dflt).2.size : Int))) ((calls.getD i.toNat encCl.dflt).2.extract 0 40) (calls.getD i.toNat encCl.dflt).2))] 9])))))
 (.br (decide ((1 : Int) ≤ (↑(bs (decide ((40 : Int) < (↑(calls.getD i.toNat encCl.dflt).2.size : Int))) ((calls.getD i.toNat encCl.dflt).2.extract 0 40) (calls.getD i.toNat encCl.dflt).2).size : Int)))
 (.br (!decide ((↑(bs (decide ((40 : Int) < (↑(calls.getD i.toNat encCl.dflt).2.size : Int))) ((calls.getD i.toNat encCl.dflt).2.extract 0 40) (calls.getD i.toNat encCl.dflt).2).size : Int) ≤ sz))
 (.br (imin (↑s.size : Int) (1 : Int) != (1 : Int))
 (.ret (.ret, [.sli 0 (.c 0) 3 (.v calls.length) (some (.v cap)), .bl false, .ptr 1 0, .ptr 3 0, .int .i64 i], [.ro encCl calls, .own [.c (.ifc 63 (.ptr 2 0)), .c (.int .i64 sz)] 62, .own [.c (.str s), .c (.int .u32 t), .c (.int .u16 age)] 65, .own [.c (.lit .u8 (1 : Int)), .c (.int .u8 ff), .c (.int .u8 tt), .c (.int .u8 sz), .c (.int .u8 dp), .c (.int .u16 age), .c (.sli 4 (.c 0) 1 (.c 1) (some (.c 1))), .c (.int .u32 t)] 43, .own [.c (.str s)] 9]))
 (.need (inR .i64 (i + (1 : Int)))
 (.ret (.normal, [.sli 0 (.c 0) 3 (.v calls.length) (some (.v cap)), .bl false, .ptr 1 0, .ptr 3 0, .int .i64 (i + (1 : Int))], [.ro encCl calls, .own [.c (.ifc 63 (.ptr 2 0)), .c (.int .i64 sz)] 62, .own [.c (.str s), .c (.int .u32 t), .c (.int .u16 age)] 65, .own [.c (.lit .u8 (1 : Int)), .c (.int .u8 ff), .c (.int .u8 tt), .c (.int .u8 sz), .c (.int .u8 dp), .c (.int .u16 age), .c (.sli 4 (.c 0) 1 (.c 1) (some (.c 1))), .c (.int .u32 t)] 43, .own [.c (.str s)] 9]))))
 (.ret (.ret, [.sli 0 (.c 0) 3 (.v calls.length) (some (.v cap)), .bl false, .ptr 1 0, .ptr 3 0, .int .i64 i], [.ro encCl calls, .own [.c (.ifc 63 (.ptr 2 0)), .c (.int .i64 sz)] 62, .own [.c (.str (bs (decide ((40 : Int) < (↑(calls.getD i.toNat encCl.dflt).2.size : Int))) ((calls.getD i.toNat encCl.dflt).2.extract 0 40) (calls.getD i.toNat encCl.dflt).2)), .c (.int .u32 (calls.getD i.toNat encCl.dflt).3), .c (.int .u16 age)] 65, .own [.c (.lit .u8 (1 : Int)), .c (.int .u8 ff), .c (.int .u8 tt), .c (.int .u8 sz), .c (.int .u8 dp), .c (.int .u16 age), .c (.sli 4 (.c 0) 1 (.c 1) (some (.c 1))), .c (.int .u32 t)] 43, .own [.c (.str s)] 9])))
 (.br (imin (↑s.size : Int) (1 : Int) != (1 : Int))
 (.ret (.ret, [.sli 0 (.c 0) 3 (.v calls.length) (some (.v cap)), .bl false, .ptr 1 0, .ptr 3 0, .int .i64 i], [.ro encCl calls, .own [.c (.ifc 63 (.ptr 2 0)), .c (.int .i64 sz)] 62, .own [.c (.str s), .c (.int .u32 t), .c (.int .u16 age)] 65, .own [.c (.lit .u8 (1 : Int)), .c (.int .u8 ff), .c (.int .u8 tt), .c (.int .u8 sz), .c (.int .u8 dp), .c (.int .u16 age), .c (.sli 4 (.c 0) 1 (.c 1) (some (.c 1))), .c (.int .u32 t)] 43, .own [.c (.str s)] 9]))
 (.need (inR .i64 (i + (1 : Int)))
 (.ret (.normal, [.sli 0 (.c 0) 3 (.v calls.length) (some (.v cap)), .bl false, .ptr 1 0, .ptr 3 0, .int .i64 (i + (1 : Int))], [.ro encCl calls, .own [.c (.ifc 63 (.ptr 2 0)), .c (.int .i64 sz)] 62, .own [.c (.str s), .c (.int .u32 t), .c (.int .u16 age)] 65, .own [.c (.lit .u8 (1 : Int)), .c (.int .u8 ff), .c (.int .u8 tt), .c (.int .u8 sz), .c (.int .u8 dp), .c (.int .u16 age), .c (.sli 4 (.c 0) 1 (.c 1) (some (.c 1))), .c (.int .u32 t)] 43, .own [.c (.str s)] 9]))))))
 (.br ((calls.getD i.toNat encCl.dflt).1 == (3 : Int))
 (.need (inR .u32 age)
 (.br (strEq s { data := { toList := [] } })
 (.br (!strEq { data := { toList := [] } } s)
 (.ret (.ret, [.sli 0 (.c 0) 3 (.v calls.length) (some (.v cap)), .bl false, .ptr 1 0, .ptr 3 0, .int .i64 i], [.ro encCl calls, .own [.c (.ifc 63 (.ptr 2 0)), .c (.int .i64 sz)] 62, .own [.c (.str s), .c (.int .u32 t), .c (.int .u16 age)] 65, .own [.c (.lit .u8 (1 : Int)), .c (.int .u8 ff), .c (.int .u8 tt), .c (.int .u8 sz), .c (.int .u8 dp), .c (.int .u16 age), .c (.sli 4 (.c 0) 1 (.c 1) (some (.c 1))), .c (.int .u32 t)] 43, .own [.c (.str s)] 9]))
 (.br (!false == decide (IntKind.u32.wrap ((calls.getD i.toNat encCl.dflt).3 - t) < age))
 (.ret (.ret, [.sli 0 (.c 0) 3 (.v calls.length) (some (.v cap)), .bl false, .ptr 1 0, .ptr 3 0, .int .i64 i], [.ro encCl calls, .own [.c (.ifc 63 (.ptr 2 0)), .c (.int .i64 sz)] 62, .own [.c (.str s), .c (.int .u32 t), .c (.int .u16 age)] 65, .own [.c (.lit .u8 (1 : Int)), .c (.int .u8 ff), .c (.int .u8 tt), .c (.int .u8 sz), .c (.int .u8 dp), .c (.int .u16 age), .c (.sli 4 (.c 0) 1 (.c 1) (some (.c 1))), .c (.int .u32 t)] 43, .own [.c (.str s)] 9]))
 (.ret (.ret, [.sli 0 (.c 0) 3 (.v calls.length) (some (.v cap)), .bl false, .ptr 1 0, .ptr 3 0, .int .i64 i], [.ro encCl calls, .own [.c (.ifc 63 (.ptr 2 0)), .c (.int .i64 sz)] 62, .own [.c (.str s), .c (.int .u32 t), .c (.int .u16 age)] 65, .own [.c (.lit .u8 (1 : Int)), .c (.int .u8 ff), .c (.int .u8 tt), .c (.int .u8 sz), .c (.int .u8 dp), .c (.int .u16 age), .c (.sli 4 (.c 0) 1 (.c 1) (some (.c 1))), .c (.int .u32 t)] 43, .own [.c (.str s)] 9]))))
 (.br (age == (0 : Int))
 (.eq (T.ret (SVal.int .u32 t) = T.ret (SVal.int .u32 t))
 (.eq (T.ret (SVal.int .u16 age) = T.ret (SVal.int .u16 age))
 (.br (!strEq s s)
 (.ret (.ret, [.sli 0 (.c 0) 3 (.v calls.length) (some (.v cap)), .bl false, .ptr 1 0, .ptr 3 0, .int .i64 i], [.ro encCl calls, .own [.c (.ifc 63 (.ptr 2 0)), .c (.int .i64 sz)] 62, .own [.c (.str s), .c (.int .u32 t), .c (.int .u16 age)] 65, .own [.c (.lit .u8 (1 : Int)), .c (.int .u8 ff), .c (.int .u8 tt), .c (.int .u8 sz), .c (.int .u8 dp), .c (.int .u16 age), .c (.sli 4 (.c 0) 1 (.c 1) (some (.c 1))), .c (.int .u32 t)] 43, .own [.c (.str s)] 9]))
 (.br (!false == decide (IntKind.u32.wrap ((calls.getD i.toNat encCl.dflt).3 - t) < age))
 (.ret (.ret, [.sli 0 (.c 0) 3 (.v calls.length) (some (.v cap)), .bl false, .ptr 1 0, .ptr 3 0, .int .i64 i], [.ro encCl calls, .own [.c (.ifc 63 (.ptr 2 0)), .c (.int .i64 sz)] 62, .own [.c (.str s), .c (.int .u32 t), .c (.int .u16 age)] 65, .own [.c (.lit .u8 (1 : Int)), .c (.int .u8 ff), .c (.int .u8 tt), .c (.int .u8 sz), .c (.int .u8 dp), .c (.int .u16 age), .c (.sli 4 (.c 0) 1 (.c 1) (some (.c 1))), .c (.int .u32 t)] 43, .own [.c (.str s)] 9]))
 (.br (imin (↑s.size : Int) (1 : Int) != (1 : Int))
 (.ret (.ret, [.sli 0 (.c 0) 3 (.v calls.length) (some (.v cap)), .bl false, .ptr 1 0, .ptr 3 0, .int .i64 i], [.ro encCl calls, .own [.c (.ifc 63 (.ptr 2 0)), .c (.int .i64 sz)] 62, .own [.c (.str s), .c (.int .u32 t), .c (.int .u16 age)] 65, .own [.c (.lit .u8 (1 : Int)), .c (.int .u8 ff), .c (.int .u8 tt), .c (.int .u8 sz), .c (.int .u8 dp), .c (.int .u16 age), .c (.sli 4 (.c 0) 1 (.c 1) (some (.c 1))), .c (.int .u32 t)] 43, .own [.c (.str s)] 9]))
 (.need (inR .i64 (i + (1 : Int)))
 (.ret (.normal, [.sli 0 (.c 0) 3 (.v calls.length) (some (.v cap)), .bl false, .ptr 1 0, .ptr 3 0, .int .i64 (i + (1 : Int))], [.ro encCl calls, .own [.c (.ifc 63 (.ptr 2 0)), .c (.int .i64 sz)] 62, .own [.c (.str s), .c (.int .u32 t), .c (.int .u16 age)] 65, .own [.c (.lit .u8 (1 : Int)), .c (.int .u8 ff), .c (.int .u8 tt), .c (.int .u8 sz), .c (.int .u8 dp), .c (.int .u16 age), .c (.sli 4 (.c 0) 1 (.c 1) (some (.c 1))), .c (.int .u32 t)] 43, .own [.c (.str s)] 9]))))))))
 (.need (inR .u32 age)
 (.eq (T.ret (SVal.int .u32 t) = T.ret (SVal.int .u32 t))
 (.eq (T.ret (SVal.int .u16 age) = T.ret (SVal.int .u16 age))
 (.br (!strEq s s)
 (.ret (.ret, [.sli 0 (.c 0) 3 (.v calls.length) (some (.v cap)), .bl false, .ptr 1 0, .ptr 3 0, .int .i64 i], [.ro encCl calls, .own [.c (.ifc 63 (.ptr 2 0)), .c (.int .i64 sz)] 62, .own [.c (.str s), .c (.int .u32 t), .c (.int .u16 age)] 65, .own [.c (.lit .u8 (1 : Int)), .c (.int .u8 ff), .c (.int .u8 tt), .c (.int .u8 sz), .c (.int .u8 dp), .c (.int .u16 age), .c (.sli 4 (.c 0) 1 (.c 1) (some (.c 1))), .c (.int .u32 t)] 43, .own [.c (.str s)] 9]))
 (.br (!decide (IntKind.u32.wrap ((calls.getD i.toNat encCl.dflt).3 - t) < age) == decide (IntKind.u32.wrap ((calls.getD i.toNat encCl.dflt).3 - t) < age))
 (.ret (.ret, [.sli 0 (.c 0) 3 (.v calls.length) (some (.v cap)), .bl false, .ptr 1 0, .ptr 3 0, .int .i64 i], [.ro encCl calls, .own [.c (.ifc 63 (.ptr 2 0)), .c (.int .i64 sz)] 62, .own [.c (.str s), .c (.int .u32 t), .c (.int .u16 age)] 65, .own [.c (.lit .u8 (1 : Int)), .c (.int .u8 ff), .c (.int .u8 tt), .c (.int .u8 sz), .c (.int .u8 dp), .c (.int .u16 age), .c (.sli 4 (.c 0) 1 (.c 1) (some (.c 1))), .c (.int .u32 t)] 43, .own [.c (.str s)] 9]))
 (.br (imin (↑s.size : Int) (1 : Int) != (1 : Int))
 (.ret (.ret, [.sli 0 (.c 0) 3 (.v calls.length) (some (.v cap)), .bl false, .ptr 1 0, .ptr 3 0, .int .i64 i], [.ro encCl calls, .own [.c (.ifc 63 (.ptr 2 0)), .c (.int .i64 sz)] 62, .own [.c (.str s), .c (.int .u32 t), .c (.int .u16 age)] 65, .own [.c (.lit .u8 (1 : Int)), .c (.int .u8 ff), .c (.int .u8 tt), .c (.int .u8 sz), .c (.int .u8 dp), .c (.int .u16 age), .c (.sli 4 (.c 0) 1 (.c 1) (some (.c 1))), .c (.int .u32 t)] 43, .own [.c (.str s)] 9]))
 (.need (inR .i64 (i + (1 : Int)))
 (.ret (.normal, [.sli 0 (.c 0) 3 (.v calls.length) (some (.v cap)), .bl false, .ptr 1 0, .ptr 3 0, .int .i64 (i + (1 : Int))], [.ro encCl calls, .own [.c (.ifc 63 (.ptr 2 0)), .c (.int .i64 sz)] 62, .own [.c (.str s), .c (.int .u32 t), .c (.int .u16 age)] 65, .own [.c (.lit .u8 (1 : Int)), .c (.int .u8 ff), .c (.int .u8 tt), .c (.int .u8 sz), .c (.int .u8 dp), .c (.int .u16 age), .c (.sli 4 (.c 0) 1 (.c 1) (some (.c 1))), .c (.int .u32 t)] 43, .own [.c (.str s)] 9]))))))))))))
 (.br ((calls.getD i.toNat encCl.dflt).1 == (4 : Int))
 (.need (inR .i64 (i + (1 : Int)))
 (.ret (.normal, [.sli 0 (.c 0) 3 (.v calls.length) (some (.v cap)), .bl false, .ptr 1 0, .ptr 3 0, .int .i64 (i + (1 : Int))], [.ro encCl calls, .own [.c (.ifc 63 (.ptr 2 0)), .c (.int .i64 sz)] 62, .own [.c (.sl []), .c (.lit .u32 (0 : Int)), .c (.int .u16 age)] 65, .own [.c (.lit .u8 (1 : Int)), .c (.int .u8 ff), .c (.int .u8 tt), .c (.int .u8 sz), .c (.int .u8 dp), .c (.int .u16 age), .c .snil, .c (.int .u32 t)] 43])))
 (.br (imin (↑s.size : Int) (1 : Int) != (1 : Int))
 (.ret (.ret, [.sli 0 (.c 0) 3 (.v calls.length) (some (.v cap)), .bl false, .ptr 1 0, .ptr 3 0, .int .i64 i], [.ro encCl calls, .own [.c (.ifc 63 (.ptr 2 0)), .c (.int .i64 sz)] 62, .own [.c (.str s), .c (.int .u32 t), .c (.int .u16 age)] 65, .own [.c (.lit .u8 (1 : Int)), .c (.int .u8 ff), .c (.int .u8 tt), .c (.int .u8 sz), .c (.int .u8 dp), .c (.int .u16 age), .c (.sli 4 (.c 0) 1 (.c 1) (some (.c 1))), .c (.int .u32 t)] 43, .own [.c (.str s)] 9]))
 (.need (inR .i64 (i + (1 : Int)))
 (.ret (.normal, [.sli 0 (.c 0) 3 (.v calls.length) (some (.v cap)), .bl false, .ptr 1 0, .ptr 3 0, .int .i64 (i + (1 : Int))], [.ro encCl calls, .own [.c (.ifc 63 (.ptr 2 0)), .c (.int .i64 sz)] 62, .own [.c (.str s), .c (.int .u32 t), .c (.int .u16 age)] 65, .own [.c (.lit .u8 (1 : Int)), .c (.int .u8 ff), .c (.int .u8 tt), .c (.int .u8 sz), .c (.int .u8 dp), .c (.int .u16 age), .c (.sli 4 (.c 0) 1 (.c 1) (some (.c 1))), .c (.int .u32 t)] 43, .own [.c (.str s)] 9])))))))))))))
 (.ret (.exit (0 : Nat), [.sli 0 (.c 0) 3 (.v calls.length) (some (.v cap)), .bl false, .ptr 1 0, .ptr 3 0, .int .i64 i], [.ro encCl calls, .own [.c (.ifc 63 (.ptr 2 0)), .c (.int .i64 sz)] 62, .own [.c (.str s), .c (.int .u32 t), .c (.int .u16 age)] 65, .own [.c (.lit .u8 (1 : Int)), .c (.int .u8 ff), .c (.int .u8 tt), .c (.int .u8 sz), .c (.int .u8 dp), .c (.int .u16 age), .c (.sli 4 (.c 0) 1 (.c 1) (some (.c 1))), .c (.int .u32 t)] 43, .own [.c (.str s)] 9])))
 (.ret (.exit (0 : Nat), [.sli 0 (.c 0) 3 (.v calls.length) (some (.v cap)), .bl false, .ptr 1 0, .ptr 3 0, .int .i64 i], [.ro encCl calls, .own [.c (.ifc 63 (.ptr 2 0)), .c (.int .i64 sz)] 62, .own [.c (.str s), .c (.int .u32 t), .c (.int .u16 age)] 65, .own [.c (.lit .u8 (1 : Int)), .c (.int .u8 ff), .c (.int .u8 tt), .c (.int .u8 sz), .c (.int .u8 dp), .c (.int .u16 age), .c (.sli 4 (.c 0) 1 (.c 1) (some (.c 1))), .c (.int .u32 t)] 43, .own [.c (.str s)] 9]))) := by kernel_rfl
end Go.Proofs.Ytdadfgeepinpbaa

/- PortPlays: where its loop stands, and a round. -/
namespace Go.Proofs.Ytdadfgeepinpbaa
open Go Go.Proofs.Ytdadfgeepinpbaa.Sx
set_option linter.unusedVariables false
inductive Q4 where
  | qn
  | qv (xs ys : List ByteArray) (o n : Nat)
  | sn (t : Int)
  | sv (t : Int) (s : ByteArray)
/-- what came in -/
structure In4 where
  calls : List Cl
  cap : Nat
  ff : Int
  tt : Int
  sz : Int
  dp : Int
  age : Int
def Inv4 (w0 : From) (p : In4) (j : Q4 × Nat) (a : Act) (w : World) : Prop :=
  j.2 ≤ 60 ∧ match j.1 with
  | .qn => (1 ≤ p.dp ∧ p.dp ≤ 16) ∧ ∃ env, At [] w0 env (fr 169 n4 (v4 (callsV p.calls p.cap) 3 (j.2 : Nat))) (s4qn p.calls p.ff p.tt p.sz p.dp p.age) a w
  | .qv xs ys o n => (1 ≤ p.dp ∧ p.dp ≤ 16) ∧ (n = xs.length ∧ xs = (ys.drop o).take n ∧ o + n ≤ ys.length ∧ n ≤ j.2 ∧ (n : Int) ≤ p.dp) ∧ ∃ env, At [] w0 env (fr 169 n4 (v4 (callsV p.calls p.cap) 4 (j.2 : Nat))) (s4qv p.calls p.ff p.tt p.sz p.dp p.age xs ys (.v o) (.v n)) a w
  | .sn t => (0 < p.age ∧ p.age ≤ 65535) ∧ ∃ env, At [] w0 env (fr 169 n4 (v4 (callsV p.calls p.cap) 3 (j.2 : Nat))) (s4sn p.calls p.ff p.tt p.sz p.dp p.age t) a w
  | .sv t s => (0 < p.age ∧ p.age ≤ 65535) ∧ (1 ≤ s.size) ∧ ∃ env, At [] w0 env (fr 169 n4 (v4 (callsV p.calls p.cap) 3 (j.2 : Nat))) (s4sv p.calls p.ff p.tt p.sz p.dp p.age t s) a w
abbrev Q4p (w0 : From) : Exit → Act → World → Prop := bodyPost Try.prog Try.f4 (Said w0)
theorem end4_ok {w0 : From} {vals : List SVal} {st : St} {env : Env} {a : Act} {w : World} (h : At [] w0 env (fr 169 n4 vals) st a w) : end4.wp Try.prog (Q4p w0) a w := by
  have ht : (exec cfg4 100 end4 (fr 169 [] []) []).bind (canon [] 169 [4]) = (.ret (.ret, [.bl true], [])) := by kernel_rfl
  obtain ⟨env', h'⟩ := h.canon (N := 169) [] (vals := []) (st' := []) (by rfl)
  refine pieceT (c := cfg4) cfg4_ok [4] ht h' (all_ret fun env' a' w' hA' => ?_)
  exact hA'.said (by kernel_rfl)
end Go.Proofs.Ytdadfgeepinpbaa

/- PortPlays: a round. -/
namespace Go.Proofs.Ytdadfgeepinpbaa
open Go Go.Proofs.Ytdadfgeepinpbaa.Sx
set_option linter.unusedVariables false
abbrev R4 (w0 : From) (p : In4) (i : Nat) : Exit → Act → World → Prop :=
  Exit.then (fun a' w' => ∃ k, Inv4 w0 p k a' w' ∧ 60 - k.2 < 60 - i) (Exit.inBlock 0 (Exit.then (end4.wp Try.prog (Q4p w0)) (Q4p w0)))
theorem step4 {w0 : From} {p : In4} {i : Nat} (k : Q4 × Nat) (hk : k.2 = i + 1) (hi : i < 60) {a : Act} {w : World} (h : Inv4 w0 p k a w) : R4 w0 p i .normal a w := ⟨k, h, by omega⟩
theorem exit4 {w0 : From} {p : In4} {i : Nat} {a : Act} {w : World} {env : Env} {vals : List SVal} {st : St} (h : At [] w0 env (fr 169 n4 vals) st a w) : R4 w0 p i (.exit 0) a w := by
  simp only [R4, Exit.then, Exit.inBlock, if_true]
  exact end4_ok h
theorem qn4 {w0 : From} {p : In4} {i : Nat} (hd : 1 ≤ p.dp ∧ p.dp ≤ 16) (hi : i < 60) {x : Int} (hx : x = (i : Int) + 1) {env : Env} {a : Act} {w : World}
    (hA : At [] w0 env (fr 169 n4 (v4 (callsV p.calls p.cap) 3 x)) (s4qn p.calls p.ff p.tt p.sz p.dp p.age) a w) : R4 w0 p i .normal a w := by
  subst hx
  exact step4 (.qn, i + 1) rfl hi ⟨by simp only; omega, hd, env, hA⟩
theorem qv4 {w0 : From} {p : In4} {i : Nat} (xs ys : List ByteArray) (o n m : Nat) (hd : 1 ≤ p.dp ∧ p.dp ≤ 16) (hi : i < 60) {x : Int} (hx : x = (i : Int) + 1) (h1 : n = xs.length) (h2 : xs = (ys.drop o).take n) (h3 : o + n ≤ ys.length) (h4 : n ≤ i + 1 ∧ (n : Int) ≤ p.dp) (hm : m = n) {env : Env} {a : Act} {w : World}
    (hA : At [] w0 env (fr 169 n4 (v4 (callsV p.calls p.cap) 4 x)) [.ro encCl p.calls, portQ 2 p.sz, queB (.sli 3 (.c 0) 1 (.v m) none) p.dp, .vec encStr xs 9, refB (.lit .u8 0) p.ff p.tt p.sz p.dp p.age (.sli 5 (.v o) 1 (.v n) none) (.lit .u32 0), .vec encStr ys 9] a w) : R4 w0 p i .normal a w := by
  subst hx hm h1
  exact step4 (.qv xs ys o xs.length, i + 1) rfl hi ⟨by simp only; omega, hd, ⟨rfl, h2, h3, h4⟩, env, hA⟩
/-- the offset is written out -/
theorem off4 {c : Nat} {n : Nat} {env : Env} {v : Value} (h : Den env (.sli 5 (.c c) 1 (.v n) none) v) : Den env (.sli 5 (.v c) 1 (.v n) none) v := by
  simpa [Den, NN.val, sliCap] using h
theorem qv4' {w0 : From} {p : In4} {i : Nat} (xs ys : List ByteArray) (n m : Nat) (hd : 1 ≤ p.dp ∧ p.dp ≤ 16) (hi : i < 60) {x : Int} (hx : x = (i : Int) + 1) (h1 : n = xs.length) (h2 : xs = ys) (h4 : n ≤ i + 1 ∧ (n : Int) ≤ p.dp) (hm : m = n) {env : Env} {a : Act} {w : World}
    (hA : At [] w0 env (fr 169 n4 (v4 (callsV p.calls p.cap) 4 x)) [.ro encCl p.calls, portQ 2 p.sz, queB (.sli 3 (.c 0) 1 (.v m) none) p.dp, .vec encStr xs 9, refB (.lit .u8 0) p.ff p.tt p.sz p.dp p.age (.sli 5 (.c 0) 1 (.v n) none) (.lit .u32 0), .vec encStr ys 9] a w) : R4 w0 p i .normal a w := by
  have h5 := hA.own 4 (l := [.lit .u8 0, .int .u8 p.ff, .int .u8 p.tt, .int .u8 p.sz, .int .u8 p.dp, .int .u16 p.age, .sli 5 (.c 0) 1 (.v n) none, .lit .u32 0])
    (l' := [.lit .u8 0, .int .u8 p.ff, .int .u8 p.tt, .int .u8 p.sz, .int .u8 p.dp, .int .u16 p.age, .sli 5 (.v 0) 1 (.v n) none, .lit .u32 0]) rfl (fun env cs h => by
      simp only [DenL] at h ⊢
      obtain ⟨_, _, rfl, a1, _, _, rfl, a2, _, _, rfl, a3, _, _, rfl, a4, _, _, rfl, a5, _, _, rfl, a6, _, _, rfl, a7, a8⟩ := h
      exact ⟨_, _, rfl, a1, _, _, rfl, a2, _, _, rfl, a3, _, _, rfl, a4, _, _, rfl, a5, _, _, rfl, a6, _, _, rfl, off4 a7, a8⟩)
  exact qv4 xs ys 0 n m hd hi hx h1 (by rw [h2]; simp [h1, h2]) (by simp [h1, h2]) h4 hm h5
theorem qv1 {w0 : From} {p : In4} {i : Nat} {s : ByteArray} (hd : 1 ≤ p.dp ∧ p.dp ≤ 16) (hi : i < 60) {x : Int} (hx : x = (i : Int) + 1) {env : Env} {a : Act} {w : World}
    (hA : At [] w0 env (fr 169 n4 (v4 (callsV p.calls p.cap) 4 x)) [.ro encCl p.calls, portQ 2 p.sz, queB (.sli 3 (.c 0) 1 (.c 1) none) p.dp, .vec (encRow 0) [[.str s]] 9, refB (.lit .u8 0) p.ff p.tt p.sz p.dp p.age (.sli 5 (.c 0) 1 (.c 1) none) (.lit .u32 0), .vec (encRow 0) [[.str s]] 9] a w) : R4 w0 p i .normal a w := by
  have h1 := (hA.typed 3 (E' := encStr) (ys := [s]) rfl rfl rfl rfl).typed 5 (E' := encStr) (ys := [s]) rfl rfl rfl rfl
  have h2 := h1.own 2 (l := [.sli 3 (.c 0) 1 (.c 1) none, .int .i64 p.dp]) (l' := [.sli 3 (.c 0) 1 (.v 1) none, .int .i64 p.dp]) rfl (fun env cs h => by simpa [DenL, Den, NN.val] using h)
  have h3 := h2.own 4 (l := [.lit .u8 0, .int .u8 p.ff, .int .u8 p.tt, .int .u8 p.sz, .int .u8 p.dp, .int .u16 p.age, .sli 5 (.c 0) 1 (.c 1) none, .lit .u32 0])
    (l' := [.lit .u8 0, .int .u8 p.ff, .int .u8 p.tt, .int .u8 p.sz, .int .u8 p.dp, .int .u16 p.age, .sli 5 (.c 0) 1 (.v 1) none, .lit .u32 0]) rfl (fun env cs h => by simpa [DenL, Den, NN.val] using h)
  exact qv4' [s] [s] 1 1 hd hi hx rfl rfl (by omega) rfl h3
theorem sn4 {w0 : From} {p : In4} {i : Nat} (t : Int) (hd : 0 < p.age ∧ p.age ≤ 65535) (hi : i < 60) {x : Int} (hx : x = (i : Int) + 1) {env : Env} {a : Act} {w : World}
    (hA : At [] w0 env (fr 169 n4 (v4 (callsV p.calls p.cap) 3 x)) (s4sn p.calls p.ff p.tt p.sz p.dp p.age t) a w) : R4 w0 p i .normal a w := by
  subst hx
  exact step4 (.sn t, i + 1) rfl hi ⟨by simp only; omega, hd, env, hA⟩
theorem sv4 {w0 : From} {p : In4} {i : Nat} (t : Int) (s : ByteArray) (hd : 0 < p.age ∧ p.age ≤ 65535) (hi : i < 60) {x : Int} (hx : x = (i : Int) + 1) (hs : 1 ≤ s.size) {env : Env} {a : Act} {w : World}
    (hA : At [] w0 env (fr 169 n4 (v4 (callsV p.calls p.cap) 3 x)) (s4sv p.calls p.ff p.tt p.sz p.dp p.age t s) a w) : R4 w0 p i .normal a w := by
  subst hx
  exact step4 (.sv t s, i + 1) rfl hi ⟨by simp only; omega, hd, hs, env, hA⟩
end Go.Proofs.Ytdadfgeepinpbaa

/- PortPlays: the rounds. -/
namespace Go.Proofs.Ytdadfgeepinpbaa
open Go Go.Proofs.Ytdadfgeepinpbaa.Sx
set_option linter.unusedVariables false
theorem strEq_self (s : ByteArray) : strEq s s = true := by rw [strEq_iff]
theorem strEq_lin (s : ByteArray) : strEq (ByteArray.mk ⟨[]⟩) s = decide (s.size = 0) := by
  rw [← strEq_nil]
  rw [Bool.eq_iff_iff, strEq_iff, strEq_iff]
  exact eq_comm
theorem imin_one (s : ByteArray) : s.size = 0 ∧ imin (s.size : Int) 1 = 0 ∨ 1 ≤ s.size ∧ imin (s.size : Int) 1 = 1 := by
  unfold imin
  split <;> omega
set_option maxHeartbeats 4000000 in
theorem rqn4 {w0 : From} {p : In4} (hz : 1 ≤ p.sz ∧ p.sz ≤ 32) (hd : 1 ≤ p.dp ∧ p.dp ≤ 16) {i : Nat} (hi : i ≤ 60) {env : Env} {a : Act} {w : World}
    (hA : At [] w0 env (fr 169 n4 (v4 (callsV p.calls p.cap) 3 (i : Nat))) (s4qn p.calls p.ff p.tt p.sz p.dp p.age) a w) : round4.wp Try.prog (R4 w0 p i) a w := by
  refine pieceT cfg4_ok n4 p4_rqn hA ?_
  generalize bs _ _ _ = s0
  generalize (p.calls.getD (i : Int).toNat encCl.dflt).1 = kd
  repeat' (first
    | refine all_brp (by simp only [decide_eq_true_eq, decide_eq_false_iff_not, Bool.not_eq_true', Bool.not_eq_false', beq_iff_eq, bne_iff_ne, strEq_nil, strEq_lin, strEq_no, strEq_self, beq_self_eq_true, Bool.not_true, Bool.not_false, Bool.false_eq_true, beq_eq_false_iff_ne, ne_eq, Bool.true_beq, Bool.false_beq]; exact Iff.rfl) (fun _ => ?_) (fun _ => ?_)
    | refine all_needp (by simp only [decide_eq_true_eq, Bool.and_eq_true, inR_i64, inR_u32, roomy_iff, List.length_nil]; exact Iff.rfl) ?_ (fun _ => ?_)
    | refine all_br (fun _ => ?_) (fun _ => ?_)
    | refine all_eq rfl ?_
    | refine all_ret (fun _ _ _ _ => ?_)
    | refine all_no ?_)
  all_goals first
    | omega
    | trivial
    | (exfalso; omega)
    | (refine (show R4 w0 p i .normal _ _ from qn4 hd ?_ rfl ‹_›); omega)
    | exact (show R4 w0 p i (.exit 0) _ _ from exit4 ‹_›)
    | (refine (show R4 w0 p i .normal _ _ from qv1 hd ?_ rfl ‹_›); omega)
set_option maxHeartbeats 4000000 in
theorem rsn4 {w0 : From} {p : In4} (hz : 1 ≤ p.sz ∧ p.sz ≤ 32) (hd : 0 < p.age ∧ p.age ≤ 65535) {i : Nat} (hi : i ≤ 60) {t : Int} {env : Env} {a : Act} {w : World}
    (hA : At [] w0 env (fr 169 n4 (v4 (callsV p.calls p.cap) 3 (i : Nat))) (s4sn p.calls p.ff p.tt p.sz p.dp p.age t) a w) : round4.wp Try.prog (R4 w0 p i) a w := by
  refine pieceT cfg4_ok n4 p4_rsn hA ?_
  generalize bs _ _ _ = s0
  have hmin := imin_one s0
  generalize (p.calls.getD (i : Int).toNat encCl.dflt).1 = kd
  repeat' (first
    | refine all_brp (by simp only [decide_eq_true_eq, decide_eq_false_iff_not, Bool.not_eq_true', Bool.not_eq_false', beq_iff_eq, bne_iff_ne, strEq_nil, strEq_lin, strEq_no, strEq_self, beq_self_eq_true, Bool.not_true, Bool.not_false, Bool.false_eq_true, beq_eq_false_iff_ne, ne_eq, Bool.true_beq, Bool.false_beq]; exact Iff.rfl) (fun _ => ?_) (fun _ => ?_)
    | refine all_needp (by simp only [decide_eq_true_eq, Bool.and_eq_true, inR_i64, inR_u32, roomy_iff, List.length_nil]; exact Iff.rfl) ?_ (fun _ => ?_)
    | refine all_br (fun _ => ?_) (fun _ => ?_)
    | refine all_eq rfl ?_
    | refine all_ret (fun _ _ _ _ => ?_)
    | refine all_no ?_)
  all_goals first
    | omega
    | trivial
    | (exfalso; omega)
    | (refine (show R4 w0 p i .normal _ _ from sn4 _ hd ?_ rfl ‹_›); omega)
    | exact (show R4 w0 p i (.exit 0) _ _ from exit4 ‹_›)
    | (refine (show R4 w0 p i .normal _ _ from sv4 _ _ hd ?_ rfl ?_ ‹_›) <;> omega)

set_option maxHeartbeats 8000000 in
theorem rsv4 {w0 : From} {p : In4} (hz : 1 ≤ p.sz ∧ p.sz ≤ 32) (hd : 0 < p.age ∧ p.age ≤ 65535) {i : Nat} (hi : i ≤ 60) {t : Int} {s : ByteArray} (hs : 1 ≤ s.size) {env : Env} {a : Act} {w : World}
    (hA : At [] w0 env (fr 169 n4 (v4 (callsV p.calls p.cap) 3 (i : Nat))) (s4sv p.calls p.ff p.tt p.sz p.dp p.age t s) a w) : round4.wp Try.prog (R4 w0 p i) a w := by
  refine pieceT cfg4_ok n4 p4_rsv hA ?_
  generalize bs _ _ _ = s0
  have hmin := imin_one s0
  have hmin2 := imin_one s
  generalize (p.calls.getD (i : Int).toNat encCl.dflt).1 = kd
  repeat' (first
    | refine all_brp (by simp only [decide_eq_true_eq, decide_eq_false_iff_not, Bool.not_eq_true', Bool.not_eq_false', beq_iff_eq, bne_iff_ne, strEq_nil, strEq_lin, strEq_no, strEq_self, beq_self_eq_true, Bool.not_true, Bool.not_false, Bool.false_eq_true, beq_eq_false_iff_ne, ne_eq, Bool.true_beq, Bool.false_beq]; exact Iff.rfl) (fun _ => ?_) (fun _ => ?_)
    | refine all_needp (by simp only [decide_eq_true_eq, Bool.and_eq_true, inR_i64, inR_u32, roomy_iff, List.length_nil]; exact Iff.rfl) ?_ (fun _ => ?_)
    | refine all_br (fun _ => ?_) (fun _ => ?_)
    | refine all_eq rfl ?_
    | refine all_ret (fun _ _ _ _ => ?_)
    | refine all_no ?_)
  all_goals first
    | omega
    | trivial
    | (exfalso; omega)
    | (refine (show R4 w0 p i .normal _ _ from sn4 _ hd ?_ rfl ‹_›); omega)
    | exact (show R4 w0 p i (.exit 0) _ _ from exit4 ‹_›)
    | (refine (show R4 w0 p i .normal _ _ from sv4 _ _ hd ?_ rfl ?_ ‹_›) <;> omega)
    | skip
end Go.Proofs.Ytdadfgeepinpbaa

/- PortPlays: a round of a queue that has something. -/
namespace Go.Proofs.Ytdadfgeepinpbaa
open Go Go.Proofs.Ytdadfgeepinpbaa.Sx
set_option linter.unusedVariables false
set_option maxHeartbeats 8000000 in
theorem rqv4 {w0 : From} {p : In4} (hz : 1 ≤ p.sz ∧ p.sz ≤ 32) (hd : 1 ≤ p.dp ∧ p.dp ≤ 16) {i : Nat} (hi : i ≤ 60) {xs ys : List ByteArray} {o n : Nat} (h1 : n = xs.length) (h2 : xs = (ys.drop o).take n) (h3 : o + n ≤ ys.length) (h4 : n ≤ i ∧ (n : Int) ≤ p.dp) {env : Env} {a : Act} {w : World}
    (hA : At [] w0 env (fr 169 n4 (v4 (callsV p.calls p.cap) 4 (i : Nat))) (s4qv p.calls p.ff p.tt p.sz p.dp p.age xs ys (.v o) (.v n)) a w) : round4.wp Try.prog (R4 w0 p i) a w := by
  have hg : 0 < n → xs.getD 0 (ByteArray.mk ⟨[]⟩) = ys.getD o (ByteArray.mk ⟨[]⟩) := by
    intro hn
    rw [h2]
    simp [List.getD_eq_getElem?_getD, List.getElem?_take, hn]
  have hl : (List.take n (List.drop o ys)).length = n := by rw [← h2, h1]
  have ht : List.take (xs.length - 1) (List.drop 1 xs) = (ys.drop (o + 1)).take (n - 1) := by
    rw [List.take_of_length_le (by simp), h2, List.drop_take, List.drop_drop]
  have htl : (List.take (xs.length - 1) (List.drop 1 xs)).length = n - 1 := by
    rw [List.take_of_length_le (by simp), List.length_drop, ← h1]
  refine pieceT cfg4_ok n4 p4_rqv hA ?_
  generalize bs _ _ _ = s0
  generalize (p.calls.getD (i : Int).toNat encCl.dflt).1 = kd
  repeat' (first
    | refine all_brp (by simp only [decide_eq_true_eq, decide_eq_false_iff_not, Bool.not_eq_true', Bool.not_eq_false', beq_iff_eq, bne_iff_ne, strEq_nil, strEq_lin, strEq_no, strEq_self, beq_self_eq_true, Bool.not_true, Bool.not_false, Bool.false_eq_true, beq_eq_false_iff_ne, ne_eq, Bool.true_beq, Bool.false_beq, hl, htl]; exact Iff.rfl) (fun _ => ?_) (fun _ => ?_)
    | refine all_needp (by simp only [decide_eq_true_eq, Bool.and_eq_true, inR_i64, inR_u32, roomy_iff, List.length_nil, hl, htl]; exact Iff.rfl) ?_ (fun _ => ?_)
    | refine all_br (fun _ => ?_) (fun _ => ?_)
    | refine all_eq rfl ?_
    | refine all_ret (fun _ _ _ _ => ?_)
    | refine all_no ?_)
  all_goals first
    | omega
    | trivial
    | (exfalso; omega)
    | (refine (show R4 w0 p i .normal _ _ from qn4 hd ?_ rfl ‹_›); omega)
    | exact (show R4 w0 p i (.exit 0) _ _ from exit4 ‹_›)
    | (refine (show R4 w0 p i .normal _ _ from qv4 xs ys o n _ hd ?_ rfl h1 h2 h3 ?_ ?_ ‹_›) <;> omega)
    | (refine (show R4 w0 p i .normal _ _ from qv4' _ _ _ _ hd ?_ rfl ?_ ?_ ?_ ?_ ‹_›) <;> first | omega | (simp only [List.length_append, List.length_cons, List.length_nil, hl]; omega) | (rw [← h2]))
    | (refine (show R4 w0 p i .normal _ _ from qv4 _ ys (o + 1) (n - 1) _ hd ?_ rfl htl.symm ht ?_ ?_ htl ‹_›) <;> omega)
    | (exact absurd (hg (by omega)) (by assumption))
    | skip
end Go.Proofs.Ytdadfgeepinpbaa

namespace Go.Proofs.Ytdadfgeepinpbaa
open Go Go.Proofs.Ytdadfgeepinpbaa.Sx
set_option linter.unusedVariables false
set_option maxRecDepth 100000 in
theorem p4_regq {ff tt sz dp age : Int} {calls : List Cl} {cap : Nat} : (exec cfg4 100 reg4 (fr 169 [1,4,5,7] [callsV calls cap, .bl false, .ptr 1 0, .ptr 3 0]) (s4qn calls ff tt sz dp age)).bind (canon [] 169 n4) =
 
 (.ret (.normal, [.sli 0 (.c 0) 3 (.v calls.length) (some (.v cap)), .bl false, .ptr 1 0, .ptr 3 0, .lit .i64 (0 : Int)], [.ro encCl calls, .own [.c (.ifc 56 (.ptr 2 0)), .c (.int .i64 sz)] 62, .own [.c .snil, .c (.int .i64 dp)] 58, .own [.c (.lit .u8 (0 : Int)), .c (.int .u8 ff), .c (.int .u8 tt), .c (.int .u8 sz), .c (.int .u8 dp), .c (.int .u16 age), .c .snil, .c (.lit .u32 (0 : Int))] 43])) := by kernel_rfl
set_option maxRecDepth 100000 in
theorem p4_regs {ff tt sz dp age : Int} {calls : List Cl} {cap : Nat} : (exec cfg4 100 reg4 (fr 169 [1,4,5,7] [callsV calls cap, .bl false, .ptr 1 0, .ptr 3 0]) [.ro encCl calls, portS 2 sz, samB (.sl []) (.lit .u32 0) age, refB (.lit .u8 1) ff tt sz dp age .snil (.lit .u32 0)]).bind (canon [] 169 n4) =
 
 (.ret (.normal, [.sli 0 (.c 0) 3 (.v calls.length) (some (.v cap)), .bl false, .ptr 1 0, .ptr 3 0, .lit .i64 (0 : Int)], [.ro encCl calls, .own [.c (.ifc 63 (.ptr 2 0)), .c (.int .i64 sz)] 62, .own [.c (.sl []), .c (.lit .u32 (0 : Int)), .c (.int .u16 age)] 65, .own [.c (.lit .u8 (1 : Int)), .c (.int .u8 ff), .c (.int .u8 tt), .c (.int .u8 sz), .c (.int .u8 dp), .c (.int .u16 age), .c .snil, .c (.lit .u32 (0 : Int))] 43])) := by kernel_rfl
end Go.Proofs.Ytdadfgeepinpbaa

/- PortPlays, of whatever comes in: its call. -/
namespace Go.Proofs.Ytdadfgeepinpbaa
open Go Go.Proofs.Ytdadfgeepinpbaa.Sx
set_option linter.unusedVariables false
theorem bit_pow {d : Int} (h1 : 0 < d) (h2 : d ≤ 16) : bitop .and .u8 d (IntKind.u8.wrap (d - 1)) = 0 ↔ (d = 1 ∨ d = 2 ∨ d = 4 ∨ d = 8 ∨ d = 16) := by
  have h : d = 1 ∨ d = 2 ∨ d = 3 ∨ d = 4 ∨ d = 5 ∨ d = 6 ∨ d = 7 ∨ d = 8 ∨ d = 9 ∨ d = 10 ∨ d = 11 ∨ d = 12 ∨ d = 13 ∨ d = 14 ∨ d = 15 ∨ d = 16 := by omega
  rcases h with rfl | rfl | rfl | rfl | rfl | rfl | rfl | rfl | rfl | rfl | rfl | rfl | rfl | rfl | rfl | rfl <;> decide +kernel
theorem bit_cases (d : Int) : ¬ (0 < d ∧ d ≤ 16) ∨ (bitop .and .u8 d (IntKind.u8.wrap (d - 1)) = 0 ∧ (d = 1 ∨ d = 2 ∨ d = 4 ∨ d = 8 ∨ d = 16)) ∨ (bitop .and .u8 d (IntKind.u8.wrap (d - 1)) ≠ 0 ∧ d ≠ 1 ∧ d ≠ 2 ∧ d ≠ 4 ∧ d ≠ 8 ∧ d ≠ 16) := by
  by_cases h : 0 < d ∧ d ≤ 16
  · have := bit_pow h.1 h.2
    by_cases h0 : bitop .and .u8 d (IntKind.u8.wrap (d - 1)) = 0
    · exact .inr (.inl ⟨h0, this.1 h0⟩)
    · refine .inr (.inr ⟨h0, ?_⟩)
      have h1 := fun h => h0 (this.2 h)
      omega
  · exact .inl h
theorem b4_eq : Try.f4.body = some b4 := by kernel_rfl
theorem rest4 : restC 3 (restC 2 b4) = restC 5 b4 := by kernel_rfl
/-- the loop, and what comes behind it -/
theorem loop4 {w0 : From} {p : In4} (hz : 1 ≤ p.sz ∧ p.sz ≤ 32) (j : Q4 × Nat) {a : Act} {w : World} (h : Inv4 w0 p j a w) : blk4.wp Try.prog (Exit.then (end4.wp Try.prog (Q4p w0)) (Q4p w0)) a w := by
  refine wpB 0 (by kernel_rfl) (wpL (by kernel_rfl) (Inv4 w0 p) (fun j => 60 - j.2) j h ?_)
  rintro ⟨q, i⟩ a w ⟨hi, h⟩
  cases q with
  | qn => obtain ⟨h1, env, hA⟩ := h; exact rqn4 hz h1 hi hA
  | qv xs ys o n => obtain ⟨h1, ⟨h2, h3, h4, h5⟩, env, hA⟩ := h; exact rqv4 hz h1 hi h2 h3 h4 h5 hA
  | sn t => obtain ⟨h1, env, hA⟩ := h; exact rsn4 hz h1 hi hA
  | sv t s => obtain ⟨h1, h2, env, hA⟩ := h; exact rsv4 hz h1 hi h2 hA
theorem cont_q {w0 : From} {p : In4} (hz : 1 ≤ p.sz ∧ p.sz ≤ 32) (hd : p.dp = 1 ∨ p.dp = 2 ∨ p.dp = 4 ∨ p.dp = 8 ∨ p.dp = 16) {env : Env} {a : Act} {w : World}
    (hA : At [] w0 env (fr 169 [1,2,4,5,6] [callsV p.calls p.cap, .ptr 1 0, .bl false, .ptr 2 0, .lit .i64 0]) [.ro encCl p.calls, choV (.lit .u8 0) p.ff p.tt p.sz p.dp p.age, portQ 3 p.sz, queB .snil p.dp] a w) : (restC 2 b4).wp Try.prog (Q4p w0) a w := by
  refine pieceNT cfg4_ok 3 [1,4,5,7] p4_q hA ?_
  repeat' (first
    | refine all_brp (by simp only [decide_eq_true_eq, Bool.not_eq_true', beq_iff_eq, beq_eq_false_iff_ne, ne_eq]; exact Iff.rfl) (fun _ => ?_) (fun _ => ?_)
    | refine all_ret (fun _ _ _ _ => ?_))
  all_goals first
    | (exfalso; omega)
    | skip
  all_goals
    rename_i env1 a1 w1 hA1
    simp only [Ex.to, Exit.then]
    rw [rest4]
    refine wpS (by kernel_rfl) (wpS (by kernel_rfl) ?_)
    refine pieceT cfg4_ok n4 p4_regq hA1 (all_ret fun env2 a2 w2 hA2 => ?_)
    have hA3 := hA2.vals (v4 (callsV p.calls p.cap) 3 (0 : Nat)) ⟨fun _ h => h, fun _ h => h, fun _ h => h, fun _ h => h, fun _ h => by simpa [Den] using h, trivial⟩
    exact loop4 hz (.qn, 0) ⟨by simp, by omega, env2, hA3⟩
theorem cont_s {w0 : From} {p : In4} (hz : 1 ≤ p.sz ∧ p.sz ≤ 32) (hd : 0 < p.age ∧ p.age ≤ 65535) {env : Env} {a : Act} {w : World}
    (hA : At [] w0 env (fr 169 [1,2,4,5,6] [callsV p.calls p.cap, .ptr 1 0, .bl false, .ptr 2 0, .lit .i64 0]) [.ro encCl p.calls, choV (.lit .u8 1) p.ff p.tt p.sz p.dp p.age, portS 3 p.sz, samB (.sl []) (.lit .u32 0) p.age] a w) : (restC 2 b4).wp Try.prog (Q4p w0) a w := by
  refine pieceNT cfg4_ok 3 [1,4,5,7] p4_s hA ?_
  repeat' (first
    | refine all_brp (by simp only [decide_eq_true_eq, beq_iff_eq]; exact Iff.rfl) (fun _ => ?_) (fun _ => ?_)
    | refine all_ret (fun _ _ _ _ => ?_))
  all_goals first
    | (exfalso; omega)
    | skip
  rename_i env1 a1 w1 hA1
  simp only [Ex.to, Exit.then]
  rw [rest4]
  refine wpS (by kernel_rfl) (wpS (by kernel_rfl) ?_)
  refine pieceT cfg4_ok n4 p4_regs hA1 (all_ret fun env2 a2 w2 hA2 => ?_)
  have hA3 := hA2.vals (v4 (callsV p.calls p.cap) 3 (0 : Nat)) ⟨fun _ h => h, fun _ h => h, fun _ h => h, fun _ h => h, fun _ h => by simpa [Den] using h, trivial⟩
  have hA4 := hA3.own 3 (l := [.lit .u8 1, .int .u8 p.ff, .int .u8 p.tt, .int .u8 p.sz, .int .u8 p.dp, .int .u16 p.age, .snil, .lit .u32 0])
    (l' := [.lit .u8 1, .int .u8 p.ff, .int .u8 p.tt, .int .u8 p.sz, .int .u8 p.dp, .int .u16 p.age, .snil, .int .u32 0]) rfl (fun env cs h => by simpa [DenL, Den] using h)
  exact loop4 hz (.sn 0, 0) ⟨by simp, hd, env2, hA4⟩
theorem cont_n {w0 : From} {p : In4} {k : Int} (hn : ¬ (1 ≤ p.sz ∧ p.sz ≤ 32 ∧ (k = 0 ∧ (p.dp = 1 ∨ p.dp = 2 ∨ p.dp = 4 ∨ p.dp = 8 ∨ p.dp = 16) ∨ k = 1 ∧ 0 < p.age))) (ha : 0 ≤ p.age) {env : Env} {a : Act} {w : World}
    (hA : At [] w0 env (fr 169 [1,2,4,5,6] [callsV p.calls p.cap, .ptr 1 0, .bl false, .pnil, .lit .i64 190]) [.ro encCl p.calls, choV (.int .u8 k) p.ff p.tt p.sz p.dp p.age] a w) : (restC 2 b4).wp Try.prog (Q4p w0) a w := by
  refine pieceNT cfg4_ok 3 [4] p4_n hA ?_
  repeat' (first
    | refine all_brp (by simp only [decide_eq_true_eq, Bool.not_eq_true', beq_iff_eq, beq_eq_false_iff_ne, bne_iff_ne, ne_eq]; exact Iff.rfl) (fun _ => ?_) (fun _ => ?_)
    | refine all_ret (fun _ _ _ _ => ?_))
  all_goals first
    | (exfalso; omega)
    | (rename_i hA1; exact hA1.said (by kernel_rfl))
theorem cont_n0 {w0 : From} {p : In4} {k : Int} (hn : ¬ (1 ≤ p.sz ∧ p.sz ≤ 32 ∧ (k = 0 ∧ (p.dp = 1 ∨ p.dp = 2 ∨ p.dp = 4 ∨ p.dp = 8 ∨ p.dp = 16) ∨ k = 1 ∧ 0 < p.age))) (ha : 0 ≤ p.age) {env : Env} {a : Act} {w : World}
    (hA : At [] w0 env (fr 169 [1,2,4,5,6] [.snil, .ptr 0 0, .bl false, .pnil, .lit .i64 190]) [choV (.int .u8 k) p.ff p.tt p.sz p.dp p.age] a w) : (restC 2 b4).wp Try.prog (Q4p w0) a w := by
  refine pieceNT cfg4_ok 3 [4] p4_n0 hA ?_
  repeat' (first
    | refine all_brp (by simp only [decide_eq_true_eq, Bool.not_eq_true', beq_iff_eq, beq_eq_false_iff_ne, bne_iff_ne, ne_eq]; exact Iff.rfl) (fun _ => ?_) (fun _ => ?_)
    | refine all_ret (fun _ _ _ _ => ?_))
  all_goals first
    | (exfalso; omega)
    | (rename_i hA1; exact hA1.said (by kernel_rfl))
theorem cont_q0 {w0 : From} {p : In4} (hz : 1 ≤ p.sz ∧ p.sz ≤ 32) (hd : p.dp = 1 ∨ p.dp = 2 ∨ p.dp = 4 ∨ p.dp = 8 ∨ p.dp = 16) {env : Env} {a : Act} {w : World}
    (hA : At [] w0 env (fr 169 [1,2,4,5,6] [.snil, .ptr 0 0, .bl false, .ptr 1 0, .lit .i64 0]) [choV (.lit .u8 0) p.ff p.tt p.sz p.dp p.age, portQ 2 p.sz, queB .snil p.dp] a w) : (restC 2 b4).wp Try.prog (Q4p w0) a w := by
  refine pieceT cfg4_ok [4] p4_q0 hA ?_
  repeat' (first
    | refine all_brp (by simp only [decide_eq_true_eq, Bool.not_eq_true', beq_iff_eq, beq_eq_false_iff_ne, bne_iff_ne, ne_eq]; exact Iff.rfl) (fun _ => ?_) (fun _ => ?_)
    | refine all_ret (fun _ _ _ _ => ?_))
  all_goals first
    | (exfalso; omega)
    | (rename_i hA1; exact hA1.said (by kernel_rfl))
theorem cont_s0 {w0 : From} {p : In4} (hz : 1 ≤ p.sz ∧ p.sz ≤ 32) (hd : 0 < p.age) {env : Env} {a : Act} {w : World}
    (hA : At [] w0 env (fr 169 [1,2,4,5,6] [.snil, .ptr 0 0, .bl false, .ptr 1 0, .lit .i64 0]) [choV (.lit .u8 1) p.ff p.tt p.sz p.dp p.age, portS 2 p.sz, samB (.sl []) (.lit .u32 0) p.age] a w) : (restC 2 b4).wp Try.prog (Q4p w0) a w := by
  refine pieceT cfg4_ok [4] p4_s0 hA ?_
  repeat' (first
    | refine all_brp (by simp only [decide_eq_true_eq, beq_iff_eq]; exact Iff.rfl) (fun _ => ?_) (fun _ => ?_)
    | refine all_ret (fun _ _ _ _ => ?_))
  all_goals first
    | (exfalso; omega)
    | (rename_i hA1; exact hA1.said (by kernel_rfl))
/-- what is known of the channel -/
def Wf4 (k : Int) (p : In4) : Prop := (0 ≤ k ∧ k ≤ 255) ∧ (0 ≤ p.sz ∧ p.sz ≤ 255) ∧ (0 ≤ p.dp ∧ p.dp ≤ 255) ∧ (0 ≤ p.age ∧ p.age ≤ 65535)
theorem portPlays_some {k : Int} {p : In4} (hw : Wf4 k p) {e : Slot} {w : World} {u v : Value} (hr : Rep [e] [.ro encCl p.calls] w) (hu : Den [e] (chanV k p.ff p.tt p.sz p.dp p.age) u) (hv : Den [e] (callsV p.calls p.cap) v) :
    Calls Try.prog 4 ⟨[u, v]⟩ w (Said ⟨w, fun _ => False⟩) := by
  obtain ⟨h1, h2, h3, h4⟩ := hw
  refine call_begin (c := cfg4) Try.func4 b4_eq (args := [chanV k p.ff p.tt p.sz p.dp p.age, callsV p.calls p.cap]) (by intro p hp; cases hp) hr ⟨_, _, rfl, hu, _, _, rfl, hv, rfl⟩ (F := fun _ => False) ?_ ?_
  · rintro x ⟨id, e, b, he, hb, hx⟩
    match id with
    | 0 => simp at hb; subst hb; cases hx
    | n + 1 => simp at hb
  intro a hA
  have hb := bit_cases p.dp
  refine pieceNT (c := cfg4) cfg4_ok 2 [1,2,4,5,6] p4_a hA ?_
  generalize bitop .and .u8 p.dp (IntKind.u8.wrap (p.dp - 1)) = bt at *
  repeat' (first
    | refine all_brp (by simp only [decide_eq_true_eq, beq_iff_eq]; exact Iff.rfl) (fun _ => ?_) (fun _ => ?_)
    | refine all_needp (by simp only [inR_i64]; exact Iff.rfl) ?_ (fun _ => ?_)
    | refine all_ret (fun _ _ _ _ => ?_))
  all_goals first
    | omega
    | (refine (show (restC 2 b4).wp Try.prog (Q4p ⟨w, fun _ => False⟩) _ _ from cont_n (k := k) ?_ h4.1 ‹_›); omega)
    | (have h0 : k = 0 := by omega
       subst h0
       rename_i hA1
       have hA2 := hA1.own 1 (l := [.int .u8 0, .int .u8 p.ff, .int .u8 p.tt, .int .u8 p.sz, .int .u8 p.dp, .int .u16 p.age]) (l' := [.lit .u8 0, .int .u8 p.ff, .int .u8 p.tt, .int .u8 p.sz, .int .u8 p.dp, .int .u16 p.age]) rfl (fun env cs h => by simpa [DenL, Den] using h)
       refine (show (restC 2 b4).wp Try.prog (Q4p ⟨w, fun _ => False⟩) _ _ from cont_q ?_ ?_ hA2) <;> omega)
    | (have h0 : k = 1 := by omega
       subst h0
       rename_i hA1
       have hA2 := hA1.own 1 (l := [.int .u8 1, .int .u8 p.ff, .int .u8 p.tt, .int .u8 p.sz, .int .u8 p.dp, .int .u16 p.age]) (l' := [.lit .u8 1, .int .u8 p.ff, .int .u8 p.tt, .int .u8 p.sz, .int .u8 p.dp, .int .u16 p.age]) rfl (fun env cs h => by simpa [DenL, Den] using h)
       refine (show (restC 2 b4).wp Try.prog (Q4p ⟨w, fun _ => False⟩) _ _ from cont_s ?_ ?_ hA2) <;> omega)
theorem portPlays_nil {k : Int} {p : In4} (hw : Wf4 k p) {w : World} {u : Value} (hu : Den [] (chanV k p.ff p.tt p.sz p.dp p.age) u) :
    Calls Try.prog 4 ⟨[u, .slice none 0 0]⟩ w (Said ⟨w, fun _ => False⟩) := by
  obtain ⟨h1, h2, h3, h4⟩ := hw
  refine call_begin (c := cfg4) Try.func4 b4_eq (args := [chanV k p.ff p.tt p.sz p.dp p.age, .snil]) (env := []) (st := []) (by intro p hp; cases hp) rep_none ⟨_, _, rfl, hu, _, _, rfl, rfl, rfl⟩ (F := fun _ => False) ?_ ?_
  · rintro x ⟨id, e, b, he, hb, hx⟩
    simp at hb
  intro a hA
  have hb := bit_cases p.dp
  refine pieceNT (c := cfg4) cfg4_ok 2 [1,2,4,5,6] p4_a0 hA ?_
  generalize bitop .and .u8 p.dp (IntKind.u8.wrap (p.dp - 1)) = bt at *
  repeat' (first
    | refine all_brp (by simp only [decide_eq_true_eq, beq_iff_eq]; exact Iff.rfl) (fun _ => ?_) (fun _ => ?_)
    | refine all_needp (by simp only [inR_i64]; exact Iff.rfl) ?_ (fun _ => ?_)
    | refine all_ret (fun _ _ _ _ => ?_))
  all_goals first
    | omega
    | (refine (show (restC 2 b4).wp Try.prog (Q4p ⟨w, fun _ => False⟩) _ _ from cont_n0 (k := k) ?_ h4.1 ‹_›); omega)
    | (have h0 : k = 0 := by omega
       subst h0
       rename_i hA1
       have hA2 := hA1.own 0 (l := [.int .u8 0, .int .u8 p.ff, .int .u8 p.tt, .int .u8 p.sz, .int .u8 p.dp, .int .u16 p.age]) (l' := [.lit .u8 0, .int .u8 p.ff, .int .u8 p.tt, .int .u8 p.sz, .int .u8 p.dp, .int .u16 p.age]) rfl (fun env cs h => by simpa [DenL, Den] using h)
       refine (show (restC 2 b4).wp Try.prog (Q4p ⟨w, fun _ => False⟩) _ _ from cont_q0 ?_ ?_ hA2) <;> omega)
    | (have h0 : k = 1 := by omega
       subst h0
       rename_i hA1
       have hA2 := hA1.own 0 (l := [.int .u8 1, .int .u8 p.ff, .int .u8 p.tt, .int .u8 p.sz, .int .u8 p.dp, .int .u16 p.age]) (l' := [.lit .u8 1, .int .u8 p.ff, .int .u8 p.tt, .int .u8 p.sz, .int .u8 p.dp, .int .u16 p.age]) rfl (fun env cs h => by simpa [DenL, Den] using h)
       refine (show (restC 2 b4).wp Try.prog (Q4p ⟨w, fun _ => False⟩) _ _ from cont_s0 ?_ ?_ hA2) <;> omega)
end Go.Proofs.Ytdadfgeepinpbaa

/- PortPlays: the row. -/
namespace Go.Proofs.Ytdadfgeepinpbaa
open Go Go.Proofs.Ytdadfgeepinpbaa.Sx Go.ChangeShapes Go.WideShapes Go.ChangeAt Go.RowKit
set_option linter.unusedVariables false
theorem wf_u8 {n : Int} (h : (Lit.int .u8 n).wf = true) : 0 ≤ n ∧ n ≤ 255 := by simp [Lit.wf, IntKind.min, IntKind.max, IntKind.signed, IntKind.bits] at h; omega
theorem wf_u16 {n : Int} (h : (Lit.int .u16 n).wf = true) : 0 ≤ n ∧ n ≤ 65535 := by simp [Lit.wf, IntKind.min, IntKind.max, IntKind.signed, IntKind.bits] at h; omega
/-- an argument that is a struct lies in cells -/
theorem okWide_agg {P : Program} {r : Reach} {w : World} {base : Nat} {t : TypeId} {fs : Array Field} {v : Value} (ht : P.underlying t = some (.struct fs)) (h : Value.okWide P w r base t v) : ∃ l : List Value, v = .agg ⟨l⟩ := by
  unfold Value.okWide at h
  simp only [ht] at h
  obtain ⟨⟨l⟩, rfl, _⟩ := h
  exact ⟨l, rfl⟩
/-- the channel that comes in -/
theorem open_chan {H : Type} {enc : TypeId × Value → H} {w : World} {base : Nat} {spare : Nat → Bool} {held : Bool} {v : Value} {d : DataW H} {ps : List MemPlace} (hval : Value.okWide Try.prog w .any base 29 v) (h : DataW.Trod enc Try.prog w 0 spare held 29 v d ps) :
    ∃ (k : Int) (p : In4), Wf4 k p ∧ ∀ env, Den env (chanV k p.ff p.tt p.sz p.dp p.age) v := by
  obtain ⟨l, rfl⟩ := okWide_agg Try.underlying29 hval
  obtain ⟨fuel, hf⟩ := h
  obtain ⟨xs, m, _, _, hlen, hxl, hf⟩ := DataW.trod_struct Try.underlying29 hf
  have hC : Try.prog.cellsOf 29 = 6 := by kernel_rfl
  have k5 : Try.prog.cellsOf 5 = 1 := by kernel_rfl
  have k27 : Try.prog.cellsOf 27 = 1 := by kernel_rfl
  rw [hC] at hlen
  simp only [Value.cells] at hlen hf
  match l, hlen with
  | [c0, c1, c2, c3, c4, c5], _ =>
    match xs, hxl with
    | [y0, y1, y2, y3, y4, y5], _ =>
      have f0 : DataW.trod enc Try.prog w 0 spare held m 5 (([c0, c1, c2, c3, c4, c5].drop 0).take (Try.prog.cellsOf 5)) = some y0 := hf 0 _ rfl
      rw [k5] at f0
      have f1 : DataW.trod enc Try.prog w 0 spare held m 5 (([c0, c1, c2, c3, c4, c5].drop 1).take (Try.prog.cellsOf 5)) = some y1 := hf 1 _ rfl
      rw [k5] at f1
      have f2 : DataW.trod enc Try.prog w 0 spare held m 5 (([c0, c1, c2, c3, c4, c5].drop 2).take (Try.prog.cellsOf 5)) = some y2 := hf 2 _ rfl
      rw [k5] at f2
      have f3 : DataW.trod enc Try.prog w 0 spare held m 5 (([c0, c1, c2, c3, c4, c5].drop 3).take (Try.prog.cellsOf 5)) = some y3 := hf 3 _ rfl
      rw [k5] at f3
      have f4 : DataW.trod enc Try.prog w 0 spare held m 5 (([c0, c1, c2, c3, c4, c5].drop 4).take (Try.prog.cellsOf 5)) = some y4 := hf 4 _ rfl
      rw [k5] at f4
      have f5 : DataW.trod enc Try.prog w 0 spare held m 27 (([c0, c1, c2, c3, c4, c5].drop 5).take (Try.prog.cellsOf 27)) = some y5 := hf 5 _ rfl
      rw [k27] at f5
      obtain ⟨a0, h0, _, w0⟩ := DataW.trod_int Try.underlying5 f0
      obtain ⟨a1, h1, _, w1⟩ := DataW.trod_int Try.underlying5 f1
      obtain ⟨a2, h2, _, w2⟩ := DataW.trod_int Try.underlying5 f2
      obtain ⟨a3, h3, _, w3⟩ := DataW.trod_int Try.underlying5 f3
      obtain ⟨a4, h4, _, w4⟩ := DataW.trod_int Try.underlying5 f4
      obtain ⟨a5, h5, _, w5⟩ := DataW.trod_int Try.underlying27 f5
      simp at h0 h1 h2 h3 h4 h5
      subst h0 h1 h2 h3 h4 h5
      exact ⟨a0, ⟨[], 0, a1, a2, a3, a4, a5⟩, ⟨wf_u8 w0, wf_u8 w3, wf_u8 w4, wf_u16 w5⟩, fun env => by simp [Den, DenL]⟩
set_option maxRecDepth 100000 in
theorem portPlays_lifted (os : Os) (started : os.Started) (H : Type) (enc : TypeId × Value → H) :
    ReturnsInHanded {} Try.checked os 4 .any (Rows.portPlaysSpec.pre6 enc Try.prog Try.f4 Rows.portPlaysRow.domain false) (Rows.portPlaysSpec.post enc Try.prog Try.f4 false true false false) := by
  refine returnsInHanded_of_change (C := Try.checked) Try.own started (by kernel_rfl) Try.func4
    (ChangeSpec.witness6 (enc := enc) (C := Try.checked) false ⟨#[], #[.agg #[.int .u8 0, .int .u8 0, .int .u8 0, .int .u8 0, .int .u8 0, .int .u16 0], .slice none 0 0], []⟩ 8 (by kernel_rfl) (by kernel_rfl) (by kernel_rfl) (by kernel_rfl)) ?_
  intro W base args ds gs before hval0 hW hcnd _
  have hval : ∀ (j : Nat) t v, Try.f4.params[j]? = some t → args[j]? = some v → Value.okWide Try.prog W .any base t v := hval0
  have hW' := hW
  obtain ⟨p, q, hA0, hV, rfl, hfz, hnd⟩ := hW
  have hA : DataW.TrodAll enc Try.prog W 0 (fun _ => true) true Try.f4.params.toList args.toList ds p := hA0
  rw [Try.params4] at hA hval
  obtain ⟨v0, v1, d0, d1, p0, p1, rfl, rfl, rfl, h0, h1⟩ := trodAll_two hA
  obtain ⟨rfl, rfl⟩ := trodVars_none hV
  clear hA0 hval0
  try simp only [List.append_nil, List.nil_append] at hW'
  have hlt0 : ∀ x ∈ p0, x.block < W.heap.size := fun x hx => by simpa using hW'.lt x (by simp [hx])
  have hlt1 : ∀ x ∈ p1, x.block < W.heap.size := fun x hx => by simpa using hW'.lt x (by simp [hx])
  have fin : ∀ e W', Said ⟨W, fun _ => False⟩ e W' → ∃ v, e = .returned v ∧ Rows.portPlaysSpec.post enc Try.prog Try.f4 false true false false W #[v0, v1] v W' := by
    rintro e W' ⟨rfl, hsz, hk, hc⟩
    have hk' : ∀ x, x < W.heap.size → W'.heap[x]? = W.heap[x]? := fun x hx => hk x hx (fun h => h)
    refine ⟨_, rfl, _, _, _, [], _, [], hW', ⟨[], [], shut_bool Try.underlying4 true, rfl, rfl⟩, trodAll_mk2 (trod_same Try.laidOut (by kernel_rfl) (of_decide_eq_true (by kernel_rfl)) h0 hk' hlt0) (trod_same Try.laidOut (by kernel_rfl) (of_decide_eq_true (by kernel_rfl)) h1 hk' hlt1), rfl, keptBut_of _ hc hk', fun h => by cases h⟩
  obtain ⟨k, p, hw, hu⟩ := open_chan (hval 0 29 v0 rfl rfl) h0
  rcases open_rows encCl Try.underlying22 (by kernel_rfl) open_cl rfl (hval 1 22 v1 rfl rfl) h1 with rfl | ⟨xs, cap, sl, hr, hd⟩
  · exact (portPlays_nil hw (hu _)).mono fun e W' h => fin e W' h
  · exact (portPlays_some (p := { p with calls := xs, cap := cap }) hw hr (hu _) hd).mono fun e W' h => fin e W' h
theorem portPlays_holds : Rows.PortPlaysSaid :=
  OpenClaim.holds_of_wide 4 Try.f4 rfl rfl rfl rfl rfl rfl rfl ⟨rfl, rfl, rfl, rfl, rfl⟩ rfl rfl rfl rfl rfl (by kernel_rfl) Try.func4 (by kernel_rfl)
    (of_decide_eq_true (by kernel_rfl)) (by unfold Func.isWrapper; first | (rw [if_pos (by decide +kernel)]; kernel_rfl) | (rw [if_neg (by decide +kernel)]; exact ⟨rfl, rfl⟩))
    (fun os started H enc _ => portPlays_lifted os started H enc)
end Go.Proofs.Ytdadfgeepinpbaa

