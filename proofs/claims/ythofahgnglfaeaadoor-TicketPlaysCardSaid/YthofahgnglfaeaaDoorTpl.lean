/- TicketPlays holds for every input: takers and the document's takers go together, step by step. -/
import Derived.Test.YthofahgnglfaeaaDoorTks
import Derived.Test.YthofahgnglfaeaaDoorSxC
/- TicketPlays, plain: a taker and the document's go together. -/
namespace Go.Proofs.YthofahgnglfaeaaDoor
open Go Go.Proofs.YthofahgnglfaeaaDoor.Sx
set_option linter.unusedVariables false
/-- the document's taker -/
structure Rf where
  at' : Int
  cell : Int
  left : Int
  next : Nat
  ticket : Int
  v : Int
  done : Bool
/-- the word that its next step uses -/
def atR (r : Rf) : Int := match r.next with
  | 2 => r.at' + 1
  | 5 => r.at' + 1
  | 3 => r.cell
  | 4 => r.cell
  | _ => r.at'
/-- is there a step -/
def okR (r : Rf) (l : List Int) : Bool := !(r.left == 0) && inP (atR r) l.length
/-- the taker behind a step that is one -/
def rfP (r : Rf) (l : List Int) : Rf := match r.next with
  | 1 => {r with ticket := l.getD (atR r).toNat 0, next := 2}
  | 2 => {r with next := match l.getD (atR r).toNat 0 == r.ticket with | true => 3 | false => 2}
  | 3 => {r with v := l.getD (atR r).toNat 0, next := 4}
  | 4 => {r with next := 5}
  | _ => {r with left := r.left - 1, next := 1, done := r.left - 1 == 0}
/-- the words behind it -/
def rwP (r : Rf) (l : List Int) : List Int := match r.next with
  | 1 => l.set (atR r).toNat (w32P (l.getD (atR r).toNat 0 + 1))
  | 4 => l.set (atR r).toNat (w32P (r.v + 1))
  | 5 => l.set (atR r).toNat (w32P (r.ticket + 1))
  | _ => l
def rStep (r : Rf) (l : List Int) : Rf × List Int := match okR r l with
  | true => (rfP r l, rwP r l)
  | false => ({r with done := true, next := 1}, l)
structure Rel (t : Tk) (r : Rf) : Prop where
  at' : t.at' = r.at'
  cell : t.cell = r.cell
  left : t.times = r.left
  ticket : t.ticket = r.ticket
  v : t.v = r.v
  next : r.next = t.phase + 1
  none : t.times = 0 → t.phase = 0
  ok : TkOk t
  tk : 0 ≤ t.ticket ∧ t.ticket < 4294967296
  done : r.done = false
abbrev U32s (l : List Int) : Prop := ∀ x ∈ l, 0 ≤ x ∧ x < 4294967296
theorem u32s_getD {l : List Int} (h : U32s l) (i : Nat) : 0 ≤ l.getD i 0 ∧ l.getD i 0 < 4294967296 := by
  rw [List.getD_eq_getElem?_getD]
  cases hi : l[i]? with
  | none => simp
  | some x => simpa using h x (List.mem_of_getElem? hi)
theorem u32s_set {l : List Int} (h : U32s l) (i : Nat) {x : Int} (hx : 0 ≤ x ∧ x < 4294967296) : U32s (l.set i x) := by
  intro y hy
  rcases List.mem_or_eq_of_mem_set hy with h1 | rfl
  · exact h y h1
  · exact hx
/-- what a step of both comes to -/
structure Both (t : Tk) (r : Rf) (l : List Int) : Prop where
  done : doneP t l = (rStep r l).1.done
  words : wordsP t l = (rStep r l).2
  holds : decide (2 ≤ (tkP t l).phase) = decide (2 < (rStep r l).1.next)
  waits : decide ((tkP t l).phase = 1) = decide ((rStep r l).1.next = 2)
  ticket : (tkP t l).ticket = (rStep r l).1.ticket
  left : (tkP t l).times = (rStep r l).1.left
  u32 : U32s (wordsP t l)
  rel : (rStep r l).1.done = false → Rel (tkP t l) (rStep r l).1
theorem both_step {t : Tk} {r : Rf} {l : List Int} (h : Rel t r) (hl : U32s l) : Both t r l := by
  obtain ⟨at', cell, times, phase, ticket, v⟩ := t
  obtain ⟨at2, cell2, left, next, ticket2, v2, done⟩ := r
  obtain ⟨h1, h2, h3, h4, h5, h6, h7, ⟨h8, h9, h10⟩, h11, h12⟩ := h
  simp only at h1 h2 h3 h4 h5 h6 h7 h8 h9 h10 h11 h12
  subst h1 h2 h3 h4 h5 h6 h12
  have hw : ∀ x, w32P x = x % 4294967296 := w32_mod
  by_cases h0 : times = 0
  · have := h7 h0
    subst h0 this
    constructor <;> simp [doneP, wordsP, tkP, stepP, rStep, okR]
    exact hl
  · have h1 : ¬ times < 1 := by omega
    have h2 : (times == 0) = false := by simpa using h0
    match phase, h10 with
    | 0, _ =>
      cases hb : inP at' l.length with
      | true =>
        have hg := u32s_getD hl at'.toNat
        constructor <;> simp [doneP, wordsP, tkP, stepP, rStep, okR, atR, rfP, rwP, h1, h0, h2, hb, hw, incP_ok]
        · exact u32s_set hl _ (by omega)
        · constructor <;> (try simp [h0])
          · exact ⟨h8, h9, by simp⟩
          · exact hg
      | false =>
        constructor <;> simp [doneP, wordsP, tkP, stepP, rStep, okR, atR, rfP, rwP, h1, h0, h2, hb, hw, incP_ok]
        exact hl
    | 1, _ =>
      cases hb : inP (at' + 1) l.length with
      | true =>
        cases hq : l.getD (at' + 1).toNat 0 == ticket with
        | true =>
          have hq' := hq
          rw [List.getD_eq_getElem?_getD] at hq'
          constructor <;> simp [doneP, wordsP, tkP, stepP, rStep, okR, atR, rfP, rwP, h1, h0, h2, hb, hw, hq']
          · exact hl
          · constructor <;> (try simp [h0])
            · exact ⟨h8, h9, by simp⟩
            · exact h11
        | false =>
          have hq' := hq
          rw [List.getD_eq_getElem?_getD] at hq'
          constructor <;> simp [doneP, wordsP, tkP, stepP, rStep, okR, atR, rfP, rwP, h1, h0, h2, hb, hw, hq']
          · exact hl
          · constructor <;> (try simp [h0])
            · exact ⟨h8, h9, by simp⟩
            · exact h11
      | false =>
        constructor <;> simp [doneP, wordsP, tkP, stepP, rStep, okR, atR, rfP, rwP, h1, h0, h2, hb, hw]
        exact hl
    | 2, _ =>
      cases hb : inP cell l.length with
      | true =>
        constructor <;> simp [doneP, wordsP, tkP, stepP, rStep, okR, atR, rfP, rwP, h1, h0, h2, hb, hw]
        · exact hl
        · constructor <;> (try simp [h0])
          · exact ⟨h8, h9, by simp⟩
          · exact h11
      | false =>
        constructor <;> simp [doneP, wordsP, tkP, stepP, rStep, okR, atR, rfP, rwP, h1, h0, h2, hb, hw]
        exact hl
    | 3, _ =>
      cases hb : inP cell l.length with
      | true =>
        constructor <;> simp [doneP, wordsP, tkP, stepP, rStep, okR, atR, rfP, rwP, h1, h0, h2, hb, hw, setP_ok]
        · exact u32s_set hl _ (by omega)
        · constructor <;> (try simp [h0])
          · exact ⟨h8, h9, by simp⟩
          · exact h11
      | false =>
        constructor <;> simp [doneP, wordsP, tkP, stepP, rStep, okR, atR, rfP, rwP, h1, h0, h2, hb, hw]
        exact hl
    | 4, _ =>
      cases hb : inP (at' + 1) l.length with
      | true =>
        constructor <;> simp [doneP, wordsP, tkP, stepP, rStep, okR, atR, rfP, rwP, h1, h0, h2, hb, hw, setP_ok]
        · exact u32s_set hl _ (by omega)
        · intro hn
          constructor <;> (try simp)
          · exact ⟨h8, by simp only; omega, by simp⟩
          · exact h11
          · exact hn
      | false =>
        constructor <;> simp [doneP, wordsP, tkP, stepP, rStep, okR, atR, rfP, rwP, h1, h0, h2, hb, hw]
        exact hl
end Go.Proofs.YthofahgnglfaeaaDoor

/- TicketPlays: pieces and states. -/
namespace Go.Proofs.YthofahgnglfaeaaDoor
open Go Go.Proofs.YthofahgnglfaeaaDoor.Sx
set_option linter.unusedVariables false
/-- a taker out of raw numbers -/
structure K3 where
  at' : Int
  cell : Int
  times : Int
def encK : Enc K3 := encOf 2 (fun k => [.int .i64 k.at', .int .i64 k.cell, .int .i64 k.times]) ⟨0, 0, 0⟩ (fun _ => rfl) (by intro env env' x vs h; simpa [DenL, Den] using h)
def getI (k : IntKind) (s : SVal) : Option Int := match asI s with
  | some (k', x, _) => match decEq k' k with
    | .isTrue _ => some x
    | .isFalse _ => none
  | none => none
theorem getI_den {env : Env} {k : IntKind} {s : SVal} {x : Int} {v : Value} (h : getI k s = some x) (hd : Den env s v) : Den env (.int k x) v := by
  unfold getI at h
  split at h
  · rename_i k' y b h1
    split at h
    · rename_i h2 _
      subst h2
      simp only [Option.some.injEq] at h; subst h
      rw [asI_den h1 hd]; simp [Den]
    · cases h
  · cases h
theorem asB_sb {env : Env} {s : SVal} {x b : Bool} {v : Value} (h : asB s = some (x, b)) (hd : Den env s v) : Den env (.sb x) v := by
  rw [asB_den h hd]; simp [Den]
def encRf : Enc Rf where
  tag := .other
  shut := true
  sz := 7
  enc r := [.int .i64 r.at', .int .i64 r.cell, .int .i64 r.left, .int .i64 r.next, .int .u32 r.ticket, .int .u32 r.v, .sb r.done]
  dec l := match l with
    | [a, b, c, n, t, v, d] => match getI .i64 a, getI .i64 b, getI .i64 c, getI .i64 n, getI .u32 t, getI .u32 v, asB d with
      | some a, some b, some c, some (.ofNat n), some t, some v, some (d, _) => some ⟨a, b, c, n, t, v, d⟩
      | _, _, _, _, _, _, _ => none
    | _ => none
  dflt := ⟨0, 0, 0, 0, 0, 0, false⟩
  pos := by omega
  len := fun _ => rfl
  ok := by
    intro env l x vs h hd
    split at h
    · split at h
      · rename_i h1 h2 h3 h4 h5 h6 h7
        simp only [Option.some.injEq] at h; subst h
        obtain ⟨u1, k1, rfl, d1, u2, k2, rfl, d2, u3, k3, rfl, d3, u4, k4, rfl, d4, u5, k5, rfl, d5, u6, k6, rfl, d6, u7, k7, rfl, d7, rfl⟩ := hd
        exact ⟨_, _, rfl, getI_den h1 d1, _, _, rfl, getI_den h2 d2, _, _, rfl, getI_den h3 d3, _, _, rfl, getI_den h4 d4, _, _, rfl, getI_den h5 d5, _, _, rfl, getI_den h6 d6, _, _, rfl, asB_sb h7 d7, rfl⟩
      · cases h
    · cases h
  shutOk := fun _ => by intro env env' x vs h; simpa [DenL, Den] using h
/-- what comes in -/
structure InP where
  kinds : List K3
  cap : Nat
  picks : List Int
  cap' : Nat
abbrev kindsV (p : InP) (i : Nat) : SVal := .sli i (.c 0) 3 (.v p.kinds.length) (some (.v p.cap))
abbrev pickV (p : InP) (i : Nat) : SVal := .sli i (.c 0) 1 (.v p.picks.length) (some (.v p.cap'))
abbrev s0P (p : InP) : St := [lookB, .ro encK p.kinds, .ro (encInt .i64) p.picks]
noncomputable def b3 : Code := Tryd.f3.body.getD .skip
noncomputable def c3 : Code := restC 6 b3
noncomputable def reg3 : Code := lft (lft c3)
noncomputable def blk3 : Code := rgt (lft c3)
noncomputable def round3 : Code := lft (lft blk3)
noncomputable def tm3 : Code := lft round3
noncomputable def bb3 : Code := lft (lft (rgt round3))
noncomputable def inc3 : Code := rgt (rgt round3)
noncomputable def d3 : Code := rgt c3
noncomputable def reg3b : Code := lft (lft d3)
noncomputable def blk3b : Code := rgt (lft d3)
noncomputable def round3b : Code := lft (lft blk3b)
noncomputable def tm3b : Code := lft round3b
noncomputable def bb3b : Code := lft (lft (rgt round3b))
noncomputable def inc3b : Code := rgt (rgt round3b)
noncomputable def end3 : Code := rgt d3
/-- ahead of the loops -/
noncomputable def cfgA : Cfg := { P := Tryd.prog, ex := exI, gl := [(0, 0)], sm := fun g => match g with
  | 10 => some (smClosed [0] [lookB] (.bl true))
  | _ => none }
theorem cfgA_ok : SmOk cfgA := by
  intro g h e
  simp only [cfgA] at e
  split at e
  · simp only [Option.some.injEq] at e; subst e
    exact smClosedE_ok cfgT_ok awake_val (awake_props new0) (by kernel_rfl) rfl rfl (by intro b hb e; rw [List.mem_singleton.1 hb]; rfl)
  · cases e
/-- the law's state in its first loop -/
abbrev memF (f0 f1 : Int) : List Int := [f0, f1, 0, 0]
abbrev s3 (p : InP) (l : List Int) (c : Int) (xs : List Tk) (m : Nat) (rs : List Rf) (lw : List Int) : St :=
  famS 4 l c xs ++ [.ro encK p.kinds, .ro (encInt .i64) p.picks, .vec (encInt .u32) lw 23, .vec (encP 3) (List.range m) 37, .vec encRf rs 40]
abbrev n3a : List Nat := [0, 2, 7, 9, 10, 11]
abbrev n3p : List Nat := [0, 2, 7, 9, 10, 11, 6]
abbrev n3b : List Nat := [0, 2, 7, 9, 10, 11, 12]
abbrev n3c : List Nat := [0, 2, 7, 9, 10, 11, 12, 13, 14]
abbrev v3 (p : InP) (m : Nat) : List SVal := [kindsV p 4, pickV p 5, .ptr 1 0, .sli 6 (.c 0) 1 (.v 4) none, .sli 7 (.c 0) 1 (.v m) none, .sli 8 (.c 0) 7 (.v m) none]
/-- in its second -/
abbrev s3b (p : InP) (l : List Int) (c : Int) (xs : List Tk) (m : Nat) (rs : List Rf) (lw : List Int) : St :=
  famS 4 l c xs ++ [.ro (encInt .i64) p.picks, .vec (encInt .u32) lw 23, .vec (encP 3) (List.range m) 37, .vec encRf rs 40]
abbrev n3d : List Nat := [2, 7, 9, 10, 11]
abbrev n3e : List Nat := [2, 7, 9, 10, 11, 15]
abbrev n3f : List Nat := [2, 7, 9, 10, 11, 15, 16]
abbrev n3g : List Nat := [2, 7, 9, 10, 11, 15, 16, 17]
abbrev v3b (p : InP) (m n : Nat) : List SVal := [pickV p 4, .ptr 1 0, .sli 5 (.c 0) 1 (.v n) none, .sli 6 (.c 0) 1 (.v m) none, .sli 7 (.c 0) 7 (.v m) none]
abbrev kB (k : K3) : Blk := .own [.c (.int .i64 k.at'), .c (.int .i64 k.cell), .c (.int .i64 k.times)] 36
abbrev rfA (r : Rf) (n : SVal) : SVal := .agg [.int .i64 r.at', .int .i64 r.cell, .int .i64 r.left, n, .int .u32 r.ticket, .int .u32 r.v, .sb r.done]
noncomputable def b14 : Code := Tryd.f14.body.getD .skip
end Go.Proofs.YthofahgnglfaeaaDoor

namespace Go.Proofs.YthofahgnglfaeaaDoor
open Go Go.Proofs.YthofahgnglfaeaaDoor.Sx
set_option linter.unusedVariables false
set_option maxRecDepth 100000 in
theorem x_pre {p : InP} {f0 f1 : Int} : (execN cfgA 100 6 b3 ([kindsV p 1, .agg [.int .u32 f0, .int .u32 f1], pickV p 2] ++ List.replicate 207 .bad) (s0P p)).bind (canonK 0 [(0,0)] 210 n3p) =
 

 (.eq (some [Blk.ro encLook [PUnit.unit]] = some [Blk.ro encLook [PUnit.unit]])

 (.br (decide ((6 : Int) < (↑p.1.length : Int)))

 (.eq (some [Blk.ro encLook [PUnit.unit]] = some [Blk.ro encLook [PUnit.unit]])

 (.ret (.ret, [.sli 1 (.c 0) 3 (.v p.1.length) (some (.v p.2)), .sli 2 (.c 0) 1 (.v p.3.length) (some (.v p.4)), .ptr 3 0, .bad, .bad, .bad, .bl true], [.ro encLook [PUnit.unit], .ro encK p.1, .ro (encInt IntKind.i64) p.3, .own [.c (.sli 4 (.c 0) 1 (.c 4) (some (.c 4))), .c (.lit .i64 (0 : Int))] 62, .own [.c (.lit .u32 (0 : Int)), .c (.lit .u32 (0 : Int)), .c (.lit .u32 (0 : Int)), .c (.lit .u32 (0 : Int))] 23])))

 (.need (true)

 (.need (true)

 (.need (true)
 (.eq (T.ret (SVal.int IntKind.u32 f0) = T.ret (SVal.int IntKind.u32 f0))
 (.eq (T.ret (SVal.int IntKind.u32 (bitop BinOp.or IntKind.u32 (0 : Int) f0)) = T.ret (SVal.int IntKind.u32 (bitop BinOp.or IntKind.u32 (0 : Int) f0)))

 (.need (true)

 (.need (true)

 (.need (true)
 (.eq (T.ret (SVal.int IntKind.u32 f1) = T.ret (SVal.int IntKind.u32 f1))
 (.eq (T.ret (SVal.int IntKind.u32 (bitop BinOp.or IntKind.u32 (0 : Int) f1)) = T.ret (SVal.int IntKind.u32 (bitop BinOp.or IntKind.u32 (0 : Int) f1)))

 (.ret (.normal, [.sli 1 (.c 0) 3 (.v p.1.length) (some (.v p.2)), .sli 2 (.c 0) 1 (.v p.3.length) (some (.v p.4)), .ptr 3 0, .sli 5 (.c 0) 1 (.c 4) (some (.c 4)), .sli 6 (.c 0) 1 (.c 0) (some (.c 0)), .sli 7 (.c 0) 7 (.c 0) (some (.c 0)), .bl false], [.ro encLook [PUnit.unit], .ro encK p.1, .ro (encInt IntKind.i64) p.3, .own [.c (.sli 4 (.c 0) 1 (.c 4) (some (.c 4))), .c (.lit .i64 (2 : Int))] 62, .own [.c (.int .u32 (IntKind.u32.wrap (bitop BinOp.or IntKind.u32 (0 : Int) f0 + (0 : Int)))), .c (.int .u32 (IntKind.u32.wrap (bitop BinOp.or IntKind.u32 (0 : Int) f1 + (0 : Int)))), .c (.lit .u32 (0 : Int)), .c (.lit .u32 (0 : Int))] 23, .own [.c (.int .u32 f0), .c (.int .u32 f1), .c (.lit .u32 (0 : Int)), .c (.lit .u32 (0 : Int))] 23, .own [] 37, .own [] 40])))))))))))))) := by kernel_rfl
set_option maxRecDepth 100000 in
theorem x_reg {p : InP} {l : List Int} {c : Int} {xs : List Tk} {m : Nat} {rs : List Rf} {lw : List Int} : (exec cfgM 100 reg3 (fr 210 n3a (v3 p m)) (s3 p l c xs m rs lw)).bind (canonK 6 [(0,0)] 210 n3b) =
 

 (.ret (.normal, [.sli 4 (.c 0) 3 (.v p.1.length) (some (.v p.2)), .sli 5 (.c 0) 1 (.v p.3.length) (some (.v p.4)), .ptr 1 0, .sli 6 (.c 0) 1 (.v 4) none, .sli 7 (.c 0) 1 (.v m) none, .sli 8 (.c 0) 7 (.v m) none, .lit .i64 (0 : Int)], [.ro encLook [PUnit.unit], .own [.c (.sli 2 (.c 0) 1 (.v 4) (some (.v 4))), .c (.int .i64 c)] 62, .own [.a (encInt IntKind.u32) 4 l] 23, .many encTk xs 70, .ro encK p.1, .ro (encInt IntKind.i64) p.3, .vec (encInt IntKind.u32) lw 23, .vec (encP 3) (List.range m) 37, .vec encRf rs 40])) := by kernel_rfl
set_option maxRecDepth 100000 in
theorem x_tm {p : InP} {l : List Int} {c : Int} {xs : List Tk} {m : Nat} {rs : List Rf} {lw : List Int} {i : Nat} : (exec cfgM 100 tm3 (fr 210 n3b (v3 p m ++ [.int .i64 (i : Nat)])) (s3 p l c xs m rs lw)).bind (canonK 6 [(0,0)] 210 n3b) =
 

 (.br (decide ((↑i : Int) < (↑p.1.length : Int)))

 (.ret (.normal, [.sli 4 (.c 0) 3 (.v p.1.length) (some (.v p.2)), .sli 5 (.c 0) 1 (.v p.3.length) (some (.v p.4)), .ptr 1 0, .sli 6 (.c 0) 1 (.v 4) none, .sli 7 (.c 0) 1 (.v m) none, .sli 8 (.c 0) 7 (.v m) none, .int .i64 (↑i : Int)], [.ro encLook [PUnit.unit], .own [.c (.sli 2 (.c 0) 1 (.v 4) (some (.v 4))), .c (.int .i64 c)] 62, .own [.a (encInt IntKind.u32) 4 l] 23, .many encTk xs 70, .ro encK p.1, .ro (encInt IntKind.i64) p.3, .vec (encInt IntKind.u32) lw 23, .vec (encP 3) (List.range m) 37, .vec encRf rs 40]))

 (.ret (.exit 0, [.sli 4 (.c 0) 3 (.v p.1.length) (some (.v p.2)), .sli 5 (.c 0) 1 (.v p.3.length) (some (.v p.4)), .ptr 1 0, .sli 6 (.c 0) 1 (.v 4) none, .sli 7 (.c 0) 1 (.v m) none, .sli 8 (.c 0) 7 (.v m) none, .int .i64 (↑i : Int)], [.ro encLook [PUnit.unit], .own [.c (.sli 2 (.c 0) 1 (.v 4) (some (.v 4))), .c (.int .i64 c)] 62, .own [.a (encInt IntKind.u32) 4 l] 23, .many encTk xs 70, .ro encK p.1, .ro (encInt IntKind.i64) p.3, .vec (encInt IntKind.u32) lw 23, .vec (encP 3) (List.range m) 37, .vec encRf rs 40]))) := by kernel_rfl
set_option maxRecDepth 100000 in
theorem x_mk {p : InP} {l : List Int} {c : Int} {xs : List Tk} {m : Nat} {rs : List Rf} {lw : List Int} {i : Nat} : (execN cfgM 100 4 bb3 (fr 210 n3b (v3 p m ++ [.int .i64 (i : Nat)])) (s3 p l c xs m rs lw)).bind (canonK 6 [(0,0)] 210 n3c) =
 

 (.need (decide ((0 : Int) ≤ (↑i : Int)) && decide ((↑i : Int).toNat < p.1.length))

 (.need (decide ((↑i : Int).toNat < p.1.length))

 (.need (decide ((↑i : Int).toNat < p.1.length))

 (.need (decide ((↑i : Int).toNat < p.1.length))

 (.br (decide ((20 : Int) < (p.1.getD (↑i : Int).toNat { at' := (0 : Int), cell := (0 : Int), times := (0 : Int) }).times))

 (.br (decide ((1000 : Int) < (p.1.getD (↑i : Int).toNat { at' := (0 : Int), cell := (0 : Int), times := (0 : Int) }).at'))

 (.ret (.normal, [.sli 4 (.c 0) 3 (.v p.1.length) (some (.v p.2)), .sli 5 (.c 0) 1 (.v p.3.length) (some (.v p.4)), .ptr 1 0, .sli 6 (.c 0) 1 (.v 4) none, .sli 7 (.c 0) 1 (.v m) none, .sli 8 (.c 0) 7 (.v m) none, .int .i64 (↑i : Int), .ptr 9 0, .ptr 10 0], [.ro encLook [PUnit.unit], .own [.c (.sli 2 (.c 0) 1 (.v 4) (some (.v 4))), .c (.int .i64 c)] 62, .own [.a (encInt IntKind.u32) 4 l] 23, .many encTk xs 70, .ro encK p.1, .ro (encInt IntKind.i64) p.3, .vec (encInt IntKind.u32) lw 23, .vec (encP 3) (List.range m) 37, .vec encRf rs 40, .own [.c (.lit .i64 (0 : Int)), .c (.int .i64 (p.1.getD (↑i : Int).toNat { at' := (0 : Int), cell := (0 : Int), times := (0 : Int) }).cell), .c (.lit .i64 (20 : Int))] 36, .own [.c (.lit .i64 (0 : Int)), .c (.int .i64 (p.1.getD (↑i : Int).toNat { at' := (0 : Int), cell := (0 : Int), times := (0 : Int) }).cell), .c (.lit .i64 (20 : Int)), .c (.lit .i64 (0 : Int)), .c (.lit .u32 (0 : Int)), .c (.lit .u32 (0 : Int))] 70]))

 (.br (decide ((p.1.getD (↑i : Int).toNat { at' := (0 : Int), cell := (0 : Int), times := (0 : Int) }).at' < (-1000 : Int)))

 (.ret (.normal, [.sli 4 (.c 0) 3 (.v p.1.length) (some (.v p.2)), .sli 5 (.c 0) 1 (.v p.3.length) (some (.v p.4)), .ptr 1 0, .sli 6 (.c 0) 1 (.v 4) none, .sli 7 (.c 0) 1 (.v m) none, .sli 8 (.c 0) 7 (.v m) none, .int .i64 (↑i : Int), .ptr 9 0, .ptr 10 0], [.ro encLook [PUnit.unit], .own [.c (.sli 2 (.c 0) 1 (.v 4) (some (.v 4))), .c (.int .i64 c)] 62, .own [.a (encInt IntKind.u32) 4 l] 23, .many encTk xs 70, .ro encK p.1, .ro (encInt IntKind.i64) p.3, .vec (encInt IntKind.u32) lw 23, .vec (encP 3) (List.range m) 37, .vec encRf rs 40, .own [.c (.lit .i64 (0 : Int)), .c (.int .i64 (p.1.getD (↑i : Int).toNat { at' := (0 : Int), cell := (0 : Int), times := (0 : Int) }).cell), .c (.lit .i64 (20 : Int))] 36, .own [.c (.lit .i64 (0 : Int)), .c (.int .i64 (p.1.getD (↑i : Int).toNat { at' := (0 : Int), cell := (0 : Int), times := (0 : Int) }).cell), .c (.lit .i64 (20 : Int)), .c (.lit .i64 (0 : Int)), .c (.lit .u32 (0 : Int)), .c (.lit .u32 (0 : Int))] 70]))

 (.ret (.normal, [.sli 4 (.c 0) 3 (.v p.1.length) (some (.v p.2)), .sli 5 (.c 0) 1 (.v p.3.length) (some (.v p.4)), .ptr 1 0, .sli 6 (.c 0) 1 (.v 4) none, .sli 7 (.c 0) 1 (.v m) none, .sli 8 (.c 0) 7 (.v m) none, .int .i64 (↑i : Int), .ptr 9 0, .ptr 10 0], [.ro encLook [PUnit.unit], .own [.c (.sli 2 (.c 0) 1 (.v 4) (some (.v 4))), .c (.int .i64 c)] 62, .own [.a (encInt IntKind.u32) 4 l] 23, .many encTk xs 70, .ro encK p.1, .ro (encInt IntKind.i64) p.3, .vec (encInt IntKind.u32) lw 23, .vec (encP 3) (List.range m) 37, .vec encRf rs 40, .own [.c (.int .i64 (p.1.getD (↑i : Int).toNat { at' := (0 : Int), cell := (0 : Int), times := (0 : Int) }).at'), .c (.int .i64 (p.1.getD (↑i : Int).toNat { at' := (0 : Int), cell := (0 : Int), times := (0 : Int) }).cell), .c (.lit .i64 (20 : Int))] 36, .own [.c (.int .i64 (p.1.getD (↑i : Int).toNat { at' := (0 : Int), cell := (0 : Int), times := (0 : Int) }).at'), .c (.int .i64 (p.1.getD (↑i : Int).toNat { at' := (0 : Int), cell := (0 : Int), times := (0 : Int) }).cell), .c (.lit .i64 (20 : Int)), .c (.lit .i64 (0 : Int)), .c (.lit .u32 (0 : Int)), .c (.lit .u32 (0 : Int))] 70]))))

 (.br (decide ((1000 : Int) < (p.1.getD (↑i : Int).toNat { at' := (0 : Int), cell := (0 : Int), times := (0 : Int) }).at'))

 (.ret (.normal, [.sli 4 (.c 0) 3 (.v p.1.length) (some (.v p.2)), .sli 5 (.c 0) 1 (.v p.3.length) (some (.v p.4)), .ptr 1 0, .sli 6 (.c 0) 1 (.v 4) none, .sli 7 (.c 0) 1 (.v m) none, .sli 8 (.c 0) 7 (.v m) none, .int .i64 (↑i : Int), .ptr 9 0, .ptr 10 0], [.ro encLook [PUnit.unit], .own [.c (.sli 2 (.c 0) 1 (.v 4) (some (.v 4))), .c (.int .i64 c)] 62, .own [.a (encInt IntKind.u32) 4 l] 23, .many encTk xs 70, .ro encK p.1, .ro (encInt IntKind.i64) p.3, .vec (encInt IntKind.u32) lw 23, .vec (encP 3) (List.range m) 37, .vec encRf rs 40, .own [.c (.lit .i64 (0 : Int)), .c (.int .i64 (p.1.getD (↑i : Int).toNat { at' := (0 : Int), cell := (0 : Int), times := (0 : Int) }).cell), .c (.int .i64 (p.1.getD (↑i : Int).toNat { at' := (0 : Int), cell := (0 : Int), times := (0 : Int) }).times)] 36, .own [.c (.lit .i64 (0 : Int)), .c (.int .i64 (p.1.getD (↑i : Int).toNat { at' := (0 : Int), cell := (0 : Int), times := (0 : Int) }).cell), .c (.int .i64 (imax (p.1.getD (↑i : Int).toNat { at' := (0 : Int), cell := (0 : Int), times := (0 : Int) }).times (0 : Int))), .c (.lit .i64 (0 : Int)), .c (.lit .u32 (0 : Int)), .c (.lit .u32 (0 : Int))] 70]))

 (.br (decide ((p.1.getD (↑i : Int).toNat { at' := (0 : Int), cell := (0 : Int), times := (0 : Int) }).at' < (-1000 : Int)))

 (.ret (.normal, [.sli 4 (.c 0) 3 (.v p.1.length) (some (.v p.2)), .sli 5 (.c 0) 1 (.v p.3.length) (some (.v p.4)), .ptr 1 0, .sli 6 (.c 0) 1 (.v 4) none, .sli 7 (.c 0) 1 (.v m) none, .sli 8 (.c 0) 7 (.v m) none, .int .i64 (↑i : Int), .ptr 9 0, .ptr 10 0], [.ro encLook [PUnit.unit], .own [.c (.sli 2 (.c 0) 1 (.v 4) (some (.v 4))), .c (.int .i64 c)] 62, .own [.a (encInt IntKind.u32) 4 l] 23, .many encTk xs 70, .ro encK p.1, .ro (encInt IntKind.i64) p.3, .vec (encInt IntKind.u32) lw 23, .vec (encP 3) (List.range m) 37, .vec encRf rs 40, .own [.c (.lit .i64 (0 : Int)), .c (.int .i64 (p.1.getD (↑i : Int).toNat { at' := (0 : Int), cell := (0 : Int), times := (0 : Int) }).cell), .c (.int .i64 (p.1.getD (↑i : Int).toNat { at' := (0 : Int), cell := (0 : Int), times := (0 : Int) }).times)] 36, .own [.c (.lit .i64 (0 : Int)), .c (.int .i64 (p.1.getD (↑i : Int).toNat { at' := (0 : Int), cell := (0 : Int), times := (0 : Int) }).cell), .c (.int .i64 (imax (p.1.getD (↑i : Int).toNat { at' := (0 : Int), cell := (0 : Int), times := (0 : Int) }).times (0 : Int))), .c (.lit .i64 (0 : Int)), .c (.lit .u32 (0 : Int)), .c (.lit .u32 (0 : Int))] 70]))

 (.ret (.normal, [.sli 4 (.c 0) 3 (.v p.1.length) (some (.v p.2)), .sli 5 (.c 0) 1 (.v p.3.length) (some (.v p.4)), .ptr 1 0, .sli 6 (.c 0) 1 (.v 4) none, .sli 7 (.c 0) 1 (.v m) none, .sli 8 (.c 0) 7 (.v m) none, .int .i64 (↑i : Int), .ptr 9 0, .ptr 10 0], [.ro encLook [PUnit.unit], .own [.c (.sli 2 (.c 0) 1 (.v 4) (some (.v 4))), .c (.int .i64 c)] 62, .own [.a (encInt IntKind.u32) 4 l] 23, .many encTk xs 70, .ro encK p.1, .ro (encInt IntKind.i64) p.3, .vec (encInt IntKind.u32) lw 23, .vec (encP 3) (List.range m) 37, .vec encRf rs 40, .own [.c (.int .i64 (p.1.getD (↑i : Int).toNat { at' := (0 : Int), cell := (0 : Int), times := (0 : Int) }).at'), .c (.int .i64 (p.1.getD (↑i : Int).toNat { at' := (0 : Int), cell := (0 : Int), times := (0 : Int) }).cell), .c (.int .i64 (p.1.getD (↑i : Int).toNat { at' := (0 : Int), cell := (0 : Int), times := (0 : Int) }).times)] 36, .own [.c (.int .i64 (p.1.getD (↑i : Int).toNat { at' := (0 : Int), cell := (0 : Int), times := (0 : Int) }).at'), .c (.int .i64 (p.1.getD (↑i : Int).toNat { at' := (0 : Int), cell := (0 : Int), times := (0 : Int) }).cell), .c (.int .i64 (imax (p.1.getD (↑i : Int).toNat { at' := (0 : Int), cell := (0 : Int), times := (0 : Int) }).times (0 : Int))), .c (.lit .i64 (0 : Int)), .c (.lit .u32 (0 : Int)), .c (.lit .u32 (0 : Int))] 70]))))))))) := by kernel_rfl
set_option maxRecDepth 100000 in
theorem x_app {p : InP} {l : List Int} {c : Int} {xs : List Tk} {m : Nat} {rs : List Rf} {lw : List Int} {i k : Nat} {q : K3} : (exec cfgM 100 (restC 4 bb3) (fr 210 n3c (v3 p m ++ [.int .i64 (i : Nat), .ptr 9 0, .pto 3 k 0])) (s3 p l c xs m rs lw ++ [kB q, .gone])).bind (canonK 6 [(0,0)] 210 n3b) =
 

 (.need (true)

 (.need (decide (m = (List.range m).length))

 (.need (roomy ((List.range m).length + 1) 8)

 (.br (decide (q.3 < (0 : Int)))

 (.need (true)

 (.need (decide (m = rs.length))

 (.need (roomy (rs.length + 1) 48)
 (.eq (T.ret (SVal.int IntKind.i64 q.1) = T.ret (SVal.int IntKind.i64 q.1))
 (.eq (T.ret (SVal.int IntKind.i64 q.1) = T.ret (SVal.int IntKind.i64 q.1))
 (.eq (T.ret (SVal.int IntKind.i64 q.1) = T.ret (SVal.int IntKind.i64 q.1))
 (.eq (T.ret (SVal.int IntKind.i64 q.2) = T.ret (SVal.int IntKind.i64 q.2))
 (.eq (T.ret (SVal.int IntKind.i64 q.2) = T.ret (SVal.int IntKind.i64 q.2))
 (.eq (T.ret (SVal.int IntKind.i64 q.2) = T.ret (SVal.int IntKind.i64 q.2))
 (.eq (T.ret (SVal.int IntKind.i64 q.3) = T.ret (SVal.int IntKind.i64 q.3))
 (.eq (T.ret (SVal.int IntKind.i64 q.3) = T.ret (SVal.int IntKind.i64 q.3))
 (.eq (T.ret (SVal.int IntKind.i64 q.3) = T.ret (SVal.int IntKind.i64 q.3))

 (.ret (.normal, [.sli 4 (.c 0) 3 (.v p.1.length) (some (.v p.2)), .sli 5 (.c 0) 1 (.v p.3.length) (some (.v p.4)), .ptr 1 0, .sli 6 (.c 0) 1 (.v 4) none, .sli 7 (.c 0) 1 (.v (m + 1)) none, .sli 8 (.c 0) 7 (.v (m + 1)) none, .int .i64 (↑i : Int)], [.ro encLook [PUnit.unit], .own [.c (.sli 2 (.c 0) 1 (.v 4) (some (.v 4))), .c (.int .i64 c)] 62, .own [.a (encInt IntKind.u32) 4 l] 23, .many encTk xs 70, .ro encK p.1, .ro (encInt IntKind.i64) p.3, .vec (encInt IntKind.u32) lw 23, .vec (encP 3) (List.range m ++ [k]) 37, .vec encRf (rs ++ [{ at' := q.1, cell := q.2, left := (0 : Int), next := 1, ticket := (0 : Int), v := (0 : Int), done := false }]) 40]))))))))))))))

 (.need (true)

 (.need (decide (m = rs.length))

 (.need (roomy (rs.length + 1) 48)
 (.eq (T.ret (SVal.int IntKind.i64 q.1) = T.ret (SVal.int IntKind.i64 q.1))
 (.eq (T.ret (SVal.int IntKind.i64 q.1) = T.ret (SVal.int IntKind.i64 q.1))
 (.eq (T.ret (SVal.int IntKind.i64 q.1) = T.ret (SVal.int IntKind.i64 q.1))
 (.eq (T.ret (SVal.int IntKind.i64 q.2) = T.ret (SVal.int IntKind.i64 q.2))
 (.eq (T.ret (SVal.int IntKind.i64 q.2) = T.ret (SVal.int IntKind.i64 q.2))
 (.eq (T.ret (SVal.int IntKind.i64 q.2) = T.ret (SVal.int IntKind.i64 q.2))
 (.eq (T.ret (SVal.int IntKind.i64 q.3) = T.ret (SVal.int IntKind.i64 q.3))
 (.eq (T.ret (SVal.int IntKind.i64 q.3) = T.ret (SVal.int IntKind.i64 q.3))
 (.eq (T.ret (SVal.int IntKind.i64 q.3) = T.ret (SVal.int IntKind.i64 q.3))

 (.ret (.normal, [.sli 4 (.c 0) 3 (.v p.1.length) (some (.v p.2)), .sli 5 (.c 0) 1 (.v p.3.length) (some (.v p.4)), .ptr 1 0, .sli 6 (.c 0) 1 (.v 4) none, .sli 7 (.c 0) 1 (.v (m + 1)) none, .sli 8 (.c 0) 7 (.v (m + 1)) none, .int .i64 (↑i : Int)], [.ro encLook [PUnit.unit], .own [.c (.sli 2 (.c 0) 1 (.v 4) (some (.v 4))), .c (.int .i64 c)] 62, .own [.a (encInt IntKind.u32) 4 l] 23, .many encTk xs 70, .ro encK p.1, .ro (encInt IntKind.i64) p.3, .vec (encInt IntKind.u32) lw 23, .vec (encP 3) (List.range m ++ [k]) 37, .vec encRf (rs ++ [{ at' := q.1, cell := q.2, left := q.3, next := 1, ticket := (0 : Int), v := (0 : Int), done := false }]) 40])))))))))))))))))) := by kernel_rfl
set_option maxRecDepth 100000 in
theorem x_inc {p : InP} {l : List Int} {c : Int} {xs : List Tk} {m : Nat} {rs : List Rf} {lw : List Int} {i : Nat} : (exec cfgM 100 inc3 (fr 210 n3b (v3 p m ++ [.int .i64 (i : Nat)])) (s3 p l c xs m rs lw)).bind (canonK 6 [(0,0)] 210 n3b) =
 

 (.need (inR .i64 ((↑i : Int) + (1 : Int)))

 (.ret (.normal, [.sli 4 (.c 0) 3 (.v p.1.length) (some (.v p.2)), .sli 5 (.c 0) 1 (.v p.3.length) (some (.v p.4)), .ptr 1 0, .sli 6 (.c 0) 1 (.v 4) none, .sli 7 (.c 0) 1 (.v m) none, .sli 8 (.c 0) 7 (.v m) none, .int .i64 ((↑i : Int) + (1 : Int))], [.ro encLook [PUnit.unit], .own [.c (.sli 2 (.c 0) 1 (.v 4) (some (.v 4))), .c (.int .i64 c)] 62, .own [.a (encInt IntKind.u32) 4 l] 23, .many encTk xs 70, .ro encK p.1, .ro (encInt IntKind.i64) p.3, .vec (encInt IntKind.u32) lw 23, .vec (encP 3) (List.range m) 37, .vec encRf rs 40]))) := by kernel_rfl
set_option maxRecDepth 100000 in
theorem x_regb {p : InP} {l : List Int} {c : Int} {xs : List Tk} {m : Nat} {rs : List Rf} {lw : List Int} : (exec cfgM 100 reg3b (fr 210 n3b ([.bad] ++ v3b p m 4 ++ [.bad])) (s3b p l c xs m rs lw)).bind (canonK 5 [(0,0)] 210 n3e) =
 

 (.ret (.normal, [.sli 4 (.c 0) 1 (.v p.3.length) (some (.v p.4)), .ptr 1 0, .sli 5 (.c 0) 1 (.v 4) none, .sli 6 (.c 0) 1 (.v m) none, .sli 7 (.c 0) 7 (.v m) none, .lit .i64 (0 : Int)], [.ro encLook [PUnit.unit], .own [.c (.sli 2 (.c 0) 1 (.v 4) (some (.v 4))), .c (.int .i64 c)] 62, .own [.a (encInt IntKind.u32) 4 l] 23, .many encTk xs 70, .ro (encInt IntKind.i64) p.3, .vec (encInt IntKind.u32) lw 23, .vec (encP 3) (List.range m) 37, .vec encRf rs 40])) := by kernel_rfl
set_option maxRecDepth 100000 in
theorem x_tmb {p : InP} {l : List Int} {c : Int} {xs : List Tk} {m : Nat} {rs : List Rf} {lw : List Int} {i : Nat} : (exec cfgM 100 tm3b (fr 210 n3e (v3b p m lw.length ++ [.int .i64 (i : Nat)])) (s3b p l c xs m rs lw)).bind (canonK 5 [(0,0)] 210 n3e) =
 

 (.br (decide ((↑i : Int) < (↑p.3.length : Int)))

 (.br (decide ((↑i : Int) < (100 : Int)))

 (.br (decide ((0 : Int) < (↑m : Int)))

 (.ret (.normal, [.sli 4 (.c 0) 1 (.v p.3.length) (some (.v p.4)), .ptr 1 0, .sli 5 (.c 0) 1 (.v lw.length) none, .sli 6 (.c 0) 1 (.v m) none, .sli 7 (.c 0) 7 (.v m) none, .int .i64 (↑i : Int)], [.ro encLook [PUnit.unit], .own [.c (.sli 2 (.c 0) 1 (.v 4) (some (.v 4))), .c (.int .i64 c)] 62, .own [.a (encInt IntKind.u32) 4 l] 23, .many encTk xs 70, .ro (encInt IntKind.i64) p.3, .vec (encInt IntKind.u32) lw 23, .vec (encP 3) (List.range m) 37, .vec encRf rs 40]))

 (.ret (.exit 2, [.sli 4 (.c 0) 1 (.v p.3.length) (some (.v p.4)), .ptr 1 0, .sli 5 (.c 0) 1 (.v lw.length) none, .sli 6 (.c 0) 1 (.v m) none, .sli 7 (.c 0) 7 (.v m) none, .int .i64 (↑i : Int)], [.ro encLook [PUnit.unit], .own [.c (.sli 2 (.c 0) 1 (.v 4) (some (.v 4))), .c (.int .i64 c)] 62, .own [.a (encInt IntKind.u32) 4 l] 23, .many encTk xs 70, .ro (encInt IntKind.i64) p.3, .vec (encInt IntKind.u32) lw 23, .vec (encP 3) (List.range m) 37, .vec encRf rs 40])))

 (.ret (.exit 2, [.sli 4 (.c 0) 1 (.v p.3.length) (some (.v p.4)), .ptr 1 0, .sli 5 (.c 0) 1 (.v lw.length) none, .sli 6 (.c 0) 1 (.v m) none, .sli 7 (.c 0) 7 (.v m) none, .int .i64 (↑i : Int)], [.ro encLook [PUnit.unit], .own [.c (.sli 2 (.c 0) 1 (.v 4) (some (.v 4))), .c (.int .i64 c)] 62, .own [.a (encInt IntKind.u32) 4 l] 23, .many encTk xs 70, .ro (encInt IntKind.i64) p.3, .vec (encInt IntKind.u32) lw 23, .vec (encP 3) (List.range m) 37, .vec encRf rs 40])))

 (.ret (.exit 2, [.sli 4 (.c 0) 1 (.v p.3.length) (some (.v p.4)), .ptr 1 0, .sli 5 (.c 0) 1 (.v lw.length) none, .sli 6 (.c 0) 1 (.v m) none, .sli 7 (.c 0) 7 (.v m) none, .int .i64 (↑i : Int)], [.ro encLook [PUnit.unit], .own [.c (.sli 2 (.c 0) 1 (.v 4) (some (.v 4))), .c (.int .i64 c)] 62, .own [.a (encInt IntKind.u32) 4 l] 23, .many encTk xs 70, .ro (encInt IntKind.i64) p.3, .vec (encInt IntKind.u32) lw 23, .vec (encP 3) (List.range m) 37, .vec encRf rs 40]))) := by kernel_rfl
set_option maxRecDepth 100000 in
theorem x_incb {p : InP} {l : List Int} {c : Int} {xs : List Tk} {m : Nat} {rs : List Rf} {lw : List Int} {i : Nat} : (exec cfgM 100 inc3b (fr 210 n3e (v3b p m lw.length ++ [.int .i64 (i : Nat)])) (s3b p l c xs m rs lw)).bind (canonK 5 [(0,0)] 210 n3e) =
 

 (.need (inR .i64 ((↑i : Int) + (1 : Int)))

 (.ret (.normal, [.sli 4 (.c 0) 1 (.v p.3.length) (some (.v p.4)), .ptr 1 0, .sli 5 (.c 0) 1 (.v lw.length) none, .sli 6 (.c 0) 1 (.v m) none, .sli 7 (.c 0) 7 (.v m) none, .int .i64 ((↑i : Int) + (1 : Int))], [.ro encLook [PUnit.unit], .own [.c (.sli 2 (.c 0) 1 (.v 4) (some (.v 4))), .c (.int .i64 c)] 62, .own [.a (encInt IntKind.u32) 4 l] 23, .many encTk xs 70, .ro (encInt IntKind.i64) p.3, .vec (encInt IntKind.u32) lw 23, .vec (encP 3) (List.range m) 37, .vec encRf rs 40]))) := by kernel_rfl
set_option maxRecDepth 100000 in
theorem x_endb {p : InP} {l : List Int} {c : Int} {xs : List Tk} {m : Nat} {rs : List Rf} {lw : List Int} {i : Nat} : (exec cfgM 100 end3 (fr 210 n3e (v3b p m lw.length ++ [.int .i64 (i : Nat)])) (s3b p l c xs m rs lw)).bind (canonK 5 [(0,0)] 210 [6]) =
 

 (.ret (.ret, [.bl true], [.ro encLook [PUnit.unit], .own [.c (.sli 2 (.c 0) 1 (.v 4) (some (.v 4))), .c (.int .i64 c)] 62, .own [.a (encInt IntKind.u32) 4 l] 23, .many encTk xs 70, .ro (encInt IntKind.i64) p.3])) := by kernel_rfl
set_option maxRecDepth 100000 in
theorem x_k {p : InP} {l : List Int} {c : Int} {xs : List Tk} {m : Nat} {rs : List Rf} {lw : List Int} {i : Nat} : (execN cfgM 100 2 bb3b (fr 210 n3e (v3b p m lw.length ++ [.int .i64 (i : Nat)])) (s3b p l c xs m rs lw)).bind (canonK 5 [(0,0)] 210 n3f) =
 

 (.need (decide ((0 : Int) ≤ (↑i : Int)) && decide ((↑i : Int).toNat < p.3.length))

 (.need (decide ((↑i : Int).toNat < p.3.length))

 (.br (decide (p.3.getD (↑i : Int).toNat (0 : Int) < (0 : Int)))

 (.ret (.exit 3, [.sli 4 (.c 0) 1 (.v p.3.length) (some (.v p.4)), .ptr 1 0, .sli 5 (.c 0) 1 (.v lw.length) none, .sli 6 (.c 0) 1 (.v m) none, .sli 7 (.c 0) 7 (.v m) none, .int .i64 (↑i : Int), .int .i64 (p.3.getD (↑i : Int).toNat (0 : Int))], [.ro encLook [PUnit.unit], .own [.c (.sli 2 (.c 0) 1 (.v 4) (some (.v 4))), .c (.int .i64 c)] 62, .own [.a (encInt IntKind.u32) 4 l] 23, .many encTk xs 70, .ro (encInt IntKind.i64) p.3, .vec (encInt IntKind.u32) lw 23, .vec (encP 3) (List.range m) 37, .vec encRf rs 40]))

 (.br (decide ((↑m : Int) ≤ p.3.getD (↑i : Int).toNat (0 : Int)))

 (.ret (.exit 3, [.sli 4 (.c 0) 1 (.v p.3.length) (some (.v p.4)), .ptr 1 0, .sli 5 (.c 0) 1 (.v lw.length) none, .sli 6 (.c 0) 1 (.v m) none, .sli 7 (.c 0) 7 (.v m) none, .int .i64 (↑i : Int), .int .i64 (p.3.getD (↑i : Int).toNat (0 : Int))], [.ro encLook [PUnit.unit], .own [.c (.sli 2 (.c 0) 1 (.v 4) (some (.v 4))), .c (.int .i64 c)] 62, .own [.a (encInt IntKind.u32) 4 l] 23, .many encTk xs 70, .ro (encInt IntKind.i64) p.3, .vec (encInt IntKind.u32) lw 23, .vec (encP 3) (List.range m) 37, .vec encRf rs 40]))

 (.need (decide ((0 : Int) ≤ p.3.getD (↑i : Int).toNat (0 : Int)) && decide ((p.3.getD (↑i : Int).toNat (0 : Int)).toNat < m))

 (.need (decide ((p.3.getD (↑i : Int).toNat (0 : Int)).toNat < rs.length))

 (.br ((rs.getD (p.3.getD (↑i : Int).toNat (0 : Int)).toNat { at' := (0 : Int), cell := (0 : Int), left := (0 : Int), next := 0, ticket := (0 : Int), v := (0 : Int), done := false }).done)

 (.ret (.exit 3, [.sli 4 (.c 0) 1 (.v p.3.length) (some (.v p.4)), .ptr 1 0, .sli 5 (.c 0) 1 (.v lw.length) none, .sli 6 (.c 0) 1 (.v m) none, .sli 7 (.c 0) 7 (.v m) none, .int .i64 (↑i : Int), .int .i64 (p.3.getD (↑i : Int).toNat (0 : Int))], [.ro encLook [PUnit.unit], .own [.c (.sli 2 (.c 0) 1 (.v 4) (some (.v 4))), .c (.int .i64 c)] 62, .own [.a (encInt IntKind.u32) 4 l] 23, .many encTk xs 70, .ro (encInt IntKind.i64) p.3, .vec (encInt IntKind.u32) lw 23, .vec (encP 3) (List.range m) 37, .vec encRf rs 40]))

 (.ret (.normal, [.sli 4 (.c 0) 1 (.v p.3.length) (some (.v p.4)), .ptr 1 0, .sli 5 (.c 0) 1 (.v lw.length) none, .sli 6 (.c 0) 1 (.v m) none, .sli 7 (.c 0) 7 (.v m) none, .int .i64 (↑i : Int), .int .i64 (p.3.getD (↑i : Int).toNat (0 : Int))], [.ro encLook [PUnit.unit], .own [.c (.sli 2 (.c 0) 1 (.v 4) (some (.v 4))), .c (.int .i64 c)] 62, .own [.a (encInt IntKind.u32) 4 l] 23, .many encTk xs 70, .ro (encInt IntKind.i64) p.3, .vec (encInt IntKind.u32) lw 23, .vec (encP 3) (List.range m) 37, .vec encRf rs 40]))))))))) := by kernel_rfl
end Go.Proofs.YthofahgnglfaeaaDoor

namespace Go.Proofs.YthofahgnglfaeaaDoor
open Go Go.Proofs.YthofahgnglfaeaaDoor.Sx
set_option linter.unusedVariables false
set_option maxRecDepth 100000 in
theorem x_ref1 {p : InP} {l : List Int} {c : Int} {xs : List Tk} {m : Nat} {rs : List Rf} {lw : List Int} {r : Rf} : (exec cfgM 100 b14 ([rfA r (.lit .i64 1), .sli 5 (.c 0) 1 (.v lw.length) none] ++ List.replicate 104 .bad) (s3b p l c xs m rs lw)).bind (canonK 8 [(0,0)] 106 [4, 5]) =
 

 (.br (r.3 == (0 : Int))

 (.ret (.ret, [.ptr 8 0, .sli 5 (.c 0) 1 (.v lw.length) none], [.ro encLook [PUnit.unit], .own [.c (.sli 2 (.c 0) 1 (.v 4) (some (.v 4))), .c (.int .i64 c)] 62, .own [.a (encInt IntKind.u32) 4 l] 23, .many encTk xs 70, .ro (encInt IntKind.i64) p.3, .vec (encInt IntKind.u32) lw 23, .vec (encP 3) (List.range m) 37, .vec encRf rs 40, .own [.c (.int .i64 r.1), .c (.int .i64 r.2), .c (.int .i64 r.3), .c (.lit .i64 (1 : Int)), .c (.int .u32 r.5), .c (.int .u32 r.6), .c (.bl true)] 40]))

 (.br (decide ((0 : Int) ≤ r.1))

 (.br (!decide (r.1 < (↑lw.length : Int)))

 (.ret (.ret, [.ptr 8 0, .sli 5 (.c 0) 1 (.v lw.length) none], [.ro encLook [PUnit.unit], .own [.c (.sli 2 (.c 0) 1 (.v 4) (some (.v 4))), .c (.int .i64 c)] 62, .own [.a (encInt IntKind.u32) 4 l] 23, .many encTk xs 70, .ro (encInt IntKind.i64) p.3, .vec (encInt IntKind.u32) lw 23, .vec (encP 3) (List.range m) 37, .vec encRf rs 40, .own [.c (.int .i64 r.1), .c (.int .i64 r.2), .c (.int .i64 r.3), .c (.lit .i64 (1 : Int)), .c (.int .u32 r.5), .c (.int .u32 r.6), .c (.bl true)] 40]))

 (.need (decide (0 + lw.length ≤ lw.length))

 (.need (decide (0 + lw.length ≤ lw.length))

 (.need (roomy (List.take lw.length (List.drop 0 lw)).length 4)

 (.need (decide ((0 : Int) ≤ r.1) && decide (r.1.toNat < (List.take lw.length (List.drop 0 lw)).length))

 (.need (decide (r.1.toNat < (List.take lw.length (List.drop 0 lw)).length))

 (.need (decide ((0 : Int) ≤ r.1) && decide (r.1.toNat < (List.take lw.length (List.drop 0 lw)).length))

 (.need (decide (r.1.toNat < (List.take lw.length (List.drop 0 lw)).length))

 (.need (decide ((0 : Int) ≤ r.1) && decide (r.1.toNat < (List.take lw.length (List.drop 0 lw)).length))

 (.need (decide (r.1.toNat < (List.take lw.length (List.drop 0 lw)).length))

 (.ret (.ret, [.ptr 8 0, .sli 9 (.c 0) 1 (.v (List.take lw.length (List.drop 0 lw)).length) none], [.ro encLook [PUnit.unit], .own [.c (.sli 2 (.c 0) 1 (.v 4) (some (.v 4))), .c (.int .i64 c)] 62, .own [.a (encInt IntKind.u32) 4 l] 23, .many encTk xs 70, .ro (encInt IntKind.i64) p.3, .vec (encInt IntKind.u32) lw 23, .vec (encP 3) (List.range m) 37, .vec encRf rs 40, .own [.c (.int .i64 r.1), .c (.int .i64 r.2), .c (.int .i64 r.3), .c (.lit .i64 (2 : Int)), .c (.int .u32 ((List.take lw.length (List.drop 0 lw)).getD r.1.toNat (0 : Int))), .c (.int .u32 r.6), .c (.sb r.7)] 40, .vec (encInt IntKind.u32) ((List.take lw.length (List.drop 0 lw)).set r.1.toNat (IntKind.u32.wrap ((List.take lw.length (List.drop 0 lw)).getD r.1.toNat (0 : Int) + (1 : Int)))) 23]))))))))))))

 (.ret (.ret, [.ptr 8 0, .sli 5 (.c 0) 1 (.v lw.length) none], [.ro encLook [PUnit.unit], .own [.c (.sli 2 (.c 0) 1 (.v 4) (some (.v 4))), .c (.int .i64 c)] 62, .own [.a (encInt IntKind.u32) 4 l] 23, .many encTk xs 70, .ro (encInt IntKind.i64) p.3, .vec (encInt IntKind.u32) lw 23, .vec (encP 3) (List.range m) 37, .vec encRf rs 40, .own [.c (.int .i64 r.1), .c (.int .i64 r.2), .c (.int .i64 r.3), .c (.lit .i64 (1 : Int)), .c (.int .u32 r.5), .c (.int .u32 r.6), .c (.bl true)] 40])))) := by kernel_rfl
set_option maxRecDepth 100000 in
theorem x_ref2 {p : InP} {l : List Int} {c : Int} {xs : List Tk} {m : Nat} {rs : List Rf} {lw : List Int} {r : Rf} : (exec cfgM 100 b14 ([rfA r (.lit .i64 2), .sli 5 (.c 0) 1 (.v lw.length) none] ++ List.replicate 104 .bad) (s3b p l c xs m rs lw)).bind (canonK 8 [(0,0)] 106 [4, 5]) =
 

 (.need (inR .i64 (r.1 + (1 : Int)))

 (.br (r.3 == (0 : Int))

 (.ret (.ret, [.ptr 8 0, .sli 5 (.c 0) 1 (.v lw.length) none], [.ro encLook [PUnit.unit], .own [.c (.sli 2 (.c 0) 1 (.v 4) (some (.v 4))), .c (.int .i64 c)] 62, .own [.a (encInt IntKind.u32) 4 l] 23, .many encTk xs 70, .ro (encInt IntKind.i64) p.3, .vec (encInt IntKind.u32) lw 23, .vec (encP 3) (List.range m) 37, .vec encRf rs 40, .own [.c (.int .i64 r.1), .c (.int .i64 r.2), .c (.int .i64 r.3), .c (.lit .i64 (1 : Int)), .c (.int .u32 r.5), .c (.int .u32 r.6), .c (.bl true)] 40]))

 (.br (decide ((0 : Int) ≤ r.1 + (1 : Int)))

 (.br (!decide (r.1 + (1 : Int) < (↑lw.length : Int)))

 (.ret (.ret, [.ptr 8 0, .sli 5 (.c 0) 1 (.v lw.length) none], [.ro encLook [PUnit.unit], .own [.c (.sli 2 (.c 0) 1 (.v 4) (some (.v 4))), .c (.int .i64 c)] 62, .own [.a (encInt IntKind.u32) 4 l] 23, .many encTk xs 70, .ro (encInt IntKind.i64) p.3, .vec (encInt IntKind.u32) lw 23, .vec (encP 3) (List.range m) 37, .vec encRf rs 40, .own [.c (.int .i64 r.1), .c (.int .i64 r.2), .c (.int .i64 r.3), .c (.lit .i64 (1 : Int)), .c (.int .u32 r.5), .c (.int .u32 r.6), .c (.bl true)] 40]))

 (.need (decide (0 + lw.length ≤ lw.length))

 (.need (decide (0 + lw.length ≤ lw.length))

 (.need (roomy (List.take lw.length (List.drop 0 lw)).length 4)

 (.need (decide ((0 : Int) ≤ r.1 + (1 : Int)) && decide ((r.1 + (1 : Int)).toNat < (List.take lw.length (List.drop 0 lw)).length))

 (.need (decide ((r.1 + (1 : Int)).toNat < (List.take lw.length (List.drop 0 lw)).length))

 (.br ((List.take lw.length (List.drop 0 lw)).getD (r.1 + (1 : Int)).toNat (0 : Int) == r.5)

 (.ret (.ret, [.ptr 8 0, .sli 9 (.c 0) 1 (.v (List.take lw.length (List.drop 0 lw)).length) none], [.ro encLook [PUnit.unit], .own [.c (.sli 2 (.c 0) 1 (.v 4) (some (.v 4))), .c (.int .i64 c)] 62, .own [.a (encInt IntKind.u32) 4 l] 23, .many encTk xs 70, .ro (encInt IntKind.i64) p.3, .vec (encInt IntKind.u32) lw 23, .vec (encP 3) (List.range m) 37, .vec encRf rs 40, .own [.c (.int .i64 r.1), .c (.int .i64 r.2), .c (.int .i64 r.3), .c (.lit .i64 (3 : Int)), .c (.int .u32 r.5), .c (.int .u32 r.6), .c (.sb r.7)] 40, .vec (encInt IntKind.u32) (List.take lw.length (List.drop 0 lw)) 23]))

 (.ret (.ret, [.ptr 8 0, .sli 9 (.c 0) 1 (.v (List.take lw.length (List.drop 0 lw)).length) none], [.ro encLook [PUnit.unit], .own [.c (.sli 2 (.c 0) 1 (.v 4) (some (.v 4))), .c (.int .i64 c)] 62, .own [.a (encInt IntKind.u32) 4 l] 23, .many encTk xs 70, .ro (encInt IntKind.i64) p.3, .vec (encInt IntKind.u32) lw 23, .vec (encP 3) (List.range m) 37, .vec encRf rs 40, .own [.c (.int .i64 r.1), .c (.int .i64 r.2), .c (.int .i64 r.3), .c (.lit .i64 (2 : Int)), .c (.int .u32 r.5), .c (.int .u32 r.6), .c (.sb r.7)] 40, .vec (encInt IntKind.u32) (List.take lw.length (List.drop 0 lw)) 23])))))))))

 (.ret (.ret, [.ptr 8 0, .sli 5 (.c 0) 1 (.v lw.length) none], [.ro encLook [PUnit.unit], .own [.c (.sli 2 (.c 0) 1 (.v 4) (some (.v 4))), .c (.int .i64 c)] 62, .own [.a (encInt IntKind.u32) 4 l] 23, .many encTk xs 70, .ro (encInt IntKind.i64) p.3, .vec (encInt IntKind.u32) lw 23, .vec (encP 3) (List.range m) 37, .vec encRf rs 40, .own [.c (.int .i64 r.1), .c (.int .i64 r.2), .c (.int .i64 r.3), .c (.lit .i64 (1 : Int)), .c (.int .u32 r.5), .c (.int .u32 r.6), .c (.bl true)] 40]))))) := by kernel_rfl
set_option maxRecDepth 100000 in
theorem x_ref3 {p : InP} {l : List Int} {c : Int} {xs : List Tk} {m : Nat} {rs : List Rf} {lw : List Int} {r : Rf} : (exec cfgM 100 b14 ([rfA r (.lit .i64 3), .sli 5 (.c 0) 1 (.v lw.length) none] ++ List.replicate 104 .bad) (s3b p l c xs m rs lw)).bind (canonK 8 [(0,0)] 106 [4, 5]) =
 

 (.br (r.3 == (0 : Int))

 (.ret (.ret, [.ptr 8 0, .sli 5 (.c 0) 1 (.v lw.length) none], [.ro encLook [PUnit.unit], .own [.c (.sli 2 (.c 0) 1 (.v 4) (some (.v 4))), .c (.int .i64 c)] 62, .own [.a (encInt IntKind.u32) 4 l] 23, .many encTk xs 70, .ro (encInt IntKind.i64) p.3, .vec (encInt IntKind.u32) lw 23, .vec (encP 3) (List.range m) 37, .vec encRf rs 40, .own [.c (.int .i64 r.1), .c (.int .i64 r.2), .c (.int .i64 r.3), .c (.lit .i64 (1 : Int)), .c (.int .u32 r.5), .c (.int .u32 r.6), .c (.bl true)] 40]))

 (.br (decide ((0 : Int) ≤ r.2))

 (.br (!decide (r.2 < (↑lw.length : Int)))

 (.ret (.ret, [.ptr 8 0, .sli 5 (.c 0) 1 (.v lw.length) none], [.ro encLook [PUnit.unit], .own [.c (.sli 2 (.c 0) 1 (.v 4) (some (.v 4))), .c (.int .i64 c)] 62, .own [.a (encInt IntKind.u32) 4 l] 23, .many encTk xs 70, .ro (encInt IntKind.i64) p.3, .vec (encInt IntKind.u32) lw 23, .vec (encP 3) (List.range m) 37, .vec encRf rs 40, .own [.c (.int .i64 r.1), .c (.int .i64 r.2), .c (.int .i64 r.3), .c (.lit .i64 (1 : Int)), .c (.int .u32 r.5), .c (.int .u32 r.6), .c (.bl true)] 40]))

 (.need (decide (0 + lw.length ≤ lw.length))

 (.need (decide (0 + lw.length ≤ lw.length))

 (.need (roomy (List.take lw.length (List.drop 0 lw)).length 4)

 (.need (decide ((0 : Int) ≤ r.2) && decide (r.2.toNat < (List.take lw.length (List.drop 0 lw)).length))

 (.need (decide (r.2.toNat < (List.take lw.length (List.drop 0 lw)).length))

 (.ret (.ret, [.ptr 8 0, .sli 9 (.c 0) 1 (.v (List.take lw.length (List.drop 0 lw)).length) none], [.ro encLook [PUnit.unit], .own [.c (.sli 2 (.c 0) 1 (.v 4) (some (.v 4))), .c (.int .i64 c)] 62, .own [.a (encInt IntKind.u32) 4 l] 23, .many encTk xs 70, .ro (encInt IntKind.i64) p.3, .vec (encInt IntKind.u32) lw 23, .vec (encP 3) (List.range m) 37, .vec encRf rs 40, .own [.c (.int .i64 r.1), .c (.int .i64 r.2), .c (.int .i64 r.3), .c (.lit .i64 (4 : Int)), .c (.int .u32 r.5), .c (.int .u32 ((List.take lw.length (List.drop 0 lw)).getD r.2.toNat (0 : Int))), .c (.sb r.7)] 40, .vec (encInt IntKind.u32) (List.take lw.length (List.drop 0 lw)) 23]))))))))

 (.ret (.ret, [.ptr 8 0, .sli 5 (.c 0) 1 (.v lw.length) none], [.ro encLook [PUnit.unit], .own [.c (.sli 2 (.c 0) 1 (.v 4) (some (.v 4))), .c (.int .i64 c)] 62, .own [.a (encInt IntKind.u32) 4 l] 23, .many encTk xs 70, .ro (encInt IntKind.i64) p.3, .vec (encInt IntKind.u32) lw 23, .vec (encP 3) (List.range m) 37, .vec encRf rs 40, .own [.c (.int .i64 r.1), .c (.int .i64 r.2), .c (.int .i64 r.3), .c (.lit .i64 (1 : Int)), .c (.int .u32 r.5), .c (.int .u32 r.6), .c (.bl true)] 40])))) := by kernel_rfl
set_option maxRecDepth 100000 in
theorem x_ref4 {p : InP} {l : List Int} {c : Int} {xs : List Tk} {m : Nat} {rs : List Rf} {lw : List Int} {r : Rf} : (exec cfgM 100 b14 ([rfA r (.lit .i64 4), .sli 5 (.c 0) 1 (.v lw.length) none] ++ List.replicate 104 .bad) (s3b p l c xs m rs lw)).bind (canonK 8 [(0,0)] 106 [4, 5]) =
 

 (.br (r.3 == (0 : Int))

 (.ret (.ret, [.ptr 8 0, .sli 5 (.c 0) 1 (.v lw.length) none], [.ro encLook [PUnit.unit], .own [.c (.sli 2 (.c 0) 1 (.v 4) (some (.v 4))), .c (.int .i64 c)] 62, .own [.a (encInt IntKind.u32) 4 l] 23, .many encTk xs 70, .ro (encInt IntKind.i64) p.3, .vec (encInt IntKind.u32) lw 23, .vec (encP 3) (List.range m) 37, .vec encRf rs 40, .own [.c (.int .i64 r.1), .c (.int .i64 r.2), .c (.int .i64 r.3), .c (.lit .i64 (1 : Int)), .c (.int .u32 r.5), .c (.int .u32 r.6), .c (.bl true)] 40]))

 (.br (decide ((0 : Int) ≤ r.2))

 (.br (!decide (r.2 < (↑lw.length : Int)))

 (.ret (.ret, [.ptr 8 0, .sli 5 (.c 0) 1 (.v lw.length) none], [.ro encLook [PUnit.unit], .own [.c (.sli 2 (.c 0) 1 (.v 4) (some (.v 4))), .c (.int .i64 c)] 62, .own [.a (encInt IntKind.u32) 4 l] 23, .many encTk xs 70, .ro (encInt IntKind.i64) p.3, .vec (encInt IntKind.u32) lw 23, .vec (encP 3) (List.range m) 37, .vec encRf rs 40, .own [.c (.int .i64 r.1), .c (.int .i64 r.2), .c (.int .i64 r.3), .c (.lit .i64 (1 : Int)), .c (.int .u32 r.5), .c (.int .u32 r.6), .c (.bl true)] 40]))

 (.need (decide (0 + lw.length ≤ lw.length))

 (.need (decide (0 + lw.length ≤ lw.length))

 (.need (roomy (List.take lw.length (List.drop 0 lw)).length 4)

 (.need (decide ((0 : Int) ≤ r.2) && decide (r.2.toNat < (List.take lw.length (List.drop 0 lw)).length))

 (.need (decide (r.2.toNat < (List.take lw.length (List.drop 0 lw)).length))

 (.ret (.ret, [.ptr 8 0, .sli 9 (.c 0) 1 (.v (List.take lw.length (List.drop 0 lw)).length) none], [.ro encLook [PUnit.unit], .own [.c (.sli 2 (.c 0) 1 (.v 4) (some (.v 4))), .c (.int .i64 c)] 62, .own [.a (encInt IntKind.u32) 4 l] 23, .many encTk xs 70, .ro (encInt IntKind.i64) p.3, .vec (encInt IntKind.u32) lw 23, .vec (encP 3) (List.range m) 37, .vec encRf rs 40, .own [.c (.int .i64 r.1), .c (.int .i64 r.2), .c (.int .i64 r.3), .c (.lit .i64 (5 : Int)), .c (.int .u32 r.5), .c (.int .u32 r.6), .c (.sb r.7)] 40, .vec (encInt IntKind.u32) ((List.take lw.length (List.drop 0 lw)).set r.2.toNat (IntKind.u32.wrap (r.6 + (1 : Int)))) 23]))))))))

 (.ret (.ret, [.ptr 8 0, .sli 5 (.c 0) 1 (.v lw.length) none], [.ro encLook [PUnit.unit], .own [.c (.sli 2 (.c 0) 1 (.v 4) (some (.v 4))), .c (.int .i64 c)] 62, .own [.a (encInt IntKind.u32) 4 l] 23, .many encTk xs 70, .ro (encInt IntKind.i64) p.3, .vec (encInt IntKind.u32) lw 23, .vec (encP 3) (List.range m) 37, .vec encRf rs 40, .own [.c (.int .i64 r.1), .c (.int .i64 r.2), .c (.int .i64 r.3), .c (.lit .i64 (1 : Int)), .c (.int .u32 r.5), .c (.int .u32 r.6), .c (.bl true)] 40])))) := by kernel_rfl
set_option maxRecDepth 100000 in
theorem x_ref5 {p : InP} {l : List Int} {c : Int} {xs : List Tk} {m : Nat} {rs : List Rf} {lw : List Int} {r : Rf} : (exec cfgM 100 b14 ([rfA r (.lit .i64 5), .sli 5 (.c 0) 1 (.v lw.length) none] ++ List.replicate 104 .bad) (s3b p l c xs m rs lw)).bind (canonK 8 [(0,0)] 106 [4, 5]) =
 

 (.need (inR .i64 (r.1 + (1 : Int)))

 (.br (r.3 == (0 : Int))

 (.ret (.ret, [.ptr 8 0, .sli 5 (.c 0) 1 (.v lw.length) none], [.ro encLook [PUnit.unit], .own [.c (.sli 2 (.c 0) 1 (.v 4) (some (.v 4))), .c (.int .i64 c)] 62, .own [.a (encInt IntKind.u32) 4 l] 23, .many encTk xs 70, .ro (encInt IntKind.i64) p.3, .vec (encInt IntKind.u32) lw 23, .vec (encP 3) (List.range m) 37, .vec encRf rs 40, .own [.c (.int .i64 r.1), .c (.int .i64 r.2), .c (.int .i64 r.3), .c (.lit .i64 (1 : Int)), .c (.int .u32 r.5), .c (.int .u32 r.6), .c (.bl true)] 40]))

 (.br (decide ((0 : Int) ≤ r.1 + (1 : Int)))

 (.br (!decide (r.1 + (1 : Int) < (↑lw.length : Int)))

 (.ret (.ret, [.ptr 8 0, .sli 5 (.c 0) 1 (.v lw.length) none], [.ro encLook [PUnit.unit], .own [.c (.sli 2 (.c 0) 1 (.v 4) (some (.v 4))), .c (.int .i64 c)] 62, .own [.a (encInt IntKind.u32) 4 l] 23, .many encTk xs 70, .ro (encInt IntKind.i64) p.3, .vec (encInt IntKind.u32) lw 23, .vec (encP 3) (List.range m) 37, .vec encRf rs 40, .own [.c (.int .i64 r.1), .c (.int .i64 r.2), .c (.int .i64 r.3), .c (.lit .i64 (1 : Int)), .c (.int .u32 r.5), .c (.int .u32 r.6), .c (.bl true)] 40]))

 (.need (decide (0 + lw.length ≤ lw.length))

 (.need (decide (0 + lw.length ≤ lw.length))

 (.need (roomy (List.take lw.length (List.drop 0 lw)).length 4)

 (.need (decide ((0 : Int) ≤ r.1 + (1 : Int)) && decide ((r.1 + (1 : Int)).toNat < (List.take lw.length (List.drop 0 lw)).length))

 (.need (decide ((r.1 + (1 : Int)).toNat < (List.take lw.length (List.drop 0 lw)).length))

 (.need (inR .i64 (r.3 - (1 : Int)))

 (.ret (.ret, [.ptr 8 0, .sli 9 (.c 0) 1 (.v (List.take lw.length (List.drop 0 lw)).length) none], [.ro encLook [PUnit.unit], .own [.c (.sli 2 (.c 0) 1 (.v 4) (some (.v 4))), .c (.int .i64 c)] 62, .own [.a (encInt IntKind.u32) 4 l] 23, .many encTk xs 70, .ro (encInt IntKind.i64) p.3, .vec (encInt IntKind.u32) lw 23, .vec (encP 3) (List.range m) 37, .vec encRf rs 40, .own [.c (.int .i64 r.1), .c (.int .i64 r.2), .c (.int .i64 (r.3 - (1 : Int))), .c (.lit .i64 (1 : Int)), .c (.int .u32 r.5), .c (.int .u32 r.6), .c (.sb (r.3 - (1 : Int) == (0 : Int)))] 40, .vec (encInt IntKind.u32) ((List.take lw.length (List.drop 0 lw)).set (r.1 + (1 : Int)).toNat (IntKind.u32.wrap (r.5 + (1 : Int)))) 23])))))))))

 (.ret (.ret, [.ptr 8 0, .sli 5 (.c 0) 1 (.v lw.length) none], [.ro encLook [PUnit.unit], .own [.c (.sli 2 (.c 0) 1 (.v 4) (some (.v 4))), .c (.int .i64 c)] 62, .own [.a (encInt IntKind.u32) 4 l] 23, .many encTk xs 70, .ro (encInt IntKind.i64) p.3, .vec (encInt IntKind.u32) lw 23, .vec (encP 3) (List.range m) 37, .vec encRf rs 40, .own [.c (.int .i64 r.1), .c (.int .i64 r.2), .c (.int .i64 r.3), .c (.lit .i64 (1 : Int)), .c (.int .u32 r.5), .c (.int .u32 r.6), .c (.bl true)] 40]))))) := by kernel_rfl
end Go.Proofs.YthofahgnglfaeaaDoor

/- TicketPlays: the document's step. -/
namespace Go.Proofs.YthofahgnglfaeaaDoor
open Go Go.Proofs.YthofahgnglfaeaaDoor.Sx
set_option linter.unusedVariables false
theorem b14_eq : Tryd.f14.body = some b14 := by kernel_rfl
abbrev rfB (r : Rf) : Blk := .own [.c (.int .i64 r.at'), .c (.int .i64 r.cell), .c (.int .i64 r.left), .c (.int .i64 r.next), .c (.int .u32 r.ticket), .c (.int .u32 r.v), .c (.sb r.done)] 40
abbrev rfV (r : Rf) : SVal := rfA r (.int .i64 r.next)
abbrev outR (r : Rf) : Rf := {r with done := true, next := 1}
set_option maxHeartbeats 1000000 in
theorem ref_ok {p : InP} {l : List Int} {c : Int} {xs : List Tk} {m : Nat} {rs : List Rf} {lw : List Int} {r : Rf} (hn : 1 ≤ r.next ∧ r.next ≤ 5) (ha : -1000 ≤ r.at' ∧ r.at' ≤ 1000) (hl : 0 ≤ r.left ∧ r.left ≤ 1000) (hw : lw.length ≤ 50) (hk : okR r lw = true) :
    ∀ (env : Env) (w : World) (vs : List Value), GlOk cfgM.gl env → Rep env (s3b p l c xs m rs lw) w → DenL env [rfV r, .sli 5 (.c 0) 1 (.v lw.length) none] vs →
    Calls cfgM.P 14 ⟨vs⟩ w (Ends1 env (s3b p l c xs m rs lw) w (.tup [rfV (rfP r lw), .sli 9 (.c 0) 1 (.v lw.length) none]) (s3b p l c xs m rs lw ++ [rfB (rfP r lw), .vec (encInt .u32) (rwP r lw) 23])) := by
  intro env w vs hg hr hd
  obtain ⟨at', cell, left, next, ticket, v, done⟩ := r
  simp only [okR, Bool.and_eq_true, Bool.not_eq_true', beq_eq_false_iff_ne, inP_iff] at hk
  simp only at hl hn ha
  have htk : List.take lw.length (List.drop 0 lw) = lw := by simp
  match next, hn with
  | 1, _ =>
    simp only [atR] at hk
    refine AtK.begin (c := cfgM) Tryd.func14 b14_eq (args := [rfA ⟨at', cell, left, 1, ticket, v, done⟩ (.lit .i64 1), .sli 5 (.c 0) 1 (.v lw.length) none]) hg hr hd fun a hA => ?_
    refine pieceTK2 (c := cfgM) cfgM_ok [4, 5] x_ref1 (by rw [hr.len]; simp) (by simp) hA ?_
    rw [htk]
    repeat' (first
      | (refine all_brp (by simp only [decide_eq_true_eq, Bool.not_eq_true', decide_eq_false_iff_not, beq_iff_eq]; exact Iff.rfl) (fun _ => ?_) (fun _ => ?_) <;> try (exfalso; omega))
      | refine all_needq (by simp only [decide_eq_true_eq, Bool.and_eq_true, inR_i64, roomy_iff]; exact Iff.rfl) (by omega) ?_
      | refine all_need rfl (fun _ => ?_)
      | refine all_eq rfl ?_
      | refine all_br (fun hq => ?_) (fun hq => ?_))
    all_goals
      refine all_ret fun env' a' w' hA' => ?_
      have h2 := hA'.on fun h => h.gen (st' := s3b p l c xs m rs lw ++ [rfB (rfP (⟨at', cell, left, 1, ticket, v, done⟩ : Rf) lw), .vec (encInt .u32) (rwP (⟨at', cell, left, 1, ticket, v, done⟩ : Rf) lw) 23]) rfl
      exact h2.out (c := cfgM) (by kernel_rfl)
  | 2, _ =>
    simp only [atR] at hk
    refine AtK.begin (c := cfgM) Tryd.func14 b14_eq (args := [rfA ⟨at', cell, left, 2, ticket, v, done⟩ (.lit .i64 2), .sli 5 (.c 0) 1 (.v lw.length) none]) hg hr hd fun a hA => ?_
    refine pieceTK2 (c := cfgM) cfgM_ok [4, 5] x_ref2 (by rw [hr.len]; simp) (by simp) hA ?_
    rw [htk]
    repeat' (first
      | (refine all_brp (by simp only [decide_eq_true_eq, Bool.not_eq_true', decide_eq_false_iff_not, beq_iff_eq]; exact Iff.rfl) (fun _ => ?_) (fun _ => ?_) <;> try (exfalso; omega))
      | refine all_needq (by simp only [decide_eq_true_eq, Bool.and_eq_true, inR_i64, roomy_iff]; exact Iff.rfl) (by omega) ?_
      | refine all_need rfl (fun _ => ?_)
      | refine all_eq rfl ?_
      | refine all_br (fun hq => ?_) (fun hq => ?_))
    all_goals
      rename_i hx
      refine all_ret fun env' a' w' hA' => ?_
      have h2 := hA'.on fun h => h.gen (st' := s3b p l c xs m rs lw ++ [rfB (rfP (⟨at', cell, left, 2, ticket, v, done⟩ : Rf) lw), .vec (encInt .u32) (rwP (⟨at', cell, left, 2, ticket, v, done⟩ : Rf) lw) 23]) (by first | (simp only [rfP, rwP, atR, beq_iff_eq.2 hx]; rfl) | (simp only [rfP, rwP, atR, beq_eq_false_iff_ne.2 hx]; rfl))
      exact h2.out (c := cfgM) (by kernel_rfl)
  | 3, _ =>
    simp only [atR] at hk
    refine AtK.begin (c := cfgM) Tryd.func14 b14_eq (args := [rfA ⟨at', cell, left, 3, ticket, v, done⟩ (.lit .i64 3), .sli 5 (.c 0) 1 (.v lw.length) none]) hg hr hd fun a hA => ?_
    refine pieceTK2 (c := cfgM) cfgM_ok [4, 5] x_ref3 (by rw [hr.len]; simp) (by simp) hA ?_
    rw [htk]
    repeat' (first
      | (refine all_brp (by simp only [decide_eq_true_eq, Bool.not_eq_true', decide_eq_false_iff_not, beq_iff_eq]; exact Iff.rfl) (fun _ => ?_) (fun _ => ?_) <;> try (exfalso; omega))
      | refine all_needq (by simp only [decide_eq_true_eq, Bool.and_eq_true, inR_i64, roomy_iff]; exact Iff.rfl) (by omega) ?_
      | refine all_need rfl (fun _ => ?_)
      | refine all_eq rfl ?_
      | refine all_br (fun hq => ?_) (fun hq => ?_))
    all_goals
      refine all_ret fun env' a' w' hA' => ?_
      have h2 := hA'.on fun h => h.gen (st' := s3b p l c xs m rs lw ++ [rfB (rfP (⟨at', cell, left, 3, ticket, v, done⟩ : Rf) lw), .vec (encInt .u32) (rwP (⟨at', cell, left, 3, ticket, v, done⟩ : Rf) lw) 23]) rfl
      exact h2.out (c := cfgM) (by kernel_rfl)
  | 4, _ =>
    simp only [atR] at hk
    refine AtK.begin (c := cfgM) Tryd.func14 b14_eq (args := [rfA ⟨at', cell, left, 4, ticket, v, done⟩ (.lit .i64 4), .sli 5 (.c 0) 1 (.v lw.length) none]) hg hr hd fun a hA => ?_
    refine pieceTK2 (c := cfgM) cfgM_ok [4, 5] x_ref4 (by rw [hr.len]; simp) (by simp) hA ?_
    rw [htk]
    repeat' (first
      | (refine all_brp (by simp only [decide_eq_true_eq, Bool.not_eq_true', decide_eq_false_iff_not, beq_iff_eq]; exact Iff.rfl) (fun _ => ?_) (fun _ => ?_) <;> try (exfalso; omega))
      | refine all_needq (by simp only [decide_eq_true_eq, Bool.and_eq_true, inR_i64, roomy_iff]; exact Iff.rfl) (by omega) ?_
      | refine all_need rfl (fun _ => ?_)
      | refine all_eq rfl ?_
      | refine all_br (fun hq => ?_) (fun hq => ?_))
    all_goals
      refine all_ret fun env' a' w' hA' => ?_
      have h2 := hA'.on fun h => h.gen (st' := s3b p l c xs m rs lw ++ [rfB (rfP (⟨at', cell, left, 4, ticket, v, done⟩ : Rf) lw), .vec (encInt .u32) (rwP (⟨at', cell, left, 4, ticket, v, done⟩ : Rf) lw) 23]) rfl
      exact h2.out (c := cfgM) (by kernel_rfl)
  | 5, _ =>
    simp only [atR] at hk
    refine AtK.begin (c := cfgM) Tryd.func14 b14_eq (args := [rfA ⟨at', cell, left, 5, ticket, v, done⟩ (.lit .i64 5), .sli 5 (.c 0) 1 (.v lw.length) none]) hg hr hd fun a hA => ?_
    refine pieceTK2 (c := cfgM) cfgM_ok [4, 5] x_ref5 (by rw [hr.len]; simp) (by simp) hA ?_
    rw [htk]
    repeat' (first
      | (refine all_brp (by simp only [decide_eq_true_eq, Bool.not_eq_true', decide_eq_false_iff_not, beq_iff_eq]; exact Iff.rfl) (fun _ => ?_) (fun _ => ?_) <;> try (exfalso; omega))
      | refine all_needq (by simp only [decide_eq_true_eq, Bool.and_eq_true, inR_i64, roomy_iff]; exact Iff.rfl) (by omega) ?_
      | refine all_need rfl (fun _ => ?_)
      | refine all_eq rfl ?_
      | refine all_br (fun hq => ?_) (fun hq => ?_))
    all_goals
      refine all_ret fun env' a' w' hA' => ?_
      have h2 := hA'.on fun h => h.gen (st' := s3b p l c xs m rs lw ++ [rfB (rfP (⟨at', cell, left, 5, ticket, v, done⟩ : Rf) lw), .vec (encInt .u32) (rwP (⟨at', cell, left, 5, ticket, v, done⟩ : Rf) lw) 23]) rfl
      exact h2.out (c := cfgM) (by kernel_rfl)
set_option maxHeartbeats 1000000 in
theorem ref_no {p : InP} {l : List Int} {c : Int} {xs : List Tk} {m : Nat} {rs : List Rf} {lw : List Int} {r : Rf} (hn : 1 ≤ r.next ∧ r.next ≤ 5) (ha : -1000 ≤ r.at' ∧ r.at' ≤ 1000) (hl : 0 ≤ r.left ∧ r.left ≤ 1000) (hw : lw.length ≤ 50) (hk : okR r lw = false) :
    ∀ (env : Env) (w : World) (vs : List Value), GlOk cfgM.gl env → Rep env (s3b p l c xs m rs lw) w → DenL env [rfV r, .sli 5 (.c 0) 1 (.v lw.length) none] vs →
    Calls cfgM.P 14 ⟨vs⟩ w (Ends1 env (s3b p l c xs m rs lw) w (.tup [rfV (outR r), .sli 5 (.c 0) 1 (.v lw.length) none]) (s3b p l c xs m rs lw ++ [rfB (outR r)])) := by
  intro env w vs hg hr hd
  obtain ⟨at', cell, left, next, ticket, v, done⟩ := r
  rw [← Bool.not_eq_true] at hk
  simp only [okR, Bool.and_eq_true, Bool.not_eq_true', beq_eq_false_iff_ne, inP_iff] at hk
  simp only at hl hn ha
  have htk : List.take lw.length (List.drop 0 lw) = lw := by simp
  match next, hn with
  | 1, _ =>
    simp only [atR] at hk
    refine AtK.begin (c := cfgM) Tryd.func14 b14_eq (args := [rfA ⟨at', cell, left, 1, ticket, v, done⟩ (.lit .i64 1), .sli 5 (.c 0) 1 (.v lw.length) none]) hg hr hd fun a hA => ?_
    refine pieceTK2 (c := cfgM) cfgM_ok [4, 5] x_ref1 (by rw [hr.len]; simp) (by simp) hA ?_
    rw [htk]
    repeat' (first
      | (refine all_brp (by simp only [decide_eq_true_eq, Bool.not_eq_true', decide_eq_false_iff_not, beq_iff_eq]; exact Iff.rfl) (fun _ => ?_) (fun _ => ?_) <;> try (exfalso; omega))
      | refine all_needq (by simp only [decide_eq_true_eq, Bool.and_eq_true, inR_i64, roomy_iff]; exact Iff.rfl) (by omega) ?_
      | refine all_need rfl (fun _ => ?_)
      | refine all_eq rfl ?_
      | refine all_br (fun hq => ?_) (fun hq => ?_))
    all_goals
      refine all_ret fun env' a' w' hA' => ?_
      have h2 := hA'.on fun h => h.gen (st' := s3b p l c xs m rs lw ++ [rfB (outR (⟨at', cell, left, 1, ticket, v, done⟩ : Rf))]) rfl
      exact h2.out (c := cfgM) (by kernel_rfl)
  | 2, _ =>
    simp only [atR] at hk
    refine AtK.begin (c := cfgM) Tryd.func14 b14_eq (args := [rfA ⟨at', cell, left, 2, ticket, v, done⟩ (.lit .i64 2), .sli 5 (.c 0) 1 (.v lw.length) none]) hg hr hd fun a hA => ?_
    refine pieceTK2 (c := cfgM) cfgM_ok [4, 5] x_ref2 (by rw [hr.len]; simp) (by simp) hA ?_
    rw [htk]
    repeat' (first
      | (refine all_brp (by simp only [decide_eq_true_eq, Bool.not_eq_true', decide_eq_false_iff_not, beq_iff_eq]; exact Iff.rfl) (fun _ => ?_) (fun _ => ?_) <;> try (exfalso; omega))
      | refine all_needq (by simp only [decide_eq_true_eq, Bool.and_eq_true, inR_i64, roomy_iff]; exact Iff.rfl) (by omega) ?_
      | refine all_need rfl (fun _ => ?_)
      | refine all_eq rfl ?_
      | refine all_br (fun hq => ?_) (fun hq => ?_))
    all_goals
      refine all_ret fun env' a' w' hA' => ?_
      have h2 := hA'.on fun h => h.gen (st' := s3b p l c xs m rs lw ++ [rfB (outR (⟨at', cell, left, 2, ticket, v, done⟩ : Rf))]) rfl
      exact h2.out (c := cfgM) (by kernel_rfl)
  | 3, _ =>
    simp only [atR] at hk
    refine AtK.begin (c := cfgM) Tryd.func14 b14_eq (args := [rfA ⟨at', cell, left, 3, ticket, v, done⟩ (.lit .i64 3), .sli 5 (.c 0) 1 (.v lw.length) none]) hg hr hd fun a hA => ?_
    refine pieceTK2 (c := cfgM) cfgM_ok [4, 5] x_ref3 (by rw [hr.len]; simp) (by simp) hA ?_
    rw [htk]
    repeat' (first
      | (refine all_brp (by simp only [decide_eq_true_eq, Bool.not_eq_true', decide_eq_false_iff_not, beq_iff_eq]; exact Iff.rfl) (fun _ => ?_) (fun _ => ?_) <;> try (exfalso; omega))
      | refine all_needq (by simp only [decide_eq_true_eq, Bool.and_eq_true, inR_i64, roomy_iff]; exact Iff.rfl) (by omega) ?_
      | refine all_need rfl (fun _ => ?_)
      | refine all_eq rfl ?_
      | refine all_br (fun hq => ?_) (fun hq => ?_))
    all_goals
      refine all_ret fun env' a' w' hA' => ?_
      have h2 := hA'.on fun h => h.gen (st' := s3b p l c xs m rs lw ++ [rfB (outR (⟨at', cell, left, 3, ticket, v, done⟩ : Rf))]) rfl
      exact h2.out (c := cfgM) (by kernel_rfl)
  | 4, _ =>
    simp only [atR] at hk
    refine AtK.begin (c := cfgM) Tryd.func14 b14_eq (args := [rfA ⟨at', cell, left, 4, ticket, v, done⟩ (.lit .i64 4), .sli 5 (.c 0) 1 (.v lw.length) none]) hg hr hd fun a hA => ?_
    refine pieceTK2 (c := cfgM) cfgM_ok [4, 5] x_ref4 (by rw [hr.len]; simp) (by simp) hA ?_
    rw [htk]
    repeat' (first
      | (refine all_brp (by simp only [decide_eq_true_eq, Bool.not_eq_true', decide_eq_false_iff_not, beq_iff_eq]; exact Iff.rfl) (fun _ => ?_) (fun _ => ?_) <;> try (exfalso; omega))
      | refine all_needq (by simp only [decide_eq_true_eq, Bool.and_eq_true, inR_i64, roomy_iff]; exact Iff.rfl) (by omega) ?_
      | refine all_need rfl (fun _ => ?_)
      | refine all_eq rfl ?_
      | refine all_br (fun hq => ?_) (fun hq => ?_))
    all_goals
      refine all_ret fun env' a' w' hA' => ?_
      have h2 := hA'.on fun h => h.gen (st' := s3b p l c xs m rs lw ++ [rfB (outR (⟨at', cell, left, 4, ticket, v, done⟩ : Rf))]) rfl
      exact h2.out (c := cfgM) (by kernel_rfl)
  | 5, _ =>
    simp only [atR] at hk
    refine AtK.begin (c := cfgM) Tryd.func14 b14_eq (args := [rfA ⟨at', cell, left, 5, ticket, v, done⟩ (.lit .i64 5), .sli 5 (.c 0) 1 (.v lw.length) none]) hg hr hd fun a hA => ?_
    refine pieceTK2 (c := cfgM) cfgM_ok [4, 5] x_ref5 (by rw [hr.len]; simp) (by simp) hA ?_
    rw [htk]
    repeat' (first
      | (refine all_brp (by simp only [decide_eq_true_eq, Bool.not_eq_true', decide_eq_false_iff_not, beq_iff_eq]; exact Iff.rfl) (fun _ => ?_) (fun _ => ?_) <;> try (exfalso; omega))
      | refine all_needq (by simp only [decide_eq_true_eq, Bool.and_eq_true, inR_i64, roomy_iff]; exact Iff.rfl) (by omega) ?_
      | refine all_need rfl (fun _ => ?_)
      | refine all_eq rfl ?_
      | refine all_br (fun hq => ?_) (fun hq => ?_))
    all_goals
      refine all_ret fun env' a' w' hA' => ?_
      have h2 := hA'.on fun h => h.gen (st' := s3b p l c xs m rs lw ++ [rfB (outR (⟨at', cell, left, 5, ticket, v, done⟩ : Rf))]) rfl
      exact h2.out (c := cfgM) (by kernel_rfl)
end Go.Proofs.YthofahgnglfaeaaDoor

/- TicketPlays: the configurations of a round. -/
namespace Go.Proofs.YthofahgnglfaeaaDoor
open Go Go.Proofs.YthofahgnglfaeaaDoor.Sx
set_option linter.unusedVariables false
/-- what the document's step may be asked -/
structure RfOk (r : Rf) (lw : List Int) : Prop where
  next : 1 ≤ r.next ∧ r.next ≤ 5
  at' : -1000 ≤ r.at' ∧ r.at' ≤ 1000
  left : 0 ≤ r.left ∧ r.left ≤ 1000
  len : lw.length ≤ 50
noncomputable def cfgR (p : InP) (l : List Int) (c : Int) (xs : List Tk) (m : Nat) (rs : List Rf) (lw : List Int) (r : Rf) : Cfg := { P := Tryd.prog, ex := exI, gl := [(0, 0)], sm := fun g => match g with
  | 14 => some (smEq [rfV r, .sli 5 (.c 0) 1 (.v lw.length) none] (s3b p l c xs m rs lw) (RfOk r lw ∧ okR r lw = true) (.tup [rfV (rfP r lw), .sli 9 (.c 0) 1 (.v lw.length) none]) (s3b p l c xs m rs lw ++ [rfB (rfP r lw), .vec (encInt .u32) (rwP r lw) 23]))
  | _ => none }
theorem cfgR_ok {p : InP} {l : List Int} {c : Int} {xs : List Tk} {m : Nat} {rs : List Rf} {lw : List Int} {r : Rf} : SmOk (cfgR p l c xs m rs lw r) := by
  intro g h e
  simp only [cfgR] at e
  split at e
  · simp only [Option.some.injEq] at e; subst e
    exact smEq_ok (c := cfgR p l c xs m rs lw r) fun h => ref_ok h.1.next h.1.at' h.1.left h.1.len h.2
  · cases e
noncomputable def cfgN (p : InP) (l : List Int) (c : Int) (xs : List Tk) (m : Nat) (rs : List Rf) (lw : List Int) (r : Rf) : Cfg := { P := Tryd.prog, ex := exI, gl := [(0, 0)], sm := fun g => match g with
  | 14 => some (smEq [rfV r, .sli 5 (.c 0) 1 (.v lw.length) none] (s3b p l c xs m rs lw) (RfOk r lw ∧ okR r lw = false) (.tup [rfV (outR r), .sli 5 (.c 0) 1 (.v lw.length) none]) (s3b p l c xs m rs lw ++ [rfB (outR r)]))
  | _ => none }
theorem cfgN_ok {p : InP} {l : List Int} {c : Int} {xs : List Tk} {m : Nat} {rs : List Rf} {lw : List Int} {r : Rf} : SmOk (cfgN p l c xs m rs lw r) := by
  intro g h e
  simp only [cfgN] at e
  split at e
  · simp only [Option.some.injEq] at e; subst e
    exact smEq_ok (c := cfgN p l c xs m rs lw r) fun h => ref_no h.1.next h.1.at' h.1.left h.1.len h.2
  · cases e
/-- a row of the document's takers, a cell of it put -/
def setR (f : Rf → Rf) (rs : List Rf) (k : Nat) : List Rf := rs.set k (f (rs.getD k ⟨0, 0, 0, 0, 0, 0, false⟩))
def pR1 (r : Rf) (rs : List Rf) (k : Nat) : List Rf := setR (fun x => ⟨r.at', x.cell, x.left, x.next, x.ticket, x.v, x.done⟩) rs k
def pR2 (r : Rf) (rs : List Rf) (k : Nat) : List Rf := setR (fun x => ⟨x.at', r.cell, x.left, x.next, x.ticket, x.v, x.done⟩) (pR1 r rs k) k
def pR3 (r : Rf) (rs : List Rf) (k : Nat) : List Rf := setR (fun x => ⟨x.at', x.cell, r.left, x.next, x.ticket, x.v, x.done⟩) (pR2 r rs k) k
def pR4 (r : Rf) (rs : List Rf) (k : Nat) : List Rf := setR (fun x => ⟨x.at', x.cell, x.left, r.next, x.ticket, x.v, x.done⟩) (pR3 r rs k) k
def pR5 (r : Rf) (rs : List Rf) (k : Nat) : List Rf := setR (fun x => ⟨x.at', x.cell, x.left, x.next, r.ticket, x.v, x.done⟩) (pR4 r rs k) k
def pR6 (r : Rf) (rs : List Rf) (k : Nat) : List Rf := setR (fun x => ⟨x.at', x.cell, x.left, x.next, x.ticket, r.v, x.done⟩) (pR5 r rs k) k
def pR7 (r : Rf) (rs : List Rf) (k : Nat) : List Rf := setR (fun x => ⟨x.at', x.cell, x.left, x.next, x.ticket, x.v, r.done⟩) (pR6 r rs k) k
theorem setR_len (f : Rf → Rf) (rs : List Rf) (k : Nat) : (setR f rs k).length = rs.length := by simp [setR]
theorem setR_setR (f g : Rf → Rf) {rs : List Rf} {k : Nat} (h : k < rs.length) : setR g (setR f rs k) k = setR (fun x => g (f x)) rs k := by
  unfold setR
  rw [List.set_set, getD_set_self h]
theorem pR7_eq (r : Rf) {rs : List Rf} {k : Nat} (h : k < rs.length) : pR7 r rs k = rs.set k r := by
  simp only [pR7, pR6, pR5, pR4, pR3, pR2, pR1, setR_setR _ _ h]
  rfl
end Go.Proofs.YthofahgnglfaeaaDoor

namespace Go.Proofs.YthofahgnglfaeaaDoor
open Go Go.Proofs.YthofahgnglfaeaaDoor.Sx
set_option linter.unusedVariables false
set_option maxRecDepth 100000 in
theorem x_rok {p : InP} {l : List Int} {c : Int} {xs : List Tk} {m : Nat} {rs : List Rf} {lw : List Int} {r : Rf} {i : Nat} {k : Int} : (execN (cfgR p l c xs m rs lw r) 100 2 (restC 2 bb3b) (fr 210 n3f (v3b p m lw.length ++ [.int .i64 (i : Nat), .int .i64 k])) (s3b p l c xs m rs lw)).bind (canonK 5 [(0,0)] 210 n3g) =
 (.need (decide ((0 : Int) ≤ k) && decide (k.toNat < m))
 (.need (decide (k.toNat < rs.length))
 (.need (decide (k.toNat < rs.length))
 (.need (decide (k.toNat < rs.length))
 (.need (decide (k.toNat < rs.length))
 (.need (decide (k.toNat < rs.length))
 (.need (decide (k.toNat < rs.length))
 (.need (decide (k.toNat < rs.length))
 (.eq ([SVal.agg [.int .i64 (rs.getD k.toNat { at' := (0 : Int), cell := (0 : Int), left := (0 : Int), next := 0, ticket := (0 : Int), v := (0 : Int), done := false }).at', .int .i64 (rs.getD k.toNat { at' := (0 : Int), cell := (0 : Int), left := (0 : Int), next := 0, ticket := (0 : Int), v := (0 : Int), done := false }).cell, .int .i64 (rs.getD k.toNat { at' := (0 : Int), cell := (0 : Int), left := (0 : Int), next := 0, ticket := (0 : Int), v := (0 : Int), done := false }).left, .int .i64 (↑(rs.getD k.toNat { at' := (0 : Int), cell := (0 : Int), left := (0 : Int), next := 0, ticket := (0 : Int), v := (0 : Int), done := false }).next : Int), .int .u32 (rs.getD k.toNat { at' := (0 : Int), cell := (0 : Int), left := (0 : Int), next := 0, ticket := (0 : Int), v := (0 : Int), done := false }).ticket, .int .u32 (rs.getD k.toNat { at' := (0 : Int), cell := (0 : Int), left := (0 : Int), next := 0, ticket := (0 : Int), v := (0 : Int), done := false }).v, .sb (rs.getD k.toNat { at' := (0 : Int), cell := (0 : Int), left := (0 : Int), next := 0, ticket := (0 : Int), v := (0 : Int), done := false }).done], .sli 5 (.c 0) 1 (.v lw.length) none] = [SVal.agg [.int .i64 r.1, .int .i64 r.2, .int .i64 r.3, .int .i64 (↑r.4 : Int), .int .u32 r.5, .int .u32 r.6, .sb r.7], .sli 5 (.c 0) 1 (.v lw.length) none] ∧ [Blk.ro encLook [PUnit.unit], .own [.c (.sli 2 (.c 0) 1 (.v 4) (some (.v 4))), .c (.int .i64 c)] 62, .own [.a (encInt IntKind.u32) 4 l] 23, .many encTk xs 70, .ro (encInt IntKind.i64) p.3, .vec (encInt IntKind.u32) lw 23, .vec (encP 3) (List.range m) 37, .vec encRf rs 40] = [Blk.ro encLook [PUnit.unit], .own [.c (.sli 2 (.c 0) 1 (.v 4) (some (.v 4))), .c (.int .i64 c)] 62, .own [.a (encInt IntKind.u32) 4 l] 23, .many encTk xs 70, .ro (encInt IntKind.i64) p.3, .vec (encInt IntKind.u32) lw 23, .vec (encP 3) (List.range m) 37, .vec encRf rs 40] ∧ RfOk r lw ∧ okR r lw = true)
 (.need (decide ((0 : Int) ≤ k) && decide (k.toNat < m))
 (.need (decide (k.toNat < rs.length))
 (.need (decide (k.toNat < (pR1 (rfP r lw) rs k.toNat).length))
 (.need (decide (k.toNat < (pR2 (rfP r lw) rs k.toNat).length))
 (.need (decide (k.toNat < (pR3 (rfP r lw) rs k.toNat).length))
 (.need (decide (k.toNat < (pR4 (rfP r lw) rs k.toNat).length))
 (.need (decide (k.toNat < (pR5 (rfP r lw) rs k.toNat).length))
 (.need (decide (k.toNat < (pR6 (rfP r lw) rs k.toNat).length))
 (.ret (.normal, [.sli 4 (.c 0) 1 (.v p.3.length) (some (.v p.4)), .ptr 1 0, .sli 5 (.c 0) 1 (.v lw.length) none, .sli 6 (.c 0) 1 (.v m) none, .sli 7 (.c 0) 7 (.v m) none, .int .i64 (↑i : Int), .int .i64 k, .ptr 8 0], [.ro encLook [PUnit.unit], .own [.c (.sli 2 (.c 0) 1 (.v 4) (some (.v 4))), .c (.int .i64 c)] 62, .own [.a (encInt IntKind.u32) 4 l] 23, .many encTk xs 70, .ro (encInt IntKind.i64) p.3, .vec (encInt IntKind.u32) (rwP r lw) 23, .vec (encP 3) (List.range m) 37, .vec encRf (pR7 (rfP r lw) rs k.toNat) 40, rfB (rfP r lw)]))))))))))))))))))) := by kernel_rfl
set_option maxRecDepth 100000 in
theorem x_rno {p : InP} {l : List Int} {c : Int} {xs : List Tk} {m : Nat} {rs : List Rf} {lw : List Int} {r : Rf} {i : Nat} {k : Int} : (execN (cfgN p l c xs m rs lw r) 100 2 (restC 2 bb3b) (fr 210 n3f (v3b p m lw.length ++ [.int .i64 (i : Nat), .int .i64 k])) (s3b p l c xs m rs lw)).bind (canonK 5 [(0,0)] 210 n3g) =
 (.need (decide ((0 : Int) ≤ k) && decide (k.toNat < m))
 (.need (decide (k.toNat < rs.length))
 (.need (decide (k.toNat < rs.length))
 (.need (decide (k.toNat < rs.length))
 (.need (decide (k.toNat < rs.length))
 (.need (decide (k.toNat < rs.length))
 (.need (decide (k.toNat < rs.length))
 (.need (decide (k.toNat < rs.length))
 (.eq ([SVal.agg [.int .i64 (rs.getD k.toNat { at' := (0 : Int), cell := (0 : Int), left := (0 : Int), next := 0, ticket := (0 : Int), v := (0 : Int), done := false }).at', .int .i64 (rs.getD k.toNat { at' := (0 : Int), cell := (0 : Int), left := (0 : Int), next := 0, ticket := (0 : Int), v := (0 : Int), done := false }).cell, .int .i64 (rs.getD k.toNat { at' := (0 : Int), cell := (0 : Int), left := (0 : Int), next := 0, ticket := (0 : Int), v := (0 : Int), done := false }).left, .int .i64 (↑(rs.getD k.toNat { at' := (0 : Int), cell := (0 : Int), left := (0 : Int), next := 0, ticket := (0 : Int), v := (0 : Int), done := false }).next : Int), .int .u32 (rs.getD k.toNat { at' := (0 : Int), cell := (0 : Int), left := (0 : Int), next := 0, ticket := (0 : Int), v := (0 : Int), done := false }).ticket, .int .u32 (rs.getD k.toNat { at' := (0 : Int), cell := (0 : Int), left := (0 : Int), next := 0, ticket := (0 : Int), v := (0 : Int), done := false }).v, .sb (rs.getD k.toNat { at' := (0 : Int), cell := (0 : Int), left := (0 : Int), next := 0, ticket := (0 : Int), v := (0 : Int), done := false }).done], .sli 5 (.c 0) 1 (.v lw.length) none] = [SVal.agg [.int .i64 r.1, .int .i64 r.2, .int .i64 r.3, .int .i64 (↑r.4 : Int), .int .u32 r.5, .int .u32 r.6, .sb r.7], .sli 5 (.c 0) 1 (.v lw.length) none] ∧ [Blk.ro encLook [PUnit.unit], .own [.c (.sli 2 (.c 0) 1 (.v 4) (some (.v 4))), .c (.int .i64 c)] 62, .own [.a (encInt IntKind.u32) 4 l] 23, .many encTk xs 70, .ro (encInt IntKind.i64) p.3, .vec (encInt IntKind.u32) lw 23, .vec (encP 3) (List.range m) 37, .vec encRf rs 40] = [Blk.ro encLook [PUnit.unit], .own [.c (.sli 2 (.c 0) 1 (.v 4) (some (.v 4))), .c (.int .i64 c)] 62, .own [.a (encInt IntKind.u32) 4 l] 23, .many encTk xs 70, .ro (encInt IntKind.i64) p.3, .vec (encInt IntKind.u32) lw 23, .vec (encP 3) (List.range m) 37, .vec encRf rs 40] ∧ RfOk r lw ∧ okR r lw = false)
 (.need (decide ((0 : Int) ≤ k) && decide (k.toNat < m))
 (.need (decide (k.toNat < rs.length))
 (.need (decide (k.toNat < (pR1 (outR r) rs k.toNat).length))
 (.need (decide (k.toNat < (pR2 (outR r) rs k.toNat).length))
 (.need (decide (k.toNat < (pR3 (outR r) rs k.toNat).length))
 (.need (decide (k.toNat < (pR4 (outR r) rs k.toNat).length))
 (.need (decide (k.toNat < (pR5 (outR r) rs k.toNat).length))
 (.need (decide (k.toNat < (pR6 (outR r) rs k.toNat).length))
 (.ret (.normal, [.sli 4 (.c 0) 1 (.v p.3.length) (some (.v p.4)), .ptr 1 0, .sli 5 (.c 0) 1 (.v lw.length) none, .sli 6 (.c 0) 1 (.v m) none, .sli 7 (.c 0) 7 (.v m) none, .int .i64 (↑i : Int), .int .i64 k, .ptr 8 0], [.ro encLook [PUnit.unit], .own [.c (.sli 2 (.c 0) 1 (.v 4) (some (.v 4))), .c (.int .i64 c)] 62, .own [.a (encInt IntKind.u32) 4 l] 23, .many encTk xs 70, .ro (encInt IntKind.i64) p.3, .vec (encInt IntKind.u32) lw 23, .vec (encP 3) (List.range m) 37, .vec encRf (pR7 (outR r) rs k.toNat) 40, rfB (outR r)]))))))))))))))))))) := by kernel_rfl
end Go.Proofs.YthofahgnglfaeaaDoor

/- TicketPlays: the second half of a round. -/
namespace Go.Proofs.YthofahgnglfaeaaDoor
open Go Go.Proofs.YthofahgnglfaeaaDoor.Sx
set_option linter.unusedVariables false
noncomputable def cfgEc (l : List Int) (c : Int) (xs : List Tk) : Cfg := { P := Tryd.prog, ex := exI, gl := [(0, 0)], sm := fun f => match f with | 15 => some (smPre 4 (gStep 4 l c xs)) | 16 => some (fun a st => .eq (a = a ∧ st = st) (.no 999)) | _ => none }
abbrev s3g (p : InP) (l : List Int) (c : Int) (xs : List Tk) (m : Nat) (rs : List Rf) (lw : List Int) (r : Rf) : St := s3b p l c xs m rs lw ++ [rfB r]
abbrev v3g (p : InP) (m n : Nat) (i : Nat) (k : Int) : List SVal := v3b p m n ++ [.int .i64 (i : Nat), .int .i64 k, .ptr 8 0]
end Go.Proofs.YthofahgnglfaeaaDoor

/- Layer 9: comparing two rows of words: pieces. -/
namespace Go.Proofs.YthofahgnglfaeaaDoor
open Go Go.Proofs.YthofahgnglfaeaaDoor.Sx
set_option linter.unusedVariables false
abbrev sSm (p : InP) (c : Int) (xs : List Tk) (m : Nat) (rs : List Rf) (r : Rf) (a b : List Int) : St := s3b p a c xs m rs b ++ [rfB r, .own [.a (encInt .u32) 4 a] 23]
abbrev vSm (b : List Int) : List SVal := [.sli 9 (.c 0) 1 (.v 4) (some (.v 4)), .sli 5 (.c 0) 1 (.v b.length) none]
noncomputable def b16 : Code := Tryd.f16.body.getD .skip
noncomputable def c16 : Code := restC 2 b16
noncomputable def reg16 : Code := lft (lft c16)
noncomputable def blk16 : Code := rgt (lft c16)
noncomputable def round16 : Code := lft (lft blk16)
noncomputable def tm16 : Code := lft round16
noncomputable def bb16 : Code := lft (lft (rgt round16))
noncomputable def inc16 : Code := rgt (rgt round16)
noncomputable def end16 : Code := rgt c16
end Go.Proofs.YthofahgnglfaeaaDoor

namespace Go.Proofs.YthofahgnglfaeaaDoor
open Go Go.Proofs.YthofahgnglfaeaaDoor.Sx
set_option linter.unusedVariables false
set_option maxRecDepth 100000 in
theorem sm_pre {p : InP} {c : Int} {xs : List Tk} {m : Nat} {rs : List Rf} {r : Rf} {a b : List Int} : (execN cfgM 100 2 b16 (vSm b ++ List.replicate 24 .bad) (sSm p c xs m rs r a b)).bind (canonK 10 [(0,0)] 26 [0, 1, 4]) =
 

 (.br ((4 : Int) != (↑b.length : Int))

 (.ret (.ret, [.sli 9 (.c 0) 1 (.v 4) (some (.v 4)), .sli 5 (.c 0) 1 (.v b.length) none, .bl false], [.ro encLook [PUnit.unit], .own [.c (.sli 2 (.c 0) 1 (.v 4) (some (.v 4))), .c (.int .i64 c)] 62, .own [.a (encInt IntKind.u32) 4 a] 23, .many encTk xs 70, .ro (encInt IntKind.i64) p.3, .vec (encInt IntKind.u32) b 23, .vec (encP 3) (List.range m) 37, .vec encRf rs 40, .own [.c (.int .i64 r.1), .c (.int .i64 r.2), .c (.int .i64 r.3), .c (.int .i64 (↑r.4 : Int)), .c (.int .u32 r.5), .c (.int .u32 r.6), .c (.sb r.7)] 40, .own [.a (encInt IntKind.u32) 4 a] 23]))

 (.ret (.normal, [.sli 9 (.c 0) 1 (.v 4) (some (.v 4)), .sli 5 (.c 0) 1 (.v b.length) none, .bl false], [.ro encLook [PUnit.unit], .own [.c (.sli 2 (.c 0) 1 (.v 4) (some (.v 4))), .c (.int .i64 c)] 62, .own [.a (encInt IntKind.u32) 4 a] 23, .many encTk xs 70, .ro (encInt IntKind.i64) p.3, .vec (encInt IntKind.u32) b 23, .vec (encP 3) (List.range m) 37, .vec encRf rs 40, .own [.c (.int .i64 r.1), .c (.int .i64 r.2), .c (.int .i64 r.3), .c (.int .i64 (↑r.4 : Int)), .c (.int .u32 r.5), .c (.int .u32 r.6), .c (.sb r.7)] 40, .own [.a (encInt IntKind.u32) 4 a] 23]))) := by kernel_rfl
set_option maxRecDepth 100000 in
theorem sm_reg {p : InP} {c : Int} {xs : List Tk} {m : Nat} {rs : List Rf} {r : Rf} {a b : List Int} : (exec cfgM 100 reg16 (fr 26 [0, 1] (vSm b)) (sSm p c xs m rs r a b)).bind (canonK 10 [(0,0)] 26 [0, 1, 5]) =
 

 (.ret (.normal, [.sli 9 (.c 0) 1 (.v 4) (some (.v 4)), .sli 5 (.c 0) 1 (.v b.length) none, .lit .i64 (0 : Int)], [.ro encLook [PUnit.unit], .own [.c (.sli 2 (.c 0) 1 (.v 4) (some (.v 4))), .c (.int .i64 c)] 62, .own [.a (encInt IntKind.u32) 4 a] 23, .many encTk xs 70, .ro (encInt IntKind.i64) p.3, .vec (encInt IntKind.u32) b 23, .vec (encP 3) (List.range m) 37, .vec encRf rs 40, .own [.c (.int .i64 r.1), .c (.int .i64 r.2), .c (.int .i64 r.3), .c (.int .i64 (↑r.4 : Int)), .c (.int .u32 r.5), .c (.int .u32 r.6), .c (.sb r.7)] 40, .own [.a (encInt IntKind.u32) 4 a] 23])) := by kernel_rfl
set_option maxRecDepth 100000 in
theorem sm_tm {p : InP} {c : Int} {xs : List Tk} {m : Nat} {rs : List Rf} {r : Rf} {a b : List Int} {i : Nat} : (exec cfgM 100 tm16 (fr 26 [0, 1, 5] (vSm b ++ [.int .i64 (i : Nat)])) (sSm p c xs m rs r a b)).bind (canonK 10 [(0,0)] 26 [0, 1, 5]) =
 

 (.br (decide ((↑i : Int) < (4 : Int)))

 (.ret (.normal, [.sli 9 (.c 0) 1 (.v 4) (some (.v 4)), .sli 5 (.c 0) 1 (.v b.length) none, .int .i64 (↑i : Int)], [.ro encLook [PUnit.unit], .own [.c (.sli 2 (.c 0) 1 (.v 4) (some (.v 4))), .c (.int .i64 c)] 62, .own [.a (encInt IntKind.u32) 4 a] 23, .many encTk xs 70, .ro (encInt IntKind.i64) p.3, .vec (encInt IntKind.u32) b 23, .vec (encP 3) (List.range m) 37, .vec encRf rs 40, .own [.c (.int .i64 r.1), .c (.int .i64 r.2), .c (.int .i64 r.3), .c (.int .i64 (↑r.4 : Int)), .c (.int .u32 r.5), .c (.int .u32 r.6), .c (.sb r.7)] 40, .own [.a (encInt IntKind.u32) 4 a] 23]))

 (.ret (.exit 0, [.sli 9 (.c 0) 1 (.v 4) (some (.v 4)), .sli 5 (.c 0) 1 (.v b.length) none, .int .i64 (↑i : Int)], [.ro encLook [PUnit.unit], .own [.c (.sli 2 (.c 0) 1 (.v 4) (some (.v 4))), .c (.int .i64 c)] 62, .own [.a (encInt IntKind.u32) 4 a] 23, .many encTk xs 70, .ro (encInt IntKind.i64) p.3, .vec (encInt IntKind.u32) b 23, .vec (encP 3) (List.range m) 37, .vec encRf rs 40, .own [.c (.int .i64 r.1), .c (.int .i64 r.2), .c (.int .i64 r.3), .c (.int .i64 (↑r.4 : Int)), .c (.int .u32 r.5), .c (.int .u32 r.6), .c (.sb r.7)] 40, .own [.a (encInt IntKind.u32) 4 a] 23]))) := by kernel_rfl
set_option maxRecDepth 100000 in
theorem sm_bb {p : InP} {c : Int} {xs : List Tk} {m : Nat} {rs : List Rf} {r : Rf} {a b : List Int} {i : Nat} : (exec cfgM 100 bb16 (fr 26 [0, 1, 5] (vSm b ++ [.int .i64 (i : Nat)])) (sSm p c xs m rs r a b)).bind (canonK 10 [(0,0)] 26 [0, 1, 5, 4]) =
 

 (.need (decide ((0 : Int) ≤ (↑i : Int)) && decide ((↑i : Int).toNat < 4))

 (.need (decide ((↑i : Int).toNat < 4))

 (.need (decide ((0 : Int) ≤ (↑i : Int)) && decide ((↑i : Int).toNat < b.length))

 (.need (decide ((↑i : Int).toNat < b.length))

 (.br (a.getD (↑i : Int).toNat (0 : Int) != b.getD (↑i : Int).toNat (0 : Int))

 (.ret (.ret, [.sli 9 (.c 0) 1 (.v 4) (some (.v 4)), .sli 5 (.c 0) 1 (.v b.length) none, .int .i64 (↑i : Int), .bl false], [.ro encLook [PUnit.unit], .own [.c (.sli 2 (.c 0) 1 (.v 4) (some (.v 4))), .c (.int .i64 c)] 62, .own [.a (encInt IntKind.u32) 4 a] 23, .many encTk xs 70, .ro (encInt IntKind.i64) p.3, .vec (encInt IntKind.u32) b 23, .vec (encP 3) (List.range m) 37, .vec encRf rs 40, .own [.c (.int .i64 r.1), .c (.int .i64 r.2), .c (.int .i64 r.3), .c (.int .i64 (↑r.4 : Int)), .c (.int .u32 r.5), .c (.int .u32 r.6), .c (.sb r.7)] 40, .own [.a (encInt IntKind.u32) 4 a] 23]))

 (.ret (.normal, [.sli 9 (.c 0) 1 (.v 4) (some (.v 4)), .sli 5 (.c 0) 1 (.v b.length) none, .int .i64 (↑i : Int), .bad], [.ro encLook [PUnit.unit], .own [.c (.sli 2 (.c 0) 1 (.v 4) (some (.v 4))), .c (.int .i64 c)] 62, .own [.a (encInt IntKind.u32) 4 a] 23, .many encTk xs 70, .ro (encInt IntKind.i64) p.3, .vec (encInt IntKind.u32) b 23, .vec (encP 3) (List.range m) 37, .vec encRf rs 40, .own [.c (.int .i64 r.1), .c (.int .i64 r.2), .c (.int .i64 r.3), .c (.int .i64 (↑r.4 : Int)), .c (.int .u32 r.5), .c (.int .u32 r.6), .c (.sb r.7)] 40, .own [.a (encInt IntKind.u32) 4 a] 23]))))))) := by kernel_rfl
set_option maxRecDepth 100000 in
theorem sm_inc {p : InP} {c : Int} {xs : List Tk} {m : Nat} {rs : List Rf} {r : Rf} {a b : List Int} {i : Nat} : (exec cfgM 100 inc16 (fr 26 [0, 1, 5] (vSm b ++ [.int .i64 (i : Nat)])) (sSm p c xs m rs r a b)).bind (canonK 10 [(0,0)] 26 [0, 1, 5]) =
 

 (.need (inR .i64 ((↑i : Int) + (1 : Int)))

 (.ret (.normal, [.sli 9 (.c 0) 1 (.v 4) (some (.v 4)), .sli 5 (.c 0) 1 (.v b.length) none, .int .i64 ((↑i : Int) + (1 : Int))], [.ro encLook [PUnit.unit], .own [.c (.sli 2 (.c 0) 1 (.v 4) (some (.v 4))), .c (.int .i64 c)] 62, .own [.a (encInt IntKind.u32) 4 a] 23, .many encTk xs 70, .ro (encInt IntKind.i64) p.3, .vec (encInt IntKind.u32) b 23, .vec (encP 3) (List.range m) 37, .vec encRf rs 40, .own [.c (.int .i64 r.1), .c (.int .i64 r.2), .c (.int .i64 r.3), .c (.int .i64 (↑r.4 : Int)), .c (.int .u32 r.5), .c (.int .u32 r.6), .c (.sb r.7)] 40, .own [.a (encInt IntKind.u32) 4 a] 23]))) := by kernel_rfl
set_option maxRecDepth 100000 in
theorem sm_end {p : InP} {c : Int} {xs : List Tk} {m : Nat} {rs : List Rf} {r : Rf} {a b : List Int} {i : Nat} : (exec cfgM 100 end16 (fr 26 [0, 1, 5] (vSm b ++ [.int .i64 (i : Nat)])) (sSm p c xs m rs r a b)).bind (canonK 10 [(0,0)] 26 [4]) =
 

 (.ret (.ret, [.bl true], [.ro encLook [PUnit.unit], .own [.c (.sli 2 (.c 0) 1 (.v 4) (some (.v 4))), .c (.int .i64 c)] 62, .own [.a (encInt IntKind.u32) 4 a] 23, .many encTk xs 70, .ro (encInt IntKind.i64) p.3, .vec (encInt IntKind.u32) b 23, .vec (encP 3) (List.range m) 37, .vec encRf rs 40, .own [.c (.int .i64 r.1), .c (.int .i64 r.2), .c (.int .i64 r.3), .c (.int .i64 (↑r.4 : Int)), .c (.int .u32 r.5), .c (.int .u32 r.6), .c (.sb r.7)] 40, .own [.a (encInt IntKind.u32) 4 a] 23])) := by kernel_rfl
end Go.Proofs.YthofahgnglfaeaaDoor

/- Layer 9: two rows of the same words are the same. -/
namespace Go.Proofs.YthofahgnglfaeaaDoor
open Go Go.Proofs.YthofahgnglfaeaaDoor.Sx
set_option linter.unusedVariables false
theorem b16_eq : Tryd.f16.body = some b16 := by kernel_rfl
theorem same_call {p : InP} {c : Int} {xs : List Tk} {m : Nat} {rs : List Rf} {r : Rf} {a : List Int} (hl : a.length = 4) : ∀ (env : Env) (w : World) (vs : List Value), GlOk cfgM.gl env → Rep env (sSm p c xs m rs r a a) w → DenL env (vSm a) vs →
    Calls cfgM.P 16 ⟨vs⟩ w (Ends1 env (sSm p c xs m rs r a a) w (.bl true) (sSm p c xs m rs r a a)) := by
  intro env w vs hg hr hd
  have hb0 : env.length = 10 := hr.len
  refine AtK.begin (c := cfgM) Tryd.func16 b16_eq hg hr hd fun a0 hA => ?_
  refine pieceNTK2 (c := cfgM) cfgM_ok 2 [0, 1, 4] sm_pre (by omega) (by simp) hA ?_
  refine all_brp (by simp only [bne_iff_ne, ne_eq]; exact Iff.rfl) (fun h => by exfalso; first | exact h rfl | exact h trivial | (apply h; omega)) (fun _ => ?_)
  refine all_ret fun env1 a1 w1 hA1 => ?_
  simp only [Ex.to, Exit.then]
  have hA2 : AtK env [(0, 0)] ⟨w, inFoot env (sSm p c xs m rs r a a)⟩ env1 (fr 26 [0, 1] (vSm a)) (sSm p c xs m rs r a a) a1 w1 := hA1.on fun h => At.few (names := [0, 1]) (extra := [4]) (vals := vSm a) (ev := [.bl false]) h rfl
  refine wpS (by kernel_rfl) (wpS (by kernel_rfl) ?_)
  refine pieceTK2 (c := cfgM) cfgM_ok [0, 1, 5] sm_reg (by omega) (by simp) hA2 ?_
  refine all_ret fun env3 a3 w3 hA3 => ?_
  simp only [Ex.to, Exit.then]
  have hA4 := hA3.on fun h => h.gvals (vSm a ++ [.int .i64 ((0 : Nat) : Int)]) rfl
  refine wpB 0 (by kernel_rfl) (wpL (by kernel_rfl) (fun (i : Nat) a' w' => i ≤ a.length ∧ ∃ env', AtK env [(0, 0)] ⟨w, inFoot env (sSm p c xs m rs r a a)⟩ env' (fr 26 [0, 1, 5] (vSm a ++ [SVal.int IntKind.i64 ((i : Nat) : Int)])) (sSm p c xs m rs r a a) a' w') (fun (i : Nat) => a.length - i) (0 : Nat) ⟨Nat.zero_le _, env3, hA4⟩ ?_)
  rintro i a' w' ⟨hi, env', hA⟩
  refine (show round16.wp _ _ _ _ from wpS (by kernel_rfl) ?_)
  refine pieceTK2 (c := cfgM) cfgM_ok [0, 1, 5] sm_tm (by omega) (by simp) hA ?_
  refine all_brp (by simp only [decide_eq_true_eq]; exact Iff.rfl) (fun h1 => all_ret fun env1 a1 w1 hA1 => ?_) (fun h1 => all_ret fun env1 a1 w1 hA1 => ?_)
  · simp only [Ex.to, Exit.then]
    have hi' : i < a.length := by omega
    refine (show (rgt round16).wp _ _ _ _ from wpS (by kernel_rfl) (wpB 1 (by kernel_rfl) ?_))
    refine (show bb16.wp _ _ _ _ from ?_)
    refine pieceTK2 (c := cfgM) cfgM_ok [0, 1, 5, 4] sm_bb (by omega) (by simp) hA1 ?_
    simp only [Int.toNat_natCast]
    repeat' (first
      | refine all_needq (by simp only [decide_eq_true_eq, Bool.and_eq_true]; exact Iff.rfl) (by omega) ?_
      | refine all_brp (by simp only [bne_iff_ne, ne_eq]; exact Iff.rfl) (fun h => by exfalso; first | exact h rfl | exact h trivial | (apply h; omega)) (fun _ => ?_))
    refine all_ret fun env2 a2 w2 hA2 => ?_
    simp only [Ex.to, Exit.inBlock, Exit.then]
    have hA3 : AtK env [(0, 0)] ⟨w, inFoot env (sSm p c xs m rs r a a)⟩ env2 (fr 26 [0, 1, 5] (vSm a ++ [.int .i64 (i : Nat)])) (sSm p c xs m rs r a a) a2 w2 := hA2.on fun h => At.few (names := [0, 1, 5]) (extra := [4]) (vals := vSm a ++ [.int .i64 (i : Nat)]) (ev := [.bad]) h rfl
    refine (show inc16.wp _ _ _ _ from ?_)
    refine pieceTK2 (c := cfgM) cfgM_ok [0, 1, 5] sm_inc (by omega) (by simp) hA3 ?_
    refine all_needp (by simp only [inR_i64]; exact Iff.rfl) (by omega) fun _ => all_ret fun env4 a4 w4 hA4 => ?_
    exact ⟨i + 1, ⟨by omega, env4, hA4⟩, by omega⟩
  · simp only [Ex.to, Exit.then, Exit.inBlock, if_true]
    refine (show end16.wp _ _ _ _ from ?_)
    refine pieceTK2 (c := cfgM) cfgM_ok [4] sm_end (by omega) (by simp) hA1 ?_
    exact all_ret fun env4 a4 w4 hA4 => hA4.out (c := cfgM) (by kernel_rfl)
end Go.Proofs.YthofahgnglfaeaaDoor

/- TicketPlays: the words and their likeness, in a round's state. -/
namespace Go.Proofs.YthofahgnglfaeaaDoor
open Go Go.Proofs.YthofahgnglfaeaaDoor.Sx
set_option linter.unusedVariables false
theorem ends_new {c : Cfg} (hsm : SmOk c) {n : Nat} {f : FuncId} {args : List SVal} {S : St} {t : T (SVal × St)} (ht : callF c n f args S = t) (hcal : callable c.P f = true) {s : SVal} {S' : St} (h : All (fun r => r = (s, S')) t) :
    ∀ (env : Env) (w : World) (vs : List Value), GlOk c.gl env → Rep env S w → DenL env args vs → Calls c.P f ⟨vs⟩ w (Ends1 env S w s S') := by
  intro env w vs hg hr hd
  obtain ⟨x, h1, rfl⟩ := T.all_at h.h
  rw [← ht] at h1
  exact (callF_ok hsm n f args S s S' env w vs h1 hcal hg hr hd).mono fun e w' he => he
set_option maxRecDepth 100000 in
theorem t_words {p : InP} {l : List Int} {c : Int} {xs : List Tk} {m : Nat} {rs : List Rf} {lw : List Int} {r : Rf} : callF cfgM 100 17 [.ptr 1 0] (s3g p l c xs m rs lw r) =
  (.need true (.need true (.need true (.need (decide (4 ≤ l.length)) (.need (decide (4 = (List.take 4 (List.drop 0 l)).length)) (.need (decide (4 = (List.take 4 (List.drop 0 l)).length * 1)) (.need ((List.take 4 (List.drop 0 l)).all fun x => ((encInt .u32).enc x).all scalar)
   (.ret (.sli 9 (.c 0) 1 (.v 4) (some (.v 4)), s3g p l c xs m rs lw r ++ [.own [.a (encInt .u32) (List.take 4 (List.drop 0 l)).length (List.take 4 (List.drop 0 l))] 23]))))))))) := by kernel_rfl
theorem scalar_all (l : List Int) : (l.all fun x => ((encInt .u32).enc x).all scalar) = true := by
  rw [List.all_eq_true]; intro x _; rfl
theorem words_call {p : InP} {l : List Int} {c : Int} {xs : List Tk} {m : Nat} {rs : List Rf} {lw : List Int} {r : Rf} (hl : l.length = 4) : ∀ (env : Env) (w : World) (vs : List Value), GlOk cfgM.gl env → Rep env (s3g p l c xs m rs lw r) w → DenL env [.ptr 1 0] vs →
    Calls cfgM.P 17 ⟨vs⟩ w (Ends1 env (s3g p l c xs m rs lw r) w (.sli 9 (.c 0) 1 (.v 4) (some (.v 4))) (s3g p l c xs m rs lw r ++ [.own [.a (encInt .u32) 4 l] 23])) := by
  refine ends_new cfgM_ok t_words (by kernel_rfl) ?_
  have h4 : List.take 4 (List.drop 0 l) = l := by rw [List.drop_zero, List.take_of_length_le (by omega)]
  rw [h4, hl]
  exact all_need rfl fun _ => all_need rfl fun _ => all_need rfl fun _ => all_need (by decide) fun _ => all_need (by decide) fun _ => all_need (by decide) fun _ => all_need (scalar_all l) fun _ => all_ret rfl
/-- the second half of a round: a taker's step, the words, their likeness -/
noncomputable def cfgE (p : InP) (l : List Int) (c : Int) (xs : List Tk) (l2 : List Int) (c2 : Int) (xs2 : List Tk) (m : Nat) (rs : List Rf) (r : Rf) : Cfg := { P := Tryd.prog, ex := exI, gl := [(0, 0)], sm := fun f => match f with
  | 15 => some (smPre 4 (gStep 4 l c xs))
  | 17 => some (smEq [.ptr 1 0] (s3g p l2 c2 xs2 m rs l2 r) (l2.length = 4) (.sli 9 (.c 0) 1 (.v 4) (some (.v 4))) (s3g p l2 c2 xs2 m rs l2 r ++ [.own [.a (encInt .u32) 4 l2] 23]))
  | 16 => some (smEq (vSm l2) (sSm p c2 xs2 m rs r l2 l2) (l2.length = 4) (.bl true) (sSm p c2 xs2 m rs r l2 l2))
  | _ => none }
theorem cfgE_ok {p : InP} {l : List Int} {c : Int} {xs : List Tk} {l2 : List Int} {c2 : Int} {xs2 : List Tk} {m : Nat} {rs : List Rf} {r : Rf} : SmOk (cfgE p l c xs l2 c2 xs2 m rs r) := by
  intro f g h
  simp only [cfgE] at h
  split at h
  · simp only [Option.some.injEq] at h; subst h
    exact smPre_ok (c := cfgM) (gl_lt (by omega)) gStep_ok
  · simp only [Option.some.injEq] at h; subst h
    exact smEq_ok (c := cfgE p l c xs l2 c2 xs2 m rs r) fun h => words_call h
  · simp only [Option.some.injEq] at h; subst h
    exact smEq_ok (c := cfgE p l c xs l2 c2 xs2 m rs r) fun h => same_call h
  · cases h
end Go.Proofs.YthofahgnglfaeaaDoor

namespace Go.Proofs.YthofahgnglfaeaaDoor
open Go Go.Proofs.YthofahgnglfaeaaDoor.Sx
set_option linter.unusedVariables false
set_option maxRecDepth 100000 in
theorem x_step {p : InP} {l : List Int} {c : Int} {xs : List Tk} {l2 : List Int} {c2 : Int} {xs2 : List Tk} {m : Nat} {rs : List Rf} {lw : List Int} {r : Rf} {i : Nat} {k : Int} : (exec (cfgE p l c xs l2 c2 xs2 m rs r) 100 (restC 4 bb3b) (fr 210 n3g (v3g p m lw.length i k)) (s3g p l c xs m rs lw r)).bind (canonK 5 [(0,0)] 210 n3e) =
 

 (.need (decide ((0 : Int) ≤ k) && decide (k.toNat < m))

 (.need (decide (k.toNat < (List.range m).length))

 (.eq ([Blk.ro encLook [PUnit.unit], .own [.c (.sli 2 (.c 0) 1 (.v 4) (some (.v 4))), .c (.int .i64 c)] 62, .own [.a (encInt IntKind.u32) 4 l] 23, .many encTk xs 70] = [Blk.ro encLook [PUnit.unit], .own [.c (.sli 2 (.c 0) 1 (.v 4) (some (.v 4))), .c (.int .i64 c)] 62, .own [.a (encInt IntKind.u32) 4 l] 23, .many encTk xs 70] ∧ l.length = 4 ∧ (List.range m).getD k.toNat 0 < xs.length ∧ TkOk (xs.getD ((List.range m).getD k.toNat 0) encTk.dflt))

 (.br (!doneP (xs.getD ((List.range m).getD k.toNat 0) { at' := (0 : Int), cell := (0 : Int), times := (0 : Int), phase := 0, ticket := (0 : Int), v := (0 : Int) }) l == r.7)
 (.eq (T.need (decide (k.toNat < (List.range m).length)) (T.ret (((encP (3 : Nat)).enc ((List.range m).getD k.toNat (encP (3 : Nat)).dflt)).getD (0 : Nat) SVal.bad)) = T.need (decide (k.toNat < (List.range m).length)) (T.ret (((encP (3 : Nat)).enc ((List.range m).getD k.toNat (encP (3 : Nat)).dflt)).getD (0 : Nat) SVal.bad)))
 (.eq (T.ret (SVal.sb r.7) = T.ret (SVal.sb r.7))
 (.eq (T.ret (SVal.sb r.7) = T.ret (SVal.sb r.7))

 (.ret (.ret, [.sli 4 (.c 0) 1 (.v p.3.length) (some (.v p.4)), .ptr 1 0, .sli 5 (.c 0) 1 (.v lw.length) none, .sli 6 (.c 0) 1 (.v m) none, .sli 7 (.c 0) 7 (.v m) none, .int .i64 (↑i : Int)], [.ro encLook [PUnit.unit], .own [.c (.sli 2 (.c 0) 1 (.v 4) (some (.v 4))), .c (.int .i64 (usesP (xs.getD ((List.range m).getD k.toNat 0) { at' := (0 : Int), cell := (0 : Int), times := (0 : Int), phase := 0, ticket := (0 : Int), v := (0 : Int) }) l c))] 62, .own [.a (encInt IntKind.u32) 4 (wordsP (xs.getD ((List.range m).getD k.toNat 0) { at' := (0 : Int), cell := (0 : Int), times := (0 : Int), phase := 0, ticket := (0 : Int), v := (0 : Int) }) l)] 23, .many encTk (xs.set ((List.range m).getD k.toNat 0) (tkP (xs.getD ((List.range m).getD k.toNat 0) { at' := (0 : Int), cell := (0 : Int), times := (0 : Int), phase := 0, ticket := (0 : Int), v := (0 : Int) }) l)) 70, .ro (encInt IntKind.i64) p.3, .vec (encInt IntKind.u32) lw 23, .vec (encP 3) (List.range m) 37, .vec encRf rs 40])))))

 (.eq ([SVal.ptr 1 0] = [SVal.ptr 1 0] ∧ [Blk.ro encLook [PUnit.unit], .own [.c (.sli 2 (.c 0) 1 (.v 4) (some (.v 4))), .c (.int .i64 (usesP (xs.getD ((List.range m).getD k.toNat 0) { at' := (0 : Int), cell := (0 : Int), times := (0 : Int), phase := 0, ticket := (0 : Int), v := (0 : Int) }) l c))] 62, .own [.a (encInt IntKind.u32) 4 (wordsP (xs.getD ((List.range m).getD k.toNat 0) { at' := (0 : Int), cell := (0 : Int), times := (0 : Int), phase := 0, ticket := (0 : Int), v := (0 : Int) }) l)] 23, .many encTk (xs.set ((List.range m).getD k.toNat 0) (tkP (xs.getD ((List.range m).getD k.toNat 0) { at' := (0 : Int), cell := (0 : Int), times := (0 : Int), phase := 0, ticket := (0 : Int), v := (0 : Int) }) l)) 70, .ro (encInt IntKind.i64) p.3, .vec (encInt IntKind.u32) lw 23, .vec (encP 3) (List.range m) 37, .vec encRf rs 40, .own [.c (.int .i64 r.1), .c (.int .i64 r.2), .c (.int .i64 r.3), .c (.int .i64 (↑r.4 : Int)), .c (.int .u32 r.5), .c (.int .u32 r.6), .c (.sb r.7)] 40] = [Blk.ro encLook [PUnit.unit], .own [.c (.sli 2 (.c 0) 1 (.v 4) (some (.v 4))), .c (.int .i64 c2)] 62, .own [.a (encInt IntKind.u32) 4 l2] 23, .many encTk xs2 70, .ro (encInt IntKind.i64) p.3, .vec (encInt IntKind.u32) l2 23, .vec (encP 3) (List.range m) 37, .vec encRf rs 40, .own [.c (.int .i64 r.1), .c (.int .i64 r.2), .c (.int .i64 r.3), .c (.int .i64 (↑r.4 : Int)), .c (.int .u32 r.5), .c (.int .u32 r.6), .c (.sb r.7)] 40] ∧ l2.length = 4)

 (.eq ([SVal.sli 9 (.c 0) 1 (.v 4) (some (.v 4)), .sli 5 (.c 0) 1 (.v lw.length) none] = [SVal.sli 9 (.c 0) 1 (.v 4) (some (.v 4)), .sli 5 (.c 0) 1 (.v l2.length) none] ∧ [Blk.ro encLook [PUnit.unit], .own [.c (.sli 2 (.c 0) 1 (.v 4) (some (.v 4))), .c (.int .i64 c2)] 62, .own [.a (encInt IntKind.u32) 4 l2] 23, .many encTk xs2 70, .ro (encInt IntKind.i64) p.3, .vec (encInt IntKind.u32) l2 23, .vec (encP 3) (List.range m) 37, .vec encRf rs 40, .own [.c (.int .i64 r.1), .c (.int .i64 r.2), .c (.int .i64 r.3), .c (.int .i64 (↑r.4 : Int)), .c (.int .u32 r.5), .c (.int .u32 r.6), .c (.sb r.7)] 40, .own [.a (encInt IntKind.u32) 4 l2] 23] = [Blk.ro encLook [PUnit.unit], .own [.c (.sli 2 (.c 0) 1 (.v 4) (some (.v 4))), .c (.int .i64 c2)] 62, .own [.a (encInt IntKind.u32) 4 l2] 23, .many encTk xs2 70, .ro (encInt IntKind.i64) p.3, .vec (encInt IntKind.u32) l2 23, .vec (encP 3) (List.range m) 37, .vec encRf rs 40, .own [.c (.int .i64 r.1), .c (.int .i64 r.2), .c (.int .i64 r.3), .c (.int .i64 (↑r.4 : Int)), .c (.int .u32 r.5), .c (.int .u32 r.6), .c (.sb r.7)] 40, .own [.a (encInt IntKind.u32) 4 l2] 23] ∧ l2.length = 4)

 (.need (decide ((0 : Int) ≤ k) && decide (k.toNat < m))

 (.need (decide (k.toNat < (List.range m).length))

 (.need (decide ((List.range m).getD k.toNat 0 < xs2.length))

 (.br (!decide ((2 : Int) ≤ (↑(xs2.getD ((List.range m).getD k.toNat 0) { at' := (0 : Int), cell := (0 : Int), times := (0 : Int), phase := 0, ticket := (0 : Int), v := (0 : Int) }).phase : Int)) == decide ((2 : Int) < (↑r.4 : Int)))
 (.eq (T.need (decide (k.toNat < (List.range m).length)) (T.ret (((encP (3 : Nat)).enc ((List.range m).getD k.toNat (encP (3 : Nat)).dflt)).getD (0 : Nat) SVal.bad)) = T.need (decide (k.toNat < (List.range m).length)) (T.ret (((encP (3 : Nat)).enc ((List.range m).getD k.toNat (encP (3 : Nat)).dflt)).getD (0 : Nat) SVal.bad)))
 (.eq (T.ret (SVal.sb r.7) = T.ret (SVal.sb r.7))
 (.eq (T.ret (SVal.sb r.7) = T.ret (SVal.sb r.7))
 (.eq (T.need (decide (k.toNat < (List.range m).length)) (T.ret (((encP (3 : Nat)).enc ((List.range m).getD k.toNat (encP (3 : Nat)).dflt)).getD (0 : Nat) SVal.bad)) = T.need (decide (k.toNat < (List.range m).length)) (T.ret (((encP (3 : Nat)).enc ((List.range m).getD k.toNat (encP (3 : Nat)).dflt)).getD (0 : Nat) SVal.bad)))
 (.eq (T.ret (SVal.int IntKind.i64 (↑r.4 : Int)) = T.ret (SVal.int IntKind.i64 (↑r.4 : Int)))
 (.eq (T.ret (SVal.int IntKind.i64 (↑r.4 : Int)) = T.ret (SVal.int IntKind.i64 (↑r.4 : Int)))

 (.ret (.ret, [.sli 4 (.c 0) 1 (.v p.3.length) (some (.v p.4)), .ptr 1 0, .sli 5 (.c 0) 1 (.v lw.length) none, .sli 6 (.c 0) 1 (.v m) none, .sli 7 (.c 0) 7 (.v m) none, .int .i64 (↑i : Int)], [.ro encLook [PUnit.unit], .own [.c (.sli 2 (.c 0) 1 (.v 4) (some (.v 4))), .c (.int .i64 c2)] 62, .own [.a (encInt IntKind.u32) 4 l2] 23, .many encTk xs2 70, .ro (encInt IntKind.i64) p.3, .vec (encInt IntKind.u32) l2 23, .vec (encP 3) (List.range m) 37, .vec encRf rs 40]))))))))

 (.need (decide ((0 : Int) ≤ k) && decide (k.toNat < m))

 (.need (decide (k.toNat < (List.range m).length))

 (.need (decide ((List.range m).getD k.toNat 0 < xs2.length))

 (.br (!((↑(xs2.getD ((List.range m).getD k.toNat 0) { at' := (0 : Int), cell := (0 : Int), times := (0 : Int), phase := 0, ticket := (0 : Int), v := (0 : Int) }).phase : Int) == (1 : Int)) == ((↑r.4 : Int) == (2 : Int)))
 (.eq (T.need (decide (k.toNat < (List.range m).length)) (T.ret (((encP (3 : Nat)).enc ((List.range m).getD k.toNat (encP (3 : Nat)).dflt)).getD (0 : Nat) SVal.bad)) = T.need (decide (k.toNat < (List.range m).length)) (T.ret (((encP (3 : Nat)).enc ((List.range m).getD k.toNat (encP (3 : Nat)).dflt)).getD (0 : Nat) SVal.bad)))
 (.eq (T.ret (SVal.sb r.7) = T.ret (SVal.sb r.7))
 (.eq (T.ret (SVal.sb r.7) = T.ret (SVal.sb r.7))
 (.eq (T.need (decide (k.toNat < (List.range m).length)) (T.ret (((encP (3 : Nat)).enc ((List.range m).getD k.toNat (encP (3 : Nat)).dflt)).getD (0 : Nat) SVal.bad)) = T.need (decide (k.toNat < (List.range m).length)) (T.ret (((encP (3 : Nat)).enc ((List.range m).getD k.toNat (encP (3 : Nat)).dflt)).getD (0 : Nat) SVal.bad)))
 (.eq (T.ret (SVal.int IntKind.i64 (↑r.4 : Int)) = T.ret (SVal.int IntKind.i64 (↑r.4 : Int)))
 (.eq (T.ret (SVal.int IntKind.i64 (↑r.4 : Int)) = T.ret (SVal.int IntKind.i64 (↑r.4 : Int)))
 (.eq (T.need (decide (k.toNat < (List.range m).length)) (T.ret (((encP (3 : Nat)).enc ((List.range m).getD k.toNat (encP (3 : Nat)).dflt)).getD (0 : Nat) SVal.bad)) = T.need (decide (k.toNat < (List.range m).length)) (T.ret (((encP (3 : Nat)).enc ((List.range m).getD k.toNat (encP (3 : Nat)).dflt)).getD (0 : Nat) SVal.bad)))
 (.eq (T.ret (SVal.int IntKind.i64 (↑r.4 : Int)) = T.ret (SVal.int IntKind.i64 (↑r.4 : Int)))
 (.eq (T.ret (SVal.int IntKind.i64 (↑r.4 : Int)) = T.ret (SVal.int IntKind.i64 (↑r.4 : Int)))

 (.ret (.ret, [.sli 4 (.c 0) 1 (.v p.3.length) (some (.v p.4)), .ptr 1 0, .sli 5 (.c 0) 1 (.v lw.length) none, .sli 6 (.c 0) 1 (.v m) none, .sli 7 (.c 0) 7 (.v m) none, .int .i64 (↑i : Int)], [.ro encLook [PUnit.unit], .own [.c (.sli 2 (.c 0) 1 (.v 4) (some (.v 4))), .c (.int .i64 c2)] 62, .own [.a (encInt IntKind.u32) 4 l2] 23, .many encTk xs2 70, .ro (encInt IntKind.i64) p.3, .vec (encInt IntKind.u32) l2 23, .vec (encP 3) (List.range m) 37, .vec encRf rs 40])))))))))))

 (.need (decide ((0 : Int) ≤ k) && decide (k.toNat < m))

 (.need (decide (k.toNat < (List.range m).length))

 (.need (decide ((List.range m).getD k.toNat 0 < xs2.length))

 (.br ((xs2.getD ((List.range m).getD k.toNat 0) { at' := (0 : Int), cell := (0 : Int), times := (0 : Int), phase := 0, ticket := (0 : Int), v := (0 : Int) }).ticket != r.5)
 (.eq (T.need (decide (k.toNat < (List.range m).length)) (T.ret (((encP (3 : Nat)).enc ((List.range m).getD k.toNat (encP (3 : Nat)).dflt)).getD (0 : Nat) SVal.bad)) = T.need (decide (k.toNat < (List.range m).length)) (T.ret (((encP (3 : Nat)).enc ((List.range m).getD k.toNat (encP (3 : Nat)).dflt)).getD (0 : Nat) SVal.bad)))
 (.eq (T.ret (SVal.sb r.7) = T.ret (SVal.sb r.7))
 (.eq (T.ret (SVal.sb r.7) = T.ret (SVal.sb r.7))
 (.eq (T.need (decide (k.toNat < (List.range m).length)) (T.ret (((encP (3 : Nat)).enc ((List.range m).getD k.toNat (encP (3 : Nat)).dflt)).getD (0 : Nat) SVal.bad)) = T.need (decide (k.toNat < (List.range m).length)) (T.ret (((encP (3 : Nat)).enc ((List.range m).getD k.toNat (encP (3 : Nat)).dflt)).getD (0 : Nat) SVal.bad)))
 (.eq (T.ret (SVal.int IntKind.i64 (↑r.4 : Int)) = T.ret (SVal.int IntKind.i64 (↑r.4 : Int)))
 (.eq (T.ret (SVal.int IntKind.i64 (↑r.4 : Int)) = T.ret (SVal.int IntKind.i64 (↑r.4 : Int)))
 (.eq (T.need (decide (k.toNat < (List.range m).length)) (T.ret (((encP (3 : Nat)).enc ((List.range m).getD k.toNat (encP (3 : Nat)).dflt)).getD (0 : Nat) SVal.bad)) = T.need (decide (k.toNat < (List.range m).length)) (T.ret (((encP (3 : Nat)).enc ((List.range m).getD k.toNat (encP (3 : Nat)).dflt)).getD (0 : Nat) SVal.bad)))
 (.eq (T.ret (SVal.int IntKind.i64 (↑r.4 : Int)) = T.ret (SVal.int IntKind.i64 (↑r.4 : Int)))
 (.eq (T.ret (SVal.int IntKind.i64 (↑r.4 : Int)) = T.ret (SVal.int IntKind.i64 (↑r.4 : Int)))
 (.eq (T.need (decide (k.toNat < (List.range m).length)) (T.ret (((encP (3 : Nat)).enc ((List.range m).getD k.toNat (encP (3 : Nat)).dflt)).getD (0 : Nat) SVal.bad)) = T.need (decide (k.toNat < (List.range m).length)) (T.ret (((encP (3 : Nat)).enc ((List.range m).getD k.toNat (encP (3 : Nat)).dflt)).getD (0 : Nat) SVal.bad)))
 (.eq (T.ret (SVal.int IntKind.u32 r.5) = T.ret (SVal.int IntKind.u32 r.5))
 (.eq (T.ret (SVal.int IntKind.u32 r.5) = T.ret (SVal.int IntKind.u32 r.5))

 (.ret (.ret, [.sli 4 (.c 0) 1 (.v p.3.length) (some (.v p.4)), .ptr 1 0, .sli 5 (.c 0) 1 (.v lw.length) none, .sli 6 (.c 0) 1 (.v m) none, .sli 7 (.c 0) 7 (.v m) none, .int .i64 (↑i : Int)], [.ro encLook [PUnit.unit], .own [.c (.sli 2 (.c 0) 1 (.v 4) (some (.v 4))), .c (.int .i64 c2)] 62, .own [.a (encInt IntKind.u32) 4 l2] 23, .many encTk xs2 70, .ro (encInt IntKind.i64) p.3, .vec (encInt IntKind.u32) l2 23, .vec (encP 3) (List.range m) 37, .vec encRf rs 40]))))))))))))))

 (.need (decide ((0 : Int) ≤ k) && decide (k.toNat < m))

 (.need (decide (k.toNat < (List.range m).length))

 (.need (decide ((List.range m).getD k.toNat 0 < xs2.length))
 (.eq (T.need (decide (k.toNat < (List.range m).length)) (T.ret (((encP (3 : Nat)).enc ((List.range m).getD k.toNat (encP (3 : Nat)).dflt)).getD (0 : Nat) SVal.bad)) = T.need (decide (k.toNat < (List.range m).length)) (T.ret (((encP (3 : Nat)).enc ((List.range m).getD k.toNat (encP (3 : Nat)).dflt)).getD (0 : Nat) SVal.bad)))
 (.eq (T.ret (SVal.sb r.7) = T.ret (SVal.sb r.7))
 (.eq (T.ret (SVal.sb r.7) = T.ret (SVal.sb r.7))
 (.eq (T.need (decide (k.toNat < (List.range m).length)) (T.ret (((encP (3 : Nat)).enc ((List.range m).getD k.toNat (encP (3 : Nat)).dflt)).getD (0 : Nat) SVal.bad)) = T.need (decide (k.toNat < (List.range m).length)) (T.ret (((encP (3 : Nat)).enc ((List.range m).getD k.toNat (encP (3 : Nat)).dflt)).getD (0 : Nat) SVal.bad)))
 (.eq (T.ret (SVal.int IntKind.i64 (↑r.4 : Int)) = T.ret (SVal.int IntKind.i64 (↑r.4 : Int)))
 (.eq (T.ret (SVal.int IntKind.i64 (↑r.4 : Int)) = T.ret (SVal.int IntKind.i64 (↑r.4 : Int)))
 (.eq (T.need (decide (k.toNat < (List.range m).length)) (T.ret (((encP (3 : Nat)).enc ((List.range m).getD k.toNat (encP (3 : Nat)).dflt)).getD (0 : Nat) SVal.bad)) = T.need (decide (k.toNat < (List.range m).length)) (T.ret (((encP (3 : Nat)).enc ((List.range m).getD k.toNat (encP (3 : Nat)).dflt)).getD (0 : Nat) SVal.bad)))
 (.eq (T.ret (SVal.int IntKind.i64 (↑r.4 : Int)) = T.ret (SVal.int IntKind.i64 (↑r.4 : Int)))
 (.eq (T.ret (SVal.int IntKind.i64 (↑r.4 : Int)) = T.ret (SVal.int IntKind.i64 (↑r.4 : Int)))
 (.eq (T.need (decide (k.toNat < (List.range m).length)) (T.ret (((encP (3 : Nat)).enc ((List.range m).getD k.toNat (encP (3 : Nat)).dflt)).getD (0 : Nat) SVal.bad)) = T.need (decide (k.toNat < (List.range m).length)) (T.ret (((encP (3 : Nat)).enc ((List.range m).getD k.toNat (encP (3 : Nat)).dflt)).getD (0 : Nat) SVal.bad)))
 (.eq (T.ret (SVal.int IntKind.u32 r.5) = T.ret (SVal.int IntKind.u32 r.5))
 (.eq (T.ret (SVal.int IntKind.u32 r.5) = T.ret (SVal.int IntKind.u32 r.5))
 (.eq (T.need (decide (k.toNat < (List.range m).length)) (T.ret (((encP (3 : Nat)).enc ((List.range m).getD k.toNat (encP (3 : Nat)).dflt)).getD (0 : Nat) SVal.bad)) = T.need (decide (k.toNat < (List.range m).length)) (T.ret (((encP (3 : Nat)).enc ((List.range m).getD k.toNat (encP (3 : Nat)).dflt)).getD (0 : Nat) SVal.bad)))
 (.eq (T.ret (SVal.int IntKind.i64 r.3) = T.ret (SVal.int IntKind.i64 r.3))
 (.eq (T.ret (SVal.int IntKind.i64 r.3) = T.ret (SVal.int IntKind.i64 r.3))

 (.br ((xs2.getD ((List.range m).getD k.toNat 0) { at' := (0 : Int), cell := (0 : Int), times := (0 : Int), phase := 0, ticket := (0 : Int), v := (0 : Int) }).times != r.3)

 (.ret (.ret, [.sli 4 (.c 0) 1 (.v p.3.length) (some (.v p.4)), .ptr 1 0, .sli 5 (.c 0) 1 (.v lw.length) none, .sli 6 (.c 0) 1 (.v m) none, .sli 7 (.c 0) 7 (.v m) none, .int .i64 (↑i : Int)], [.ro encLook [PUnit.unit], .own [.c (.sli 2 (.c 0) 1 (.v 4) (some (.v 4))), .c (.int .i64 c2)] 62, .own [.a (encInt IntKind.u32) 4 l2] 23, .many encTk xs2 70, .ro (encInt IntKind.i64) p.3, .vec (encInt IntKind.u32) l2 23, .vec (encP 3) (List.range m) 37, .vec encRf rs 40]))

 (.ret (.normal, [.sli 4 (.c 0) 1 (.v p.3.length) (some (.v p.4)), .ptr 1 0, .sli 5 (.c 0) 1 (.v lw.length) none, .sli 6 (.c 0) 1 (.v m) none, .sli 7 (.c 0) 7 (.v m) none, .int .i64 (↑i : Int)], [.ro encLook [PUnit.unit], .own [.c (.sli 2 (.c 0) 1 (.v 4) (some (.v 4))), .c (.int .i64 c2)] 62, .own [.a (encInt IntKind.u32) 4 l2] 23, .many encTk xs2 70, .ro (encInt IntKind.i64) p.3, .vec (encInt IntKind.u32) l2 23, .vec (encP 3) (List.range m) 37, .vec encRf rs 40]))))))))))))))))))))))))))))))))))))))) := by kernel_rfl
end Go.Proofs.YthofahgnglfaeaaDoor

/- TicketPlays: a round. -/
namespace Go.Proofs.YthofahgnglfaeaaDoor
open Go Go.Proofs.YthofahgnglfaeaaDoor.Sx
set_option linter.unusedVariables false
abbrev Q3 (w0 : From) : Exit → Act → World → Prop := bodyPost Tryd.prog Tryd.f3 (Said w0)
structure Ix3 where
  i : Nat
  l : List Int
  c : Int
  xs : List Tk
  rs : List Rf
structure Pair (m : Nat) (l : List Int) (xs : List Tk) (rs : List Rf) : Prop where
  len : l.length = 4
  u32 : U32s l
  lx : xs.length = m
  lr : rs.length = m
  rel : ∀ k, k < m → (rs.getD k encRf.dflt).done = false → Rel (xs.getD k encTk.dflt) (rs.getD k encRf.dflt)
def Inv3 (w0 : From) (p : InP) (m : Nat) (j : Ix3) (a : Act) (w : World) : Prop :=
  j.i ≤ 100 ∧ Pair m j.l j.xs j.rs ∧ ∃ env, At [(0, 0)] w0 env (fr 210 n3e (v3b p m j.l.length ++ [.int .i64 (j.i : Nat)])) (s3b p j.l j.c j.xs m j.rs j.l) a w
abbrev R3 (w0 : From) (p : InP) (m : Nat) (i : Nat) : Exit → Act → World → Prop :=
  Exit.then (fun a' w' => ∃ k, Inv3 w0 p m k a' w' ∧ 100 - k.i < 100 - i) (Exit.inBlock 2 (Exit.then (end3.wp Tryd.prog (Q3 w0)) (Q3 w0)))
abbrev K3' (w0 : From) (p : InP) (m : Nat) (i : Nat) : Exit → Act → World → Prop :=
  Exit.inBlock 3 (Exit.then (inc3b.wp Tryd.prog (R3 w0 p m i)) (R3 w0 p m i))
theorem end3_ok {w0 : From} {p : InP} {m : Nat} {l : List Int} {c : Int} {xs : List Tk} {rs : List Rf} {i : Nat} {env : Env} {a : Act} {w : World} (h : At [(0, 0)] w0 env (fr 210 n3e (v3b p m l.length ++ [.int .i64 (i : Nat)])) (s3b p l c xs m rs l) a w) : end3.wp Tryd.prog (Q3 w0) a w :=
  pieceT0 (c := cfgM) cfgM_ok [6] x_endb h (all_ret fun env' a' w' hA' => hA'.said (by kernel_rfl))
theorem inc3_ok {w0 : From} {p : InP} {m : Nat} {i : Nat} (hi : i < 100) {l : List Int} {c : Int} {xs : List Tk} {rs : List Rf} (hp : Pair m l xs rs) {env : Env} {a : Act} {w : World} (h : At [(0, 0)] w0 env (fr 210 n3e (v3b p m l.length ++ [.int .i64 (i : Nat)])) (s3b p l c xs m rs l) a w) : inc3b.wp Tryd.prog (R3 w0 p m i) a w := by
  refine pieceT0 (c := cfgM) cfgM_ok n3e x_incb h ?_
  refine all_needp (by simp only [inR_i64]; exact Iff.rfl) (by omega) fun _ => all_ret fun env' a' w' hA' => ?_
  exact ⟨⟨i + 1, l, c, xs, rs⟩, ⟨by simp only; omega, hp, env', hA'⟩, by simp only; omega⟩
theorem rel_ok {t : Tk} {r : Rf} {l : List Int} (h : Rel t r) (hl : l.length = 4) : RfOk r l := by
  have h1 := h.ok
  refine ⟨?_, ?_, ?_, by omega⟩
  · rw [h.next]; have := h1.phase; omega
  · rw [← h.at']; exact h1.at'
  · rw [← h.left]; exact h1.times
theorem rw_len (r : Rf) (l : List Int) : (rwP r l).length = l.length := by
  unfold rwP; split <;> simp
theorem rStep_len (r : Rf) (l : List Int) : (rStep r l).2.length = l.length := by
  unfold rStep; split
  · exact rw_len r l
  · rfl
theorem pair_step {m : Nat} {l : List Int} {xs : List Tk} {rs : List Rf} (h : Pair m l xs rs) {k : Nat} (hk : k < m) (hd : (rs.getD k encRf.dflt).done = false) :
    Both (xs.getD k encTk.dflt) (rs.getD k encRf.dflt) l ∧ Pair m (rStep (rs.getD k encRf.dflt) l).2 (xs.set k (tkP (xs.getD k encTk.dflt) l)) (rs.set k (rStep (rs.getD k encRf.dflt) l).1) := by
  have hb := both_step (h.rel k hk hd) h.u32
  refine ⟨hb, by rw [rStep_len]; exact h.len, by rw [← hb.words]; exact hb.u32, by simp [h.lx], by simp [h.lr], fun j hj hdj => ?_⟩
  by_cases hjk : j = k
  · subst hjk
    rw [Sx.getD_set_self (by rw [h.lr]; exact hj)] at hdj
    rw [Sx.getD_set_self (by rw [h.lx]; exact hj), Sx.getD_set_self (by rw [h.lr]; exact hj)]
    exact hb.rel hdj
  · rw [Sx.getD_set_ne (fun h => hjk h.symm)] at hdj ⊢
    rw [Sx.getD_set_ne (fun h => hjk h.symm)]
    exact h.rel j hj hdj
end Go.Proofs.YthofahgnglfaeaaDoor

/- TicketPlays: its rounds. -/
namespace Go.Proofs.YthofahgnglfaeaaDoor
open Go Go.Proofs.YthofahgnglfaeaaDoor.Sx
set_option linter.unusedVariables false
set_option maxHeartbeats 1000000 in
/-- behind the document's step -/
theorem step3_ok {w0 : From} {p : InP} {m : Nat} {i : Nat} (hi : i < 100) {l : List Int} {c : Int} {xs : List Tk} {rs : List Rf} (hp : Pair m l xs rs) {k : Int} (h0 : 0 ≤ k) (hk : k.toNat < m)
    (hd : (rs.getD k.toNat encRf.dflt).done = false) {env : Env} {a : Act} {w : World}
    (h : At [(0, 0)] w0 env (fr 210 n3g (v3g p m (rStep (rs.getD k.toNat encRf.dflt) l).2.length i k)) (s3g p l c xs m (rs.set k.toNat (rStep (rs.getD k.toNat encRf.dflt) l).1) (rStep (rs.getD k.toNat encRf.dflt) l).2 (rStep (rs.getD k.toNat encRf.dflt) l).1) a w) :
    (restC 4 bb3b).wp Tryd.prog (K3' w0 p m i) a w := by
  obtain ⟨hb, hp'⟩ := pair_step hp hk hd
  have hr : (List.range m).getD k.toNat 0 = k.toNat := getD_range hk
  have hx : xs.getD ((List.range m).getD k.toNat 0) ⟨0, 0, 0, 0, 0, 0⟩ = xs.getD k.toNat encTk.dflt := by rw [hr]; rfl
  have hrel := hp.rel _ hk hd
  generalize hq : (rStep (rs.getD k.toNat encRf.dflt) l).1 = r' at *
  generalize hw : (rStep (rs.getD k.toNat encRf.dflt) l).2 = l' at *
  generalize hrs' : rs.set k.toNat r' = rs' at *
  have b1 := hb.done; have b2 := hb.words; have b3 := hb.holds; have b4 := hb.waits; have b5 := hb.ticket; have b6 := hb.left
  rw [hq] at b1 b3 b4 b5 b6
  rw [hw] at b2
  refine pieceT0 (c := cfgE p l c xs l' (usesP (xs.getD k.toNat encTk.dflt) l c) (xs.set k.toNat (tkP (xs.getD k.toNat encTk.dflt) l)) m rs' r') cfgE_ok n3e x_step h ?_
  rw [hx, hr]
  have hxx : (xs.set k.toNat (tkP (xs.getD k.toNat encTk.dflt) l)).getD k.toNat ⟨0, 0, 0, 0, 0, 0⟩ = tkP (xs.getD k.toNat encTk.dflt) l := Sx.getD_set_self (by rw [hp.lx]; exact hk) _ _
  have hxl : (xs.set k.toNat (tkP (xs.getD k.toNat encTk.dflt) l)).length = m := hp'.lx
  rw [hxx, hxl, List.length_range]
  have hw4 : wordsP (xs.getD k.toNat encTk.dflt) l = l' := b2
  rw [hw4]
  refine all_needq (by simp only [decide_eq_true_eq, Bool.and_eq_true]; exact Iff.rfl) (by omega) ?_
  refine all_needq (by simp only [decide_eq_true_eq]; exact Iff.rfl) (by omega) ?_
  refine all_eq ⟨rfl, hp.len, by rw [hp.lx]; exact hk, hrel.ok⟩ ?_
  have n3 : decide ((2 : Int) ≤ ((tkP (xs.getD k.toNat encTk.dflt) l).phase : Int)) = decide ((2 : Int) < (r'.next : Int)) := by
    have := decide_eq_decide.1 b3
    rw [decide_eq_decide]; omega
  have n4 : (((tkP (xs.getD k.toNat encTk.dflt) l).phase : Int) == 1) = ((r'.next : Int) == 2) := by
    have := decide_eq_decide.1 b4
    rw [Bool.eq_iff_iff, beq_iff_eq, beq_iff_eq]; omega
  refine all_brp (by simp only [Bool.not_eq_true', beq_eq_false_iff_ne, ne_eq]; exact Iff.rfl) (fun h => by exact (h b1).elim) (fun _ => ?_)
  refine all_eq ⟨rfl, rfl, hp'.len⟩ (all_eq ⟨rfl, rfl, hp'.len⟩ ?_)
  refine all_needq (by simp only [decide_eq_true_eq, Bool.and_eq_true]; exact Iff.rfl) (by omega) ?_
  refine all_needq (by simp only [decide_eq_true_eq]; exact Iff.rfl) (by omega) ?_
  refine all_needq (by simp only [decide_eq_true_eq]; exact Iff.rfl) (by omega) ?_
  refine all_brp (by simp only [Bool.not_eq_true', beq_eq_false_iff_ne, ne_eq]; exact Iff.rfl) (fun h => by exact (h n3).elim) (fun _ => ?_)
  refine all_needq (by simp only [decide_eq_true_eq, Bool.and_eq_true]; exact Iff.rfl) (by omega) ?_
  refine all_needq (by simp only [decide_eq_true_eq]; exact Iff.rfl) (by omega) ?_
  refine all_needq (by simp only [decide_eq_true_eq]; exact Iff.rfl) (by omega) ?_
  refine all_brp (by simp only [Bool.not_eq_true', beq_eq_false_iff_ne, ne_eq]; exact Iff.rfl) (fun h => by exact (h n4).elim) (fun _ => ?_)
  refine all_needq (by simp only [decide_eq_true_eq, Bool.and_eq_true]; exact Iff.rfl) (by omega) ?_
  refine all_needq (by simp only [decide_eq_true_eq]; exact Iff.rfl) (by omega) ?_
  refine all_needq (by simp only [decide_eq_true_eq]; exact Iff.rfl) (by omega) ?_
  refine all_brp (by simp only [bne_iff_ne, ne_eq]; exact Iff.rfl) (fun h => by exact (h b5).elim) (fun _ => ?_)
  refine all_needq (by simp only [decide_eq_true_eq, Bool.and_eq_true]; exact Iff.rfl) (by omega) ?_
  refine all_needq (by simp only [decide_eq_true_eq]; exact Iff.rfl) (by omega) ?_
  refine all_needq (by simp only [decide_eq_true_eq]; exact Iff.rfl) (by omega) ?_
  repeat' (first | refine all_eq rfl ?_)
  refine all_brp (by simp only [bne_iff_ne, ne_eq]; exact Iff.rfl) (fun h => by exact (h b6).elim) (fun _ => ?_)
  refine all_ret fun env' a' w' hA' => ?_
  simp only [Ex.to, Exit.inBlock, Exit.then]
  exact inc3_ok hi hp' hA'
set_option maxHeartbeats 1000000 in
theorem round3b_ok {w0 : From} {p : InP} {m : Nat} {j : Ix3} {a : Act} {w : World} (h : Inv3 w0 p m j a w) : round3b.wp Tryd.prog (R3 w0 p m j.i) a w := by
  obtain ⟨i, l, c, xs, rs⟩ := j
  obtain ⟨hi, hp, env, hA⟩ := h
  simp only at hi hp hA ⊢
  have out : ∀ {env' : Env} {a' : Act} {w' : World}, At [(0, 0)] w0 env' (fr 210 n3e (v3b p m l.length ++ [.int .i64 (i : Nat)])) (s3b p l c xs m rs l) a' w' → R3 w0 p m i (.exit 2) a' w' := by
    intro env' a' w' h
    simp only [R3, Exit.then, Exit.inBlock, if_true]
    exact end3_ok h
  refine wpS (by kernel_rfl) ?_
  refine pieceT0 (c := cfgM) cfgM_ok n3e x_tmb hA ?_
  refine all_brp (by simp only [decide_eq_true_eq]; exact Iff.rfl) (fun h1 => ?_) (fun h1 => all_ret fun _ _ _ h => out h)
  refine all_brp (by simp only [decide_eq_true_eq]; exact Iff.rfl) (fun h2 => ?_) (fun h2 => all_ret fun _ _ _ h => out h)
  refine all_brp (by simp only [decide_eq_true_eq]; exact Iff.rfl) (fun h3 => all_ret fun env1 a1 w1 hA1 => ?_) (fun h2 => all_ret fun _ _ _ h => out h)
  have hi2 : i < 100 := by omega
  refine (show (rgt round3b).wp Tryd.prog (R3 w0 p m i) a1 w1 from wpS (by kernel_rfl) (wpB 3 (by kernel_rfl) ?_))
  refine (show bb3b.wp Tryd.prog (K3' w0 p m i) a1 w1 from ?_)
  have next : ∀ {env' : Env} {a' : Act} {w' : World} {k : Int}, At [(0, 0)] w0 env' (fr 210 n3f (v3b p m l.length ++ [.int .i64 (i : Nat), .int .i64 k])) (s3b p l c xs m rs l) a' w' → K3' w0 p m i (.exit 3) a' w' := by
    intro env' a' w' k h
    simp only [K3', Exit.inBlock, if_true, Exit.then]
    exact inc3_ok hi2 hp (At.few (names := n3e) (extra := [16]) (vals := v3b p m l.length ++ [.int .i64 (i : Nat)]) (ev := [.int .i64 k]) h rfl)
  refine pieceNT0 (c := cfgM) cfgM_ok 2 n3f x_k hA1 ?_
  generalize p.picks.getD (i : Int).toNat 0 = k
  refine all_needq (by simp only [decide_eq_true_eq, Bool.and_eq_true]; exact Iff.rfl) (by omega) ?_
  refine all_needq (by simp only [decide_eq_true_eq]; exact Iff.rfl) (by omega) ?_
  refine all_brp (by simp only [decide_eq_true_eq]; exact Iff.rfl) (fun k0 => all_ret fun _ _ _ h => next h) (fun k0 => ?_)
  refine all_brp (by simp only [decide_eq_true_eq]; exact Iff.rfl) (fun k1 => all_ret fun _ _ _ h => next h) (fun k1 => ?_)
  have hkm : k.toNat < m := by omega
  have hlr := hp.lr
  refine all_needq (by simp only [decide_eq_true_eq, Bool.and_eq_true]; exact Iff.rfl) (by omega) ?_
  refine all_needq (by simp only [decide_eq_true_eq]; exact Iff.rfl) (by omega) ?_
  refine all_br (fun kd => all_ret fun _ _ _ h => next h) (fun kd => ?_)
  have kd' : (rs.getD k.toNat encRf.dflt).done = false := kd
  refine all_ret fun env2 a2 w2 hA2 => ?_
  simp only [Ex.to, Exit.then]
  have hrel := hp.rel _ hkm kd'
  have hok := rel_ok hrel hp.len
  have hst : rStep (rs.getD k.toNat encRf.dflt) l = match okR (rs.getD k.toNat encRf.dflt) l with | true => (rfP (rs.getD k.toNat encRf.dflt) l, rwP (rs.getD k.toNat encRf.dflt) l) | false => (outR (rs.getD k.toNat encRf.dflt), l) := rfl
  have hfin := fun {env a w} => step3_ok (w0 := w0) (p := p) (i := i) hi2 (c := c) hp (by omega) hkm kd' (env := env) (a := a) (w := w)
  cases hq : okR (rs.getD k.toNat encRf.dflt) l with
  | true =>
    simp only [hq] at hst
    rw [hst] at hfin
    refine pieceNT0 (c := cfgR p l c xs m rs l (rs.getD k.toNat encRf.dflt)) cfgR_ok 2 n3g x_rok hA2 ?_
    have hp7 := pR7_eq (rfP (rs.getD k.toNat encRf.dflt) l) (rs := rs) (k := k.toNat) (by omega)
    rw [hp7]
    simp only [pR1, pR2, pR3, pR4, pR5, pR6, setR_len]
    repeat' (first
      | refine all_needq (by simp only [decide_eq_true_eq, Bool.and_eq_true]; exact Iff.rfl) (by omega) ?_
      | refine all_eq ⟨by first | exact True.intro | rfl, by first | exact True.intro | rfl, hok, hq⟩ ?_)
    refine all_ret fun env3 a3 w3 hA3 => ?_
    simp only [Ex.to, Exit.then]
    refine hfin (env := env3) ?_
    simp only [rw_len]
    exact hA3
  | false =>
    simp only [hq] at hst
    rw [hst] at hfin
    refine pieceNT0 (c := cfgN p l c xs m rs l (rs.getD k.toNat encRf.dflt)) cfgN_ok 2 n3g x_rno hA2 ?_
    have hp7 := pR7_eq (outR (rs.getD k.toNat encRf.dflt)) (rs := rs) (k := k.toNat) (by omega)
    rw [hp7]
    simp only [pR1, pR2, pR3, pR4, pR5, pR6, setR_len]
    repeat' (first
      | refine all_needq (by simp only [decide_eq_true_eq, Bool.and_eq_true]; exact Iff.rfl) (by omega) ?_
      | refine all_eq ⟨by first | exact True.intro | rfl, by first | exact True.intro | rfl, hok, hq⟩ ?_)
    refine all_ret fun env3 a3 w3 hA3 => ?_
    simp only [Ex.to, Exit.then]
    exact hfin (env := env3) hA3
end Go.Proofs.YthofahgnglfaeaaDoor

/- TicketPlays: the making of both kinds of takers. -/
namespace Go.Proofs.YthofahgnglfaeaaDoor
open Go Go.Proofs.YthofahgnglfaeaaDoor.Sx
set_option linter.unusedVariables false
/-- raw numbers, brought nearer -/
def nkP (k : K3) : K3 := ⟨if 1000 < k.at' then 0 else if k.at' < -1000 then 0 else k.at', k.cell, if 20 < k.times then 20 else k.times⟩
abbrev mkT (q : K3) : Tk := ⟨q.at', q.cell, imax q.times 0, 0, 0, 0⟩
abbrev mkR' (q : K3) : Rf := ⟨q.at', q.cell, if q.times < 0 then 0 else q.times, 1, 0, 0, false⟩
def xsK (p : InP) (i : Nat) : List Tk := (p.kinds.take i).map fun k => mkT (nkP k)
def rsK (p : InP) (i : Nat) : List Rf := (p.kinds.take i).map fun k => mkR' (nkP k)
theorem nk_ok (k : K3) : (-1000 ≤ (nkP k).at' ∧ (nkP k).at' ≤ 1000) ∧ (nkP k).times ≤ 20 := by
  unfold nkP
  refine ⟨?_, ?_⟩ <;> simp only <;> repeat' split
  all_goals omega
theorem mk_rel (k : K3) : Rel (mkT (nkP k)) (mkR' (nkP k)) := by
  obtain ⟨h1, h2⟩ := nk_ok k
  generalize nkP k = q at *
  have hi : imax q.times 0 = if q.times < 0 then 0 else q.times := by unfold imax; repeat' split
                                                                      all_goals omega
  refine ⟨rfl, rfl, hi, rfl, rfl, rfl, fun _ => rfl, ⟨h1, ?_, by simp⟩, by simp, rfl⟩
  simp only [hi]
  split <;> omega
theorem xsK_len {p : InP} {i : Nat} (h : i ≤ p.kinds.length) : (xsK p i).length = i := by simp [xsK]; omega
theorem rsK_len {p : InP} {i : Nat} (h : i ≤ p.kinds.length) : (rsK p i).length = i := by simp [rsK]; omega
theorem xsK_succ {p : InP} {i : Nat} (h : i < p.kinds.length) : xsK p (i + 1) = xsK p i ++ [mkT (nkP (p.kinds.getD i encK.dflt))] := by
  unfold xsK
  rw [List.take_add_one, List.map_append]
  simp [List.getD_eq_getElem?_getD, h]
theorem rsK_succ {p : InP} {i : Nat} (h : i < p.kinds.length) : rsK p (i + 1) = rsK p i ++ [mkR' (nkP (p.kinds.getD i encK.dflt))] := by
  unfold rsK
  rw [List.take_add_one, List.map_append]
  simp [List.getD_eq_getElem?_getD, h]
theorem pair_start {p : InP} {l : List Int} (h : l.length = 4) (hu : U32s l) : Pair p.kinds.length l (xsK p p.kinds.length) (rsK p p.kinds.length) := by
  refine ⟨h, hu, xsK_len (Nat.le_refl _), rsK_len (Nat.le_refl _), fun k hk _ => ?_⟩
  have h1 : (xsK p p.kinds.length).getD k encTk.dflt = mkT (nkP p.kinds[k]) := by simp [xsK, List.getD_eq_getElem?_getD, hk]
  have h2 : (rsK p p.kinds.length).getD k encRf.dflt = mkR' (nkP p.kinds[k]) := by simp [rsK, List.getD_eq_getElem?_getD, hk]
  rw [h1, h2]
  exact mk_rel _
abbrev at3 (w0 : From) (p : InP) (l : List Int) (i : Nat) (a : Act) (w : World) : Prop :=
  ∃ env, AtK [] [(0, 0)] w0 env (fr 210 n3b (v3 p i ++ [.int .i64 (i : Nat)])) (s3 p l 2 (xsK p i) i (rsK p i) l) a w
def InvK (w0 : From) (p : InP) (l : List Int) (i : Nat) (a : Act) (w : World) : Prop := i ≤ p.kinds.length ∧ at3 w0 p l i a w
abbrev RK (w0 : From) (p : InP) (l : List Int) (i : Nat) : Exit → Act → World → Prop :=
  Exit.then (fun a' w' => ∃ k, InvK w0 p l k a' w' ∧ p.kinds.length - k < p.kinds.length - i) (Exit.inBlock 0 (Exit.then (d3.wp Tryd.prog (Q3 w0)) (Q3 w0)))
abbrev KK (w0 : From) (p : InP) (l : List Int) (i : Nat) : Exit → Act → World → Prop :=
  Exit.inBlock 1 (Exit.then (inc3.wp Tryd.prog (RK w0 p l i)) (RK w0 p l i))
set_option maxHeartbeats 1000000 in
/-- behind the new taker -/
theorem app3_ok {w0 : From} {p : InP} (h6 : p.kinds.length ≤ 6) {l : List Int} {i : Nat} (hi : i < p.kinds.length) {q : K3} (hq : nkP (p.kinds.getD i encK.dflt) = q) {env : Env} {a : Act} {w : World}
    (h : AtK [] [(0, 0)] w0 env (fr 210 n3c (v3 p i ++ [.int .i64 (i : Nat), .ptr 9 0, .ptr 10 0])) (s3 p l 2 (xsK p i) i (rsK p i) l ++ [kB q, tkB (mkT q) (.lit .i64 0)]) a w) :
    (restC 4 bb3).wp Tryd.prog (KK w0 p l i) a w := by
  have hxl := xsK_len (p := p) (i := i) (by omega)
  have hrl := rsK_len (p := p) (i := i) (by omega)
  obtain ⟨env3, hA3⟩ := h.join 3 10 (by omega) (by simp) (E := encTk) (xs := xsK p i) rfl rfl (mkT q) (fun env cs h => by
      simpa [segCells, Seg.cells, encTk, encOf, DenL, Den] using h) (v3 p i ++ [SVal.int .i64 (i : Nat), SVal.ptr 9 0, SVal.pto 3 i 0]) (fun env' hj hm => ⟨hm _, hm _, hm _, hm _, hm _, hm _, hm _, hm _, fun v h => by
      have := hj v 0 h
      rwa [hxl] at this, trivial⟩)
  have hx := xsK_succ hi
  have hr := rsK_succ hi
  rw [hq] at hx hr
  refine pieceTK2 (c := cfgM) cfgM_ok n3b (x_app (xs := xsK p i ++ [mkT q]) (m := i) (k := i) (rs := rsK p i) (q := q)) (by simp) (by simp) hA3 ?_
  rw [List.length_range, hrl, ← List.range_succ]
  have fin : ∀ {n : Int}, (if q.times < 0 then 0 else q.times) = n → ∀ {env' a' w'}, AtK [] [(0, 0)] w0 env' (fr 210 n3b (v3 p (i + 1) ++ [.int .i64 (i : Nat)])) (s3 p l 2 (xsK p i ++ [mkT q]) (i + 1) (rsK p i ++ [⟨q.at', q.cell, n, 1, 0, 0, false⟩]) l) a' w' → inc3.wp Tryd.prog (RK w0 p l i) a' w' := by
    intro n hn env' a' w' h
    subst hn
    rw [← hx, ← hr] at h
    refine pieceTK2 (c := cfgM) cfgM_ok n3b x_inc (by simp) (by simp) h ?_
    refine all_needp (by simp only [inR_i64]; exact Iff.rfl) (by omega) fun _ => all_ret fun env'' a'' w'' hA' => ?_
    exact ⟨i + 1, ⟨by omega, env'', hA'⟩, by omega⟩
  refine all_need rfl fun _ => all_need (decide_eq_true rfl) fun _ => ?_
  refine all_needq (by simp only [roomy_iff]; exact Iff.rfl) (by omega) ?_
  refine all_brp (by simp only [decide_eq_true_eq]; exact Iff.rfl) (fun h1 => ?_) (fun h1 => ?_)
  · refine all_need rfl fun _ => all_need (decide_eq_true rfl) fun _ => ?_
    refine all_needq (by simp only [roomy_iff]; exact Iff.rfl) (by omega) ?_
    repeat' (first | refine all_eq rfl ?_)
    refine all_ret fun env' a' w' h => ?_
    simp only [Ex.to, Exit.inBlock, Exit.then]
    exact fin (if_pos h1) h
  · refine all_need rfl fun _ => all_need (decide_eq_true rfl) fun _ => ?_
    refine all_needq (by simp only [roomy_iff]; exact Iff.rfl) (by omega) ?_
    repeat' (first | refine all_eq rfl ?_)
    refine all_ret fun env' a' w' h => ?_
    simp only [Ex.to, Exit.inBlock, Exit.then]
    exact fin (if_neg h1) h
set_option maxHeartbeats 1000000 in
theorem round3_ok {w0 : From} {p : InP} (h6 : p.kinds.length ≤ 6) {l : List Int} (hl : l.length = 4)
    (hd3 : ∀ {env : Env} {a : Act} {w : World}, AtK [] [(0, 0)] w0 env (fr 210 n3b (v3 p p.kinds.length ++ [.int .i64 (p.kinds.length : Nat)])) (s3 p l 2 (xsK p p.kinds.length) p.kinds.length (rsK p p.kinds.length) l) a w → d3.wp Tryd.prog (Q3 w0) a w)
    {i : Nat} {a : Act} {w : World} (h : InvK w0 p l i a w) : round3.wp Tryd.prog (RK w0 p l i) a w := by
  obtain ⟨hi, env, hA⟩ := h
  refine wpS (by kernel_rfl) ?_
  refine pieceTK2 (c := cfgM) cfgM_ok n3b x_tm (by simp) (by simp) hA ?_
  refine all_brp (by simp only [decide_eq_true_eq]; exact Iff.rfl) (fun h1 => all_ret fun env1 a1 w1 hA1 => ?_) (fun h1 => all_ret fun env1 a1 w1 hA1 => ?_)
  · simp only [Ex.to, Exit.then]
    have hi' : i < p.kinds.length := by omega
    refine (show (rgt round3).wp Tryd.prog (RK w0 p l i) a1 w1 from wpS (by kernel_rfl) (wpB 1 (by kernel_rfl) ?_))
    refine (show bb3.wp Tryd.prog (KK w0 p l i) a1 w1 from ?_)
    refine pieceNTK2 (c := cfgM) cfgM_ok 4 n3c x_mk (by simp) (by simp) hA1 ?_
    simp only [Int.toNat_natCast]
    have hfin := fun {q : K3} (hq) {env a w} => app3_ok (w0 := w0) h6 (l := l) hi' (q := q) hq (env := env) (a := a) (w := w)
    rw [show encK.dflt = (⟨0, 0, 0⟩ : K3) from rfl] at hfin
    repeat' (first
      | refine all_needq (by simp only [decide_eq_true_eq, Bool.and_eq_true]; exact Iff.rfl) (by omega) ?_
      | refine all_brp (by simp only [decide_eq_true_eq]; exact Iff.rfl) (fun _ => ?_) (fun _ => ?_))
    · rename_i c1 c2
      refine all_ret fun env' a' w' h => hfin (q := ⟨0, (p.kinds.getD i ⟨0, 0, 0⟩).cell, 20⟩) ?_ (h.on fun h => h.gen rfl)
      simp only [nkP, c1, c2, if_true, if_false]
    · rename_i c1 c2 c3
      refine all_ret fun env' a' w' h => hfin (q := ⟨0, (p.kinds.getD i ⟨0, 0, 0⟩).cell, 20⟩) ?_ (h.on fun h => h.gen rfl)
      simp only [nkP, c1, c2, c3, if_true, if_false]
    · rename_i c1 c2 c3
      refine all_ret fun env' a' w' h => hfin (q := ⟨(p.kinds.getD i ⟨0, 0, 0⟩).at', (p.kinds.getD i ⟨0, 0, 0⟩).cell, 20⟩) ?_ (h.on fun h => h.gen rfl)
      simp only [nkP, c1, c2, c3, if_true, if_false]
    · rename_i c1 c2
      refine all_ret fun env' a' w' h => hfin (q := ⟨0, (p.kinds.getD i ⟨0, 0, 0⟩).cell, (p.kinds.getD i ⟨0, 0, 0⟩).times⟩) ?_ (h.on fun h => h.gen rfl)
      simp only [nkP, c1, c2, if_true, if_false]
    · rename_i c1 c2 c3
      refine all_ret fun env' a' w' h => hfin (q := ⟨0, (p.kinds.getD i ⟨0, 0, 0⟩).cell, (p.kinds.getD i ⟨0, 0, 0⟩).times⟩) ?_ (h.on fun h => h.gen rfl)
      simp only [nkP, c1, c2, c3, if_true, if_false]
    · rename_i c1 c2 c3
      refine all_ret fun env' a' w' h => hfin (q := ⟨(p.kinds.getD i ⟨0, 0, 0⟩).at', (p.kinds.getD i ⟨0, 0, 0⟩).cell, (p.kinds.getD i ⟨0, 0, 0⟩).times⟩) ?_ (h.on fun h => h.gen rfl)
      simp only [nkP, c1, c2, c3, if_true, if_false]
  · have : i = p.kinds.length := by omega
    subst this
    simp only [Ex.to, Exit.then, Exit.inBlock, if_true]
    exact hd3 hA1
end Go.Proofs.YthofahgnglfaeaaDoor

/- TicketPlays: its call. -/
namespace Go.Proofs.YthofahgnglfaeaaDoor
open Go Go.Proofs.YthofahgnglfaeaaDoor.Sx
set_option linter.unusedVariables false
theorem b3_eq : Tryd.f3.body = some b3 := by kernel_rfl
set_option maxHeartbeats 1000000 in
theorem d3_ok {w0 : From} {p : InP} {l : List Int} (hl : l.length = 4) (hu : U32s l) {env : Env} {a : Act} {w : World}
    (h : AtK [] [(0, 0)] w0 env (fr 210 n3b (v3 p p.kinds.length ++ [.int .i64 (p.kinds.length : Nat)])) (s3 p l 2 (xsK p p.kinds.length) p.kinds.length (rsK p p.kinds.length) l) a w) : d3.wp Tryd.prog (Q3 w0) a w := by
  have hp := pair_start (p := p) hl hu
  generalize xsK p p.kinds.length = xs at *
  generalize rsK p p.kinds.length = rs at *
  generalize p.kinds.length = m at *
  have h1 := h.at'.vals ([.bad, pickV p 5, .ptr 1 0, .sli 6 (.c 0) 1 (.v 4) none, .sli 7 (.c 0) 1 (.v m) none, .sli 8 (.c 0) 7 (.v m) none, .bad]) ⟨fun _ _ => by simp [Den], fun _ h => h, fun _ h => h, fun _ h => h, fun _ h => h, fun _ h => h, fun _ _ => by simp [Den], trivial⟩
  have h2 := h1.perm [0, 1, 2, 3, 5, 6, 7, 8] (by kernel_rfl) (by kernel_rfl) (st' := s3b p l 2 xs m rs l) (vals' := [.bad] ++ v3b p m 4 ++ [.bad]) (by kernel_rfl) (by kernel_rfl)
  refine wpS (by kernel_rfl) (wpS (by kernel_rfl) ?_)
  refine pieceT0 (c := cfgM) cfgM_ok n3e x_regb h2 (all_ret fun env3 a3 w3 hA3 => ?_)
  simp only [Ex.to, Exit.then]
  have hA4 := hA3.gvals (v3b p m 4 ++ [SVal.int .i64 ((0 : Nat) : Int)]) rfl
  refine wpB 2 (by kernel_rfl) (wpL (by kernel_rfl) (Inv3 w0 p m) (fun j => 100 - j.i) ⟨0, l, 2, xs, rs⟩ ⟨by simp, hp, env3, by simp only [hl]; exact hA4⟩ ?_)
  intro j a w h
  exact round3b_ok h
theorem noFootP {e0 e1 e2 : Slot} {p : InP} (x : Nat) (h : inFoot [e0, e1, e2] (s0P p) x) : False := by
  obtain ⟨id, e, b, he, hb, hx⟩ := h
  match id with
  | 0 => simp at hb; subst hb; cases hx
  | 1 => simp at hb; subst hb; cases hx
  | 2 => simp at hb; subst hb; cases hx
  | n + 3 => simp at hb
set_option maxHeartbeats 1000000 in
theorem ticketPlays_call {p : InP} {f0 f1 : Int} (hf0 : 0 ≤ f0 ∧ f0 < 4294967296) (hf1 : 0 ≤ f1 ∧ f1 < 4294967296) {e0 e1 e2 : Slot} (he : e0.blk = 0 ∧ e0.off = 0) {w : World} {v v' : Value} (hr : Rep [e0, e1, e2] (s0P p) w) (hv : Den [e0, e1, e2] (kindsV p 1) v) (hv' : Den [e0, e1, e2] (pickV p 2) v') :
    Calls Tryd.prog 3 ⟨[v, .agg ⟨[.int .u32 f0, .int .u32 f1]⟩, v']⟩ w (Said ⟨w, fun _ => False⟩) := by
  refine call_begin (c := cfgA) Tryd.func3 b3_eq (args := [kindsV p 1, .agg [.int .u32 f0, .int .u32 f1], pickV p 2]) (by
    intro q hq
    rw [List.mem_singleton.1 hq]
    exact ⟨e0, rfl, he⟩) hr ⟨_, _, rfl, hv, _, _, rfl, ⟨_, rfl, _, _, rfl, rfl, _, _, rfl, rfl, rfl⟩, _, _, rfl, hv', rfl⟩ (F := fun _ => False) (fun x h => noFootP x h) ?_
  intro a hA
  refine pieceNT0 (c := cfgA) cfgA_ok 6 n3p x_pre hA ?_
  refine all_eq rfl ?_
  refine all_brp (by simp only [decide_eq_true_eq]; exact Iff.rfl) (fun h6 => all_eq rfl (all_ret fun env1 a1 w1 hA1 => ?_)) (fun h6 => ?_)
  · exact hA1.said (by kernel_rfl)
  repeat' (first | refine all_need rfl (fun _ => ?_) | refine all_eq rfl ?_)
  refine all_ret fun env1 a1 w1 hA1 => ?_
  simp only [Ex.to, Exit.then]
  have hA1' := At.few (names := n3a) (extra := [6]) (vals := [kindsV p 1, pickV p 2, .ptr 3 0, .sli 5 (.c 0) 1 (.c 4) (some (.c 4)), .sli 6 (.c 0) 1 (.c 0) (some (.c 0)), .sli 7 (.c 0) 7 (.c 0) (some (.c 0))]) (ev := [.bl false]) hA1 rfl
  obtain ⟨env2, hA2⟩ := hA1'.void 6 (encInt .i64) rfl
  obtain ⟨env3, hA3⟩ := hA2.void 7 (encRow 6) rfl
  have s0 : setP 0 f0 = f0 := by rw [setP_ok]; omega
  have s1 : setP 0 f1 = f1 := by rw [setP_ok]; omega
  obtain ⟨env4, hA4⟩ := hA3.vecd 5 (encInt .u32) (memF f0 f1) rfl (fun env cs h => by simpa [segCells, Seg.cells, encInt, DenL, Den] using h) rfl
    [kindsV p 1, pickV p 2, .ptr 3 0, .sli 10 (.c 0) 1 (.v 4) none, .sli 8 (.c 0) 1 (.v 0) none, .sli 9 (.c 0) 7 (.v 0) none] (fun env' hm h1 h2 => ⟨hm _, hm _, hm _, h1 1, hm _, hm _, trivial⟩)
  have hA5 := hA4.many0 encTk 70
  have hA6 := hA5.perm [0, 3, 4, 11, 1, 2, 10, 8, 9] (by kernel_rfl) (by kernel_rfl) (st' := [lookB, .own [.c (.sli 2 (.c 0) 1 (.c 4) (some (.c 4))), .c (.lit .i64 2)] 62, .own [.c (.int .u32 (setP 0 f0)), .c (.int .u32 (setP 0 f1)), .c (.lit .u32 0), .c (.lit .u32 0)] 23, .many encTk [] 70, .ro encK p.kinds, .ro (encInt .i64) p.picks, .vec (encInt .u32) (memF f0 f1) 23, .vec (encInt .i64) [] 37, .vec (encRow 6) [] 40]) (vals' := v3 p 0) (by kernel_rfl) (by kernel_rfl)
  have hA7 := hA6.typede 7 (E' := encP 3) (ys := []) rfl rfl rfl (fun cs h => h)
  have hA8 := hA7.typede 8 (E' := encRf) (ys := []) rfl rfl rfl (fun cs h => h)
  have hA9 := hA8.segs 2 (l' := [.a (encInt .u32) 4 (memF f0 f1)]) rfl (by intro s hs; rw [List.mem_singleton.1 hs]; rfl) (fun cs h => by simpa [segCells, Seg.cells, encInt, DenL, Den, s0, s1] using h)
  have hA10 : AtK [] [(0, 0)] ⟨w, fun _ => False⟩ _ (fr 210 n3a (v3 p 0)) (s3 p (memF f0 f1) 2 [] 0 [] (memF f0 f1)) a1 w1 := ⟨hA9.gen rfl, _, rfl⟩
  refine (show c3.wp Tryd.prog (Q3 ⟨w, fun _ => False⟩) a1 w1 from wpS (by kernel_rfl) (wpS (by kernel_rfl) ?_))
  refine pieceTK2 (c := cfgM) cfgM_ok n3b x_reg (by simp) (by simp) hA10 (all_ret fun env11 a11 w11 hA11 => ?_)
  simp only [Ex.to, Exit.then]
  have hA12 := hA11.on fun h => h.gvals (v3 p 0 ++ [SVal.int .i64 ((0 : Nat) : Int)]) rfl
  have h6' : p.kinds.length ≤ 6 := by omega
  have hu : U32s (memF f0 f1) := by
    intro x hx
    simp only [List.mem_cons, List.not_mem_nil, or_false] at hx
    rcases hx with rfl | rfl | rfl | rfl <;> omega
  refine wpB 0 (by kernel_rfl) (wpL (by kernel_rfl) (InvK ⟨w, fun _ => False⟩ p (memF f0 f1)) (fun i => p.kinds.length - i) 0 ⟨Nat.zero_le _, env11, hA12⟩ ?_)
  intro i a w h
  exact round3_ok h6' rfl (fun h => d3_ok rfl hu h) h
end Go.Proofs.YthofahgnglfaeaaDoor

/- TicketPlays: its row and its card. -/
namespace Go.Proofs.YthofahgnglfaeaaDoor
open Go Go.Proofs.YthofahgnglfaeaaDoor.Sx Go.ChangeShapes Go.WideShapes Go.ChangeAt Go.RowKit
set_option linter.unusedVariables false
theorem open_two {H : Type} {enc : TypeId × Value → H} {W W0 : World} {r : Reach} {b0 base : Nat} {spare : Nat → Bool} {held : Bool} {v : Value} {d : DataW H} {ps : List MemPlace} (hval : Value.okWide Tryd.prog W0 r b0 24 v) (hd : DataW.Trod enc Tryd.prog W base spare held 24 v d ps) :
    ∃ a b, v = .agg #[.int .u32 a, .int .u32 b] ∧ (0 ≤ a ∧ a < 4294967296) ∧ (0 ≤ b ∧ b < 4294967296) := by
  have hv : ∃ cs, v = .agg cs := by
    simp only [Value.okWide, Tryd.underlying24] at hval
    obtain ⟨cs, e, _⟩ := hval
    exact ⟨cs, e⟩
  obtain ⟨cs, rfl⟩ := hv
  obtain ⟨fuel, hf⟩ := hd
  obtain ⟨xs, m, _, _, hlen, hxl, hel⟩ := DataW.trod_array Tryd.underlying24 hf
  have k24 : Tryd.prog.cellsOf 24 = 2 := by kernel_rfl
  have k23 : Tryd.prog.cellsOf 23 = 1 := by kernel_rfl
  rw [k24] at hlen
  rw [k23] at hel
  obtain ⟨l⟩ := cs
  simp only [Value.cells] at hlen hel
  match l, hlen with
  | [c0, c1], _ =>
    match xs, hxl with
    | [y0, y1], _ =>
      have f0 : DataW.trod _ Tryd.prog W base spare held m 23 [c0] = some y0 := hel 0 (by omega)
      have f1 : DataW.trod _ Tryd.prog W base spare held m 23 [c1] = some y1 := hel 1 (by omega)
      obtain ⟨a0, h0, e0, w0⟩ := DataW.trod_int Tryd.underlying23 f0
      obtain ⟨a1, h1, e1, w1⟩ := DataW.trod_int Tryd.underlying23 f1
      simp at h0 h1
      subst h0 h1
      exact ⟨a0, a1, rfl, wf_u32 w0, wf_u32 w1⟩
theorem open_k3 {H : Type} {enc : TypeId × Value → H} {w : World} {base : Nat} {spare : Nat → Bool} {held : Bool} (n : Nat) (cs : List Value) (y : DataW H × List MemPlace) (h : DataW.trod enc Tryd.prog w base spare held n 36 cs = some y) :
    ∃ x : K3, DenL [] (encK.enc x) cs := by
  obtain ⟨xs, m, _, _, hlen, hxl, hf⟩ := DataW.trod_struct Tryd.underlying36 h
  have hC : Tryd.prog.cellsOf 36 = 3 := by kernel_rfl
  rw [hC] at hlen
  match cs, hlen with
  | [c0, c1, c2], _ =>
    match xs, hxl with
    | [y0, y1, y2], _ =>
      have f0 : DataW.trod enc Tryd.prog w base spare held m 3 (([c0, c1, c2].drop 0).take (Tryd.prog.cellsOf 3)) = some y0 := hf 0 _ rfl
      have f1 : DataW.trod enc Tryd.prog w base spare held m 3 (([c0, c1, c2].drop 1).take (Tryd.prog.cellsOf 3)) = some y1 := hf 1 _ rfl
      have f2 : DataW.trod enc Tryd.prog w base spare held m 3 (([c0, c1, c2].drop 2).take (Tryd.prog.cellsOf 3)) = some y2 := hf 2 _ rfl
      have k0 : Tryd.prog.cellsOf 3 = 1 := by kernel_rfl
      rw [k0] at f0 f1 f2
      obtain ⟨a, h0, _⟩ := DataW.trod_int Tryd.underlying3 f0
      obtain ⟨b, h1, _⟩ := DataW.trod_int Tryd.underlying3 f1
      obtain ⟨c, h2, _⟩ := DataW.trod_int Tryd.underlying3 f2
      simp at h0 h1 h2
      subst h0 h1 h2
      exact ⟨⟨a, b, c⟩, by simp [encK, encOf, DenL, Den]⟩
set_option maxRecDepth 100000 in
theorem ticketPlays_lifted (os : Os) (started : os.Started) (H : Type) (enc : TypeId × Value → H) :
    ReturnsInHanded {} Tryd.checked os 3 .any (fun w args => (Rows.ticketPlaysSpec.pre enc Tryd.prog Tryd.f3 [] false w args ∧ laidMetH Tryd.prog laid1 w) ∧ sizedMet enc Tryd.prog Tryd.f3 (OpenSpec.ofChange Rows.ticketPlaysSpec) false w args)
      (Rows.ticketPlaysSpec.post enc Tryd.prog Tryd.f3 false true false false) := by
  refine returnsInHanded_of_change_and (C := Tryd.checked) (X := fun w _ => laidMetH Tryd.prog laid1 w) (fun _ _ _ hh h => h.of_heap hh) Tryd.own started (by kernel_rfl) Tryd.func3
    (ChangeSpec.witness_shaped (enc := enc) (C := Tryd.checked) (os := os) (X := fun w _ => laidMetH Tryd.prog laid1 w) false (World.doorLaid Tryd.prog 400 os) #[.slice none 0 0, .agg #[.int .u32 0, .int .u32 0], .slice none 0 0] 8 rfl (World.shaped_of_RefB (by kernel_rfl) (by kernel_rfl)) (by kernel_rfl) (by kernel_rfl) (by kernel_rfl) (door_met os _)) ?_
  intro W base args ds gs before hval0 hW _ _ hL _
  have hval : ∀ (j : Nat) t v, Tryd.f3.params[j]? = some t → args[j]? = some v → Value.okWide Tryd.prog W .any base t v := hval0
  have hW' := hW
  obtain ⟨p, q, hA0, hV, rfl, hfz, hnd⟩ := hW
  have hA : DataW.TrodAll enc Tryd.prog W 0 (fun _ => true) true Tryd.f3.params.toList args.toList ds p := hA0
  rw [Tryd.params3] at hA hval
  obtain ⟨v0, v1, v2, d0, d1, d2, p0, p1, p2, rfl, rfl, rfl, h0, h1, h2⟩ := trodAll_three hA
  obtain ⟨rfl, rfl⟩ := trodVars_none hV
  obtain ⟨f, g, rfl, wf, wg⟩ := open_two (hval 1 24 v1 rfl rfl) h1
  clear hA0 hval0
  have hlt0 : ∀ x ∈ p0, x.block < W.heap.size := fun x hx => by simpa using hW'.lt x (by simp [hx])
  have hlt1 : ∀ x ∈ p1, x.block < W.heap.size := fun x hx => by simpa using hW'.lt x (by simp [hx])
  have hlt2 : ∀ x ∈ p2, x.block < W.heap.size := fun x hx => by simpa using hW'.lt x (by simp [hx])
  obtain ⟨e0, he, hr0⟩ := of_laid hL
  have fin : ∀ e W', Said ⟨W, fun _ => False⟩ e W' → ∃ v, e = .returned v ∧ Rows.ticketPlaysSpec.post enc Tryd.prog Tryd.f3 false true false false W #[v0, .agg #[.int .u32 f, .int .u32 g], v2] v W' := by
    rintro e W' ⟨rfl, hsz, hk, hc⟩
    have hk' : ∀ x, x < W.heap.size → W'.heap[x]? = W.heap[x]? := fun x hx => hk x hx (fun h => h)
    refine ⟨_, rfl, _, _, _, [], _, [], hW', ⟨[], [], shut_bool Tryd.underlying4 true, rfl, rfl⟩, trodAll_mk3 (trod_same Tryd.laidOut (by kernel_rfl) (of_decide_eq_true (by kernel_rfl)) h0 hk' hlt0) (trod_same Tryd.laidOut (by kernel_rfl) (of_decide_eq_true (by kernel_rfl)) h1 hk' hlt1) (trod_same Tryd.laidOut (by kernel_rfl) (of_decide_eq_true (by kernel_rfl)) h2 hk' hlt2), rfl, keptBut_of _ hc hk', fun h => by cases h⟩
  obtain ⟨xs, cap, e1, hr1, hd1⟩ := open_sli encK Tryd.underlying22 (by kernel_rfl) open_k3 rfl (hval 0 22 v0 rfl rfl) h0
  obtain ⟨ys, cap', e2, hr2, hd2⟩ := open_sli (encInt .i64) Tryd.underlying25 (by kernel_rfl) open_i64 rfl (hval 2 25 v2 rfl rfl) h2
  obtain ⟨hr3, hn3⟩ := ro_add hr0 (by intro b hb e; rw [List.mem_singleton.1 hb]; rfl) rfl hr1
  obtain ⟨hr, _⟩ := ro_add hr3 hn3 rfl hr2
  have hv : Den ([e0, e1] ++ [e2]) (kindsV ⟨xs, cap, ys, cap'⟩ 1) v0 := den_wide (den_add (env := [e0]) (n := 1) hd1 rfl)
  have hv' : Den ([e0, e1] ++ [e2]) (pickV ⟨xs, cap, ys, cap'⟩ 2) v2 := den_add (env := [e0, e1]) (n := 2) hd2 rfl
  exact (ticketPlays_call (p := ⟨xs, cap, ys, cap'⟩) wf wg he hr hv hv').mono fun e W' h => fin e W' h
theorem ticketPlays_row : Rows.TicketPlaysSaid :=
  OpenClaim.holds_of_wide 3 Tryd.f3 rfl rfl rfl rfl rfl rfl rfl ⟨rfl, rfl, rfl, rfl, rfl⟩ rfl rfl rfl rfl rfl (by kernel_rfl) Tryd.func3 (by kernel_rfl)
    (of_decide_eq_true (by kernel_rfl)) (by unfold Func.isWrapper; first | (rw [if_pos (by decide +kernel)]; kernel_rfl) | (rw [if_neg (by decide +kernel)]; exact ⟨rfl, rfl⟩))
    (fun os started H enc _ => ticketPlays_lifted os started H enc)
theorem ticketPlays_holds : Rows.TicketPlaysCardSaid :=
  Claim7.holds_tied_plain_at .later [] [.data] true _ _ ticketPlays_row (fun _ h => by cases h) (by kernel_rfl) (fun _ h => by cases h) ticketPlays_row_tie rfl ⟨rfl, rfl⟩ (by kernel_rfl) rfl
    (fun f fn hf hfn => by
      obtain rfl : f = 3 := Option.some.inj ((show Tryd.prog.funcNamed "purlin/purlinlaw09.TicketPlays" = some 3 by kernel_rfl).symm.trans hf) |>.symm
      obtain rfl : fn = Tryd.f3 := (Option.some.inj (Tryd.func3.symm.trans hfn)).symm
      exact ⟨by kernel_rfl, fun j t ht => by
        rw [Tryd.params3] at ht
        have hm : t ∈ [22, 24, 25] := by simpa using Array.mem_of_getElem? ht
        have hall : ([22, 24, 25].all fun u => !Tryd.prog.wantsStandIn u) = true := by kernel_rfl
        exact (show Tryd.prog.wantsStandIn t = false by simpa using List.all_eq_true.1 hall t hm)⟩)
    (by kernel_rfl)
end Go.Proofs.YthofahgnglfaeaaDoor

