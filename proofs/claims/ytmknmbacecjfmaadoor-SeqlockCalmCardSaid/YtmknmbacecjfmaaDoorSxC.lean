/- An executor on symbolic values: the ways in and out of a call, summaries, drawn orders. -/
import Derived.Test.YtmknmbacecjfmaaDoorSxB
import Derived.ProofKit
import Derived.Deep.Slices
import Derived.WideShapes
/- Calls begun and ended, chains, blocks and loops entered by hand. -/
namespace Go.Proofs.YtmknmbacecjfmaaDoor.Sx
set_option linter.unusedVariables false
universe u

/-! ## ways into code -/
def lft : Code → Code
  | .seq a _ => a
  | .cond _ a _ => a
  | .block _ b => b
  | .loop b => b
  | .scope b => b
  | c => c
def rgt : Code → Code
  | .seq _ b => b
  | .cond _ _ b => b
  | c => c
def isSeq : Code → Bool
  | .seq .. => true
  | _ => false
def isBlock (id : Nat) : Code → Bool
  | .block j _ => Nat.beq j id
  | _ => false
def isLoop : Code → Bool
  | .loop _ => true
  | _ => false
def isScope : Code → Bool
  | .scope _ => true
  | _ => false
theorem wpS {P : Program} {c : Code} {Q : Exit → Act → World → Prop} {a : Act} {w : World} (hc : isSeq c = true) (h : (lft c).wp P (Exit.then ((rgt c).wp P Q) Q) a w) : c.wp P Q a w := by
  cases c <;> first | (simp [isSeq] at hc; done) | exact wp_seq h
theorem wpB {P : Program} {c : Code} {Q : Exit → Act → World → Prop} {a : Act} {w : World} (id : Nat) (hc : isBlock id c = true) (h : (lft c).wp P (Exit.inBlock id Q) a w) : c.wp P Q a w := by
  cases c <;> first
    | (simp [isBlock] at hc; done)
    | (simp only [isBlock] at hc
       have := Nat.eq_of_beq_eq_true hc
       subst this
       exact wp_block h)
/-- a loop whose rounds bring a number down -/
theorem wpL {P : Program} {c : Code} {Q : Exit → Act → World → Prop} {a : Act} {w : World} (hc : isLoop c = true) {ι : Type} (I : ι → Act → World → Prop) (μ : ι → Nat) (i : ι) (h0 : I i a w)
    (round : ∀ i a w, I i a w → (lft c).wp P (Exit.then (fun a' w' => ∃ j, I j a' w' ∧ μ j < μ i) Q) a w) : c.wp P Q a w := by
  cases c <;> first | (simp [isLoop] at hc; done) | skip
  rename_i b
  simp only [lft] at round
  have key : ∀ n i a w, I i a w → μ i < n → Code.rounds P b Q n a w := by
    intro n
    induction n with
    | zero => intro i a w _ h; exact absurd h (Nat.not_lt_zero _)
    | succ n ih =>
      intro i a w hI hn
      rw [rounds_succ]
      refine wp_mono (round i a w hI) ?_
      intro e a' w' hq
      cases e <;> first
        | (obtain ⟨j, hj, hlt⟩ := hq; exact ih j a' w' hj (by omega))
        | exact hq
  exact wp_loop_rounds _ (key _ i a w h0 (Nat.lt_succ_self _))

/-! ## a whole tree -/
/-- whatever way is gone, it ends well -/
def T.all {α : Type u} (Q : α → Prop) : T α → Prop
  | .ret a => Q a
  | .br b t f => (b = true → t.all Q) ∧ (b = false → f.all Q)
  | .need b t => b = true ∧ t.all Q
  | .eq p t => p ∧ t.all Q
  | .no _ => False
theorem T.all_at {α : Type u} {Q : α → Prop} : ∀ {t : T α}, t.all Q → ∃ a, t.at a ∧ Q a
  | .ret a, h => ⟨a, rfl, h⟩
  | .br b t f, h => by
    cases hb : b with
    | true => obtain ⟨a, h1, h2⟩ := T.all_at (h.1 hb); exact ⟨a, .inl ⟨rfl, h1⟩, h2⟩
    | false => obtain ⟨a, h1, h2⟩ := T.all_at (h.2 hb); exact ⟨a, .inr ⟨rfl, h1⟩, h2⟩
  | .need b t, h => by obtain ⟨a, h1, h2⟩ := T.all_at h.2; exact ⟨a, ⟨h.1, h1⟩, h2⟩
  | .eq p t, h => by obtain ⟨a, h1, h2⟩ := T.all_at h.2; exact ⟨a, ⟨h.1, h1⟩, h2⟩
  | .no _, h => h.elim
structure All {α : Type u} (Q : α → Prop) (t : T α) : Prop where
  h : t.all Q
/-- a piece of code, along all ways -/
theorem pieceT {c : Cfg} (hsm : SmOk c) {fuel N : Nat} {code : Code} {ts : List SVal} {st : St} (names : List Nat) {t : T (Ex × List SVal × St)} (ht : (exec c fuel code ts st).bind (canon c.gl N names) = t)
    {w0 : From} {env : Env} {a : Act} {w : World} (hA : At c.gl w0 env ts st a w) {Q : Exit → Act → World → Prop}
    (hk : All (fun r => ∀ env' a' w', At c.gl w0 env' (fr N names r.2.1) r.2.2 a' w' → Q r.1.to a' w') t) : code.wp c.P Q a w := by
  obtain ⟨⟨e, vals, st'⟩, h1, hk⟩ := T.all_at hk.h
  rw [← ht, T.at_bind] at h1
  obtain ⟨⟨e1, ts1, st1⟩, h1, h2⟩ := h1
  refine exec_ok hsm fuel code ts st e1 ts1 st1 env w a Q h1 hA.gl hA.rep hA.den ?_
  intro env1 a1 w1 hx1 hr1 ht1 hd1
  obtain ⟨rfl, env2, g2, r2, t2, f2⟩ := canon_ok h2 (hA.gl.ext hx1) hr1 ht1
  exact hk env2 a1 w1 ⟨g2, r2, t2, (hA.fresh.ext hx1).sub f2, by rw [hd1, hA.defers]⟩
/-- the first links of a chain, along all ways -/
theorem pieceNT {c : Cfg} (hsm : SmOk c) {fuel N : Nat} (n : Nat) {code : Code} {ts : List SVal} {st : St} (names : List Nat) {t : T (Ex × List SVal × St)} (ht : (execN c fuel n code ts st).bind (canon c.gl N names) = t)
    {w0 : From} {env : Env} {a : Act} {w : World} (hA : At c.gl w0 env ts st a w) {Q : Exit → Act → World → Prop}
    (hk : All (fun r => ∀ env' a' w', At c.gl w0 env' (fr N names r.2.1) r.2.2 a' w' → Exit.then (fun a w => (restC n code).wp c.P Q a w) Q r.1.to a' w') t) : code.wp c.P Q a w := by
  obtain ⟨⟨e, vals, st'⟩, h1, hk⟩ := T.all_at hk.h
  rw [← ht, T.at_bind] at h1
  obtain ⟨⟨e1, ts1, st1⟩, h1, h2⟩ := h1
  refine execN_ok hsm fuel n code ts st e1 ts1 st1 env w a Q h1 hA.gl hA.rep hA.den ?_
  intro env1 a1 w1 hx1 hr1 ht1 hd1
  obtain ⟨rfl, env2, g2, r2, t2, f2⟩ := canon_ok h2 (hA.gl.ext hx1) hr1 ht1
  exact hk env2 a1 w1 ⟨g2, r2, t2, (hA.fresh.ext hx1).sub f2, by rw [hd1, hA.defers]⟩

/-! ## other words for the same memory -/
theorem At.blk {gl : List (Nat × Nat)} {w0 : From} {env : Env} {ts : List SVal} {st : St} {a : Act} {w : World} (h : At gl w0 env ts st a w) (i : Nat) (b b' : Blk) (hb : st[i]? = some b) (hh : ∀ e, b.holds env e w → b'.holds env e w) (hf : ∀ e, b'.foot e = b.foot e) (hs : ∀ e, b'.supp e = b.supp e) :
    At gl w0 env ts (st.set i b') a w := by
  have hi : i < st.length := (List.getElem?_eq_some_iff.1 hb).1
  have get : ∀ {j : Nat} {c : Blk}, (st.set i b')[j]? = some c → ∃ c0, st[j]? = some c0 ∧ (∀ e, c0.holds env e w → c.holds env e w) ∧ (∀ e, c.foot e = c0.foot e) ∧ ∀ e, c.supp e = c0.supp e := by
    intro j c hc
    by_cases hj : i = j
    · subst hj
      rw [List.getElem?_set_self hi] at hc
      simp only [Option.some.injEq] at hc; subst hc
      exact ⟨b, hb, hh, hf, hs⟩
    · rw [List.getElem?_set_ne hj] at hc
      exact ⟨c, hc, fun _ h => h, fun _ => rfl, fun _ => rfl⟩
  have hfoot : ∀ x, inFoot env (st.set i b') x → inFoot env st x := by
    rintro x ⟨j, e, c, he, hc, hx⟩
    obtain ⟨c0, h1, h2, h3, h4⟩ := get hc
    exact ⟨j, e, c0, he, h1, by rw [← h3]; exact hx⟩
  refine ⟨h.gl, ⟨by rw [List.length_set]; exact h.rep.len, ?_, ?_, ?_⟩, h.den, h.fresh.sub hfoot, h.defers⟩
  · intro j e c he hc
    obtain ⟨c0, h1, h2, _, _⟩ := get hc
    exact h2 e (h.rep.holds j e c0 he h1)
  · intro j k e f c d hjk he hf hc hd x hx hx'
    obtain ⟨c0, h1, h2, h3, h4⟩ := get hc
    obtain ⟨d0, g1, g2, g3, g4⟩ := get hd
    rw [h3] at hx; rw [g4] at hx'
    exact h.rep.apart j k e f c0 d0 hjk he hf h1 g1 x hx hx'
  · intro j e c he hc x hx
    obtain ⟨c0, h1, h2, h3, h4⟩ := get hc
    rw [h4] at hx
    exact h.rep.low j e c0 he h1 x hx
/-- rows that are written out, as elements of a kind -/
theorem At.typed {gl : List (Nat × Nat)} {w0 : From} {env : Env} {ts : List SVal} {st : St} {a : Act} {w : World} (h : At gl w0 env ts st a w) (i : Nat) {X Y : Type} {E : Enc X} {E' : Enc Y} {xs : List X} {ys : List Y} {T : TypeId} (hb : st[i]? = some (.vec E xs T)) (hl : xs.length = ys.length) (hz : E.sz = E'.sz)
    (he : xs.flatMap E.enc = ys.flatMap E'.enc) : At gl w0 env ts (st.set i (.vec E' ys T)) a w := by
  refine h.blk i _ _ hb ?_ (fun _ => rfl) (fun _ => rfl)
  rintro e ⟨h0, h1, hh⟩
  refine ⟨h0, by rw [← hl]; exact h1, fun hc => ?_⟩
  obtain ⟨cs, junk, h2, h3, h4⟩ := hh hc
  exact ⟨cs, junk, h2, by rw [← he]; exact h3, by rw [← hz]; exact h4⟩
/-- values in the place of values -/
def SubV (env env' : Env) : List SVal → List SVal → Prop
  | [], [] => True
  | s :: l, s' :: l' => (∀ v, Den env s v → Den env' s' v) ∧ SubV env env' l l'
  | _, _ => False
theorem subV_find {env env' : Env} {t : Nat} : ∀ {names : List Nat} {vals vals' : List SVal}, SubV env env' vals vals' → ∀ v, Den env (findN t names vals) v → Den env' (findN t names vals') v
  | [], vals, vals', _, v, h => by simp [findN, Den]
  | n :: ns, [], [], _, v, h => by simp [findN, Den]
  | n :: ns, s :: l, s' :: l', hs, v, h => by
    simp only [findN] at h ⊢
    split <;> rename_i hb
    · simp only [hb] at h; exact hs.1 v h
    · simp only [hb] at h; exact subV_find hs.2 v h
  | n :: ns, [], _ :: _, hs, v, h => hs.elim
  | n :: ns, _ :: _, [], hs, v, h => hs.elim
theorem At.vals {gl : List (Nat × Nat)} {w0 : From} {env : Env} {n : Nat} {names : List Nat} {vals : List SVal} {st : St} {a : Act} {w : World} (h : At gl w0 env (fr n names vals) st a w) (vals' : List SVal) (hs : SubV env env vals vals') :
    At gl w0 env (fr n names vals') st a w := ⟨h.gl, h.rep, denT_fr h.den fun t v hd => subV_find hs v hd, h.fresh, h.defers⟩
/-- the same under new names -/
theorem At.canon {gl : List (Nat × Nat)} {w0 : From} {env : Env} {ts : List SVal} {st : St} {a : Act} {w : World} (h : At gl w0 env ts st a w) {N : Nat} (names : List Nat) {vals : List SVal} {st' : St} (hc : Sx.canon gl N names (.normal, ts, st) = .ret (.normal, vals, st')) :
    ∃ env', At gl w0 env' (fr N names vals) st' a w := by
  have h1 : (Sx.canon gl N names (.normal, ts, st)).at (.normal, vals, st') := by rw [hc]; rfl
  obtain ⟨_, env2, g2, r2, t2, f2⟩ := canon_ok h1 h.gl h.rep h.den
  exact ⟨env2, g2, r2, t2, h.fresh.sub f2, h.defers⟩
/-- a row without places, as a row of elements -/
def voidV (i j : Nat) : SVal → SVal
  | .sli id (.c 0) sz (.c 0) (some (.c 0)) => match Nat.beq id i with
    | true => .sli j (.c 0) sz (.v 0) none
    | false => .sli id (.c 0) sz (.c 0) (some (.c 0))
  | s => s
theorem subV_map {env env' : Env} {g : SVal → SVal} (h : ∀ s v, Den env s v → Den env' (g s) v) : ∀ {vals : List SVal}, SubV env env' vals (vals.map g)
  | [] => trivial
  | s :: l => ⟨h s, subV_map h⟩
theorem At.void {gl : List (Nat × Nat)} {w0 : From} {env : Env} {n : Nat} {names : List Nat} {vals : List SVal} {st : St} {a : Act} {w : World} (h : At gl w0 env (fr n names vals) st a w) (i : Nat) {X : Type} (E : Enc X) {T : TypeId} (hb : st[i]? = some (.own [] T)) :
    ∃ env', At gl w0 env' (fr n names (vals.map (voidV i st.length))) (st.set i .gone ++ [.vec E [] T]) a w := by
  have hi : i < env.length := by rw [h.rep.len]; exact (List.getElem?_eq_some_iff.1 hb).1
  have he : env[i]? = some env[i] := by simp [hi]
  obtain ⟨h0, h1, cs, h2, h3⟩ := h.rep.holds i _ _ he hb
  simp only [segCells, List.flatMap_nil, DenL] at h3
  subst h3
  have hx := rep_move (b' := .vec E [] T) (e' := ⟨env[i].blk, 0, 0, []⟩) h.rep he hb (fun x hx => by simp [Blk.supp] at hx) ⟨rfl, Nat.le_refl _, fun h => absurd h (Nat.lt_irrefl 0)⟩
  refine ⟨_, h.gl.ext hx.2, hx.1, denT_fr h.den fun t v hd => subV_find (vals := vals) ?_ v hd, h.fresh.ext hx.2, h.defers⟩
  have one : ∀ s v, Den env s v → Den (env ++ [⟨env[i].blk, 0, 0, []⟩]) (voidV i st.length s) v := by
    intro s v hd
    unfold voidV
    split
    · split
      · rename_i hid
        simp only [Den] at hd ⊢
        obtain ⟨e, A, h5, h6, h8, h9⟩ := hd
        refine ⟨⟨env[i].blk, 0, 0, []⟩, A, ?_, ?_, ?_, ?_⟩
        · rw [← h.rep.len]; simp
        · simpa [sliCap, NN.val] using h6
        · simp [sliCap, NN.val]
        · simp [sliCap, NN.val]
      · exact hx.2.den hd
    · exact hx.2.den hd
  exact subV_map one

/-! ## a call's begin and its end -/
theorem call_begin {c : Cfg} {f : FuncId} {fn : Func} {b : Code} (hfn : c.P.funcs[f]? = some fn) (hb : fn.body = some b) {args : List SVal} {st : St} {env : Env} {w : World} {vs : List Value} {R : Ending → World → Prop} (hg : GlOk c.gl env) (hr : Rep env st w) (hd : DenL env args vs)
    {F : Nat → Prop} (hF : ∀ x, inFoot env st x → F x) (hk : ∀ a, At c.gl ⟨w, F⟩ env (args ++ List.replicate (fn.ntmps - args.length) .bad) st a w → b.wp c.P (bodyPost c.P fn R) a w) : Calls c.P f ⟨vs⟩ w R := by
  have hlen := denL_length hd
  refine calls_of_wp hfn hb (hk _ ⟨hg, hr, ?_, ⟨Nat.le_refl _, fun _ _ _ => rfl, fun x _ hf => hF x hf, rfl, rfl⟩, rfl⟩)
  refine ⟨vs ++ List.replicate (fn.ntmps - args.length) undef, ?_, denL_append hd (denL_bads _)⟩
  apply Array.ext'
  simp [hlen]
def resOf (P : Program) (fn : Func) (ts : List SVal) (st : St) : Option SVal :=
  ((resultsS P ts st fn.results.toList).bind fun l => T.ret (oneOr l, st)).val
/-- at a 'return' -/
theorem At.out {c : Cfg} {w0 : From} {env : Env} {ts : List SVal} {st : St} {a : Act} {w : World} (h : At c.gl w0 env ts st a w) {fn : Func} {s : SVal} (hs : resOf c.P fn ts st = some s) {R : Ending → World → Prop}
    (hR : ∀ v, Den env s v → R (.returned v) w) : bodyPost c.P fn R .ret a w := by
  obtain ⟨st', h1⟩ := T.val_at hs
  rw [T.at_bind] at h1
  obtain ⟨ss, h3, h4⟩ := h1
  simp only [T.at, Prod.mk.injEq] at h4
  obtain ⟨rfl, rfl⟩ := h4
  obtain ⟨v, hv, hdv⟩ := results_ok h.rep h.den h3
  exact ⟨h.defers, v, hv, hR v hdv⟩
/-- what a statement leaves -/
def Said (w0 : From) : Ending → World → Prop := fun e w' => e = .returned (.bool true) ∧ w0.w.heap.size ≤ w'.heap.size ∧ (∀ x, x < w0.w.heap.size → ¬ w0.F x → w'.heap[x]? = w0.w.heap[x]?) ∧ w'.os = w0.w.os ∧ w'.output = w0.w.output
theorem At.said {c : Cfg} {w0 : From} {env : Env} {ts : List SVal} {st : St} {a : Act} {w : World} (h : At c.gl w0 env ts st a w) {fn : Func} (hs : resOf c.P fn ts st = some (.bl true)) : bodyPost c.P fn (Said w0) .ret a w :=
  h.out hs fun v hv => ⟨by simp only [Den] at hv; rw [hv], h.fresh.size, h.fresh.keep, h.fresh.calm⟩
/-- other words for the same frame -/
theorem At.fr {gl : List (Nat × Nat)} {w0 : From} {env : Env} {n : Nat} {names : List Nat} {vals vals' : List SVal} {st : St} {a : Act} {w : World} (h : At gl w0 env (fr n names vals) st a w) (hs : ∀ t v, Den env (findN t names vals) v → Den env (findN t names vals') v) :
    At gl w0 env (Sx.fr n names vals') st a w := ⟨h.gl, h.rep, denT_fr h.den hs, h.fresh, h.defers⟩

/-! ## calls that are all closed -/
theorem rep_keep {env : Env} {st : St} {w w' : World} (hr : Rep env st w) (hs : w.heap.size ≤ w'.heap.size) (h : ∀ x, x < w.heap.size → w'.heap[x]? = w.heap[x]?) (hc : w'.os = w.os ∧ w'.output = w.output) : Rep env st w' ∧ Ext env st w env st w' :=
  ⟨⟨hr.len, fun id e b he hb => Blk.holds_of_supp (hr.holds id e b he hb) fun x hx => h x (hr.low id e b he hb x hx), hr.apart, fun id e b he hb x hx => Nat.lt_of_lt_of_le (hr.low id e b he hb x hx) hs⟩,
    ⟨⟨[], by simp⟩, hs, fun x hx _ => h x hx, fun x _ hf => hf, hc⟩⟩
/-- a call that knows its answer, and leaves what was there as it was -/
def smClosed (ids : List Nat) (st0 : St) (s : SVal) : List SVal → St → T (SVal × St) := fun args st => match args with
  | [] => match ids, st0 with
    | [], [] => .ret (s, st)
    | ids, st0 => .eq (renSt ids st ids = some st0) (.ret (s, st))
  | _ => .no 120
def noFoot (st : St) : Prop := ∀ b ∈ st, ∀ e, b.foot e = []
theorem smClosed_ok {c : Cfg} (hsm : SmOk c) {n : Nat} {f : FuncId} {ids : List Nat} {st0 : St} {b : Bool} (h : (callF c n f [] st0).val = some (.bl b)) (hcal : callable c.P f = true) (hnd : nodupB ids = true) (hgk : glKept ids c.gl = true) (hno : noFoot st0)
    (args : List SVal) (st : St) (s : SVal) (st' : St) (env : Env) (w : World) (vs : List Value) (hat : (smClosed ids st0 (.bl b) args st).at (s, st')) (hg : GlOk c.gl env) (hr : Rep env st w) (hd : DenL env args vs) :
    Calls c.P f ⟨vs⟩ w fun e w' => ∃ env' v, e = .returned v ∧ Ext env st w env' st' w' ∧ Rep env' st' w' ∧ Den env' s v := by
  unfold smClosed at hat
  split at hat
  · have hat : renSt ids st ids = some st0 ∧ SVal.bl b = s ∧ st = st' := by
      split at hat
      · simp only [T.at, Prod.mk.injEq] at hat
        exact ⟨rfl, hat⟩
      · simpa only [T.at, Prod.mk.injEq] using hat
    obtain ⟨hst, rfl, rfl⟩ := hat
    simp only [DenL] at hd
    subst hd
    obtain ⟨hr0, hf0⟩ := rep_sub hr hnd hst
    obtain ⟨st1, h1⟩ := T.val_at h
    refine (callF_ok hsm n f [] st0 (.bl b) st1 (subEnv env ids) w [] h1 hcal (glKept_ok hgk hg) hr0 (by simp [DenL])).mono ?_
    rintro e w' ⟨env1, v, rfl, hx, _, hv⟩
    have hk : ∀ x, x < w.heap.size → w'.heap[x]? = w.heap[x]? := by
      intro x hl
      refine hx.keep x hl ?_
      rintro ⟨id, e, b, he, hb, hx⟩
      rw [hno b (List.mem_of_getElem? hb)] at hx
      cases hx
    obtain ⟨k1, k2⟩ := rep_keep hr hx.size hk hx.calm
    exact ⟨env, v, rfl, k2, k1, by simpa only [Den] using hv⟩
  · exact hat.elim

/-! ## rows that are only read -/
def encOf {X : Type} (k : Nat) (f : X → List SVal) (x0 : X) (hlen : ∀ x, (f x).length = k + 1) (hs : ∀ env env' x vs, DenL env (f x) vs → DenL env' (f x) vs) : Enc X where
  tag := .other
  shut := true
  sz := k + 1
  enc := f
  dec _ := none
  dflt := x0
  pos := Nat.succ_pos k
  len := hlen
  ok := by intro env l x vs h; simp at h
  shutOk := fun _ => hs
end Go.Proofs.YtmknmbacecjfmaaDoor.Sx

/- What laws want: trees taken apart, ranges, strings. -/
namespace Go.Proofs.YtmknmbacecjfmaaDoor.Sx
set_option linter.unusedVariables false
universe u
theorem all_br {α : Type u} {Q : α → Prop} {b : Bool} {t f : T α} (h1 : b = true → All Q t) (h2 : b = false → All Q f) : All Q (T.br b t f) := ⟨fun h => (h1 h).h, fun h => (h2 h).h⟩
theorem all_need {α : Type u} {Q : α → Prop} {b : Bool} {t : T α} (h1 : b = true) (h2 : b = true → All Q t) : All Q (T.need b t) := ⟨h1, (h2 h1).h⟩
theorem all_brp {α : Type u} {Q : α → Prop} {b : Bool} {p : Prop} {t f : T α} (hb : b = true ↔ p) (h1 : p → All Q t) (h2 : ¬ p → All Q f) : All Q (T.br b t f) :=
  ⟨fun h => (h1 (hb.1 h)).h, fun h => (h2 fun hp => by rw [hb.2 hp] at h; cases h).h⟩
theorem all_needp {α : Type u} {Q : α → Prop} {b : Bool} {p : Prop} {t : T α} (hb : b = true ↔ p) (h1 : p) (h2 : p → All Q t) : All Q (T.need b t) := ⟨hb.2 h1, (h2 h1).h⟩
theorem all_no {α : Type u} {Q : α → Prop} {n : Nat} (h : False) : All Q (T.no n) := h.elim
theorem all_eq {α : Type u} {Q : α → Prop} {p : Prop} {t : T α} (h1 : p) (h2 : All Q t) : All Q (T.eq p t) := ⟨h1, h2.h⟩
theorem all_ret {α : Type u} {Q : α → Prop} {a : α} (h : Q a) : All Q (T.ret a) := ⟨h⟩
/-- other values for the cells that are written out -/
theorem At.own {gl : List (Nat × Nat)} {w0 : From} {env : Env} {ts : List SVal} {st : St} {a : Act} {w : World} (h : At gl w0 env ts st a w) (i : Nat) {l l' : List SVal} {T : TypeId} (hb : st[i]? = some (.own (l.map .c) T)) (hd : ∀ env cs, DenL env l cs → DenL env l' cs) :
    At gl w0 env ts (st.set i (.own (l'.map .c) T)) a w := by
  have hc : ∀ l : List SVal, segCells (l.map .c) = l := by
    intro l
    induction l with
    | nil => rfl
    | cons x l ih => simp only [segCells, List.map_cons, List.flatMap_cons, Seg.cells] at ih ⊢; rw [ih]; rfl
  refine h.blk i _ _ hb ?_ (fun _ => rfl) (fun _ => rfl)
  rintro e ⟨h0, h1, cs, h2, h3⟩
  refine ⟨h0, ?_, cs, h2, ?_⟩
  · intro s hs
    obtain ⟨x, _, rfl⟩ := List.mem_map.1 hs
    trivial
  · rw [hc] at h3 ⊢
    exact hd env cs h3
/-- a call, along all ways -/
theorem callT {c : Cfg} (hsm : SmOk c) {n : Nat} {f : FuncId} {args : List SVal} {st : St} {t : T (SVal × St)} (ht : callF c n f args st = t) (hcal : callable c.P f = true) {env : Env} {w : World} {vs : List Value} (hg : GlOk c.gl env) (hr : Rep env st w) (hd : DenL env args vs)
    {F : Nat → Prop} (hF : ∀ x, inFoot env st x → F x) {R : Ending → World → Prop} (h : All (fun r => ∀ env' v w', Fresh ⟨w, F⟩ env' r.2 w' → Rep env' r.2 w' → Den env' r.1 v → R (.returned v) w') t) : Calls c.P f ⟨vs⟩ w R := by
  obtain ⟨⟨s, st'⟩, h1, h2⟩ := T.all_at h.h
  rw [← ht] at h1
  refine (callF_ok hsm n f args st s st' env w vs h1 hcal hg hr hd).mono ?_
  rintro e w' ⟨env', v, rfl, hx, hr', hv⟩
  have h0 : Fresh ⟨w, F⟩ env st w := ⟨Nat.le_refl _, fun _ _ _ => rfl, fun x _ hf => hF x hf, rfl, rfl⟩
  exact h2 env' v w' (h0.ext hx) hr' hv
theorem said_of {w0 : From} {env : Env} {st : St} {w : World} {v : Value} (hf : Fresh w0 env st w) (hv : Den env (.bl true) v) : Said w0 (.returned v) w :=
  ⟨by simp only [Den] at hv; rw [hv], hf.size, hf.keep, hf.calm⟩
theorem rep_none {w : World} : Rep [] [] w := rep_nil w
theorem inR_i64 (x : Int) : inR .i64 x = true ↔ -9223372036854775808 ≤ x ∧ x ≤ 9223372036854775807 := by simp [inR, IntKind.min, IntKind.max, IntKind.signed, IntKind.bits]
theorem inR_u32 (x : Int) : inR .u32 x = true ↔ 0 ≤ x ∧ x ≤ 4294967295 := by simp [inR, IntKind.min, IntKind.max, IntKind.signed, IntKind.bits]
theorem inR_u8 (x : Int) : inR .u8 x = true ↔ 0 ≤ x ∧ x ≤ 255 := by simp [inR, IntKind.min, IntKind.max, IntKind.signed, IntKind.bits]
theorem roomy_iff (n b : Nat) : roomy n b = true ↔ n * b ≤ 140737488355328 := by simp [roomy]
theorem strEq_nil (s : ByteArray) : strEq s (ByteArray.mk ⟨[]⟩) = decide (s.size = 0) := by
  unfold strEq
  have h : s.data.toList = [] ↔ s.size = 0 := by
    rw [← ByteArray.size_data]
    constructor
    · intro h; rw [← Array.length_toList, h]; rfl
    · intro h; rw [← Array.length_toList] at h; exact List.length_eq_zero_iff.1 h
  by_cases h' : s.size = 0 <;> simp [h, h']
theorem strEq_iff (a b : ByteArray) : strEq a b = true ↔ a = b := by
  unfold strEq
  rw [decide_eq_true_eq]
  constructor
  · intro h
    cases a; cases b
    simp only at h
    congr
    exact Array.ext' h
  · intro h; rw [h]
theorem strEq_no (a b : ByteArray) : strEq a b = false ↔ a ≠ b := by
  rw [← Bool.not_eq_true, Ne, strEq_iff]
end Go.Proofs.YtmknmbacecjfmaaDoor.Sx

/- What comes in: rows of a kind that are only read; how a row of the claim is shut. -/
namespace Go.Proofs.YtmknmbacecjfmaaDoor.Sx
open Go.ChangeShapes Go.WideShapes Go.ChangeAt Go.RowKit Go.Deep
set_option linter.unusedVariables false
variable {H : Type} {enc : TypeId × Value → H} {P : Program} {w : World} {base : Nat} {spare : Nat → Bool} {held : Bool}

/-- an argument that is a slice: nothing, or rows -/
theorem open_rows {X : Type} (E : Enc X) {t e : TypeId} (ht : P.underlying t = some (.slice e)) (hsz : P.cellsOf e = E.sz)
    (helem : ∀ n cs y, DataW.trod enc P w base spare held n e cs = some y → ∃ x : X, DenL [] (E.enc x) cs) (hsh : E.shut = true)
    {r : Reach} {b0 : Nat} {v : Value} {d : DataW H} {ps : List MemPlace} (hval : Value.okWide P w r b0 t v) (h : DataW.Trod enc P w base spare held t v d ps) :
    v = .slice none 0 0 ∨ ∃ (xs : List X) (cap : Nat) (sl : Slot), Rep [sl] [.ro E xs] w ∧ Den [sl] (.sli 0 (.c 0) E.sz (.v xs.length) (some (.v cap))) v := by
  obtain ⟨av, len0, cap0, rfl⟩ := okWide_slice ht hval
  obtain ⟨fuel, hf⟩ := h
  rcases open_slice ht hf with h0 | ⟨a, len, cap, m, n, D, Pl, hcs, hb, hl, hm, hmm, hx, hi⟩
  · simp only [Value.cells] at h0
    left
    have := h0.1
    simpa using this
  · right
    simp only [Value.cells, List.cons.injEq, Value.slice.injEq, and_true] at hcs
    have hcs' : av = some a ∧ len0 = len ∧ cap0 = cap := by simpa using hcs
    obtain ⟨rfl, rfl, rfl⟩ := hcs'
    have hhas : w.has P r b0 a e cap0 := by
      simp only [Value.okWide, ht, Cell.okWide, Cell.ok] at hval
      exact hval.2.2
    obtain ⟨_, hsp, row, cells, hshape, _⟩ := hhas
    obtain ⟨blk, off, spot⟩ := a
    simp only at hsp; subst hsp
    have hlt : blk < w.heap.size := by
      simp only [World.shape?] at hshape
      by_cases hlt : blk < w.heap.size
      · exact hlt
      · rw [Array.getElem?_eq_none (by omega)] at hshape
        simp at hshape
    have hml : len0 ≤ m := by rw [hmm]; split <;> omega
    -- the elements
    have key : ∀ k, k ≤ len0 → ∃ (xs : List X) (cs : List Value), xs.length = k ∧ DenL [] (xs.flatMap E.enc) cs ∧ ∀ i, i < cs.length → w.cell? ⟨blk, off + i, none⟩ = cs[i]? := by
      intro k
      induction k with
      | zero => intro _; exact ⟨[], [], rfl, by simp [DenL], by simp⟩
      | succ k ih =>
        intro hk
        obtain ⟨xs, cs, h1, h2, h3⟩ := ih (by omega)
        obtain ⟨cs', hc, htr⟩ := hi k (by omega)
        obtain ⟨_, hcl, hat⟩ := World.cells?_some hc
        obtain ⟨x, hx'⟩ := helem _ _ _ htr
        have hlen : cs.length = k * E.sz := by rw [denL_length h2, flat_length, h1]
        refine ⟨xs ++ [x], cs ++ cs', by simp [h1], by rw [List.flatMap_append]; exact denL_append h2 (by simpa using hx'), ?_⟩
        intro i hlt'
        by_cases hik : i < cs.length
        · rw [List.getElem?_append_left hik]; exact h3 i hik
        · rw [List.getElem?_append_right (by omega)]
          have hlt2 : i - cs.length < P.cellsOf e := by rw [List.length_append, hcl] at hlt'; omega
          have := hat (i - cs.length) hlt2
          rw [addr_add ⟨blk, off, none⟩ (k * P.cellsOf e) rfl, addr_add _ _ rfl] at this
          simp only at this
          rw [← this]
          congr 2
          rw [hsz, hlen]
          rw [hlen] at hik
          omega
    obtain ⟨xs, cs, h1, h2, h3⟩ := key len0 (Nat.le_refl _)
    refine ⟨xs, cap0, ⟨blk, off, 0, []⟩, ⟨rfl, ?_, ?_, ?_⟩, ?_⟩
    · intro id sl b he hb'
      match id with
      | 0 =>
        simp only [List.getElem?_cons_zero, Option.some.injEq] at he hb'
        subst he hb'
        exact ⟨cs, flat_shut E hsh h2, h3⟩
      | n + 1 => simp at he
    · intro i j e f b c hij he hf' hb' hc' x hx''
      match i, j with
      | 0, 0 => exact (hij rfl).elim
      | i + 1, _ => simp at he
      | 0, j + 1 => simp at hf'
    · intro id sl b he hb' x hx''
      match id with
      | 0 =>
        simp only [List.getElem?_cons_zero, Option.some.injEq] at he hb'
        subst he hb'
        cases xs with
        | nil => simp [Blk.supp] at hx''
        | cons y ys =>
          simp only [Blk.supp, List.mem_singleton] at hx''
          rw [hx'']; exact hlt
      | n + 1 => simp at he
    · simp only [Den]
      refine ⟨⟨blk, off, 0, []⟩, some ⟨blk, off, none⟩, rfl, ?_, ?_, fun _ => by simp [NN.val]⟩
      · simp [NN.val, sliCap, h1]
      · simp [NN.val, sliCap, h1]; exact hl

/-- an argument that is a slice: rows, or nothing, which is no row -/
theorem open_sli {X : Type} (E : Enc X) {t e : TypeId} (ht : P.underlying t = some (.slice e)) (hsz : P.cellsOf e = E.sz)
    (helem : ∀ n cs y, DataW.trod enc P w base spare held n e cs = some y → ∃ x : X, DenL [] (E.enc x) cs) (hsh : E.shut = true)
    {r : Reach} {b0 : Nat} {v : Value} {d : DataW H} {ps : List MemPlace} (hval : Value.okWide P w r b0 t v) (h : DataW.Trod enc P w base spare held t v d ps) :
    ∃ (xs : List X) (cap : Nat) (sl : Slot), Rep [sl] [.ro E xs] w ∧ Den [sl] (.sli 0 (.c 0) E.sz (.v xs.length) (some (.v cap))) v := by
  rcases open_rows E ht hsz helem hsh hval h with rfl | h
  · refine ⟨[], 0, ⟨0, 0, 0, []⟩, ⟨rfl, ?_, ?_, ?_⟩, ?_⟩
    · intro id sl b he hb
      match id with
      | 0 =>
        simp only [List.getElem?_cons_zero, Option.some.injEq] at he hb
        subst he hb
        exact ⟨[], by simp [DenL], by simp⟩
      | n + 1 => simp at he
    · intro i j e f b c hij he hf' hb' hc' x hx''
      match i, j with
      | 0, 0 => exact (hij rfl).elim
      | i + 1, _ => simp at he
      | 0, j + 1 => simp at hf'
    · intro id sl b he hb x hx
      match id with
      | 0 =>
        simp only [List.getElem?_cons_zero, Option.some.injEq] at he hb
        subst he hb
        simp [Blk.supp] at hx
      | n + 1 => simp at he
    · simp only [Den]
      exact ⟨_, none, rfl, by simp [NN.val, sliCap], by simp [NN.val, sliCap], fun h => by simp [NN.val, sliCap] at h⟩
  · exact h
/-- one more row that is only read -/
theorem ro_add {env : Env} {st : St} (hr : Rep env st w) (hn : noFoot st) {X : Type} {E : Enc X} (hsh : E.shut = true) {xs : List X} {e : Slot} (h1 : Rep [e] [.ro E xs] w) : Rep (env ++ [e]) (st ++ [.ro E xs]) w ∧ noFoot (st ++ [.ro E xs]) := by
  have hl := hr.len
  have hno : noFoot (st ++ [.ro E xs]) := by
    intro b hb e
    rcases List.mem_append.1 hb with hb | hb
    · exact hn b hb e
    · rw [List.mem_singleton.1 hb]; rfl
  have get : ∀ {i : Nat} {f : Slot} {b : Blk}, (env ++ [e])[i]? = some f → (st ++ [.ro E xs])[i]? = some b → (env[i]? = some f ∧ st[i]? = some b) ∨ (f = e ∧ b = .ro E xs) := by
    intro i f b hf hb
    rcases Nat.lt_or_ge i env.length with h | h
    · rw [List.getElem?_append_left h] at hf
      rw [List.getElem?_append_left (by omega)] at hb
      exact .inl ⟨hf, hb⟩
    · rw [List.getElem?_append_right h] at hf
      rw [List.getElem?_append_right (by omega)] at hb
      rw [← hl] at hb
      match hk : i - env.length, hf, hb with
      | 0, hf, hb => simp at hf hb; exact .inr ⟨hf.symm, hb.symm⟩
      | k + 1, hf, _ => simp at hf
  refine ⟨⟨by simp [hl], ?_, ?_, ?_⟩, hno⟩
  · intro i f b hf hb
    rcases get hf hb with ⟨h2, h3⟩ | ⟨rfl, rfl⟩
    · exact Blk.holds_mono _ (hr.holds i f b h2 h3)
    · obtain ⟨cs, k1, k2⟩ := h1.holds 0 f _ rfl rfl
      exact ⟨cs, flat_shut E hsh k1, k2⟩
  · intro i j f g b c _ hf _ hb _ x hx
    rw [hno b (List.mem_of_getElem? hb)] at hx
    cases hx
  · intro i f b hf hb x hx
    rcases get hf hb with ⟨h2, h3⟩ | ⟨rfl, rfl⟩
    · exact hr.low i f b h2 h3 x hx
    · exact h1.low 0 f _ rfl rfl x hx
theorem den_add {env : Env} {e : Slot} {o len : NN} {sz : Nat} {cp : Option NN} {v : Value} (h : Den [e] (.sli 0 o sz len cp) v) {n : Nat} (hn : env.length = n) : Den (env ++ [e]) (.sli n o sz len cp) v := by
  simp only [Den] at h ⊢
  obtain ⟨f, a, h1, h2⟩ := h
  simp only [List.getElem?_cons_zero, Option.some.injEq] at h1
  subst h1
  exact ⟨e, a, by rw [← hn]; simp, h2⟩
theorem den_wide {env : Env} {more : Env} {s : SVal} {v : Value} (h : Den env s v) : Den (env ++ more) s v := den_mono more s v h
/-- old blocks are as they were -/
theorem keptBut_of {W W' : World} (may : MemPlace → Prop) (hc : W'.os = W.os ∧ W'.output = W.output) (h : ∀ x, x < W.heap.size → W'.heap[x]? = W.heap[x]?) : W.keptBut W' may := by
  refine ⟨hc.1, hc.2, fun i hi => ?_⟩
  rw [h i hi]
  split <;> simp_all
theorem sameAt_of {W W' : World} (h : ∀ x, x < W.heap.size → W'.heap[x]? = W.heap[x]?) {p : MemPlace} (hp : p.block < W.heap.size) : W.sameAt W' p := by
  cases p with
  | cell b o => exact World.cell?_of_block (w := W) (h b hp)
  | map b => exact h b hp
/-- an argument reads as it did -/
theorem trod_same {t : TypeId} (hl : laidOutB P = true) (hr : P.readableRec t = true) (hrow : t < P.types.size) {W W' : World} {v : Value} {d : DataW H} {ps : List MemPlace}
    (h : DataW.Trod enc P W 0 (fun _ => true) true t v d ps) (hb : ∀ x, x < W.heap.size → W'.heap[x]? = W.heap[x]?) (hlt : ∀ x ∈ ps, x.block < W.heap.size) :
    DataW.Trod enc P W' 0 (fun b => decide (b < W.heap.size)) true t v d ps :=
  WideElems.Trod_stays hl hr hrow h (fun x hx => sameAt_of hb (hlt x hx)) (fun x hx => by simpa using hlt x hx)
end Go.Proofs.YtmknmbacecjfmaaDoor.Sx

/- Calls that look at values alone: what they come to is written down. -/
namespace Go.Proofs.YtmknmbacecjfmaaDoor.Sx
set_option linter.unusedVariables false
def bs (b : Bool) (x y : ByteArray) : ByteArray := bif b then x else y
theorem smAll_ok {c : Cfg} (hsm : SmOk c) {n : Nat} {f : FuncId} (hcal : callable c.P f = true) (hgl : c.gl = [])
    {args args0 : List SVal} (ha : renL [] args = args0) {t : T (SVal × St)} (ht : callF c n f args0 [] = t) {s : SVal} (h : All (fun r => ∀ env x, Den env r.1 x → Den env s x) t) (hs : ren [] s = s) (st : St) (env : Env) (w : World) (vs : List Value) (hr : Rep env st w) (hd : DenL env args vs) :
    Calls c.P f ⟨vs⟩ w fun e w' => ∃ env' v, e = .returned v ∧ Ext env st w env' st w' ∧ Rep env' st w' ∧ Den env' s v := by
  subst ha
  obtain ⟨⟨s1, st1⟩, h1, h2⟩ := T.all_at h.h
  rw [← ht] at h1
  have hd0 : DenL [] (renL [] args) vs := by simpa [subEnv] using renL_den (env := env) (m := []) args vs hd
  refine (callF_ok hsm n f _ [] s1 st1 [] w vs h1 hcal (by rw [hgl]; intro p hp; cases hp) (rep_nil w) hd0).mono ?_
  rintro e w' ⟨env1, v, rfl, hx, _, hv⟩
  have hk : ∀ x, x < w.heap.size → w'.heap[x]? = w.heap[x]? := by
    intro x hl
    refine hx.keep x hl ?_
    rintro ⟨id, e, b, he, _⟩
    simp at he
  obtain ⟨k1, k2⟩ := rep_keep hr hx.size hk hx.calm
  refine ⟨env, v, rfl, k2, k1, ?_⟩
  have h3 : Den [] (ren [] s) v := by simpa [subEnv] using ren_den (env := env1) (m := []) s v (h2 env1 v hv)
  rw [hs] at h3
  simpa using den_mono (env := []) env _ v h3
end Go.Proofs.YtmknmbacecjfmaaDoor.Sx

/- A slice that is nil, as a row without places. -/
namespace Go.Proofs.YtmknmbacecjfmaaDoor.Sx
set_option linter.unusedVariables false
theorem rep_add {env : Env} {st : St} {w : World} (hr : Rep env st w) {b : Blk} {e : Slot} (hb : b.holds (env ++ [e]) e w) (hf : b.foot e = []) (hs : b.supp e = []) :
    Rep (env ++ [e]) (st ++ [b]) w ∧ Ext env st w (env ++ [e]) (st ++ [b]) w := by
  have hl := hr.len
  have get : ∀ {i : Nat} {f : Slot} {c : Blk}, (env ++ [e])[i]? = some f → (st ++ [b])[i]? = some c → (env[i]? = some f ∧ st[i]? = some c) ∨ (f = e ∧ c = b) := by
    intro i f c hf hc
    rcases Nat.lt_or_ge i env.length with h | h
    · rw [List.getElem?_append_left h] at hf
      rw [List.getElem?_append_left (by omega)] at hc
      exact .inl ⟨hf, hc⟩
    · rw [List.getElem?_append_right h] at hf
      rw [List.getElem?_append_right (by omega)] at hc
      rw [← hl] at hc
      match hk : i - env.length, hf, hc with
      | 0, hf, hc => simp at hf hc; exact .inr ⟨hf.symm, hc.symm⟩
      | k + 1, hf, _ => simp at hf
  refine ⟨⟨by simp [hl], ?_, ?_, ?_⟩, ⟨[e], rfl⟩, Nat.le_refl _, fun _ _ _ => rfl, ?_, rfl, rfl⟩
  · intro i f c hfi hc
    rcases get hfi hc with ⟨h2, h3⟩ | ⟨rfl, rfl⟩
    · exact Blk.holds_mono _ (hr.holds i f c h2 h3)
    · exact hb
  · intro i j f g c d hij hfi hg hc hd x hx
    rcases get hfi hc with ⟨h2, h3⟩ | ⟨rfl, rfl⟩
    · rcases get hg hd with ⟨k2, k3⟩ | ⟨rfl, rfl⟩
      · exact hr.apart i j f g c d hij h2 k2 h3 k3 x hx
      · rw [hs]; simp
    · rw [hf] at hx; cases hx
  · intro i f c hfi hc x hx
    rcases get hfi hc with ⟨h2, h3⟩ | ⟨rfl, rfl⟩
    · exact hr.low i f c h2 h3 x hx
    · rw [hs] at hx; cases hx
  · rintro x _ ⟨i, f, c, hfi, hc, hx⟩
    rcases get hfi hc with ⟨h2, h3⟩ | ⟨rfl, rfl⟩
    · exact ⟨i, f, c, h2, h3, hx⟩
    · rw [hf] at hx; cases hx
/-- a row without places -/
theorem At.push {gl : List (Nat × Nat)} {w0 : From} {env : Env} {ts : List SVal} {st : St} {a : Act} {w : World} (h : At gl w0 env ts st a w) {X : Type} (E : Enc X) (T : TypeId) : At gl w0 (env ++ [⟨0, 0, 0, []⟩]) ts (st ++ [.vec E [] T]) a w := by
  obtain ⟨h1, h2⟩ := rep_add h.rep (b := .vec E [] T) (e := ⟨0, 0, 0, []⟩) ⟨rfl, Nat.le_refl _, fun h => absurd h (Nat.lt_irrefl 0)⟩ rfl rfl
  exact ⟨h.gl.ext h2, h1, h.den.ext h2, h.fresh.ext h2, h.defers⟩
theorem nil_den {env : Env} {k sz : Nat} {v : Value} (hk : env[k]? = some ⟨0, 0, 0, []⟩) (h : Den env .snil v) : Den env (.sli k (.c 0) sz (.v 0) none) v := by
  simp only [Den] at h ⊢
  subst h
  exact ⟨_, none, hk, by simp [NN.val, sliCap], by simp [NN.val, sliCap], fun h => by simp [NN.val, sliCap] at h⟩
/-- other values for the cells that are written out, as names lie -/
theorem At.owne {gl : List (Nat × Nat)} {w0 : From} {env : Env} {ts : List SVal} {st : St} {a : Act} {w : World} (h : At gl w0 env ts st a w) (i : Nat) {l l' : List SVal} {T : TypeId} (hb : st[i]? = some (.own (l.map .c) T)) (hd : ∀ cs, DenL env l cs → DenL env l' cs) :
    At gl w0 env ts (st.set i (.own (l'.map .c) T)) a w := by
  have hc : ∀ l : List SVal, segCells (l.map .c) = l := by
    intro l
    induction l with
    | nil => rfl
    | cons x l ih => simp only [segCells, List.map_cons, List.flatMap_cons, Seg.cells] at ih ⊢; rw [ih]; rfl
  have hi : i < st.length := (List.getElem?_eq_some_iff.1 hb).1
  have hie : i < env.length := by rw [h.rep.len]; exact hi
  have he : env[i]? = some env[i] := by simp [hie]
  obtain ⟨h0, h1, cs, h2, h3⟩ := h.rep.holds i _ _ he hb
  obtain ⟨k1, k2⟩ := rep_put h.rep he hb (b' := .own (l'.map .c) T) (w' := w) rfl rfl ⟨h0, (by
    intro s hs
    obtain ⟨x, _, rfl⟩ := List.mem_map.1 hs
    trivial), cs, h2, by rw [hc] at h3 ⊢; exact hd cs h3⟩ (Nat.le_refl _) (fun _ _ _ => rfl) ⟨rfl, rfl⟩
  exact ⟨h.gl, k1, h.den, h.fresh.ext k2, h.defers⟩
theorem denL_set1 {env : Env} {l : List SVal} {vs : List Value} {p : Nat} {s : SVal} (h : DenL env l vs) (hs : ∀ v, Den env (l.getD p .bad) v → Den env s v) : DenL env (l.set p s) vs := by
  have h1 := denL_set p h (hs _ (denL_getD h p))
  have h2 : vs.set p (vs.getD p undef) = vs := by
    apply List.ext_getElem?
    intro i
    rw [List.getElem?_set]
    split
    · rename_i h
      subst h
      split
      · rename_i h; simp [h]
      · rename_i h; rw [List.getElem?_eq_none (by omega)]
    · rfl
  rwa [h2] at h1
/-- a cell that is nil, as a row without places -/
theorem At.nilv {gl : List (Nat × Nat)} {w0 : From} {env : Env} {ts : List SVal} {st : St} {a : Act} {w : World} (h : At gl w0 env ts st a w) (i p sz : Nat) {l : List SVal} {T0 : TypeId} (hb : st[i]? = some (.own (l.map .c) T0)) (hp : l.getD p .bad = .snil) {X : Type} (E : Enc X) (T : TypeId) :
    ∃ env', At gl w0 env' ts ((st ++ [Blk.vec E [] T]).set i (.own ((l.set p (.sli st.length (.c 0) sz (.v 0) none)).map .c) T0)) a w := by
  have h1 := h.push E T
  have hi : i < st.length := (List.getElem?_eq_some_iff.1 hb).1
  have hk : (env ++ [(⟨0, 0, 0, []⟩ : Slot)])[st.length]? = some ⟨0, 0, 0, []⟩ := by rw [← h.rep.len]; simp
  refine ⟨_, h1.owne i (l := l) (by rw [List.getElem?_append_left hi]; exact hb) fun cs hd => denL_set1 hd fun v hv => ?_⟩
  rw [hp] at hv
  exact nil_den hk hv
end Go.Proofs.YtmknmbacecjfmaaDoor.Sx

/- A closed call that is right if some equations hold. -/
namespace Go.Proofs.YtmknmbacecjfmaaDoor.Sx
set_option linter.unusedVariables false
/-- what a closed tree comes to, and what is asked for it -/
def T.runE {α : Type 1} : T α → Option (Prop × α)
  | .ret a => some (True, a)
  | .br b t f => match b with | true => t.runE | false => f.runE
  | .need b t => match b with | true => t.runE | false => none
  | .eq p t => match t.runE with
    | some q => some (p ∧ q.1, q.2)
    | none => none
  | .no _ => none
theorem T.runE_at {α : Type 1} : ∀ {t : T α} {p : Prop} {a : α}, t.runE = some (p, a) → p → t.at a
  | .ret a, p, a', h, hp => by simp only [T.runE, Option.some.injEq, Prod.mk.injEq] at h; exact h.2
  | .br b t f, p, a, h, hp => by
    cases b with
    | true => exact .inl ⟨rfl, T.runE_at (t := t) h hp⟩
    | false => exact .inr ⟨rfl, T.runE_at (t := f) h hp⟩
  | .need b t, p, a, h, hp => by
    cases b with
    | true => exact ⟨rfl, T.runE_at (t := t) h hp⟩
    | false => simp [T.runE] at h
  | .eq q t, p, a, h, hp => by
    simp only [T.runE] at h
    split at h
    · rename_i r hr
      simp only [Option.some.injEq, Prod.mk.injEq] at h
      obtain ⟨rfl, rfl⟩ := h
      exact ⟨hp.1, T.runE_at (t := t) hr hp.2⟩
    · simp at h
  | .no n, p, a, h, hp => by simp [T.runE] at h
def T.valE (t : T (SVal × St)) : Option (Prop × SVal) := match t.runE with | some p => some (p.1, p.2.1) | none => none
theorem T.valE_at {t : T (SVal × St)} {p : Prop} {s : SVal} (h : t.valE = some (p, s)) (hp : p) : ∃ st', t.at (s, st') := by
  unfold T.valE at h
  cases hr : t.runE with
  | none => simp [hr] at h
  | some q =>
    simp only [hr, Option.some.injEq, Prod.mk.injEq] at h
    obtain ⟨rfl, rfl⟩ := h
    exact ⟨q.2.2, T.runE_at hr hp⟩
theorem smClosedE_ok {c : Cfg} (hsm : SmOk c) {n : Nat} {f : FuncId} {ids : List Nat} {st0 : St} {b : Bool} {p : Prop} (h : (callF c n f [] st0).valE = some (p, .bl b)) (hp : p) (hcal : callable c.P f = true) (hnd : nodupB ids = true) (hgk : glKept ids c.gl = true) (hno : noFoot st0)
    (args : List SVal) (st : St) (s : SVal) (st' : St) (env : Env) (w : World) (vs : List Value) (hat : (smClosed ids st0 (.bl b) args st).at (s, st')) (hg : GlOk c.gl env) (hr : Rep env st w) (hd : DenL env args vs) :
    Calls c.P f ⟨vs⟩ w fun e w' => ∃ env' v, e = .returned v ∧ Ext env st w env' st' w' ∧ Rep env' st' w' ∧ Den env' s v := by
  unfold smClosed at hat
  split at hat
  · have hat : renSt ids st ids = some st0 ∧ SVal.bl b = s ∧ st = st' := by
      split at hat
      · simp only [T.at, Prod.mk.injEq] at hat
        exact ⟨rfl, hat⟩
      · simpa only [T.at, Prod.mk.injEq] using hat
    obtain ⟨hst, rfl, rfl⟩ := hat
    simp only [DenL] at hd
    subst hd
    obtain ⟨hr0, hf0⟩ := rep_sub hr hnd hst
    obtain ⟨st1, h1⟩ := T.valE_at h hp
    refine (callF_ok hsm n f [] st0 (.bl b) st1 (subEnv env ids) w [] h1 hcal (glKept_ok hgk hg) hr0 (by simp [DenL])).mono ?_
    rintro e w' ⟨env1, v, rfl, hx, _, hv⟩
    have hk : ∀ x, x < w.heap.size → w'.heap[x]? = w.heap[x]? := by
      intro x hl
      refine hx.keep x hl ?_
      rintro ⟨id, e, b, he, hb, hx⟩
      rw [hno b (List.mem_of_getElem? hb)] at hx
      cases hx
    obtain ⟨k1, k2⟩ := rep_keep hr hx.size hk hx.calm
    exact ⟨env, v, rfl, k2, k1, by simpa only [Den] using hv⟩
  · exact hat.elim
end Go.Proofs.YtmknmbacecjfmaaDoor.Sx

/- More words for the same memory: rows that bear names, arrays. -/
namespace Go.Proofs.YtmknmbacecjfmaaDoor.Sx
set_option linter.unusedVariables false
theorem renL_flat {X : Type} {m : List Nat} {E E' : Enc X} (he : ∀ x, renL m (E.enc x) = E'.enc x) : ∀ {xs : List X}, renL m (xs.flatMap E.enc) = xs.flatMap E'.enc
  | [] => by simp [renL]
  | x :: xs => by simp only [List.flatMap_cons, renL_append]; rw [he, renL_flat he]
/-- rows whose names were changed, as elements of a kind that bears those names -/
theorem At.retype {gl : List (Nat × Nat)} {w0 : From} {env : Env} {ts : List SVal} {st : St} {a : Act} {w : World} (h : At gl w0 env ts st a w) (i : Nat) {X : Type} {E : Enc X} {m : List Nat} {xs : List X} {T : TypeId} (hb : st[i]? = some (.vec (encRow (E.sz - 1)) (renRows m E xs) T))
    (E' : Enc X) (hz : E.sz = E'.sz) (he : ∀ x, renL m (E.enc x) = E'.enc x) : At gl w0 env ts (st.set i (.vec E' xs T)) a w := by
  refine h.typed i hb (by simp [renRows]) ?_ ?_
  · rw [renRows_sz]; exact hz
  · rw [renRows_flat]; exact renL_flat he
/-- other segments that lie alike -/
theorem At.segs {gl : List (Nat × Nat)} {w0 : From} {env : Env} {ts : List SVal} {st : St} {a : Act} {w : World} (h : At gl w0 env ts st a w) (i : Nat) {l l' : List Seg} {T : TypeId} (hb : st[i]? = some (.own l T)) (hf : segFits l') (hd : ∀ cs, DenL env (segCells l) cs → DenL env (segCells l') cs) :
    At gl w0 env ts (st.set i (.own l' T)) a w := by
  have hi : i < st.length := (List.getElem?_eq_some_iff.1 hb).1
  have hie : i < env.length := by rw [h.rep.len]; exact hi
  have he : env[i]? = some env[i] := by simp [hie]
  obtain ⟨h0, h1, cs, h2, h3⟩ := h.rep.holds i _ _ he hb
  obtain ⟨k1, k2⟩ := rep_put h.rep he hb (b' := .own l' T) (w' := w) rfl rfl ⟨h0, hf, cs, h2, hd cs h3⟩ (Nat.le_refl _) (fun _ _ _ => rfl) ⟨rfl, rfl⟩
  exact ⟨h.gl, k1, h.den, h.fresh.ext k2, h.defers⟩
end Go.Proofs.YtmknmbacecjfmaaDoor.Sx

/- A region that draws its order, of which the effects stand in no order: each order is gone. -/
namespace Go.Proofs.YtmknmbacecjfmaaDoor.Sx
set_option linter.unusedVariables false
/-- an operation that yields the same whenever it comes up -/
def isStill (o : Oper) : Bool := match o.guard with
  | some _ => false
  | none => match o.op with
    | .move _ | .assign _ => true
    | _ => false
def firstStill (ops : Array Oper) (listed : Array Bool) : List Nat → Option Nat
  | [] => none
  | i :: l => match ops[i]? with
    | some o => match isStill o && Region.free .any ops listed i with
      | true => some i
      | false => firstStill ops listed l
    | none => firstStill ops listed l
def allOf (Pr : Nat → Prop) : List Nat → Prop
  | [] => True
  | i :: l => Pr i ∧ allOf Pr l
/-- in each order the end is as is asked -/
def AnyAll (c : Cfg) (call : CallT) (ops : Array Oper) (K : List SVal → St → Prop) : Nat → Array Bool → List SVal → St → Prop
  | 0, listed, ts, st => Region.ready .any ops listed = [] ∧ K ts st
  | n + 1, listed, ts, st => match firstStill ops listed (Region.ready .any ops listed) with
    | some i => match ops[i]? with
      | some o => (doS c call o ts st).all fun p => AnyAll c call ops K n (listed.setIfInBounds i true) p.1 p.2
      | none => False
    | none => match Region.ready .any ops listed with
      | [] => K ts st
      | i :: l => allOf (fun i => match ops[i]? with
        | some o => o.guard = none ∧ (doS c call o ts st).all fun p => AnyAll c call ops K n (listed.setIfInBounds i true) p.1 p.2
        | none => False) (i :: l)
theorem allOf_mem {Pr : Nat → Prop} : ∀ {l : List Nat}, allOf Pr l → ∀ i ∈ l, Pr i
  | [], _, i, hi => by cases hi
  | j :: l, h, i, hi => by
    rcases List.mem_cons.1 hi with rfl | hi
    · exact h.1
    · exact allOf_mem h.2 i hi
theorem firstStill_spec {ops : Array Oper} {listed : Array Bool} : ∀ {l : List Nat} {i : Nat}, firstStill ops listed l = some i → i ∈ l ∧ ∃ o, ops[i]? = some o ∧ isStill o = true ∧ Region.free .any ops listed i = true
  | [], i, h => by simp [firstStill] at h
  | j :: l, i, h => by
    simp only [firstStill] at h
    split at h
    · rename_i o ho
      split at h
      · rename_i hs
        simp only [Option.some.injEq] at h; subst h
        simp only [Bool.and_eq_true] at hs
        exact ⟨List.mem_cons_self, o, ho, hs.1, hs.2⟩
      · obtain ⟨h1, h2⟩ := firstStill_spec h
        exact ⟨List.mem_cons_of_mem _ h1, h2⟩
    · obtain ⟨h1, h2⟩ := firstStill_spec h
      exact ⟨List.mem_cons_of_mem _ h1, h2⟩
theorem wanted_none {ops : Array Oper} {o : Oper} {tmps : Array Value} (h : o.guard = none) : Region.wanted o (yielded ops tmps) = true := by
  unfold Region.wanted; rw [h]
theorem still_ok {c : Cfg} {call : CallT} {env : Env} {st : St} {a : Act} {ops : Array Oper} {o : Oper} {ts : List SVal} (hg : GlOk c.gl env) (ht : DenT env ts a.tmps) (hs : isStill o = true) {Pr : List SVal × St → Prop} (h : (doS c call o ts st).all Pr) :
    ∃ v ts', Yields c.P ops o v a ∧ Pr (ts', st) ∧ DenT env ts' (a.put o.dst v).tmps := by
  unfold isStill at hs
  split at hs
  · simp at hs
  · rename_i hgu
    split at hs
    · rename_i x hop
      obtain ⟨p, h1, h2⟩ := T.all_at h
      obtain ⟨dst, op, type, pos, after, guard⟩ := o
      simp only at hop hgu
      subst hop hgu
      simp only [doS, opX, bytesArg, opS, isPure, pureS, T.bind, T.at] at h1
      subst h1
      exact ⟨a.eval x, _, .inl ⟨by simp [Region.wanted], fun w => by simp [execOp]⟩, h2, putS_ok ht (evS_ok hg ht x)⟩
    · rename_i x hop
      obtain ⟨p, h1, h2⟩ := T.all_at h
      obtain ⟨dst, op, type, pos, after, guard⟩ := o
      simp only at hop hgu
      subst hop hgu
      simp only [doS, opX, bytesArg, opS, isPure, pureS, T.bind, T.at] at h1
      subst h1
      exact ⟨a.eval x, _, .inl ⟨by simp [Region.wanted], fun w => by simp [execOp]⟩, h2, putS_ok ht (evS_ok hg ht x)⟩
    · simp at hs
theorem anyAll_ok {c : Cfg} {call : CallT} (hc : CallOk c call) {ops : Array Oper} {Q : Exit → Act → World → Prop} (hns : Region.noSelect ops = true) (hQ : ∀ x d v a w, Q (.panic x) (a.put d v) w → Q (.panic x) a w) {K : List SVal → St → Prop} :
    ∀ (n : Nat) (listed : Array Bool) (ts : List SVal) (st : St) (env : Env) (w : World) (a : Act), AnyAll c call ops K n listed ts st → GlOk c.gl env → Rep env st w → DenT env ts a.tmps →
      (∀ ts' st' env' a' w', K ts' st' → Ext env st w env' st' w' → Rep env' st' w' → DenT env' ts' a'.tmps → a'.defers = a.defers → Q .normal a' w') → wpAny c.P .any ops Q n listed a w := by
  intro n
  induction n with
  | zero =>
    intro listed ts st env w a h hg hr ht hk
    exact ⟨h.1, hk ts st env a w h.2 (Ext.refl _ _ _) hr ht rfl⟩
  | succ n ih =>
    intro listed ts st env w a h hg hr ht hk
    simp only [AnyAll] at h
    split at h
    · rename_i i hi
      obtain ⟨hmem, o, ho, hs, hf⟩ := firstStill_spec hi
      rw [ho] at h
      obtain ⟨v, ts', hy, hA, ht'⟩ := still_ok (ops := ops) hg ht hs h
      refine wpAny_take ho hns hf (by simpa using hmem) (fun x a' w' => hQ x _ _ a' w') hy ?_
      refine ih _ ts' st env w _ hA hg hr ht' fun ts2 st2 env2 a2 w2 hK hx hr2 ht2 hd2 => hk ts2 st2 env2 a2 w2 hK hx hr2 ht2 ?_
      rw [hd2]
      cases o.dst <;> rfl
    · split at h
      · rename_i hrd
        refine ⟨fun _ => hk ts st env a w h (Ext.refl _ _ _) hr ht rfl, fun i hi => ?_⟩
        rw [hrd] at hi; cases hi
      · rename_i i l hrd
        refine wpAny_all hrd (by simp) fun j hj => ?_
        have h1 := allOf_mem h j hj
        split at h1
        · rename_i o ho
          obtain ⟨hgu, h2⟩ := h1
          obtain ⟨⟨ts', st'⟩, h3, h4⟩ := T.all_at h2
          unfold wpOp
          rw [ho]
          simp only [wanted_none hgu, if_true]
          refine .inl (doS_ok hc hg hr ht h3 (Q := Q) fun env' a' w' hx hr' ht' hd' => ?_)
          exact ih _ ts' st' env' w' a' h4 (hg.ext hx) hr' ht' fun ts2 st2 env2 a2 w2 hK hx2 hr2 ht2 hd2 => hk ts2 st2 env2 a2 w2 hK (hx.trans hx2) hr2 ht2 (by rw [hd2, hd'])
        · exact h1.elim
/-- a region whose order is drawn, each order gone -/
theorem anyRegion_ok {c : Cfg} {call : CallT} (hc : CallOk c call) {ops : Array Oper} {Q : Exit → Act → World → Prop} (hmix : c.P.follows .mixedOrders = true) (hns : Region.noSelect ops = true) (hQ : ∀ x d v a w, Q (.panic x) (a.put d v) w → Q (.panic x) a w) {K : List SVal → St → Prop}
    {id : Nat} {ts : List SVal} {st : St} {env : Env} {w : World} {a : Act} (h : AnyAll c call ops K ops.size (Array.replicate ops.size false) ts st) (hg : GlOk c.gl env) (hr : Rep env st w) (ht : DenT env ts a.tmps)
    (hk : ∀ ts' st' env' a' w', K ts' st' → Ext env st w env' st' w' → Rep env' st' w' → DenT env' ts' a'.tmps → a'.defers = a.defers → Q .normal a' w') : (Code.region id ops true).wp c.P Q a w := by
  refine wp_region_any hmix ?_
  have hr0 := rep_heap (w' := { w with drawn := w.drawn + 1 }) hr rfl
  have hx0 : Ext env st w env st { w with drawn := w.drawn + 1 } := ext_heap rfl ⟨rfl, rfl⟩
  exact anyAll_ok hc hns hQ ops.size _ ts st env _ a h hg hr0 ht fun ts' st' env' a' w' hK hx hr' ht' hd' => hk ts' st' env' a' w' hK (hx0.trans hx) hr' ht' hd'
end Go.Proofs.YtmknmbacecjfmaaDoor.Sx

/- A call of a function of one region whose order is drawn: what the text's order comes to, if each order comes to it under other names. -/
namespace Go.Proofs.YtmknmbacecjfmaaDoor.Sx
set_option linter.unusedVariables false
/-- a block under new names -/
def BlkTo (ids : List Nat) (b b' : Blk) : Prop := renBlk ids b = some b' ∨ (∃ (X : Type) (E : Enc X) (xs : List X) (T : TypeId), b = .vec E xs T ∧ b' = .vec E xs T ∧ ∀ x, renL ids (E.enc x) = E.enc x) ∨ b' = .gone
theorem BlkTo.holds {env : Env} {ids : List Nat} {e : Slot} {w : World} {b b' : Blk} (h : BlkTo ids b b') (hh : b.holds env e w) : b'.holds (subEnv env ids) e w ∧ (∀ x ∈ b'.foot e, x ∈ b.foot e) ∧ ∀ x ∈ b'.supp e, x ∈ b.supp e := by
  rcases h with h | ⟨X, E, xs, T, rfl, rfl, he⟩ | rfl
  · obtain ⟨h1, h2, h3⟩ := renBlk_holds h hh
    exact ⟨h1, fun x hx => by rw [← h2]; exact hx, fun x hx => by rw [← h3]; exact hx⟩
  · obtain ⟨h0, h1, hh⟩ := hh
    refine ⟨⟨h0, h1, fun hc => ?_⟩, fun x hx => hx, fun x hx => hx⟩
    obtain ⟨cs, junk, h2, h3, h4⟩ := hh hc
    refine ⟨cs, junk, h2, ?_, h4⟩
    have := renL_den (m := ids) _ _ h3
    rwa [renL_flat he] at this
  · exact ⟨trivial, fun x hx => (by cases hx), fun x hx => (by cases hx)⟩
def BlksTo (ids : List Nat) (st' : St) : List Nat → St → Prop
  | [], [] => True
  | i :: l, b' :: st => (∃ b, st'[i]? = some b ∧ BlkTo ids b b') ∧ BlksTo ids st' l st
  | _, _ => False
theorem blksTo_get {ids : List Nat} {st' : St} : ∀ {l : List Nat} {st : St}, BlksTo ids st' l st → st.length = l.length ∧ ∀ (k : Nat) (b' : Blk), st[k]? = some b' → ∃ (i : Nat) (b : Blk), l[k]? = some i ∧ st'[i]? = some b ∧ BlkTo ids b b'
  | [], [], h => by simp
  | i :: l, b' :: st, ⟨⟨b, h1, h2⟩, h3⟩ => by
    obtain ⟨k1, k2⟩ := blksTo_get h3
    refine ⟨by simp [k1], fun k c hc => ?_⟩
    cases k with
    | zero => simp at hc; subst hc; exact ⟨i, b, rfl, h1, h2⟩
    | succ k => simpa using k2 k c (by simpa using hc)
  | [], _ :: _, h => h.elim
  | _ :: _, [], h => h.elim
theorem rep_to {env : Env} {st st' : St} {w : World} (hr : Rep env st' w) {ids : List Nat} (hn : nodupB ids = true) (h : BlksTo ids st' ids st) :
    Rep (subEnv env ids) st w ∧ ∀ x, inFoot (subEnv env ids) st x → inFoot env st' x := by
  obtain ⟨hl, hg⟩ := blksTo_get h
  have get : ∀ {k : Nat} {e : Slot} {b' : Blk}, (subEnv env ids)[k]? = some e → st[k]? = some b' → ∃ (i : Nat) (b : Blk), ids[k]? = some i ∧ env[i]? = some e ∧ st'[i]? = some b ∧ BlkTo ids b b' := by
    intro k e b' he hb
    obtain ⟨i, b, h1, h2, h3⟩ := hg k b' hb
    refine ⟨i, b, h1, ?_, h2, h3⟩
    have hi : i < env.length := by rw [hr.len]; exact (List.getElem?_eq_some_iff.1 h2).1
    have he' : env[i]? = some env[i] := by simp [hi]
    simp only [subEnv, List.getElem?_map, h1, Option.map_some, List.getD_eq_getElem?_getD, he', Option.getD_some, Option.some.injEq] at he
    rw [he', he]
  refine ⟨⟨by simp [subEnv, hl], ?_, ?_, ?_⟩, ?_⟩
  · intro k e b' he hb
    obtain ⟨i, b, h1, h2, h3, h4⟩ := get he hb
    exact (h4.holds (hr.holds i e b h2 h3)).1
  · intro k l e f b' c' hkl he hf hb hc x hx hx'
    obtain ⟨i, b, h1, h2, h3, h4⟩ := get he hb
    obtain ⟨j, c, g1, g2, g3, g4⟩ := get hf hc
    have hij : i ≠ j := fun hij => hkl (nodup_get hn h1 (by rw [hij]; exact g1))
    exact hr.apart i j e f b c hij h2 g2 h3 g3 x ((h4.holds (hr.holds i e b h2 h3)).2.1 x hx) ((g4.holds (hr.holds j f c g2 g3)).2.2 x hx')
  · intro k e b' he hb x hx
    obtain ⟨i, b, h1, h2, h3, h4⟩ := get he hb
    exact hr.low i e b h2 h3 x ((h4.holds (hr.holds i e b h2 h3)).2.2 x hx)
  · rintro x ⟨k, e, b', he, hb, hx⟩
    obtain ⟨i, b, h1, h2, h3, h4⟩ := get he hb
    exact ⟨i, e, b, h2, h3, (h4.holds (hr.holds i e b h2 h3)).2.1 x hx⟩
/-- the same frame and state, under other names for what is new -/
structure SameAs (n : Nat) (r : List SVal × St) (ts' : List SVal) (st' : St) : Prop where
  h : ∃ ids, nodupB ids = true ∧ ids.take n = List.range n ∧ BlksTo ids st' ids r.2 ∧ renL ids ts' = r.1
theorem blksTo_ren {ids : List Nat} {st' : St} : ∀ {l : List Nat} {st : St}, renSt ids st' l = some st → BlksTo ids st' l st
  | [], st, h => by simp only [renSt, Option.some.injEq] at h; subst h; trivial
  | i :: l, st, h => by
    simp only [renSt] at h
    split at h
    · rename_i b hb
      split at h
      · rename_i b' l' h1 h2
        simp only [Option.some.injEq] at h; subst h
        exact ⟨⟨b, hb, .inl h1⟩, blksTo_ren h2⟩
      · simp at h
    · simp at h
theorem sameAs_ren {n : Nat} {r : List SVal × St} {ts' : List SVal} {st' : St} (ids : List Nat) (h1 : nodupB ids = true) (h2 : ids.take n = List.range n) (h3 : renSt ids st' ids = some r.2) (h4 : renL ids ts' = r.1) : SameAs n r ts' st' := ⟨ids, h1, h2, blksTo_ren h3, h4⟩
def partsAny : Code → Option (Code × Array Oper × Code)
  | .seq c0 (.seq (.region _ ops true) c1) => some (c0, ops, c1)
  | _ => none
theorem T.all_of_at {α : Type 1} {Q : α → Prop} : ∀ {t : T α} {x : α}, t.all Q → t.at x → Q x
  | .ret a, x, h, hx => by rw [← (show a = x from hx)]; exact h
  | .br b t f, x, h, hx => by
    rcases hx with ⟨hb, hx⟩ | ⟨hb, hx⟩
    · exact T.all_of_at (h.1 hb) hx
    · exact T.all_of_at (h.2 hb) hx
  | .need b t, x, h, hx => T.all_of_at h.2 hx.2
  | .eq p t, x, h, hx => T.all_of_at h.2 hx.2
  | .no n, x, h, hx => hx.elim
/-- each order comes to what the text's order comes to -/
def anyP (c : Cfg) (n : Nat) (f : FuncId) (args : List SVal) (st : St) : Prop :=
  match c.P.funcs[f]? with
  | some fn => match fn.body with
    | some b => match partsAny b with
      | some (c0, ops, _) => (exec c n c0 (args ++ List.replicate (fn.ntmps - args.length) .bad) st).all fun r0 => (listS c (callF c n) ops ops.toList r0.2.1 r0.2.2).all fun r =>
          AnyAll c (callF c n) ops (SameAs r0.2.2.length r) ops.size (Array.replicate ops.size false) r0.2.1 r0.2.2
      | none => False
    | none => False
  | none => False
/-- a call of such a function -/
def smAny (c : Cfg) (n : Nat) (f : FuncId) : List SVal → St → T (SVal × St) := fun args st => .eq (anyP c n f args st) (match c.P.funcs[f]? with
  | some fn => match fn.body with
    | some b => match partsAny b with
      | some (c0, ops, c1) => (exec c n c0 (args ++ List.replicate (fn.ntmps - args.length) .bad) st).bind fun r0 => match r0.1 with
        | .normal => (listS c (callF c n) ops ops.toList r0.2.1 r0.2.2).bind fun r => (exec c n c1 r.1 r.2).bind fun e => match e.1 with
            | .exit _ => .no 150
            | _ => (resultsS c.P e.2.1 e.2.2 fn.results.toList).bind fun l => .ret (oneOr l, e.2.2)
        | _ => .no 151
      | none => .no 152
    | none => .no 153
  | none => .no 154)
theorem smAny_ok {c : Cfg} (hsm : SmOk c) {n : Nat} {f : FuncId} (hmix : c.P.follows .mixedOrders = true) (hns : ∀ fn b p, c.P.funcs[f]? = some fn → fn.body = some b → partsAny b = some p → Region.noSelect p.2.1 = true)
    (args : List SVal) (st : St) (s : SVal) (st' : St) (env : Env) (w : World) (vs : List Value) (hat : (smAny c n f args st).at (s, st')) (hg : GlOk c.gl env) (hr : Rep env st w) (hd : DenL env args vs) :
    Calls c.P f ⟨vs⟩ w fun e w' => ∃ env' v, e = .returned v ∧ Ext env st w env' st' w' ∧ Rep env' st' w' ∧ Den env' s v := by
  unfold smAny at hat
  obtain ⟨hP, hat⟩ := hat
  unfold anyP at hP
  split at hat
  · rename_i fn hfn
    rw [hfn] at hP
    split at hat
    · rename_i b hb
      simp only [hb] at hP
      split at hat
      · rename_i c0 ops c1 hp
        simp only [hp] at hP
        have hnsel := hns fn b _ hfn hb hp
        have hbody : ∃ id, b = .seq c0 (.seq (.region id ops true) c1) := by
          unfold partsAny at hp
          split at hp
          · simp only [Option.some.injEq, Prod.mk.injEq] at hp
            obtain ⟨rfl, rfl, rfl⟩ := hp
            exact ⟨_, rfl⟩
          · simp at hp
        obtain ⟨id, rfl⟩ := hbody
        rw [T.at_bind] at hat
        obtain ⟨⟨e0, ts0, st0⟩, h0, hat⟩ := hat
        simp only at hat
        split at hat
        · rename_i he0
          rw [T.at_bind] at hat
          obtain ⟨r, h1, hat⟩ := hat
          have hP1 := T.all_of_at hP h0
          have hany := T.all_of_at hP1 h1
          rw [T.at_bind] at hat
          obtain ⟨⟨e1, ts1, st1⟩, h2, hat⟩ := hat
          have hlen := denL_length hd
          refine calls_of_wp hfn hb ?_
          refine wp_seq (exec_ok hsm n c0 _ st _ ts0 st0 env w _ _ h0 hg hr ⟨vs ++ List.replicate (fn.ntmps - args.length) undef, by apply Array.ext'; simp [hlen], denL_append hd (denL_bads _)⟩ ?_)
          intro env0 a0 w0 hx0 hr0 ht0 hd0

          refine wp_seq (anyRegion_ok (callF_ok hsm n) hmix hnsel ?_ hany (hg.ext hx0) hr0 ht0 ?_)
          · intro x d v a w hq
            have : (a.put d v).defers = a.defers := by cases d <;> rfl
            simp only [Exit.then, bodyPost] at hq ⊢
            rw [this] at hq
            exact hq
          intro ts2 st2 env2 a2 w2 hK hx2 hr2 ht2 hd2
          obtain ⟨ids, hnd, htk, hbl, hts⟩ := hK.h
          obtain ⟨hr3, hf3⟩ := rep_to hr2 hnd hbl
          have hx3 : Ext env0 st0 w0 (subEnv env2 ids) r.2 w2 := by
            obtain ⟨⟨more, hmore⟩, k2, k3, k4, k5⟩ := hx2
            refine ⟨⟨(subEnv env2 ids).drop env0.length, ?_⟩, k2, k3, fun x hx hf => k4 x hx (hf3 x hf), k5⟩
            have htake : (subEnv env2 ids).take env0.length = env0 := by
              have hle : env0.length = st0.length := hr0.len
              simp only [subEnv, ← List.map_take, hle]
              rw [htk, ← hle]
              apply List.ext_getElem?
              intro i
              rw [List.getElem?_map]
              rcases Nat.lt_or_ge i env0.length with h | h
              · rw [List.getElem?_range h]
                rw [hmore]
                simp only [Option.map_some, List.getD_eq_getElem?_getD, List.getElem?_append_left h]
                simp [h]
              · rw [List.getElem?_eq_none (by simpa using h), List.getElem?_eq_none h]
                rfl
            conv => lhs; rw [← List.take_append_drop env0.length (subEnv env2 ids)]
            rw [htake]
          have ht3 : DenT (subEnv env2 ids) r.1 a2.tmps := by
            obtain ⟨us, hu, hdu⟩ := ht2
            exact ⟨us, hu, by rw [← hts]; exact renL_den _ _ hdu⟩
          refine exec_ok hsm n c1 _ _ e1 ts1 st1 _ w2 a2 _ h2 ((hg.ext hx0).ext hx3) hr3 ht3 ?_
          intro env4 a4 w4 hx4 hr4 ht4 hd4
          have fin : ∀ l, (resultsS c.P ts1 st1 fn.results.toList).at l → oneOr l = s → st1 = st' → (a4.defers = [] ∧ ∃ v, (results fn a4.tmps).run c.P w4 = .ok v w4 ∧ ∃ env' v', Ending.returned v = .returned v' ∧ Ext env st w env' st' w4 ∧ Rep env' st' w4 ∧ Den env' s v') := by
            rintro l hl rfl rfl
            obtain ⟨v, hv, hdv⟩ := results_ok hr4 ht4 hl
            exact ⟨by rw [hd4, hd2, hd0], v, hv, env4, v, rfl, (hx0.trans hx3).trans hx4, hr4, hdv⟩
          cases e1 with
          | exit k => exact hat.elim
          | normal =>
            obtain ⟨l, hl, heq⟩ := T.at_bind.1 hat
            simp only [T.at, Prod.mk.injEq] at heq
            exact fin l hl heq.1 heq.2
          | ret =>
            obtain ⟨l, hl, heq⟩ := T.at_bind.1 hat
            simp only [T.at, Prod.mk.injEq] at heq
            exact fin l hl heq.1 heq.2
        · exact hat.elim
      · exact hat.elim
    · exact hat.elim
  · exact hat.elim
end Go.Proofs.YtmknmbacecjfmaaDoor.Sx

/- The orders of a region as a tree of cases; the names in which they differ found by matching. -/
namespace Go.Proofs.YtmknmbacecjfmaaDoor.Sx
set_option linter.unusedVariables false
universe u v
theorem T.all_bind {α : Type u} {β : Type v} {Q : β → Prop} {k : α → T β} : ∀ {t : T α}, (t.bind k).all Q ↔ t.all fun a => (k a).all Q
  | .ret a => Iff.rfl
  | .br b t f => by simp only [T.bind, T.all, T.all_bind (t := t), T.all_bind (t := f)]
  | .need b t => by simp only [T.bind, T.all, T.all_bind (t := t)]
  | .eq p t => by simp only [T.bind, T.all, T.all_bind (t := t)]
  | .no n => Iff.rfl
theorem T.all_weaken {α : Type u} {Q R : α → Prop} (hqr : ∀ a, Q a → R a) : ∀ {t : T α}, t.all Q → t.all R
  | .ret a, h => hqr a h
  | .br b t f, h => ⟨fun hb => T.all_weaken hqr (h.1 hb), fun hb => T.all_weaken hqr (h.2 hb)⟩
  | .need b t, h => ⟨h.1, T.all_weaken hqr h.2⟩
  | .eq p t, h => ⟨h.1, T.all_weaken hqr h.2⟩
  | .no n, h => h
abbrev Ends : Type 1 := List (List SVal × St)
def manyT (f : Nat → T Ends) : List Nat → T Ends
  | [] => .ret []
  | i :: l => (f i).bind fun a => (manyT f l).bind fun b => .ret (a ++ b)
theorem manyT_ok {f : Nat → T Ends} {Q : (List SVal × St) → Prop} : ∀ {l : List Nat}, (manyT f l).all (fun es => ∀ e ∈ es, Q e) → ∀ i ∈ l, (f i).all fun es => ∀ e ∈ es, Q e
  | [], _, i, hi => by cases hi
  | j :: l, h, i, hi => by
    simp only [manyT, T.all_bind, T.all] at h
    rcases List.mem_cons.1 hi with rfl | hi
    · refine T.all_weaken (fun a ha => ?_) h
      obtain ⟨b, _, hb⟩ := T.all_at ha
      exact fun e he => hb e (by simp [he])
    · obtain ⟨a, _, ha⟩ := T.all_at h
      exact manyT_ok (T.all_weaken (fun b hb e he => hb e (by simp [he])) ha) i hi
/-- the ends of all orders -/
def anyT (c : Cfg) (call : CallT) (ops : Array Oper) : Nat → Array Bool → List SVal → St → T Ends
  | 0, listed, ts, st => match Region.ready .any ops listed with
    | [] => .ret [(ts, st)]
    | _ => .no 160
  | n + 1, listed, ts, st => match firstStill ops listed (Region.ready .any ops listed) with
    | some i => match ops[i]? with
      | some o => (doS c call o ts st).bind fun p => anyT c call ops n (listed.setIfInBounds i true) p.1 p.2
      | none => .no 161
    | none => match Region.ready .any ops listed with
      | [] => .ret [(ts, st)]
      | i :: l => manyT (fun i => match ops[i]? with
        | some o => match o.guard with
          | none => (doS c call o ts st).bind fun p => anyT c call ops n (listed.setIfInBounds i true) p.1 p.2
          | some _ => .no 162
        | none => .no 163) (i :: l)
theorem allOf_intro {Pr : Nat → Prop} : ∀ {l : List Nat}, (∀ i ∈ l, Pr i) → allOf Pr l
  | [], _ => trivial
  | i :: l, h => ⟨h i List.mem_cons_self, allOf_intro fun j hj => h j (List.mem_cons_of_mem _ hj)⟩
theorem anyT_ok {c : Cfg} {call : CallT} {ops : Array Oper} {K : List SVal → St → Prop} : ∀ (n : Nat) (listed : Array Bool) (ts : List SVal) (st : St),
    (anyT c call ops n listed ts st).all (fun es => ∀ e ∈ es, K e.1 e.2) → AnyAll c call ops K n listed ts st := by
  intro n
  induction n with
  | zero =>
    intro listed ts st h
    simp only [anyT] at h
    split at h
    · rename_i hr
      simp only [AnyAll]
      exact ⟨hr, h _ List.mem_cons_self⟩
    · exact h.elim
  | succ n ih =>
    intro listed ts st h
    simp only [anyT] at h
    simp only [AnyAll]
    split at h
    · rename_i i hi
      try rw [hi]
      split at h
      · rename_i o ho
        try simp only [ho]
        exact T.all_weaken (fun p hp => ih _ _ _ hp) (T.all_bind.1 h)
      · exact h.elim
    · rename_i hi
      try rw [hi]
      split at h
      · rename_i hr
        try simp only [hr]
        exact h _ List.mem_cons_self
      · rename_i i l hr
        try simp only [hr]
        refine allOf_intro fun j hj => ?_
        have h1 := manyT_ok h j hj
        split at h1
        · rename_i o ho
          split at h1
          · rename_i hg
            try rw [ho]
            exact ⟨hg, T.all_weaken (fun p hp => ih _ _ _ hp) (T.all_bind.1 h1)⟩
          · exact h1.elim
        · exact h1.elim
/-- the ends of a call's orders: the text's, the names ahead of the region, all -/
def anyTP (c : Cfg) (n : Nat) (f : FuncId) (args : List SVal) (st : St) : T ((List SVal × St) × Nat × Ends) :=
  match c.P.funcs[f]? with
  | some fn => match fn.body with
    | some b => match partsAny b with
      | some (c0, ops, _) => (exec c n c0 (args ++ List.replicate (fn.ntmps - args.length) .bad) st).bind fun r0 => (listS c (callF c n) ops ops.toList r0.2.1 r0.2.2).bind fun r =>
          (anyT c (callF c n) ops ops.size (Array.replicate ops.size false) r0.2.1 r0.2.2).bind fun es => .ret (r, r0.2.2.length, es)
      | none => .no 164
    | none => .no 165
  | none => .no 166
theorem anyTP_ok {c : Cfg} {n : Nat} {f : FuncId} {args : List SVal} {st : St} (h : (anyTP c n f args st).all fun x => ∀ e ∈ x.2.2, SameAs x.2.1 x.1 e.1 e.2) : anyP c n f args st := by
  unfold anyTP at h
  unfold anyP
  split at h
  · rename_i fn hfn
    try simp only [hfn]
    split at h
    · rename_i b hb
      try simp only [hb]
      split at h
      · rename_i c0 ops c1 hp
        try simp only [hp]
        refine T.all_weaken (fun r0 h0 => ?_) (T.all_bind.1 h)
        refine T.all_weaken (fun r h1 => ?_) (T.all_bind.1 h0)
        exact anyT_ok _ _ _ _ (T.all_bind.1 h1)
      · exact h.elim
    · exact h.elim
  · exact h.elim
/-- the names of an end, by the places where they stand in the text's end -/
def pairUp : List Nat → List Nat → Nat → Nat
  | a :: l, b :: m, k => if a == k then b else pairUp l m k
  | _, _, k => k
def matchIds (r : List SVal × St) (e : List SVal × St) : List Nat := (List.range r.2.length).map (pairUp (idsOfL r.1) (idsOfL e.1))
/-- what is to be the same -/
def sameQ (n : Nat) (r : List SVal × St) (e : List SVal × St) : Bool × List Nat × Option St × List SVal :=
  let ids := matchIds r e
  (nodupB ids, ids.take n, renSt ids e.2 ids, renL ids e.1)
def sameR (n : Nat) (r : List SVal × St) : Bool × List Nat × Option St × List SVal := (true, List.range n, some r.2, r.1)
theorem sameAs_q {n : Nat} {r e : List SVal × St} (h : sameQ n r e = sameR n r) : SameAs n r e.1 e.2 := by
  simp only [sameQ, sameR, Prod.mk.injEq] at h
  exact sameAs_ren _ h.1 h.2.1 h.2.2.1 h.2.2.2
def allSame (x : (List SVal × St) × Nat × Ends) : List (Bool × List Nat × Option St × List SVal) × List (Bool × List Nat × Option St × List SVal) :=
  (x.2.2.map (sameQ x.2.1 x.1), x.2.2.map fun _ => sameR x.2.1 x.1)
theorem allSame_ok {x : (List SVal × St) × Nat × Ends} (h : (allSame x).1 = (allSame x).2) : ∀ e ∈ x.2.2, SameAs x.2.1 x.1 e.1 e.2 := by
  intro e he
  have h' : x.2.2.map (sameQ x.2.1 x.1) = x.2.2.map fun _ => sameR x.2.1 x.1 := h
  exact sameAs_q (List.map_inj_left.1 h' e he)
/-- a closed state: all orders come to the same -/
def closedSame (t : T ((List SVal × St) × Nat × Ends)) : Option (List (Bool × List Nat × Option St × List SVal) × List (Bool × List Nat × Option St × List SVal)) := match t.runE with
  | some (_, x) => some (allSame x)
  | none => none
def swapO {α : Type 1} : Option (α × α) → Option (α × α)
  | some (a, b) => some (b, a)
  | none => none
theorem T.runE_all {α : Type 1} {Q : α → Prop} : ∀ {t : T α} {p : Prop} {a : α}, t.runE = some (p, a) → p → Q a → t.all Q
  | .ret a, p, a', h, hp, hq => by simp only [T.runE, Option.some.injEq, Prod.mk.injEq] at h; rw [← h.2] at hq; exact hq
  | .br b t f, p, a, h, hp, hq => by
    cases b with
    | true => exact ⟨fun _ => T.runE_all (t := t) h hp hq, fun hb => Bool.noConfusion hb⟩
    | false => exact ⟨fun hb => Bool.noConfusion hb, fun _ => T.runE_all (t := f) h hp hq⟩
  | .need b t, p, a, h, hp, hq => by
    cases b with
    | true => exact ⟨rfl, T.runE_all (t := t) h hp hq⟩
    | false => simp [T.runE] at h
  | .eq q t, p, a, h, hp, hq => by
    simp only [T.runE] at h
    split at h
    · rename_i r hr
      simp only [Option.some.injEq, Prod.mk.injEq] at h
      obtain ⟨rfl, rfl⟩ := h
      exact ⟨hp.1, T.runE_all (t := t) hr hp.2 hq⟩
    · simp at h
  | .no n, p, a, h, hp, hq => by simp [T.runE] at h
/-- what is asked besides -/
def T.asks {α : Type 1} (t : T α) : Option Prop := match t.runE with | some p => some p.1 | none => none
theorem anyP_closed {c : Cfg} {n : Nat} {f : FuncId} {args : List SVal} {st : St} {p : Prop} (h1 : (anyTP c n f args st).asks = some p) (hp : p) (h2 : closedSame (anyTP c n f args st) = swapO (closedSame (anyTP c n f args st))) : anyP c n f args st := by
  unfold T.asks at h1
  unfold closedSame at h2
  cases hr : (anyTP c n f args st).runE with
  | none => rw [hr] at h1; simp at h1
  | some x =>
    obtain ⟨q, x⟩ := x
    rw [hr] at h1 h2
    simp only [Option.some.injEq, swapO] at h1 h2
    subst h1
    exact anyTP_ok (T.runE_all hr hp (allSame_ok (congrArg Prod.fst h2)))
theorem idx_same : ∀ (m : List Nat) (s i : Nat), (∀ j, j ≤ i → m[j]? = some (s + j)) → idx (s + i) m s = some (s + i)
  | [], s, i, h => by have := h 0 (Nat.zero_le _); simp at this
  | x :: r, s, i, h => by
    have h0 := h 0 (Nat.zero_le _)
    simp only [List.getElem?_cons_zero, Option.some.injEq, Nat.add_zero] at h0
    subst h0
    cases i with
    | zero => simp [idx]
    | succ i =>
      have hb : Nat.beq x (x + (i + 1)) = false := by
        cases hb : Nat.beq x (x + (i + 1)) with
        | false => rfl
        | true => have := Nat.eq_of_beq_eq_true hb; omega
      simp only [idx, hb]
      have := idx_same r (x + 1) i fun j hj => by
        have := h (j + 1) (by omega)
        simp only [List.getElem?_cons_succ] at this
        rw [this]; congr 1; omega
      rw [show x + (i + 1) = x + 1 + i from by omega]
      exact this
/-- a name that stays -/
theorem idx_pref {m : List Nat} {k i : Nat} (h : m.take k = List.range k) (hi : i < k) : idx i m 0 = some i := by
  have := idx_same m 0 i fun j hj => by
    have h1 : (m.take k)[j]? = some j := by rw [h, List.getElem?_range (by omega)]
    rw [List.getElem?_take_of_lt (by omega)] at h1
    simpa using h1
  simpa using this
/-- a tree without branches: its needs, its equations, its end -/
def T.line {α : Type 1} : T α → Option (List Bool × Prop × α)
  | .ret a => some ([], True, a)
  | .br b t f => match b with | true => t.line | false => f.line
  | .need b t => match t.line with
    | some q => some (b :: q.1, q.2)
    | none => none
  | .eq p t => match t.line with
    | some q => some (q.1, p ∧ q.2.1, q.2.2)
    | none => none
  | .no _ => none
theorem T.line_all {α : Type 1} {Q : α → Prop} : ∀ {t : T α} {bs : List Bool} {p : Prop} {a : α}, t.line = some (bs, p, a) → (∀ b ∈ bs, b = true) → p → Q a → t.all Q
  | .ret a, bs, p, a', h, hb, hp, hq => by simp only [T.line, Option.some.injEq, Prod.mk.injEq] at h; rw [← h.2.2] at hq; exact hq
  | .br b t f, bs, p, a, h, hb, hp, hq => by
    cases b with
    | true => exact ⟨fun _ => T.line_all (t := t) h hb hp hq, fun hb => Bool.noConfusion hb⟩
    | false => exact ⟨fun hb => Bool.noConfusion hb, fun _ => T.line_all (t := f) h hb hp hq⟩
  | .need b t, bs, p, a, h, hb, hp, hq => by
    simp only [T.line] at h
    split at h
    · rename_i r hr
      simp only [Option.some.injEq, Prod.mk.injEq] at h
      obtain ⟨rfl, h2⟩ := h
      obtain ⟨r1, r2, r3⟩ := r
      simp only [Prod.mk.injEq] at h2
      obtain ⟨rfl, rfl⟩ := h2
      exact ⟨hb b List.mem_cons_self, T.line_all (t := t) hr (fun b' hb' => hb b' (List.mem_cons_of_mem _ hb')) hp hq⟩
    · simp at h
  | .eq q t, bs, p, a, h, hb, hp, hq => by
    simp only [T.line] at h
    split at h
    · rename_i r hr
      simp only [Option.some.injEq, Prod.mk.injEq] at h
      obtain ⟨rfl, rfl, rfl⟩ := h
      exact ⟨hp.1, T.line_all (t := t) (bs := r.1) (p := r.2.1) hr hb hp.2 hq⟩
    · simp at h
  | .no n, bs, p, a, h, hb, hp, hq => by simp [T.line] at h
def T.lineB {α : Type 1} (t : T α) : Option (List Bool) := match t.line with | some q => some q.1 | none => none
def T.lineP {α : Type 1} (t : T α) : Option Prop := match t.line with | some q => some q.2.1 | none => none
def lineSame (t : T ((List SVal × St) × Nat × Ends)) : Option (List (Bool × List Nat × Option St × List SVal) × List (Bool × List Nat × Option St × List SVal)) := match t.line with
  | some (_, _, x) => some (allSame x)
  | none => none
/-- a state that bears letters: all orders come to the same if the needs are met -/
theorem anyP_line {c : Cfg} {n : Nat} {f : FuncId} {args : List SVal} {st : St} {bs : List Bool} {p : Prop} (h0 : (anyTP c n f args st).lineB = some bs) (h1 : (anyTP c n f args st).lineP = some p) (hb : ∀ b ∈ bs, b = true) (hp : p) (h2 : lineSame (anyTP c n f args st) = swapO (lineSame (anyTP c n f args st))) : anyP c n f args st := by
  unfold T.lineB at h0
  unfold T.lineP at h1
  unfold lineSame at h2
  cases hr : (anyTP c n f args st).line with
  | none => rw [hr] at h1; simp at h1
  | some x =>
    obtain ⟨cs, q, x⟩ := x
    rw [hr] at h0 h1 h2
    simp only [Option.some.injEq, swapO] at h0 h1 h2
    subst h0 h1
    exact anyTP_ok (T.line_all hr hb hp (allSame_ok (congrArg Prod.fst h2)))
end Go.Proofs.YtmknmbacecjfmaaDoor.Sx

/- Families grow; calls that know their end; pieces that keep names. -/
namespace Go.Proofs.YtmknmbacecjfmaaDoor.Sx
set_option linter.unusedVariables false
theorem all_needq {α : Type 1} {Q : α → Prop} {b : Bool} {p : Prop} {t : T α} (h : (b = true) ↔ p) (hp : p) (ht : All Q t) : All Q (.need b t) := all_needp h hp fun _ => ht
theorem getD_set_self {α : Type} {l : List α} {i : Nat} (h : i < l.length) (v d : α) : (l.set i v).getD i d = v := by simp [List.getD_eq_getElem?_getD, h]
theorem getD_set_ne {α : Type} {l : List α} {i j : Nat} (h : i ≠ j) (v d : α) : (l.set i v).getD j d = l.getD j d := by simp [List.getD_eq_getElem?_getD, h]
theorem getD_replicate {α : Type} {n j : Nat} {v : α} : (List.replicate n v).getD j v = v := by
  simp only [List.getD_eq_getElem?_getD, List.getElem?_replicate]
  split <;> rfl
theorem getD_append_left {α : Type} {l m : List α} {i : Nat} {d : α} (h : i < l.length) : (l ++ m).getD i d = l.getD i d := by rw [List.getD_eq_getElem?_getD, List.getElem?_append_left h, ← List.getD_eq_getElem?_getD]
theorem getD_append_len {α : Type} {l : List α} {x d : α} : (l ++ [x]).getD l.length d = x := by simp [List.getD_eq_getElem?_getD]
theorem getD_range {n k : Nat} (h : k < n) : (List.range n).getD k 0 = k := by simp [List.getD_eq_getElem?_getD, h]

/-! ## one more block -/
theorem rep_push {env : Env} {st : St} {w : World} (hr : Rep env st w) {b : Blk} {e : Slot} (hb : b.holds (env ++ [e]) e w) (hs : ∀ x ∈ b.supp e, x < w.heap.size ∧ ∀ (id : Nat) (f : Slot) (c : Blk), env[id]? = some f → st[id]? = some c → x ∉ c.supp f) :
    Rep (env ++ [e]) (st ++ [b]) w := by
  have hl := hr.len
  have get : ∀ {i : Nat} {f : Slot} {c : Blk}, (env ++ [e])[i]? = some f → (st ++ [b])[i]? = some c → (env[i]? = some f ∧ st[i]? = some c) ∨ (i = st.length ∧ f = e ∧ c = b) := by
    intro i f c hf hc
    rcases Nat.lt_or_ge i env.length with h | h
    · rw [List.getElem?_append_left h] at hf
      rw [List.getElem?_append_left (by omega)] at hc
      exact .inl ⟨hf, hc⟩
    · rw [List.getElem?_append_right h] at hf
      rw [List.getElem?_append_right (by omega)] at hc
      rw [← hl] at hc
      match hk : i - env.length, hf, hc with
      | 0, hf, hc => simp at hf hc; exact .inr ⟨by omega, hf.symm, hc.symm⟩
      | k + 1, hf, _ => simp at hf
  refine ⟨by simp [hl], ?_, ?_, ?_⟩
  · intro i f c hfi hc
    rcases get hfi hc with ⟨h2, h3⟩ | ⟨_, rfl, rfl⟩
    · exact Blk.holds_mono _ (hr.holds i f c h2 h3)
    · exact hb
  · intro i j f g c d hij hfi hg hc hd x hx hx'
    rcases get hfi hc with ⟨h2, h3⟩ | ⟨hi, rfl, rfl⟩ <;> rcases get hg hd with ⟨k2, k3⟩ | ⟨hj, rfl, rfl⟩
    · exact hr.apart i j f g c d hij h2 k2 h3 k3 x hx hx'
    · exact (hs x hx').2 i f c h2 h3 (foot_sub_supp hx)
    · exact (hs x (foot_sub_supp hx)).2 j g d k2 k3 hx'
    · exact hij (by omega)
  · intro i f c hfi hc x hx
    rcases get hfi hc with ⟨h2, h3⟩ | ⟨_, rfl, rfl⟩
    · exact hr.low i f c h2 h3 x hx
    · exact (hs x hx).1
/-- a family of nobody -/
theorem At.many0 {gl : List (Nat × Nat)} {w0 : From} {env : Env} {ts : List SVal} {st : St} {a : Act} {w : World} (h : At gl w0 env ts st a w) {X : Type} (E : Enc X) (T : TypeId) : At gl w0 (env ++ [⟨0, 0, 0, []⟩]) ts (st ++ [.many E [] T]) a w := by
  obtain ⟨h1, h2⟩ := rep_add h.rep (b := .many E [] T) (e := ⟨0, 0, 0, []⟩) ⟨rfl, List.nodup_nil, fun i b hb => by simp at hb⟩ rfl rfl
  exact ⟨h.gl.ext h2, h1, h.den.ext h2, h.fresh.ext h2, h.defers⟩
theorem set_get {st : St} {i j : Nat} {b c : Blk} (h : (st.set i b)[j]? = some c) : (j = i ∧ c = b) ∨ (j ≠ i ∧ st[j]? = some c) := by
  by_cases hj : i = j
  · subst hj
    by_cases hl : i < st.length
    · rw [List.getElem?_set_self hl] at h; exact .inl ⟨rfl, by simpa using h.symm⟩
    · rw [List.getElem?_eq_none (by simp; omega)] at h; simp at h
  · rw [List.getElem?_set_ne hj] at h; exact .inr ⟨fun e => hj e.symm, h⟩
/-- a new object joins its family -/
theorem At.fold {gl : List (Nat × Nat)} {w0 : From} {env : Env} {ts : List SVal} {st : St} {a : Act} {w : World} (h : At gl w0 env ts st a w) (f o : Nat) (hne : f ≠ o) {X : Type} {E : Enc X} {xs : List X} {T : TypeId} {segs : List Seg}
    (hf : st[f]? = some (.many E xs T)) (ho : st[o]? = some (.own segs T)) (x : X) (hd : ∀ env cs, DenL env (segCells segs) cs → DenL env (E.enc x) cs) :
    ∃ e, At gl w0 (env ++ [e]) ts ((st.set f .gone).set o .gone ++ [.many E (xs ++ [x]) T]) a w ∧ (∀ v j, Den (env ++ [e]) (.ptr o j) v → Den (env ++ [e]) (.pto st.length xs.length j) v) ∧ ∀ i j v, Den (env ++ [e]) (.pto f i j) v → Den (env ++ [e]) (.pto st.length i j) v := by
  have hl := h.rep.len
  have hfl : f < env.length := by rw [hl]; exact (List.getElem?_eq_some_iff.1 hf).1
  have hol : o < env.length := by rw [hl]; exact (List.getElem?_eq_some_iff.1 ho).1
  have hef : env[f]? = some env[f] := by simp [hfl]
  have heo : env[o]? = some env[o] := by simp [hol]
  obtain ⟨f0, f1, f2⟩ := h.rep.holds f _ _ hef hf
  obtain ⟨o0, o1, cs, o2, o3⟩ := h.rep.holds o _ _ heo ho
  generalize hE : env[f] = ef at *
  generalize hO : env[o] = eo at *
  have hnin : eo.blk ∉ ef.fam := fun hin => h.rep.apart f o ef eo _ _ hne hef heo hf ho eo.blk hin (by simp [Blk.supp])
  obtain ⟨r1, x1⟩ := rep_drop h.rep f
  obtain ⟨r2, x2⟩ := rep_drop r1 o
  have live : ∀ (id : Nat) (g : Slot) (c : Blk), env[id]? = some g → ((st.set f .gone).set o .gone)[id]? = some c → c = .gone ∨ (id ≠ f ∧ id ≠ o ∧ st[id]? = some c) := by
    intro id g c hg hc
    rcases set_get hc with ⟨_, rfl⟩ | ⟨h1, hc⟩
    · exact .inl rfl
    · rcases set_get hc with ⟨_, rfl⟩ | ⟨h2, hc⟩
      · exact .inl rfl
      · exact .inr ⟨h2, h1, hc⟩
  let e : Slot := ⟨0, 0, 0, ef.fam ++ [eo.blk]⟩
  have hh : (Blk.many E (xs ++ [x]) T).holds (env ++ [e]) e w := by
    refine ⟨by simp [e, f0], ?_, fun i b hb => ?_⟩
    · simp only [e]
      rw [List.nodup_append]
      refine ⟨f1, by simp, fun p hp q hq => ?_⟩
      simp only [List.mem_singleton] at hq
      subst hq
      intro hpq; subst hpq; exact hnin hp
    · simp only [e] at hb
      rcases Nat.lt_or_ge i ef.fam.length with hi | hi
      · rw [List.getElem?_append_left hi] at hb
        obtain ⟨cs', h3, h4⟩ := f2 i b hb
        exact ⟨cs', h3, by rw [getD_append_left (by omega)]; exact denL_mono _ _ _ h4⟩
      · rw [List.getElem?_append_right hi] at hb
        have hi' : i = xs.length := by
          match hk : i - ef.fam.length, hb with
          | 0, _ => omega
          | k + 1, hb => simp at hb
        subst hi'
        simp only [f0, Nat.sub_self, List.getElem?_cons_zero, Option.some.injEq] at hb
        subst hb
        exact ⟨cs, o2, by rw [getD_append_len]; exact denL_mono _ _ _ (hd _ _ o3)⟩
  have hpush := rep_push r2 (b := .many E (xs ++ [x]) T) (e := e) hh (fun y hy => by
    have hy' : y ∈ ef.fam ∨ y = eo.blk := by simpa [Blk.supp, e] using hy
    rcases hy' with hy' | rfl
    · refine ⟨h.rep.low f ef _ hef hf y hy', fun id g c hg hc hin => ?_⟩
      rcases live id g c hg hc with rfl | ⟨h1, h2, hc⟩
      · simp [Blk.supp] at hin
      · exact h.rep.apart f id ef g _ c (fun e => h1 e.symm) hef hg hf hc y hy' hin
    · refine ⟨h.rep.low o eo _ heo ho _ (by simp [Blk.supp]), fun id g c hg hc hin => ?_⟩
      rcases live id g c hg hc with rfl | ⟨h1, h2, hc⟩
      · simp [Blk.supp] at hin
      · exact h.rep.apart o id eo g _ c (fun e => h2 e.symm) heo hg ho hc _ (by simp [Blk.foot]) hin)
  have hmono : ∀ s v, Den env s v → Den (env ++ [e]) s v := fun s v h => den_mono _ s v h
  have hef' : (env ++ [e])[f]? = some ef := getElem?_append_some hef
  have heo' : (env ++ [e])[o]? = some eo := getElem?_append_some heo
  have hnew : (env ++ [e])[st.length]? = some e := by rw [← hl]; simp
  refine ⟨e, ⟨fun p hp => ?_, hpush, ?_, h.fresh.sub ?_, h.defers⟩, ?_, ?_⟩
  · obtain ⟨g, h1, h2⟩ := h.gl p hp
    exact ⟨g, getElem?_append_some h1, h2⟩
  · obtain ⟨us, hu, hdu⟩ := h.den
    exact ⟨us, hu, denL_mono _ _ _ hdu⟩
  · rintro y ⟨id, g, c, hg, hc, hy⟩
    rcases Nat.lt_or_ge id env.length with hi | hi
    · rw [List.getElem?_append_left hi] at hg
      rw [List.getElem?_append_left (by simp; omega)] at hc
      rcases live id g c hg hc with rfl | ⟨h1, h2, hc⟩
      · simp [Blk.foot] at hy
      · exact ⟨id, g, c, hg, hc, hy⟩
    · rw [List.getElem?_append_right hi] at hg
      rw [List.getElem?_append_right (by simp; omega)] at hc
      have : id = env.length := by
        match hk : id - env.length, hg with
        | 0, _ => omega
        | k + 1, hg => simp at hg
      subst this
      simp only [Nat.sub_self, List.getElem?_cons_zero, Option.some.injEq] at hg
      simp only [List.length_set, hl, Nat.sub_self, List.getElem?_cons_zero, Option.some.injEq] at hc
      subst hg hc
      have hy' : y ∈ ef.fam ∨ y = eo.blk := by simpa [Blk.foot, e] using hy
      rcases hy' with hy' | rfl
      · exact ⟨f, ef, _, hef, hf, hy'⟩
      · exact ⟨o, eo, _, heo, ho, by simp [Blk.foot]⟩
  · intro v j hv
    simp only [Den] at hv ⊢
    obtain ⟨g, h1, rfl⟩ := hv
    rw [heo'] at h1
    cases h1
    exact ⟨e, eo.blk, hnew, by simp [e, ← f0], by simp [o0]⟩
  · intro i j v hv
    simp only [Den] at hv ⊢
    obtain ⟨g, b, h1, h2, rfl⟩ := hv
    rw [hef'] at h1
    cases h1
    exact ⟨e, b, hnew, getElem?_append_some h2, rfl⟩
/-- elements of a kind, as elements of another that lie alike here -/
theorem At.typede {gl : List (Nat × Nat)} {w0 : From} {env : Env} {ts : List SVal} {st : St} {a : Act} {w : World} (h : At gl w0 env ts st a w) (i : Nat) {X Y : Type} {E : Enc X} {E' : Enc Y} {xs : List X} {ys : List Y} {T : TypeId} (hb : st[i]? = some (.vec E xs T)) (hl : xs.length = ys.length) (hz : E.sz = E'.sz)
    (he : ∀ cs, DenL env (xs.flatMap E.enc) cs → DenL env (ys.flatMap E'.enc) cs) : At gl w0 env ts (st.set i (.vec E' ys T)) a w := by
  have hi : i < st.length := (List.getElem?_eq_some_iff.1 hb).1
  have hie : i < env.length := by rw [h.rep.len]; exact hi
  have hei : env[i]? = some env[i] := by simp [hie]
  obtain ⟨h0, h1, hh⟩ := h.rep.holds i _ _ hei hb
  obtain ⟨k1, k2⟩ := rep_put h.rep hei hb (b' := .vec E' ys T) (w' := w) rfl rfl ⟨h0, by rw [← hl]; exact h1, fun hc => by
    obtain ⟨cs, junk, h2, h3, h4⟩ := hh hc
    exact ⟨cs, junk, h2, he cs h3, by rw [← hz]; exact h4⟩⟩ (Nat.le_refl _) (fun _ _ _ => rfl) ⟨rfl, rfl⟩
  exact ⟨h.gl, k1, h.den, h.fresh.ext k2, h.defers⟩

/-! ## pieces whose names stay as they fell -/
def rawN (N : Nat) (names : List Nat) (r : Res) : T (Ex × List SVal × St) := match Nat.beq r.2.1.length N with
  | true => .ret (r.1, pick names r.2.1, r.2.2)
  | false => .no 301
theorem pieceTR {c : Cfg} (hsm : SmOk c) {fuel N : Nat} {code : Code} {ts : List SVal} {st : St} (names : List Nat) {t : T (Ex × List SVal × St)} (ht : (exec c fuel code ts st).bind (rawN N names) = t)
    {w0 : From} {env : Env} {a : Act} {w : World} (hA : At c.gl w0 env ts st a w) {Q : Exit → Act → World → Prop}
    (hk : All (fun r => ∀ env' a' w', At c.gl w0 env' (fr N names r.2.1) r.2.2 a' w' → Q r.1.to a' w') t) : code.wp c.P Q a w := by
  obtain ⟨⟨e, vals, st'⟩, h1, hk⟩ := T.all_at hk.h
  rw [← ht, T.at_bind] at h1
  obtain ⟨⟨e1, ts1, st1⟩, h1, h2⟩ := h1
  refine exec_ok hsm fuel code ts st e1 ts1 st1 env w a Q h1 hA.gl hA.rep hA.den ?_
  intro env1 a1 w1 hx1 hr1 ht1 hd1
  unfold rawN at h2
  split at h2
  · rename_i hN
    simp only [T.at, Prod.mk.injEq] at h2
    obtain ⟨rfl, rfl, rfl⟩ := h2
    refine hk env1 a1 w1 ⟨hA.gl.ext hx1, hr1, ?_, hA.fresh.ext hx1, by rw [hd1, hA.defers]⟩
    exact denT_fr (denT_pick ht1 names (Nat.eq_of_beq_eq_true hN)) fun t v h => h
  · exact h2.elim

/-! ## pieces that keep the first names -/
def canonK (k : Nat) (gl : List (Nat × Nat)) (N : Nat) (names : List Nat) (r : Res) : T (Ex × List SVal × St) :=
  let vals := pick names r.2.1
  let ids := reach r.2.2 400 (List.range k ++ (gl.map (·.2) ++ idsOfL vals)) []
  match nodupB ids && glKept ids gl && Nat.beq r.2.1.length N && natsEq (ids.take k) (List.range k), renSt ids r.2.2 ids with
  | true, some st => .ret (r.1, renL ids vals, st)
  | _, _ => .no 302
/-- where a call stands that keeps what its caller's names stand for -/
structure AtK (base : Env) (gl : List (Nat × Nat)) (w0 : From) (env : Env) (ts : List SVal) (st : St) (a : Act) (w : World) : Prop where
  at' : At gl w0 env ts st a w
  more : ∃ m, env = base ++ m
theorem canonK_ok {k : Nat} {gl : List (Nat × Nat)} {N : Nat} {names : List Nat} {r : Res} {e : Ex} {vals : List SVal} {st' : St} (h : (canonK k gl N names r).at (e, vals, st')) {base env : Env} {w : World} (hk : base.length = k) (hb : ∃ m, env = base ++ m) (hg : GlOk gl env) (hr : Rep env r.2.2 w) {tmps : Array Value} (ht : DenT env r.2.1 tmps) :
    r.1 = e ∧ ∃ env', (∃ m, env' = base ++ m) ∧ GlOk gl env' ∧ Rep env' st' w ∧ DenT env' (fr N names vals) tmps ∧ ∀ x, inFoot env' st' x → inFoot env r.2.2 x := by
  unfold canonK at h
  simp only at h
  split at h
  · rename_i st1 hnd hst
    simp only [Bool.and_eq_true] at hnd
    obtain ⟨⟨⟨hnd, hgk⟩, hN⟩, hpre⟩ := hnd
    have hN := Nat.eq_of_beq_eq_true hN
    have hpre := natsEq_eq hpre
    simp only [T.at, Prod.mk.injEq] at h
    obtain ⟨rfl, rfl, rfl⟩ := h
    obtain ⟨h1, h2⟩ := rep_sub hr hnd hst
    refine ⟨rfl, _, ?_, glKept_ok hgk hg, h1, ?_, h2⟩
    · generalize reach r.2.2 400 (List.range k ++ (gl.map (·.2) ++ idsOfL (pick names r.2.1))) [] = ids at *
      obtain ⟨m, rfl⟩ := hb
      refine ⟨(subEnv (base ++ m) ids).drop k, ?_⟩
      conv => lhs; rw [← List.take_append_drop k (subEnv (base ++ m) ids)]
      congr 1
      rw [subEnv, ← List.map_take, hpre]
      apply List.ext_getElem?
      intro i
      rw [List.getElem?_map]
      rcases Nat.lt_or_ge i k with h | h
      · rw [List.getElem?_range h]
        simp only [Option.map_some, List.getD_eq_getElem?_getD]
        rw [List.getElem?_append_left (by omega)]
        simp [show i < base.length by omega]
      · rw [List.getElem?_eq_none (by simpa using h), List.getElem?_eq_none (by omega)]
        rfl
    · refine denT_fr (denT_pick ht names hN) fun t v hd => ?_
      rw [renL_find]; exact ren_den _ v hd
  · exact h.elim
theorem pieceTK {c : Cfg} (hsm : SmOk c) {fuel N k : Nat} {code : Code} {ts : List SVal} {st : St} (names : List Nat) {t : T (Ex × List SVal × St)} (ht : (exec c fuel code ts st).bind (canonK k c.gl N names) = t)
    {w0 : From} {base env : Env} (hb : base.length = k) {a : Act} {w : World} (hA : AtK base c.gl w0 env ts st a w) {Q : Exit → Act → World → Prop}
    (hk : All (fun r => ∀ env' a' w', AtK base c.gl w0 env' (fr N names r.2.1) r.2.2 a' w' → Q r.1.to a' w') t) : code.wp c.P Q a w := by
  obtain ⟨⟨e, vals, st'⟩, h1, hk⟩ := T.all_at hk.h
  rw [← ht, T.at_bind] at h1
  obtain ⟨⟨e1, ts1, st1⟩, h1, h2⟩ := h1
  refine exec_ok hsm fuel code ts st e1 ts1 st1 env w a Q h1 hA.at'.gl hA.at'.rep hA.at'.den ?_
  intro env1 a1 w1 hx1 hr1 ht1 hd1
  have hb1 : ∃ m, env1 = base ++ m := by
    obtain ⟨m, rfl⟩ := hA.more
    obtain ⟨m', rfl⟩ := hx1.more
    exact ⟨m ++ m', by simp⟩
  obtain ⟨rfl, env2, m2, g2, r2, t2, f2⟩ := canonK_ok h2 hb hb1 (hA.at'.gl.ext hx1) hr1 ht1
  exact hk env2 a1 w1 ⟨⟨g2, r2, t2, (hA.at'.fresh.ext hx1).sub f2, by rw [hd1, hA.at'.defers]⟩, m2⟩
theorem pieceNTK {c : Cfg} (hsm : SmOk c) {fuel N k : Nat} (n : Nat) {code : Code} {ts : List SVal} {st : St} (names : List Nat) {t : T (Ex × List SVal × St)} (ht : (execN c fuel n code ts st).bind (canonK k c.gl N names) = t)
    {w0 : From} {base env : Env} (hb : base.length = k) {a : Act} {w : World} (hA : AtK base c.gl w0 env ts st a w) {Q : Exit → Act → World → Prop}
    (hk : All (fun r => ∀ env' a' w', AtK base c.gl w0 env' (fr N names r.2.1) r.2.2 a' w' → Exit.then (fun a w => (restC n code).wp c.P Q a w) Q r.1.to a' w') t) : code.wp c.P Q a w := by
  obtain ⟨⟨e, vals, st'⟩, h1, hk⟩ := T.all_at hk.h
  rw [← ht, T.at_bind] at h1
  obtain ⟨⟨e1, ts1, st1⟩, h1, h2⟩ := h1
  refine execN_ok hsm fuel n code ts st e1 ts1 st1 env w a Q h1 hA.at'.gl hA.at'.rep hA.at'.den ?_
  intro env1 a1 w1 hx1 hr1 ht1 hd1
  have hb1 : ∃ m, env1 = base ++ m := by
    obtain ⟨m, rfl⟩ := hA.more
    obtain ⟨m', rfl⟩ := hx1.more
    exact ⟨m ++ m', by simp⟩
  obtain ⟨rfl, env2, m2, g2, r2, t2, f2⟩ := canonK_ok h2 hb hb1 (hA.at'.gl.ext hx1) hr1 ht1
  exact hk env2 a1 w1 ⟨⟨g2, r2, t2, (hA.at'.fresh.ext hx1).sub f2, by rw [hd1, hA.at'.defers]⟩, m2⟩
theorem AtK.vals {base : Env} {gl : List (Nat × Nat)} {w0 : From} {env : Env} {n : Nat} {names : List Nat} {vals : List SVal} {st : St} {a : Act} {w : World} (h : AtK base gl w0 env (fr n names vals) st a w) (vals' : List SVal) (hs : SubV env env vals vals') :
    AtK base gl w0 env (fr n names vals') st a w := ⟨h.at'.vals vals' hs, h.more⟩
/-- what a call comes to that knows its end -/
abbrev Ends1 (env0 : Env) (S : St) (w0 : World) (s : SVal) (S' : St) : Ending → World → Prop := fun e w' => ∃ env' v, e = .returned v ∧ Ext env0 S w0 env' S' w' ∧ Rep env' S' w' ∧ Den env' s v
theorem AtK.out {c : Cfg} {env0 : Env} {S S' : St} {w0 : World} {env : Env} {ts : List SVal} {a : Act} {w : World} (h : AtK env0 c.gl ⟨w0, inFoot env0 S⟩ env ts S' a w) {fn : Func} {s : SVal} (hs : resOf c.P fn ts S' = some s) :
    bodyPost c.P fn (Ends1 env0 S w0 s S') .ret a w :=
  h.at'.out hs fun v hv => ⟨env, v, rfl, ⟨h.more, h.at'.fresh.size, h.at'.fresh.keep, h.at'.fresh.foot, h.at'.fresh.calm⟩, h.at'.rep, hv⟩
theorem AtK.begin {c : Cfg} {f : FuncId} {fn : Func} {b : Code} (hfn : c.P.funcs[f]? = some fn) (hb : fn.body = some b) {args : List SVal} {st : St} {env : Env} {w : World} {vs : List Value} {R : Ending → World → Prop} (hg : GlOk c.gl env) (hr : Rep env st w) (hd : DenL env args vs)
    (hk : ∀ a, AtK env c.gl ⟨w, inFoot env st⟩ env (args ++ List.replicate (fn.ntmps - args.length) .bad) st a w → b.wp c.P (bodyPost c.P fn R) a w) : Calls c.P f ⟨vs⟩ w R :=
  call_begin hfn hb hg hr hd (F := inFoot env st) (fun _ h => h) fun a hA => hk a ⟨hA, [], by simp⟩
/-- a call that knows its end, at one state -/
def smEq (A : List SVal) (S : St) (p : Prop) (s : SVal) (S' : St) : List SVal → St → T (SVal × St) := fun args st => .eq (args = A ∧ st = S ∧ p) (.ret (s, S'))
theorem smEq_ok {c : Cfg} {f : FuncId} {A : List SVal} {S S' : St} {p : Prop} {s0 : SVal} (hC : p → ∀ (env : Env) (w : World) (vs : List Value), GlOk c.gl env → Rep env S w → DenL env A vs → Calls c.P f ⟨vs⟩ w (Ends1 env S w s0 S'))
    (args : List SVal) (st : St) (s : SVal) (st' : St) (env : Env) (w : World) (vs : List Value) (hat : (smEq A S p s0 S' args st).at (s, st')) (hg : GlOk c.gl env) (hr : Rep env st w) (hd : DenL env args vs) :
    Calls c.P f ⟨vs⟩ w fun e w' => ∃ env' v, e = .returned v ∧ Ext env st w env' st' w' ∧ Rep env' st' w' ∧ Den env' s v := by
  obtain ⟨⟨rfl, rfl, hp⟩, hat⟩ := hat
  simp only [T.at, Prod.mk.injEq] at hat
  obtain ⟨rfl, rfl⟩ := hat
  exact hC hp env w vs hg hr hd
end Go.Proofs.YtmknmbacecjfmaaDoor.Sx

/- Frames: a call that knows its end on a small state, in a greater one; a call on one object, as a call on a family's member. -/
namespace Go.Proofs.YtmknmbacecjfmaaDoor.Sx
set_option linter.unusedVariables false
theorem renSt_pre {m : List Nat} {S rest : St} : ∀ {l : List Nat}, (∀ i ∈ l, i < S.length) → renSt m (S ++ rest) l = renSt m S l
  | [], _ => rfl
  | i :: l, h => by
    simp only [renSt]
    rw [List.getElem?_append_left (h i List.mem_cons_self), renSt_pre fun j hj => h j (List.mem_cons_of_mem _ hj)]
theorem subEnv_range (env : Env) {k : Nat} (h : k ≤ env.length) : subEnv env (List.range k) = env.take k := by
  apply List.ext_getElem?
  intro i
  rw [subEnv, List.getElem?_map]
  rcases Nat.lt_or_ge i k with hi | hi
  · rw [List.getElem?_range hi, List.getElem?_take_of_lt hi]
    have : i < env.length := by omega
    simp [List.getD_eq_getElem?_getD, this]
  · rw [List.getElem?_eq_none (by simpa using hi), List.getElem?_eq_none (by simp; omega)]; rfl
theorem nodup_range (k : Nat) : nodupB (List.range k) = true := by
  have h : ∀ l : List Nat, l.Nodup → nodupB l = true := by
    intro l
    induction l with
    | nil => intro _; rfl
    | cons a l ih =>
      intro h
      rw [List.nodup_cons] at h
      simp only [nodupB, ih h.2, Bool.and_true, Bool.not_eq_true']
      simpa using h.1
  exact h _ List.nodup_range
/-- what hangs on more than it may change is as it was -/
def roSame (S S' : St) : Prop := ∀ (i : Nat) (b : Blk), S'[i]? = some b → (∀ e : Slot, ∀ x ∈ b.supp e, x ∈ b.foot e) ∨ S[i]? = some b
def plainB : Blk → Bool
  | .ro .. => false
  | .rows ow _ _ => ow
  | _ => true
theorem plainB_ok {b : Blk} (h : plainB b = true) : ∀ e, ∀ x ∈ b.supp e, x ∈ b.foot e := by
  intro e x hx
  cases b <;> simp_all [plainB, Blk.supp, Blk.foot]
theorem roSame_cons {b b' : Blk} {S S' : St} (h : plainB b' = true ∨ b' = b) (h' : roSame S S') : roSame (b :: S) (b' :: S') := by
  intro i c hc
  cases i with
  | zero =>
    simp only [List.getElem?_cons_zero, Option.some.injEq] at hc; subst hc
    rcases h with h | h
    · exact .inl (plainB_ok h)
    · exact .inr (by rw [h]; rfl)
  | succ i => simpa using h' i c (by simpa using hc)
theorem roSame_nil {S : St} : roSame S [] := by intro i b h; simp at h
/-- a greater state: what is behind stays -/
theorem frame {c : Cfg} {f : FuncId} {A : List SVal} {S S' : St} {s : SVal}
    (hC : ∀ (env : Env) (w : World) (vs : List Value), GlOk c.gl env → Rep env S w → DenL env A vs → Calls c.P f ⟨vs⟩ w (Ends1 env S w s S'))
    (rest : St) (hk : S'.length = S.length) (hA : renL (List.range S.length) A = A) (hgl : ∀ p ∈ c.gl, p.2 < S.length) (hS : renSt (List.range S.length) S (List.range S.length) = some S) (hro : roSame S S') :
    ∀ (env : Env) (w : World) (vs : List Value), GlOk c.gl env → Rep env (S ++ rest) w → DenL env A vs → Calls c.P f ⟨vs⟩ w (Ends1 env (S ++ rest) w s (S' ++ rest)) := by
  intro env w vs hg hr hd
  have hle : S.length ≤ env.length := by have := hr.len; simp at this; omega
  have hsub := rep_sub hr (nodup_range S.length) (st' := S) (by rw [renSt_pre (by intro i hi; simpa using hi)]; exact hS)
  rw [subEnv_range env hle] at hsub
  obtain ⟨hr0, hfoot⟩ := hsub
  have hd0 : DenL (env.take S.length) A vs := by
    have := renL_den (m := List.range S.length) A vs hd
    rwa [subEnv_range env hle, hA] at this
  have hg0 : GlOk c.gl (env.take S.length) := by
    intro p hp
    obtain ⟨e, h1, h2⟩ := hg p hp
    exact ⟨e, by rw [List.getElem?_take_of_lt (hgl p hp)]; exact h1, h2⟩
  refine (hC _ w vs hg0 hr0 hd0).mono ?_
  rintro e w' ⟨env', v, rfl, hx, hr', hv⟩
  obtain ⟨m, hm⟩ := hx.more
  have hm0 : m = [] := by
    have h1 := hr'.len
    have h2 := hr0.len
    rw [hm, List.length_append] at h1
    exact List.eq_nil_of_length_eq_zero (by omega)
  subst hm0
  rw [List.append_nil] at hm
  subst hm
  have hlt : (env.take S.length).length = S.length := hr0.len
  have hsplit : env.take S.length ++ env.drop S.length = env := List.take_append_drop _ _
  have hpre : ∀ {i : Nat} {e : Slot}, i < S.length → env[i]? = some e → (env.take S.length)[i]? = some e := by
    intro i e hi he; rw [List.getElem?_take_of_lt hi]; exact he
  have cases' : ∀ {i : Nat} {b : Blk}, (S' ++ rest)[i]? = some b → (i < S.length ∧ S'[i]? = some b) ∨ (S.length ≤ i ∧ (S ++ rest)[i]? = some b) := by
    intro i b hb
    rcases Nat.lt_or_ge i S.length with h | h
    · rw [List.getElem?_append_left (by omega)] at hb; exact .inl ⟨h, hb⟩
    · rw [List.getElem?_append_right (by omega), hk] at hb
      exact .inr ⟨h, by rw [List.getElem?_append_right h]; exact hb⟩
  have inF : ∀ {x : Nat}, inFoot (env.take S.length) S x → inFoot env (S ++ rest) x := by
    rintro x ⟨id, e, b, h1, h2, h3⟩
    have hid : id < S.length := by rcases Nat.lt_or_ge id S.length with h | h; exact h; rw [List.getElem?_eq_none h] at h2; cases h2
    refine ⟨id, e, b, ?_, by rw [List.getElem?_append_left hid]; exact h2, h3⟩
    rwa [List.getElem?_take_of_lt hid] at h1
  have notSupp : ∀ {j : Nat} {e : Slot} {b : Blk}, S.length ≤ j → env[j]? = some e → (S ++ rest)[j]? = some b → ∀ x, inFoot (env.take S.length) S x → x ∉ b.supp e := by
    rintro j e b hj he hb x ⟨id, e1, b1, h1, h2, h3⟩ hx'
    have hid : id < S.length := by rcases Nat.lt_or_ge id S.length with h | h; exact h; rw [List.getElem?_eq_none h] at h2; cases h2
    rw [List.getElem?_take_of_lt hid] at h1
    exact hr.apart id j e1 e b1 b (by omega) h1 he (by rw [List.getElem?_append_left hid]; exact h2) hb x h3 hx'
  have holdRest : ∀ {j : Nat} {e : Slot} {b : Blk}, S.length ≤ j → env[j]? = some e → (S ++ rest)[j]? = some b → ∀ x ∈ b.supp e, w'.heap[x]? = w.heap[x]? := by
    intro j e b hj he hb x hx'
    exact hx.keep x (hr.low j e b he hb x hx') fun h => notSupp hj he hb x h hx'
  refine ⟨env, v, rfl, ⟨⟨[], by simp⟩, hx.size, fun x h1 h2 => hx.keep x h1 fun h => h2 (inF h), ?_, hx.calm⟩, ⟨?_, ?_, ?_, ?_⟩, by rw [← hsplit]; exact den_mono _ _ _ hv⟩
  · rintro x h1 ⟨id, e, b, h2, h3, h4⟩
    rcases cases' h3 with ⟨hi, h⟩ | ⟨hi, h⟩
    · exact inF (hx.foot x h1 ⟨id, e, b, hpre hi h2, h, h4⟩)
    · exact ⟨id, e, b, h2, h, h4⟩
  · have := hr.len; simp at this ⊢; omega
  · intro id e b h1 h2
    rcases cases' h2 with ⟨hi, h⟩ | ⟨hi, h⟩
    · have := hr'.holds id e b (hpre hi h1) h
      rw [← hsplit]; exact Blk.holds_mono _ this
    · exact Blk.holds_of_supp (hr.holds id e b h1 h) (holdRest hi h1 h)
  · intro i j e1 e2 b1 b2 hij h1 h2 h3 h4 x hx1 hx2
    rcases cases' h3 with ⟨hi, g3⟩ | ⟨hi, g3⟩ <;> rcases cases' h4 with ⟨hj, g4⟩ | ⟨hj, g4⟩
    · exact hr'.apart i j e1 e2 b1 b2 hij (hpre hi h1) (hpre hj h2) g3 g4 x hx1 hx2
    · have hlow := hr.low j e2 b2 h2 g4 x hx2
      exact notSupp hj h2 g4 x (hx.foot x hlow ⟨i, e1, b1, hpre hi h1, g3, hx1⟩) hx2
    · have hlow := hr.low i e1 b1 h1 g3 x (foot_sub_supp hx1)
      rcases hro j b2 g4 with hp | hp
      · exact notSupp hi h1 g3 x (hx.foot x hlow ⟨j, e2, b2, hpre hj h2, g4, hp e2 x hx2⟩) (foot_sub_supp hx1)
      · exact hr.apart i j e1 e2 b1 b2 hij h1 h2 g3 (by rw [List.getElem?_append_left hj]; exact hp) x hx1 hx2
    · exact hr.apart i j e1 e2 b1 b2 hij h1 h2 g3 g4 x hx1 hx2
  · intro id e b h1 h2 x hx1
    rcases cases' h2 with ⟨hi, h⟩ | ⟨hi, h⟩
    · exact hr'.low id e b (hpre hi h1) h x hx1
    · exact Nat.lt_of_lt_of_le (hr.low id e b h1 h x hx1) hx.size
/-- a call on an object, as a call on a member of a family -/
theorem focus {c : Cfg} {f : FuncId} {A : List SVal} {S S' : St} {s : SVal} {X : Type} {E : Enc X} {xs : List X} {T : TypeId} {i : Nat} {x' : X} (hi : i < xs.length)
    (hC : ∀ (env : Env) (w : World) (vs : List Value), GlOk c.gl env → Rep env (S ++ [.own ((E.enc (xs.getD i E.dflt)).map .c) T]) w → DenL env (.ptr S.length 0 :: A) vs →
      Calls c.P f ⟨vs⟩ w (Ends1 env (S ++ [.own ((E.enc (xs.getD i E.dflt)).map .c) T]) w s (S' ++ [.own ((E.enc x').map .c) T])))
    (hk : S'.length = S.length) (hA : renL (List.range S.length) A = A) (hs : ren (List.range S.length) s = s) (hgl : ∀ p ∈ c.gl, p.2 < S.length)
    (hS : renSt (List.range S.length) S (List.range S.length) = some S) (hS' : renSt (List.range S.length) S' (List.range S.length) = some S') (hE : ∀ x, renL (List.range S.length) (E.enc x) = E.enc x) (hro : roSame S S') :
    ∀ (env : Env) (w : World) (vs : List Value), GlOk c.gl env → Rep env (S ++ [.many E xs T]) w → DenL env (.pto S.length i 0 :: A) vs →
      Calls c.P f ⟨vs⟩ w (Ends1 env (S ++ [.many E xs T]) w s (S' ++ [.many E (xs.set i x') T])) := by
  intro env w vs hg hr hd
  have hlen : env.length = S.length + 1 := by have := hr.len; simpa using this
  obtain ⟨env0, e, rfl⟩ : ∃ env0 e, env = env0 ++ [e] := by
    rcases List.eq_nil_or_concat env with h | ⟨l, a, h⟩
    · subst h; simp at hlen
    · exact ⟨l, a, by simpa using h⟩
  have hl0 : env0.length = S.length := by simpa using hlen
  have he : (env0 ++ [e])[S.length]? = some e := by rw [← hl0]; simp
  have hm : (S ++ [Blk.many E xs T])[S.length]? = some (.many E xs T) := by simp
  obtain ⟨hf1, hf2, hf3⟩ := hr.holds _ _ _ he hm
  have htake : ∀ e' : Slot, subEnv (env0 ++ [e']) (List.range S.length) = env0 := by
    intro e'
    rw [subEnv_range _ (by simp; omega), ← hl0]; simp
  obtain ⟨v0, vs', rfl, hv0, hvs⟩ := hd
  obtain ⟨e2, b, h1, hb, rfl⟩ := hv0
  rw [he] at h1
  simp only [Option.some.injEq] at h1; subst h1
  obtain ⟨cs, hcs, hcd⟩ := hf3 i b hb
  have hblow : ∀ {j y : Nat}, e.fam[j]? = some y → y < w.heap.size := fun h => hr.low _ _ _ he hm _ (List.mem_of_getElem? h)
  have hsub := rep_sub hr (nodup_range S.length) (st' := S) (by rw [renSt_pre (by intro i hi; simpa using hi)]; exact hS)
  rw [htake] at hsub
  obtain ⟨hr0, _⟩ := hsub
  have to0 : ∀ {e' : Slot} {l : List SVal} {us : List Value}, renL (List.range S.length) l = l → DenL (env0 ++ [e']) l us → DenL env0 l us := by
    intro e' l us hl h
    have := renL_den (m := List.range S.length) l us h
    rwa [htake, hl] at this
  have getS : ∀ {st : St} {B : Blk} {j : Nat} {c : Blk}, st.length = S.length → (st ++ [B])[j]? = some c → (j < S.length ∧ st[j]? = some c) ∨ (j = S.length ∧ c = B) := by
    intro st B j c hst h
    rcases Nat.lt_trichotomy j S.length with hj | hj | hj
    · rw [List.getElem?_append_left (by omega)] at h; exact .inl ⟨hj, h⟩
    · subst hj
      rw [List.getElem?_append_right (by omega), hst] at h
      simp at h; exact .inr ⟨rfl, h.symm⟩
    · rw [List.getElem?_append_right (by omega), List.getElem?_eq_none (by simp; omega)] at h; cases h
  have getE : ∀ {e' e'' : Slot} {j : Nat} {x : Slot}, j < S.length → (env0 ++ [e'])[j]? = some x → (env0 ++ [e''])[j]? = some x := by
    intro e' e'' j x hj h
    rw [List.getElem?_append_left (by omega)] at h ⊢; exact h
  have getE0 : ∀ {e' : Slot} {j : Nat} {x : Slot}, j < S.length → (env0 ++ [e'])[j]? = some x → env0[j]? = some x := by
    intro e' j x hj h
    rwa [List.getElem?_append_left (by omega)] at h
  have getEl : ∀ {e' x : Slot}, (env0 ++ [e'])[S.length]? = some x → x = e' := by
    intro e' x h; rw [← hl0] at h; simpa using h.symm
  let e1 : Slot := ⟨b, 0, 0, []⟩
  have he1 : (env0 ++ [e1])[S.length]? = some e1 := by rw [← hl0]; simp
  have hr1 : Rep (env0 ++ [e1]) (S ++ [.own ((E.enc (xs.getD i E.dflt)).map .c) T]) w := by
    refine ⟨by simp [hl0], ?_, ?_, ?_⟩
    · intro j x c h1 h2
      rcases getS rfl h2 with ⟨hj, h2⟩ | ⟨rfl, rfl⟩
      · exact Blk.holds_mono _ (hr0.holds j x c (getE0 hj h1) h2)
      · obtain rfl := getEl h1
        refine ⟨rfl, ?_, cs, hcs, ?_⟩
        · intro s hs
          obtain ⟨v, _, rfl⟩ := List.mem_map.1 hs
          trivial
        · have : segCells ((E.enc (xs.getD i E.dflt)).map Seg.c) = E.enc (xs.getD i E.dflt) := by
            rw [segCells, List.flatMap_map]; simp [Seg.cells]
          rw [this]
          exact denL_mono [e1] _ _ (to0 (hE _) hcd)
    · intro j k x y c d hjk h1 h2 h3 h4 z hz1 hz2
      rcases getS rfl h3 with ⟨hj, h3⟩ | ⟨rfl, rfl⟩ <;> rcases getS rfl h4 with ⟨hk', h4⟩ | ⟨rfl, rfl⟩
      · exact hr0.apart j k x y c d hjk (getE0 hj h1) (getE0 hk' h2) h3 h4 z hz1 hz2
      · obtain rfl := getEl h2
        simp only [Blk.supp, e1, List.mem_singleton] at hz2; subst hz2
        exact hr.apart j S.length x e c _ hjk (getE hj h1) he (by rw [List.getElem?_append_left hj]; exact h3) hm _ hz1 (List.mem_of_getElem? hb)
      · obtain rfl := getEl h1
        simp only [Blk.foot, e1, List.mem_singleton] at hz1; subst hz1
        exact hr.apart S.length k e y _ d hjk he (getE hk' h2) hm (by rw [List.getElem?_append_left hk']; exact h4) _ (List.mem_of_getElem? hb) hz2
      · exact hjk rfl
    · intro j x c h1 h2 z hz
      rcases getS rfl h2 with ⟨hj, h2⟩ | ⟨rfl, rfl⟩
      · exact hr0.low j x c (getE0 hj h1) h2 z hz
      · obtain rfl := getEl h1
        simp only [Blk.supp, e1, List.mem_singleton] at hz; subst hz
        exact hblow hb
  have hg1 : GlOk c.gl (env0 ++ [e1]) := by
    intro p hp
    obtain ⟨x, h1, h2⟩ := hg p hp
    exact ⟨x, getE (hgl p hp) h1, h2⟩
  have hd1 : DenL (env0 ++ [e1]) (.ptr S.length 0 :: A) (.pointer (some ⟨b, 0, none⟩) :: vs') := by
    refine ⟨_, _, rfl, ⟨e1, he1, rfl⟩, denL_mono [e1] _ _ (to0 hA hvs)⟩
  refine (hC _ w _ hg1 hr1 hd1).mono ?_
  rintro en w' ⟨env', v, rfl, hx, hr', hv⟩
  obtain ⟨m, hmm⟩ := hx.more
  have hm0 : m = [] := by
    have h1 := hr'.len
    rw [hmm] at h1
    simp only [List.length_append, List.length_cons, List.length_nil] at h1
    exact List.eq_nil_of_length_eq_zero (by omega)
  subst hm0
  rw [List.append_nil] at hmm
  subst hmm
  have hmem : ∀ {z : Nat}, z ∈ e.fam → ∃ j, e.fam[j]? = some z := fun h => by
    obtain ⟨j, hj, h⟩ := List.mem_iff_getElem.1 h; exact ⟨j, by rw [List.getElem?_eq_getElem hj, h]⟩
  have inF : ∀ {x : Nat}, inFoot (env0 ++ [e1]) (S ++ [.own ((E.enc (xs.getD i E.dflt)).map .c) T]) x → (∃ j y c, j < S.length ∧ (env0 ++ [e])[j]? = some y ∧ S[j]? = some c ∧ x ∈ c.foot y) ∨ x = b := by
    rintro x ⟨j, y, c, h1, h2, h3⟩
    rcases getS rfl h2 with ⟨hj, h2⟩ | ⟨rfl, rfl⟩
    · exact .inl ⟨j, y, c, hj, getE hj h1, h2, h3⟩
    · obtain rfl := getEl h1
      exact .inr (by simpa [Blk.foot, e1] using h3)
  have inF2 : ∀ {x : Nat}, inFoot (env0 ++ [e1]) (S ++ [.own ((E.enc (xs.getD i E.dflt)).map .c) T]) x → inFoot (env0 ++ [e]) (S ++ [.many E xs T]) x := by
    intro x hx
    rcases inF hx with ⟨j, y, c, hj, h1, h2, h3⟩ | rfl
    · exact ⟨j, y, c, h1, by rw [List.getElem?_append_left hj]; exact h2, h3⟩
    · exact ⟨S.length, e, _, he, hm, List.mem_of_getElem? hb⟩
  -- a member that is not the one
  have other : ∀ {j z : Nat}, e.fam[j]? = some z → j ≠ i → ¬ inFoot (env0 ++ [e1]) (S ++ [.own ((E.enc (xs.getD i E.dflt)).map .c) T]) z := by
    intro j z hz hj hin
    rcases inF hin with ⟨k, y, c, hk', h1, h2, h3⟩ | rfl
    · exact hr.apart k S.length y e c _ (by omega) h1 he (by rw [List.getElem?_append_left hk']; exact h2) hm z h3 (List.mem_of_getElem? hz)
    · exact hj (nodup_same hf2 hz hb)
  have hsub' := rep_sub hr' (nodup_range S.length) (st' := S') (by rw [renSt_pre (by intro i hi; rw [hk]; simpa using hi)]; exact hS')
  rw [htake] at hsub'
  obtain ⟨hr0', _⟩ := hsub'
  have hv0 : Den env0 s v := by
    have := ren_den (m := List.range S.length) s v hv
    rwa [htake, hs] at this
  have hS'l : S'.length = S.length := hk
  obtain ⟨_, _, cs', hcs', hcd'⟩ := hr'.holds S.length e1 (.own ((E.enc x').map .c) T) he1 (by rw [← hS'l]; simp)
  have hcd' : DenL env0 (E.enc x') cs' := by
    have : segCells ((E.enc x').map Seg.c) = E.enc x' := by
      rw [segCells, List.flatMap_map]; simp [Seg.cells]
    rw [this] at hcd'
    exact to0 (hE _) hcd'
  refine ⟨env0 ++ [e], v, rfl, ⟨⟨[], by simp⟩, hx.size, fun x h1 h2 => hx.keep x h1 fun h => h2 (inF2 h), ?_, hx.calm⟩, ⟨?_, ?_, ?_, ?_⟩, den_mono [e] _ _ hv0⟩
  · rintro x h1 ⟨j, y, c, h2, h3, h4⟩
    rcases getS hS'l h3 with ⟨hj, h3⟩ | ⟨rfl, rfl⟩
    · exact inF2 (hx.foot x h1 ⟨j, y, c, getE hj h2, by rw [List.getElem?_append_left (by omega)]; exact h3, h4⟩)
    · obtain rfl := getEl h2
      exact ⟨S.length, _, _, he, hm, h4⟩
  · simp [hl0, hk]
  · intro j y c h1 h2
    rcases getS hS'l h2 with ⟨hj, h2⟩ | ⟨rfl, rfl⟩
    · exact Blk.holds_mono _ (hr0'.holds j y c (getE0 hj h1) h2)
    · obtain rfl := getEl h1
      refine ⟨by simpa using hf1, hf2, fun j z hz => ?_⟩
      by_cases hj : j = i
      · subst hj
        rw [hb] at hz
        simp only [Option.some.injEq] at hz; subst hz
        refine ⟨cs', hcs', ?_⟩
        rw [getD_set_self hi]
        exact denL_mono _ _ _ hcd'
      · obtain ⟨us, h3, h4⟩ := hf3 j z hz
        refine ⟨us, ?_, ?_⟩
        · rw [hx.keep z (hblow hz) (other hz hj)]; exact h3
        · rw [getD_set_ne (fun h => hj h.symm)]; exact h4
  · intro j k y z c d hjk h1 h2 h3 h4 x hx1 hx2
    rcases getS hS'l h3 with ⟨hj, g3⟩ | ⟨rfl, rfl⟩ <;> rcases getS hS'l h4 with ⟨hk', g4⟩ | ⟨rfl, rfl⟩
    · exact hr0'.apart j k y z c d hjk (getE0 hj h1) (getE0 hk' h2) g3 g4 x hx1 hx2
    · obtain rfl := getEl h2
      obtain ⟨q, hq⟩ := hmem hx2
      have hin := hx.foot x (hblow hq) ⟨j, y, c, getE hj h1, by rw [List.getElem?_append_left (by omega)]; exact g3, hx1⟩
      by_cases hqi : q = i
      · subst hqi
        rw [hb] at hq
        simp only [Option.some.injEq] at hq; subst hq
        exact hr'.apart j S.length y e1 c (.own ((E.enc x').map .c) T) (by omega) (getE hj h1) he1 (by rw [List.getElem?_append_left (by omega)]; exact g3) (by rw [← hS'l]; simp) _ hx1 (by simp [Blk.supp, e1])
      · exact other hq hqi hin
    · obtain rfl := getEl h1
      obtain ⟨q, hq⟩ := hmem hx1
      by_cases hqi : q = i
      · subst hqi
        rw [hb] at hq
        simp only [Option.some.injEq] at hq; subst hq
        exact hr'.apart S.length k e1 z (.own ((E.enc x').map .c) T) d (by omega) he1 (getE hk' h2) (by rw [← hS'l]; simp) (by rw [List.getElem?_append_left (by omega)]; exact g4) _ (by simp [Blk.foot, e1]) hx2
      · rcases hro k d g4 with hp | hp
        · exact other hq hqi (hx.foot x (hblow hq) ⟨k, z, d, getE hk' h2, by rw [List.getElem?_append_left (by omega)]; exact g4, hp z x hx2⟩)
        · exact hr.apart S.length k _ z _ d (by omega) he h2 hm (by rw [List.getElem?_append_left hk']; exact hp) x hx1 hx2
    · exact hjk rfl
  · intro j y c h1 h2 x hx1
    rcases getS hS'l h2 with ⟨hj, h2⟩ | ⟨rfl, rfl⟩
    · exact hr0'.low j y c (getE0 hj h1) h2 x hx1
    · obtain rfl := getEl h1
      obtain ⟨q, hq⟩ := hmem hx1
      exact Nat.lt_of_lt_of_le (hblow hq) hx.size
end Go.Proofs.YtmknmbacecjfmaaDoor.Sx

/- What a call comes to, without what it left behind; summaries on a state's first blocks. -/
namespace Go.Proofs.YtmknmbacecjfmaaDoor.Sx
set_option linter.unusedVariables false
theorem drop_ends {env : Env} {S S' X : St} {w w' : World} {s : SVal} {e : Ending} (hk : S'.length = S.length) (hS' : renSt (List.range S.length) S' (List.range S.length) = some S') (hs : ren (List.range S.length) s = s) (hl : env.length = S.length)
    (h : Ends1 env S w s (S' ++ X) e w') : Ends1 env S w s S' e w' := by
  obtain ⟨env', v, rfl, hx, hr, hv⟩ := h
  obtain ⟨m, rfl⟩ := hx.more
  have hsub := rep_sub hr (nodup_range S.length) (st' := S') (by rw [renSt_pre (by intro i hi; rw [hk]; simpa using hi)]; exact hS')
  have ht : subEnv (env ++ m) (List.range S.length) = env := by
    rw [subEnv_range _ (by simp; omega), ← hl]; simp
  rw [ht] at hsub
  have hv' := ren_den (m := List.range S.length) s v hv
  rw [ht, hs] at hv'
  exact ⟨env, v, rfl, ⟨⟨[], by simp⟩, hx.size, hx.keep, fun x h1 h2 => hx.foot x h1 (hsub.2 x h2), hx.calm⟩, hsub.1, hv'⟩
/-- a call that is walked whole, along all ways to one end -/
theorem ends_all {c : Cfg} (hsm : SmOk c) {n : Nat} {f : FuncId} {args : List SVal} {S : St} {t : T (SVal × St)} (ht : callF c n f args S = t) (hcal : callable c.P f = true) {s : SVal} {S' : St}
    (hk : S'.length = S.length) (hS' : renSt (List.range S.length) S' (List.range S.length) = some S') (hs : ren (List.range S.length) s = s) (h : All (fun r => ∃ X, r = (s, S' ++ X)) t) :
    ∀ (env : Env) (w : World) (vs : List Value), GlOk c.gl env → Rep env S w → DenL env args vs → Calls c.P f ⟨vs⟩ w (Ends1 env S w s S') := by
  intro env w vs hg hr hd
  obtain ⟨r, h1, X, rfl⟩ := T.all_at h.h
  rw [← ht] at h1
  refine (callF_ok hsm n f args S s (S' ++ X) env w vs h1 hcal hg hr hd).mono ?_
  intro e w' he
  exact drop_ends hk hS' hs hr.len he
/-- what a summary on a state's first blocks is to be -/
structure PreOk (c : Cfg) (k : Nat) (f : FuncId) (args : List SVal) (S : St) (s : SVal) (S' : St) : Prop where
  call : ∀ (env : Env) (w : World) (vs : List Value), GlOk c.gl env → Rep env S w → DenL env args vs → Calls c.P f ⟨vs⟩ w (Ends1 env S w s S')
  len : S.length = k
  len' : S'.length = k
  ro : roSame S S'
  ren : renSt (List.range k) S (List.range k) = some S
  args : renL (List.range k) args = args
def smPre (k : Nat) (g : List SVal → St → T (SVal × St)) : List SVal → St → T (SVal × St) := fun args st =>
  (g args (st.take k)).bind fun r => .ret (r.1, r.2 ++ st.drop k)
theorem smPre_ok {c : Cfg} {k : Nat} {f : FuncId} {g : List SVal → St → T (SVal × St)} (hgl : ∀ p ∈ c.gl, p.2 < k) (hC : ∀ args S s S', (g args S).at (s, S') → PreOk c k f args S s S')
    (args : List SVal) (st : St) (s : SVal) (st' : St) (env : Env) (w : World) (vs : List Value) (hat : (smPre k g args st).at (s, st')) (hg : GlOk c.gl env) (hr : Rep env st w) (hd : DenL env args vs) :
    Calls c.P f ⟨vs⟩ w fun e w' => ∃ env' v, e = .returned v ∧ Ext env st w env' st' w' ∧ Rep env' st' w' ∧ Den env' s v := by
  unfold smPre at hat
  rw [T.at_bind] at hat
  obtain ⟨⟨s1, S1⟩, h1, h2⟩ := hat
  simp only [T.at, Prod.mk.injEq] at h2
  obtain ⟨rfl, rfl⟩ := h2
  have hp := hC _ _ _ _ h1
  have hkl : (st.take k).length = k := hp.len
  have hsplit : st.take k ++ st.drop k = st := List.take_append_drop _ _
  have := frame (c := c) (f := f) (A := args) (S := st.take k) (S' := S1) (s := s1) hp.call (st.drop k) (by rw [hp.len', hkl]) (by rw [hkl]; exact hp.args) (by rw [hkl]; exact hgl) (by rw [hkl]; exact hp.ren) hp.ro env w vs hg (by rw [hsplit]; exact hr) hd
  rw [hsplit] at this
  exact this
/-- the words of a row of numbers -/
def wordsOf : Blk → Option (Nat × List Int)
  | .own [.a (X := X) E n xs] _ => match X, E.tag, xs with
    | _, .int _, l => some (n, l)
    | _, _, _ => none
  | _ => none
/-! ## letters in the place of literals -/
mutual
def gen : SVal → SVal
  | .lit k n => .int k n
  | .bl b => .sb b
  | .sl l => .str ⟨l.toArray⟩
  | .sli id o sz len cp => .sli id (.v o.val) sz (.v len.val) (cp.map fun n => .v n.val)
  | .ifc t v => .ifc t (gen v)
  | .agg l => .agg (genL l)
  | .tup l => .tup (genL l)
  | s => s
def genL : List SVal → List SVal
  | [] => []
  | s :: l => gen s :: genL l
end
theorem sliCap_gen {e : Slot} {o : NN} {cp : Option NN} : sliCap e (.v o.val) (cp.map fun n => .v n.val) = sliCap e o cp := by
  cases cp <;> rfl
mutual
theorem den_gen {env : Env} : ∀ (s : SVal) (v : Value), Den env (gen s) v ↔ Den env s v
  | .lit k n, v => by simp only [gen, Den]
  | .bl b, v => by simp only [gen, Den]
  | .sl l, v => by simp only [gen, Den]
  | .sli id o sz len cp, v => by
    simp only [gen, Den]
    constructor
    · rintro ⟨e, a, h1, h2, h3, h4⟩
      rw [sliCap_gen] at h2 h3 h4
      exact ⟨e, a, h1, h2, h3, h4⟩
    · rintro ⟨e, a, h1, h2, h3, h4⟩
      refine ⟨e, a, h1, ?_, ?_, ?_⟩ <;> rw [sliCap_gen]
      · exact h2
      · exact h3
      · exact h4
  | .ifc t s, v => by simp only [gen, Den, den_gen s]
  | .agg l, v => by simp only [gen, Den, denL_gen l]
  | .tup l, v => by simp only [gen, Den, denL_gen l]
  | .int k x, v => Iff.rfl
  | .sb b, v => Iff.rfl
  | .str s, v => Iff.rfl
  | .pnil, v => Iff.rfl
  | .ptr id o, v => Iff.rfl
  | .pti id o i sz j, v => Iff.rfl
  | .pto id i j, v => Iff.rfl
  | .ptw id i j, v => Iff.rfl
  | .slr id i j, v => Iff.rfl
  | .sw b x y, v => Iff.rfl
  | .snil, v => Iff.rfl
  | .inil, v => Iff.rfl
  | .fn f a b, v => Iff.rfl
  | .fnil, v => Iff.rfl
  | .raw u, v => Iff.rfl
  | .bad, v => Iff.rfl
theorem denL_gen {env : Env} : ∀ (l : List SVal) (vs : List Value), DenL env (genL l) vs ↔ DenL env l vs
  | [], vs => Iff.rfl
  | s :: l, vs => by simp only [genL, DenL, den_gen s, denL_gen l]
end
def genSeg : Seg → Seg
  | .c v => .c (gen v)
  | s => s
def genSegs : List Seg → List Seg
  | [] => []
  | s :: l => genSeg s :: genSegs l
def genB : Blk → Blk
  | .own segs T => .own (genSegs segs) T
  | b => b
def genS : St → St
  | [] => []
  | b :: l => genB b :: genS l
theorem genS_eq : ∀ (st : St), genS st = st.map genB
  | [] => rfl
  | b :: l => by rw [genS, genS_eq l]; rfl
theorem genSegs_cells {env : Env} : ∀ (l : List Seg) (cs : List Value), DenL env (segCells (genSegs l)) cs ↔ DenL env (segCells l) cs
  | [], cs => Iff.rfl
  | s :: l, cs => by
    have hs : ∀ vs, DenL env (genSeg s).cells vs ↔ DenL env s.cells vs := by
      intro vs
      cases s with
      | c v => simp only [genSeg, Seg.cells, DenL, den_gen v]
      | a E n xs => exact Iff.rfl
    have e1 : segCells (genSegs (s :: l)) = (genSeg s).cells ++ segCells (genSegs l) := by simp [segCells, genSegs]
    have e2 : segCells (s :: l) = s.cells ++ segCells l := by simp [segCells]
    rw [e1, e2]
    constructor
    · intro h
      obtain ⟨us, ws, rfl, h1, h2⟩ := denL_split h
      exact denL_append ((hs _).1 h1) ((genSegs_cells l _).1 h2)
    · intro h
      obtain ⟨us, ws, rfl, h1, h2⟩ := denL_split h
      exact denL_append ((hs _).2 h1) ((genSegs_cells l _).2 h2)
theorem genSegs_fits : ∀ (l : List Seg), segFits (genSegs l) ↔ segFits l
  | [] => Iff.rfl
  | s :: l => by
    have h1 : ∀ {a : Seg} {m : List Seg}, segFits (a :: m) ↔ a.fits ∧ segFits m := by intro a m; simp [segFits]
    rw [genSegs, h1, h1, genSegs_fits l]
    cases s <;> simp [genSeg, Seg.fits]
theorem genB_holds {env : Env} {e : Slot} {w : World} {b : Blk} : (genB b).holds env e w ↔ b.holds env e w := by
  cases b with
  | own segs T =>
    simp only [genB, Blk.holds, genSegs_fits]
    constructor
    · rintro ⟨h1, h2, cs, h3, h4⟩; exact ⟨h1, h2, cs, h3, (genSegs_cells _ _).1 h4⟩
    · rintro ⟨h1, h2, cs, h3, h4⟩; exact ⟨h1, h2, cs, h3, (genSegs_cells _ _).2 h4⟩
  | _ => exact Iff.rfl
theorem genB_foot {e : Slot} {b : Blk} : (genB b).foot e = b.foot e := by cases b <;> rfl
theorem genB_supp {e : Slot} {b : Blk} : (genB b).supp e = b.supp e := by cases b <;> rfl
theorem genS_get {st : St} {i : Nat} : (genS st)[i]? = (st[i]?).map genB := by rw [genS_eq, List.getElem?_map]
theorem rep_genS {env : Env} {st : St} {w : World} : Rep env (genS st) w ↔ Rep env st w := by
  have g : ∀ {i : Nat} {b : Blk}, st[i]? = some b → (genS st)[i]? = some (genB b) := fun h => by rw [genS_get, h]; rfl
  have g' : ∀ {i : Nat} {b : Blk}, (genS st)[i]? = some b → ∃ c, st[i]? = some c ∧ b = genB c := fun {i b} h => by
    rw [genS_get] at h
    obtain ⟨c, h1, h2⟩ := Option.map_eq_some_iff.1 h
    exact ⟨c, h1, h2.symm⟩
  constructor
  · intro h
    refine ⟨by rw [h.len, genS_eq, List.length_map], fun i e b he hb => genB_holds.1 (h.holds i e _ he (g hb)), fun i j e f b c hij he hf hb hc x h1 h2 => ?_, fun i e b he hb x hx => h.low i e _ he (g hb) x (by rwa [genB_supp])⟩
    exact h.apart i j e f _ _ hij he hf (g hb) (g hc) x (by rwa [genB_foot]) (by rwa [genB_supp])
  · intro h
    refine ⟨by rw [h.len, genS_eq, List.length_map], fun i e b he hb => ?_, fun i j e f b c hij he hf hb hc x h1 h2 => ?_, fun i e b he hb x hx => ?_⟩
    · obtain ⟨b', h1, rfl⟩ := g' hb
      exact genB_holds.2 (h.holds i e _ he h1)
    · obtain ⟨b', k1, rfl⟩ := g' hb
      obtain ⟨c', k2, rfl⟩ := g' hc
      rw [genB_foot] at h1; rw [genB_supp] at h2
      exact h.apart i j e f _ _ hij he hf k1 k2 x h1 h2
    · obtain ⟨b', h1, rfl⟩ := g' hb
      rw [genB_supp] at hx
      exact h.low i e _ he h1 x hx
/-- other words for the same state -/
theorem rep_gen {env : Env} {st st' : St} {w : World} (h : genS st = genS st') (hr : Rep env st w) : Rep env st' w := rep_genS.1 (h ▸ rep_genS.2 hr)
theorem foot_gen {env : Env} {st st' : St} (h : genS st = genS st') (x : Nat) (hx : inFoot env st x) : inFoot env st' x := by
  obtain ⟨i, e, b, h1, h2, h3⟩ := hx
  have : (genS st')[i]? = some (genB b) := by rw [← h, genS_get, h2]; rfl
  rw [genS_get] at this
  obtain ⟨c, h4, h5⟩ := Option.map_eq_some_iff.1 this
  exact ⟨i, e, c, h1, h4, by rw [← genB_foot, h5, genB_foot]; exact h3⟩
theorem den_gen2 {env : Env} {s s' : SVal} {v : Value} (h : gen s = gen s') (hd : Den env s v) : Den env s' v := (den_gen s' v).1 (h ▸ (den_gen s v).2 hd)
theorem denL_gen2 {env : Env} {s s' : List SVal} {v : List Value} (h : genL s = genL s') (hd : DenL env s v) : DenL env s' v := (denL_gen s' v).1 (h ▸ (denL_gen s v).2 hd)
theorem ends_gen {env : Env} {S S1 S0 S' : St} {s0 s : SVal} {w : World} {e : Ending} {w' : World} (h0 : genS S1 = genS S) (h1 : gen s0 = gen s) (h2 : genS S0 = genS S') (h : Ends1 env S1 w s0 S0 e w') : Ends1 env S w s S' e w' := by
  obtain ⟨env', v, rfl, hx, hr, hv⟩ := h
  exact ⟨env', v, rfl, ⟨hx.more, hx.size, fun x k1 k2 => hx.keep x k1 fun k3 => k2 (foot_gen h0 x k3), fun x k1 k2 => foot_gen h0 x (hx.foot x k1 (foot_gen h2.symm x k2)), hx.calm⟩, rep_gen h2 hr, den_gen2 h1 hv⟩
/-- a call in other words -/
theorem calls_gen {c : Cfg} {f : FuncId} {A A1 : List SVal} {S S1 S0 S' : St} {s0 s : SVal} (hA : genL A = genL A1) (h0 : genS S = genS S1) (h1 : gen s0 = gen s) (h2 : genS S0 = genS S')
    (h : ∀ (env : Env) (w : World) (vs : List Value), GlOk c.gl env → Rep env S1 w → DenL env A1 vs → Calls c.P f ⟨vs⟩ w (Ends1 env S1 w s0 S0)) :
    ∀ (env : Env) (w : World) (vs : List Value), GlOk c.gl env → Rep env S w → DenL env A vs → Calls c.P f ⟨vs⟩ w (Ends1 env S w s S') := by
  intro env w vs hg hr hd
  exact (h env w vs hg (rep_gen h0 hr) (denL_gen2 hA hd)).mono fun e w' he => ends_gen h0.symm h1 h2 he
/-- a call that is walked whole, along all ways to one end, in other words -/
theorem ends_allg {c : Cfg} (hsm : SmOk c) {n : Nat} {f : FuncId} {args : List SVal} {S : St} {t : T (SVal × St)} (ht : callF c n f args S = t) (hcal : callable c.P f = true) {s : SVal} {S' : St}
    (hk : S'.length = S.length) (hS' : renSt (List.range S.length) S' (List.range S.length) = some S') (hs : ren (List.range S.length) s = s) (h : All (fun r => ∃ X, gen r.1 = gen s ∧ genS r.2 = genS (S' ++ X)) t) :
    ∀ (env : Env) (w : World) (vs : List Value), GlOk c.gl env → Rep env S w → DenL env args vs → Calls c.P f ⟨vs⟩ w (Ends1 env S w s S') := by
  intro env w vs hg hr hd
  obtain ⟨⟨s1, st1⟩, h1, X, h2, h3⟩ := T.all_at h.h
  rw [← ht] at h1
  refine (callF_ok hsm n f args S s1 st1 env w vs h1 hcal hg hr hd).mono ?_
  intro e w' he
  exact drop_ends hk hS' hs hr.len (ends_gen rfl h2 h3 he)
end Go.Proofs.YtmknmbacecjfmaaDoor.Sx

/- An object joins a family that keeps its name; blocks under other names. -/
namespace Go.Proofs.YtmknmbacecjfmaaDoor.Sx
set_option linter.unusedVariables false
/-- the same slots, families longer -/
def FamLe (env env' : Env) : Prop := ∀ (i : Nat) (e : Slot), env[i]? = some e → ∃ e', env'[i]? = some e' ∧ e'.blk = e.blk ∧ e'.off = e.off ∧ e'.cap = e.cap ∧ ∀ j b : Nat, e.fam[j]? = some b → e'.fam[j]? = some b
mutual
theorem den_fam {env env' : Env} (hf : FamLe env env') : ∀ (s : SVal) (v : Value), Den env s v → Den env' s v
  | .lit k n, v, h => by simpa only [Den] using h
  | .int k x, v, h => by simpa only [Den] using h
  | .bl b, v, h => by simpa only [Den] using h
  | .sb b, v, h => by simpa only [Den] using h
  | .sl l, v, h => by simpa only [Den] using h
  | .str s, v, h => by simpa only [Den] using h
  | .pnil, v, h => by simpa only [Den] using h
  | .ptr id o, v, h => by
    simp only [Den] at h ⊢
    obtain ⟨e, h1, rfl⟩ := h
    obtain ⟨e', k1, k2, k3, _, _⟩ := hf id e h1
    exact ⟨e', k1, by rw [k2, k3]⟩
  | .pti id o i sz j, v, h => by
    simp only [Den] at h ⊢
    obtain ⟨e, h1, rfl⟩ := h
    obtain ⟨e', k1, k2, k3, _, _⟩ := hf id e h1
    exact ⟨e', k1, by rw [k2, k3]⟩
  | .pto id i j, v, h => by
    simp only [Den] at h ⊢
    obtain ⟨e, b, h1, h2, rfl⟩ := h
    obtain ⟨e', k1, _, _, _, k5⟩ := hf id e h1
    exact ⟨e', b, k1, k5 i b h2, rfl⟩
  | .ptw id i j, v, h => by
    simp only [Den] at h ⊢
    obtain ⟨e, b, o, h1, h2, h3, rfl⟩ := h
    obtain ⟨e', k1, _, _, _, k5⟩ := hf id e h1
    exact ⟨e', b, o, k1, k5 _ b h2, k5 _ o h3, rfl⟩
  | .slr id i n, v, h => by
    simp only [Den] at h ⊢
    obtain ⟨e, a, cp, h1, h2, h3, h4⟩ := h
    obtain ⟨e', k1, _, _, _, k5⟩ := hf id e h1
    refine ⟨e', a, cp, k1, h2, h3, fun hn => ?_⟩
    obtain ⟨b, o, h5, h6, h7⟩ := h4 hn
    exact ⟨b, o, k5 _ b h5, k5 _ o h6, h7⟩
  | .sw b x y, v, h => by
    simp only [Den] at h ⊢
    rcases h with ⟨h1, h2⟩ | ⟨h1, h2⟩
    · exact .inl ⟨h1, den_fam hf x v h2⟩
    · exact .inr ⟨h1, den_fam hf y v h2⟩
  | .snil, v, h => by simpa only [Den] using h
  | .sli id o sz len cp, v, h => by
    simp only [Den] at h ⊢
    obtain ⟨e, a, h1, h2, h3, h4⟩ := h
    obtain ⟨e', k1, k2, k3, k4, _⟩ := hf id e h1
    have hc : sliCap e' o cp = sliCap e o cp := by cases cp <;> simp [sliCap, k4]
    exact ⟨e', a, k1, by rw [hc]; exact h2, by rw [hc]; exact h3, by rw [hc, k2, k3]; exact h4⟩
  | .ifc t s, v, h => by
    simp only [Den] at h ⊢
    obtain ⟨u, h1, h2⟩ := h
    exact ⟨u, h1, den_fam hf s u h2⟩
  | .inil, v, h => by simpa only [Den] using h
  | .fn f a b, v, h => by
    simp only [Den] at h ⊢
    obtain ⟨us, cs, h1, h2, h3⟩ := h
    exact ⟨us, cs, h1, denL_fam hf a us h2, denL_fam hf b cs h3⟩
  | .fnil, v, h => by simpa only [Den] using h
  | .agg l, v, h => by
    simp only [Den] at h ⊢
    obtain ⟨vs, h1, h2⟩ := h
    exact ⟨vs, h1, denL_fam hf l vs h2⟩
  | .tup l, v, h => by
    simp only [Den] at h ⊢
    obtain ⟨vs, h1, h2⟩ := h
    exact ⟨vs, h1, denL_fam hf l vs h2⟩
  | .raw u, v, h => by simpa only [Den] using h
  | .bad, v, h => by simp only [Den]
theorem denL_fam {env env' : Env} (hf : FamLe env env') : ∀ (l : List SVal) (vs : List Value), DenL env l vs → DenL env' l vs
  | [], vs, h => by simpa only [DenL] using h
  | s :: l, vs, h => by
    simp only [DenL] at h ⊢
    obtain ⟨u, us, rfl, h1, h2⟩ := h
    exact ⟨u, us, rfl, den_fam hf s u h1, denL_fam hf l us h2⟩
end
theorem holds_env {env env' : Env} {e : Slot} {w : World} {b : Blk} (hd : ∀ l vs, DenL env l vs → DenL env' l vs) (h : b.holds env e w) : b.holds env' e w := by
  cases b with
  | own segs T => obtain ⟨h1, h2, cs, h3, h4⟩ := h; exact ⟨h1, h2, cs, h3, hd _ _ h4⟩
  | vec E xs T =>
    obtain ⟨h1, h2, h3⟩ := h
    refine ⟨h1, h2, fun hc => ?_⟩
    obtain ⟨cs, junk, k1, k2, k3⟩ := h3 hc
    exact ⟨cs, junk, k1, hd _ _ k2, k3⟩
  | ro E xs => obtain ⟨cs, h1, h2⟩ := h; exact ⟨cs, hd _ _ h1, h2⟩
  | many E xs T =>
    obtain ⟨h1, h2, h3⟩ := h
    refine ⟨h1, h2, fun i b hb => ?_⟩
    obtain ⟨cs, k1, k2⟩ := h3 i b hb
    exact ⟨cs, k1, hd _ _ k2⟩
  | rows ow k xss => exact h
  | gone => exact h
/-- a new object joins a family -/
theorem At.join {gl : List (Nat × Nat)} {w0 : From} {env : Env} {ts : List SVal} {st : St} {a : Act} {w : World} (h : At gl w0 env ts st a w) (f o : Nat) (hne : f ≠ o) {X : Type} {E : Enc X} {xs : List X} {T : TypeId} {segs : List Seg}
    (hf : st[f]? = some (.many E xs T)) (ho : st[o]? = some (.own segs T)) (x : X) (hd : ∀ env cs, DenL env (segCells segs) cs → DenL env (E.enc x) cs) :
    ∃ env', At gl w0 env' ts ((st.set f (.many E (xs ++ [x]) T)).set o .gone) a w ∧ (∀ v j, Den env (.ptr o j) v → Den env' (.pto f xs.length j) v) ∧ (∀ s v, Den env s v → Den env' s v) ∧ ∀ k, k ≤ f → env'.take k = env.take k := by
  have hl := h.rep.len
  have hfl : f < env.length := by rw [hl]; exact (List.getElem?_eq_some_iff.1 hf).1
  have hol : o < env.length := by rw [hl]; exact (List.getElem?_eq_some_iff.1 ho).1
  have hef : env[f]? = some env[f] := by simp [hfl]
  have heo : env[o]? = some env[o] := by simp [hol]
  obtain ⟨f0, f1, f2⟩ := h.rep.holds f _ _ hef hf
  obtain ⟨o0, o1, cs, o2, o3⟩ := h.rep.holds o _ _ heo ho
  generalize hE : env[f] = ef at *
  generalize hO : env[o] = eo at *
  have hnin : eo.blk ∉ ef.fam := fun hin => h.rep.apart f o ef eo _ _ hne hef heo hf ho eo.blk hin (by simp [Blk.supp])
  let e : Slot := ⟨ef.blk, ef.off, ef.cap, ef.fam ++ [eo.blk]⟩
  have hle : FamLe env (env.set f e) := by
    intro i g hg
    by_cases hi : i = f
    · subst hi
      rw [hef] at hg
      simp only [Option.some.injEq] at hg; subst hg
      exact ⟨e, by rw [List.getElem?_set_self hfl], rfl, rfl, rfl, fun j b hb => getElem?_append_some hb⟩
    · exact ⟨g, by rw [List.getElem?_set_ne (fun h => hi h.symm)]; exact hg, rfl, rfl, rfl, fun _ _ h => h⟩
  have hdl := fun l vs hh => denL_fam hle l vs hh
  have hset : (env.set f e)[f]? = some e := by rw [List.getElem?_set_self hfl]
  have live : ∀ {id : Nat} {g : Slot} {c : Blk}, (env.set f e)[id]? = some g → ((st.set f (.many E (xs ++ [x]) T)).set o .gone)[id]? = some c → (id = o ∧ c = .gone) ∨ (id = f ∧ g = e ∧ c = .many E (xs ++ [x]) T) ∨ (id ≠ f ∧ id ≠ o ∧ env[id]? = some g ∧ st[id]? = some c) := by
    intro id g c hg hc
    rcases set_get hc with ⟨h1, rfl⟩ | ⟨h1, hc⟩
    · exact .inl ⟨h1, rfl⟩
    · rcases set_get hc with ⟨h2, rfl⟩ | ⟨h2, hc⟩
      · subst h2
        rw [hset] at hg
        simp only [Option.some.injEq] at hg
        exact .inr (.inl ⟨rfl, hg.symm, rfl⟩)
      · rw [List.getElem?_set_ne (fun h => h2 h.symm)] at hg
        exact .inr (.inr ⟨h2, h1, hg, hc⟩)
  have inN : ∀ {y : Nat}, y ∈ e.fam → y ∈ ef.fam ∨ y = eo.blk := by
    intro y hy; simpa [e] using hy
  have hrep : Rep (env.set f e) ((st.set f (.many E (xs ++ [x]) T)).set o .gone) w := by
    refine ⟨by simp [hl], ?_, ?_, ?_⟩
    · intro id g c hg hc
      rcases live hg hc with ⟨_, rfl⟩ | ⟨rfl, rfl, rfl⟩ | ⟨h1, h2, hg, hc⟩
      · trivial
      · refine ⟨by simp [e, f0], ?_, fun i b hb => ?_⟩
        · simp only [e]
          rw [List.nodup_append]
          refine ⟨f1, by simp, fun p hp q hq => ?_⟩
          simp only [List.mem_singleton] at hq
          subst hq
          intro hpq; subst hpq; exact hnin hp
        · simp only [e] at hb
          rcases Nat.lt_or_ge i ef.fam.length with hi | hi
          · rw [List.getElem?_append_left hi] at hb
            obtain ⟨cs', h3, h4⟩ := f2 i b hb
            exact ⟨cs', h3, by rw [getD_append_left (by omega)]; exact hdl _ _ h4⟩
          · rw [List.getElem?_append_right hi] at hb
            have hi' : i = xs.length := by
              match hk : i - ef.fam.length, hb with
              | 0, _ => omega
              | k + 1, hb => simp at hb
            subst hi'
            simp only [f0, Nat.sub_self, List.getElem?_cons_zero, Option.some.injEq] at hb
            subst hb
            exact ⟨cs, o2, by rw [getD_append_len]; exact hd _ _ (hdl _ _ o3)⟩
      · exact holds_env hdl (h.rep.holds id g c hg hc)
    · intro i j g k b c hij hg hk hb hc y hy1 hy2
      rcases live hg hb with ⟨_, rfl⟩ | ⟨rfl, rfl, rfl⟩ | ⟨h1, h2, hg', hb'⟩
      · simp [Blk.foot] at hy1
      · rcases live hk hc with ⟨_, rfl⟩ | ⟨rfl, rfl, rfl⟩ | ⟨h3, h4, hk', hc'⟩
        · simp [Blk.supp] at hy2
        · exact hij rfl
        · rcases inN hy1 with h5 | rfl
          · exact h.rep.apart _ j ef k _ c hij hef hk' hf hc' y h5 hy2
          · exact h.rep.apart o j eo k _ c (fun e => h4 e.symm) heo hk' ho hc' _ (by simp [Blk.foot]) hy2
      · rcases live hk hc with ⟨_, rfl⟩ | ⟨rfl, rfl, rfl⟩ | ⟨h3, h4, hk', hc'⟩
        · simp [Blk.supp] at hy2
        · rcases inN hy2 with h5 | rfl
          · exact h.rep.apart i _ g ef b _ hij hg' hef hb' hf y hy1 h5
          · exact h.rep.apart i o g eo b _ h2 hg' heo hb' ho _ hy1 (by simp [Blk.supp])
        · exact h.rep.apart i j g k b c hij hg' hk' hb' hc' y hy1 hy2
    · intro id g c hg hc y hy
      rcases live hg hc with ⟨_, rfl⟩ | ⟨rfl, rfl, rfl⟩ | ⟨h1, h2, hg, hc⟩
      · simp [Blk.supp] at hy
      · rcases inN hy with h5 | rfl
        · exact h.rep.low _ ef _ hef hf y h5
        · exact h.rep.low o eo _ heo ho _ (by simp [Blk.supp])
      · exact h.rep.low id g c hg hc y hy
  refine ⟨env.set f e, ⟨fun p hp => ?_, hrep, ?_, h.fresh.sub ?_, h.defers⟩, ?_, fun s v hv => den_fam hle s v hv, fun k hk => ?_⟩
  · obtain ⟨g, h1, h2, h3⟩ := h.gl p hp
    obtain ⟨g', k1, k2, k3, _⟩ := hle p.2 g h1
    exact ⟨g', k1, by rw [k2, h2], by rw [k3, h3]⟩
  · obtain ⟨us, hu, hdu⟩ := h.den
    exact ⟨us, hu, hdl _ _ hdu⟩
  · rintro y ⟨id, g, c, hg, hc, hy⟩
    rcases live hg hc with ⟨_, rfl⟩ | ⟨rfl, rfl, rfl⟩ | ⟨h1, h2, hg, hc⟩
    · simp [Blk.foot] at hy
    · rcases inN hy with h5 | rfl
      · exact ⟨_, ef, _, hef, hf, h5⟩
      · exact ⟨o, eo, _, heo, ho, by simp [Blk.foot]⟩
    · exact ⟨id, g, c, hg, hc, hy⟩
  · intro v j hv
    simp only [Den] at hv ⊢
    obtain ⟨g, h1, rfl⟩ := hv
    rw [heo] at h1
    cases h1
    exact ⟨e, eo.blk, hset, by simp [e, ← f0], by simp [o0]⟩
  · rw [List.take_set_of_le hk]
/-- the same blocks, in another order of names -/
theorem At.perm {gl : List (Nat × Nat)} {w0 : From} {env : Env} {n : Nat} {names : List Nat} {vals : List SVal} {st : St} {a : Act} {w : World} (h : At gl w0 env (Sx.fr n names vals) st a w) (ids : List Nat) {st' : St} {vals' : List SVal}
    (hn : nodupB ids = true) (hg : glKept ids gl = true) (hst : renSt ids st ids = some st') (hv : renL ids vals = vals') : At gl w0 (subEnv env ids) (Sx.fr n names vals') st' a w := by
  obtain ⟨h1, h2⟩ := rep_sub h.rep hn hst
  refine ⟨glKept_ok hg h.gl, h1, denT_fr h.den fun t v hd => ?_, h.fresh.sub h2, h.defers⟩
  rw [← hv, renL_find]; exact ren_den _ v hd
/-! ## the same for calls that keep their caller's names -/
theorem AtK.void {base : Env} {gl : List (Nat × Nat)} {w0 : From} {env : Env} {n : Nat} {names : List Nat} {vals : List SVal} {st : St} {a : Act} {w : World} (h : AtK base gl w0 env (Sx.fr n names vals) st a w) (i : Nat) {X : Type} (E : Enc X) {T : TypeId} (hb : st[i]? = some (.own [] T)) :
    ∃ env', AtK base gl w0 env' (Sx.fr n names (vals.map (voidV i st.length))) (st.set i .gone ++ [.vec E [] T]) a w := by
  obtain ⟨h, m, rfl⟩ := h
  generalize hE : base ++ m = env at h
  have hi : i < env.length := by rw [h.rep.len]; exact (List.getElem?_eq_some_iff.1 hb).1
  have he : env[i]? = some env[i] := by simp [hi]
  obtain ⟨h0, h1, cs, h2, h3⟩ := h.rep.holds i _ _ he hb
  simp only [segCells, List.flatMap_nil, DenL] at h3
  subst h3
  have hx := rep_move (b' := .vec E [] T) (e' := ⟨env[i].blk, 0, 0, []⟩) h.rep he hb (fun x hx => by simp [Blk.supp] at hx) ⟨rfl, Nat.le_refl _, fun h => absurd h (Nat.lt_irrefl 0)⟩
  refine ⟨_, ⟨h.gl.ext hx.2, hx.1, denT_fr h.den fun t v hd => subV_find (vals := vals) ?_ v hd, h.fresh.ext hx.2, h.defers⟩, m ++ [⟨env[i].blk, 0, 0, []⟩], by rw [← List.append_assoc, hE]⟩
  have one : ∀ s v, Den env s v → Den (env ++ [⟨env[i].blk, 0, 0, []⟩]) (voidV i st.length s) v := by
    intro s v hd
    unfold voidV
    split
    · split
      · rename_i hid
        simp only [Den] at hd ⊢
        obtain ⟨e, A, h5, h6, h8, h9⟩ := hd
        refine ⟨⟨env[i].blk, 0, 0, []⟩, A, ?_, ?_, ?_, ?_⟩
        · rw [← h.rep.len]; simp
        · simpa [sliCap, NN.val] using h6
        · simp [sliCap, NN.val]
        · simp [sliCap, NN.val]
      · exact hx.2.den hd
    · exact hx.2.den hd
  exact subV_map one
theorem AtK.many0 {base : Env} {gl : List (Nat × Nat)} {w0 : From} {env : Env} {ts : List SVal} {st : St} {a : Act} {w : World} (h : AtK base gl w0 env ts st a w) {X : Type} (E : Enc X) (T : TypeId) : AtK base gl w0 (env ++ [⟨0, 0, 0, []⟩]) ts (st ++ [.many E [] T]) a w := by
  obtain ⟨h, m, rfl⟩ := h
  exact ⟨h.many0 E T, m ++ [⟨0, 0, 0, []⟩], by simp⟩
theorem AtK.join {base : Env} {gl : List (Nat × Nat)} {w0 : From} {env : Env} {n : Nat} {names : List Nat} {vals : List SVal} {st : St} {a : Act} {w : World} (h : AtK base gl w0 env (Sx.fr n names vals) st a w) (f o : Nat) (hne : f ≠ o) (hk : base.length ≤ f) {X : Type} {E : Enc X} {xs : List X} {T : TypeId} {segs : List Seg}
    (hf : st[f]? = some (.many E xs T)) (ho : st[o]? = some (.own segs T)) (x : X) (hd : ∀ env cs, DenL env (segCells segs) cs → DenL env (E.enc x) cs) (vals' : List SVal)
    (hv : ∀ env', (∀ v j, Den env (.ptr o j) v → Den env' (.pto f xs.length j) v) → (∀ s v, Den env s v → Den env' s v) → SubV env env' vals vals') :
    ∃ env', AtK base gl w0 env' (Sx.fr n names vals') ((st.set f (.many E (xs ++ [x]) T)).set o .gone) a w := by
  obtain ⟨h, m, rfl⟩ := h
  obtain ⟨env', h1, h2, h3, h4⟩ := h.join f o hne hf ho x hd
  have hb : env'.take base.length = base := by rw [h4 _ hk]; simp
  refine ⟨env', ⟨h1.gl, h1.rep, ?_, h1.fresh, h1.defers⟩, env'.drop base.length, by conv => lhs; rw [← List.take_append_drop base.length env', hb]⟩
  exact denT_fr h.den fun t v hd => subV_find (hv env' h2 h3) v hd
theorem AtK.on {base : Env} {gl : List (Nat × Nat)} {w0 : From} {env : Env} {ts ts' : List SVal} {st st' : St} {a : Act} {w : World} (h : AtK base gl w0 env ts st a w) (h' : At gl w0 env ts st a w → At gl w0 env ts' st' a w) : AtK base gl w0 env ts' st' a w := ⟨h' h.at', h.more⟩
theorem AtK.wide {base : Env} {gl : List (Nat × Nat)} {w0 : From} {env : Env} {ts : List SVal} {st : St} {a : Act} {w : World} (h : AtK base gl w0 env ts st a w) {k : Nat} (hk : k ≤ st.length) : AtK (env.take k) gl w0 env ts st a w ∧ (env.take k).length = k :=
  ⟨⟨h.at', env.drop k, (List.take_append_drop _ _).symm⟩, by rw [List.length_take, h.at'.rep.len]; omega⟩
theorem AtK.narrow {base : Env} {gl : List (Nat × Nat)} {w0 : From} {env env' : Env} {ts : List SVal} {st : St} {a : Act} {w : World} {k : Nat} (hb : ∃ m, env = base ++ m) (hk : base.length ≤ k) (h : AtK (env.take k) gl w0 env' ts st a w) : AtK base gl w0 env' ts st a w := by
  obtain ⟨m, rfl⟩ := hb
  obtain ⟨h, m', rfl⟩ := h
  exact ⟨h, m.take (k - base.length) ++ m', by rw [List.take_append, List.take_of_length_le hk, List.append_assoc]⟩
/-- a piece that keeps more names than its caller's -/
theorem pieceTK2 {c : Cfg} (hsm : SmOk c) {fuel N k : Nat} {code : Code} {ts : List SVal} {st : St} (names : List Nat) {t : T (Ex × List SVal × St)} (ht : (exec c fuel code ts st).bind (canonK k c.gl N names) = t)
    {w0 : From} {base env : Env} (hb : base.length ≤ k) (hk0 : k ≤ st.length) {a : Act} {w : World} (hA : AtK base c.gl w0 env ts st a w) {Q : Exit → Act → World → Prop}
    (hk : All (fun r => ∀ env' a' w', AtK base c.gl w0 env' (Sx.fr N names r.2.1) r.2.2 a' w' → Q r.1.to a' w') t) : code.wp c.P Q a w := by
  obtain ⟨h1, h2⟩ := hA.wide hk0
  refine pieceTK hsm names ht h2 h1 ⟨T.all_weaken (fun r hr env' a' w' h => hr env' a' w' (h.narrow hA.more hb)) hk.h⟩
theorem pieceNTK2 {c : Cfg} (hsm : SmOk c) {fuel N k : Nat} (n : Nat) {code : Code} {ts : List SVal} {st : St} (names : List Nat) {t : T (Ex × List SVal × St)} (ht : (execN c fuel n code ts st).bind (canonK k c.gl N names) = t)
    {w0 : From} {base env : Env} (hb : base.length ≤ k) (hk0 : k ≤ st.length) {a : Act} {w : World} (hA : AtK base c.gl w0 env ts st a w) {Q : Exit → Act → World → Prop}
    (hk : All (fun r => ∀ env' a' w', AtK base c.gl w0 env' (Sx.fr N names r.2.1) r.2.2 a' w' → Exit.then (fun a w => (restC n code).wp c.P Q a w) Q r.1.to a' w') t) : code.wp c.P Q a w := by
  obtain ⟨h1, h2⟩ := hA.wide hk0
  refine pieceNTK hsm n names ht h2 h1 ⟨T.all_weaken (fun r hr env' a' w' h => hr env' a' w' (h.narrow hA.more hb)) hk.h⟩
theorem AtK.perm {base : Env} {gl : List (Nat × Nat)} {w0 : From} {env : Env} {n : Nat} {names : List Nat} {vals : List SVal} {st : St} {a : Act} {w : World} (h : AtK base gl w0 env (Sx.fr n names vals) st a w) (ids : List Nat) {st' : St} {vals' : List SVal}
    (hn : nodupB ids = true) (hg : glKept ids gl = true) (hst : renSt ids st ids = some st') (hv : renL ids vals = vals') (hb : ids.take base.length = List.range base.length) : AtK base gl w0 (subEnv env ids) (Sx.fr n names vals') st' a w := by
  refine ⟨h.at'.perm ids hn hg hst hv, (subEnv env ids).drop base.length, ?_⟩
  obtain ⟨h, m, rfl⟩ := h
  conv => lhs; rw [← List.take_append_drop base.length (subEnv (base ++ m) ids)]
  congr 1
  rw [subEnv, ← List.map_take, hb]
  have := subEnv_range (base ++ m) (k := base.length) (by simp)
  rw [subEnv] at this
  rw [this]; simp
/-! ## pieces that keep some names, of a call that keeps none -/
theorem canonK_ok0 {k : Nat} {gl : List (Nat × Nat)} {N : Nat} {names : List Nat} {r : Res} {e : Ex} {vals : List SVal} {st' : St} (h : (canonK k gl N names r).at (e, vals, st')) {env : Env} {w : World} (hg : GlOk gl env) (hr : Rep env r.2.2 w) {tmps : Array Value} (ht : DenT env r.2.1 tmps) :
    r.1 = e ∧ ∃ env', GlOk gl env' ∧ Rep env' st' w ∧ DenT env' (Sx.fr N names vals) tmps ∧ ∀ x, inFoot env' st' x → inFoot env r.2.2 x := by
  unfold canonK at h
  simp only at h
  split at h
  · rename_i st1 hnd hst
    simp only [Bool.and_eq_true] at hnd
    obtain ⟨⟨⟨hnd, hgk⟩, hN⟩, hpre⟩ := hnd
    have hN := Nat.eq_of_beq_eq_true hN
    simp only [T.at, Prod.mk.injEq] at h
    obtain ⟨rfl, rfl, rfl⟩ := h
    obtain ⟨h1, h2⟩ := rep_sub hr hnd hst
    refine ⟨rfl, _, glKept_ok hgk hg, h1, ?_, h2⟩
    refine denT_fr (denT_pick ht names hN) fun t v hd => ?_
    rw [renL_find]; exact ren_den _ v hd
  · exact h.elim
theorem pieceT0 {c : Cfg} (hsm : SmOk c) {fuel N k : Nat} {code : Code} {ts : List SVal} {st : St} (names : List Nat) {t : T (Ex × List SVal × St)} (ht : (exec c fuel code ts st).bind (canonK k c.gl N names) = t)
    {w0 : From} {env : Env} {a : Act} {w : World} (hA : At c.gl w0 env ts st a w) {Q : Exit → Act → World → Prop}
    (hk : All (fun r => ∀ env' a' w', At c.gl w0 env' (Sx.fr N names r.2.1) r.2.2 a' w' → Q r.1.to a' w') t) : code.wp c.P Q a w := by
  obtain ⟨⟨e, vals, st'⟩, h1, hk⟩ := T.all_at hk.h
  rw [← ht, T.at_bind] at h1
  obtain ⟨⟨e1, ts1, st1⟩, h1, h2⟩ := h1
  refine exec_ok hsm fuel code ts st e1 ts1 st1 env w a Q h1 hA.gl hA.rep hA.den ?_
  intro env1 a1 w1 hx1 hr1 ht1 hd1
  obtain ⟨rfl, env2, g2, r2, t2, f2⟩ := canonK_ok0 h2 (hA.gl.ext hx1) hr1 ht1
  exact hk env2 a1 w1 ⟨g2, r2, t2, (hA.fresh.ext hx1).sub f2, by rw [hd1, hA.defers]⟩
theorem pieceNT0 {c : Cfg} (hsm : SmOk c) {fuel N k : Nat} (n : Nat) {code : Code} {ts : List SVal} {st : St} (names : List Nat) {t : T (Ex × List SVal × St)} (ht : (execN c fuel n code ts st).bind (canonK k c.gl N names) = t)
    {w0 : From} {env : Env} {a : Act} {w : World} (hA : At c.gl w0 env ts st a w) {Q : Exit → Act → World → Prop}
    (hk : All (fun r => ∀ env' a' w', At c.gl w0 env' (Sx.fr N names r.2.1) r.2.2 a' w' → Exit.then (fun a w => (restC n code).wp c.P Q a w) Q r.1.to a' w') t) : code.wp c.P Q a w := by
  obtain ⟨⟨e, vals, st'⟩, h1, hk⟩ := T.all_at hk.h
  rw [← ht, T.at_bind] at h1
  obtain ⟨⟨e1, ts1, st1⟩, h1, h2⟩ := h1
  refine execN_ok hsm fuel n code ts st e1 ts1 st1 env w a Q h1 hA.gl hA.rep hA.den ?_
  intro env1 a1 w1 hx1 hr1 ht1 hd1
  obtain ⟨rfl, env2, g2, r2, t2, f2⟩ := canonK_ok0 h2 (hA.gl.ext hx1) hr1 ht1
  exact hk env2 a1 w1 ⟨g2, r2, t2, (hA.fresh.ext hx1).sub f2, by rw [hd1, hA.defers]⟩
/-- other words for the same state -/
theorem At.gen {gl : List (Nat × Nat)} {w0 : From} {env : Env} {ts : List SVal} {st st' : St} {a : Act} {w : World} (h : At gl w0 env ts st a w) (hs : genS st = genS st') : At gl w0 env ts st' a w :=
  ⟨h.gl, rep_gen hs h.rep, h.den, h.fresh.sub fun x hx => foot_gen hs.symm x hx, h.defers⟩
theorem findN_app {t : Nat} {extra : List Nat} {ev : List SVal} : ∀ {names : List Nat} {vals : List SVal}, names.length = vals.length → findN t names vals = .bad ∨ findN t (names ++ extra) (vals ++ ev) = findN t names vals
  | [], _, _ => .inl (by unfold findN; rfl)
  | n :: ns, [], h => by simp at h
  | n :: ns, v :: vs, h => by
    simp only [List.cons_append, findN]
    split
    · exact .inr rfl
    · exact findN_app (by simpa using h)
theorem denT_fr2 {env env' : Env} {n : Nat} {names names' : List Nat} {vals vals' : List SVal} {tmps : Array Value} (h : DenT env (Sx.fr n names vals) tmps) (hs : ∀ t v, Den env (findN t names vals) v → Den env' (findN t names' vals') v) : DenT env' (Sx.fr n names' vals') tmps := by
  obtain ⟨vs, hv, hd⟩ := h
  refine ⟨vs, hv, ?_⟩
  have go : ∀ (l : List Nat) (us : List Value), DenL env (l.map fun t => findN t names vals) us → DenL env' (l.map fun t => findN t names' vals') us := by
    intro l
    induction l with
    | nil => intro us h; simpa only [List.map_nil, DenL] using h
    | cons t l ih =>
      intro us h
      simp only [List.map_cons, DenL] at h ⊢
      obtain ⟨u, us', rfl, h1, h2⟩ := h
      exact ⟨u, us', rfl, hs t u h1, ih us' h2⟩
  exact go _ _ hd
/-- a frame of which less is kept -/
theorem At.few {gl : List (Nat × Nat)} {w0 : From} {env : Env} {n : Nat} {names extra : List Nat} {vals ev : List SVal} {st : St} {a : Act} {w : World} (h : At gl w0 env (Sx.fr n (names ++ extra) (vals ++ ev)) st a w) (hl : names.length = vals.length) :
    At gl w0 env (Sx.fr n names vals) st a w := ⟨h.gl, h.rep, denT_fr2 h.den fun t v hd => by
      rcases findN_app (t := t) (extra := extra) (ev := ev) hl with e | e
      · rw [e]; trivial
      · rw [← e]; exact hd, h.fresh, h.defers⟩
theorem findN_gen {t : Nat} : ∀ {names : List Nat} {vals : List SVal}, findN t names (genL vals) = Sx.gen (findN t names vals)
  | [], vals => by simp only [findN]; rfl
  | n :: ns, [] => by simp only [genL, findN]; rfl
  | n :: ns, v :: vs => by
    simp only [genL, findN]
    split
    · rfl
    · exact findN_gen
/-- letters in the place of literals, in a frame -/
theorem At.gvals {gl : List (Nat × Nat)} {w0 : From} {env : Env} {n : Nat} {names : List Nat} {vals : List SVal} {st : St} {a : Act} {w : World} (h : At gl w0 env (Sx.fr n names vals) st a w) (vals' : List SVal) (hs : genL vals = genL vals') :
    At gl w0 env (Sx.fr n names vals') st a w := ⟨h.gl, h.rep, denT_fr h.den fun t v hd => by
      have h1 := (den_gen (findN t names vals) v).2 hd
      rw [← findN_gen, hs, findN_gen] at h1
      exact (den_gen _ _).1 h1, h.fresh, h.defers⟩
end Go.Proofs.YtmknmbacecjfmaaDoor.Sx

/- A call that knows its end on a state, on the same state under other names. -/
namespace Go.Proofs.YtmknmbacecjfmaaDoor.Sx
set_option linter.unusedVariables false
/-- the same cells, said by other words -/
def EqvB (b b' : Blk) : Prop := b = b' ∨ ∃ (X X' : Type) (E : Enc X) (E' : Enc X') (xs : List X) (xs' : List X') (T : TypeId), b = .vec E xs T ∧ b' = .vec E' xs' T ∧ E.sz = E'.sz ∧ xs.length = xs'.length ∧ xs.flatMap E.enc = xs'.flatMap E'.enc
def EqvSt : St → St → Prop
  | [], [] => True
  | b :: s, b' :: s' => EqvB b b' ∧ EqvSt s s'
  | _, _ => False
theorem EqvB.rfl' {b : Blk} : EqvB b b := .inl rfl
theorem EqvSt.rfl' : ∀ {s : St}, EqvSt s s
  | [] => trivial
  | _ :: _ => ⟨.inl rfl, EqvSt.rfl'⟩
theorem EqvB.symm' {b b' : Blk} (h : EqvB b b') : EqvB b' b := by
  rcases h with rfl | ⟨X, X', E, E', xs, xs', T, h1, h2, h3, h4, h5⟩
  · exact .inl rfl
  · exact .inr ⟨X', X, E', E, xs', xs, T, h2, h1, h3.symm, h4.symm, h5.symm⟩
theorem EqvSt.symm' : ∀ {s s' : St}, EqvSt s s' → EqvSt s' s
  | [], [], _ => trivial
  | [], _ :: _, h => h.elim
  | _ :: _, [], h => h.elim
  | _ :: _, _ :: _, h => ⟨h.1.symm', h.2.symm'⟩
theorem EqvSt.app : ∀ {s s' t t' : St}, EqvSt s s' → EqvSt t t' → EqvSt (s ++ t) (s' ++ t')
  | [], [], _, _, _, h' => h'
  | [], _ :: _, _, _, h, _ => h.elim
  | _ :: _, [], _, _, h, _ => h.elim
  | _ :: _, _ :: _, _, _, h, h' => ⟨h.1, EqvSt.app h.2 h'⟩
theorem EqvSt.len : ∀ {s s' : St}, EqvSt s s' → s.length = s'.length
  | [], [], _ => rfl
  | [], _ :: _, h => h.elim
  | _ :: _, [], h => h.elim
  | _ :: _, _ :: _, h => by simp [EqvSt.len h.2]
theorem EqvSt.get : ∀ {s s' : St}, EqvSt s s' → ∀ {i : Nat} {b' : Blk}, s'[i]? = some b' → ∃ b, s[i]? = some b ∧ EqvB b b'
  | [], [], _, i, b', h => by simp at h
  | [], _ :: _, h, _, _, _ => h.elim
  | _ :: _, [], h, _, _, _ => h.elim
  | b :: s, c :: s', h, i, b', hb => by
    cases i with
    | zero => simp only [List.getElem?_cons_zero, Option.some.injEq] at hb; subst hb; exact ⟨b, rfl, h.1⟩
    | succ i => simpa using EqvSt.get h.2 (by simpa using hb)
theorem EqvB.foot {b b' : Blk} (h : EqvB b b') (e : Slot) : b'.foot e = b.foot e := by
  rcases h with rfl | ⟨X, X', E, E', xs, xs', T, rfl, rfl, h3, h4, h5⟩
  · rfl
  · rfl
theorem EqvB.supp {b b' : Blk} (h : EqvB b b') (e : Slot) : b'.supp e = b.supp e := by
  rcases h with rfl | ⟨X, X', E, E', xs, xs', T, rfl, rfl, h3, h4, h5⟩
  · rfl
  · rfl
theorem EqvB.holds {b b' : Blk} (h : EqvB b b') {env : Env} {e : Slot} {w : World} (hb : b.holds env e w) : b'.holds env e w := by
  rcases h with rfl | ⟨X, X', E, E', xs, xs', T, rfl, rfl, h3, h4, h5⟩
  · exact hb
  · obtain ⟨k1, k2, k3⟩ := hb
    refine ⟨k1, by rw [← h4]; exact k2, fun hc => ?_⟩
    obtain ⟨cs, junk, g1, g2, g3⟩ := k3 hc
    exact ⟨cs, junk, g1, by rw [← h5]; exact g2, by rw [← h3]; exact g3⟩
theorem rep_eqv {env : Env} {s s' : St} {w : World} (hr : Rep env s w) (h : EqvSt s s') : Rep env s' w ∧ ∀ x, inFoot env s' x → inFoot env s x := by
  refine ⟨⟨by rw [hr.len, h.len], ?_, ?_, ?_⟩, ?_⟩
  · intro i e b' h1 h2
    obtain ⟨b, h3, h4⟩ := h.get h2
    exact h4.holds (hr.holds i e b h1 h3)
  · intro i j e f b' c' hij h1 h2 h3 h4 x hx hx'
    obtain ⟨b, g3, k3⟩ := h.get h3
    obtain ⟨c, g4, k4⟩ := h.get h4
    rw [k3.foot] at hx
    rw [k4.supp] at hx'
    exact hr.apart i j e f b c hij h1 h2 g3 g4 x hx hx'
  · intro i e b' h1 h2 x hx
    obtain ⟨b, h3, h4⟩ := h.get h2
    rw [h4.supp] at hx
    exact hr.low i e b h1 h3 x hx
  · rintro x ⟨i, e, b', h1, h2, hx⟩
    obtain ⟨b, h3, h4⟩ := h.get h2
    rw [h4.foot] at hx
    exact ⟨i, e, b, h1, h3, hx⟩
/-- there and back -/
def backB (ids inv : List Nat) : Nat → Bool
  | 0 => true
  | n + 1 => backB ids inv n && (match inv[n]? with | some j => (match ids[j]? with | some k => Nat.beq k n | none => false) | none => false)
theorem backB_ok {ids inv : List Nat} : ∀ {n : Nat}, backB ids inv n = true → ∀ i, i < n → ∃ j, inv[i]? = some j ∧ ids[j]? = some i
  | 0, _, i, hi => by omega
  | n + 1, h, i, hi => by
    simp only [backB, Bool.and_eq_true] at h
    rcases Nat.lt_or_ge i n with hl | hl
    · exact backB_ok h.1 i hl
    · obtain rfl : i = n := by omega
      have h2 := h.2
      split at h2
      · rename_i j hj
        split at h2
        · rename_i k hk
          exact ⟨j, hj, by rw [hk, Nat.eq_of_beq_eq_true h2]⟩
        · cases h2
      · cases h2
theorem subEnv_back {env : Env} {ids inv : List Nat} (hl : inv.length = env.length) (h : backB ids inv env.length = true) : subEnv (subEnv env ids) inv = env := by
  apply List.ext_getElem?
  intro i
  rcases Nat.lt_or_ge i env.length with hi | hi
  · obtain ⟨j, h1, h2⟩ := backB_ok h i hi
    have he : env[i]? = some env[i] := by simp [hi]
    simp only [subEnv, List.getElem?_map, h1, Option.map_some, List.getD_eq_getElem?_getD, h2, he, Option.getD_some]
  · rw [List.getElem?_eq_none hi, List.getElem?_eq_none (by simp [subEnv]; omega)]
/-- a call under other names -/
theorem permCall {c : Cfg} {f : FuncId} {A A0 : List SVal} {S S' S0 st st0' st' : St} {s s0 : SVal} (ids inv : List Nat)
    (hC : ∀ (env : Env) (w : World) (vs : List Value), GlOk c.gl env → Rep env S w → DenL env A vs → Calls c.P f ⟨vs⟩ w (Ends1 env S w s S'))
    (hn : nodupB ids = true) (hn' : nodupB inv = true) (hg : glKept ids c.gl = true) (hil : inv.length = st.length) (hk : S'.length = S.length) (hb : backB ids inv st.length = true)
    (h1 : renSt ids st ids = some S0) (e1 : EqvSt S0 S) (h2 : renSt inv S' inv = some st0') (e2 : EqvSt st0' st') (hA : renL ids A0 = A) (hs : ren inv s = s0) :
    ∀ (env : Env) (w : World) (vs : List Value), GlOk c.gl env → Rep env st w → DenL env A0 vs → Calls c.P f ⟨vs⟩ w (Ends1 env st w s0 st') := by
  intro env w vs hgl hr hd
  obtain ⟨r0, f0⟩ := rep_sub hr hn h1
  obtain ⟨r1, f1⟩ := rep_eqv r0 e1
  have hd1 : DenL (subEnv env ids) A vs := by rw [← hA]; exact renL_den A0 vs hd
  refine (hC _ w vs (glKept_ok hg hgl) r1 hd1).mono ?_
  rintro e w' ⟨env', v, rfl, hx, hr', hv⟩
  obtain ⟨m, hm⟩ := hx.more
  have hm0 : m = [] := by
    have g1 := hr'.len
    have g2 := r1.len
    rw [hm, List.length_append] at g1
    exact List.eq_nil_of_length_eq_zero (by omega)
  subst hm0
  rw [List.append_nil] at hm
  subst hm
  have hback : subEnv (subEnv env ids) inv = env := subEnv_back (by rw [hil, hr.len]) (by rw [hr.len]; exact hb)
  obtain ⟨r2, f2⟩ := rep_sub hr' hn' h2
  obtain ⟨r3, f3⟩ := rep_eqv r2 e2
  rw [hback] at r3 f2 f3
  have hv' : Den env s0 v := by
    have := ren_den (m := inv) s v hv
    rwa [hback, hs] at this
  exact ⟨env, v, rfl, ⟨⟨[], by simp⟩, hx.size, fun x hl hno => hx.keep x hl fun h => hno (f0 x (f1 x h)), fun x hl h => f0 x (f1 x (hx.foot x hl (f2 x (f3 x h)))), hx.calm⟩, r3, hv'⟩
theorem subEnv_app (env : Env) (a b : List Nat) : subEnv env (a ++ b) = subEnv env a ++ subEnv env b := by simp [subEnv]
theorem subEnv_shift {a b c : Env} {q r : Nat} (ha : a.length = q) (hb : b.length = r) : subEnv (a ++ b ++ c) ((List.range r).map (· + q)) = b := by
  apply List.ext_getElem?
  intro i
  rcases Nat.lt_or_ge i r with hi | hi
  · have hb' : b[i]? = some b[i] := by simp [hb, hi]
    simp only [subEnv, List.getElem?_map, List.getElem?_range hi, Option.map_some, List.getD_eq_getElem?_getD]
    rw [List.getElem?_append_left (by simp; omega), List.getElem?_append_right (by omega), show i + q - a.length = i by omega, hb']
    rfl
  · rw [List.getElem?_eq_none (l := b) (by omega), List.getElem?_eq_none (by simp [subEnv]; omega)]
def newMap (k n r : Nat) : List Nat := List.range k ++ (List.range r).map (· + (k + n)) ++ (List.range n).map (· + k)
theorem subEnv_new {a b c : Env} {k n r : Nat} (ha : a.length = k) (hb : b.length = n) (hc : c.length = r) : subEnv (a ++ b ++ c) (newMap k n r) = a ++ c ++ b := by
  rw [newMap, subEnv_app, subEnv_app]
  congr 1
  · congr 1
    · rw [subEnv_range _ (by simp; omega), List.append_assoc, ← ha, List.take_left']
      rfl
    · have := subEnv_shift (a := a ++ b) (b := c) (c := []) (q := k + n) (r := r) (by simp; omega) hc
      simpa using this
  · exact subEnv_shift ha hb
/-- a greater state, and blocks are made: what is behind keeps its names -/
theorem frameNew {c : Cfg} {f : FuncId} {A : List SVal} {S S' : St} {s : SVal} {n : Nat}
    (hC : ∀ (env : Env) (w : World) (vs : List Value), GlOk c.gl env → Rep env S w → DenL env A vs → Calls c.P f ⟨vs⟩ w (Ends1 env S w s S'))
    (rest : St) (hk : S'.length = S.length + n) (hA : renL (List.range S.length) A = A) (hgl : ∀ p ∈ c.gl, p.2 < S.length) (hS : renSt (List.range S.length) S (List.range S.length) = some S)
    {Sa Sb : St} {s' : SVal} (hnd : nodupB (newMap S.length n rest.length) = true) (hst : renSt (newMap S.length n rest.length) (S' ++ List.replicate rest.length .gone) (newMap S.length n rest.length) = some (Sa ++ (List.replicate rest.length .gone ++ Sb)))
    (hla : Sa.length = S.length) (hro : roSame S Sa) (hpl : ∀ b ∈ Sb, plainB b = true) (hs : ren (newMap S.length n rest.length) s = s') :
    ∀ (env : Env) (w : World) (vs : List Value), GlOk c.gl env → Rep env (S ++ rest) w → DenL env A vs → Calls c.P f ⟨vs⟩ w (Ends1 env (S ++ rest) w s' (Sa ++ (rest ++ Sb))) := by
  intro env w vs hg hr hd
  have hlen : env.length = S.length + rest.length := by have := hr.len; simpa using this
  have hle : S.length ≤ env.length := by omega
  have hsub := rep_sub hr (nodup_range S.length) (st' := S) (by rw [renSt_pre (by intro i hi; simpa using hi)]; exact hS)
  rw [subEnv_range env hle] at hsub
  obtain ⟨hr0, hfoot⟩ := hsub
  have hd0 : DenL (env.take S.length) A vs := by
    have := renL_den (m := List.range S.length) A vs hd
    rwa [subEnv_range env hle, hA] at this
  have hg0 : GlOk c.gl (env.take S.length) := by
    intro p hp
    obtain ⟨e, h1, h2⟩ := hg p hp
    exact ⟨e, by rw [List.getElem?_take_of_lt (hgl p hp)]; exact h1, h2⟩
  refine (hC _ w vs hg0 hr0 hd0).mono ?_
  rintro e w' ⟨env', v, rfl, hx, hr', hv⟩
  obtain ⟨m, hm⟩ := hx.more
  subst hm
  have hl0 : (env.take S.length).length = S.length := hr0.len
  have hlm : m.length = n := by
    have h1 := hr'.len
    rw [List.length_append, hl0, hk] at h1; omega
  have hlr : (env.drop S.length).length = rest.length := by simp; omega
  have hsplit : env.take S.length ++ env.drop S.length = env := List.take_append_drop _ _
  generalize hE0 : env.take S.length = env0 at *
  generalize hRe : env.drop S.length = re at *
  subst hsplit
  -- the names behind stand empty
  have gone : ∀ {i : Nat} {b : Blk}, (S' ++ List.replicate rest.length .gone)[i]? = some b → S'[i]? = some b ∨ b = .gone := by
    intro i b h
    rcases Nat.lt_or_ge i S'.length with hi | hi
    · rw [List.getElem?_append_left hi] at h; exact .inl h
    · rw [List.getElem?_append_right hi] at h
      exact .inr (List.eq_of_mem_replicate (List.mem_of_getElem? h))
  have lt' : ∀ {i : Nat} {b : Blk}, S'[i]? = some b → i < (env0 ++ m).length := fun h => by rw [hr'.len]; exact (List.getElem?_eq_some_iff.1 h).1
  have dn : ∀ {i : Nat} {e : Slot} {b : Blk}, S'[i]? = some b → (env0 ++ m ++ re)[i]? = some e → (env0 ++ m)[i]? = some e := by
    intro i e b h h'
    rwa [List.getElem?_append_left (lt' h)] at h'
  have hp : Rep (env0 ++ m ++ re) (S' ++ List.replicate rest.length .gone) w' := by
    refine ⟨by simp [hk]; omega, ?_, ?_, ?_⟩
    · intro i e b h1 h2
      rcases gone h2 with h | rfl
      · exact Blk.holds_mono _ (hr'.holds i e b (dn h h1) h)
      · trivial
    · intro i j e1 e2 b1 b2 hij h1 h2 h3 h4 x hx1 hx2
      rcases gone h3 with g3 | rfl
      · rcases gone h4 with g4 | rfl
        · exact hr'.apart i j e1 e2 b1 b2 hij (dn g3 h1) (dn g4 h2) g3 g4 x hx1 hx2
        · simp [Blk.supp] at hx2
      · simp [Blk.foot] at hx1
    · intro i e b h1 h2 x hx1
      rcases gone h2 with h | rfl
      · exact hr'.low i e b (dn h h1) h x hx1
      · simp [Blk.supp] at hx1
  obtain ⟨r1, f1⟩ := rep_sub hp hnd hst
  have hmap : subEnv (env0 ++ m ++ re) (newMap S.length n rest.length) = env0 ++ re ++ m := subEnv_new hl0 hlm hlr
  rw [hmap] at r1 f1
  have f2 : ∀ {x : Nat}, inFoot (env0 ++ re ++ m) (Sa ++ (List.replicate rest.length .gone ++ Sb)) x → inFoot (env0 ++ m) S' x := by
    intro x h
    obtain ⟨i, e, b, h1, h2, h3⟩ := f1 x h
    rcases gone h2 with g | rfl
    · exact ⟨i, e, b, dn g h1, g, h3⟩
    · simp [Blk.foot] at h3
  -- a name of the end is one of the call's or one behind
  have cls : ∀ {i : Nat} {b : Blk}, (Sa ++ (rest ++ Sb))[i]? = some b → ((Sa ++ (List.replicate rest.length .gone ++ Sb))[i]? = some b ∧ ((i < S.length ∧ Sa[i]? = some b) ∨ b ∈ Sb)) ∨ (S.length ≤ i ∧ i < S.length + rest.length ∧ (S ++ rest)[i]? = some b) := by
    intro i b h
    rcases Nat.lt_or_ge i S.length with hi | hi
    · rw [List.getElem?_append_left (by omega)] at h
      exact .inl ⟨by rw [List.getElem?_append_left (by omega)]; exact h, .inl ⟨hi, h⟩⟩
    · rw [List.getElem?_append_right (by omega), hla] at h
      rcases Nat.lt_or_ge (i - S.length) rest.length with h2 | h2
      · rw [List.getElem?_append_left h2] at h
        exact .inr ⟨hi, by omega, by rw [List.getElem?_append_right hi]; exact h⟩
      · rw [List.getElem?_append_right h2] at h
        refine .inl ⟨?_, .inr (List.mem_of_getElem? h)⟩
        rw [List.getElem?_append_right (by omega), hla, List.getElem?_append_right (by simpa using h2)]
        simpa using h
  have ee : ∀ {i : Nat} {e : Slot}, i < S.length + rest.length → (env0 ++ re ++ m)[i]? = some e → (env0 ++ re)[i]? = some e := by
    intro i e hi h
    rwa [List.getElem?_append_left (by simp; omega)] at h
  have up : ∀ {x : Nat}, inFoot env0 S x → inFoot (env0 ++ re) (S ++ rest) x := fun h => by
    obtain ⟨id, e, b, h1, h2, h3⟩ := h
    have hid := (List.getElem?_eq_some_iff.1 h2).1
    exact ⟨id, e, b, by rw [List.getElem?_append_left (by omega)]; exact h1, by rw [List.getElem?_append_left hid]; exact h2, h3⟩
  have notSupp : ∀ {j : Nat} {e : Slot} {b : Blk}, S.length ≤ j → (env0 ++ re)[j]? = some e → (S ++ rest)[j]? = some b → ∀ x, inFoot env0 S x → x ∉ b.supp e := by
    rintro j e b hj he hb x ⟨id, e1, b1, h1, h2, h3⟩ hx'
    have hid := (List.getElem?_eq_some_iff.1 h2).1
    exact hr.apart id j e1 e b1 b (by omega) (by rw [List.getElem?_append_left (by omega)]; exact h1) he (by rw [List.getElem?_append_left hid]; exact h2) hb x h3 hx'
  have holdRest : ∀ {j : Nat} {e : Slot} {b : Blk}, S.length ≤ j → (env0 ++ re)[j]? = some e → (S ++ rest)[j]? = some b → ∀ x ∈ b.supp e, w'.heap[x]? = w.heap[x]? := by
    intro j e b hj he hb x hx'
    exact hx.keep x (hr.low j e b he hb x hx') fun h => notSupp hj he hb x h hx'
  refine ⟨env0 ++ re ++ m, v, rfl, ⟨⟨m, rfl⟩, hx.size, fun x h1 h2 => hx.keep x h1 fun h => h2 (up h), ?_, hx.calm⟩, ⟨?_, ?_, ?_, ?_⟩, ?_⟩
  · rintro x h1 ⟨i, e, b, h2, h3, h4⟩
    rcases cls h3 with ⟨h, _⟩ | ⟨hi, hi', h⟩
    · exact up (hx.foot x h1 (f2 ⟨i, e, b, h2, h, h4⟩))
    · exact ⟨i, e, b, ee hi' h2, h, h4⟩
  · have := r1.len
    simp at this ⊢; omega
  · intro i e b h1 h2
    rcases cls h2 with ⟨h, _⟩ | ⟨hi, hi', h⟩
    · exact r1.holds i e b h1 h
    · exact Blk.holds_mono _ (Blk.holds_of_supp (hr.holds i e b (ee hi' h1) h) (holdRest hi (ee hi' h1) h))
  · intro i j e1 e2 b1 b2 hij h1 h2 h3 h4 x hx1 hx2
    rcases cls h3 with ⟨g3, c3⟩ | ⟨hi, hi', g3⟩ <;> rcases cls h4 with ⟨g4, c4⟩ | ⟨hj, hj', g4⟩
    · exact r1.apart i j e1 e2 b1 b2 hij h1 h2 g3 g4 x hx1 hx2
    · have hlow := hr.low j e2 b2 (ee hj' h2) g4 x hx2
      exact notSupp hj (ee hj' h2) g4 x (hx.foot x hlow (f2 ⟨i, e1, b1, h1, g3, hx1⟩)) hx2
    · have hlow := hr.low i e1 b1 (ee hi' h1) g3 x (foot_sub_supp hx1)
      have plain : (∀ e : Slot, ∀ x ∈ b2.supp e, x ∈ b2.foot e) → False := fun hpl =>
        notSupp hi (ee hi' h1) g3 x (hx.foot x hlow (f2 ⟨j, e2, b2, h2, g4, hpl e2 x hx2⟩)) (foot_sub_supp hx1)
      rcases c4 with ⟨hj, c4⟩ | c4
      · rcases hro j b2 c4 with hp' | hp'
        · exact plain hp'
        · exact hr.apart i j e1 e2 b1 b2 hij (ee hi' h1) (ee (by omega) h2) g3 (by rw [List.getElem?_append_left hj]; exact hp') x hx1 hx2
      · exact plain (plainB_ok (hpl b2 c4))
    · exact hr.apart i j e1 e2 b1 b2 hij (ee hi' h1) (ee hj' h2) g3 g4 x hx1 hx2
  · intro i e b h1 h2 x hx1
    rcases cls h2 with ⟨h, _⟩ | ⟨hi, hi', h⟩
    · exact r1.low i e b h1 h x hx1
    · exact Nat.lt_of_lt_of_le (hr.low i e b (ee hi' h1) h x hx1) hx.size
  · have := ren_den (m := newMap S.length n rest.length) s v (den_mono re s v hv)
    rwa [hmap, hs] at this
end Go.Proofs.YtmknmbacecjfmaaDoor.Sx

/- A call that makes blocks, under other names. -/
namespace Go.Proofs.YtmknmbacecjfmaaDoor.Sx
set_option linter.unusedVariables false
def invNew (inv : List Nat) (k n : Nat) : List Nat := inv ++ (List.range n).map (· + k)
theorem subEnv_backNew {env m : Env} {ids inv : List Nat} {n : Nat} (hl : inv.length = env.length) (hil : ids.length = env.length) (h : backB ids inv env.length = true) (hm : m.length = n) : subEnv (subEnv env ids ++ m) (invNew inv env.length n) = env ++ m := by
  have hs : (subEnv env ids).length = env.length := by simp [subEnv, hil]
  rw [invNew, subEnv_app]
  congr 1
  · have h1 := subEnv_back (env := env) hl h
    rw [← h1]
    apply List.ext_getElem?
    intro i
    rw [h1]
    rcases Nat.lt_or_ge i env.length with hi | hi
    · obtain ⟨j, g1, g2⟩ := backB_ok h i hi
      have hj : j < ids.length := (List.getElem?_eq_some_iff.1 g2).1
      have he : env[i]? = some env[i] := by simp [hi]
      have hx : (subEnv env ids)[j]? = some env[i] := by
        simp only [subEnv, List.getElem?_map, g2, Option.map_some, List.getD_eq_getElem?_getD, he, Option.getD_some]
      have hy : (subEnv env ids ++ m)[j]? = some env[i] := by rw [List.getElem?_append_left (by omega)]; exact hx
      rw [he]
      simp only [subEnv, List.getElem?_map, g1, Option.map_some, List.getD_eq_getElem?_getD] at hy ⊢
      rw [hy]; rfl
    · rw [List.getElem?_eq_none hi, List.getElem?_eq_none (by simp [subEnv]; omega)]
  · have := subEnv_shift (a := subEnv env ids) (b := m) (c := []) (q := env.length) (r := n) hs hm
    simpa using this
/-- a call that makes blocks, under other names -/
theorem permNew {c : Cfg} {f : FuncId} {A A0 : List SVal} {S S' S0 st st0' st' : St} {s s0 : SVal} {n : Nat} (ids inv : List Nat)
    (hC : ∀ (env : Env) (w : World) (vs : List Value), GlOk c.gl env → Rep env S w → DenL env A vs → Calls c.P f ⟨vs⟩ w (Ends1 env S w s S'))
    (hn : nodupB ids = true) (hn' : nodupB (invNew inv st.length n) = true) (hg : glKept ids c.gl = true) (hil : inv.length = st.length) (hdl : ids.length = st.length) (hk : S'.length = st.length + n) (hb : backB ids inv st.length = true)
    (h1 : renSt ids st ids = some S0) (e1 : EqvSt S0 S) (h2 : renSt (invNew inv st.length n) S' (invNew inv st.length n) = some st0') (e2 : EqvSt st0' st') (hA : renL ids A0 = A) (hs : ren (invNew inv st.length n) s = s0) :
    ∀ (env : Env) (w : World) (vs : List Value), GlOk c.gl env → Rep env st w → DenL env A0 vs → Calls c.P f ⟨vs⟩ w (Ends1 env st w s0 st') := by
  intro env w vs hgl hr hd
  obtain ⟨r0, f0⟩ := rep_sub hr hn h1
  obtain ⟨r1, f1⟩ := rep_eqv r0 e1
  have hd1 : DenL (subEnv env ids) A vs := by rw [← hA]; exact renL_den A0 vs hd
  refine (hC _ w vs (glKept_ok hg hgl) r1 hd1).mono ?_
  rintro e w' ⟨env', v, rfl, hx, hr', hv⟩
  obtain ⟨m, hm⟩ := hx.more
  subst hm
  have hlen := hr.len
  have hm0 : m.length = n := by
    have g1 := hr'.len
    rw [List.length_append, hk] at g1
    have : (subEnv env ids).length = st.length := by simp [subEnv, hdl]
    omega
  have hback : subEnv (subEnv env ids ++ m) (invNew inv st.length n) = env ++ m := by
    have := subEnv_backNew (env := env) (m := m) (ids := ids) (inv := inv) (n := n) (by omega) (by omega) (by rw [hlen]; exact hb) hm0
    rwa [hlen] at this
  obtain ⟨r2, f2⟩ := rep_sub hr' hn' h2
  obtain ⟨r3, f3⟩ := rep_eqv r2 e2
  rw [hback] at r3 f2 f3
  have hv' : Den (env ++ m) s0 v := by
    have := ren_den (m := invNew inv st.length n) s v hv
    rwa [hback, hs] at this
  exact ⟨env ++ m, v, rfl, ⟨⟨m, rfl⟩, hx.size, fun x hl hno => hx.keep x hl fun h => hno (f0 x (f1 x h)), fun x hl h => f0 x (f1 x (hx.foot x hl (f2 x (f3 x h)))), hx.calm⟩, r3, hv'⟩
end Go.Proofs.YtmknmbacecjfmaaDoor.Sx

/- The engine: an own row of cells becomes a row without a bound capacity. -/
namespace Go.Proofs.YtmknmbacecjfmaaDoor.Sx
open Go
set_option linter.unusedVariables false
theorem At.vecd {gl : List (Nat × Nat)} {w0 : From} {env : Env} {n : Nat} {names : List Nat} {vals : List SVal} {st : St} {a : Act} {w : World} (h : At gl w0 env (Sx.fr n names vals) st a w) (i : Nat) {X : Type} (E : Enc X) (xs : List X) {T : TypeId} {segs : List Seg} (hb : st[i]? = some (.own segs T))
    (hd : ∀ env cs, DenL env (segCells segs) cs → DenL env (xs.flatMap E.enc) cs) (hn : (segCells segs).length = xs.length * E.sz) (vals' : List SVal)
    (hv : ∀ env', (∀ s v, Den env s v → Den env' s v) → (∀ sz v, Den env (.sli i (.c 0) sz (.c xs.length) (some (.c xs.length))) v → Den env' (.sli st.length (.c 0) sz (.v xs.length) none) v) → (∀ sz v, Den env (.sli i (.c 0) sz (.v xs.length) (some (.v xs.length))) v → Den env' (.sli st.length (.c 0) sz (.v xs.length) none) v) → SubV env env' vals vals') :
    ∃ env', At gl w0 env' (Sx.fr n names vals') (st.set i .gone ++ [.vec E xs T]) a w := by
  have hi : i < env.length := by rw [h.rep.len]; exact (List.getElem?_eq_some_iff.1 hb).1
  have he : env[i]? = some env[i] := by simp [hi]
  obtain ⟨h0, h1, cs, h2, h3⟩ := h.rep.holds i _ _ he hb
  have hcl : cs.length = xs.length * E.sz := by rw [denL_length h3]; exact hn
  have hx := rep_move (b' := .vec E xs T) (e' := ⟨env[i].blk, 0, xs.length, []⟩) h.rep he hb (fun x hx => by
    simp only [Blk.supp, Blk.foot] at hx ⊢
    split at hx <;> simp_all) ⟨rfl, Nat.le_refl _, fun _ => ⟨cs, [], by simpa using h2, hd _ _ (denL_mono _ _ _ h3), by simpa using hcl⟩⟩
  refine ⟨_, h.gl.ext hx.2, hx.1, denT_fr h.den fun t v hd => subV_find (vals := vals) (hv _ (fun s v hd => hx.2.den hd) ?_ ?_) v hd, h.fresh.ext hx.2, h.defers⟩
  all_goals
    intro sz v hd
    simp only [Den, sliCap, NN.val] at hd ⊢
    obtain ⟨e, A, h5, h6, h8, h9⟩ := hd
    rw [he] at h5
    simp only [Option.some.injEq] at h5; subst h5
    refine ⟨⟨env[i].blk, 0, xs.length, []⟩, A, by rw [← h.rep.len]; simp, by simpa using h6, by simp, fun hp => ?_⟩
    rw [h9 (by simpa using hp), h0]
end Go.Proofs.YtmknmbacecjfmaaDoor.Sx

/- The engine: a new object joins a family while a row of places bears its pointer. -/
namespace Go.Proofs.YtmknmbacecjfmaaDoor.Sx
open Go
set_option linter.unusedVariables false
theorem AtK.join2 {base : Env} {gl : List (Nat × Nat)} {w0 : From} {env : Env} {n : Nat} {names : List Nat} {vals : List SVal} {st : St} {a : Act} {w : World} (h : AtK base gl w0 env (Sx.fr n names vals) st a w) (f o : Nat) (hne : f ≠ o) (hk : base.length ≤ f) {X : Type} {E : Enc X} {xs : List X} {T : TypeId} {segs : List Seg}
    (hf : st[f]? = some (.many E xs T)) (ho : st[o]? = some (.own segs T)) (x : X) (hd : ∀ env cs, DenL env (segCells segs) cs → DenL env (E.enc x) cs) :
    ∃ env', AtK base gl w0 env' (Sx.fr n names vals) ((st.set f (.many E (xs ++ [x]) T)).set o .gone) a w ∧ ∀ v j, Den env' (.ptr o j) v → Den env' (.pto f xs.length j) v := by
  obtain ⟨h, m, rfl⟩ := h
  have hol : o < (base ++ m).length := by rw [h.rep.len]; exact (List.getElem?_eq_some_iff.1 ho).1
  obtain ⟨env', h1, h2, h3, h4⟩ := h.join f o hne hf ho x hd
  have hb : env'.take base.length = base := by rw [h4 _ hk]; simp
  refine ⟨env', ⟨h1, env'.drop base.length, by conv => lhs; rw [← List.take_append_drop base.length env', hb]⟩, ?_⟩
  intro v j hv
  have h0 : Den (base ++ m) (.ptr o j) (.pointer (some ⟨(base ++ m)[o].blk, (base ++ m)[o].off + j, none⟩)) := ⟨(base ++ m)[o], by simp, rfl⟩
  have h5 := h3 _ _ h0
  have : v = .pointer (some ⟨(base ++ m)[o].blk, (base ++ m)[o].off + j, none⟩) := by
    obtain ⟨e, h6, h7⟩ := hv
    obtain ⟨e', h8, h9⟩ := h5
    rw [h6] at h8
    simp only [Option.some.injEq] at h8; subst h8
    rw [h7, h9]
  rw [this]
  exact h2 _ _ h0
theorem findN_not {x : Nat} : ∀ {names : List Nat} {vals : List SVal}, names.contains x = false → findN x names vals = .bad
  | [], _, _ => by simp [findN]
  | _ :: _, [], _ => by simp [findN]
  | y :: ns, v :: vs, h => by
    simp only [List.contains_cons, Bool.or_eq_false_iff] at h
    have : Nat.beq y x = false := by
      have h1 := h.1
      cases hq : Nat.beq y x with
      | false => rfl
      | true => rw [Nat.eq_of_beq_eq_true hq] at h1; simp at h1
    simp only [findN, this]
    exact findN_not h.2
theorem At.drop1 {gl : List (Nat × Nat)} {w0 : From} {env : Env} {n x : Nat} {names : List Nat} {v : SVal} {vals : List SVal} {st : St} {a : Act} {w : World} (h : At gl w0 env (Sx.fr n (x :: names) (v :: vals)) st a w) (hx : names.contains x = false) : At gl w0 env (Sx.fr n names vals) st a w :=
  ⟨h.gl, h.rep, denT_fr2 h.den fun t u hd => by
    simp only [findN] at hd
    split at hd <;> rename_i hb
    · rw [← Nat.eq_of_beq_eq_true hb, findN_not hx]; trivial
    · exact hd, h.fresh, h.defers⟩
end Go.Proofs.YtmknmbacecjfmaaDoor.Sx

/- The engine: a region of a law whose order is drawn and whose effects stand in no order: each order comes to one canonical state. -/
namespace Go.Proofs.YtmknmbacecjfmaaDoor.Sx
open Go
set_option linter.unusedVariables false
theorem pieceAny {c : Cfg} (hsm : SmOk c) {fuel N k : Nat} {id : Nat} {ops : Array Oper} {ts : List SVal} {st : St} (names : List Nat) {vals : List SVal} {st1 : St} (hmix : c.P.follows .mixedOrders = true) (hns : Region.noSelect ops = true)
    (h : AnyAll c (callF c fuel) ops (fun ts' st' => (canonK k c.gl N names (.normal, ts', st')).at (.normal, vals, st1)) ops.size (Array.replicate ops.size false) ts st)
    {w0 : From} {env : Env} {a : Act} {w : World} (hA : At c.gl w0 env ts st a w) {Q : Exit → Act → World → Prop} (hQ : ∀ x d v a w, Q (.panic x) (a.put d v) w → Q (.panic x) a w)
    (hk : ∀ env' a' w', At c.gl w0 env' (Sx.fr N names vals) st1 a' w' → Q .normal a' w') : (Code.region id ops true).wp c.P Q a w := by
  refine anyRegion_ok (callF_ok hsm fuel) hmix hns hQ h hA.gl hA.rep hA.den ?_
  intro ts' st' env' a' w' hK hx hr' ht' hd'
  obtain ⟨_, env2, g2, r2, t2, f2⟩ := canonK_ok0 hK (hA.gl.ext hx) hr' ht'
  exact hk env2 a' w' ⟨g2, r2, t2, (hA.fresh.ext hx).sub f2, by rw [hd', hA.defers]⟩
/-- the canonical ends of all orders -/
def anyC (c : Cfg) (fuel : Nat) (ops : Array Oper) (k N : Nat) (names : List Nat) (ts : List SVal) (st : St) : T (List (T Res)) :=
  (anyT c (callF c fuel) ops ops.size (Array.replicate ops.size false) ts st).bind fun es => .ret (es.map fun e => canonK k c.gl N names (.normal, e.1, e.2))
theorem anyC_ok {c : Cfg} {fuel : Nat} {ops : Array Oper} {k N : Nat} {names : List Nat} {ts : List SVal} {st : St} {vals : List SVal} {st1 : St} (h : (anyC c fuel ops k N names ts st).all fun l => ∀ t ∈ l, t.at (.normal, vals, st1)) :
    AnyAll c (callF c fuel) ops (fun ts' st' => (canonK k c.gl N names (.normal, ts', st')).at (.normal, vals, st1)) ops.size (Array.replicate ops.size false) ts st := by
  refine anyT_ok _ _ _ _ (T.all_weaken (fun es hes e he => ?_) (T.all_bind.1 h))
  exact hes _ (List.mem_map_of_mem he)
/-- along a line of needs -/
theorem anyC_line {c : Cfg} {fuel : Nat} {ops : Array Oper} {k N : Nat} {names : List Nat} {ts : List SVal} {st : St} {vals : List SVal} {st1 : St} {bs : List Bool} {n : Nat}
    (h : (anyC c fuel ops k N names ts st).line = some (bs, True, List.replicate n (.ret (.normal, vals, st1)))) (hb : ∀ b ∈ bs, b = true) :
    AnyAll c (callF c fuel) ops (fun ts' st' => (canonK k c.gl N names (.normal, ts', st')).at (.normal, vals, st1)) ops.size (Array.replicate ops.size false) ts st := by
  refine anyC_ok (T.line_all h hb trivial fun t ht => ?_)
  rw [(List.mem_replicate.1 ht).2]
  rfl
end Go.Proofs.YtmknmbacecjfmaaDoor.Sx

/- Sx: a branch whose sides are walked by hand. -/
namespace Go.Proofs.YtmknmbacecjfmaaDoor.Sx
open Go
def isCond (i : Nat) : Code → Bool
  | .cond (.tmp j) _ _ => j == i
  | _ => false
theorem wpC {P : Program} {code : Code} {Q : Exit → Act → World → Prop} {gl : List (Nat × Nat)} {w0 : From} {env : Env} {ts : List SVal} {st : St} {a : Act} {w : World} (i : Nat) (hc : isCond i code = true) (hA : At gl w0 env ts st a w) (b : Bool) (hv : ts.getD i .bad = .bl b ∨ ts.getD i .bad = .sb b)
    (h : (if b then lft code else rgt code).wp P Q a w) : code.wp P Q a w := by
  cases code with
  | cond x y z =>
    cases x with
    | tmp j =>
      simp only [isCond, beq_iff_eq] at hc
      subst hc
      have hev := evS_ok hA.gl hA.den (.tmp j)
      have hb : a.eval (.tmp j) = .bool b := by
        rcases hv with hv | hv
        · simpa only [evS, hv, Den] using hev
        · simpa only [evS, hv, Den] using hev
      cases b
      · exact wp_cond_false hb h
      · exact wp_cond_true hb h
    | _ => simp [isCond] at hc
  | _ => simp [isCond] at hc
end Go.Proofs.YtmknmbacecjfmaaDoor.Sx

/- Sx: what a call comes to, its names in another order. -/
namespace Go.Proofs.YtmknmbacecjfmaaDoor.Sx
open Go
set_option linter.unusedVariables false
/-- names that are taken over: those of 'gs' go to new places -/
def preOk (k L : Nat) (gs ids : List Nat) : Bool := (List.range k).all fun i => match ids[i]? with
  | some j => j == i || (Nat.ble L j && gs[j - L]? == some i)
  | none => false
/-- from one end of a call to another -/
def Turn (S : St) (r r' : SVal × St) : Prop := ∀ (env : Env) (w : World) (e : Ending) (w' : World), env.length = S.length → Ends1 env S w r.1 r.2 e w' → Ends1 env S w r'.1 r'.2 e w'
theorem Turn.trans {S : St} {a b c : SVal × St} (h : Turn S a b) (h' : Turn S b c) : Turn S a c := fun env w e w' hl h1 => h' env w e w' hl (h env w e w' hl h1)
theorem foot_gone {env : Env} {st : St} {e : Slot} (hl : env.length = st.length) (x : Nat) (hx : inFoot (env ++ [e]) (st ++ [Blk.gone]) x) : inFoot env st x := by
  obtain ⟨id, f, b, hf, hb, hx⟩ := hx
  rcases Nat.lt_or_ge id st.length with hi | hi
  · rw [List.getElem?_append_left hi] at hb
    rw [List.getElem?_append_left (by rw [hl]; exact hi)] at hf
    exact ⟨id, f, b, hf, hb, hx⟩
  · rw [List.getElem?_append_right hi] at hb
    cases hk : id - st.length with
    | zero => rw [hk] at hb; simp at hb; subst hb; cases hx
    | succ n => rw [hk] at hb; simp at hb
theorem rep_gones {w : World} : ∀ (es : List Slot) {env : Env} {st : St}, Rep env st w → Rep (env ++ es) (st ++ List.replicate es.length Blk.gone) w ∧ ∀ x, inFoot (env ++ es) (st ++ List.replicate es.length Blk.gone) x → inFoot env st x
  | [], env, st, h => by
    rw [List.length_nil, List.replicate_zero, List.append_nil, List.append_nil]
    exact ⟨h, fun x h => h⟩
  | e :: es, env, st, h => by
    obtain ⟨h3, _⟩ := rep_add h (b := .gone) (e := e) trivial rfl rfl
    obtain ⟨h1, h2⟩ := rep_gones es h3
    rw [List.length_cons, List.replicate_succ, List.append_cons, List.append_cons (as := st)]
    exact ⟨h1, fun x hx => foot_gone h.len x (h2 x hx)⟩
theorem turn_norm {S : St} {s1 s : SVal} {st1 S' : St} (gs ids : List Nat) (hn : nodupB ids = true) (hp : preOk S.length st1.length gs ids = true) (hr : (renSt ids (st1 ++ List.replicate gs.length Blk.gone) ids).map genS = some (genS S')) (hs : gen (ren ids s1) = gen s) : Turn S (s1, st1) (s, S') := by
  intro env w e w' hl h
  obtain ⟨env', v, rfl, hx, hrp, hv⟩ := h
  obtain ⟨m, rfl⟩ := hx.more
  obtain ⟨S2, hr2, hg2⟩ := Option.map_eq_some_iff.1 hr
  obtain ⟨k1, k2⟩ := rep_gones (gs.map fun g => (env ++ m).getD g ⟨0, 0, 0, []⟩) hrp
  rw [List.length_map] at k1 k2
  have hsub := rep_sub k1 hn hr2
  have hlen : (env ++ m).length = st1.length := hrp.len
  have hv' := ren_den (m := ids) s1 v (env := env ++ m ++ gs.map fun g => (env ++ m).getD g ⟨0, 0, 0, []⟩) (by
    exact den_mono _ _ _ hv)
  have hpre : ∃ more, subEnv (env ++ m ++ gs.map fun g => (env ++ m).getD g ⟨0, 0, 0, []⟩) ids = env ++ more := by
    refine ⟨(subEnv (env ++ m ++ gs.map fun g => (env ++ m).getD g ⟨0, 0, 0, []⟩) ids).drop env.length, ?_⟩
    apply List.ext_getElem?
    intro i
    rcases Nat.lt_or_ge i env.length with hi | hi
    · rw [List.getElem?_append_left hi]
      have h1 := List.all_eq_true.1 hp i (List.mem_range.2 (by omega))
      cases hj : ids[i]? with
      | none => rw [hj] at h1; cases h1
      | some j =>
        rw [hj] at h1
        simp only [Bool.or_eq_true, beq_iff_eq, Bool.and_eq_true, Nat.ble_eq] at h1
        rw [subEnv, List.getElem?_map, hj]
        simp only [Option.map_some, List.getD_eq_getElem?_getD]
        rcases h1 with rfl | ⟨h1, h2⟩
        · rw [List.append_assoc, List.getElem?_append_left hi]; simp [hi]
        · rw [List.getElem?_append_right (by omega), hlen, List.getElem?_map, h2]
          simp [List.getElem?_append_left hi, hi]
    · rw [List.getElem?_append_right hi, List.getElem?_drop]
      congr 1; omega
  obtain ⟨more, hm⟩ := hpre
  have hg := ends_gen (env := env) (S := S) (S1 := S) (s0 := ren ids s1) (s := s) (S0 := S2) (S' := S') (w := w) (e := .returned v) (w' := w') rfl hs hg2 ⟨_, v, rfl, ⟨⟨more, hm⟩, hx.size, hx.keep, fun x h1 h2 => hx.foot x h1 (k2 x (hsub.2 x h2)), hx.calm⟩, hsub.1, hv'⟩
  exact hg
/-- a cell that is nil, as a row without places -/
theorem turn_nil {S : St} {s : SVal} {st1 : St} (i p sz : Nat) {l : List SVal} {T0 : TypeId} (hb : st1[i]? = some (.own (l.map .c) T0)) (hp : l.getD p .bad = .snil) {X : Type} (E : Enc X) (T : TypeId) :
    Turn S (s, st1) (s, (st1 ++ [Blk.vec E [] T]).set i (.own ((l.set p (.sli st1.length (.c 0) sz (.v 0) none)).map .c) T0)) := by
  intro env w e w' hl h
  obtain ⟨env', v, rfl, hx, hrp, hv⟩ := h
  obtain ⟨h1, h2⟩ := rep_add hrp (b := .vec E [] T) (e := ⟨0, 0, 0, []⟩) ⟨rfl, Nat.le_refl _, fun h => absurd h (Nat.lt_irrefl 0)⟩ rfl rfl
  have hi : i < st1.length := (List.getElem?_eq_some_iff.1 hb).1
  have hk : (env' ++ [(⟨0, 0, 0, []⟩ : Slot)])[st1.length]? = some ⟨0, 0, 0, []⟩ := by rw [← hrp.len]; simp
  have hb' : (st1 ++ [Blk.vec E [] T])[i]? = some (.own (l.map .c) T0) := by rw [List.getElem?_append_left hi]; exact hb
  have hc : ∀ l : List SVal, segCells (l.map .c) = l := by
    intro l
    induction l with
    | nil => rfl
    | cons x l ih => simp only [segCells, List.map_cons, List.flatMap_cons, Seg.cells] at ih ⊢; rw [ih]; rfl
  have hie : i < (env' ++ [(⟨0, 0, 0, []⟩ : Slot)]).length := by rw [h1.len]; simp; omega
  have he : (env' ++ [(⟨0, 0, 0, []⟩ : Slot)])[i]? = some (env' ++ [(⟨0, 0, 0, []⟩ : Slot)])[i] := by simp
  obtain ⟨g0, g1, cs, g2, g3⟩ := h1.holds i _ _ he hb'
  obtain ⟨k1, k2⟩ := rep_put h1 he hb' (b' := .own ((l.set p (.sli st1.length (.c 0) sz (.v 0) none)).map .c) T0) (w' := w') rfl rfl ⟨g0, (by
    intro s hs
    obtain ⟨x, _, rfl⟩ := List.mem_map.1 hs
    trivial), cs, g2, by
      rw [hc] at g3 ⊢
      refine denL_set1 g3 fun v hv => ?_
      rw [hp] at hv
      exact nil_den hk hv⟩ (Nat.le_refl _) (fun _ _ _ => rfl) ⟨rfl, rfl⟩
  exact ⟨_, v, rfl, (hx.trans h2).trans k2, k1, den_mono _ _ _ hv⟩
/-- a call that is walked whole, along all ways to one end, its names in another order -/
theorem ends_turn {c : Cfg} (hsm : SmOk c) {n : Nat} {f : FuncId} {args : List SVal} {S : St} {t : T (SVal × St)} (ht : callF c n f args S = t) (hcal : callable c.P f = true) {s : SVal} {S' : St}
    (h : All (fun r => Turn S r (s, S')) t) :
    ∀ (env : Env) (w : World) (vs : List Value), GlOk c.gl env → Rep env S w → DenL env args vs → Calls c.P f ⟨vs⟩ w (Ends1 env S w s S') := by
  intro env w vs hg hr hd
  obtain ⟨⟨s1, st1⟩, h1, h2⟩ := T.all_at h.h
  rw [← ht] at h1
  refine (callF_ok hsm n f args S s1 st1 env w vs h1 hcal hg hr hd).mono ?_
  intro e w' he
  exact h2 env w e w' hr.len he
end Go.Proofs.YtmknmbacecjfmaaDoor.Sx

/- Cells that are nil, as rows without places, with the first names kept; conditions gone one way. -/
namespace Go.Proofs.YtmknmbacecjfmaaDoor.Sx
set_option linter.unusedVariables false
theorem AtK.nilv {base : Env} {gl : List (Nat × Nat)} {w0 : From} {env : Env} {ts : List SVal} {st : St} {a : Act} {w : World} (h : AtK base gl w0 env ts st a w) (i p sz : Nat) {l : List SVal} {T0 : TypeId} (hb : st[i]? = some (.own (l.map .c) T0)) (hp : l.getD p .bad = .snil) {X : Type} (E : Enc X) (T : TypeId) :
    ∃ env', AtK base gl w0 env' ts ((st ++ [Blk.vec E [] T]).set i (.own ((l.set p (.sli st.length (.c 0) sz (.v 0) none)).map .c) T0)) a w := by
  obtain ⟨h, m, hm⟩ := h
  have h1 := h.push E T
  have hi : i < st.length := (List.getElem?_eq_some_iff.1 hb).1
  have hk : (env ++ [(⟨0, 0, 0, []⟩ : Slot)])[st.length]? = some ⟨0, 0, 0, []⟩ := by rw [← h.rep.len]; simp
  refine ⟨_, h1.owne i (l := l) (by rw [List.getElem?_append_left hi]; exact hb) fun cs hd => denL_set1 hd fun v hv => ?_, m ++ [⟨0, 0, 0, []⟩], by rw [hm, List.append_assoc]⟩
  rw [hp] at hv
  exact nil_den hk hv
/-- a branch not gone -/
theorem all_brt.{u} {α : Type u} {Q : α → Prop} {b : Bool} {p : Prop} {t f : T α} (hb : b = true ↔ p) (hp : p) (h : All Q t) : All Q (T.br b t f) := all_brp hb (fun _ => h) (fun h => absurd hp h)
theorem all_brf.{u} {α : Type u} {Q : α → Prop} {b : Bool} {p : Prop} {t f : T α} (hb : b = true ↔ p) (hp : ¬ p) (h : All Q f) : All Q (T.br b t f) := all_brp hb (fun h => absurd h hp) (fun _ => h)
end Go.Proofs.YtmknmbacecjfmaaDoor.Sx

/- A slice in a struct that comes in. -/
namespace Go.Proofs.YtmknmbacecjfmaaDoor.Sx
open Go.ChangeShapes Go.WideShapes Go.ChangeAt Go.RowKit Go.Deep
set_option linter.unusedVariables false
variable {H : Type} {enc : TypeId × Value → H} {P : Program} {w : World} {base : Nat} {spare : Nat → Bool} {held : Bool}
/-- a cell of a struct that is a slice, as a slice that came in -/
theorem okWide_cell {r : Reach} {b0 : Nat} {t u e : TypeId} {fs : Array Field} {cs : Array Value} {ts : List TypeId} {i : Nat} {v : Value} (hval : Value.okWide P w r b0 t (.agg cs)) (hst : P.underlying t = some (.struct fs)) (hts : P.cellTypes P.depth t = some ts) (hi : cs[i]? = some v) (hu : ts[i % ts.length]? = some u) (hsl : P.underlying u = some (.slice e)) :
    Value.okWide P w r b0 u v := by
  simp only [Value.okWide, hst] at hval
  obtain ⟨cs', e1, _, ts', h1, _, h2⟩ := hval
  simp only [Value.agg.injEq] at e1
  subst e1
  obtain rfl := Option.some.inj (hts.symm.trans h1)
  obtain ⟨u', h3, h4⟩ := h2 i v hi
  obtain rfl := Option.some.inj (hu.symm.trans h3)
  simpa only [Value.okWide, hsl] using h4
/-- a cell that is a slice: rows, or nothing, which is no row -/
theorem open_cell {X : Type} (E : Enc X) {t e : TypeId} (ht : P.underlying t = some (.slice e)) (hsz : P.cellsOf e = E.sz)
    (helem : ∀ n cs y, DataW.trod enc P w base spare held n e cs = some y → ∃ x : X, DenL [] (E.enc x) cs) (hsh : E.shut = true)
    {r : Reach} {b0 : Nat} {v : Value} {m : Nat} {y : DataW H × List MemPlace} (hval : Value.okWide P w r b0 t v) (h : DataW.trod enc P w base spare held m t [v] = some y) :
    ∃ (xs : List X) (cap : Nat) (sl : Slot), Rep [sl] [.ro E xs] w ∧ Den [sl] (.sli 0 (.c 0) E.sz (.v xs.length) (some (.v cap))) v := by
  obtain ⟨a, len, cap, rfl⟩ := okWide_slice ht hval
  exact open_sli E ht hsz helem hsh hval (d := y.1) (ps := y.2) ⟨m, h⟩
end Go.Proofs.YtmknmbacecjfmaaDoor.Sx

/- The engine: families of rows that are read alone. -/
namespace Go.Proofs.YtmknmbacecjfmaaDoor.Sx
open Go
set_option linter.unusedVariables false
/-- a family without rows -/
theorem At.rows0 {gl : List (Nat × Nat)} {w0 : From} {env : Env} {ts : List SVal} {st : St} {a : Act} {w : World} (h : At gl w0 env ts st a w) (k : IntKind) : At gl w0 (env ++ [⟨0, 0, 0, []⟩]) ts (st ++ [.rows true k []]) a w := by
  obtain ⟨h1, h2⟩ := rep_add h.rep (b := .rows true k []) (e := ⟨0, 0, 0, []⟩) ⟨rfl, fun i b o hb => by simp at hb⟩ rfl rfl
  exact ⟨h.gl.ext h2, h1, h.den.ext h2, h.fresh.ext h2, h.defers⟩
theorem AtK.rows0 {base : Env} {gl : List (Nat × Nat)} {w0 : From} {env : Env} {ts : List SVal} {st : St} {a : Act} {w : World} (h : AtK base gl w0 env ts st a w) (k : IntKind) : AtK base gl w0 (env ++ [⟨0, 0, 0, []⟩]) ts (st ++ [.rows true k []]) a w := by
  obtain ⟨h, m, rfl⟩ := h
  exact ⟨h.rows0 k, m ++ [⟨0, 0, 0, []⟩], by simp⟩
/-- a fresh row joins a family -/
theorem At.joinR {gl : List (Nat × Nat)} {w0 : From} {env : Env} {ts : List SVal} {st : St} {a : Act} {w : World} (h : At gl w0 env ts st a w) (f o : Nat) (hne : f ≠ o) {k : IntKind} {xss : List (List Int)} {l : List Int} {T : TypeId}
    (hf : st[f]? = some (.rows true k xss)) (ho : st[o]? = some (.vec (encInt k) l T)) (hl0 : 0 < l.length) :
    ∃ env', At gl w0 env' ts ((st.set f (.rows true k (xss ++ [l]))).set o .gone) a w ∧ (∀ v n, n.val = l.length → Den env' (.sli o (.c 0) 1 n none) v → Den env' (.slr f xss.length l.length) v) ∧ (∀ s v, Den env s v → Den env' s v) ∧ ∀ k, k ≤ f → env'.take k = env.take k := by
  have hl := h.rep.len
  have hfl : f < env.length := by rw [hl]; exact (List.getElem?_eq_some_iff.1 hf).1
  have hol : o < env.length := by rw [hl]; exact (List.getElem?_eq_some_iff.1 ho).1
  have hef : env[f]? = some env[f] := by simp [hfl]
  have heo : env[o]? = some env[o] := by simp [hol]
  obtain ⟨f0, f1⟩ := h.rep.holds f _ _ hef hf
  obtain ⟨o0, o1, o2⟩ := h.rep.holds o _ _ heo ho
  generalize hE : env[f] = ef at *
  generalize hO : env[o] = eo at *
  have hcap : 0 < eo.cap := by omega
  obtain ⟨cs, junk, o3, o4, o5⟩ := o2 hcap
  have hsupp : eo.blk ∈ Blk.supp eo (.vec (encInt k) l T) := vec_supp hcap
  have hfoot : eo.blk ∈ Blk.foot eo (.vec (encInt k) l T) := by
    simp only [Blk.foot]
    split
    · omega
    · simp
  let e : Slot := ⟨ef.blk, ef.off, ef.cap, ef.fam ++ [eo.blk, 0]⟩
  have hle : FamLe env (env.set f e) := by
    intro i g hg
    by_cases hi : i = f
    · subst hi
      rw [hef] at hg
      simp only [Option.some.injEq] at hg; subst hg
      exact ⟨e, by rw [List.getElem?_set_self hfl], rfl, rfl, rfl, fun j b hb => getElem?_append_some hb⟩
    · exact ⟨g, by rw [List.getElem?_set_ne (fun h => hi h.symm)]; exact hg, rfl, rfl, rfl, fun _ _ h => h⟩
  have hdl := fun l vs hh => denL_fam hle l vs hh
  have hset : (env.set f e)[f]? = some e := by rw [List.getElem?_set_self hfl]
  have live : ∀ {id : Nat} {g : Slot} {c : Blk}, (env.set f e)[id]? = some g → ((st.set f (.rows true k (xss ++ [l]))).set o .gone)[id]? = some c → (id = o ∧ c = .gone) ∨ (id = f ∧ g = e ∧ c = .rows true k (xss ++ [l])) ∨ (id ≠ f ∧ id ≠ o ∧ env[id]? = some g ∧ st[id]? = some c) := by
    intro id g c hg hc
    rcases set_get hc with ⟨h1, rfl⟩ | ⟨h1, hc⟩
    · exact .inl ⟨h1, rfl⟩
    · rcases set_get hc with ⟨h2, rfl⟩ | ⟨h2, hc⟩
      · subst h2
        rw [hset] at hg
        simp only [Option.some.injEq] at hg
        exact .inr (.inl ⟨rfl, hg.symm, rfl⟩)
      · rw [List.getElem?_set_ne (fun h => h2 h.symm)] at hg
        exact .inr (.inr ⟨h2, h1, hg, hc⟩)
  have inN : ∀ {y : Nat}, y ∈ evs e.fam → y ∈ evs ef.fam ∨ y = eo.blk := by
    intro y hy
    simp only [e] at hy
    rw [evs_append f0] at hy
    simpa using hy
  have f2 : e.fam[2 * xss.length]? = some eo.blk ∧ e.fam[2 * xss.length + 1]? = some 0 := by
    simp only [e, ← f0]
    exact ⟨by simp, by rw [List.getElem?_append_right (by omega)]; simp⟩
  have hrep : Rep (env.set f e) ((st.set f (.rows true k (xss ++ [l]))).set o .gone) w := by
    refine ⟨by simp [hl], ?_, ?_, ?_⟩
    · intro id g c hg hc
      rcases live hg hc with ⟨_, rfl⟩ | ⟨rfl, rfl, rfl⟩ | ⟨h1, h2, hg, hc⟩
      · trivial
      · refine ⟨by simp [e, f0]; omega, fun i b o' hb hob j hj => ?_⟩
        rcases Nat.lt_or_ge i xss.length with hi | hi
        · simp only [e] at hb hob
          rw [List.getElem?_append_left (by omega)] at hb hob
          rw [getD_append_left hi] at hj ⊢
          exact f1 i b o' hb hob j hj
        · have hi' : i = xss.length := by
            have := (List.getElem?_eq_some_iff.1 hb).1
            simp only [e, List.length_append, List.length_cons, List.length_nil] at this
            omega
          subst hi'
          rw [f2.1] at hb
          rw [f2.2] at hob
          simp only [Option.some.injEq] at hb hob
          subst hb hob
          rw [getD_append_len] at hj ⊢
          obtain ⟨v, hv, hd⟩ := flat_get_ok (encInt k) o4 (i := j) (j := 0) hj (by simp [encInt])
          have hv' : cs[j]? = some v := by simpa [encInt] using hv
          have hd' : v = .int k (l.getD j 0) := by
            have : Den env (.int k (l.getD j 0)) v := hd
            simpa [Den] using this
          rw [Nat.zero_add, blk_cell o3, getElem?_append_some hv', hd']
      · exact holds_env hdl (h.rep.holds id g c hg hc)
    · intro i j g k b c hij hg hk hb hc y hy1 hy2
      rcases live hg hb with ⟨_, rfl⟩ | ⟨rfl, rfl, rfl⟩ | ⟨h1, h2, hg', hb'⟩
      · simp [Blk.foot] at hy1
      · rcases live hk hc with ⟨_, rfl⟩ | ⟨rfl, rfl, rfl⟩ | ⟨h3, h4, hk', hc'⟩
        · simp [Blk.supp] at hy2
        · exact hij rfl
        · rcases inN hy1 with h5 | rfl
          · exact h.rep.apart _ j ef k _ c hij hef hk' hf hc' y h5 hy2
          · exact h.rep.apart o j eo k _ c (fun e => h4 e.symm) heo hk' ho hc' _ hfoot hy2
      · rcases live hk hc with ⟨_, rfl⟩ | ⟨rfl, rfl, rfl⟩ | ⟨h3, h4, hk', hc'⟩
        · simp [Blk.supp] at hy2
        · rcases inN hy2 with h5 | rfl
          · exact h.rep.apart i _ g ef b _ hij hg' hef hb' hf y hy1 h5
          · exact h.rep.apart i o g eo b _ h2 hg' heo hb' ho _ hy1 hsupp
        · exact h.rep.apart i j g k b c hij hg' hk' hb' hc' y hy1 hy2
    · intro id g c hg hc y hy
      rcases live hg hc with ⟨_, rfl⟩ | ⟨rfl, rfl, rfl⟩ | ⟨h1, h2, hg, hc⟩
      · simp [Blk.supp] at hy
      · rcases inN hy with h5 | rfl
        · exact h.rep.low _ ef _ hef hf y h5
        · exact h.rep.low o eo _ heo ho _ hsupp
      · exact h.rep.low id g c hg hc y hy
  refine ⟨env.set f e, ⟨fun p hp => ?_, hrep, ?_, h.fresh.sub ?_, h.defers⟩, ?_, fun s v hv => den_fam hle s v hv, fun k hk => ?_⟩
  · obtain ⟨g, h1, h2, h3⟩ := h.gl p hp
    obtain ⟨g', k1, k2, k3, _⟩ := hle p.2 g h1
    exact ⟨g', k1, by rw [k2, h2], by rw [k3, h3]⟩
  · obtain ⟨us, hu, hdu⟩ := h.den
    exact ⟨us, hu, hdl _ _ hdu⟩
  · rintro y ⟨id, g, c, hg, hc, hy⟩
    rcases live hg hc with ⟨_, rfl⟩ | ⟨rfl, rfl, rfl⟩ | ⟨h1, h2, hg, hc⟩
    · simp [Blk.foot] at hy
    · rcases inN hy with h5 | rfl
      · exact ⟨_, ef, _, hef, hf, h5⟩
      · exact ⟨o, eo, _, heo, ho, hfoot⟩
    · exact ⟨id, g, c, hg, hc, hy⟩
  · intro v n hn hv
    simp only [Den] at hv ⊢
    obtain ⟨g, A, h1, rfl, h2, h3⟩ := hv
    rw [List.getElem?_set_ne hne, heo] at h1
    simp only [Option.some.injEq] at h1; subst h1
    simp only [sliCap, NN.val, Nat.sub_zero] at h2 h3 ⊢
    refine ⟨e, A, eo.cap, hset, congrArg (fun z => Value.slice A z eo.cap) hn, o1, fun _ => ⟨eo.blk, 0, f2.1, f2.2, ?_⟩⟩
    rw [h3 hcap, o0]
  · rw [List.take_set_of_le hk]
theorem AtK.joinR {base : Env} {gl : List (Nat × Nat)} {w0 : From} {env : Env} {ts : List SVal} {st : St} {a : Act} {w : World} (h : AtK base gl w0 env ts st a w) (f o : Nat) (hne : f ≠ o) (hk : base.length ≤ f) {k : IntKind} {xss : List (List Int)} {l : List Int} {T : TypeId}
    (hf : st[f]? = some (.rows true k xss)) (ho : st[o]? = some (.vec (encInt k) l T)) (hl0 : 0 < l.length) :
    ∃ env', AtK base gl w0 env' ts ((st.set f (.rows true k (xss ++ [l]))).set o .gone) a w ∧ ∀ v n, n.val = l.length → Den env' (.sli o (.c 0) 1 n none) v → Den env' (.slr f xss.length l.length) v := by
  obtain ⟨h, m, rfl⟩ := h
  obtain ⟨env', h1, h2, h3, h4⟩ := h.joinR f o hne hf ho hl0
  have hb : env'.take base.length = base := by rw [h4 _ hk]; simp
  exact ⟨env', ⟨h1, env'.drop base.length, by conv => lhs; rw [← List.take_append_drop base.length env', hb]⟩, h2⟩
/-- a call's end, elements of a kind as elements of another that lie alike -/
theorem ends_typed {env : Env} {S S' : St} {w : World} {s : SVal} {X Y : Type} {E : Enc X} {E' : Enc Y} {xs : List X} {ys : List Y} {T : TypeId} (i : Nat) (hb : S'[i]? = some (.vec E xs T)) (hl : xs.length = ys.length) (hz : E.sz = E'.sz) (he : xs.flatMap E.enc = ys.flatMap E'.enc) {e : Ending} {w' : World}
    (h : Ends1 env S w s S' e w') : Ends1 env S w s (S'.set i (.vec E' ys T)) e w' := by
  obtain ⟨env', v, h1, hx, hr, hv⟩ := h
  have hi : i < S'.length := (List.getElem?_eq_some_iff.1 hb).1
  have hie : i < env'.length := by rw [hr.len]; exact hi
  have hei : env'[i]? = some env'[i] := by simp [hie]
  obtain ⟨h0, h2, hh⟩ := hr.holds i _ _ hei hb
  obtain ⟨k1, k2⟩ := rep_put hr hei hb (b' := .vec E' ys T) (w' := w') rfl rfl ⟨h0, by rw [← hl]; exact h2, fun hc => by
    obtain ⟨cs, junk, h3, h4, h5⟩ := hh hc
    exact ⟨cs, junk, h3, by rw [← he]; exact h4, by rw [← hz]; exact h5⟩⟩ (Nat.le_refl _) (fun _ _ _ => rfl) ⟨rfl, rfl⟩
  exact ⟨env', v, h1, hx.trans k2, k1, hv⟩
/-- a piece whose names stay as they fell, for calls that keep their caller's -/
theorem pieceTRK {c : Cfg} (hsm : SmOk c) {fuel N : Nat} {code : Code} {ts : List SVal} {st : St} (names : List Nat) {t : T (Ex × List SVal × St)} (ht : (exec c fuel code ts st).bind (rawN N names) = t)
    {w0 : From} {base env : Env} {a : Act} {w : World} (hA : AtK base c.gl w0 env ts st a w) {Q : Exit → Act → World → Prop}
    (hk : All (fun r => ∀ env' a' w', AtK base c.gl w0 env' (fr N names r.2.1) r.2.2 a' w' → Q r.1.to a' w') t) : code.wp c.P Q a w := by
  obtain ⟨hA, m, rfl⟩ := hA
  obtain ⟨⟨e, vals, st'⟩, h1, hk⟩ := T.all_at hk.h
  rw [← ht, T.at_bind] at h1
  obtain ⟨⟨e1, ts1, st1⟩, h1, h2⟩ := h1
  refine exec_ok hsm fuel code ts st e1 ts1 st1 _ w a Q h1 hA.gl hA.rep hA.den ?_
  intro env1 a1 w1 hx1 hr1 ht1 hd1
  unfold rawN at h2
  split at h2
  · rename_i hN
    simp only [T.at, Prod.mk.injEq] at h2
    obtain ⟨rfl, rfl, rfl⟩ := h2
    obtain ⟨m', he⟩ := hx1.more
    refine hk env1 a1 w1 ⟨⟨hA.gl.ext hx1, hr1, ?_, hA.fresh.ext hx1, by rw [hd1, hA.defers]⟩, m ++ m', by rw [he, List.append_assoc]⟩
    exact denT_fr (denT_pick ht1 names (Nat.eq_of_beq_eq_true hN)) fun t v h => h
  · exact h2.elim
end Go.Proofs.YtmknmbacecjfmaaDoor.Sx

