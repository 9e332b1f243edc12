/- An executor on symbolic values: its words, its memory, its pure operations, proved right for all inputs. -/
import Derived.WalkKit
import Derived.Orders
import Derived.KernelRfl
/- The executor's words: symbolic values, heaps, trees of cases, and what they denote. -/
namespace Go.Proofs.YtmknmbacecjfmaaDoor.Sx
set_option linter.unusedVariables false

/-- a natural number that the executor may look at ('c'), or may not ('v') -/
inductive NN where
  | c (n : Nat) | v (n : Nat)
def NN.val : NN → Nat | .c n => n | .v n => n
def NN.add : NN → NN → NN
  | .c 0, n => n
  | n, .c 0 => n
  | .c a, .c b => .c (a + b)
  | a, b => .v (a.val + b.val)

inductive SVal where
  | lit (k : IntKind) (n : Int)
  | int (k : IntKind) (x : Int)
  | bl (b : Bool)
  | sb (b : Bool)
  | sl (l : List UInt8)
  | str (s : ByteArray)
  | pnil
  | ptr (id o : Nat)
  | pti (id o i sz j : Nat)
  | pto (id i j : Nat)
  | ptw (id i j : Nat)
  | sw (b : Bool) (x y : SVal)
  | snil
  | sli (id : Nat) (o : NN) (sz : Nat) (len : NN) (cp : Option NN)
  | slr (id i len : Nat)
  | ifc (t : TypeId) (v : SVal)
  | inil
  | fn (f : Fn) (first captured : List SVal)
  | fnil
  | agg (l : List SVal)
  | tup (l : List SVal)
  | raw (v : Value)
  | bad

/-- where a name's block lies; 'cap': how many elements fit, of a row -/
structure Slot where
  blk : Nat
  off : Nat
  cap : Nat
  /-- the blocks of a family -/
  fam : List Nat
abbrev Env := List Slot

def sliCap (e : Slot) (o : NN) : Option NN → Nat
  | some n => n.val
  | none => e.cap - o.val

mutual
/-- what a symbolic value stands for -/
def Den (env : Env) : SVal → Value → Prop
  | .lit k n, v => v = .int k n
  | .int k x, v => v = .int k x
  | .bl b, v => v = .bool b
  | .sb b, v => v = .bool b
  | .sl l, v => v = .string ⟨l.toArray⟩
  | .str s, v => v = .string s
  | .pnil, v => v = .pointer none
  | .ptr id o, v => ∃ e, env[id]? = some e ∧ v = .pointer (some ⟨e.blk, e.off + o, none⟩)
  | .pti id o i sz j, v => ∃ e, env[id]? = some e ∧ v = .pointer (some ⟨e.blk, e.off + o + i * sz + j, none⟩)
  | .pto id i j, v => ∃ e b, env[id]? = some e ∧ e.fam[i]? = some b ∧ v = .pointer (some ⟨b, j, none⟩)
  | .ptw id i j, v => ∃ e b o, env[id]? = some e ∧ e.fam[2 * i]? = some b ∧ e.fam[2 * i + 1]? = some o ∧ v = .pointer (some ⟨b, o + j, none⟩)
  | .sw b x y, v => (b = true ∧ Den env x v) ∨ (b = false ∧ Den env y v)
  | .snil, v => v = .slice none 0 0
  | .sli id o sz len cp, v => ∃ e a, env[id]? = some e ∧ v = .slice a len.val (sliCap e o cp) ∧ len.val ≤ sliCap e o cp ∧
      (0 < sliCap e o cp → a = some ⟨e.blk, e.off + o.val * sz, none⟩)
  | .slr id i len, v => ∃ e a cp, env[id]? = some e ∧ v = .slice a len cp ∧ len ≤ cp ∧ (0 < len → ∃ b o, e.fam[2 * i]? = some b ∧ e.fam[2 * i + 1]? = some o ∧ a = some ⟨b, o, none⟩)
  | .ifc t s, v => ∃ u, v = .iface t u ∧ Den env s u
  | .inil, v => v = .nilIface
  | .fn f first cap, v => ∃ us cs, v = .func f ⟨us⟩ ⟨cs⟩ ∧ DenL env first us ∧ DenL env cap cs
  | .fnil, v => v = .nilFunc
  | .agg l, v => ∃ vs, v = .agg ⟨vs⟩ ∧ DenL env l vs
  | .tup l, v => ∃ vs, v = .tuple ⟨vs⟩ ∧ DenL env l vs
  | .raw u, v => v = u
  | .bad, _ => True
def DenL (env : Env) : List SVal → List Value → Prop
  | [], vs => vs = []
  | s :: l, vs => ∃ u us, vs = u :: us ∧ Den env s u ∧ DenL env l us
end

def idx (i : Nat) : List Nat → Nat → Option Nat
  | [], _ => none
  | j :: r, k => match Nat.beq j i with
    | true => some k
    | false => idx i r (k + 1)
mutual
/-- the value under the new names: the k-th of the list is called k -/
def ren (m : List Nat) : SVal → SVal
  | .ptr id o => match idx id m 0 with | some j => .ptr j o | none => .bad
  | .pti id o i sz j => match idx id m 0 with | some k => .pti k o i sz j | none => .bad
  | .pto id i j => match idx id m 0 with | some k => .pto k i j | none => .bad
  | .ptw id i j => match idx id m 0 with | some k => .ptw k i j | none => .bad
  | .sw b x y => .sw b (ren m x) (ren m y)
  | .sli id o sz n cp => match idx id m 0 with | some j => .sli j o sz n cp | none => .bad
  | .slr id i n => match idx id m 0 with | some j => .slr j i n | none => .bad
  | .ifc t v => .ifc t (ren m v)
  | .fn f a b => .fn f (renL m a) (renL m b)
  | .agg l => .agg (renL m l)
  | .tup l => .tup (renL m l)
  | s => s
def renL (m : List Nat) : List SVal → List SVal
  | [] => []
  | s :: l => ren m s :: renL m l
end
/-- which kind an element is of, where the executor may know -/
inductive Tag : Type → Type 1 where
  | int (k : IntKind) : Tag Int
  | bool : Tag Bool
  | str : Tag ByteArray
  | val : Tag Value
  | other {X : Type} : Tag X
/-- how one element of an array lies in cells; 'shut': it bears no names -/
structure Enc (X : Type) where
  tag : Tag X
  shut : Bool
  sz : Nat
  enc : X → List SVal
  dec : List SVal → Option X
  dflt : X
  pos : 0 < sz
  len : ∀ x, (enc x).length = sz
  ok : ∀ env l x vs, dec l = some x → DenL env l vs → DenL env (enc x) vs
  shutOk : shut = true → ∀ env env' x vs, DenL env (enc x) vs → DenL env' (enc x) vs
  /-- its names are below this one -/
  top : Option Nat := none
  topOk : ∀ k, top = some k → ∀ m : List Nat, m.take k = List.range k → ∀ x, renL m (enc x) = enc x := by intro k h; cases h

def natsEq : List Nat → List Nat → Bool
  | [], [] => true
  | i :: l, j :: m => Nat.beq i j && natsEq l m
  | _, _ => false
theorem natsEq_eq : ∀ {l m : List Nat}, natsEq l m = true → l = m
  | [], [], _ => rfl
  | i :: l, j :: m, h => by
    simp only [natsEq, Bool.and_eq_true] at h
    rw [Nat.eq_of_beq_eq_true h.1, natsEq_eq h.2]
  | [], _ :: _, h => by simp [natsEq] at h
  | _ :: _, [], h => by simp [natsEq] at h
/-- the names it bears stay what they are -/
def keepsE {X : Type} (m : List Nat) (E : Enc X) : Bool := match E.shut with
  | true => true
  | false => match E.top with
    | some k => natsEq (m.take k) (List.range k)
    | none => false
inductive Seg : Type 1 where
  | c (v : SVal)
  | a {X : Type} (E : Enc X) (n : Nat) (xs : List X)
def Seg.cells : Seg → List SVal
  | .c v => [v]
  | .a E _ xs => xs.flatMap E.enc
def Seg.fits : Seg → Prop
  | .c _ => True
  | .a _ n xs => xs.length = n

inductive Blk : Type 1 where
  | own (segs : List Seg) (T : TypeId)
  | vec {X : Type} (E : Enc X) (xs : List X) (T : TypeId)
  | ro {X : Type} (E : Enc X) (xs : List X)
  | many {X : Type} (E : Enc X) (xs : List X) (T : TypeId)
  | rows (ow : Bool) (k : IntKind) (xss : List (List Int))
  | gone

abbrev St := List Blk

universe u v
inductive T (α : Type u) : Type u where
  | ret (a : α)
  | br (b : Bool) (t f : T α)
  | need (b : Bool) (t : T α)
  | eq (p : Prop) (t : T α)
  | no (why : Nat)

def T.bind {α : Type u} {β : Type v} : T α → (α → T β) → T β
  | .ret a, k => k a
  | .br b t f, k => .br b (t.bind k) (f.bind k)
  | .need b t, k => .need b (t.bind k)
  | .eq p t, k => .eq p (t.bind k)
  | .no n, _ => .no n

/-- the leaf that is reached; every need on the way there is met -/
def T.at {α : Type u} : T α → α → Prop
  | .ret a, x => a = x
  | .br b t f, x => (b = true ∧ t.at x) ∨ (b = false ∧ f.at x)
  | .need b t, x => b = true ∧ t.at x
  | .eq p t, x => p ∧ t.at x
  | .no _, _ => False

theorem T.at_bind {α : Type u} {β : Type v} {t : T α} {k : α → T β} {y : β} : (t.bind k).at y ↔ ∃ x, t.at x ∧ (k x).at y := by
  induction t with
  | ret a => simp [T.bind, T.at]
  | br b t f iht ihf =>
    simp only [T.bind, T.at, iht, ihf]
    constructor
    · rintro (⟨h, x, h1, h2⟩ | ⟨h, x, h1, h2⟩)
      · exact ⟨x, .inl ⟨h, h1⟩, h2⟩
      · exact ⟨x, .inr ⟨h, h1⟩, h2⟩
    · rintro ⟨x, ⟨h, h1⟩ | ⟨h, h1⟩, h2⟩
      · exact .inl ⟨h, x, h1, h2⟩
      · exact .inr ⟨h, x, h1, h2⟩
  | need b t ih =>
    simp only [T.bind, T.at, ih]
    constructor
    · rintro ⟨h, x, h1, h2⟩; exact ⟨x, ⟨h, h1⟩, h2⟩
    · rintro ⟨x, ⟨h, h1⟩, h2⟩; exact ⟨h, x, h1, h2⟩
  | eq p t ih =>
    simp only [T.bind, T.at, ih]
    constructor
    · rintro ⟨h, x, h1, h2⟩; exact ⟨x, ⟨h, h1⟩, h2⟩
    · rintro ⟨x, ⟨h, h1⟩, h2⟩; exact ⟨h, x, h1, h2⟩
  | no n => simp [T.bind, T.at]

/-- a need; where it is closed it is decided -/
def nd {α : Type u} (closed ok : Bool) (t : T α) : T α :=
  match closed with
  | true => match ok with
    | true => t
    | false => .no 200
  | false => .need ok t
theorem nd_at {α : Type u} {closed ok : Bool} {t : T α} {x : α} (h : (nd closed ok t).at x) : ok = true ∧ t.at x := by
  unfold nd at h
  split at h
  · split at h
    · exact ⟨rfl, h⟩
    · exact h.elim
  · exact h

/-! ## basic facts -/
theorem NN.add_val (a b : NN) : (a.add b).val = a.val + b.val := by
  unfold NN.add; split <;> simp [NN.val]

theorem denL_length {env : Env} : ∀ {l : List SVal} {vs : List Value}, DenL env l vs → vs.length = l.length
  | [], vs, h => by simp only [DenL] at h; simp [h]
  | s :: l, vs, h => by
    simp only [DenL] at h
    obtain ⟨u, us, rfl, _, h2⟩ := h
    simp [denL_length h2]

theorem denL_nil {env : Env} : DenL env [] [] := by simp [DenL]
theorem denL_cons {env : Env} {s : SVal} {l : List SVal} {u : Value} {us : List Value} : DenL env (s :: l) (u :: us) ↔ Den env s u ∧ DenL env l us := by
  simp only [DenL]
  constructor
  · rintro ⟨a, b, h, h1, h2⟩; cases h; exact ⟨h1, h2⟩
  · rintro ⟨h1, h2⟩; exact ⟨u, us, rfl, h1, h2⟩
theorem denL_append {env : Env} : ∀ {l m : List SVal} {us vs : List Value}, DenL env l us → DenL env m vs → DenL env (l ++ m) (us ++ vs)
  | [], m, us, vs, h, h' => by simp only [DenL] at h; subst h; simpa using h'
  | s :: l, m, us, vs, h, h' => by
    simp only [DenL] at h
    obtain ⟨u, us, rfl, h1, h2⟩ := h
    simp only [List.cons_append]
    exact denL_cons.2 ⟨h1, denL_append h2 h'⟩
theorem denL_split {env : Env} : ∀ {l m : List SVal} {vs : List Value}, DenL env (l ++ m) vs → ∃ us ws, vs = us ++ ws ∧ DenL env l us ∧ DenL env m ws
  | [], m, vs, h => ⟨[], vs, rfl, denL_nil, h⟩
  | s :: l, m, vs, h => by
    simp only [List.cons_append, DenL] at h
    obtain ⟨u, us, rfl, h1, h2⟩ := h
    obtain ⟨a, b, rfl, h3, h4⟩ := denL_split h2
    exact ⟨u :: a, b, rfl, denL_cons.2 ⟨h1, h3⟩, h4⟩
theorem denL_get {env : Env} : ∀ {l : List SVal} {vs : List Value} (i : Nat), DenL env l vs → i < l.length → ∃ v, vs[i]? = some v ∧ Den env (l.getD i .bad) v
  | [], vs, i, h, hi => by simp at hi
  | s :: l, vs, i, h, hi => by
    simp only [DenL] at h
    obtain ⟨u, us, rfl, h1, h2⟩ := h
    cases i with
    | zero => exact ⟨u, rfl, by simpa using h1⟩
    | succ i =>
      obtain ⟨v, hv, hd⟩ := denL_get i h2 (by simpa using hi)
      exact ⟨v, by simpa using hv, by simpa using hd⟩
theorem denL_set {env : Env} : ∀ {l : List SVal} {vs : List Value} (i : Nat) {s : SVal} {v : Value}, DenL env l vs → Den env s v → DenL env (l.set i s) (vs.set i v)
  | [], vs, i, s, v, h, hd => by simp only [DenL] at h; subst h; simp [DenL]
  | x :: l, vs, i, s, v, h, hd => by
    simp only [DenL] at h
    obtain ⟨u, us, rfl, h1, h2⟩ := h
    cases i with
    | zero => exact denL_cons.2 ⟨hd, h2⟩
    | succ i => exact denL_cons.2 ⟨h1, denL_set i h2 hd⟩
theorem denL_take {env : Env} : ∀ {l : List SVal} {vs : List Value} (n : Nat), DenL env l vs → DenL env (l.take n) (vs.take n)
  | [], vs, n, h => by simp only [DenL] at h; subst h; simp [DenL]
  | s :: l, vs, n, h => by
    simp only [DenL] at h
    obtain ⟨u, us, rfl, h1, h2⟩ := h
    cases n with
    | zero => simp [DenL]
    | succ n => exact denL_cons.2 ⟨h1, denL_take n h2⟩
theorem denL_drop {env : Env} : ∀ {l : List SVal} {vs : List Value} (n : Nat), DenL env l vs → DenL env (l.drop n) (vs.drop n)
  | [], vs, n, h => by simp only [DenL] at h; subst h; simp [DenL]
  | s :: l, vs, n, h => by
    simp only [DenL] at h
    obtain ⟨u, us, rfl, h1, h2⟩ := h
    cases n with
    | zero => exact denL_cons.2 ⟨h1, h2⟩
    | succ n => exact denL_drop n h2

theorem getElem?_append_some {α : Type} {l m : List α} {i : Nat} {x : α} (h : l[i]? = some x) : (l ++ m)[i]? = some x := by
  have := (List.getElem?_eq_some_iff.1 h).1
  rw [List.getElem?_append_left this]; exact h

mutual
/-- what was named before stays -/
theorem den_mono {env : Env} (more : Env) : ∀ (s : SVal) (v : Value), Den env s v → Den (env ++ more) s v
  | .lit k n, v, h => by simpa only [Den] using h
  | .int k x, v, h => by simpa only [Den] using h
  | .bl b, v, h => by simpa only [Den] using h
  | .sb b, v, h => by simpa only [Den] using h
  | .sl l, v, h => by simpa only [Den] using h
  | .str s, v, h => by simpa only [Den] using h
  | .pnil, v, h => by simpa only [Den] using h
  | .ptr id o, v, h => by
    simp only [Den] at h ⊢
    obtain ⟨e, h1, h2⟩ := h
    exact ⟨e, getElem?_append_some h1, h2⟩
  | .pti id o i sz j, v, h => by
    simp only [Den] at h ⊢
    obtain ⟨e, h1, h2⟩ := h
    exact ⟨e, getElem?_append_some h1, h2⟩
  | .pto id i j, v, h => by
    simp only [Den] at h ⊢
    obtain ⟨e, b, h1, h2⟩ := h
    exact ⟨e, b, getElem?_append_some h1, h2⟩
  | .ptw id i j, v, h => by
    simp only [Den] at h ⊢
    obtain ⟨e, b, o, h1, h2⟩ := h
    exact ⟨e, b, o, getElem?_append_some h1, h2⟩
  | .slr id i n, v, h => by
    simp only [Den] at h ⊢
    obtain ⟨e, a, cp, h1, h2⟩ := h
    exact ⟨e, a, cp, getElem?_append_some h1, h2⟩
  | .sw b x y, v, h => by
    simp only [Den] at h ⊢
    rcases h with ⟨hb, h⟩ | ⟨hb, h⟩
    · exact .inl ⟨hb, den_mono more x v h⟩
    · exact .inr ⟨hb, den_mono more y v h⟩
  | .snil, v, h => by simpa only [Den] using h
  | .sli id o sz len cp, v, h => by
    simp only [Den] at h ⊢
    obtain ⟨e, a, h1, h2⟩ := h
    exact ⟨e, a, getElem?_append_some h1, h2⟩
  | .ifc t s, v, h => by
    simp only [Den] at h ⊢
    obtain ⟨u, rfl, h2⟩ := h
    exact ⟨u, rfl, den_mono more s u h2⟩
  | .inil, v, h => by simpa only [Den] using h
  | .fn f first cap, v, h => by
    simp only [Den] at h ⊢
    obtain ⟨us, cs, rfl, h1, h2⟩ := h
    exact ⟨us, cs, rfl, denL_mono more first us h1, denL_mono more cap cs h2⟩
  | .fnil, v, h => by simpa only [Den] using h
  | .agg l, v, h => by
    simp only [Den] at h ⊢
    obtain ⟨vs, rfl, h1⟩ := h
    exact ⟨vs, rfl, denL_mono more l vs h1⟩
  | .tup l, v, h => by
    simp only [Den] at h ⊢
    obtain ⟨vs, rfl, h1⟩ := h
    exact ⟨vs, rfl, denL_mono more l vs h1⟩
  | .raw u, v, h => by simpa only [Den] using h
  | .bad, v, h => by simp only [Den]
theorem denL_mono {env : Env} (more : Env) : ∀ (l : List SVal) (vs : List Value), DenL env l vs → DenL (env ++ more) l vs
  | [], vs, h => by simpa only [DenL] using h
  | s :: l, vs, h => by
    simp only [DenL] at h ⊢
    obtain ⟨u, us, rfl, h1, h2⟩ := h
    exact ⟨u, us, rfl, den_mono more s u h1, denL_mono more l us h2⟩
end
end Go.Proofs.YtmknmbacecjfmaaDoor.Sx

/- The executor's heap: reading and writing cells, and what holds of the world. -/
namespace Go.Proofs.YtmknmbacecjfmaaDoor.Sx
set_option linter.unusedVariables false

/-! ## segments -/
def Seg.size : Seg → Nat
  | .c _ => 1
  | .a E n _ => n * E.sz
/-- the cell at a closed offset -/
def segGet : List Seg → Nat → Option SVal
  | [], _ => none
  | .c v :: r, 0 => some v
  | .c _ :: r, o + 1 => segGet r o
  | .a E n xs :: r, o => match decide (o < n * E.sz) with
    | true => some ((E.enc (xs.getD (o / E.sz) E.dflt)).getD (o % E.sz) .bad)
    | false => segGet r (o - n * E.sz)
def segSet : List Seg → Nat → SVal → Option (List Seg)
  | [], _, _ => none
  | .c _ :: r, 0, v => some (.c v :: r)
  | .c u :: r, o + 1, v => (segSet r o v).map (.c u :: ·)
  | .a E n xs :: r, o, v => match decide (o < n * E.sz) with
    | true => (E.dec ((E.enc (xs.getD (o / E.sz) E.dflt)).set (o % E.sz) v)).map fun x => .a E n (xs.set (o / E.sz) x) :: r
    | false => (segSet r (o - n * E.sz) v).map (.a E n xs :: ·)
/-- the element of the array that begins at a closed offset -/
def segGetI : List Seg → (o i sz j : Nat) → Option (SVal × Nat)
  | [], _, _, _, _ => none
  | .c _ :: r, 0, _, _, _ => none
  | .c _ :: r, o + 1, i, sz, j => segGetI r o i sz j
  | .a E n xs :: r, o, i, sz, j => match o with
    | 0 => match Nat.decEq sz E.sz, Nat.blt j sz with
      | .isTrue _, true => some ((E.enc (xs.getD i E.dflt)).getD j .bad, n)
      | _, _ => none
    | o' + 1 => match Nat.ble (n * E.sz) o with
      | true => segGetI r (o - n * E.sz) i sz j
      | false => none
def segSetI : List Seg → (o i sz j : Nat) → SVal → Option (List Seg × Nat)
  | [], _, _, _, _, _ => none
  | .c _ :: r, 0, _, _, _, _ => none
  | .c u :: r, o + 1, i, sz, j, v => (segSetI r o i sz j v).map fun p => (.c u :: p.1, p.2)
  | .a E n xs :: r, o, i, sz, j, v => match o with
    | 0 => match Nat.decEq sz E.sz, Nat.blt j sz with
      | .isTrue _, true => (E.dec ((E.enc (xs.getD i E.dflt)).set j v)).map fun x => (.a E n (xs.set i x) :: r, n)
      | _, _ => none
    | o' + 1 => match Nat.ble (n * E.sz) o with
      | true => (segSetI r (o - n * E.sz) i sz j v).map fun p => (.a E n xs :: p.1, p.2)
      | false => none

def segCells (l : List Seg) : List SVal := l.flatMap Seg.cells
def segFits (l : List Seg) : Prop := ∀ s ∈ l, s.fits

/-! ## addresses: a name, and where in it -/
inductive SAdr where
  | at (id o : Nat)
  | ix (id o i sz j : Nat)
  | ob (id i j : Nat)
  | rr (id i j : Nat)
def SAdr.id : SAdr → Nat | .at id _ => id | .ix id _ _ _ _ => id | .ob id _ _ => id | .rr id _ _ => id
def SAdr.off : SAdr → Nat | .at _ o => o | .ix _ o i sz j => o + i * sz + j | .ob _ _ j => j | .rr _ _ j => j
def SAdr.plain : SAdr → Bool | .at .. => true | .ix .. => true | _ => false
def SAdr.plus : SAdr → Nat → SAdr
  | .at id o, n => .at id (o + n)
  | .ix id o i sz j, n => .ix id o i sz (j + n)
  | .ob id i j, n => .ob id i (j + n)
  | .rr id i j, n => .rr id i (j + n)
def SVal.adr? : SVal → Option SAdr
  | .ptr id o => some (.at id o)
  | .pti id o i sz j => some (.ix id o i sz j)
  | .pto id i j => some (.ob id i j)
  | .ptw id i j => some (.rr id i j)
  | _ => none
def SAdr.toVal : SAdr → SVal
  | .at id o => .ptr id o
  | .ix id o i sz j => .pti id o i sz j
  | .ob id i j => .pto id i j
  | .rr id i j => .ptw id i j

/-- the cell at an address; the Bool must be true -/
def rd (st : St) (a : SAdr) : Option (SVal × Bool) :=
  match st[a.id]? with
  | some (.own segs _) => match a with
    | .at _ o => (segGet segs o).map (·, true)
    | .ix _ o i sz j => (segGetI segs o i sz j).map fun p => (p.1, decide (i < p.2))
    | .ob .. => none
    | .rr .. => none
  | some (.vec E xs _) => match a with
    | .at _ o => some ((E.enc (xs.getD (o / E.sz) E.dflt)).getD (o % E.sz) .bad, decide (o / E.sz < xs.length))
    | .ix _ 0 i sz j => match Nat.decEq sz E.sz, Nat.blt j sz with
      | .isTrue _, true => some ((E.enc (xs.getD i E.dflt)).getD j .bad, decide (i < xs.length))
      | _, _ => none
    | _ => none
  | some (.ro E xs) => match a with
    | .at _ o => some ((E.enc (xs.getD (o / E.sz) E.dflt)).getD (o % E.sz) .bad, decide (o / E.sz < xs.length))
    | .ix _ 0 i sz j => match Nat.decEq sz E.sz, Nat.blt j sz with
      | .isTrue _, true => some ((E.enc (xs.getD i E.dflt)).getD j .bad, decide (i < xs.length))
      | _, _ => none
    | _ => none
  | some (.many E xs _) => match a with
    | .ob _ i j => match Nat.blt j E.sz with
      | true => some ((E.enc (xs.getD i E.dflt)).getD j .bad, decide (i < xs.length))
      | false => none
    | _ => none
  | some (.rows _ k xss) => match a with
    | .rr _ i j => some (.int k ((xss.getD i []).getD j 0), decide (i < xss.length) && decide (j < (xss.getD i []).length))
    | _ => none
  | _ => none
def wr (st : St) (a : SAdr) (v : SVal) : Option (St × Bool) :=
  match st[a.id]? with
  | some (.own segs T) => match a with
    | .at id o => (segSet segs o v).map fun s => (st.set id (.own s T), true)
    | .ix id o i sz j => (segSetI segs o i sz j v).map fun p => (st.set id (.own p.1 T), decide (i < p.2))
    | .ob .. => none
    | .rr .. => none
  | some (.vec E xs T) => match a with
    | .at id o => (E.dec ((E.enc (xs.getD (o / E.sz) E.dflt)).set (o % E.sz) v)).map fun x => (st.set id (.vec E (xs.set (o / E.sz) x) T), decide (o / E.sz < xs.length))
    | .ix id 0 i sz j => match Nat.decEq sz E.sz, Nat.blt j sz with
      | .isTrue _, true => (E.dec ((E.enc (xs.getD i E.dflt)).set j v)).map fun x => (st.set id (.vec E (xs.set i x) T), decide (i < xs.length))
      | _, _ => none
    | _ => none
  | some (.many E xs T) => match a with
    | .ob id i j => match Nat.blt j E.sz with
      | true => (E.dec ((E.enc (xs.getD i E.dflt)).set j v)).map fun x => (st.set id (.many E (xs.set i x) T), decide (i < xs.length))
      | false => none
    | _ => none
  | _ => none

/-! ## the world -/
/-- the blocks of a family of rows, each with where it begins -/
def evs : List Nat → List Nat
  | b :: _ :: r => b :: evs r
  | _ => []
theorem evs_get : ∀ {l : List Nat} {i b o : Nat}, l[2 * i]? = some b → l[2 * i + 1]? = some o → b ∈ evs l
  | [], i, b, o, h, _ => by simp at h
  | [x], i, b, o, h, h' => by simp at h'
  | x :: y :: r, 0, b, o, h, _ => by simp at h; subst h; simp [evs]
  | x :: y :: r, i + 1, b, o, h, h' => by
    rw [show 2 * (i + 1) = 2 * i + 1 + 1 by omega] at h h'
    simp only [List.getElem?_cons_succ] at h h'
    rw [evs]
    exact List.mem_cons_of_mem _ (evs_get h h')
theorem evs_append : ∀ {l : List Nat} {n : Nat} (_ : l.length = 2 * n) (b o : Nat), evs (l ++ [b, o]) = evs l ++ [b]
  | [], n, h, b, o => rfl
  | [x], n, h, b, o => by simp at h; omega
  | x :: y :: r, n, h, b, o => by
    simp only [List.cons_append, evs]
    rw [evs_append (n := n - 1) (by simp at h; omega) b o]
def Blk.holds (env : Env) (e : Slot) (w : World) : Blk → Prop
  | .own segs T => e.off = 0 ∧ segFits segs ∧ ∃ cs, w.heap[e.blk]? = some (.cells ⟨cs⟩ T (0, 0)) ∧ DenL env (segCells segs) cs
  | .vec E xs T => e.off = 0 ∧ xs.length ≤ e.cap ∧ (0 < e.cap → ∃ cs junk, w.heap[e.blk]? = some (.cells ⟨cs ++ junk⟩ T (0, 0)) ∧ DenL env (xs.flatMap E.enc) cs ∧ (cs ++ junk).length = e.cap * E.sz)
  | .ro E xs => ∃ cs, DenL env (xs.flatMap E.enc) cs ∧ ∀ i, i < cs.length → w.cell? ⟨e.blk, e.off + i, none⟩ = cs[i]?
  | .many E xs T => e.fam.length = xs.length ∧ e.fam.Nodup ∧ ∀ i b, e.fam[i]? = some b → ∃ cs, w.heap[b]? = some (.cells ⟨cs⟩ T (0, 0)) ∧ DenL env (E.enc (xs.getD i E.dflt)) cs
  | .rows _ k xss => e.fam.length = 2 * xss.length ∧ ∀ i b o, e.fam[2 * i]? = some b → e.fam[2 * i + 1]? = some o → ∀ j, j < (xss.getD i []).length → w.cell? ⟨b, o + j, none⟩ = some (.int k ((xss.getD i []).getD j 0))
  | .gone => True
/-- the blocks that may change -/
def Blk.foot (e : Slot) : Blk → List Nat
  | .own .. => [e.blk]
  | .vec .. => match e.cap with | 0 => [] | _ + 1 => [e.blk]
  | .many .. => e.fam
  | .rows ow _ _ => match ow with | true => evs e.fam | false => []
  | _ => []
/-- the blocks on which it hangs -/
def Blk.supp (e : Slot) : Blk → List Nat
  | .own .. => [e.blk]
  | .vec .. => match e.cap with | 0 => [] | _ + 1 => [e.blk]
  | .ro _ xs => match xs with | [] => [] | _ :: _ => [e.blk]
  | .many .. => e.fam
  | .rows _ _ _ => evs e.fam
  | .gone => []

structure Rep (env : Env) (st : St) (w : World) : Prop where
  len : env.length = st.length
  holds : ∀ (id : Nat) (e : Slot) (b : Blk), env[id]? = some e → st[id]? = some b → b.holds env e w
  apart : ∀ (i j : Nat) (e f : Slot) (b c : Blk), i ≠ j → env[i]? = some e → env[j]? = some f → st[i]? = some b → st[j]? = some c → ∀ x ∈ b.foot e, x ∉ c.supp f
  low : ∀ (id : Nat) (e : Slot) (b : Blk), env[id]? = some e → st[id]? = some b → ∀ x ∈ b.supp e, x < w.heap.size

def inFoot (env : Env) (st : St) (x : Nat) : Prop := ∃ (id : Nat) (e : Slot) (b : Blk), env[id]? = some e ∧ st[id]? = some b ∧ x ∈ b.foot e

/-- how a state went on -/
structure Ext (env : Env) (st : St) (w : World) (env' : Env) (st' : St) (w' : World) : Prop where
  more : ∃ more, env' = env ++ more
  size : w.heap.size ≤ w'.heap.size
  keep : ∀ x, x < w.heap.size → ¬ inFoot env st x → w'.heap[x]? = w.heap[x]?
  foot : ∀ x, x < w.heap.size → inFoot env' st' x → inFoot env st x
  calm : w'.os = w.os ∧ w'.output = w.output

theorem Ext.refl (env : Env) (st : St) (w : World) : Ext env st w env st w := ⟨⟨[], by simp⟩, Nat.le_refl _, fun _ _ _ => rfl, fun _ _ h => h, rfl, rfl⟩
theorem Ext.trans {env env' env'' : Env} {st st' st'' : St} {w w' w'' : World} (h : Ext env st w env' st' w') (h' : Ext env' st' w' env'' st'' w'') :
    Ext env st w env'' st'' w'' := by
  obtain ⟨⟨m, rfl⟩, h2, h3, h4, h5, h6⟩ := h
  obtain ⟨⟨m', rfl⟩, k2, k3, k4, k5, k6⟩ := h'
  refine ⟨⟨m ++ m', by simp⟩, Nat.le_trans h2 k2, fun x hx hn => ?_, fun x hx hf => h4 x hx (k4 x (Nat.lt_of_lt_of_le hx h2) hf), k5.trans h5, k6.trans h6⟩
  rw [k3 x (Nat.lt_of_lt_of_le hx h2) (fun hf => hn (h4 x hx hf)), h3 x hx hn]
theorem Ext.den {env env' : Env} {st st' : St} {w w' : World} (h : Ext env st w env' st' w') {s : SVal} {v : Value} (hd : Den env s v) : Den env' s v := by
  obtain ⟨⟨m, rfl⟩, _⟩ := h; exact den_mono m s v hd
theorem Ext.denL {env env' : Env} {st st' : St} {w w' : World} (h : Ext env st w env' st' w') {s : List SVal} {v : List Value} (hd : DenL env s v) : DenL env' s v := by
  obtain ⟨⟨m, rfl⟩, _⟩ := h; exact denL_mono m s v hd

/-! ## flat arrays -/
theorem flat_length {X : Type} (E : Enc X) (xs : List X) : (xs.flatMap E.enc).length = xs.length * E.sz := by
  induction xs with
  | nil => simp
  | cons x xs ih => simp only [List.flatMap_cons, List.length_append, ih, E.len, List.length_cons, Nat.succ_mul]; omega
theorem flat_getD {X : Type} (E : Enc X) (d : SVal) : ∀ (xs : List X) (i j : Nat), i < xs.length → j < E.sz →
    (xs.flatMap E.enc).getD (i * E.sz + j) d = (E.enc (xs.getD i E.dflt)).getD j d
  | [], i, j, h, _ => by simp at h
  | x :: xs, 0, j, h, hj => by
    have : j < (E.enc x).length := by rw [E.len]; exact hj
    simp [List.getElem?_append_left this]
  | x :: xs, i + 1, j, h, hj => by
    have h1 : (E.enc x).length ≤ (i + 1) * E.sz + j := by rw [E.len, Nat.succ_mul]; omega
    have h2 : (i + 1) * E.sz + j - (E.enc x).length = i * E.sz + j := by rw [E.len, Nat.succ_mul]; omega
    have := flat_getD E d xs i j (by simpa using h) hj
    simp only [List.flatMap_cons, List.getD_eq_getElem?_getD, List.getElem?_append_right h1, h2, List.getElem?_cons_succ] at this ⊢
    exact this
theorem div_lt_of {o n s : Nat} (hs : 0 < s) (h : o < n * s) : o / s < n := (Nat.div_lt_iff_lt_mul hs).2 h
theorem div_mul_mod (o s : Nat) : o / s * s + o % s = o := by rw [Nat.mul_comm]; exact Nat.div_add_mod o s

/-! ## reading and writing are right -/
theorem flat_get_ok {X : Type} {env : Env} (E : Enc X) {xs : List X} {cs : List Value} (h : DenL env (xs.flatMap E.enc) cs) {i j : Nat} (hi : i < xs.length) (hj : j < E.sz) :
    ∃ v, cs[i * E.sz + j]? = some v ∧ Den env ((E.enc (xs.getD i E.dflt)).getD j .bad) v := by
  have hlt : i * E.sz + j < (xs.flatMap E.enc).length := by
    rw [flat_length]
    have : (i + 1) * E.sz ≤ xs.length * E.sz := Nat.mul_le_mul_right _ hi
    rw [Nat.succ_mul] at this; omega
  obtain ⟨v, hv, hd⟩ := denL_get _ h hlt
  exact ⟨v, hv, by rwa [flat_getD E .bad xs i j hi hj] at hd⟩

theorem flat_set_ok {X : Type} {env : Env} (E : Enc X) : ∀ {xs : List X} {cs : List Value} (_ : DenL env (xs.flatMap E.enc) cs) {i j : Nat} (_ : i < xs.length) (_ : j < E.sz) {s : SVal} {v : Value} {x : X}
    (_ : Den env s v) (_ : E.dec ((E.enc (xs.getD i E.dflt)).set j s) = some x), DenL env ((xs.set i x).flatMap E.enc) (cs.set (i * E.sz + j) v)
  | [], cs, h, i, j, hi, hj, s, v, x, hd, hx => by simp at hi
  | y :: xs, cs, h, 0, j, hi, hj, s, v, x, hd, hx => by
    simp only [List.flatMap_cons] at h
    obtain ⟨us, ws, rfl, h1, h2⟩ := denL_split h
    have hl := denL_length h1
    rw [E.len] at hl
    simp only [List.set_cons_zero, List.flatMap_cons, Nat.zero_mul, Nat.zero_add]
    rw [List.set_append_left _ _ (by omega)]
    refine denL_append (E.ok env _ x _ (by simpa using hx) ?_) h2
    exact denL_set j h1 hd
  | y :: xs, cs, h, i + 1, j, hi, hj, s, v, x, hd, hx => by
    simp only [List.flatMap_cons] at h
    obtain ⟨us, ws, rfl, h1, h2⟩ := denL_split h
    have hl := denL_length h1
    rw [E.len] at hl
    have e1 : us.length ≤ (i + 1) * E.sz + j := by rw [hl, Nat.succ_mul]; omega
    have e2 : (i + 1) * E.sz + j - us.length = i * E.sz + j := by rw [hl, Nat.succ_mul]; omega
    simp only [List.set_cons_succ, List.flatMap_cons]
    rw [List.set_append_right _ _ e1, e2]
    exact denL_append h1 (flat_set_ok E h2 (by simpa using hi) hj hd (by simpa using hx))

theorem segGet_ok {env : Env} : ∀ {l : List Seg} {o : Nat} {s : SVal} {cs : List Value}, segFits l → segGet l o = some s → DenL env (segCells l) cs →
    ∃ v, cs[o]? = some v ∧ Den env s v
  | [], o, s, cs, hf, h, hd => by simp [segGet] at h
  | .c u :: r, 0, s, cs, hf, h, hd => by
    simp only [segGet, Option.some.injEq] at h; subst h
    simp only [segCells, List.flatMap_cons, Seg.cells, List.cons_append, List.nil_append] at hd
    simp only [DenL] at hd
    obtain ⟨x, xs, rfl, h1, _⟩ := hd
    exact ⟨x, rfl, h1⟩
  | .c u :: r, o + 1, s, cs, hf, h, hd => by
    simp only [segGet] at h
    simp only [segCells, List.flatMap_cons, Seg.cells, List.cons_append, List.nil_append] at hd
    simp only [DenL] at hd
    obtain ⟨x, xs, rfl, _, h2⟩ := hd
    obtain ⟨v, hv, hd⟩ := segGet_ok (l := r) (fun s hs => hf s (List.mem_cons_of_mem _ hs)) h h2
    exact ⟨v, by simpa using hv, hd⟩
  | .a E n xs :: r, o, s, cs, hf, h, hd => by
    have hn : xs.length = n := hf _ List.mem_cons_self
    simp only [segCells, List.flatMap_cons, Seg.cells] at hd
    obtain ⟨us, ws, rfl, h1, h2⟩ := denL_split hd
    have hl := denL_length h1
    rw [flat_length, hn] at hl
    simp only [segGet] at h
    split at h
    · rename_i hlt
      simp only [decide_eq_true_eq] at hlt
      simp only [Option.some.injEq] at h; subst h
      obtain ⟨v, hv, hd⟩ := flat_get_ok E h1 (i := o / E.sz) (j := o % E.sz) (by rw [hn]; exact div_lt_of E.pos hlt) (Nat.mod_lt _ E.pos)
      rw [div_mul_mod] at hv
      exact ⟨v, by rw [List.getElem?_append_left (by omega)]; exact hv, hd⟩
    · rename_i hlt
      simp only [decide_eq_false_iff_not] at hlt
      obtain ⟨v, hv, hd⟩ := segGet_ok (l := r) (fun s hs => hf s (List.mem_cons_of_mem _ hs)) h h2
      exact ⟨v, by rw [List.getElem?_append_right (by omega), hl]; exact hv, hd⟩

theorem segSet_ok {env : Env} : ∀ {l l' : List Seg} {o : Nat} {s : SVal} {v : Value} {cs : List Value}, segFits l → segSet l o s = some l' → DenL env (segCells l) cs → Den env s v →
    segFits l' ∧ o < cs.length ∧ DenL env (segCells l') (cs.set o v)
  | [], l', o, s, v, cs, hf, h, hd, hs => by simp [segSet] at h
  | .c u :: r, l', 0, s, v, cs, hf, h, hd, hs => by
    simp only [segSet, Option.some.injEq] at h; subst h
    simp only [segCells, List.flatMap_cons, Seg.cells, List.cons_append, List.nil_append] at hd ⊢
    simp only [DenL] at hd
    obtain ⟨x, xs, rfl, h1, h2⟩ := hd
    refine ⟨fun s' hs' => ?_, by simp, denL_cons.2 ⟨hs, h2⟩⟩
    rcases List.mem_cons.1 hs' with rfl | hs'
    · trivial
    · exact hf s' (List.mem_cons_of_mem _ hs')
  | .c u :: r, l', o + 1, s, v, cs, hf, h, hd, hs => by
    simp only [segSet, Option.map_eq_some_iff] at h
    obtain ⟨r', hr, rfl⟩ := h
    simp only [segCells, List.flatMap_cons, Seg.cells, List.cons_append, List.nil_append] at hd ⊢
    simp only [DenL] at hd
    obtain ⟨x, xs, rfl, h1, h2⟩ := hd
    obtain ⟨k1, k2, k3⟩ := segSet_ok (l := r) (fun s hs => hf s (List.mem_cons_of_mem _ hs)) hr h2 hs
    refine ⟨fun s' hs' => ?_, by simpa using k2, denL_cons.2 ⟨h1, k3⟩⟩
    rcases List.mem_cons.1 hs' with rfl | hs'
    · trivial
    · exact k1 s' hs'
  | .a E n xs :: r, l', o, s, v, cs, hf, h, hd, hs => by
    have hn : xs.length = n := hf _ List.mem_cons_self
    simp only [segCells, List.flatMap_cons, Seg.cells] at hd
    obtain ⟨us, ws, rfl, h1, h2⟩ := denL_split hd
    have hl := denL_length h1
    rw [flat_length, hn] at hl
    simp only [segSet] at h
    split at h
    · rename_i hlt
      simp only [decide_eq_true_eq] at hlt
      simp only [Option.map_eq_some_iff] at h
      obtain ⟨x, hx, rfl⟩ := h
      have := flat_set_ok E h1 (i := o / E.sz) (j := o % E.sz) (by rw [hn]; exact div_lt_of E.pos hlt) (Nat.mod_lt _ E.pos) hs hx
      rw [div_mul_mod] at this
      refine ⟨fun s' hs' => ?_, by simp; omega, ?_⟩
      · rcases List.mem_cons.1 hs' with rfl | hs'
        · simp [Seg.fits, hn]
        · exact hf s' (List.mem_cons_of_mem _ hs')
      · simp only [segCells, List.flatMap_cons, Seg.cells]
        rw [List.set_append_left _ _ (by omega)]
        exact denL_append this h2
    · rename_i hlt
      simp only [decide_eq_false_iff_not] at hlt
      simp only [Option.map_eq_some_iff] at h
      obtain ⟨r', hr, rfl⟩ := h
      obtain ⟨k1, k2, k3⟩ := segSet_ok (l := r) (fun s hs => hf s (List.mem_cons_of_mem _ hs)) hr h2 hs
      refine ⟨fun s' hs' => ?_, by simp; omega, ?_⟩
      · rcases List.mem_cons.1 hs' with rfl | hs'
        · exact hn
        · exact k1 s' hs'
      · simp only [segCells, List.flatMap_cons, Seg.cells]
        rw [List.set_append_right _ _ (by omega), hl]
        exact denL_append h1 k3

theorem segGetI_ok {env : Env} : ∀ {l : List Seg} {o i sz j : Nat} {s : SVal} {n : Nat} {cs : List Value}, segFits l → segGetI l o i sz j = some (s, n) → i < n → DenL env (segCells l) cs →
    ∃ v, cs[o + i * sz + j]? = some v ∧ Den env s v
  | [], o, i, sz, j, s, n, cs, hf, h, hi, hd => by simp [segGetI] at h
  | .c u :: r, 0, i, sz, j, s, n, cs, hf, h, hi, hd => by simp [segGetI] at h
  | .c u :: r, o + 1, i, sz, j, s, n, cs, hf, h, hi, hd => by
    simp only [segGetI] at h
    simp only [segCells, List.flatMap_cons, Seg.cells, List.cons_append, List.nil_append] at hd
    simp only [DenL] at hd
    obtain ⟨x, xs, rfl, _, h2⟩ := hd
    obtain ⟨v, hv, hd⟩ := segGetI_ok (l := r) (fun s hs => hf s (List.mem_cons_of_mem _ hs)) h hi h2
    exact ⟨v, by rw [show o + 1 + i * sz + j = (o + i * sz + j) + 1 by omega]; simpa using hv, hd⟩
  | .a E m xs :: r, o, i, sz, j, s, n, cs, hf, h, hi, hd => by
    have hn : xs.length = m := hf _ List.mem_cons_self
    simp only [segCells, List.flatMap_cons, Seg.cells] at hd
    obtain ⟨us, ws, rfl, h1, h2⟩ := denL_split hd
    have hl := denL_length h1
    rw [flat_length, hn] at hl
    cases o with
    | zero =>
      simp only [segGetI] at h
      split at h
      · rename_i hsz _ hj
        simp only [Option.some.injEq, Prod.mk.injEq] at h
        obtain ⟨rfl, rfl⟩ := h
        subst hsz
        have hj' : j < E.sz := Nat.le_of_ble_eq_true hj
        obtain ⟨v, hv, hd⟩ := flat_get_ok E h1 (i := i) (j := j) (by omega) hj'
        have hlt : i * E.sz + j < us.length := (List.getElem?_eq_some_iff.1 hv).1
        exact ⟨v, by rw [Nat.zero_add, List.getElem?_append_left hlt]; exact hv, hd⟩
      · simp at h
    | succ o =>
      simp only [segGetI] at h
      split at h
      · rename_i hle
        have hle' := Nat.le_of_ble_eq_true hle
        obtain ⟨v, hv, hd⟩ := segGetI_ok (l := r) (fun s hs => hf s (List.mem_cons_of_mem _ hs)) h hi h2
        exact ⟨v, by rw [List.getElem?_append_right (by omega), hl, show o + 1 + i * sz + j - m * E.sz = o + 1 - m * E.sz + i * sz + j by omega]; exact hv, hd⟩
      · simp at h

theorem segSetI_ok {env : Env} : ∀ {l l' : List Seg} {o i sz j : Nat} {s : SVal} {v : Value} {n : Nat} {cs : List Value}, segFits l → segSetI l o i sz j s = some (l', n) → i < n → DenL env (segCells l) cs → Den env s v →
    segFits l' ∧ o + i * sz + j < cs.length ∧ DenL env (segCells l') (cs.set (o + i * sz + j) v)
  | [], l', o, i, sz, j, s, v, n, cs, hf, h, hi, hd, hs => by simp [segSetI] at h
  | .c u :: r, l', 0, i, sz, j, s, v, n, cs, hf, h, hi, hd, hs => by simp [segSetI] at h
  | .c u :: r, l', o + 1, i, sz, j, s, v, n, cs, hf, h, hi, hd, hs => by
    simp only [segSetI, Option.map_eq_some_iff] at h
    obtain ⟨⟨r', n'⟩, hr, h⟩ := h
    simp only [Prod.mk.injEq] at h
    obtain ⟨rfl, rfl⟩ := h
    simp only [segCells, List.flatMap_cons, Seg.cells, List.cons_append, List.nil_append] at hd ⊢
    simp only [DenL] at hd
    obtain ⟨x, xs, rfl, h1, h2⟩ := hd
    obtain ⟨k1, k2, k3⟩ := segSetI_ok (l := r) (fun s hs => hf s (List.mem_cons_of_mem _ hs)) hr hi h2 hs
    rw [show o + 1 + i * sz + j = (o + i * sz + j) + 1 by omega]
    refine ⟨fun s' hs' => ?_, by simpa using k2, denL_cons.2 ⟨h1, k3⟩⟩
    rcases List.mem_cons.1 hs' with rfl | hs'
    · trivial
    · exact k1 s' hs'
  | .a E m xs :: r, l', o, i, sz, j, s, v, n, cs, hf, h, hi, hd, hs => by
    have hn : xs.length = m := hf _ List.mem_cons_self
    simp only [segCells, List.flatMap_cons, Seg.cells] at hd
    obtain ⟨us, ws, rfl, h1, h2⟩ := denL_split hd
    have hl := denL_length h1
    rw [flat_length, hn] at hl
    cases o with
    | zero =>
      simp only [segSetI] at h
      split at h
      · rename_i hsz _ hj
        simp only [Option.map_eq_some_iff, Prod.mk.injEq] at h
        obtain ⟨x, hx, rfl, rfl⟩ := h
        subst hsz
        have hj' : j < E.sz := Nat.le_of_ble_eq_true hj
        have := flat_set_ok E h1 (i := i) (j := j) (by omega) hj' hs hx
        obtain ⟨v', hv, _⟩ := flat_get_ok E h1 (i := i) (j := j) (by omega) hj'
        have hlt : i * E.sz + j < us.length := (List.getElem?_eq_some_iff.1 hv).1
        rw [Nat.zero_add]
        refine ⟨fun s' hs' => ?_, by simp; omega, ?_⟩
        · rcases List.mem_cons.1 hs' with rfl | hs'
          · simp [Seg.fits, hn]
          · exact hf s' (List.mem_cons_of_mem _ hs')
        · simp only [segCells, List.flatMap_cons, Seg.cells]
          rw [List.set_append_left _ _ hlt]
          exact denL_append this h2
      · simp at h
    | succ o =>
      simp only [segSetI] at h
      split at h
      · rename_i hle
        have hle' := Nat.le_of_ble_eq_true hle
        simp only [Option.map_eq_some_iff, Prod.mk.injEq] at h
        obtain ⟨⟨r', n'⟩, hr, rfl, rfl⟩ := h
        obtain ⟨k1, k2, k3⟩ := segSetI_ok (l := r) (fun s hs => hf s (List.mem_cons_of_mem _ hs)) hr hi h2 hs
        have e1 : o + 1 + i * sz + j - m * E.sz = o + 1 - m * E.sz + i * sz + j := by omega
        refine ⟨fun s' hs' => ?_, by simp; omega, ?_⟩
        · rcases List.mem_cons.1 hs' with rfl | hs'
          · exact hn
          · exact k1 s' hs'
        · simp only [segCells, List.flatMap_cons, Seg.cells]
          rw [List.set_append_right _ _ (by omega), hl, e1]
          exact denL_append h1 k3
      · simp at h

theorem getElem?_mk {α : Type} (l : List α) (i : Nat) : ((⟨l⟩ : Array α)[i]?) = l[i]? := by simp

theorem blk_cell {w : World} {b : Nat} {cs : List Value} {T : TypeId} {z : Nat × Nat} (h : w.heap[b]? = some (.cells ⟨cs⟩ T z)) (i : Nat) : w.cell? ⟨b, i, none⟩ = cs[i]? := by
  simp [World.cell?, h]
theorem blk_free {w : World} {b : Nat} {cs : Array Value} {T : TypeId} (h : w.heap[b]? = some (.cells cs T (0, 0))) (i : Nat) : w.frozen? ⟨b, i, none⟩ = false := by
  simp [World.frozen?, h]
theorem blk_set {w : World} {b : Nat} {cs : List Value} {T : TypeId} {z : Nat × Nat} (h : w.heap[b]? = some (.cells ⟨cs⟩ T z)) (i : Nat) (v : Value) :
    (w.setCell ⟨b, i, none⟩ v).heap[b]? = some (.cells ⟨cs.set i v⟩ T z) := by
  simp only [World.setCell, Array.getElem?_modify, h, if_true, Option.map_some, Option.isSome_none, Bool.false_eq_true, if_false]
  congr 2
  exact Array.ext' (by simp)
theorem set_other {w : World} {a : Addr} {v : Value} {x : Nat} (h : x ≠ a.block) : (w.setCell a v).heap[x]? = w.heap[x]? := by
  simp only [World.setCell, Array.getElem?_modify]
  rw [if_neg (fun e => h e.symm)]
theorem set_size {w : World} {a : Addr} {v : Value} : (w.setCell a v).heap.size = w.heap.size := by simp [World.setCell]

theorem vec_supp {e : Slot} (hc : 0 < e.cap) {X : Type} {E : Enc X} {xs : List X} {T : TypeId} : e.blk ∈ Blk.supp e (.vec E xs T) := by
  simp only [Blk.supp]
  split
  · omega
  · simp
theorem vec_foot {e : Slot} {x : Nat} {X : Type} {E : Enc X} {xs : List X} {T : TypeId} (h : x ∈ Blk.foot e (.vec E xs T)) : x ∈ [e.blk] := by
  simp only [Blk.foot] at h
  split at h
  · cases h
  · exact h
/-- what hangs on blocks that did not change holds on -/
theorem Blk.holds_of_supp {env : Env} {e : Slot} {w w' : World} {b : Blk} (h : b.holds env e w) (hs : ∀ x ∈ b.supp e, w'.heap[x]? = w.heap[x]?) : b.holds env e w' := by
  cases b with
  | own segs T =>
    obtain ⟨h0, h1, cs, h2, h3⟩ := h
    exact ⟨h0, h1, cs, by rw [hs e.blk (by simp [Blk.supp])]; exact h2, h3⟩
  | vec E xs T =>
    obtain ⟨h0, h1, h⟩ := h
    refine ⟨h0, h1, fun hc => ?_⟩
    obtain ⟨cs, junk, h2, h3⟩ := h hc
    exact ⟨cs, junk, by rw [hs e.blk (vec_supp hc)]; exact h2, h3⟩
  | ro E xs =>
    obtain ⟨cs, h1, h2⟩ := h
    refine ⟨cs, h1, fun i hi => ?_⟩
    cases xs with
    | nil =>
      simp only [List.flatMap_nil, DenL] at h1
      subst h1
      simp at hi
    | cons x xs =>
      rw [← h2 i hi]
      simp only [World.cell?]
      rw [hs e.blk (by simp [Blk.supp])]
  | many E xs T =>
    obtain ⟨h0, h1, h2⟩ := h
    refine ⟨h0, h1, fun i b hb => ?_⟩
    obtain ⟨cs, h3, h4⟩ := h2 i b hb
    exact ⟨cs, by rw [hs b (List.mem_of_getElem? hb)]; exact h3, h4⟩
  | rows ow k xss =>
    obtain ⟨h0, h1⟩ := h
    refine ⟨h0, fun i b o hb ho j hj => ?_⟩
    rw [← h1 i b o hb ho j hj]
    simp only [World.cell?]
    rw [hs b (evs_get hb ho)]
  | gone => trivial
theorem Blk.holds_mono {env : Env} {e : Slot} {w : World} {b : Blk} (more : Env) (h : b.holds env e w) : b.holds (env ++ more) e w := by
  cases b with
  | own segs T =>
    obtain ⟨h0, h1, cs, h2, h3⟩ := h
    exact ⟨h0, h1, cs, h2, denL_mono _ _ _ h3⟩
  | vec E xs T =>
    obtain ⟨h0, h1, h⟩ := h
    refine ⟨h0, h1, fun hc => ?_⟩
    obtain ⟨cs, junk, h2, h3, h4⟩ := h hc
    exact ⟨cs, junk, h2, denL_mono _ _ _ h3, h4⟩
  | ro E xs =>
    obtain ⟨cs, h1, h2⟩ := h
    exact ⟨cs, denL_mono _ _ _ h1, h2⟩
  | many E xs T =>
    obtain ⟨h0, h1, h2⟩ := h
    refine ⟨h0, h1, fun i b hb => ?_⟩
    obtain ⟨cs, h3, h4⟩ := h2 i b hb
    exact ⟨cs, h3, denL_mono _ _ _ h4⟩
  | rows ow k xss => exact h
  | gone => trivial
theorem foot_sub_supp {b : Blk} {e : Slot} {x : Nat} (h : x ∈ b.foot e) : x ∈ b.supp e := by
  cases b with
  | rows ow k xss => cases ow <;> simp_all [Blk.foot, Blk.supp]
  | _ => simp_all [Blk.foot, Blk.supp]

theorem SVal.adr_val {p : SVal} {a : SAdr} (h : p.adr? = some a) : p = a.toVal := by
  cases p <;> simp [SVal.adr?] at h <;> subst h <;> rfl
/-- what an address stands for -/
def Slot.adr (e : Slot) : SAdr → Option Addr
  | .at _ o => some ⟨e.blk, e.off + o, none⟩
  | .ix _ o i sz j => some ⟨e.blk, e.off + (o + i * sz + j), none⟩
  | .ob _ i j => (e.fam[i]?).map fun b => ⟨b, j, none⟩
  | .rr _ i j => (e.fam[2 * i]?).bind fun b => (e.fam[2 * i + 1]?).map fun o => ⟨b, o + j, none⟩
def AdrIs (env : Env) (a : SAdr) (A : Addr) : Prop := ∃ e, env[a.id]? = some e ∧ e.adr a = some A
theorem adr_cases {e : Slot} {a : SAdr} {A : Addr} (h : e.adr a = some A) : (∃ id i j b, a = .ob id i j ∧ e.fam[i]? = some b ∧ A = ⟨b, j, none⟩) ∨ (∃ id i j b o, a = .rr id i j ∧ e.fam[2 * i]? = some b ∧ e.fam[2 * i + 1]? = some o ∧ A = ⟨b, o + j, none⟩) ∨ (a.plain = true ∧ A = ⟨e.blk, e.off + a.off, none⟩) := by
  cases a with
  | «at» id o => simp only [Slot.adr, Option.some.injEq] at h; exact .inr (.inr ⟨rfl, h.symm⟩)
  | ix id o i sz j => simp only [Slot.adr, Option.some.injEq] at h; exact .inr (.inr ⟨rfl, h.symm⟩)
  | ob id i j =>
    simp only [Slot.adr, Option.map_eq_some_iff] at h
    obtain ⟨b, h1, h2⟩ := h
    exact .inl ⟨id, i, j, b, rfl, h1, h2.symm⟩
  | rr id i j =>
    simp only [Slot.adr, Option.bind_eq_some_iff, Option.map_eq_some_iff] at h
    obtain ⟨b, h1, o, h2, h3⟩ := h
    exact .inr (.inl ⟨id, i, j, b, o, rfl, h1, h2, h3.symm⟩)
theorem adr_spot {env : Env} {a : SAdr} {A : Addr} (h : AdrIs env a A) : A.spot = none := by
  obtain ⟨e, _, h⟩ := h
  rcases adr_cases h with ⟨_, _, _, _, _, _, rfl⟩ | ⟨_, _, _, _, _, _, _, _, rfl⟩ | ⟨_, rfl⟩ <;> rfl
theorem adr_den {env : Env} {p : SVal} {a : SAdr} {v : Value} (h : p.adr? = some a) (hd : Den env p v) : ∃ A, v = .pointer (some A) ∧ AdrIs env a A := by
  cases p <;> simp only [SVal.adr?, Option.some.injEq, reduceCtorEq] at h
  · subst h
    simp only [Den] at hd
    obtain ⟨e, h1, rfl⟩ := hd
    exact ⟨_, rfl, e, h1, rfl⟩
  · subst h
    simp only [Den] at hd
    obtain ⟨e, h1, rfl⟩ := hd
    exact ⟨_, rfl, e, h1, by simp [Slot.adr, Nat.add_assoc]⟩
  · subst h
    simp only [Den] at hd
    obtain ⟨e, b, h1, h2, rfl⟩ := hd
    exact ⟨_, rfl, e, h1, by simp [Slot.adr, h2]⟩
  · subst h
    simp only [Den] at hd
    obtain ⟨e, b, o, h1, h2, h3, rfl⟩ := hd
    exact ⟨_, rfl, e, h1, by simp [Slot.adr, h2, h3]⟩
theorem adr_toVal {env : Env} {a : SAdr} {A : Addr} (h : AdrIs env a A) : Den env a.toVal (.pointer (some A)) := by
  obtain ⟨e, h1, h2⟩ := h
  rcases adr_cases h2 with ⟨id, i, j, b, rfl, h3, rfl⟩ | ⟨id, i, j, b, o, rfl, h3, h4, rfl⟩ | ⟨h3, rfl⟩
  · simp only [SAdr.toVal, Den]
    exact ⟨e, b, h1, h3, rfl⟩
  · simp only [SAdr.toVal, Den]
    exact ⟨e, b, o, h1, h3, h4, rfl⟩
  · cases a with
    | «at» id o => simp only [SAdr.toVal, Den]; exact ⟨e, h1, rfl⟩
    | ix id o i sz j => simp only [SAdr.toVal, Den]; exact ⟨e, h1, by simp [SAdr.off, Nat.add_assoc]⟩
    | ob id i j => cases h3
    | rr id i j => cases h3
theorem adr_plus {env : Env} {a : SAdr} {A : Addr} (h : AdrIs env a A) (n : Nat) : AdrIs env (a.plus n) (A.add n) := by
  obtain ⟨e, h1, h2⟩ := h
  rcases adr_cases h2 with ⟨id, i, j, b, rfl, h3, rfl⟩ | ⟨id, i, j, b, o, rfl, h3, h4, rfl⟩ | ⟨h3, rfl⟩
  · exact ⟨e, h1, by simp [SAdr.plus, Slot.adr, h3, Addr.add]⟩
  · exact ⟨e, h1, by simp [SAdr.plus, Slot.adr, h3, h4, Addr.add, Nat.add_assoc]⟩
  · cases a with
    | «at» id o => exact ⟨e, h1, by simp [SAdr.plus, Slot.adr, SAdr.off, Addr.add, Nat.add_assoc]⟩
    | ix id o i sz j => exact ⟨e, h1, by simp [SAdr.plus, Slot.adr, SAdr.off, Addr.add, Nat.add_assoc]⟩
    | ob id i j => cases h3
    | rr id i j => cases h3

theorem rd_ok {env : Env} {st : St} {w : World} (hr : Rep env st w) {a : SAdr} {s : SVal} (h : rd st a = some (s, true)) {A : Addr} (hA : AdrIs env a A) :
    ∃ v, w.cell? A = some v ∧ Den env s v := by
  obtain ⟨e, he, hA⟩ := hA
  rcases adr_cases hA with ⟨id, i, j, b, rfl, hfam, rfl⟩ | ⟨id, i, j, b, o, rfl, hfam, hfo, rfl⟩ | ⟨hno, rfl⟩
  · unfold rd at h
    cases hb : st[(SAdr.ob id i j).id]? with
    | none => simp [hb] at h
    | some c =>
      have hh := hr.holds _ e c he hb
      simp only [hb] at h
      cases c with
      | many E xs T =>
        obtain ⟨h0, h1, h2⟩ := hh
        obtain ⟨cs, h3, h4⟩ := h2 i b hfam
        simp only at h
        split at h
        · rename_i hj
          simp only [Option.some.injEq, Prod.mk.injEq, decide_eq_true_eq] at h
          obtain ⟨rfl, hlt⟩ := h
          obtain ⟨v, hv, hd⟩ := denL_get j h4 (by rw [E.len]; exact Nat.le_of_ble_eq_true hj)
          exact ⟨v, by rw [blk_cell h3]; exact hv, hd⟩
        · simp at h
      | _ => simp at h
  · unfold rd at h
    cases hb : st[(SAdr.rr id i j).id]? with
    | none => simp [hb] at h
    | some c =>
      have hh := hr.holds _ e c he hb
      simp only [hb] at h
      cases c with
      | rows ow k xss =>
        obtain ⟨h0, h1⟩ := hh
        simp only [Option.some.injEq, Prod.mk.injEq, Bool.and_eq_true, decide_eq_true_eq] at h
        obtain ⟨rfl, hi, hj⟩ := h
        exact ⟨_, h1 i b o hfam hfo j hj, by simp [Den]⟩
      | _ => simp at h
  unfold rd at h
  cases hb : st[a.id]? with
  | none => simp [hb] at h
  | some b =>
    have hh := hr.holds _ e b he hb
    simp only [hb] at h
    cases b with
    | own segs T =>
      obtain ⟨h0, h1, cs, h2, h3⟩ := hh
      rw [h0, Nat.zero_add, blk_cell h2]
      cases a with
      | «at» id o =>
        simp only [Option.map_eq_some_iff, Prod.mk.injEq] at h
        obtain ⟨s', hs, rfl, _⟩ := h
        exact segGet_ok h1 hs h3
      | ix id o i sz j =>
        simp only [Option.map_eq_some_iff, Prod.mk.injEq] at h
        obtain ⟨⟨s', n⟩, hs, rfl, hn⟩ := h
        exact segGetI_ok h1 hs (by simpa using hn) h3
      | ob id i j => cases hno
      | rr id i j => cases hno
    | vec E xs T =>
      obtain ⟨h0, h1, hh⟩ := hh
      rw [h0, Nat.zero_add]
      have key : ∀ i j, i < xs.length → j < E.sz → ∃ v, w.cell? ⟨e.blk, i * E.sz + j, none⟩ = some v ∧ Den env ((E.enc (xs.getD i E.dflt)).getD j .bad) v := by
        intro i j hi hj
        obtain ⟨cs, junk, h2, h3, h4⟩ := hh (by omega)
        obtain ⟨v, hv, hd⟩ := flat_get_ok E h3 hi hj
        exact ⟨v, by rw [blk_cell h2]; exact getElem?_append_some hv, hd⟩
      cases a with
      | «at» id o =>
        simp only [Option.some.injEq, Prod.mk.injEq, decide_eq_true_eq] at h
        obtain ⟨rfl, hlt⟩ := h
        have := key (o / E.sz) (o % E.sz) hlt (Nat.mod_lt _ E.pos)
        rwa [div_mul_mod] at this
      | ix id o i sz j =>
        cases o with
        | succ o => simp at h
        | zero =>
          simp only at h
          split at h
          · rename_i hsz _ hj
            simp only [Option.some.injEq, Prod.mk.injEq, decide_eq_true_eq] at h
            obtain ⟨rfl, hlt⟩ := h
            subst hsz
            have := key i j hlt (Nat.le_of_ble_eq_true hj)
            simpa [SAdr.off] using this
          · simp at h
      | ob id i j => cases hno
      | rr id i j => cases hno
    | ro E xs =>
      obtain ⟨cs, h3, h4⟩ := hh
      have key : ∀ i j, i < xs.length → j < E.sz → ∃ v, w.cell? ⟨e.blk, e.off + (i * E.sz + j), none⟩ = some v ∧ Den env ((E.enc (xs.getD i E.dflt)).getD j .bad) v := by
        intro i j hi hj
        obtain ⟨v, hv, hd⟩ := flat_get_ok E h3 hi hj
        exact ⟨v, by rw [h4 _ (List.getElem?_eq_some_iff.1 hv).1]; exact hv, hd⟩
      cases a with
      | «at» id o =>
        simp only [Option.some.injEq, Prod.mk.injEq, decide_eq_true_eq] at h
        obtain ⟨rfl, hlt⟩ := h
        have := key (o / E.sz) (o % E.sz) hlt (Nat.mod_lt _ E.pos)
        rwa [div_mul_mod] at this
      | ix id o i sz j =>
        cases o with
        | succ o => simp at h
        | zero =>
          simp only at h
          split at h
          · rename_i hsz _ hj
            simp only [Option.some.injEq, Prod.mk.injEq, decide_eq_true_eq] at h
            obtain ⟨rfl, hlt⟩ := h
            subst hsz
            have := key i j hlt (Nat.le_of_ble_eq_true hj)
            simpa [SAdr.off] using this
          · simp at h
      | ob id i j => cases hno
      | rr id i j => cases hno
    | many E xs T => (cases a with
      | ob id i j => cases hno
      | rr id i j => cases hno
      | _ => simp at h)
    | rows ow k xss => (cases a with
      | ob id i j => cases hno
      | rr id i j => cases hno
      | _ => simp at h)
    | gone => simp at h

/-- one block is replaced by another on the same footprint -/
theorem rep_put {env : Env} {st : St} {w w' : World} (hr : Rep env st w) {id : Nat} {e : Slot} {b b' : Blk} (he : env[id]? = some e) (hb : st[id]? = some b)
    (hf : b'.foot e = b.foot e) (hs : b'.supp e = b.supp e) (hh : b'.holds env e w') (hsz : w.heap.size ≤ w'.heap.size)
    (hk : ∀ x, x < w.heap.size → x ∉ b.foot e → w'.heap[x]? = w.heap[x]?) (hc : w'.os = w.os ∧ w'.output = w.output) :
    Rep env (st.set id b') w' ∧ Ext env st w env (st.set id b') w' := by
  have hid : id < st.length := (List.getElem?_eq_some_iff.1 hb).1
  have get : ∀ j c, (st.set id b')[j]? = some c → (j = id ∧ c = b') ∨ (j ≠ id ∧ st[j]? = some c) := by
    intro j c hc
    by_cases hj : j = id
    · subst hj; rw [List.getElem?_set_self hid] at hc; exact .inl ⟨rfl, by simpa using hc.symm⟩
    · rw [List.getElem?_set_ne (fun h => hj h.symm)] at hc; exact .inr ⟨hj, hc⟩
  refine ⟨⟨by simp [hr.len], ?_, ?_, ?_⟩, ⟨[], by simp⟩, hsz, ?_, ?_, hc⟩
  · intro j f c hf' hc
    rcases get j c hc with ⟨rfl, rfl⟩ | ⟨hj, hc⟩
    · rw [he] at hf'; cases hf'; exact hh
    · refine Blk.holds_of_supp (hr.holds j f c hf' hc) fun x hx => hk x (hr.low j f c hf' hc x hx) fun hx' => ?_
      exact hr.apart id j e f b c (fun h => hj h.symm) he hf' hb hc x hx' hx
  · intro i j f g c d hij hf' hg hc hd x hx
    rcases get i c hc with ⟨rfl, rfl⟩ | ⟨hi, hc1⟩ <;> rcases get j d hd with ⟨rfl, rfl⟩ | ⟨hj, hd1⟩
    · exact (hij rfl).elim
    · rw [he] at hf'; cases hf'; rw [hf] at hx; exact hr.apart _ j e g b d hij he hg hb hd1 x hx
    · rw [he] at hg; cases hg; rw [hs]; exact hr.apart i _ f e c b hij hf' he hc1 hb x hx
    · exact hr.apart i j f g c d hij hf' hg hc1 hd1 x hx
  · intro j f c hf' hc x hx
    rcases get j c hc with ⟨rfl, rfl⟩ | ⟨hj, hc⟩
    · rw [he] at hf'; cases hf'; rw [hs] at hx; exact Nat.lt_of_lt_of_le (hr.low _ e b he hb x hx) hsz
    · exact Nat.lt_of_lt_of_le (hr.low j f c hf' hc x hx) hsz
  · intro x hx hn
    exact hk x hx fun h => hn ⟨id, e, b, he, hb, h⟩
  · rintro x hx ⟨j, f, c, hf', hc, hx'⟩
    rcases get j c hc with ⟨rfl, rfl⟩ | ⟨hj, hc⟩
    · rw [he] at hf'; cases hf'; rw [hf] at hx'; exact ⟨_, e, b, he, hb, hx'⟩
    · exact ⟨j, f, c, hf', hc, hx'⟩

theorem nodup_same : ∀ {l : List Nat} (_ : l.Nodup) {i j b : Nat} (_ : l[i]? = some b) (_ : l[j]? = some b), i = j
  | [], _, i, j, b, h, _ => by simp at h
  | a :: l, hn, 0, 0, b, _, _ => rfl
  | a :: l, hn, 0, j + 1, b, h, h' => by
    simp only [List.getElem?_cons_zero, Option.some.injEq, List.getElem?_cons_succ] at h h'
    subst h
    exact absurd (List.mem_of_getElem? h') (List.nodup_cons.1 hn).1
  | a :: l, hn, i + 1, 0, b, h, h' => by
    simp only [List.getElem?_cons_zero, Option.some.injEq, List.getElem?_cons_succ] at h h'
    subst h'
    exact absurd (List.mem_of_getElem? h) (List.nodup_cons.1 hn).1
  | a :: l, hn, i + 1, j + 1, b, h, h' => by
    simp only [List.getElem?_cons_succ] at h h'
    rw [nodup_same (List.nodup_cons.1 hn).2 h h']
theorem wr_ok {env : Env} {st st' : St} {w : World} (hr : Rep env st w) {a : SAdr} {s : SVal} {v : Value} (h : wr st a s = some (st', true)) (hs : Den env s v) {A : Addr} (hA : AdrIs env a A) :
    (∃ u, w.cell? A = some u) ∧ w.frozen? A = false ∧ Rep env st' (w.setCell A v) ∧ Ext env st w env st' (w.setCell A v) := by
  obtain ⟨e, he, hA⟩ := hA
  rcases adr_cases hA with ⟨id, i, j, b, rfl, hfam, rfl⟩ | ⟨id, i, j, b, o, rfl, hfam, hfo, rfl⟩ | ⟨hno, rfl⟩
  · unfold wr at h
    cases hb : st[(SAdr.ob id i j).id]? with
    | none => simp [hb] at h
    | some c =>
      have hh := hr.holds _ e c he hb
      simp only [hb] at h
      cases c with
      | many E xs T =>
        have hh' := hh
        obtain ⟨h0, h1, h2⟩ := hh
        obtain ⟨cs, h3, h4⟩ := h2 i b hfam
        simp only at h
        split at h
        · rename_i hj
          simp only [Option.map_eq_some_iff, Prod.mk.injEq, decide_eq_true_eq] at h
          obtain ⟨x, hx, rfl, hlt⟩ := h
          have hjl : j < cs.length := by
            rw [denL_length h4, E.len]
            exact Nat.le_of_ble_eq_true hj
          refine ⟨⟨cs[j], by rw [blk_cell h3]; simp [hjl]⟩, blk_free h3 _, ?_⟩
          refine rep_put hr he hb rfl rfl ⟨by simpa using h0, h1, fun i' b' hb' => ?_⟩ (by rw [set_size]; exact Nat.le_refl _) (fun x hx hn => set_other fun hx' => hn (by rw [hx']; exact List.mem_of_getElem? hfam)) ⟨rfl, rfl⟩
          obtain ⟨cs', h3', h4'⟩ := h2 i' b' hb'
          by_cases hii : i = i'
          · subst hii
            rw [hfam] at hb'
            cases hb'
            have hg : (xs.set i x).getD i E.dflt = x := by simp [List.getD_eq_getElem?_getD, hlt]
            exact ⟨cs.set j v, blk_set h3 _ _, by rw [hg]; exact E.ok env _ x _ hx (denL_set j h4 hs)⟩
          · have hbb : b' ≠ b := by
              intro hbb
              subst hbb
              exact hii (nodup_same h1 hfam hb')
            have hg : (xs.set i x).getD i' E.dflt = xs.getD i' E.dflt := by simp [List.getD_eq_getElem?_getD, hii]
            exact ⟨cs', by rw [set_other hbb]; exact h3', by rw [hg]; exact h4'⟩
        · simp at h
      | _ => simp at h
  · unfold wr at h
    cases hb : st[(SAdr.rr id i j).id]? with
    | none => simp [hb] at h
    | some c =>
      simp only [hb] at h
      cases c <;> simp at h
  unfold wr at h
  cases hb : st[a.id]? with
  | none => simp [hb] at h
  | some b =>
    have hh := hr.holds _ e b he hb
    simp only [hb] at h
    have other : ∀ (A : Addr), A.block = e.blk → ∀ x, x < w.heap.size → x ∉ [e.blk] → (w.setCell A v).heap[x]? = w.heap[x]? := by
      intro A hA x _ hx
      exact set_other (by rw [hA]; simpa using hx)
    cases b with
    | own segs T =>
      obtain ⟨h0, h1, cs, h2, h3⟩ := hh
      have fin : ∀ (segs' : List Seg) (o : Nat), segFits segs' → o < cs.length → DenL env (segCells segs') (cs.set o v) → st' = st.set a.id (.own segs' T) →
          (∃ u, w.cell? ⟨e.blk, e.off + o, none⟩ = some u) ∧ w.frozen? ⟨e.blk, e.off + o, none⟩ = false ∧ Rep env st' (w.setCell ⟨e.blk, e.off + o, none⟩ v) ∧ Ext env st w env st' (w.setCell ⟨e.blk, e.off + o, none⟩ v) := by
        intro segs' o k1 k2 k3 k4
        subst k4
        rw [h0, Nat.zero_add]
        refine ⟨⟨cs[o], by rw [blk_cell h2]; simp [k2]⟩, blk_free h2 _, ?_⟩
        exact rep_put hr he hb rfl rfl ⟨h0, k1, cs.set o v, blk_set h2 _ _, k3⟩ (by rw [set_size]; exact Nat.le_refl _) (other _ rfl) ⟨rfl, rfl⟩
      cases a with
      | «at» id o =>
        simp only [Option.map_eq_some_iff, Prod.mk.injEq] at h
        obtain ⟨s', hs', rfl, _⟩ := h
        obtain ⟨k1, k2, k3⟩ := segSet_ok h1 hs' h3 hs
        exact fin s' o k1 k2 k3 rfl
      | ix id o i sz j =>
        simp only [Option.map_eq_some_iff, Prod.mk.injEq, decide_eq_true_eq] at h
        obtain ⟨⟨s', n⟩, hs', rfl, hn⟩ := h
        obtain ⟨k1, k2, k3⟩ := segSetI_ok h1 hs' hn h3 hs
        exact fin s' _ k1 k2 k3 rfl
      | ob id i j => cases hno
      | rr id i j => cases hno
    | vec E xs T =>
      obtain ⟨h00, h01, hh⟩ := hh
      have h0 := And.intro h00 h01
      have fin : ∀ (i j : Nat), i < xs.length → j < E.sz → ∀ x, E.dec ((E.enc (xs.getD i E.dflt)).set j s) = some x → st' = st.set a.id (.vec E (xs.set i x) T) →
          (∃ u, w.cell? ⟨e.blk, e.off + (i * E.sz + j), none⟩ = some u) ∧ w.frozen? ⟨e.blk, e.off + (i * E.sz + j), none⟩ = false ∧
            Rep env st' (w.setCell ⟨e.blk, e.off + (i * E.sz + j), none⟩ v) ∧ Ext env st w env st' (w.setCell ⟨e.blk, e.off + (i * E.sz + j), none⟩ v) := by
        intro i j hi hj x hx k4
        subst k4
        have hc0 : 0 < e.cap := by omega
        obtain ⟨cs, junk, h2, h3, h4⟩ := hh hc0
        rw [h0.1, Nat.zero_add]
        obtain ⟨u, hu, _⟩ := flat_get_ok E h3 hi hj
        have hlt : i * E.sz + j < cs.length := (List.getElem?_eq_some_iff.1 hu).1
        refine ⟨⟨u, by rw [blk_cell h2]; exact getElem?_append_some hu⟩, blk_free h2 _, ?_⟩
        refine rep_put hr he hb rfl rfl ⟨h0.1, by simpa using h0.2, fun hc => ⟨cs.set (i * E.sz + j) v, junk, ?_, flat_set_ok E h3 hi hj hs hx, by simpa using h4⟩⟩ (by rw [set_size]; exact Nat.le_refl _) (fun x hx hn => other _ rfl x hx (fun hx' => hn (by
          have := vec_supp hc0 (E := E) (xs := xs) (T := T)
          simp only [List.mem_singleton] at hx'
          rw [hx']; exact this))) ⟨rfl, rfl⟩
        rw [blk_set h2, List.set_append_left _ _ hlt]
      cases a with
      | «at» id o =>
        simp only [Option.map_eq_some_iff, Prod.mk.injEq, decide_eq_true_eq] at h
        obtain ⟨x, hx, rfl, hlt⟩ := h
        have := fin (o / E.sz) (o % E.sz) hlt (Nat.mod_lt _ E.pos) x hx rfl
        rwa [div_mul_mod] at this
      | ix id o i sz j =>
        cases o with
        | succ o => simp at h
        | zero =>
          simp only at h
          split at h
          · rename_i hsz _ hj
            simp only [Option.map_eq_some_iff, Prod.mk.injEq, decide_eq_true_eq] at h
            obtain ⟨x, hx, rfl, hlt⟩ := h
            subst hsz
            have := fin i j hlt (Nat.le_of_ble_eq_true hj) x hx rfl
            simpa [SAdr.off] using this
          · simp at h
      | ob id i j => cases hno
      | rr id i j => cases hno
    | ro E xs => simp at h
    | many E xs T => (cases a with
      | ob id i j => cases hno
      | rr id i j => cases hno
      | _ => simp at h)
    | rows ow k xss => simp at h
    | gone => simp at h
end Go.Proofs.YtmknmbacecjfmaaDoor.Sx

/- The executor's operations that look at no memory, and that they are right. -/
namespace Go.Proofs.YtmknmbacecjfmaaDoor.Sx
set_option linter.unusedVariables false

/-! ## constants -/
def ofSc : Value → SVal
  | .int k n => .lit k n
  | .bool b => .bl b
  | .string s => .sl s.data.toList
  | .pointer none => .pnil
  | .slice none 0 0 => .snil
  | .nilIface => .inil
  | .nilFunc => .fnil
  | v => .raw v
def ofVal : Value → SVal
  | .agg cs => .agg (cs.toList.map ofSc)
  | .tuple cs => .tup (cs.toList.map ofSc)
  | v => ofSc v
theorem den_ofSc (env : Env) (v : Value) : Den env (ofSc v) v := by
  unfold ofSc; split <;> simp [Den]
theorem denL_ofSc (env : Env) : ∀ l : List Value, DenL env (l.map ofSc) l
  | [] => by simp [DenL]
  | v :: l => denL_cons.2 ⟨den_ofSc env v, denL_ofSc env l⟩
theorem den_ofVal (env : Env) (v : Value) : Den env (ofVal v) v := by
  unfold ofVal; split
  · simp only [Den]; exact ⟨_, rfl, denL_ofSc env _⟩
  · simp only [Den]; exact ⟨_, rfl, denL_ofSc env _⟩
  · exact den_ofSc env v

/-! ## numbers and truth values -/
def asI : SVal → Option (IntKind × Int × Bool)
  | .lit k n => some (k, n, true)
  | .int k x => some (k, x, false)
  | _ => none
def mkI : Bool → IntKind → Int → SVal
  | true, k, x => .lit k x
  | false, k, x => .int k x
def mkB : Bool → Bool → SVal
  | true, true => .bl true
  | true, false => .bl false
  | false, b => .sb b
def asB : SVal → Option (Bool × Bool)
  | .bl b => some (b, true)
  | .sb b => some (b, false)
  | _ => none
theorem asI_den {env : Env} {s : SVal} {v : Value} {k : IntKind} {x : Int} {l : Bool} (h : asI s = some (k, x, l)) (hd : Den env s v) : v = .int k x := by
  cases s <;> simp only [asI, Option.some.injEq, Prod.mk.injEq, reduceCtorEq] at h <;> obtain ⟨rfl, rfl, _⟩ := h <;> simpa only [Den] using hd
theorem asB_den {env : Env} {s : SVal} {v : Value} {b l : Bool} (h : asB s = some (b, l)) (hd : Den env s v) : v = .bool b := by
  cases s <;> simp only [asB, Option.some.injEq, Prod.mk.injEq, reduceCtorEq] at h <;> obtain ⟨rfl, _⟩ := h <;> simpa only [Den] using hd
theorem mkI_den {env : Env} (l : Bool) (k : IntKind) (x : Int) : Den env (mkI l k x) (.int k x) := by cases l <;> simp [mkI, Den]
theorem mkB_den {env : Env} (l b : Bool) : Den env (mkB l b) (.bool b) := by cases l <;> cases b <;> simp [mkB, Den]

/-- in the kind's range -/
def inR (k : IntKind) (x : Int) : Bool := decide (k.min ≤ x) && decide (x ≤ k.max)
theorem wrap_inR {k : IntKind} {x : Int} (h : inR k x = true) : k.wrap x = x := by
  simp only [inR, Bool.and_eq_true, decide_eq_true_eq] at h
  obtain ⟨h1, h2⟩ := h
  cases k <;> simp [IntKind.min, IntKind.max, IntKind.signed, IntKind.bits, IntKind.wrap] at * <;> (try split) <;> omega

def low (k : IntKind) (x : Int) : Nat := (x % 2 ^ k.bits).toNat
def bitop (op : BinOp) (k : IntKind) (x y : Int) : Int :=
  match op with
  | .and => k.wrap (low k x &&& low k y : Nat)
  | .or => k.wrap (low k x ||| low k y : Nat)
  | .xor => k.wrap (low k x ^^^ low k y : Nat)
  | _ => k.wrap (low k x &&& (2 ^ k.bits - 1 - low k y) : Nat)
def arith (ex : Bool) (l : Bool) (k : IntKind) (z : Int) : T SVal :=
  match l, ex with
  | true, _ => .ret (.lit k (k.wrap z))
  | false, true => .need (inR k z) (.ret (.int k z))
  | false, false => .ret (.int k (k.wrap z))
def isShift : BinOp → Bool
  | .shl | .shr => true
  | _ => false
def binI (ex : IntKind → Bool) (op : BinOp) (k : IntKind) (x : Int) (lx : Bool) (y : Int) (ly : Bool) : T SVal :=
  match op with
  | .add => arith (ex k) (lx && ly) k (x + y)
  | .sub => arith (ex k) (lx && ly) k (x - y)
  | .mul => arith (ex k) (lx && ly) k (x * y)
  | .quo => .need (y != 0) (.ret (mkI (lx && ly) k (k.wrap (x.tdiv y))))
  | .rem => .need (y != 0) (.ret (mkI (lx && ly) k (x.tmod y)))
  | .and | .or | .xor | .andNot => .ret (mkI (lx && ly) k (bitop op k x y))
  | .eql => .ret (mkB (lx && ly) (x == y))
  | .neq => .ret (mkB (lx && ly) (x != y))
  | .lss => .ret (mkB (lx && ly) (decide (x < y)))
  | .leq => .ret (mkB (lx && ly) (decide (x ≤ y)))
  | .gtr => .ret (mkB (lx && ly) (decide (y < x)))
  | .geq => .ret (mkB (lx && ly) (decide (y ≤ x)))
  | .shl => .need (decide (0 ≤ y)) (.ret (mkI (lx && ly) k (k.wrap (x * 2 ^ (min y.toNat k.bits)))))
  | .shr => .need (decide (0 ≤ y)) (.ret (mkI (lx && ly) k (x.fdiv (2 ^ (min y.toNat k.bits)))))
theorem arith_ok {P : Program} {ex l : Bool} {k : IntKind} {z : Int} {s : SVal} (h : (arith ex l k z).at s) : ∃ z', z' = k.wrap z ∧ (s = .lit k z' ∨ s = .int k z') := by
  unfold arith at h
  split at h
  · exact ⟨_, rfl, .inl h.symm⟩
  · obtain ⟨h1, h2⟩ := h; exact ⟨_, rfl, .inr (by rw [wrap_inR h1]; exact h2.symm)⟩
  · exact ⟨_, rfl, .inr h.symm⟩

theorem binI_ok {P : Program} {env : Env} {ex : IntKind → Bool} {op : BinOp} {k k' : IntKind} {x y : Int} {lx ly : Bool} {s : SVal} (t : TypeId) (hk : isShift op = true ∨ k = k') (h : (binI ex op k x lx y ly).at s) (w : World) :
    ∃ v, (binOp op t (.int k x) (.int k' y)).run P w = .ok v w ∧ Den env s v := by
  have ar : ∀ z : Int, (arith (ex k) (lx && ly) k z).at s → Den env s (.int k (k.wrap z)) := by
    intro z hz
    obtain ⟨z', rfl, rfl | rfl⟩ := arith_ok (P := P) hz <;> simp [Den]
  cases op <;> simp only [isShift, Bool.false_eq_true, false_or, true_or] at hk <;> (try subst hk) <;> simp only [binI, T.at] at h
  case add => exact ⟨_, by simp [binOp, Op.intArith], ar _ h⟩
  case sub => exact ⟨_, by simp [binOp, Op.intArith], ar _ h⟩
  case mul => exact ⟨_, by simp [binOp, Op.intArith], ar _ h⟩
  case quo =>
    obtain ⟨h1, rfl⟩ := h
    have h1' : y ≠ 0 := by simpa using h1
    exact ⟨_, by simp [binOp, Op.intDiv, h1'], mkI_den _ _ _⟩
  case rem =>
    obtain ⟨h1, rfl⟩ := h
    have h1' : y ≠ 0 := by simpa using h1
    exact ⟨_, by simp [binOp, Op.intDiv, h1'], mkI_den _ _ _⟩
  case shl =>
    obtain ⟨h1, rfl⟩ := h
    have h1' : ¬ y < 0 := by simpa using h1
    exact ⟨_, by simp [binOp, Op.shift, h1'], mkI_den _ _ _⟩
  case shr =>
    obtain ⟨h1, rfl⟩ := h
    have h1' : ¬ y < 0 := by simpa using h1
    exact ⟨_, by simp [binOp, Op.shift, h1'], mkI_den _ _ _⟩
  case and => subst h; exact ⟨bitop .and k x y |> Value.int k, by simp [binOp, Op.intBits, bitop, low], mkI_den _ _ _⟩
  case or => subst h; exact ⟨bitop .or k x y |> Value.int k, by simp [binOp, Op.intBits, bitop, low], mkI_den _ _ _⟩
  case xor => subst h; exact ⟨bitop .xor k x y |> Value.int k, by simp [binOp, Op.intBits, bitop, low], mkI_den _ _ _⟩
  case andNot => subst h; exact ⟨bitop .andNot k x y |> Value.int k, by simp [binOp, Op.intBits, bitop, low], mkI_den _ _ _⟩
  case eql => subst h; exact ⟨_, by simp [binOp, Op.intCmp], mkB_den _ _⟩
  case neq => subst h; exact ⟨_, by simp [binOp, Op.intCmp], mkB_den _ _⟩
  case lss => subst h; exact ⟨_, by simp [binOp, Op.intCmp], mkB_den _ _⟩
  case leq => subst h; exact ⟨_, by simp [binOp, Op.intCmp], mkB_den _ _⟩
  case gtr => subst h; exact ⟨_, by simp [binOp, Op.intCmp], mkB_den _ _⟩
  case geq => subst h; exact ⟨_, by simp [binOp, Op.intCmp], mkB_den _ _⟩

/-! ## strings -/
def asStr : SVal → Option (ByteArray × Bool)
  | .sl l => some (⟨l.toArray⟩, true)
  | .str s => some (s, false)
  | _ => none
theorem asStr_den {env : Env} {s : SVal} {v : Value} {b : ByteArray} {l : Bool} (h : asStr s = some (b, l)) (hd : Den env s v) : v = .string b := by
  cases s <;> simp only [asStr, Option.some.injEq, Prod.mk.injEq, reduceCtorEq] at h <;> obtain ⟨rfl, _⟩ := h <;> simpa only [Den] using hd
/-- the strings are the same -/
def strEq (a b : ByteArray) : Bool := decide (a.data.toList = b.data.toList)
theorem strEq_beq (a b : ByteArray) : (a.toList == b.toList) = strEq a b := by
  rw [ByteArray.toList_eq, ByteArray.toList_eq]
  unfold strEq
  by_cases h : a.data.toList = b.data.toList
  · simp [h]
  · have h' : a.data ≠ b.data := fun e => h (by rw [e])
    simp [h']

/-! ## equality of whole structs of plain parts -/
/-- two plain cells of the type: are they the same? -/
def eqCell (P : Program) (t : TypeId) (a b : SVal) : Option (Bool × Bool) :=
  match P.underlying t with
  | some (.int _) => match asI a, asI b with
    | some (k, x, lx), some (k', y, ly) => match decide (k = k') with
      | true => some (x == y, lx && ly)
      | false => none
    | _, _ => none
  | some .bool => match asB a, asB b with
    | some (x, lx), some (y, ly) => some (x == y, lx && ly)
    | _, _ => none
  | some .string => match asStr a, asStr b with
    | some (x, lx), some (y, ly) => some (strEq x y, lx && ly)
    | _, _ => none
  | _ => none
def eqFs (P : Program) (xs ys : List SVal) : List Field → Option (Bool × Bool)
  | [] => some (true, true)
  | f :: fs => match f.name == "_" || !(Nat.blt f.offset xs.length && Nat.blt f.offset ys.length) with
    | true => none
    | false => match eqCell P f.type (xs.getD f.offset .bad) (ys.getD f.offset .bad), eqFs P xs ys fs with
      | some (b, l), some (c, m) => match l, b, m, c with
        | true, false, _, _ => some (false, true)
        | true, true, m, c => some (c, m)
        | false, b, true, true => some (b, false)
        | false, b, true, false => some (false, true)
        | false, b, false, c => some (b && c, false)
      | _, _ => none
/-! ## binary operations -/
def isEq : BinOp → Bool
  | .eql | .neq => true
  | _ => false
def negB : BinOp → Bool → Bool
  | .neq, b => !b
  | _, b => b
/-- the operands are sure not to be two nil interfaces neither of which is the literal nil -/
def isConstO : Operand → Bool
  | .const _ => true
  | _ => false
def binS (P : Program) (ex : IntKind → Bool) (op : BinOp) (t : TypeId) (ox oy : Operand) (a b : SVal) : T SVal :=
  match asI a, asI b with
  | some (k, x, lx), some (k', y, ly) => match isShift op || decide (k = k') with
    | true => binI ex op k x lx y ly
    | false => .no 1
  | _, _ => match asStr a, asStr b with
    | some (x, lx), some (y, ly) => match op with
      | .eql => .ret (mkB (lx && ly) (strEq x y))
      | .neq => .ret (mkB (lx && ly) (!strEq x y))
      | _ => .no 2
    | _, _ => match isEq op with
      | false => .no 3
      | true => match a, b with
        | .bl _, _ | .sb _, _ => match eqCell P t a b with
          | some (e, l) => .ret (mkB l (negB op e))
          | none => .no 4
        | .pnil, .pnil => match P.underlying t with
          | some (.pointer _) => .ret (.bl (negB op true))
          | _ => .no 5
        | .pnil, .ptr _ _ | .ptr _ _, .pnil | .pnil, .pti _ _ _ _ _ | .pti _ _ _ _ _, .pnil | .pnil, .pto _ _ _ | .pto _ _ _, .pnil => match P.underlying t with
          | some (.pointer _) => .ret (.bl (negB op false))
          | _ => .no 5
        | .inil, .inil => match isConstO ox || isConstO oy, P.underlying t with
          | true, some (.interface _) => .ret (.bl (negB op true))
          | _, _ => .no 6
        | .inil, .ifc _ _ | .ifc _ _, .inil => match P.underlying t with
          | some (.interface _) => .ret (.bl (negB op false))
          | _ => .no 6
        | .snil, .snil => match P.underlying t with
          | some (.slice _) => .ret (.bl (negB op true))
          | _ => .no 7
        | .agg xs, .agg ys => match P.eqGuardType P.depth t, P.stoodInHeld t, P.underlying t with
          | false, false, some (.struct fs) => match eqFs P xs ys fs.toList with
            | some (e, l) => .ret (mkB l (negB op e))
            | none => .no 8
          | _, _, _ => .no 8
        | _, _ => .no 9

theorem denL_getD {env : Env} {l : List SVal} {vs : List Value} (h : DenL env l vs) (i : Nat) : Den env (l.getD i .bad) (vs.getD i undef) := by
  by_cases hi : i < l.length
  · obtain ⟨v, hv, hd⟩ := denL_get i h hi
    simpa [List.getD_eq_getElem?_getD, hv] using hd
  · have : vs.length ≤ i := by rw [denL_length h]; omega
    simp only [List.getD_eq_getElem?_getD, List.getElem?_eq_none (Nat.le_of_not_lt hi), Option.getD_none, Den]

theorem eqCell_ok {P : Program} {env : Env} {t : TypeId} {a b : SVal} {u v : Value} {e l : Bool} (h : eqCell P t a b = some (e, l)) (ha : Den env a u) (hb : Den env b v) (d : Nat) (w : World) :
    (Op.equalIn (d + 1) t u v).run P w = .ok e w ∧ (isAgg t).run P w = .ok false w ∧ (∀ x, u ≠ .agg x) := by
  unfold eqCell at h
  split at h
  · rename_i k0 hu
    split at h
    · rename_i k x lx k' y ly h1 h2
      split at h
      · rename_i hk
        simp only [decide_eq_true_eq] at hk
        subst hk
        simp only [Option.some.injEq, Prod.mk.injEq] at h
        obtain ⟨rfl, rfl⟩ := h
        rw [asI_den h1 ha, asI_den h2 hb]
        exact ⟨run_equalIn_int w d t k k0 x y hu, by simp [isAgg, run_underlying hu], by simp⟩
      · simp at h
    · simp at h
  · rename_i hu
    split at h
    · rename_i x lx y ly h1 h2
      simp only [Option.some.injEq, Prod.mk.injEq] at h
      obtain ⟨rfl, rfl⟩ := h
      rw [asB_den h1 ha, asB_den h2 hb]
      exact ⟨run_equalIn_bool w d t x y hu, by simp [isAgg, run_underlying hu], by simp⟩
    · simp at h
  · rename_i hu
    split at h
    · rename_i x lx y ly h1 h2
      simp only [Option.some.injEq, Prod.mk.injEq] at h
      obtain ⟨rfl, rfl⟩ := h
      rw [asStr_den h1 ha, asStr_den h2 hb]
      exact ⟨by rw [run_equalIn_string w d t x y hu, strEq_beq], by simp [isAgg, run_underlying hu], by simp⟩
    · simp at h
  · simp at h

theorem run_part_cell {P : Program} {t : TypeId} {w : World} {cs : List Value} {o : Nat} (h : (isAgg t).run P w = .ok false w) (ho : o < cs.length) :
    (part t ⟨cs⟩ o).run P w = .ok (cs.getD o undef) w := by
  simp [part, Sem.run_bind, h, ho]

theorem eqFs_ok {P : Program} {env : Env} {xs ys : List SVal} {us vs : List Value} (hx : DenL env xs us) (hy : DenL env ys vs) (d : Nat) (w : World) : ∀ (fs : List Field) (e l : Bool),
    eqFs P xs ys fs = some (e, l) → (Op.eqFields (d + 1) ⟨us⟩ ⟨vs⟩ fs).run P w = .ok e w
  | [], e, l, h => by
    simp only [eqFs, Option.some.injEq, Prod.mk.injEq] at h
    obtain ⟨rfl, rfl⟩ := h
    simp [Op.eqFields]
  | f :: fs, e, l, h => by
    simp only [eqFs] at h
    split at h
    · simp at h
    · rename_i hn
      simp only [Bool.or_eq_false_iff, Bool.not_eq_false', Bool.and_eq_true, beq_eq_false_iff_ne] at hn
      obtain ⟨hn', l1, l2⟩ := hn
      have l1 : f.offset < xs.length := Nat.le_of_ble_eq_true l1
      have l2 : f.offset < ys.length := Nat.le_of_ble_eq_true l2
      split at h
      · rename_i b l1' c m h1 h2
        have ih := eqFs_ok hx hy d w fs c m h2
        obtain ⟨k1, k2, _⟩ := eqCell_ok h1 (denL_getD hx f.offset) (denL_getD hy f.offset) d w
        have r1 := run_part_cell (cs := us) k2 (by rw [denL_length hx]; exact l1)
        have r2 := run_part_cell (cs := vs) k2 (by rw [denL_length hy]; exact l2)
        simp only [Op.eqFields, hn', ne_eq, not_false_eq_true, if_true, Sem.run_bind, r1, r2, Result.andThen_ok, k1]
        split at h <;> simp only [Option.some.injEq, Prod.mk.injEq] at h <;> obtain ⟨rfl, rfl⟩ := h
        · simp
        · simpa using ih
        · cases b <;> simp_all
        · cases b <;> simp_all
        · cases b <;> simp_all
      · simp at h

theorem run_equal_struct {P : Program} {env : Env} {t : TypeId} {fs : Array Field} {xs ys : List SVal} {us vs : List Value} {e l : Bool} (hu : P.underlying t = some (.struct fs)) (hp : P.stoodInHeld t = false)
    (hx : DenL env xs us) (hy : DenL env ys vs) (h : eqFs P xs ys fs.toList = some (e, l)) (w : World) :
    (Op.equal t (.agg ⟨us⟩) (.agg ⟨vs⟩)).run P w = .ok e w := by
  have hf : P.fieldsOf t = fs := by simp [Program.fieldsOf, hu]
  unfold Op.equal Op.maxDepth
  rw [run_equalIn_struct w 9999 t _ _ (by rw [hf]; exact hu) hp, hf]
  exact eqFs_ok hx hy 9998 w _ _ _ h

/-- '==' and '!=' in two parts: the guard, and the comparison -/
theorem run_eq_of {P : Program} {op : BinOp} {t : TypeId} {ox oy : Operand} {u v : Value} {e : Bool} {w : World} (ho : isEq op = true)
    (hg : (eqGuard op t ox oy u v).run P w = .ok () w) (he : (Op.equal t u v).run P w = .ok e w)
    (hn1 : ∀ k x, u ≠ .int k x) (hn2 : ∀ k x, u ≠ .float k x) (hn3 : ∀ k x y, u ≠ .complex k x y) (hn4 : ∀ x, u ≠ .string x) :
    ((do eqGuard op t ox oy u v; binOp op t u v : Sem Value)).run P w = .ok (.bool (negB op e)) w := by
  cases op <;> simp only [isEq, Bool.false_eq_true] at ho
  · cases u <;> first | exact (hn1 _ _ rfl).elim | exact (hn2 _ _ rfl).elim | exact (hn3 _ _ _ rfl).elim | exact (hn4 _ rfl).elim |
      simp [Sem.run_bind, hg, binOp, he, negB]
  · cases u <;> first | exact (hn1 _ _ rfl).elim | exact (hn2 _ _ rfl).elim | exact (hn3 _ _ _ rfl).elim | exact (hn4 _ rfl).elim |
      simp [Sem.run_bind, hg, binOp, he, negB]

theorem run_guard_plain {P : Program} {op : BinOp} {t : TypeId} {ox oy : Operand} {u v : Value} {w : World} (h1 : ¬ (u = .nilIface ∧ v = .nilIface)) (h2 : ∀ x y, ¬ (u = .agg x ∧ v = .agg y)) :
    (eqGuard op t ox oy u v).run P w = .ok () w := by
  cases op
  case eql | neq =>
    unfold eqGuard
    simp only [Bool.not_true, Bool.false_eq_true, if_false]
    split
    · exact (h1 ⟨rfl, rfl⟩).elim
    · exact (h2 _ _ ⟨rfl, rfl⟩).elim
    · rfl
  all_goals rfl

theorem run_equal_of {P : Program} {t : TypeId} {u v : Value} {e : Bool} {w : World} (h : ∀ d, (Op.equalIn (d + 1) t u v).run P w = .ok e w) : (Op.equal t u v).run P w = .ok e w := h 9999
theorem run_guard_const {P : Program} {op : BinOp} {t : TypeId} {ox oy : Operand} {w : World} (ho : isEq op = true) (h : (isConstO ox || isConstO oy) = true) :
    (eqGuard op t ox oy .nilIface .nilIface).run P w = .ok () w := by
  cases ox <;> cases oy <;> first | (simp [isConstO] at h; done) | (cases op <;> first | (simp [isEq] at ho; done) | rfl)

theorem binS_ok {P : Program} {env : Env} {ex : IntKind → Bool} {op : BinOp} {t : TypeId} {ox oy : Operand} {a b s : SVal} {u v : Value} (h : (binS P ex op t ox oy a b).at s)
    (ha : Den env a u) (hb : Den env b v) (w : World) : ∃ r, ((do eqGuard op t ox oy u v; binOp op t u v : Sem Value)).run P w = .ok r w ∧ Den env s r := by
  unfold binS at h
  split at h
  · rename_i k x lx k' y ly h1 h2
    split at h
    · rename_i hk
      have ea := asI_den h1 ha
      have eb := asI_den h2 hb
      subst ea; subst eb
      have hg := run_guard_plain (P := P) (op := op) (t := t) (ox := ox) (oy := oy) (u := .int k x) (v := .int k' y) (w := w) (by simp) (by simp)
      simp only [Sem.run_bind, hg, Result.andThen_ok]
      refine binI_ok t ?_ h w
      simpa using hk
    · exact h.elim
  · split at h
    · rename_i x lx y ly h1 h2
      have ea := asStr_den h1 ha
      have eb := asStr_den h2 hb
      subst ea; subst eb
      have hg := run_guard_plain (P := P) (op := op) (t := t) (ox := ox) (oy := oy) (u := .string x) (v := .string y) (w := w) (by simp) (by simp)
      simp only [Sem.run_bind, hg, Result.andThen_ok]
      split at h
      · simp only [T.at] at h; subst h
        exact ⟨.bool (strEq x y), by simp [binOp, Op.stringOp, ← strEq_beq], mkB_den _ _⟩
      · simp only [T.at] at h; subst h
        exact ⟨.bool (!strEq x y), by simp [binOp, Op.stringOp, ← strEq_beq], mkB_den _ _⟩
      · exact h.elim
    · split at h
      · exact h.elim
      · rename_i ho
        have fin : ∀ {u v : Value} {e : Bool} (l : Bool), (eqGuard op t ox oy u v).run P w = .ok () w → (Op.equal t u v).run P w = .ok e w → (∀ k x, u ≠ .int k x) → (∀ k x, u ≠ .float k x) → (∀ k x y, u ≠ .complex k x y) → (∀ x, u ≠ .string x) →
            (∃ r, ((do eqGuard op t ox oy u v; binOp op t u v : Sem Value)).run P w = .ok r w ∧ Den env (mkB l (negB op e)) r) := by
          intro u v e l hg he h1 h2 h3 h4
          exact ⟨_, run_eq_of ho hg he h1 h2 h3 h4, mkB_den _ _⟩
        have mk : ∀ e : Bool, SVal.bl e = mkB true e := by intro e; cases e <;> rfl
        split at h
        · split at h
          · rename_i e l he
            simp only [T.at] at h; subst h
            obtain ⟨k1, _, _⟩ := eqCell_ok he ha hb 9999 w
            simp only [Den] at ha
            subst ha
            exact fin l (run_guard_plain (by simp) (by simp)) k1 (by simp) (by simp) (by simp) (by simp)
          · exact h.elim
        · split at h
          · rename_i e l he
            simp only [T.at] at h; subst h
            obtain ⟨k1, _, _⟩ := eqCell_ok he ha hb 9999 w
            simp only [Den] at ha
            subst ha
            exact fin l (run_guard_plain (by simp) (by simp)) k1 (by simp) (by simp) (by simp) (by simp)
          · exact h.elim
        · -- pnil, pnil
          simp only [Den] at ha hb; subst ha; subst hb
          split at h
          · rename_i e0 hu
            simp only [T.at] at h; subst h; rw [mk]
            exact fin true (run_guard_plain (by simp) (by simp)) (run_equal_of (fun d => by simp [Op.equalIn, run_underlying hu])) (by simp) (by simp) (by simp) (by simp)
          · exact h.elim
        · simp only [Den] at ha hb
          obtain ⟨e1, _, rfl⟩ := hb
          subst ha
          split at h
          · rename_i e0 hu
            simp only [T.at] at h; subst h; rw [mk]
            exact fin true (run_guard_plain (by simp) (by simp)) (run_equal_of (fun d => by simp [Op.equalIn, run_underlying hu])) (by simp) (by simp) (by simp) (by simp)
          · exact h.elim
        · simp only [Den] at ha hb
          obtain ⟨e1, _, rfl⟩ := ha
          subst hb
          split at h
          · rename_i e0 hu
            simp only [T.at] at h; subst h; rw [mk]
            exact fin true (run_guard_plain (by simp) (by simp)) (run_equal_of (fun d => by simp [Op.equalIn, run_underlying hu])) (by simp) (by simp) (by simp) (by simp)
          · exact h.elim
        · simp only [Den] at ha hb
          obtain ⟨e1, _, rfl⟩ := hb
          subst ha
          split at h
          · rename_i e0 hu
            simp only [T.at] at h; subst h; rw [mk]
            exact fin true (run_guard_plain (by simp) (by simp)) (run_equal_of (fun d => by simp [Op.equalIn, run_underlying hu])) (by simp) (by simp) (by simp) (by simp)
          · exact h.elim
        · simp only [Den] at ha hb
          obtain ⟨e1, _, rfl⟩ := ha
          subst hb
          split at h
          · rename_i e0 hu
            simp only [T.at] at h; subst h; rw [mk]
            exact fin true (run_guard_plain (by simp) (by simp)) (run_equal_of (fun d => by simp [Op.equalIn, run_underlying hu])) (by simp) (by simp) (by simp) (by simp)
          · exact h.elim
        · simp only [Den] at ha hb
          obtain ⟨e1, b1, _, _, rfl⟩ := hb
          subst ha
          split at h
          · rename_i e0 hu
            simp only [T.at] at h; subst h; rw [mk]
            exact fin true (run_guard_plain (by simp) (by simp)) (run_equal_of (fun d => by simp [Op.equalIn, run_underlying hu])) (by simp) (by simp) (by simp) (by simp)
          · exact h.elim
        · simp only [Den] at ha hb
          obtain ⟨e1, b1, _, _, rfl⟩ := ha
          subst hb
          split at h
          · rename_i e0 hu
            simp only [T.at] at h; subst h; rw [mk]
            exact fin true (run_guard_plain (by simp) (by simp)) (run_equal_of (fun d => by simp [Op.equalIn, run_underlying hu])) (by simp) (by simp) (by simp) (by simp)
          · exact h.elim
        · simp only [Den] at ha hb; subst ha; subst hb
          split at h
          · rename_i hc hu
            simp only [T.at] at h; subst h; rw [mk]
            exact fin true (run_guard_const ho hc) (run_equal_of (fun d => by simp [Op.equalIn, run_underlying hu])) (by simp) (by simp) (by simp) (by simp)
          · exact h.elim
        · simp only [Den] at ha hb
          obtain ⟨x1, rfl, _⟩ := hb
          subst ha
          split at h
          · rename_i e0 hu
            simp only [T.at] at h; subst h; rw [mk]
            exact fin true (run_guard_plain (by simp) (by simp)) (run_equal_of (fun d => by simp [Op.equalIn, run_underlying hu])) (by simp) (by simp) (by simp) (by simp)
          · exact h.elim
        · simp only [Den] at ha hb
          obtain ⟨x1, rfl, _⟩ := ha
          subst hb
          split at h
          · rename_i e0 hu
            simp only [T.at] at h; subst h; rw [mk]
            exact fin true (run_guard_plain (by simp) (by simp)) (run_equal_of (fun d => by simp [Op.equalIn, run_underlying hu])) (by simp) (by simp) (by simp) (by simp)
          · exact h.elim
        · simp only [Den] at ha hb; subst ha; subst hb
          split at h
          · rename_i e0 hu
            simp only [T.at] at h; subst h; rw [mk]
            exact fin true (run_guard_plain (by simp) (by simp)) (run_equal_of (fun d => by simp [Op.equalIn, run_underlying hu])) (by simp) (by simp) (by simp) (by simp)
          · exact h.elim
        · simp only [Den] at ha hb
          obtain ⟨us, rfl, ha⟩ := ha
          obtain ⟨vs, rfl, hb⟩ := hb
          split at h
          · rename_i fs hg hp hu
            split at h
            · rename_i e l he
              simp only [T.at] at h; subst h
              exact fin l (run_eqGuard_agg w op t ox oy _ _ hg) (run_equal_struct hu hp ha hb he w) (by simp) (by simp) (by simp) (by simp)
            · exact h.elim
          · exact h.elim
        · exact h.elim
end Go.Proofs.YtmknmbacecjfmaaDoor.Sx

/- The executor's other operations that look at no memory. -/
namespace Go.Proofs.YtmknmbacecjfmaaDoor.Sx
set_option linter.unusedVariables false

def kmin (k : IntKind) : Int := k.min
/-- every number of the one kind is one of the other -/
def widens (k k' : IntKind) : Bool := decide (k'.min ≤ k.min) && decide (k.max ≤ k'.max)
def convI (k : IntKind) (dst : IntKind) (x : Int) (l : Bool) : T SVal :=
  match l with
  | true => .ret (.lit dst (dst.wrap x))
  | false => match widens k dst with
    | true => .need (inR dst x) (.ret (.int dst x))
    | false => .ret (.int dst (dst.wrap x))
def tySize (P : Program) (t : TypeId) : Option Nat := (P.info? t).map (·.size)
def isAggP (P : Program) (t : TypeId) : Bool :=
  match P.underlying t with
  | some (.struct _) | some (.array _ _) => true
  | _ => false
/-- a part of a struct or an array that is a value -/
def partS (P : Program) (t : TypeId) (l : List SVal) (off : Nat) : T SVal :=
  match P.underlying t with
  | none => .no 10
  | some _ => match isAggP P t with
    | true => match tySize P t with
      | some n => match Nat.ble (off + n) l.length with
        | true => .ret (.agg ((l.drop off).take n))
        | false => .no 11
      | none => .no 12
    | false => match Nat.blt off l.length with
      | true => .ret (l.getD off .bad)
      | false => .no 13
/-- an index: its number, and whether it may be -/
def idxS (i : SVal) (n : NN) : Option (NN × Bool) :=
  match i with
  | .lit _ x => some (.c x.toNat, decide (0 ≤ x) && decide (x.toNat < n.val))
  | .int _ x => some (.v x.toNat, decide (0 ≤ x) && decide (x.toNat < n.val))
  | _ => none
/-- a slice's bound -/
def bndS (i : SVal) : Option (NN × Bool) :=
  match i with
  | .lit _ x => some (.c x.toNat, decide (0 ≤ x))
  | .int _ x => some (.v x.toNat, decide (0 ≤ x))
  | _ => none
def subN : NN → NN → NN
  | .c a, .c b => .c (a - b)
  | a, .c 0 => a
  | a, b => .v (a.val - b.val)
theorem subN_val (a b : NN) : (subN a b).val = a.val - b.val := by unfold subN; split <;> simp [NN.val]
def lenI : NN → SVal
  | .c n => .lit .i64 n
  | .v n => .int .i64 n
theorem lenI_den (env : Env) (n : NN) : Den env (lenI n) (.int .i64 n.val) := by cases n <;> simp [lenI, Den, NN.val]
def byteAt (s : ByteArray) (i : Nat) : Int := (s.data.getD i 0).toNat
/-- the cell address of an element of a slice -/
def elemAdr (id : Nat) (o : NN) (sz : Nat) (i : NN) : SVal :=
  match o.add i with
  | .c e => .ptr id (e * sz)
  | .v e => .pti id 0 e sz 0
def litIx : SVal → NN → Bool
  | .lit _ _, .c _ => true
  | _, _ => false
def indexAddrS (P : Program) (t : TypeId) (x ix : SVal) : T SVal :=
  match P.underlying t with
  | some (.slice elem) => match x, tySize P elem with
    | .sli id o sz len _, some z => match decide (z = sz), idxS ix len with
      | true, some (i, ok) => nd (litIx ix len) ok (.ret (elemAdr id o sz i))
      | _, _ => .no 14
    | .slr id i len, some z => match decide (z = 1), idxS ix (.v len) with
      | true, some (j, ok) => .need ok (.ret (.ptw id i j.val))
      | _, _ => .no 14
    | _, _ => .no 15
  | some (.array n elem) => match x, tySize P elem, idxS ix (.c n) with
    | .ptr id o, some z, some (.c i, ok) => nd true ok (.ret (.ptr id (o + i * z)))
    | .ptr id o, some z, some (.v i, ok) => nd false ok (.ret (.pti id o i z 0))
    | _, _, _ => .no 16
  | _ => .no 17
def indexS (P : Program) (t : TypeId) (x ix : SVal) : T SVal :=
  match P.underlying t with
  | some .string => match x with
    | .str s => match idxS ix (.c s.size) with
      | some (i, ok) => nd false ok (.ret (.int .u8 (byteAt s i.val)))
      | none => .no 18
    | .sl l => match idxS ix (.c l.length) with
      | some (.c i, ok) => nd true ok (.ret (.lit .u8 (l.getD i 0).toNat))
      | _ => .no 18
    | _ => .no 19
  | some (.array n elem) => match x, tySize P elem, idxS ix (.c n) with
    | .agg l, some z, some (.c i, ok) => nd true ok (partS P elem l (i * z))
    | _, _, _ => .no 20
  | _ => .no 21
def optB : Option SVal → Option (Option (NN × Bool))
  | none => some none
  | some v => (bndS v).map some
/-- the bounds of 'x[lo:hi]' where 'top' may be reached -/
def sliceS (P : Program) (t : TypeId) (x : SVal) (lo hi mx : Option SVal) : T SVal :=
  match P.underlying t with
  | some .string => match mx with
    | some _ => .no 22
    | none => match asStr x, optB lo, optB hi with
      | some (s, _), some l, some h =>
        let h' : NN × Bool := h.getD (.c s.size, true)
        let l' : NN × Bool := l.getD (.c 0, true)
        .need (h'.2 && decide (h'.1.val ≤ s.size)) (.need (l'.2 && decide (l'.1.val ≤ h'.1.val)) (.ret (.str (s.extract l'.1.val h'.1.val))))
      | _, _, _ => .no 23
  | some (.slice elem) => match x, tySize P elem, optB lo, optB hi, optB mx with
    | .sli id o sz len cp, some z, some l, some h, some m =>
      let top : NN := cp.getD len
      let h' : NN × Bool := h.getD (len, true)
      let l' : NN × Bool := l.getD (.c 0, true)
      match decide (z = sz), m with
      | true, none => .need (h'.2 && decide (h'.1.val ≤ top.val)) (.need (l'.2 && decide (l'.1.val ≤ h'.1.val)) (.ret (.sli id (o.add l'.1) sz (subN h'.1 l'.1) (cp.map (subN · l'.1)))))
      | true, some (m, mok) => match h with
        | none => .no 24
        | some _ => .need (mok && decide (m.val ≤ top.val)) (.need (h'.2 && decide (h'.1.val ≤ m.val)) (.need (l'.2 && decide (l'.1.val ≤ h'.1.val)) (.ret (.sli id (o.add l'.1) sz (subN h'.1 l'.1) (some (subN m l'.1))))))
      | _, _ => .no 25
    | .snil, some z, some l, some h, some none =>
      let h' : NN × Bool := h.getD (.c 0, true)
      let l' : NN × Bool := l.getD (.c 0, true)
      .need (h'.2 && decide (h'.1.val ≤ 0)) (.need (l'.2 && decide (l'.1.val ≤ h'.1.val)) (.ret .snil))
    | _, _, _, _, _ => .no 26
  | some (.array n elem) => match x, tySize P elem, optB lo, optB hi, optB mx with
    | .ptr id o, some z, some l, some h, some m =>
      let h' : NN × Bool := h.getD (.c n, true)
      let l' : NN × Bool := l.getD (.c 0, true)
      match Nat.blt 0 z, decide (o % z = 0), m with
      | true, true, none => .need (h'.2 && decide (h'.1.val ≤ n)) (.need (l'.2 && decide (l'.1.val ≤ h'.1.val)) (.ret (.sli id ((NN.c (o / z)).add l'.1) z (subN h'.1 l'.1) (some (subN (.c n) l'.1)))))
      | true, true, some (m, mok) => match h with
        | none => .no 27
        | some _ => .need (mok && decide (m.val ≤ n)) (.need (h'.2 && decide (h'.1.val ≤ m.val)) (.need (l'.2 && decide (l'.1.val ≤ h'.1.val)) (.ret (.sli id ((NN.c (o / z)).add l'.1) z (subN h'.1 l'.1) (some (subN m l'.1))))))
      | _, _, _ => .no 28
    | _, _, _, _, _ => .no 29
  | _ => .no 30
/-- the cells of a value that may lie in memory -/
def cellsOf : SVal → Option (List SVal)
  | .agg l => some l
  | .tup _ | .raw _ | .bad | .sw _ _ _ => none
  | v => some [v]
def scalar : SVal → Bool
  | .agg _ | .tup _ | .raw _ | .bad | .sw _ _ _ => false
  | _ => true
def fillS (place : Nat → Option (Nat × Nat)) (cells : List SVal) : List (Nat × SVal) → Option (List SVal)
  | [] => some cells
  | (i, v) :: rest => match place i, cellsOf v with
    | some (off, size), some vs => match decide (vs.length = size), Nat.ble (off + vs.length) cells.length with
      | true, true => fillS place (cells.take off ++ vs ++ cells.drop (off + vs.length)) rest
      | _, _ => none
    | _, _ => none
def zeroS (P : Program) (t : TypeId) : Option (List SVal) :=
  match P.info? t with
  | some i => match i.zero with
    | some v => some (v.cells.toList.map ofSc)
    | none => none
  | none => none
def placesS (P : Program) (fields : Array Field) (i : Nat) : Option (Nat × Nat) :=
  match fields[i]? with
  | some f => match tySize P f.type with
    | some z => some (f.offset, z)
    | none => none
  | none => none
def allSized (P : Program) (fields : Array Field) : Bool := fields.toList.all fun f => (tySize P f.type).isSome
def buildS (P : Program) (t : TypeId) (parts : List (Nat × SVal)) : T SVal :=
  match P.underlying t, zeroS P t with
  | some (.struct fields), some z => match allSized P fields, fillS (placesS P fields) z parts with
    | true, some l => .ret (.agg l)
    | _, _ => .no 31
  | some (.array _ elem), some z => match tySize P elem with
    | some s => match fillS (fun i => some (i * s, s)) z parts with
      | some l => .ret (.agg l)
      | none => .no 32
    | none => .no 32
  | _, _ => .no 33
def typeAssertS (P : Program) (x : SVal) (asserted : TypeId) (ok : Bool) : T SVal :=
  match P.underlying asserted with
  | some (.interface _) | none => .no 34
  | some _ => match x with
    | .ifc t v => match decide (t = asserted), ok with
      | true, true => .ret (.tup [v, .bl true])
      | true, false => .ret v
      | false, true => match P.info? asserted with
        | some i => match i.zero with
          | some z => .ret (.tup [ofVal z, .bl false])
          | none => .no 35
        | none => .no 35
      | false, false => .no 36
    | .inil => match ok, P.info? asserted with
      | true, some i => match i.zero with
        | some z => .ret (.tup [ofVal z, .bl false])
        | none => .no 35
      | _, _ => .no 36
    | _ => .no 37
def lenS (P : Program) (t : TypeId) (x : SVal) : T SVal :=
  match P.underlying t, x with
  | some .string, .sl l => .ret (.lit .i64 l.length)
  | some .string, .str s => .ret (.int .i64 s.size)
  | some (.array n _), _ => .ret (.lit .i64 n)
  | some (.slice _), .snil => .ret (.lit .i64 0)
  | some (.slice _), .sli _ _ _ len _ => .ret (lenI len)
  | some (.slice _), .slr _ _ n => .ret (lenI (.v n))
  | some (.slice _), .raw (.slice _ n _) => .ret (lenI (.v n))
  | _, _ => .no 38
def imin (x y : Int) : Int := if y < x then y else x
def imax (x y : Int) : Int := if y > x then y else x
def mmS (mx : Bool) : List SVal → T SVal
  | [a, b] => match asI a, asI b with
    | some (k, x, lx), some (_, y, ly) => .ret (mkI (lx && ly) k (match mx with | true => imax x y | false => imin x y))
    | _, _ => .no 39
  | _ => .no 40
def pickS (c a b : SVal) : T SVal :=
  match c with
  | .bl true => .ret a
  | .bl false => .ret b
  | .sb p => match a, b with
    | .bl true, .sb y => .ret (.sb (p || y))
    | .bl true, .bl false => .ret (.sb p)
    | .sb x, .bl false => .ret (.sb (p && x))
    | a, b => .br p (.ret a) (.ret b)
  | _ => .no 41
def nilCheckS (x : SVal) : T SVal :=
  match x with
  | .ptr _ _ | .pti _ _ _ _ _ | .pto _ _ _ | .ifc _ _ | .fn (.func _) _ _ => .ret x
  | _ => .no 42
def unS (ex : IntKind → Bool) (op : UnOp) (x : SVal) : T SVal :=
  match op with
  | .not => match asB x with
    | some (b, l) => .ret (mkB l (!b))
    | none => .no 43
  | .neg => match asI x with
    | some (k, x, l) => arith (ex k) l k (0 - x)
    | none => .no 44
  | _ => .no 45
def convertS (P : Program) (src dst : TypeId) (x : SVal) : T SVal :=
  match P.underlying src, P.underlying dst with
  | some _, some (.int k) => match asI x with
    | some (k', x, l) => convI k' k x l
    | none => .no 46
  | some _, some .string => match asStr x with
    | some _ => .ret x
    | none => .no 47
  | _, _ => .no 48
def fieldAddrS (P : Program) (s : TypeId) (x : SVal) (f : Nat) : T SVal :=
  match P.underlying s with
  | some (.struct fields) => match fields[f]?, x.adr? with
    | some f, some a => match tySize P f.type with
      | some (_ + 1) => .ret (a.plus f.offset).toVal
      | _ => .no 49
    | _, _ => .no 50
  | _ => .no 51
def fieldS (P : Program) (t : TypeId) (x : SVal) (f : Nat) : T SVal :=
  match P.underlying t with
  | some (.struct fields) => match fields[f]?, x with
    | some f, .agg l => partS P f.type l f.offset
    | _, _ => .no 52
  | _ => .no 53
def makeInterfaceS (P : Program) (t : TypeId) (x : SVal) : T SVal :=
  match P.underlying t with
  | none | some (.interface _) => .no 54
  | some _ => .ret (.ifc t x)
def extractS (x : SVal) (i : Nat) : T SVal :=
  match x with
  | .tup l => match Nat.blt i l.length with
    | true => .ret (l.getD i .bad)
    | false => .no 55
  | _ => .no 56

/-- the operations that look at no memory -/
def pureS (P : Program) (ex : IntKind → Bool) (ev : Operand → SVal) (o : Op) : T SVal :=
  match o with
  | .move x | .assign x => .ret (ev x)
  | .pick c a b => pickS (ev c) (ev a) (ev b)
  | .nilCheck x => nilCheckS (ev x)
  | .binOp op t x y _ => binS P ex op t x y (ev x) (ev y)
  | .unOp op _ x => unS ex op (ev x)
  | .convert s d x => convertS P s d (ev x)
  | .makeInterface t x => makeInterfaceS P t (ev x)
  | .makeFunc fn first cap => .ret (.fn fn (first.toList.map ev) (cap.toList.map ev))
  | .fieldAddr s x f => fieldAddrS P s (ev x) f
  | .field t x f => fieldS P t (ev x) f
  | .indexAddr t x i => indexAddrS P t (ev x) (ev i)
  | .index t x i => indexS P t (ev x) (ev i)
  | .slice t x lo hi mx => sliceS P t (ev x) (lo.map ev) (hi.map ev) (mx.map ev)
  | .extract x i => extractS (ev x) i
  | .typeAssert x _ asserted ok => typeAssertS P (ev x) asserted ok
  | .build t parts => buildS P t (parts.toList.map fun p => (p.1, ev p.2))
  | .call { callee := .builtin .len, args, argTypes } => match args.toList, argTypes.toList with
    | [x], t :: _ => lenS P t (ev x)
    | _, _ => .no 57
  | .call { callee := .builtin .min, args, .. } => mmS false (args.toList.map ev)
  | .call { callee := .builtin .max, args, .. } => mmS true (args.toList.map ev)
  | _ => .no 58
def isPure : Op → Bool
  | .move _ | .assign _ | .pick .. | .nilCheck _ | .binOp .. | .unOp .. | .convert .. | .makeInterface .. | .makeFunc .. | .fieldAddr .. | .field .. | .indexAddr .. | .index .. | .slice ..
  | .extract .. | .typeAssert .. | .build .. => true
  | .call { callee := .builtin .len, .. } | .call { callee := .builtin .min, .. } | .call { callee := .builtin .max, .. } => true
  | _ => false
end Go.Proofs.YtmknmbacecjfmaaDoor.Sx

/- The operations that look at no memory are right. -/
namespace Go.Proofs.YtmknmbacecjfmaaDoor.Sx
set_option linter.unusedVariables false

theorem run_size {P : Program} {t : TypeId} {n : Nat} (h : tySize P t = some n) (w : World) : (sizeOf t).run P w = .ok n w := by
  unfold tySize at h
  cases hi : P.info? t with
  | none => simp [hi] at h
  | some i => simp only [hi, Option.map_some, Option.some.injEq] at h; subst h; simp [sizeOf, typeInfo, hi]
theorem run_isAggP {P : Program} {t : TypeId} {d : TypeDesc} (h : P.underlying t = some d) (w : World) : (isAgg t).run P w = .ok (isAggP P t) w := by
  simp only [isAgg, Sem.run_bind, run_underlying h, Result.andThen_ok, isAggP, h]
  cases d <;> rfl
theorem run_zero {P : Program} {t : TypeId} {i : TypeInfo} {z : Value} (h : P.info? t = some i) (hz : i.zero = some z) (w : World) : (zeroValue t).run P w = .ok z w := by
  simp [zeroValue, typeInfo, h, hz]

theorem widens_ok (k k' : IntKind) : True := trivial
theorem convI_ok {k dst : IntKind} {x : Int} {l : Bool} {s : SVal} {env : Env} (h : (convI k dst x l).at s) : Den env s (.int dst (dst.wrap x)) := by
  unfold convI at h
  split at h
  · simp only [T.at] at h; subst h; simp [Den]
  · split at h
    · obtain ⟨h1, h2⟩ := h; simp only [T.at] at h2; subst h2; simp [Den, wrap_inR h1]
    · simp only [T.at] at h; subst h; simp [Den]

theorem partS_ok {P : Program} {env : Env} {t : TypeId} {l : List SVal} {vs : List Value} {off : Nat} {s : SVal} (h : (partS P t l off).at s) (hd : DenL env l vs) (w : World) :
    ∃ r, (part t ⟨vs⟩ off).run P w = .ok r w ∧ Den env s r := by
  unfold partS at h
  split at h
  · exact h.elim
  · rename_i d hu
    have hl := denL_length hd
    split at h
    · rename_i ha
      split at h
      · rename_i n hn
        split at h
        · rename_i hle
          have hle := Nat.le_of_ble_eq_true hle
          simp only [T.at] at h; subst h
          refine ⟨.agg ⟨(vs.drop off).take n⟩, ?_, ?_⟩
          · have hx : (⟨vs⟩ : Array Value).extract off (off + n) = ⟨(vs.drop off).take n⟩ := by
              apply Array.ext'
              rw [Array.toList_extract]
              simp [List.extract_eq_take_drop]
            simp only [part, Sem.run_bind, run_isAggP hu, ha, run_size hn, Result.andThen_ok, if_true, hx, Sem.run_pure]
          · simp only [Den]; exact ⟨_, rfl, denL_take n (denL_drop off hd)⟩
        · exact h.elim
      · exact h.elim
    · rename_i ha
      split at h
      · rename_i hlt
        have hlt := Nat.le_of_ble_eq_true hlt
        have hlt : off < vs.length := by omega
        simp only [T.at] at h; subst h
        refine ⟨vs.getD off undef, run_part_cell (by rw [run_isAggP hu, ha]) hlt, denL_getD hd off⟩
      · exact h.elim

theorem idxS_ok {env : Env} {s : SVal} {v : Value} {n i : NN} (h : idxS s n = some (i, true)) (hd : Den env s v) : ∃ k x, v = .int k x ∧ 0 ≤ x ∧ x.toNat < n.val ∧ i.val = x.toNat := by
  cases s <;> simp only [idxS, Option.some.injEq, Prod.mk.injEq, reduceCtorEq, Bool.and_eq_true, decide_eq_true_eq] at h <;>
    (obtain ⟨rfl, h1, h2⟩ := h; exact ⟨_, _, by simpa only [Den] using hd, h1, h2, rfl⟩)
theorem bndS_ok {env : Env} {s : SVal} {v : Value} {i : NN} (h : bndS s = some (i, true)) (hd : Den env s v) : ∃ k x, v = .int k x ∧ 0 ≤ x ∧ i.val = x.toNat := by
  cases s <;> simp only [bndS, Option.some.injEq, Prod.mk.injEq, reduceCtorEq, decide_eq_true_eq] at h <;>
    (obtain ⟨rfl, h1⟩ := h; exact ⟨_, _, by simpa only [Den] using hd, h1, rfl⟩)

theorem elemAdr_ok {env : Env} {id sz : Nat} {o i : NN} {e : Slot} (he : env[id]? = some e) : Den env (elemAdr id o sz i) (.pointer (some ⟨e.blk, e.off + (o.val + i.val) * sz, none⟩)) := by
  have hv := NN.add_val o i
  unfold elemAdr
  split
  · rename_i n hn
    rw [hn] at hv
    have hv : n = o.val + i.val := hv
    simp only [Den]; exact ⟨e, he, by rw [hv]⟩
  · rename_i n hn
    rw [hn] at hv
    have hv : n = o.val + i.val := hv
    simp only [Den]; exact ⟨e, he, by rw [hv]; simp⟩

theorem addr_add (a : Addr) (n : Nat) (h : a.spot = none) : a.add n = ⟨a.block, a.off + n, none⟩ := by
  cases a; simp at h; subst h; unfold Addr.add; split <;> simp_all

theorem indexAddrS_ok {P : Program} {env : Env} {t : TypeId} {x ix s : SVal} {u v : Value} (h : (indexAddrS P t x ix).at s) (hx : Den env x u) (hi : Den env ix v) (w : World) :
    ∃ r, (Instr.indexAt t u v).run P w = .ok r w ∧ Den env s r := by
  unfold indexAddrS at h
  split at h
  · rename_i elem hu
    split at h
    · rename_i id o sz len cp z hz
      split at h
      · rename_i i ok hzs hidx
        obtain ⟨rfl, h2⟩ := nd_at h
        simp only [T.at] at h2; subst h2
        simp only [decide_eq_true_eq] at hzs; subst hzs
        obtain ⟨k, n, rfl, h0, hlt, hval⟩ := idxS_ok hidx hi
        simp only [Den] at hx
        obtain ⟨e, a, he, rfl, hle, ha⟩ := hx
        have hcap : 0 < sliCap e o cp := by omega
        have ha := ha hcap
        subst ha
        have hlt' : n < (len.val : Int) := by omega
        refine ⟨.pointer (some ⟨e.blk, e.off + (o.val + i.val) * z, none⟩), ?_, elemAdr_ok he⟩
        simp [Instr.indexAt, asIntOf, Sem.run_bind, run_underlying hu, h0, hlt', run_size hz, addr_add, hval, Nat.add_mul, Nat.add_assoc]
      · exact h.elim
    · rename_i id i len z hz
      split at h
      · rename_i j ok hzs hidx
        simp only [T.at] at h
        obtain ⟨rfl, h2⟩ := h
        subst h2
        simp only [decide_eq_true_eq] at hzs; subst hzs
        obtain ⟨k, n, rfl, h0, hlt, hval⟩ := idxS_ok hidx hi
        simp only [NN.val] at hlt
        simp only [Den] at hx
        obtain ⟨e, a, cp, he, rfl, hle, ha⟩ := hx
        obtain ⟨b, o, h5, h6, rfl⟩ := ha (by omega)
        have hlt' : n < (len : Int) := by omega
        refine ⟨.pointer (some ⟨b, o + j.val, none⟩), ?_, ?_⟩
        · simp [Instr.indexAt, asIntOf, Sem.run_bind, run_underlying hu, h0, hlt', run_size hz, addr_add, hval]
        · simp only [Den]; exact ⟨e, b, o, he, h5, h6, rfl⟩
      · exact h.elim
    · exact h.elim
  · rename_i n elem hu
    have fin : ∀ (id o z : Nat) (i : NN) (cl ok : Bool) (s' : SVal), tySize P elem = some z → idxS ix (.c n) = some (i, ok) → (nd cl ok (.ret s')).at s → (∀ e, env[id]? = some e → Den env s' (.pointer (some ⟨e.blk, e.off + o + i.val * z, none⟩))) → Den env (.ptr id o) u →
        ∃ r, (Instr.indexAt t u v).run P w = .ok r w ∧ Den env s r := by
      intro id o z i cl ok s' hz hidx h hs hx
      obtain ⟨rfl, h2⟩ := nd_at h
      simp only [T.at] at h2; subst h2
      obtain ⟨k, m, rfl, h0, hlt, hval⟩ := idxS_ok hidx hi
      simp only [NN.val] at hlt
      simp only [Den] at hx
      obtain ⟨e, he, rfl⟩ := hx
      have hlt' : m < (n : Int) := by omega
      refine ⟨_, ?_, hs e he⟩
      simp [Instr.indexAt, asIntOf, Sem.run_bind, run_underlying hu, h0, hlt', run_size hz, addr_add, hval, Instr.sureAddr]
    split at h
    · rename_i id o z i ok hz hidx
      exact fin id o z _ _ ok _ hz hidx h (fun e he => by simp only [Den, NN.val]; exact ⟨e, he, by simp [Nat.add_assoc]⟩) hx
    · rename_i id o z i ok hz hidx
      exact fin id o z _ _ ok _ hz hidx h (fun e he => by simp only [Den, NN.val]; exact ⟨e, he, by simp⟩) hx
    · exact h.elim
  · exact h.elim

theorem indexS_ok {P : Program} {env : Env} {t : TypeId} {x ix s : SVal} {u v : Value} (h : (indexS P t x ix).at s) (hx : Den env x u) (hi : Den env ix v) (w : World) :
    ∃ r, (Instr.index t u v).run P w = .ok r w ∧ Den env s r := by
  unfold indexS at h
  split at h
  · rename_i hu
    split at h
    · rename_i b
      split at h
      · rename_i i ok hidx
        obtain ⟨rfl, h2⟩ := nd_at h
        simp only [T.at] at h2; subst h2
        obtain ⟨k, m, rfl, h0, hlt, hval⟩ := idxS_ok hidx hi
        simp only [Den] at hx; subst hx
        simp only [NN.val] at hlt
        have hget : b[m.toNat]? = some (b.data.getD m.toNat 0) := by
          have : m.toNat < b.data.size := hlt
          show b.data[m.toNat]? = _
          simp [Array.getElem?_eq_getElem this]
        refine ⟨.int .u8 (byteAt b i.val), ?_, by simp [Den]⟩
        simp [Instr.index, asIntOf, Sem.run_bind, run_underlying hu, h0, hget, byteAt, hval]
      · exact h.elim
    · rename_i l
      split at h
      · rename_i i ok hidx
        obtain ⟨rfl, h2⟩ := nd_at h
        simp only [T.at] at h2; subst h2
        obtain ⟨k, m, rfl, h0, hlt, hval⟩ := idxS_ok hidx hi
        simp only [Den] at hx; subst hx
        simp only [NN.val] at hlt hval; subst hval
        have hget : (⟨l.toArray⟩ : ByteArray)[m.toNat]? = some (l.getD m.toNat 0) := by
          show (l.toArray)[m.toNat]? = _
          simp [hlt]
        refine ⟨.int .u8 (l.getD m.toNat 0).toNat, ?_, by simp [Den]⟩
        simp [Instr.index, asIntOf, Sem.run_bind, run_underlying hu, h0, hget]
      · exact h.elim
    · exact h.elim
  · rename_i n elem hu
    split at h
    · rename_i l z i ok hz hidx
      obtain ⟨rfl, h2⟩ := nd_at h
      obtain ⟨k, m, rfl, h0, hlt, hval⟩ := idxS_ok hidx hi
      simp only [NN.val] at hlt hval; subst hval
      simp only [Den] at hx
      obtain ⟨vs, rfl, hd⟩ := hx
      obtain ⟨r, hr, hdr⟩ := partS_ok h2 hd w
      have hlt' : m < (n : Int) := by omega
      refine ⟨r, ?_, hdr⟩
      simp [Instr.index, asIntOf, Sem.run_bind, run_underlying hu, h0, hlt', run_size hz, hr]
    · exact h.elim
  · exact h.elim

/-! ## slicing -/
theorem optB_some {env : Env} {o : Option SVal} {ov : Option Value} {n : NN × Bool} (h : optB o = some (some n)) (hd : ∀ s, o = some s → ∃ v, ov = some v ∧ Den env s v) (hn : n.2 = true) :
    ∃ k x, ov = some (.int k x) ∧ 0 ≤ x ∧ n.1.val = x.toNat := by
  cases o with
  | none => simp [optB] at h
  | some s =>
    simp only [optB, Option.map_eq_some_iff, Option.some.injEq] at h
    obtain ⟨m, hm, rfl⟩ := h
    obtain ⟨v, rfl, hv⟩ := hd s rfl
    obtain ⟨i, ok⟩ := m
    simp only at hn; subst hn
    obtain ⟨k, x, rfl, h0, h1⟩ := bndS_ok hm hv
    exact ⟨k, x, rfl, h0, h1⟩
theorem optB_none {o : Option SVal} (h : optB o = some none) : o = none := by
  cases o with
  | none => rfl
  | some s => simp [optB] at h
/-- what stands for optional values -/
def DenO (env : Env) : Option SVal → Option Value → Prop
  | none, v => v = none
  | some s, v => ∃ u, v = some u ∧ Den env s u
theorem run_bound {P : Program} {k : IntKind} {x : Int} {y : Nat} {code : BoundsCode} (h0 : 0 ≤ x) (h : x.toNat ≤ y) (w : World) : (Instr.sliceBound (.int k x) y code).run P w = .ok x.toNat w := by
  have : x ≤ (y : Int) := by omega
  simp [Instr.sliceBound, asIntOf, h0, this]

/-- the three bounds of a slice expression -/
theorem bounds_ok {P : Program} {env : Env} {isS : Bool} {ln cp : Nat} {lo hi : Option SVal} {vlo vhi vmx : Option Value} {l h : Option (NN × Bool)} (hl : optB lo = some l) (hh : optB hi = some h)
    (dl : DenO env lo vlo) (dh : DenO env hi vhi) {M : Nat} (w : World)
    (hm : (vmx = none ∧ M = cp) ∨ (∃ k x, vmx = some (.int k x) ∧ 0 ≤ x ∧ x.toNat = M ∧ M ≤ cp ∧ h ≠ none))
    (h' l' : NN × Bool) (eh : h' = h.getD (.c ln, true) ∨ (∃ n : NN, n.val = ln ∧ h' = h.getD (n, true))) (el : l' = l.getD (.c 0, true)) (h1 : h'.2 = true) (h2 : h'.1.val ≤ M) (l1 : l'.2 = true) (l2 : l'.1.val ≤ h'.1.val) :
    (Instr.sliceBounds isS ln cp vlo vhi vmx).run P w = .ok (l'.1.val, h'.1.val, M) w := by
  have hdl : ∀ s, lo = some s → ∃ v, vlo = some v ∧ Den env s v := by
    intro s hs; subst hs; exact dl
  have hdh : ∀ s, hi = some s → ∃ v, vhi = some v ∧ Den env s v := by
    intro s hs; subst hs; exact dh
  have nl : l = none → vlo = none := by
    intro e; subst e; have := optB_none hl; subst this; exact dl
  have nh : h = none → vhi = none := by
    intro e; subst e; have := optB_none hh; subst this; exact dh
  have hlo : (vlo = none ∧ l'.1.val = 0) ∨ ∃ k x, vlo = some (.int k x) ∧ 0 ≤ x ∧ l'.1.val = x.toNat := by
    cases l with
    | none => simp only [Option.getD_none] at el; subst el; exact .inl ⟨nl rfl, rfl⟩
    | some n =>
      simp only [Option.getD_some] at el; subst el
      obtain ⟨k, x, h, h0, hx⟩ := optB_some hl hdl l1
      exact .inr ⟨k, x, h, h0, hx⟩
  have hhi : (vhi = none ∧ h'.1.val = ln ∧ h = none) ∨ ∃ k x, vhi = some (.int k x) ∧ 0 ≤ x ∧ h'.1.val = x.toNat := by
    cases h with
    | none =>
      refine .inl ⟨nh rfl, ?_, rfl⟩
      rcases eh with rfl | ⟨n, hn, rfl⟩
      · rfl
      · exact hn
    | some n =>
      have eh' : h' = n := by rcases eh with rfl | ⟨_, _, rfl⟩ <;> rfl
      subst eh'
      obtain ⟨k, x, h, h0, hx⟩ := optB_some hh hdh h1
      exact .inr ⟨k, x, h, h0, hx⟩
  unfold Instr.sliceBounds
  rcases hm with ⟨rfl, rfl⟩ | ⟨k3, x3, rfl, h30, rfl, hle, hne⟩
  · rcases hlo with ⟨rfl, e1⟩ | ⟨k, x, rfl, h0, e1⟩ <;> rcases hhi with ⟨rfl, e2, _⟩ | ⟨k2, x2, rfl, h20, e2⟩
    · simp [e1, e2]
    · simp [e1, e2, run_bound h20 (show x2.toNat ≤ M by omega)]
    · rw [e1, e2]
      simp [run_bound h0 (show x.toNat ≤ ln by omega)]
    · rw [e1, e2]
      simp [Sem.run_bind, run_bound h20 (show x2.toNat ≤ M by omega), run_bound h0 (show x.toNat ≤ x2.toNat by omega)]
  · rcases hhi with ⟨rfl, e2, e3⟩ | ⟨k2, x2, rfl, h20, e2⟩
    · exact (hne e3).elim
    · rcases hlo with ⟨rfl, e1⟩ | ⟨k, x, rfl, h0, e1⟩
      · rw [e1, e2]
        simp [Sem.run_bind, run_bound h30 hle, run_bound h20 (show x2.toNat ≤ x3.toNat by omega)]
      · rw [e1, e2]
        simp [Sem.run_bind, run_bound h30 hle, run_bound h20 (show x2.toNat ≤ x3.toNat by omega), run_bound h0 (show x.toNat ≤ x2.toNat by omega)]

theorem denO_map {env : Env} {sev : Operand → SVal} {vev : Operand → Value} (hev : ∀ x, Den env (sev x) (vev x)) (o : Option Operand) : DenO env (o.map sev) (o.map vev) := by
  cases o with
  | none => rfl
  | some x => exact ⟨_, rfl, hev x⟩
theorem string_extract (s : ByteArray) (l h : Nat) : True := trivial

/-- the slice that comes of a slice -/
theorem sli_cut {env : Env} {id sz : Nat} {o : NN} {cp cp' : Option NN} {e : Slot} {a : Option Addr} (he : env[id]? = some e) {cap : Nat} (hcap : sliCap e o cp = cap)
    (ha : 0 < cap → a = some ⟨e.blk, e.off + o.val * sz, none⟩) {l h : NN} {m : Nat} (hlh : l.val ≤ h.val) (hhm : h.val ≤ m) (hm : m ≤ cap) (hc' : sliCap e (o.add l) cp' = m - l.val) :
    Den env (.sli id (o.add l) sz (subN h l) cp') (.slice (if m = l.val then a else a.map (·.add (l.val * sz))) (h.val - l.val) (m - l.val)) := by
  simp only [Den]
  by_cases hml : m = l.val
  · rw [if_pos hml]
    refine ⟨e, a, he, by rw [hc', subN_val], by rw [hc', subN_val]; omega, ?_⟩
    rw [hc']; intro h0; omega
  · rw [if_neg hml]
    refine ⟨e, a.map (·.add (l.val * sz)), he, by rw [hc', subN_val], by rw [hc', subN_val]; omega, ?_⟩
    intro _
    have := ha (by omega)
    subst this
    simp only [Option.map_some]
    rw [addr_add _ _ rfl, NN.add_val, Nat.add_mul]
    simp [Nat.add_assoc]

theorem sliceS_ok {P : Program} {env : Env} {t : TypeId} {x s : SVal} {lo hi mx : Option SVal} {u : Value} {vlo vhi vmx : Option Value} (h : (sliceS P t x lo hi mx).at s) (hx : Den env x u)
    (dl : DenO env lo vlo) (dh : DenO env hi vhi) (dm : DenO env mx vmx) (w : World) : ∃ r, (Instr.sliceAt t u vlo vhi vmx).run P w = .ok r w ∧ Den env s r := by
  unfold sliceS at h
  split at h
  · rename_i hu
    split at h
    · exact h.elim
    · simp only [DenO] at dm; subst dm
      split at h
      · rename_i s0 l0 l h' hs hl hh
        have := asStr_den hs hx
        subst this
        simp only [T.at, Bool.and_eq_true, decide_eq_true_eq] at h
        obtain ⟨⟨h1, h2⟩, ⟨l1, l2⟩, rfl⟩ := h
        have hb := bounds_ok (P := P) (isS := false) (ln := s0.size) (cp := s0.size) hl hh dl dh (M := s0.size) (vmx := none) w (.inl ⟨rfl, rfl⟩) _ _ (.inl rfl) rfl h1 h2 l1 l2
        refine ⟨.string (s0.extract (l.getD (.c 0, true)).1.val (h'.getD (.c s0.size, true)).1.val), ?_, by simp only [Den]⟩
        simp [Instr.sliceAt, Instr.slice, Sem.run_bind, run_underlying hu, hb]
      · exact h.elim
  · rename_i elem hu
    split at h
    · rename_i id o sz len cp z l h' m hz hl hh hm
      simp only [Den] at hx
      obtain ⟨e, a, he, rfl, hle, ha⟩ := hx
      have htop : (cp.getD len).val ≤ sliCap e o cp := by
        cases cp with
        | none => simpa using hle
        | some c => simp [sliCap]
      split at h
      · rename_i hzs
        simp only [decide_eq_true_eq] at hzs; subst hzs
        have := optB_none hm; subst this
        simp only [DenO] at dm; subst dm
        simp only [T.at, Bool.and_eq_true, decide_eq_true_eq] at h
        obtain ⟨⟨h1, h2⟩, ⟨l1, l2⟩, rfl⟩ := h
        have hb := bounds_ok (P := P) (isS := true) (ln := len.val) (cp := sliCap e o cp) hl hh dl dh (M := sliCap e o cp) (vmx := none) w (.inl ⟨rfl, rfl⟩) _ _ (.inr ⟨len, rfl, rfl⟩) rfl h1 (Nat.le_trans h2 htop) l1 l2
        refine ⟨_, ?_, sli_cut (a := a) (cp := cp) he rfl ha (l := (l.getD (.c 0, true)).1) (h := (h'.getD (len, true)).1) (m := sliCap e o cp) l2 (Nat.le_trans h2 htop) (Nat.le_refl _) ?_⟩
        · simp [Instr.sliceAt, Instr.slice, Sem.run_bind, run_underlying hu, hb, run_size hz]
        · cases cp with
          | none => simp only [sliCap, Option.map_none, NN.add_val]; omega
          | some c => simp only [sliCap, Option.map_some, subN_val]
      · rename_i mm mok hzs
        simp only [decide_eq_true_eq] at hzs; subst hzs
        split at h
        · exact h.elim
        · rename_i hn
          simp only [T.at, Bool.and_eq_true, decide_eq_true_eq] at h
          obtain ⟨⟨m1, m2⟩, ⟨h1, h2⟩, ⟨l1, l2⟩, rfl⟩ := h
          subst m1
          obtain ⟨k, x, hv, h0, hx⟩ := optB_some (env := env) (ov := vmx) hm (fun s hs => by subst hs; exact dm) rfl
          subst hv
          simp only at hx
          have hb := bounds_ok (P := P) (isS := true) (ln := len.val) (cp := sliCap e o cp) hl hh dl dh (M := x.toNat) (vmx := some (.int k x)) w (.inr ⟨k, x, rfl, h0, rfl, by omega, by simp⟩) _ _ (.inr ⟨len, rfl, rfl⟩) rfl h1 (by omega) l1 l2
          refine ⟨_, ?_, sli_cut (a := a) (cp := cp) he rfl ha (l := (l.getD (.c 0, true)).1) (h := ((some _).getD (len, true)).1) (m := x.toNat) l2 (by omega) (by omega) ?_⟩
          · simp [Instr.sliceAt, Instr.slice, Sem.run_bind, run_underlying hu, hb, run_size hz]
          · simp only [sliCap, subN_val]; omega
      · exact h.elim
    · rename_i z l h' hz hl hh hm
      have := optB_none hm; subst this
      simp only [DenO] at dm; subst dm
      simp only [Den] at hx; subst hx
      simp only [T.at, Bool.and_eq_true, decide_eq_true_eq] at h
      obtain ⟨⟨h1, h2⟩, ⟨l1, l2⟩, rfl⟩ := h
      have hb := bounds_ok (P := P) (isS := true) (ln := 0) (cp := 0) hl hh dl dh (M := 0) (vmx := none) w (.inl ⟨rfl, rfl⟩) _ _ (.inl rfl) rfl h1 h2 l1 l2
      have e1 : (l.getD (.c 0, true)).1.val = 0 := by omega
      have e2 : (h'.getD (.c 0, true)).1.val = 0 := by omega
      refine ⟨.slice none 0 0, ?_, by simp only [Den]⟩
      simp [Instr.sliceAt, Instr.slice, Sem.run_bind, run_underlying hu, hb, run_size hz, e1, e2]
    · exact h.elim
  · rename_i n elem hu
    split at h
    · rename_i id o z l h' m hz hl hh hm
      simp only [Den] at hx
      obtain ⟨e, he, rfl⟩ := hx
      split at h
      · rename_i hz0 hoz
        have hz0 : 0 < z := Nat.le_of_ble_eq_true hz0
        simp only [decide_eq_true_eq] at hoz
        have ho : o / z * z = o := by have := Nat.div_add_mod o z; rw [hoz, Nat.mul_comm] at this; omega
        have := optB_none hm; subst this
        simp only [DenO] at dm; subst dm
        simp only [T.at, Bool.and_eq_true, decide_eq_true_eq] at h
        obtain ⟨⟨h1, h2⟩, ⟨l1, l2⟩, rfl⟩ := h
        have hb := bounds_ok (P := P) (isS := false) (ln := n) (cp := n) hl hh dl dh (M := n) (vmx := none) w (.inl ⟨rfl, rfl⟩) _ _ (.inl rfl) rfl h1 h2 l1 l2
        refine ⟨_, ?_, sli_cut (a := some ⟨e.blk, e.off + o, none⟩) (cp := some (.c n)) (o := .c (o / z)) (sz := z) he rfl (fun _ => by simp only [NN.val, ho]) (l := (l.getD (.c 0, true)).1) (h := (h'.getD (.c n, true)).1) (m := n) l2 h2 (Nat.le_refl _) ?_⟩
        · simp only [Instr.sliceAt, Instr.sureAddr, Sem.run_bind, run_underlying hu, hb, run_size hz, Result.andThen_ok, Sem.run_pure]
          split <;> rfl
        · show (subN (.c n) _).val = _; rw [subN_val]; rfl
      · rename_i mm mok hz0 hoz
        have hz0 : 0 < z := Nat.le_of_ble_eq_true hz0
        simp only [decide_eq_true_eq] at hoz
        have ho : o / z * z = o := by have := Nat.div_add_mod o z; rw [hoz, Nat.mul_comm] at this; omega
        split at h
        · exact h.elim
        · rename_i hn
          simp only [T.at, Bool.and_eq_true, decide_eq_true_eq] at h
          obtain ⟨⟨m1, m2⟩, ⟨h1, h2⟩, ⟨l1, l2⟩, rfl⟩ := h
          subst m1
          obtain ⟨k, x, hv, h0, hx⟩ := optB_some (env := env) (ov := vmx) hm (fun s hs => by subst hs; exact dm) rfl
          subst hv
          simp only at hx
          have hb := bounds_ok (P := P) (isS := false) (ln := n) (cp := n) hl hh dl dh (M := x.toNat) (vmx := some (.int k x)) w (.inr ⟨k, x, rfl, h0, rfl, by omega, by simp⟩) _ _ (.inl rfl) rfl h1 (by omega) l1 l2
          refine ⟨_, ?_, sli_cut (a := some ⟨e.blk, e.off + o, none⟩) (cp := some (.c n)) (o := .c (o / z)) (sz := z) (cap := n) he rfl (fun _ => by simp only [NN.val, ho]) (l := (l.getD (.c 0, true)).1) (h := ((some _).getD (.c n, true)).1) (m := x.toNat) l2 (by omega) (by omega) ?_⟩
          · simp only [Instr.sliceAt, Instr.sureAddr, Sem.run_bind, run_underlying hu, hb, run_size hz, Result.andThen_ok, Sem.run_pure]
            split <;> rfl
          · show (subN _ _).val = _; rw [subN_val, hx]
      · exact h.elim
    · exact h.elim
  · exact h.elim

/-! ## building -/
theorem cellsOf_den {env : Env} {s : SVal} {v : Value} {l : List SVal} (h : cellsOf s = some l) (hd : Den env s v) : DenL env l v.cells.toList := by
  cases s <;> simp only [cellsOf, Option.some.injEq, reduceCtorEq] at h <;> subst h
  case agg l =>
    simp only [Den] at hd
    obtain ⟨vs, rfl, hd⟩ := hd
    simpa [Value.cells] using hd
  case ptr => have hd' := hd; simp only [Den] at hd; obtain ⟨e, h1, rfl⟩ := hd; exact denL_cons.2 ⟨hd', denL_nil⟩
  case pti => have hd' := hd; simp only [Den] at hd; obtain ⟨e, h1, rfl⟩ := hd; exact denL_cons.2 ⟨hd', denL_nil⟩
  case pto => have hd' := hd; simp only [Den] at hd; obtain ⟨e, b, h1, _, rfl⟩ := hd; exact denL_cons.2 ⟨hd', denL_nil⟩
  case ptw => have hd' := hd; simp only [Den] at hd; obtain ⟨e, b, o, h1, _, _, rfl⟩ := hd; exact denL_cons.2 ⟨hd', denL_nil⟩
  case sli => have hd' := hd; simp only [Den] at hd; obtain ⟨e, a, h1, rfl, _⟩ := hd; exact denL_cons.2 ⟨hd', denL_nil⟩
  case slr => have hd' := hd; simp only [Den] at hd; obtain ⟨e, a, cp, h1, rfl, _⟩ := hd; exact denL_cons.2 ⟨hd', denL_nil⟩
  case ifc => have hd' := hd; simp only [Den] at hd; obtain ⟨e, rfl, _⟩ := hd; exact denL_cons.2 ⟨hd', denL_nil⟩
  case fn => have hd' := hd; simp only [Den] at hd; obtain ⟨e, c, rfl, _⟩ := hd; exact denL_cons.2 ⟨hd', denL_nil⟩
  all_goals (have hd' := hd; simp only [Den] at hd; subst hd; exact denL_cons.2 ⟨hd', denL_nil⟩)

theorem foldl_put (cs vs : List Value) : ∀ (ws : List Value) (off j : Nat), off + j + ws.length ≤ cs.length →
    ((ws.zipIdx j).foldl (fun (a : Array Value) (p : Value × Nat) => a.setIfInBounds (off + p.2) p.1) ⟨cs⟩).toList = cs.take (off + j) ++ ws ++ cs.drop (off + j + ws.length) := by
  intro ws
  induction ws generalizing cs with
  | nil => intro off j h; simp
  | cons w ws ih =>
    intro off j h
    simp only [List.length_cons] at h
    simp only [List.zipIdx_cons, List.foldl_cons]
    have hset : (⟨cs⟩ : Array Value).setIfInBounds (off + j) w = ⟨cs.set (off + j) w⟩ := Array.ext' (by simp)
    rw [hset]
    have := ih (cs.set (off + j) w) off (j + 1) (by simp; omega)
    rw [this]
    have h1 : (cs.set (off + j) w).take (off + (j + 1)) = cs.take (off + j) ++ [w] := by
      rw [show off + (j + 1) = (off + j) + 1 by omega, List.take_succ_eq_append_getElem (by simp; omega), List.take_set_of_le (Nat.le_refl _)]
      simp
    have h2 : (cs.set (off + j) w).drop (off + (j + 1) + ws.length) = cs.drop (off + j + (ws.length + 1)) := by
      rw [List.drop_set_of_lt (by omega)]
      congr 1; omega
    rw [h1, h2]
    simp

theorem fillS_ok {env : Env} {place : Nat → Option (Nat × Nat)} : ∀ {parts : List (Nat × SVal)} {vparts : List (Nat × Value)} {cells l : List SVal} {vs : List Value}, fillS place cells parts = some l →
    DenL env cells vs → (parts.map (·.1) = vparts.map (·.1)) → DenL env (parts.map (·.2)) (vparts.map (·.2)) → ∃ us, Instr.fill place ⟨vs⟩ vparts = some ⟨us⟩ ∧ DenL env l us
  | [], vparts, cells, l, vs, h, hd, h1, h2 => by
    simp only [fillS, Option.some.injEq] at h; subst h
    cases vparts with
    | nil => exact ⟨vs, rfl, hd⟩
    | cons => simp at h1
  | (i, s) :: parts, vparts, cells, l, vs, h, hd, h1, h2 => by
    cases vparts with
    | nil => simp at h1
    | cons p vparts =>
      obtain ⟨i', v⟩ := p
      simp only [List.map_cons, List.cons.injEq] at h1
      obtain ⟨rfl, h1⟩ := h1
      simp only [List.map_cons] at h2
      obtain ⟨hv, h2⟩ := denL_cons.1 h2
      simp only [fillS] at h
      split at h
      · rename_i off size ss hp hc
        split at h
        · rename_i hsz hle
          simp only [decide_eq_true_eq] at hsz
          have hle := Nat.le_of_ble_eq_true hle
          have hcv := cellsOf_den hc hv
          have hlen := denL_length hcv
          have hl := denL_length hd
          have hput : (v.cells.zipIdx.foldl (fun cs (c, j) => cs.setIfInBounds (off + j) c) (⟨vs⟩ : Array Value)) = ⟨vs.take off ++ v.cells.toList ++ vs.drop (off + v.cells.toList.length)⟩ := by
            apply Array.ext'
            have := foldl_put vs [] v.cells.toList off 0 (by simp only [Array.length_toList] at hlen ⊢; omega)
            simp only [Nat.add_zero] at this
            rw [← this]
            rw [← Array.foldl_toList]
            simp [Array.toList_zipIdx]
          have hsz' : v.cells.size = size := by rw [← Array.length_toList, hlen, hsz]
          have hle' : ¬ (off + v.cells.size > (⟨vs⟩ : Array Value).size) := by
            show ¬ (off + v.cells.size > vs.length)
            rw [← Array.length_toList, hlen, hl]; omega
          simp only [Instr.fill, hp, hsz', ne_eq, not_true_eq_false]
          rw [if_neg (by simpa [← hsz'] using hle'), hput]
          refine fillS_ok h ?_ h1 h2
          have e1 : v.cells.toList.length = ss.length := hlen
          rw [e1]
          exact denL_append (denL_append (denL_take off hd) hcv) (denL_drop _ hd)
        · simp at h
      · simp at h

theorem zeroS_ok {P : Program} {env : Env} {t : TypeId} {l : List SVal} (h : zeroS P t = some l) (w : World) : ∃ z, (zeroValue t).run P w = .ok z w ∧ DenL env l z.cells.toList := by
  unfold zeroS at h
  split at h
  · rename_i i hi
    split at h
    · rename_i z hz
      simp only [Option.some.injEq] at h; subst h
      exact ⟨z, run_zero hi hz w, denL_ofSc env _⟩
    · simp at h
  · simp at h

theorem run_mapM_list {P : Program} {α β : Type} {g : α → Sem β} {h : α → β} (w : World) : ∀ (l : List α), (∀ x ∈ l, (g x).run P w = .ok (h x) w) → (l.mapM g).run P w = .ok (l.map h) w
  | [], _ => rfl
  | x :: l, hx => by
    rw [List.mapM_cons]
    simp only [Sem.run_bind, hx x List.mem_cons_self, Result.andThen_ok, run_mapM_list w l (fun y hy => hx y (List.mem_cons_of_mem _ hy))]
    rfl
theorem run_mapM_array {P : Program} {α β : Type} {g : α → Sem β} {h : α → β} (w : World) (l : Array α) (hx : ∀ x ∈ l.toList, (g x).run P w = .ok (h x) w) : (l.mapM g).run P w = .ok (l.map h) w := by
  rw [Array.mapM_eq_mapM_toList]
  show ((Functor.map List.toArray (l.toList.mapM g) : Sem (Array β))).run P w = _
  rw [map_eq_pure_bind]
  simp only [Sem.run_bind, run_mapM_list w l.toList hx, Result.andThen_ok, Sem.run_pure]
  congr 1
  exact Array.ext' (by simp)
theorem buildS_ok {P : Program} {env : Env} {t : TypeId} {parts : List (Nat × SVal)} {vparts : Array (Nat × Value)} {s : SVal} (h : (buildS P t parts).at s)
    (h1 : parts.map (·.1) = vparts.toList.map (·.1)) (h2 : DenL env (parts.map (·.2)) (vparts.toList.map (·.2))) (w : World) : ∃ r, (Instr.build t vparts).run P w = .ok r w ∧ Den env s r := by
  unfold buildS at h
  split at h
  · rename_i fields z hu hz
    split at h
    · rename_i l hs hf
      simp only [T.at] at h; subst h
      obtain ⟨zv, hzv, hdz⟩ := zeroS_ok (env := env) hz w
      have hplaces : (fields.mapM (fun f => do pure (f.offset, ← sizeOf f.type)) : Sem (Array (Nat × Nat))).run P w = .ok (fields.map fun f => (f.offset, (tySize P f.type).getD 0)) w := by
        refine run_mapM_array w fields fun f hf => ?_
        have : (tySize P f.type).isSome := List.all_eq_true.1 hs f hf
        obtain ⟨n, hn⟩ := Option.isSome_iff_exists.1 this
        simp [run_size hn, hn]
      have hfun : (fun i => (fields.map fun f => (f.offset, (tySize P f.type).getD 0))[i]?) = placesS P fields := by
        funext i
        simp only [Array.getElem?_map, placesS]
        cases hfi : fields[i]? with
        | none => rfl
        | some f =>
          have : (tySize P f.type).isSome := by
            have := List.all_eq_true.1 hs f (by simpa using Array.mem_of_getElem? hfi)
            exact this
          obtain ⟨n, hn⟩ := Option.isSome_iff_exists.1 this
          simp [hn]
      obtain ⟨us, hus, hdu⟩ := fillS_ok hf hdz h1 h2
      refine ⟨.agg ⟨us⟩, ?_, by simp only [Den]; exact ⟨us, rfl, hdu⟩⟩
      simp only [Instr.build, Sem.run_bind, hzv, Result.andThen_ok, run_underlying hu, hplaces, hfun]
      have : (⟨zv.cells.toList⟩ : Array Value) = zv.cells := by simp
      rw [← this, hus]
      rfl
    · exact h.elim
  · rename_i n elem z hu hz
    split at h
    · rename_i sz hsz
      split at h
      · rename_i l hf
        simp only [T.at] at h; subst h
        obtain ⟨zv, hzv, hdz⟩ := zeroS_ok (env := env) hz w
        obtain ⟨us, hus, hdu⟩ := fillS_ok hf hdz h1 h2
        refine ⟨.agg ⟨us⟩, ?_, by simp only [Den]; exact ⟨us, rfl, hdu⟩⟩
        simp only [Instr.build, Sem.run_bind, hzv, Result.andThen_ok, run_underlying hu, run_size hsz]
        have : (⟨zv.cells.toList⟩ : Array Value) = zv.cells := by simp
        rw [← this, hus]
        rfl
      · exact h.elim
    · exact h.elim
  · exact h.elim

theorem typeAssertS_ok {P : Program} {env : Env} {x s : SVal} {u : Value} {xt asserted : TypeId} {ok : Bool} (h : (typeAssertS P x asserted ok).at s) (hx : Den env x u) (w : World) :
    ∃ r, (Instr.typeAssert u xt asserted ok).run P w = .ok r w ∧ Den env s r := by
  unfold typeAssertS at h
  split at h
  · exact h.elim
  · exact h.elim
  · rename_i d hni hu
    have zr : ∀ {i : TypeInfo} {z : Value}, P.info? asserted = some i → i.zero = some z → (T.ret (SVal.tup [ofVal z, .bl false])).at s →
        ∃ r, (do pure (.tuple #[← zeroValue asserted, .bool false]) : Sem Value).run P w = .ok r w ∧ Den env s r := by
      intro i z hi hz h
      simp only [T.at] at h; subst h
      refine ⟨.tuple #[z, .bool false], by simp [run_zero hi hz], ?_⟩
      simp only [Den]
      exact ⟨_, rfl, denL_cons.2 ⟨den_ofVal env z, denL_cons.2 ⟨by simp [Den], denL_nil⟩⟩⟩
    split at h
    · rename_i t v
      simp only [Den] at hx
      obtain ⟨u, rfl, hv⟩ := hx
      split at h
      · rename_i ht
        simp only [decide_eq_true_eq] at ht; subst ht
        simp only [T.at] at h; subst h
        refine ⟨.tuple #[u, .bool true], ?_, ?_⟩
        · cases d <;> first | exact (hni _ rfl).elim | simp [Instr.typeAssert, Sem.run_bind, run_underlying hu]
        · simp only [Den]; exact ⟨_, rfl, denL_cons.2 ⟨hv, denL_cons.2 ⟨by simp [Den], denL_nil⟩⟩⟩
      · rename_i ht
        simp only [decide_eq_true_eq] at ht; subst ht
        simp only [T.at] at h; subst h
        refine ⟨u, ?_, hv⟩
        cases d <;> first | exact (hni _ rfl).elim | simp [Instr.typeAssert, Sem.run_bind, run_underlying hu]
      · rename_i ht
        simp only [decide_eq_false_iff_not] at ht
        split at h
        · rename_i i hi
          split at h
          · rename_i z hz
            obtain ⟨r, hr, hd⟩ := zr hi hz h
            refine ⟨r, ?_, hd⟩
            rw [← hr]
            cases d <;> first | exact (hni _ rfl).elim | simp [Instr.typeAssert, Sem.run_bind, run_underlying hu, ht]
          · exact h.elim
        · exact h.elim
      · exact h.elim
    · simp only [Den] at hx; subst hx
      split at h
      · rename_i i hi
        split at h
        · rename_i z hz
          obtain ⟨r, hr, hd⟩ := zr hi hz h
          refine ⟨r, ?_, hd⟩
          rw [← hr]
          cases d <;> first | exact (hni _ rfl).elim | simp [Instr.typeAssert, Sem.run_bind, run_underlying hu]
        · exact h.elim
      · exact h.elim
    · exact h.elim

theorem lenS_ok {P : Program} {env : Env} {t : TypeId} {x s : SVal} {u : Value} (h : (lenS P t x).at s) (hx : Den env x u) (rest : List TypeId) (rt : TypeId) (w : World) :
    ∃ r, (Builtin.len_ ⟨t :: rest⟩ rt #[u]).run P w = .ok r w ∧ Den env s r := by
  unfold lenS at h
  split at h
  · rename_i l hu
    simp only [T.at] at h; subst h
    simp only [Den] at hx; subst hx
    have hsz : (⟨l.toArray⟩ : ByteArray).size = l.length := rfl
    exact ⟨.int .i64 l.length, by simp [Builtin.len_, Sem.run_bind, run_underlying hu, goInt, hsz], by simp [Den]⟩
  · rename_i b hu
    simp only [T.at] at h; subst h
    simp only [Den] at hx; subst hx
    exact ⟨.int .i64 b.size, by simp [Builtin.len_, Sem.run_bind, run_underlying hu, goInt], by simp [Den]⟩
  · rename_i n e hu
    simp only [T.at] at h; subst h
    exact ⟨.int .i64 n, by cases u <;> simp [Builtin.len_, Sem.run_bind, run_underlying hu, goInt], by simp [Den]⟩
  · rename_i e hu
    simp only [T.at] at h; subst h
    simp only [Den] at hx; subst hx
    exact ⟨.int .i64 0, by simp [Builtin.len_, Sem.run_bind, run_underlying hu, goInt], by simp [Den]⟩
  · rename_i e id o sz len cp hu
    simp only [T.at] at h; subst h
    simp only [Den] at hx
    obtain ⟨e, a, he, rfl, _⟩ := hx
    exact ⟨.int .i64 len.val, by simp [Builtin.len_, Sem.run_bind, run_underlying hu, goInt], lenI_den env len⟩
  · rename_i e id i n hu
    simp only [T.at] at h; subst h
    simp only [Den] at hx
    obtain ⟨e, a, cp, he, rfl, _⟩ := hx
    exact ⟨.int .i64 n, by simp [Builtin.len_, Sem.run_bind, run_underlying hu, goInt], lenI_den env (.v n)⟩
  · rename_i e a n cp hu
    simp only [T.at] at h; subst h
    simp only [Den] at hx; subst hx
    exact ⟨.int .i64 n, by simp [Builtin.len_, Sem.run_bind, run_underlying hu, goInt], lenI_den env (.v n)⟩
  · exact h.elim

theorem mmS_ok {P : Program} {env : Env} {mx : Bool} {l : List SVal} {vs : List Value} {s : SVal} (h : (mmS mx l).at s) (hd : DenL env l vs) (ts : Array TypeId) (rt : TypeId) (w : World) :
    ∃ r, (match mx with | true => Builtin.max_ ts rt ⟨vs⟩ | false => Builtin.min_ ts rt ⟨vs⟩ : Sem Value).run P w = .ok r w ∧ Den env s r := by
  unfold mmS at h
  split at h
  · rename_i a b
    split at h
    · rename_i k x lx k' y ly h1 h2
      simp only [T.at] at h; subst h
      simp only [DenL] at hd
      obtain ⟨u, us, rfl, ha, u', us', rfl, hb, rfl⟩ := hd
      have ea := asI_den h1 ha
      have eb := asI_den h2 hb
      subst ea; subst eb
      cases mx
      · exact ⟨.int k (imin x y), by simp [Builtin.min_, Builtin.min2, imin], mkI_den _ _ _⟩
      · exact ⟨.int k (imax x y), by simp [Builtin.max_, Builtin.max2, imax], mkI_den _ _ _⟩
    · exact h.elim
  · exact h.elim

theorem pickS_ok {P : Program} {env : Env} {c a b s : SVal} {u x y : Value} (h : (pickS c a b).at s) (hc : Den env c u) (ha : Den env a x) (hb : Den env b y) (w : World) :
    ∃ r, (do pure (Next.value (if ← asBool u then x else y)) : Sem Next).run P w = .ok (.value r) w ∧ Den env s r := by
  unfold pickS at h
  split at h
  · simp only [T.at] at h; subst h; simp only [Den] at hc; subst hc
    exact ⟨x, by simp [asBool], ha⟩
  · simp only [T.at] at h; subst h; simp only [Den] at hc; subst hc
    exact ⟨y, by simp [asBool], hb⟩
  · rename_i p
    simp only [Den] at hc; subst hc
    have run : (do pure (Next.value (if ← asBool (.bool p) then x else y)) : Sem Next).run P w = .ok (.value (if p then x else y)) w := by simp [asBool]
    split at h
    · simp only [T.at] at h; subst h; simp only [Den] at ha hb; subst ha; subst hb
      exact ⟨_, run, by simp only [Den]; cases p <;> simp⟩
    · simp only [T.at] at h; subst h; simp only [Den] at ha hb; subst ha; subst hb
      exact ⟨_, run, by simp only [Den]; cases p <;> simp⟩
    · simp only [T.at] at h; subst h; simp only [Den] at ha hb; subst ha; subst hb
      exact ⟨_, run, by simp only [Den]; cases p <;> simp⟩
    · simp only [T.at] at h
      rcases h with ⟨rfl, rfl⟩ | ⟨rfl, rfl⟩
      · exact ⟨_, run, by simpa using ha⟩
      · exact ⟨_, run, by simpa using hb⟩
  · exact h.elim

theorem nilCheckS_ok {P : Program} {env : Env} {x s : SVal} {ρ : Operand → Value} {o : Operand} {d : Option Tmp} {t : TypeId} {pos : String} {af : Array Edge} {g : Option (Nat × Bool)} (h : (nilCheckS x).at s) (hx : Den env x (ρ o)) (w : World) :
    ∃ r, (execOp ρ { dst := d, op := .nilCheck o, type := t, pos := pos, after := af, guard := g }).run P w = .ok (.value r) w ∧ Den env s r := by
  unfold nilCheckS at h
  split at h <;> first | exact h.elim | (simp only [T.at] at h; subst h)
  · have hx' := hx; simp only [Den] at hx'; obtain ⟨e, _, hv⟩ := hx'
    exact ⟨ρ o, by simp [execOp, hv], hx⟩
  · have hx' := hx; simp only [Den] at hx'; obtain ⟨e, _, hv⟩ := hx'
    exact ⟨ρ o, by simp [execOp, hv], hx⟩
  · have hx' := hx; simp only [Den] at hx'; obtain ⟨e, b, _, _, hv⟩ := hx'
    exact ⟨ρ o, by simp [execOp, hv], hx⟩
  · have hx' := hx; simp only [Den] at hx'; obtain ⟨e, hv, _⟩ := hx'
    exact ⟨ρ o, by simp [execOp, hv], hx⟩
  · have hx' := hx; simp only [Den] at hx'; obtain ⟨e, c, hv, _⟩ := hx'
    exact ⟨ρ o, by simp [execOp, hv], hx⟩

theorem unS_ok {P : Program} {env : Env} {ex : IntKind → Bool} {op : UnOp} {x s : SVal} {u : Value} (h : (unS ex op x).at s) (hx : Den env x u) (w : World) : ∃ r, (Op.unary op u).run P w = .ok r w ∧ Den env s r := by
  unfold unS at h
  split at h
  · split at h
    · rename_i b l hb
      simp only [T.at] at h; subst h
      have := asB_den hb hx; subst this
      exact ⟨.bool (!b), by simp [Op.unary], mkB_den _ _⟩
    · exact h.elim
  · split at h
    · rename_i k y l hb
      have := asI_den hb hx; subst this
      obtain ⟨z, rfl, rfl | rfl⟩ := arith_ok (P := P) h
      · exact ⟨.int k (k.wrap (0 - y)), by simp [Op.unary, Op.intArith], by simp [Den]⟩
      · exact ⟨.int k (k.wrap (0 - y)), by simp [Op.unary, Op.intArith], by simp [Den]⟩
    · exact h.elim
  · exact h.elim

theorem convertS_ok {P : Program} {env : Env} {src dst : TypeId} {x s : SVal} {u : Value} (h : (convertS P src dst x).at s) (hx : Den env x u) (w : World) : ∃ r, (convert src dst u).run P w = .ok r w ∧ Den env s r := by
  unfold convertS at h
  split at h
  · rename_i d k hs hd
    split at h
    · rename_i k' y l hb
      have := asI_den hb hx; subst this
      exact ⟨_, by simp [convert, Sem.run_bind, run_underlying hs, run_underlying hd, Conv.intToInt], convI_ok h⟩
    · exact h.elim
  · rename_i d hs hd
    split at h
    · rename_i b hb
      obtain ⟨b, l⟩ := b
      simp only [T.at] at h; subst h
      have := asStr_den hb hx; subst this
      exact ⟨_, by simp [convert, Sem.run_bind, run_underlying hs, run_underlying hd], hx⟩
    · exact h.elim
  · exact h.elim

theorem fieldAddrS_ok {P : Program} {env : Env} {t : TypeId} {x s : SVal} {f : Nat} {u : Value} (h : (fieldAddrS P t x f).at s) (hx : Den env x u) (w : World) : ∃ r, (Instr.fieldAt t u f).run P w = .ok r w ∧ Den env s r := by
  unfold fieldAddrS at h
  split at h
  · rename_i fields hu
    split at h
    · rename_i fd a hf ha
      split at h
      · rename_i n hn
        simp only [T.at] at h; subst h
        obtain ⟨A, rfl, hA⟩ := adr_den ha hx
        refine ⟨_, ?_, adr_toVal (adr_plus hA fd.offset)⟩
        simp [Instr.fieldAt, Sem.run_bind, run_underlying hu, hf, Instr.sureAddr, fieldPlace, run_size hn]
      · exact h.elim
    · exact h.elim
  · exact h.elim

theorem fieldS_ok {P : Program} {env : Env} {t : TypeId} {x s : SVal} {f : Nat} {u : Value} (h : (fieldS P t x f).at s) (hx : Den env x u) (w : World) : ∃ r, (Instr.field t u f).run P w = .ok r w ∧ Den env s r := by
  unfold fieldS at h
  split at h
  · rename_i fields hu
    split at h
    · rename_i fd l hf
      simp only [Den] at hx
      obtain ⟨vs, rfl, hd⟩ := hx
      obtain ⟨r, hr, hdr⟩ := partS_ok h hd w
      exact ⟨r, by simp [Instr.field, Sem.run_bind, run_underlying hu, hf, asAgg, hr], hdr⟩
    · exact h.elim
  · exact h.elim

theorem makeInterfaceS_ok {P : Program} {env : Env} {t : TypeId} {x s : SVal} {u : Value} (h : (makeInterfaceS P t x).at s) (hx : Den env x u) (w : World) : ∃ r, (Instr.makeInterface t u).run P w = .ok r w ∧ Den env s r := by
  unfold makeInterfaceS at h
  split at h
  · exact h.elim
  · exact h.elim
  · rename_i d hni hu
    simp only [T.at] at h; subst h
    refine ⟨.iface t u, ?_, by simp only [Den]; exact ⟨u, rfl, hx⟩⟩
    cases d <;> first | exact (hni _ rfl).elim | simp [Instr.makeInterface, Sem.run_bind, run_underlying hu]

theorem extractS_ok {P : Program} {env : Env} {x s : SVal} {i : Nat} {u : Value} (h : (extractS x i).at s) (hx : Den env x u) (w : World) : ∃ r, (Instr.extract u i).run P w = .ok r w ∧ Den env s r := by
  unfold extractS at h
  split at h
  · rename_i l
    split at h
    · rename_i hi
      have hi : i < l.length := Nat.le_of_ble_eq_true hi
      simp only [T.at] at h; subst h
      simp only [Den] at hx
      obtain ⟨vs, rfl, hd⟩ := hx
      obtain ⟨v, hv, hdv⟩ := denL_get i hd hi
      exact ⟨v, by simp [Instr.extract, hv], hdv⟩
    · exact h.elim
  · exact h.elim

theorem denL_map {env : Env} {sev : Operand → SVal} {vev : Operand → Value} (hev : ∀ x, Den env (sev x) (vev x)) : ∀ (l : List Operand), DenL env (l.map sev) (l.map vev)
  | [] => denL_nil
  | x :: l => denL_cons.2 ⟨hev x, denL_map hev l⟩
theorem arr_map {α β : Type} (a : Array α) (f : α → β) : a.map f = ⟨a.toList.map f⟩ := Array.ext' (by simp)

theorem pure_ok {P : Program} {env : Env} {ex : IntKind → Bool} {sev : Operand → SVal} {vev : Operand → Value} (hev : ∀ x, Den env (sev x) (vev x)) {o : Oper} {s : SVal} (h : (pureS P ex sev o.op).at s) (w : World) :
    ∃ v, (execOp vev o).run P w = .ok (.value v) w ∧ Den env s v := by
  obtain ⟨dst, op, type, pos, after, guard⟩ := o
  have lift : ∀ {m : Sem Value}, (∃ v, m.run P w = .ok v w ∧ Den env s v) → ∃ v, (do pure (Next.value (← m)) : Sem Next).run P w = .ok (.value v) w ∧ Den env s v := by
    rintro m ⟨v, hv, hd⟩; exact ⟨v, by simp [hv], hd⟩
  cases op <;> simp only [pureS] at h
  case move x => simp only [T.at] at h; subst h; exact ⟨vev x, rfl, hev x⟩
  case assign x => simp only [T.at] at h; subst h; exact ⟨vev x, rfl, hev x⟩
  case pick c a b => exact pickS_ok h (hev c) (hev a) (hev b) w
  case nilCheck x => exact nilCheckS_ok h (hev x) w
  case binOp op t x y yt =>
    have := lift (binS_ok h (hev x) (hev y) w)
    simpa [execOp, Sem.run_bind] using this
  case unOp op t x => exact lift (unS_ok h (hev x) w)
  case convert a b x => exact lift (convertS_ok h (hev x) w)
  case makeInterface t x => exact lift (makeInterfaceS_ok h (hev x) w)
  case makeFunc fn first cap =>
    simp only [T.at] at h; subst h
    refine ⟨.func fn ⟨first.toList.map vev⟩ ⟨cap.toList.map vev⟩, ?_, ?_⟩
    · simp [execOp, Instr.makeFunc, arr_map]
    · simp only [Den]; exact ⟨_, _, rfl, denL_map hev _, denL_map hev _⟩
  case fieldAddr t x f => exact lift (fieldAddrS_ok h (hev x) w)
  case field t x f => exact lift (fieldS_ok h (hev x) w)
  case indexAddr t x i => exact lift (indexAddrS_ok h (hev x) (hev i) w)
  case index t x i => exact lift (indexS_ok h (hev x) (hev i) w)
  case slice t x lo hi mx => exact lift (sliceS_ok h (hev x) (denO_map hev lo) (denO_map hev hi) (denO_map hev mx) w)
  case extract x i => exact lift (extractS_ok h (hev x) w)
  case typeAssert x xt asserted ok => exact lift (typeAssertS_ok h (hev x) w)
  case build t parts =>
    refine lift (buildS_ok (vparts := parts.map fun p => (p.1, vev p.2)) h ?_ ?_ w)
    · simp [Function.comp_def]
    · have := denL_map hev (parts.toList.map (·.2))
      simpa [Function.comp_def] using this
  case call c =>
    obtain ⟨callee, args, argTypes⟩ := c
    cases callee with
    | value f => exact h.elim
    | invoke r m => exact h.elim
    | builtin b =>
      cases b <;> first | exact h.elim | skip
      case len =>
        simp only at h
        split at h
        · rename_i x t ts hargs htys
          have := lift (lenS_ok h (hev x) ts type w)
          have e1 : args = #[x] := Array.ext' (by simpa using hargs)
          have e2 : argTypes = ⟨t :: ts⟩ := Array.ext' (by simpa using htys)
          subst e1; subst e2
          simpa [execOp, resolve, invoke, builtin, Sem.run_bind] using this
        · exact h.elim
      case max =>
        have := lift (mmS_ok (mx := true) h (denL_map hev args.toList) argTypes type w)
        rw [← arr_map] at this
        simpa [execOp, resolve, invoke, builtin, Sem.run_bind] using this
      case min =>
        have := lift (mmS_ok (mx := false) h (denL_map hev args.toList) argTypes type w)
        rw [← arr_map] at this
        simpa [execOp, resolve, invoke, builtin, Sem.run_bind] using this
  all_goals exact h.elim
end Go.Proofs.YtmknmbacecjfmaaDoor.Sx

/- The executor: operations on memory, calls, code. -/
namespace Go.Proofs.YtmknmbacecjfmaaDoor.Sx
set_option linter.unusedVariables false

/-! ## the kinds of rows -/
def padTo (k : Nat) (l : List SVal) : List SVal := l.take k ++ List.replicate (k - l.length) .bad
theorem padTo_length (k : Nat) (l : List SVal) : (padTo k l).length = k := by simp [padTo]; omega
theorem padTo_self {k : Nat} {l : List SVal} (h : l.length = k) : padTo k l = l := by
  subst h; simp [padTo]
/-- rows that are written out -/
def encRow (k : Nat) : Enc (List SVal) where
  tag := .other
  shut := false
  shutOk := by simp
  sz := k + 1
  enc := padTo (k + 1)
  dec l := match decide (l.length = k + 1) with | true => some l | false => none
  dflt := []
  pos := Nat.succ_pos k
  len := padTo_length (k + 1)
  ok := by
    intro env l x vs h hd
    split at h
    · rename_i hl
      simp only [decide_eq_true_eq] at hl
      simp only [Option.some.injEq] at h; subst h
      rwa [padTo_self hl]
    · simp at h
def encInt (k : IntKind) : Enc Int where
  tag := .int k
  shut := true
  shutOk := by intro _ env env' x vs h; simpa [DenL, Den] using h
  sz := 1
  enc x := [.int k x]
  dec l := match l with
    | [s] => match asI s with
      | some (k', x, _) => match decide (k' = k) with | true => some x | false => none
      | none => none
    | _ => none
  dflt := 0
  pos := Nat.one_pos
  len := fun _ => rfl
  ok := by
    intro env l x vs h hd
    split at h
    · split at h
      · rename_i hs
        split at h
        · rename_i hk
          simp only [decide_eq_true_eq] at hk; subst hk
          simp only [Option.some.injEq] at h; subst h
          simp only [DenL] at hd ⊢
          obtain ⟨u, us, rfl, h1, rfl⟩ := hd
          exact ⟨u, [], rfl, by simpa [Den] using asI_den hs h1, rfl⟩
        · simp at h
      · simp at h
    · simp at h
def encBool : Enc Bool where
  tag := .bool
  shut := true
  shutOk := by intro _ env env' x vs h; simpa [DenL, Den] using h
  sz := 1
  enc x := [.sb x]
  dec l := match l with
    | [s] => match asB s with
      | some (b, _) => some b
      | none => none
    | _ => none
  dflt := false
  pos := Nat.one_pos
  len := fun _ => rfl
  ok := by
    intro env l x vs h hd
    split at h
    · split at h
      · rename_i hs
        simp only [Option.some.injEq] at h; subst h
        simp only [DenL] at hd ⊢
        obtain ⟨u, us, rfl, h1, rfl⟩ := hd
        exact ⟨u, [], rfl, by simpa [Den] using asB_den hs h1, rfl⟩
      · simp at h
    · simp at h
def encStr : Enc ByteArray where
  tag := .str
  shut := true
  shutOk := by intro _ env env' x vs h; simpa [DenL, Den] using h
  sz := 1
  enc x := [.str x]
  dec l := match l with
    | [s] => match asStr s with
      | some (b, _) => some b
      | none => none
    | _ => none
  dflt := .empty
  pos := Nat.one_pos
  len := fun _ => rfl
  ok := by
    intro env l x vs h hd
    split at h
    · split at h
      · rename_i hs
        simp only [Option.some.injEq] at h; subst h
        simp only [DenL] at hd ⊢
        obtain ⟨u, us, rfl, h1, rfl⟩ := hd
        exact ⟨u, [], rfl, by simpa [Den] using asStr_den hs h1, rfl⟩
      · simp at h
    · simp at h

/-- values of which nothing is known -/
def encVal : Enc Value where
  tag := .val
  shut := true
  shutOk := by intro _ env env' x vs h; simpa [DenL, Den] using h
  sz := 1
  enc x := [.raw x]
  dec l := match l with
    | [.raw v] => some v
    | _ => none
  dflt := undef
  pos := Nat.one_pos
  len := fun _ => rfl
  ok := by
    intro env l x vs h hd
    split at h
    · simp only [Option.some.injEq] at h; subst h; exact hd
    · simp at h

/-! ## memory -/
/-- a cell that is written out -/
def sureAt (st : St) (a : SAdr) : Bool :=
  match a with
  | .at id _ => match st[id]? with
    | some (.own _ _) => true
    | _ => false
  | .ix _ _ _ _ _ => false
  | .ob _ _ _ => false
  | .rr _ _ _ => false
/-- a value that hangs on a choice -/
def swS : SVal → T SVal
  | .sw b x y => .br b (swS x) (swS y)
  | s => .ret s
def readN (st : St) : SAdr → Nat → T (List SVal)
  | _, 0 => .ret []
  | a, n + 1 => match rd st a with
    | some (s, ok) => nd (sureAt st a) ok ((readN st (a.plus 1) n).bind fun l => .ret (s :: l))
    | none => .no 60
def loadS (P : Program) (st : St) (t : TypeId) (p : SVal) : T SVal :=
  match P.underlying t with
  | none => .no 61
  | some _ => match isAggP P t, p.adr? with
    | true, some a => match tySize P t with
      | some n => (readN st a n).bind fun l => .ret (.agg l)
      | none => .no 62
    | false, some a => match rd st a with
      | some (s, ok) => nd (sureAt st a) ok (swS s)
      | none => .no 63
    | _, none => .no 64
def writeN (st : St) : SAdr → List SVal → T St
  | _, [] => .ret st
  | a, s :: l => match scalar s, wr st a s with
    | true, some (st', ok) => nd (sureAt st a) ok (writeN st' (a.plus 1) l)
    | _, _ => .no 65
def storeS (P : Program) (st : St) (t : TypeId) (p v : SVal) : T St :=
  match tySize P t, cellsOf v, p.adr? with
  | some n, some l, some a => match decide (l.length = n) with
    | true => writeN st a l
    | false => .no 66
  | _, _, _ => .no 67
def ownOf (cells : List SVal) (t : TypeId) : Blk := .own (cells.map .c) t
def allocS (P : Program) (st : St) (t : TypeId) : T (SVal × St) :=
  match zeroS P t with
  | some z => .ret (.ptr st.length 0, st ++ [ownOf z t])
  | none => .no 68
def boxS (st : St) (t : TypeId) (v : SVal) : T (SVal × St) :=
  match cellsOf v with
  | some l => .ret (.ptr st.length 0, st ++ [ownOf l t])
  | none => .no 69
def repeatL {α : Type} (l : List α) : Nat → List α
  | 0 => []
  | n + 1 => l ++ repeatL l n
def buildSliceS (P : Program) (st : St) (t : TypeId) (len : Nat) (parts : List (Nat × SVal)) : T (SVal × St) :=
  match P.underlying t with
  | some (.slice elem) => match tySize P elem, zeroS P elem with
    | some z, some zero => match Nat.ble (len * z) (2 ^ 24), decide (zero.length = z), Nat.blt 0 z, fillS (fun i => some (i * z, z)) (repeatL zero len) parts with
      | true, true, true, some l => .ret (.sli st.length (.c 0) z (.c len) (some (.c len)), st ++ [ownOf l elem])
      | _, _, _, _ => .no 70
    | _, _ => .no 71
  | _ => .no 72
/-- the typed rows of 'make' -/
def madeSeg (P : Program) (elem : TypeId) (n : Nat) : Option Seg :=
  match P.underlying elem with
  | some (.int k) => some (.a (encInt k) n (List.replicate n 0))
  | some .bool => some (.a encBool n (List.replicate n false))
  | some .string => some (.a encStr n (List.replicate n ByteArray.empty))
  | _ => none
/-- the zero value of the element is the kind's own -/
def zeroFits (P : Program) (elem : TypeId) : Bool :=
  match P.underlying elem, P.info? elem with
  | some (.int k), some i => match i.zero with
    | some (.int k' n) => decide (k' = k) && decide (n = 0)
    | _ => false
  | some .bool, some i => match i.zero with
    | some (.bool b) => !b
    | _ => false
  | some .string, some i => match i.zero with
    | some (.string s) => decide (s.data.toList = [])
    | _ => false
  | _, _ => false
def sameOp : Operand → Operand → Bool
  | .tmp a, .tmp b => decide (a = b)
  | _, _ => false
def makeSliceS (P : Program) (st : St) (t : TypeId) (ol oc : Operand) (v c : SVal) : T (SVal × St) :=
  match P.underlying t with
  | some (.slice elem) => match P.info? elem, v, c with
    | some i, .lit .i64 n, .lit .i64 m => match decide (n = m), i.zero, decide (0 ≤ n), decide (n * i.bytes ≤ 2 ^ 40) && decide (n ≤ 2 ^ 40), Nat.blt 0 i.size with
      | true, some z, true, true, true => match decide (z.cells.size = i.size) with
        | true => .ret (.sli st.length (.c 0) i.size (.c n.toNat) (some (.c n.toNat)), st ++ [ownOf (repeatL (z.cells.toList.map ofSc) n.toNat) elem])
        | false => .no 73
      | _, _, _, _, _ => .no 73
    | some i, .int .i64 x, .int .i64 y => match sameOp ol oc, madeSeg P elem x.toNat, decide (i.size = 1) && zeroFits P elem with
      | true, some seg, true => .need (decide (0 ≤ x)) (.need (decide (x * i.bytes ≤ 2 ^ 47)) (.need (decide (x ≤ 2 ^ 62)) (.ret (.sli st.length (.c 0) 1 (.v x.toNat) (some (.v x.toNat)), st ++ [.own [seg] elem]))))
      | _, _, _ => .no 74
    | _, _, _ => .no 75
  | _ => .no 76

/-! ## append -/
/-- cells that are written out, cut into rows -/
def rowsOf (k : Nat) : Nat → List SVal → Option (List (List SVal))
  | 0, [] => some []
  | 0, _ :: _ => none
  | n + 1, l => match Nat.ble k l.length, rowsOf k n (l.drop k) with
    | true, some r => some (l.take k :: r)
    | _, _ => none
def plainCells : List Seg → Option (List SVal)
  | [] => some []
  | .c v :: r => (plainCells r).map (v :: ·)
  | .a .. :: _ => none
/-- what is appended: rows that are written out, or elements of a kind -/
inductive Src : Type 1 where
  | rows (l : List (List SVal))
  | elems {X : Type} (E : Enc X) (xs : List X)
def Src.len : Src → Nat
  | .rows l => l.length
  | .elems _ xs => xs.length
/-- what a slice holds -/
def srcOf (st : St) (z : Nat) (s : SVal) : Option (Src × Bool) :=
  match s with
  | .snil => some (.rows [], true)
  | .sli id o sz len _ => match decide (sz = z), st[id]? with
    | true, some (.own segs _) => match segs with
      | [.a E m xs] => match decide (E.sz = z) with
        | true => some (.elems E ((xs.drop o.val).take len.val), decide (o.val + len.val ≤ xs.length))
        | false => none
      | segs => match o, len, plainCells segs with
        | .c o, .c n, some l => (rowsOf z n ((l.drop (o * z)).take (n * z))).map fun r => (.rows r, true)
        | _, _, _ => none
    | true, some (.vec E xs _) => match decide (E.sz = z) with
      | true => some (.elems E ((xs.drop o.val).take len.val), decide (o.val + len.val ≤ xs.length))
      | false => none
    | true, some (.ro E xs) => match decide (E.sz = z) with
      | true => some (.elems E ((xs.drop o.val).take len.val), decide (o.val + len.val ≤ xs.length))
      | false => none
    | _, _ => none
  | .slr id i len => match decide (z = 1), st[id]? with
    | true, some (.rows _ k xss) => some (.elems (encInt k) ((xss.getD i []).take len), decide (i < xss.length) && decide (len ≤ (xss.getD i []).length))
    | _, _ => none
  | _ => none
def decAll {X : Type} (E : Enc X) : List (List SVal) → Option (List X)
  | [] => some []
  | r :: l => match E.dec r, decAll E l with
    | some x, some xs => some (x :: xs)
    | _, _ => none
def Src.cells : Src → List SVal
  | .rows l => l.flatten
  | .elems E xs => xs.flatMap E.enc
/-- no element fits -/
def emptyLit : NN → NN → Option NN → Bool
  | .c 0, .c 0, some (.c 0) => true
  | _, _, _ => false
def roomy (n bytes : Nat) : Bool := decide (n * bytes ≤ 2 ^ 47)
def appendTo (st : St) (elem : TypeId) (k bytes : Nat) (src : Src) (ok : Bool) (d : SVal) : T (SVal × St) :=
  match d with
  | .snil => match src with
    | .rows [] => .ret (.snil, st)
    | .rows (r :: l) => .need (roomy (l.length + 1) bytes) (.ret (.sli st.length (.c 0) (k + 1) (.c (l.length + 1)) none, st ++ [.vec (encRow k) (r :: l) elem]))
    | .elems _ _ => .no 81
  | .sli id o sz len cp => match src with
    | .rows [] => .ret (d, st)
    | src => match decide (sz = k + 1), emptyLit o len cp, st[id]? with
      | true, true, some (.own [] T) => match decide (T = elem), src with
        | true, .rows l => .need (roomy l.length bytes) (.ret (.sli st.length (.c 0) (k + 1) (.c l.length) none, st.set id .gone ++ [.vec (encRow k) l elem]))
        | true, .elems E xs => .need ok (.need (roomy xs.length bytes) (.ret (.sli st.length (.c 0) (k + 1) (.v xs.length) none, st.set id .gone ++ [.vec E xs elem])))
        | _, _ => .no 82
      | true, false, some (.own segs T) => match o, len, cp, src with
        | .c 0, .c n, some (.c m), .rows l => match decide (n = m), decide (T = elem), plainCells segs with
          | true, true, some cells => match rowsOf (k + 1) n cells with
            | some r => .need (roomy (n + l.length) bytes) (.ret (.sli st.length (.c 0) (k + 1) (.c (n + l.length)) none, st.set id .gone ++ [.vec (encRow k) (r ++ l) elem]))
            | none => .no 83
          | _, _, _ => .no 83
        | .c 0, .c n, some (.c m), .elems E xs => match decide (n = m), decide (T = elem), decide (E.sz = k + 1), plainCells segs with
          | true, true, true, some cells => match rowsOf (k + 1) n cells with
            | some r => match decAll E r with
              | some ds => .need ok (.need (decide (0 < xs.length)) (.need (roomy (n + xs.length) bytes) (.ret (.sli st.length (.c 0) (k + 1) (.v (n + xs.length)) none, st.set id .gone ++ [.vec E (ds ++ xs) elem]))))
              | none => .no 78
            | none => .no 83
          | _, _, _, _ => .no 83
        | _, _, _, _ => .no 84
      | true, false, some (.vec E xs T) => match o, cp, src with
        | .c 0, none, .rows l => match decide (T = elem) && l.all (fun r => r.all scalar), decide (E.sz = k + 1), decAll E l with
          | true, true, some ds => .need (decide (len.val = xs.length)) (.need (roomy (xs.length + l.length) bytes) (.ret (.sli st.length (.c 0) (k + 1) (len.add (.c l.length)) none, st.set id .gone ++ [.vec E (xs ++ ds) elem])))
          | _, _, _ => .no 85
        | _, _, _ => .no 86
      | _, _, _ => .no 87
  | _ => .no 88
def appendS (P : Program) (st : St) (ts : List TypeId) (d s : SVal) : T (SVal × St) :=
  match ts with
  | [t, t2] => match P.underlying t, P.underlying t2 with
    | some (.slice elem), some (.slice _) => match P.info? elem with
      | some i => match i.size, i.zero with
        | k + 1, some z => match decide (z.cells.size = k + 1), Nat.blt 0 i.bytes, srcOf st (k + 1) s with
          | true, true, some (src, ok) => .need ok (appendTo st elem k i.bytes src ok d)
          | _, _, _ => .no 90
        | _, _ => .no 91
      | none => .no 92
    | _, _ => .no 93
  | _ => .no 94

/-! ## copy -/
def segsSize (l : List Seg) : Nat := (l.map Seg.size).sum
/-- a whole block is written over -/
def copyTo (st : St) (z : Nat) (src : Src) (d : SVal) : T (SVal × St) :=
  match d with
  | .sli id (.c 0) sz len _ => match decide (sz = z), st[id]? with
    | true, some (.own segs T) => match src with
      | .rows l => match l.all (fun r => r.all scalar) with
        | true => .need (decide (len.val = l.length)) (.need (decide (segsSize segs = l.length * z)) (.ret (lenI len, st.set id (.own (l.flatten.map .c) T))))
        | false => .no 130
      | .elems E xs => .need (decide (len.val = xs.length)) (.need (decide (segsSize segs = xs.length * z)) (.need (xs.all fun x => (E.enc x).all scalar) (.ret (lenI len, st.set id (.own [.a E xs.length xs] T)))))
    | _, _ => .no 131
  | _ => .no 132
def copyS (P : Program) (st : St) (ts : List TypeId) (d s : SVal) : T (SVal × St) :=
  match ts with
  | t :: _ => match P.underlying t with
    | some (.slice elem) => match tySize P elem with
      | some (k + 1) => match srcOf st (k + 1) s with
        | some (src, ok) => .need ok (copyTo st (k + 1) src d)
        | none => .no 133
      | _ => .no 134
    | _ => .no 135
  | _ => .no 136
end Go.Proofs.YtmknmbacecjfmaaDoor.Sx

/- Memory operations are right. -/
namespace Go.Proofs.YtmknmbacecjfmaaDoor.Sx
set_option linter.unusedVariables false

/-! ## the state goes on -/
theorem rep_heap {env : Env} {st : St} {w w' : World} (hr : Rep env st w) (h : w'.heap = w.heap) : Rep env st w' :=
  ⟨hr.len, fun id e b he hb => Blk.holds_of_supp (hr.holds id e b he hb) (fun x _ => by rw [h]), hr.apart, fun id e b he hb x hx => by rw [h]; exact hr.low id e b he hb x hx⟩
theorem ext_heap {env : Env} {st : St} {w w' : World} (h : w'.heap = w.heap) (hc : w'.os = w.os ∧ w'.output = w.output) : Ext env st w env st w' :=
  ⟨⟨[], by simp⟩, by rw [h]; exact Nat.le_refl _, fun x _ _ => by rw [h], fun x _ hx => hx, hc⟩

theorem rep_new {env : Env} {st : St} {w w' : World} (hr : Rep env st w) {obj : Obj} {cap : Nat} {b : Blk} (hw : w'.heap = w.heap.push obj)
    (hf : ∀ x ∈ b.supp ⟨w.heap.size, 0, cap, []⟩, x = w.heap.size) (hb : b.holds (env ++ [⟨w.heap.size, 0, cap, []⟩]) ⟨w.heap.size, 0, cap, []⟩ w') (hcalm : w'.os = w.os ∧ w'.output = w.output) :
    Rep (env ++ [⟨w.heap.size, 0, cap, []⟩]) (st ++ [b]) w' ∧ Ext env st w (env ++ [⟨w.heap.size, 0, cap, []⟩]) (st ++ [b]) w' := by
  have old : ∀ x, x < w.heap.size → w'.heap[x]? = w.heap[x]? := by
    intro x hx; rw [hw, Array.getElem?_push]; rw [if_neg (by omega)]
  have get : ∀ {j : Nat} {e : Slot} {c : Blk}, (env ++ [⟨w.heap.size, 0, cap, []⟩])[j]? = some e → (st ++ [b])[j]? = some c →
      (j = st.length ∧ e = ⟨w.heap.size, 0, cap, []⟩ ∧ c = b) ∨ (j < st.length ∧ env[j]? = some e ∧ st[j]? = some c) := by
    intro j e c he hc
    rcases Nat.lt_trichotomy j st.length with hj | hj | hj
    · rw [List.getElem?_append_left (by rw [hr.len]; exact hj)] at he
      rw [List.getElem?_append_left hj] at hc
      exact .inr ⟨hj, he, hc⟩
    · rw [List.getElem?_append_right (by rw [hr.len]; omega)] at he
      rw [List.getElem?_append_right (by omega)] at hc
      simp only [hj, hr.len, Nat.sub_self, List.getElem?_cons_zero, Option.some.injEq] at he hc
      exact .inl ⟨hj, he.symm, hc.symm⟩
    · rw [List.getElem?_eq_none (by simp; omega)] at hc; simp at hc
  refine ⟨⟨by simp [hr.len], ?_, ?_, ?_⟩, ⟨_, rfl⟩, by rw [hw]; simp, fun x hx _ => old x hx, ?_, hcalm⟩
  · intro j e c he hc
    rcases get he hc with ⟨_, rfl, rfl⟩ | ⟨hj, he, hc⟩
    · exact hb
    · exact Blk.holds_mono _ (Blk.holds_of_supp (hr.holds j e c he hc) fun x hx => old x (hr.low j e c he hc x hx))
  · intro i j e f c d hij he hf' hc hd x hx hx'
    rcases get he hc with ⟨h1, rfl, rfl⟩ | ⟨hi, he1, hc1⟩ <;> rcases get hf' hd with ⟨h2, rfl, rfl⟩ | ⟨hj, hf1, hd1⟩
    · exact hij (by omega)
    · have := hf x (foot_sub_supp hx)
      have := hr.low j f d hf1 hd1 x hx'
      omega
    · have := hf x hx'
      have := hr.low i e c he1 hc1 x (foot_sub_supp hx)
      omega
    · exact hr.apart i j e f c d hij he1 hf1 hc1 hd1 x hx hx'
  · intro j e c he hc x hx
    rcases get he hc with ⟨_, rfl, rfl⟩ | ⟨hj, he, hc⟩
    · rw [hf x hx, hw]; simp
    · have := hr.low j e c he hc x hx; rw [hw]; simp; omega
  · rintro x hx ⟨j, e, c, he, hc, hx'⟩
    rcases get he hc with ⟨_, rfl, rfl⟩ | ⟨hj, he, hc⟩
    · have := hf x (foot_sub_supp hx'); omega
    · exact ⟨j, e, c, he, hc, hx'⟩

theorem rep_drop {env : Env} {st : St} {w : World} (hr : Rep env st w) (id : Nat) : Rep env (st.set id .gone) w ∧ Ext env st w env (st.set id .gone) w := by
  have get : ∀ {j : Nat} {c : Blk}, (st.set id .gone)[j]? = some c → c = .gone ∨ st[j]? = some c := by
    intro j c hc
    by_cases hj : id = j
    · subst hj
      by_cases hl : id < st.length
      · rw [List.getElem?_set_self hl] at hc; exact .inl (by simpa using hc.symm)
      · rw [List.getElem?_eq_none (by simp; omega)] at hc; simp at hc
    · rw [List.getElem?_set_ne hj] at hc; exact .inr hc
  refine ⟨⟨by simp [hr.len], ?_, ?_, ?_⟩, ⟨[], by simp⟩, Nat.le_refl _, fun _ _ _ => rfl, ?_, rfl, rfl⟩
  · intro j e c he hc
    rcases get hc with rfl | hc
    · trivial
    · exact hr.holds j e c he hc
  · intro i j e f c d hij he hf hc hd x hx hx'
    rcases get hc with rfl | hc
    · simp [Blk.foot] at hx
    · rcases get hd with rfl | hd
      · simp [Blk.supp] at hx'
      · exact hr.apart i j e f c d hij he hf hc hd x hx hx'
  · intro j e c he hc x hx
    rcases get hc with rfl | hc
    · simp [Blk.supp] at hx
    · exact hr.low j e c he hc x hx
  · rintro x hx ⟨j, e, c, he, hc, hx'⟩
    rcases get hc with rfl | hc
    · simp [Blk.foot] at hx'
    · exact ⟨j, e, c, he, hc, hx'⟩

/-- a block gets a new name, with other contents on the same memory -/
theorem rep_move {env : Env} {st : St} {w : World} (hr : Rep env st w) {id : Nat} {e e' : Slot} {b b' : Blk} (he : env[id]? = some e) (hb : st[id]? = some b)
    (hs : ∀ x ∈ b'.supp e', x ∈ b.foot e) (hh : b'.holds (env ++ [e']) e' w) :
    Rep (env ++ [e']) (st.set id .gone ++ [b']) w ∧ Ext env st w (env ++ [e']) (st.set id .gone ++ [b']) w := by
  obtain ⟨hd, hx⟩ := rep_drop hr id
  have hid : id < st.length := (List.getElem?_eq_some_iff.1 hb).1
  have get : ∀ {j : Nat} {f : Slot} {c : Blk}, (env ++ [e'])[j]? = some f → (st.set id .gone ++ [b'])[j]? = some c →
      (j = st.length ∧ f = e' ∧ c = b') ∨ (j < st.length ∧ env[j]? = some f ∧ (st.set id .gone)[j]? = some c) := by
    intro j f c hf hc
    rcases Nat.lt_trichotomy j st.length with hj | hj | hj
    · rw [List.getElem?_append_left (by rw [hr.len]; exact hj)] at hf
      rw [List.getElem?_append_left (by simpa using hj)] at hc
      exact .inr ⟨hj, hf, hc⟩
    · rw [List.getElem?_append_right (by rw [hr.len]; omega)] at hf
      rw [List.getElem?_append_right (by simp; omega)] at hc
      simp only [hj, hr.len, List.length_set, Nat.sub_self, List.getElem?_cons_zero, Option.some.injEq] at hf hc
      exact .inl ⟨hj, hf.symm, hc.symm⟩
    · rw [List.getElem?_eq_none (by simp; omega)] at hc; simp at hc
  -- another block that still stands is none of this one's
  have oth : ∀ {j : Nat} {f : Slot} {c : Blk}, env[j]? = some f → (st.set id .gone)[j]? = some c → (j ≠ id ∧ st[j]? = some c) ∨ c = .gone := by
    intro j f c hf hc
    by_cases hj : id = j
    · subst hj; rw [List.getElem?_set_self hid] at hc; exact .inr (by simpa using hc.symm)
    · rw [List.getElem?_set_ne hj] at hc; exact .inl ⟨fun h => hj h.symm, hc⟩
  refine ⟨⟨by simp [hr.len], ?_, ?_, ?_⟩, ⟨_, rfl⟩, Nat.le_refl _, fun _ _ _ => rfl, ?_, rfl, rfl⟩
  · intro j f c hf hc
    rcases get hf hc with ⟨_, rfl, rfl⟩ | ⟨hj, hf, hc⟩
    · exact hh
    · exact Blk.holds_mono _ (hd.holds j f c hf hc)
  · intro i j f g c d hij hf hg hc hd' x hx hx'
    rcases get hf hc with ⟨h1, rfl, rfl⟩ | ⟨hi, hf1, hc1⟩ <;> rcases get hg hd' with ⟨h2, rfl, rfl⟩ | ⟨hj, hg1, hd1⟩
    · exact hij (by omega)
    · rcases oth hg1 hd1 with ⟨hne, hd2⟩ | rfl
      · exact hr.apart id j e g b d (fun h => hne h.symm) he hg1 hb hd2 x (hs x (foot_sub_supp hx)) hx'
      · simp [Blk.supp] at hx'
    · rcases oth hf1 hc1 with ⟨hne, hc2⟩ | rfl
      · exact hr.apart i id f e c b hne hf1 he hc2 hb x hx (foot_sub_supp (hs x hx'))
      · simp [Blk.foot] at hx
    · exact hd.apart i j f g c d hij hf1 hg1 hc1 hd1 x hx hx'
  · intro j f c hf hc x hx
    rcases get hf hc with ⟨_, rfl, rfl⟩ | ⟨hj, hf, hc⟩
    · exact hr.low id e b he hb x (foot_sub_supp (hs x hx))
    · exact hd.low j f c hf hc x hx
  · rintro x hx ⟨j, f, c, hf, hc, hx'⟩
    rcases get hf hc with ⟨_, rfl, rfl⟩ | ⟨hj, hf, hc⟩
    · exact ⟨id, e, b, he, hb, hs x (foot_sub_supp hx')⟩
    · rcases oth hf hc with ⟨hne, hc⟩ | rfl
      · exact ⟨j, f, c, hf, hc, hx'⟩
      · simp [Blk.foot] at hx'

/-! ## loads -/
theorem swS_den {env : Env} {v : Value} : ∀ {s s' : SVal}, (swS s).at s' → Den env s v → Den env s' v
  | .sw b x y, s', h, hd => by
    simp only [swS, T.at] at h
    simp only [Den] at hd
    rcases hd with ⟨hb, hd⟩ | ⟨hb, hd⟩ <;> rcases h with ⟨hc, h⟩ | ⟨hc, h⟩
    · exact swS_den h hd
    · rw [hb] at hc; cases hc
    · rw [hb] at hc; cases hc
    · exact swS_den h hd
  | .lit .., _, h, hd | .int .., _, h, hd | .bl .., _, h, hd | .sb .., _, h, hd | .sl .., _, h, hd | .str .., _, h, hd | .pnil, _, h, hd | .ptr .., _, h, hd | .pti .., _, h, hd | .pto .., _, h, hd | .ptw .., _, h, hd | .slr .., _, h, hd | .snil, _, h, hd | .sli .., _, h, hd | .ifc .., _, h, hd | .inil, _, h, hd | .fn .., _, h, hd | .fnil, _, h, hd | .agg .., _, h, hd | .tup .., _, h, hd | .raw .., _, h, hd | .bad, _, h, hd => by
    simp only [swS, T.at] at h; rw [← h]; exact hd
theorem run_load {P : Program} {w : World} {A : Addr} {v : Value} (h : w.cell? A = some v) : (load A).run P w = .ok v w := by simp [load, Sem.run, h]
theorem run_loadCellsFrom {P : Program} {w : World} {A : Addr} : ∀ (n i : Nat) (acc vs : List Value), vs.length = n → (∀ k, k < n → w.cell? (A.add (i + k)) = vs[k]?) → (loadCellsFrom A i n ⟨acc⟩).run P w = .ok ⟨acc ++ vs⟩ w
  | 0, i, acc, vs, hl, h => by
    have : vs = [] := List.length_eq_zero_iff.1 hl
    subst this
    simp [loadCellsFrom]
  | n + 1, i, acc, vs, hl, h => by
    cases vs with
    | nil => simp at hl
    | cons v vs =>
      have h0 := h 0 (by omega)
      simp only [Nat.add_zero, List.getElem?_cons_zero] at h0
      have ih := run_loadCellsFrom (P := P) (w := w) (A := A) n (i + 1) (acc ++ [v]) vs (by simpa using hl) (fun k hk => by
        have := h (k + 1) (by omega)
        rw [show i + 1 + k = i + (k + 1) by omega, this]; simp)
      simp only [loadCellsFrom, Sem.run_bind, run_load h0, Result.andThen_ok]
      have : (⟨acc⟩ : Array Value).push v = ⟨acc ++ [v]⟩ := Array.ext' (by simp)
      rw [this, ih]
      simp
theorem run_loadCells {P : Program} {w : World} {A : Addr} {vs : List Value} (h : ∀ k, k < vs.length → w.cell? (A.add k) = vs[k]?) : (loadCells A vs.length).run P w = .ok ⟨vs⟩ w := by
  unfold loadCells
  have := run_loadCellsFrom (P := P) (w := w) (A := A) vs.length 0 [] vs rfl (fun k hk => by simpa using h k hk)
  simpa using this

theorem readN_ok {env : Env} {st : St} {w : World} (hr : Rep env st w) : ∀ {n : Nat} {a : SAdr} {l : List SVal} {A : Addr}, (readN st a n).at l → AdrIs env a A →
    ∃ vs, vs.length = n ∧ DenL env l vs ∧ ∀ k, k < n → w.cell? (A.add k) = vs[k]?
  | 0, a, l, A, h, hA => by
    simp only [readN, T.at] at h; subst h
    exact ⟨[], rfl, denL_nil, by simp⟩
  | n + 1, a, l, A, h, hA => by
    simp only [readN] at h
    split at h
    · rename_i s ok hrd
      replace h := nd_at h; obtain ⟨rfl, h⟩ := h
      rw [T.at_bind] at h
      obtain ⟨l', h1, h2⟩ := h
      simp only [T.at] at h2; subst h2
      obtain ⟨v, hv, hd⟩ := rd_ok hr hrd hA
      obtain ⟨vs, hl, hds, hc⟩ := readN_ok hr h1 (adr_plus hA 1)
      have hsp : A.spot = none := adr_spot hA
      refine ⟨v :: vs, by simp [hl], denL_cons.2 ⟨hd, hds⟩, fun k hk => ?_⟩
      cases k with
      | zero =>
        rw [addr_add _ _ hsp]
        have : (⟨A.block, A.off + 0, none⟩ : Addr) = A := by cases A; simp_all
        rw [this]; simpa using hv
      | succ k =>
        have := hc k (by omega)
        rw [addr_add _ _ (by rw [addr_add _ _ hsp]), addr_add _ _ hsp] at this
        rw [addr_add _ _ hsp]
        simpa [Nat.add_assoc, Nat.add_comm 1 k] using this
    · exact h.elim

theorem loadS_ok {P : Program} {env : Env} {st : St} {w : World} (hr : Rep env st w) {t : TypeId} {p s : SVal} {u : Value} (h : (loadS P st t p).at s) (hp : Den env p u) :
    ∃ v, (Instr.loadAt t u).run P w = .ok v w ∧ Den env s v := by
  unfold loadS at h
  split at h
  · exact h.elim
  · rename_i d hu
    split at h
    · rename_i a ha hadr
      split at h
      · rename_i n hn
        rw [T.at_bind] at h
        obtain ⟨l, h1, h2⟩ := h
        simp only [T.at] at h2; subst h2
        obtain ⟨A, rfl, hA⟩ := adr_den hadr hp
        obtain ⟨vs, hl, hd, hc⟩ := readN_ok hr h1 hA
        subst hl
        refine ⟨.agg ⟨vs⟩, ?_, by simp only [Den]; exact ⟨vs, rfl, hd⟩⟩
        simp [Instr.loadAt, Instr.sureAddr, loadVar, Sem.run_bind, run_isAggP hu, ha, run_size hn, run_loadCells hc]
      · exact h.elim
    · rename_i a ha hadr
      split at h
      · rename_i s' ok hrd
        obtain ⟨rfl, h2⟩ := nd_at h
        obtain ⟨A, rfl, hA⟩ := adr_den hadr hp
        obtain ⟨v, hv, hd⟩ := rd_ok hr hrd hA
        refine ⟨v, ?_, swS_den h2 hd⟩
        simp [Instr.loadAt, Instr.sureAddr, loadVar, Sem.run_bind, run_isAggP hu, ha, hv]
      · exact h.elim
    · exact h.elim

/-! ## stores -/
def flatV : Value → Prop
  | .agg _ | .tuple _ => False
  | _ => True
theorem scalar_flat {env : Env} {s : SVal} {v : Value} (h : scalar s = true) (hd : Den env s v) : flatV v := by
  cases s <;> simp only [scalar, Bool.false_eq_true] at h <;> simp only [Den] at hd
  case ptr => obtain ⟨e, _, rfl⟩ := hd; trivial
  case pti => obtain ⟨e, _, rfl⟩ := hd; trivial
  case pto => obtain ⟨e, b, _, _, rfl⟩ := hd; trivial
  case ptw => obtain ⟨e, b, o, _, _, _, rfl⟩ := hd; trivial
  case slr => obtain ⟨e, a, cp, _, rfl, _⟩ := hd; trivial
  case sli => obtain ⟨e, a, _, rfl, _⟩ := hd; trivial
  case ifc => obtain ⟨e, rfl, _⟩ := hd; trivial
  case fn => obtain ⟨e, c, rfl, _⟩ := hd; trivial
  all_goals (subst hd; trivial)
theorem run_store {P : Program} {w : World} {A : Addr} {u v : Value} (h : w.cell? A = some u) (hz : w.frozen? A = false) (hv : flatV v) : (store A v).run P w = .ok () (w.setCell A v) := by
  cases v <;> simp only [flatV] at hv <;> simp [store, Sem.run, h, hz]

theorem writeN_ok {P : Program} {env : Env} : ∀ {l : List SVal} {vs : List Value} {st st' : St} {w : World} {a : SAdr} {A : Addr} (i : Nat), Rep env st w → (writeN st a l).at st' → DenL env l vs → AdrIs env a (A.add i) → A.spot = none →
    ∃ w', (storeCells A vs i).run P w = .ok () w' ∧ Rep env st' w' ∧ Ext env st w env st' w'
  | [], vs, st, st', w, a, A, i, hr, h, hd, hA, hsp => by
    simp only [writeN, T.at] at h; subst h
    simp only [DenL] at hd; subst hd
    exact ⟨w, by simp [storeCells], hr, Ext.refl _ _ _⟩
  | s :: l, vs, st, st', w, a, A, i, hr, h, hd, hA, hsp => by
    simp only [DenL] at hd
    obtain ⟨u, us, rfl, h1, h2⟩ := hd
    simp only [writeN] at h
    split at h
    · rename_i st1 ok hsc hwr
      replace h := nd_at h; obtain ⟨rfl, h⟩ := h
      obtain ⟨⟨old, ho⟩, hz, hr1, hx1⟩ := wr_ok hr hwr h1 hA
      have hA' : AdrIs env (a.plus 1) (A.add (i + 1)) := by
        have := adr_plus hA 1
        rw [addr_add _ _ hsp] at this ⊢
        rw [addr_add _ _ rfl] at this
        simpa [Nat.add_assoc] using this
      obtain ⟨w', hw', hr', hx'⟩ := writeN_ok (P := P) (i + 1) hr1 h h2 hA' hsp
      exact ⟨w', by simp [storeCells, Sem.run_bind, run_store ho hz (scalar_flat hsc h1), hw'], hr', hx1.trans hx'⟩
    · exact h.elim

theorem storeS_ok {P : Program} {env : Env} {st st' : St} {w : World} (hr : Rep env st w) {t : TypeId} {p s : SVal} {u v : Value} (h : (storeS P st t p s).at st') (hp : Den env p u) (hs : Den env s v) :
    ∃ w', (Instr.storeAt t u v).run P w = .ok () w' ∧ Rep env st' w' ∧ Ext env st w env st' w' := by
  unfold storeS at h
  split at h
  · rename_i n l a hn hc hadr
    split at h
    · rename_i hl
      simp only [decide_eq_true_eq] at hl
      obtain ⟨A, rfl, hA⟩ := adr_den hadr hp
      have hd := cellsOf_den hc hs
      have hlen : v.cells.size = n := by rw [← Array.length_toList, denL_length hd, hl]
      have hsp : A.spot = none := adr_spot hA
      have hA0 : AdrIs env a (A.add 0) := by
        rw [addr_add _ _ hsp]
        have : (⟨A.block, A.off + 0, none⟩ : Addr) = A := by cases A; simp_all
        rw [this]; exact hA
      obtain ⟨w', hw', hr', hx'⟩ := writeN_ok (P := P) 0 hr h hd hA0 hsp
      exact ⟨w', by simp [Instr.storeAt, Instr.sureAddr, storeVar, Sem.run_bind, run_size hn, hlen, hw'], hr', hx'⟩
    · exact h.elim
  · exact h.elim
end Go.Proofs.YtmknmbacecjfmaaDoor.Sx

/- Allocation and append are right. -/
namespace Go.Proofs.YtmknmbacecjfmaaDoor.Sx
set_option linter.unusedVariables false

theorem run_newRow {P : Program} {w : World} (elem : TypeId) (cells : Array Value) : (newRow elem cells).run P w = .ok ⟨w.heap.size, 0, none⟩ { w with heap := w.heap.push (.cells cells elem) } := by
  simp [newRow, newObj, Sem.run]
theorem segCells_c (l : List SVal) : segCells (l.map .c) = l := by
  induction l with
  | nil => rfl
  | cons x l ih => simp only [List.map_cons, segCells, List.flatMap_cons, Seg.cells] at *; rw [ih]; rfl
theorem segFits_c (l : List SVal) : segFits (l.map .c) := by
  intro s hs; obtain ⟨x, _, rfl⟩ := List.mem_map.1 hs; trivial

theorem rep_own {env : Env} {st : St} {w : World} (hr : Rep env st w) {segs : List Seg} {vs : List Value} {T : TypeId} (cap : Nat) (hf : segFits segs) (hd : DenL env (segCells segs) vs) :
    Rep (env ++ [⟨w.heap.size, 0, cap, []⟩]) (st ++ [.own segs T]) { w with heap := w.heap.push (.cells ⟨vs⟩ T) } ∧
    Ext env st w (env ++ [⟨w.heap.size, 0, cap, []⟩]) (st ++ [.own segs T]) { w with heap := w.heap.push (.cells ⟨vs⟩ T) } := by
  refine rep_new hr rfl ?_ ?_ ⟨rfl, rfl⟩
  · intro x hx; simpa [Blk.supp] using hx
  · exact ⟨rfl, hf, vs, by simp, denL_mono _ _ _ hd⟩

theorem new_slot {env : Env} {st : St} {w : World} (hr : Rep env st w) (e : Slot) : (env ++ [e])[st.length]? = some e := by
  rw [List.getElem?_append_right (by rw [hr.len]; exact Nat.le_refl _), hr.len]; simp

/-- what an allocating operation leaves -/
def Made (P : Program) (env : Env) (st : St) (w : World) (m : Sem Value) (s : SVal) (st' : St) : Prop :=
  ∃ env' w' v, m.run P w = .ok v w' ∧ Ext env st w env' st' w' ∧ Rep env' st' w' ∧ Den env' s v

theorem allocS_ok {P : Program} {env : Env} {st st' : St} {w : World} (hr : Rep env st w) {t : TypeId} {s : SVal} (h : (allocS P st t).at (s, st')) : Made P env st w (Instr.alloc t true (.tuple #[])) s st' := by
  unfold allocS at h
  split at h
  · rename_i z hz
    simp only [T.at, Prod.mk.injEq] at h
    obtain ⟨rfl, rfl⟩ := h
    obtain ⟨v, hv, hd⟩ := zeroS_ok (env := env) hz w
    obtain ⟨h1, h2⟩ := rep_own hr (T := t) 0 (segFits_c z) (by rw [segCells_c]; exact hd)
    refine ⟨_, _, .pointer (some ⟨w.heap.size, 0, none⟩), ?_, h2, h1, ?_⟩
    · simp [Instr.alloc, Sem.run_bind, hv, newVar, run_newRow]
    · simp only [Den]; exact ⟨_, new_slot hr _, rfl⟩
  · exact h.elim

theorem boxS_ok {P : Program} {env : Env} {st st' : St} {w : World} (hr : Rep env st w) {t : TypeId} {s u : SVal} {v : Value} (h : (boxS st t u).at (s, st')) (hu : Den env u v) : Made P env st w (Instr.box t v) s st' := by
  unfold boxS at h
  split at h
  · rename_i l hl
    simp only [T.at, Prod.mk.injEq] at h
    obtain ⟨rfl, rfl⟩ := h
    obtain ⟨h1, h2⟩ := rep_own hr (T := t) 0 (segFits_c l) (by rw [segCells_c]; exact cellsOf_den hl hu)
    refine ⟨_, _, .pointer (some ⟨w.heap.size, 0, none⟩), ?_, h2, h1, ?_⟩
    · simp [Instr.box, newVar, run_newRow]
    · simp only [Den]; exact ⟨_, new_slot hr _, rfl⟩
  · exact h.elim

theorem denL_repeat {env : Env} {l : List SVal} {vs : List Value} (h : DenL env l vs) : ∀ n, DenL env (repeatL l n) (repeatL vs n)
  | 0 => denL_nil
  | n + 1 => denL_append h (denL_repeat h n)
theorem repeat_length {α : Type} (l : List α) : ∀ n, (repeatL l n).length = n * l.length
  | 0 => by simp [repeatL]
  | n + 1 => by simp [repeatL, repeat_length l n, Nat.succ_mul]; omega
theorem repeat_get {α : Type} (l : List α) (hl : 0 < l.length) : ∀ (n i : Nat), i < n * l.length → (repeatL l n)[i]? = l[i % l.length]?
  | 0, i, h => by simp at h
  | n + 1, i, h => by
    rw [Nat.succ_mul] at h
    by_cases hi : i < l.length
    · rw [repeatL, List.getElem?_append_left hi, Nat.mod_eq_of_lt hi]
    · rw [repeatL, List.getElem?_append_right (by omega), repeat_get l hl n _ (by omega)]
      congr 1
      rw [← Nat.mod_eq_sub_mod (by omega)]
/-- the zero cells of a row -/
theorem zeros_eq {zero : Array Value} {n k : Nat} (hk : zero.size = k) (h0 : 0 < k) : (Array.range (n * k)).map (fun i => zero[i % zero.size]!) = ⟨repeatL zero.toList n⟩ := by
  subst hk
  apply Array.ext'
  apply List.ext_getElem?
  intro i
  simp only [Array.toList_map, Array.toList_range, List.getElem?_map]
  have hl : zero.toList.length = zero.size := Array.length_toList
  by_cases hi : i < n * zero.size
  · have hlt : i % zero.size < zero.size := Nat.mod_lt _ (by omega)
    rw [List.getElem?_range hi, repeat_get _ (by omega) _ _ (by rw [hl]; exact hi), hl]
    simp [hlt]
  · rw [List.getElem?_eq_none (by simp; omega), List.getElem?_eq_none (by rw [repeat_length, hl]; omega)]
    rfl

theorem sli_new {env : Env} {st : St} {w : World} (hr : Rep env st w) {bk cap C : Nat} {sz : Nat} {len : NN} {cp : Option NN} (hc : sliCap ⟨bk, 0, cap, []⟩ (.c 0) cp = C) (hl : len.val ≤ C) :
    Den (env ++ [⟨bk, 0, cap, []⟩]) (.sli st.length (.c 0) sz len cp) (.slice (some ⟨bk, 0, none⟩) len.val C) := by
  simp only [Den]
  exact ⟨_, _, new_slot hr _, by rw [hc], by rw [hc]; exact hl, fun _ => by simp [NN.val]⟩

theorem buildSliceS_ok {P : Program} {env : Env} {st st' : St} {w : World} (hr : Rep env st w) {t : TypeId} {n : Nat} {parts : List (Nat × SVal)} {vparts : Array (Nat × Value)} {s : SVal} (h : (buildSliceS P st t n parts).at (s, st'))
    (h1 : parts.map (·.1) = vparts.toList.map (·.1)) (h2 : DenL env (parts.map (·.2)) (vparts.toList.map (·.2))) : Made P env st w (Instr.buildSlice t n vparts) s st' := by
  unfold buildSliceS at h
  split at h
  · rename_i elem hu
    split at h
    · rename_i z zero hz hzero
      split at h
      · rename_i l hle hzl hz0 hf
        have hle := Nat.le_of_ble_eq_true hle
        have hz0 : 0 < z := Nat.le_of_ble_eq_true hz0
        simp only [decide_eq_true_eq] at hzl
        simp only [T.at, Prod.mk.injEq] at h
        obtain ⟨rfl, rfl⟩ := h
        obtain ⟨zv, hzv, hdz⟩ := zeroS_ok (env := env) hzero w
        have hzs : zv.cells.size = z := by rw [← Array.length_toList, denL_length hdz, hzl]
        obtain ⟨us, hus, hdu⟩ := fillS_ok hf (denL_repeat hdz n) h1 h2
        obtain ⟨k1, k2⟩ := rep_own hr (T := elem) n (segFits_c l) (by rw [segCells_c]; exact hdu)
        refine ⟨_, _, .slice (some ⟨w.heap.size, 0, none⟩) n n, ?_, k2, k1, sli_new hr rfl (Nat.le_refl _)⟩
        have hgt : ¬ (n * z > 2 ^ 24) := by omega
        by_cases hn : n = 0
        · subst hn
          simp only [repeatL] at hus
          have e0 : ∀ f : Nat → Value, (Array.range 0).map f = ⟨[]⟩ := fun f => by apply Array.ext'; simp
          rw [Nat.zero_mul] at hgt
          simp only [Instr.buildSlice, Sem.run_bind, run_underlying hu, run_size hz, Result.andThen_ok, Nat.zero_mul, if_neg hgt, if_true, Sem.run_pure, e0, hus, run_newRow]
        · have hne : ¬ (n * z = 0) := by
            intro h0; rcases Nat.mul_eq_zero.1 h0 with h | h <;> omega
          have hzz := zeros_eq (n := n) hzs hz0
          simp only [Instr.buildSlice, Sem.run_bind, run_underlying hu, run_size hz, Result.andThen_ok, if_neg hgt, if_neg hne, hzv, Sem.run_pure, hzz, hus, run_newRow]
      · exact h.elim
    · exact h.elim
  · exact h.elim

theorem wrap_small {x : Int} (h0 : 0 ≤ x) (h : x ≤ 2 ^ 62) : IntKind.i64.wrap x = x := by
  simp [IntKind.wrap, IntKind.bits, IntKind.signed] at *; omega

theorem run_makeSlice {P : Program} {t elem : TypeId} {i : TypeInfo} {z : Value} {x : Int} {w : World} (hu : P.underlying t = some (.slice elem)) (hi : P.info? elem = some i) (hz : i.zero = some z) (hsz : z.cells.size = i.size) (h0 : 0 < i.size)
    (hx : 0 ≤ x) (hx2 : x ≤ 2 ^ 62) (hb : x * i.bytes ≤ 2 ^ 47) :
    (Instr.makeSlice t (.int .i64 x) (.int .i64 x)).run P w = .ok (.slice (some ⟨w.heap.size, 0, none⟩) x.toNat x.toNat) { w with heap := w.heap.push (.cells ⟨repeatL z.cells.toList x.toNat⟩ elem) } := by
  have hw := wrap_small hx hx2
  have c1 : ¬ x < 0 := by omega
  have c2 : ¬ ((i.bytes : Int) * x > 2 ^ 48) := by rw [Int.mul_comm]; omega
  have hti : (typeInfo elem).run P w = .ok i w := by simp [typeInfo, hi]
  have hso : (sizeOf elem).run P w = .ok i.size w := by simp [sizeOf, typeInfo, hi]
  have hzr : (zeroValue elem).run P w = .ok z w := run_zero hi hz w
  have hask : ∀ n : Nat, (askRoom n).run P w = .ok () w := by
    intro n; unfold askRoom; split <;> simp [mark, Sem.run]
  simp only [Instr.makeSlice, Sem.run_bind, run_underlying hu, Result.andThen_ok, asInt, asIntOf, Sem.run_pure, hti, hw]
  have hcond : (((decide (x < 0) || decide ((i.bytes : Int) * x > 2 ^ 48)) || decide (x < 0)) || decide (x > x)) = false := by
    simp [c1]; omega
  simp only [hcond, Bool.false_eq_true, if_false, Sem.run_bind, Result.andThen_ok, hask, hso]
  by_cases hn : x.toNat = 0
  · have e0 : ∀ f : Nat → Value, (Array.range 0).map f = ⟨[]⟩ := fun f => by apply Array.ext'; simp
    simp only [hn, Nat.zero_mul, if_true, Sem.run_bind, Sem.run_pure, Result.andThen_ok, e0, run_newRow, repeatL]
  · have hne : ¬ (x.toNat * i.size = 0) := by
      intro h; rcases Nat.mul_eq_zero.1 h with h | h <;> omega
    simp only [if_neg hne, Sem.run_bind, hzr, Result.andThen_ok, Sem.run_pure, zeros_eq (n := x.toNat) hsz h0, run_newRow]

theorem replicate_flat {X : Type} (E : Enc X) (x : X) : ∀ n, (List.replicate n x).flatMap E.enc = repeatL (E.enc x) n
  | 0 => rfl
  | n + 1 => by simp only [List.replicate_succ, List.flatMap_cons, repeatL, replicate_flat E x n]

theorem madeSeg_ok {P : Program} {env : Env} {elem : TypeId} {i : TypeInfo} {n : Nat} {seg : Seg} (h : madeSeg P elem n = some seg) (hi : P.info? elem = some i) (hz : zeroFits P elem = true) (hs : i.size = 1) :
    ∃ z, i.zero = some z ∧ z.cells.size = i.size ∧ seg.fits ∧ DenL env seg.cells (repeatL z.cells.toList n) := by
  unfold madeSeg at h
  unfold zeroFits at hz
  split at h
  · rename_i k hu
    simp only [Option.some.injEq] at h; subst h
    rw [hu, hi] at hz
    simp only at hz
    split at hz
    · rename_i k' m hzv
      simp only [Bool.and_eq_true, decide_eq_true_eq] at hz
      obtain ⟨rfl, rfl⟩ := hz
      refine ⟨_, hzv, by rw [hs]; rfl, by simp [Seg.fits], ?_⟩
      simp only [Seg.cells, replicate_flat]
      exact denL_repeat (denL_cons.2 ⟨by simp [Den], denL_nil⟩) n
    · simp at hz
  · rename_i hu
    simp only [Option.some.injEq] at h; subst h
    rw [hu, hi] at hz
    simp only at hz
    split at hz
    · rename_i b hzv
      simp only [Bool.not_eq_true'] at hz; subst hz
      refine ⟨_, hzv, by rw [hs]; rfl, by simp [Seg.fits], ?_⟩
      simp only [Seg.cells, replicate_flat]
      exact denL_repeat (denL_cons.2 ⟨by simp [Den], denL_nil⟩) n
    · simp at hz
  · rename_i hu
    simp only [Option.some.injEq] at h; subst h
    rw [hu, hi] at hz
    simp only at hz
    split at hz
    · rename_i b hzv
      simp only [decide_eq_true_eq] at hz
      have hb : b = ByteArray.empty := by
        obtain ⟨⟨l⟩⟩ := b
        simp only at hz; subst hz; rfl
      subst hb
      refine ⟨_, hzv, by rw [hs]; rfl, by simp [Seg.fits], ?_⟩
      simp only [Seg.cells, replicate_flat]
      exact denL_repeat (denL_cons.2 ⟨by simp [Den], denL_nil⟩) n
    · simp at hz
  · simp at h

theorem makeSliceS_ok {P : Program} {env : Env} {st st' : St} {w : World} (hr : Rep env st w) {t : TypeId} {ol oc : Operand} {sev : Operand → SVal} {vev : Operand → Value} (hev : ∀ x, Den env (sev x) (vev x)) {s : SVal}
    (h : (makeSliceS P st t ol oc (sev ol) (sev oc)).at (s, st')) : Made P env st w (Instr.makeSlice t (vev ol) (vev oc)) s st' := by
  unfold makeSliceS at h
  split at h
  · rename_i elem hu
    split at h
    · rename_i i n m hi hl hc
      split at h
      · rename_i z hnm hz h0 hb hs
        simp only [Bool.and_eq_true, decide_eq_true_eq] at hnm h0 hb
        obtain ⟨hb, hb2⟩ := hb
        subst hnm
        have hs : 0 < i.size := Nat.le_of_ble_eq_true hs
        split at h
        · rename_i hzs
          simp only [decide_eq_true_eq] at hzs
          simp only [T.at, Prod.mk.injEq] at h
          obtain ⟨rfl, rfl⟩ := h
          have e1 : vev ol = .int .i64 n := by have := hev ol; rw [hl] at this; simpa only [Den] using this
          have e2 : vev oc = .int .i64 n := by have := hev oc; rw [hc] at this; simpa only [Den] using this
          have hb3 : n * i.bytes ≤ 2 ^ 47 := by omega
          have hn2 : n ≤ 2 ^ 62 := by omega
          have hd : DenL env (repeatL (z.cells.toList.map ofSc) n.toNat) (repeatL z.cells.toList n.toNat) := denL_repeat (denL_ofSc env _) _
          obtain ⟨k1, k2⟩ := rep_own hr (T := elem) n.toNat (segFits_c (repeatL (z.cells.toList.map ofSc) n.toNat)) (by rw [segCells_c]; exact hd)
          refine ⟨_, _, .slice (some ⟨w.heap.size, 0, none⟩) n.toNat n.toNat, ?_, k2, k1, sli_new hr rfl (Nat.le_refl _)⟩
          rw [e1, e2]
          exact run_makeSlice hu hi hz hzs hs h0 hn2 hb3
        · exact h.elim
      · exact h.elim
    · rename_i i x y hi hl hc
      split at h
      · rename_i seg hso hseg hs
        simp only [Bool.and_eq_true, decide_eq_true_eq] at hs
        obtain ⟨hs1, hzf⟩ := hs
        simp only [T.at, decide_eq_true_eq, Prod.mk.injEq] at h
        obtain ⟨h0, hb, h62, rfl, rfl⟩ := h
        have hoo : ol = oc := by
          unfold sameOp at hso
          split at hso
          · simp only [decide_eq_true_eq] at hso; rw [hso]
          · simp at hso
        subst hoo
        have e1 : vev ol = .int .i64 x := by have := hev ol; rw [hl] at this; simpa only [Den] using this
        obtain ⟨z, hz, hzs, hfit, hd⟩ := madeSeg_ok (env := env) hseg hi hzf hs1
        obtain ⟨k1, k2⟩ := rep_own hr (T := elem) (segs := [seg]) x.toNat (by intro s hs; simp at hs; subst hs; exact hfit) (by simpa [segCells] using hd)
        refine ⟨_, _, .slice (some ⟨w.heap.size, 0, none⟩) x.toNat x.toNat, ?_, k2, k1, sli_new hr rfl (Nat.le_refl _)⟩
        rw [e1]
        exact run_makeSlice hu hi hz hzs (by omega) h0 h62 hb
      · exact h.elim
    · exact h.elim
  · exact h.elim
end Go.Proofs.YtmknmbacecjfmaaDoor.Sx

