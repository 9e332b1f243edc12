/- An executor on symbolic values: appends, regions, calls, proved right for all inputs. -/
import Derived.Test.YtmknmbacecjfmaaDoorSxA
import Derived.Scope
import Derived.LoopN
/- append is right. -/
namespace Go.Proofs.YtmknmbacecjfmaaDoor.Sx
set_option linter.unusedVariables false

theorem rowsOf_ok {k : Nat} : ∀ {n : Nat} {l : List SVal} {r : List (List SVal)}, rowsOf k n l = some r → r.length = n ∧ r.flatten = l ∧ l.length = n * k ∧ ∀ x ∈ r, x.length = k
  | 0, [], r, h => by simp only [rowsOf, Option.some.injEq] at h; subst h; simp
  | 0, x :: l, r, h => by simp [rowsOf] at h
  | n + 1, l, r, h => by
    simp only [rowsOf] at h
    split at h
    · rename_i r' hk hr
      have hk : k ≤ l.length := Nat.le_of_ble_eq_true hk
      simp only [Option.some.injEq] at h; subst h
      obtain ⟨h1, h2, h3, h4⟩ := rowsOf_ok hr
      refine ⟨by simp [h1], by simp [h2], ?_, ?_⟩
      · rw [List.length_drop] at h3; rw [Nat.succ_mul]; omega
      · intro x hx
        rcases List.mem_cons.1 hx with rfl | hx
        · simp; omega
        · exact h4 x hx
    · simp at h
theorem plainCells_ok : ∀ {segs : List Seg} {l : List SVal}, plainCells segs = some l → segCells segs = l
  | [], l, h => by simp only [plainCells, Option.some.injEq] at h; subst h; rfl
  | .c v :: r, l, h => by
    simp only [plainCells, Option.map_eq_some_iff] at h
    obtain ⟨l', h1, rfl⟩ := h
    have := plainCells_ok h1
    simp only [segCells, List.flatMap_cons, Seg.cells] at *
    rw [this]; rfl
  | .a E n xs :: r, l, h => by simp [plainCells] at h

/-- the words of what is appended -/
structure SrcIs (P : Program) (env : Env) (w : World) (z : Nat) (src : Src) (v : Value) (ys : List Value) : Prop where
  len : (Builtin.lenOf v).run P w = .ok src.len w
  get : ∀ w1 : World, w1.heap = w.heap → (Builtin.firstCells z src.len v).run P w1 = .ok ⟨ys⟩ w1
  den : DenL env src.cells ys
  size : ys.length = src.len * z
  rows : ∀ l, src = .rows l → ∀ x ∈ l, x.length = z

theorem run_first {P : Program} {w : World} {z n : Nat} {a : Addr} {ln cp : Nat} {ys : List Value} (hl : ys.length = n * z) (h : ∀ k, k < ys.length → w.cell? (a.add k) = ys[k]?) :
    (Builtin.firstCells z n (.slice (some a) ln cp)).run P w = .ok ⟨ys⟩ w := by
  simp only [Builtin.firstCells, ← hl]
  exact run_loadCells h
theorem cell_heap {w w1 : World} (h : w1.heap = w.heap) (a : Addr) : w1.cell? a = w.cell? a := by simp [World.cell?, h]

/-- a part of a row of elements -/
theorem flat_cut {X : Type} {env : Env} (E : Enc X) {xs : List X} {cs : List Value} (hd : DenL env (xs.flatMap E.enc) cs) {o n : Nat} (h : o + n ≤ xs.length) :
    DenL env (((xs.drop o).take n).flatMap E.enc) ((cs.drop (o * E.sz)).take (n * E.sz)) := by
  have e1 : xs = xs.take o ++ ((xs.drop o).take n ++ (xs.drop o).drop n) := by rw [List.take_append_drop, List.take_append_drop]
  have hd' := hd
  rw [e1, List.flatMap_append, List.flatMap_append] at hd'
  obtain ⟨us, ws, rfl, h1, h2⟩ := denL_split hd'
  obtain ⟨vs, zs, rfl, h3, h4⟩ := denL_split h2
  have l1 := denL_length h1
  have l3 := denL_length h3
  rw [flat_length] at l1 l3
  have e2 : (xs.take o).length = o := by simp; omega
  have e3 : ((xs.drop o).take n).length = n := by simp; omega
  rw [e2] at l1; rw [e3] at l3
  rw [← l1, ← l3]
  simpa using h3

theorem srcOf_ok {P : Program} {env : Env} {st : St} {w : World} (hr : Rep env st w) {z : Nat} (hz : 0 < z) {s : SVal} {src : Src} {v : Value} (h : srcOf st z s = some (src, true)) (hd : Den env s v) :
    ∃ ys, SrcIs P env w z src v ys := by
  unfold srcOf at h
  split at h
  · simp only [Option.some.injEq, Prod.mk.injEq] at h
    obtain ⟨rfl, _⟩ := h
    simp only [Den] at hd; subst hd
    exact ⟨[], by simp [Builtin.lenOf, Src.len], fun w1 _ => by simp [Builtin.firstCells], by simp [Src.cells, DenL], by simp [Src.len], by rintro l h x hx; cases h; simp at hx⟩
  · rename_i id o sz len cp
    simp only [Den] at hd
    obtain ⟨e, a, he, rfl, hle, ha⟩ := hd
    -- what is read lies at the base, or nothing is read
    have reads : ∀ (ys : List Value), ys.length = len.val * z → (0 < sliCap e o cp → ∀ k, k < ys.length → w.cell? ⟨e.blk, e.off + (o.val * z + k), none⟩ = ys[k]?) → sz = z →
        ∀ w1 : World, w1.heap = w.heap → (Builtin.firstCells z len.val (.slice a len.val (sliCap e o cp))).run P w1 = .ok ⟨ys⟩ w1 := by
      intro ys hl hc hsz w1 hw1
      rcases Nat.eq_zero_or_pos len.val with h | h
      · rw [h, Nat.zero_mul] at hl
        have : ys = [] := List.length_eq_zero_iff.1 hl
        subst this
        rw [h]
        cases a <;> simp [Builtin.firstCells, loadCells, loadCellsFrom]
      have h0 : 0 < sliCap e o cp := by omega
      have := ha h0
      subst this
      refine run_first hl fun k hk => ?_
      rw [cell_heap hw1, addr_add _ _ rfl, ← hc h0 k hk, hsz]
      simp [Nat.add_assoc]
    split at h
    · rename_i segs T hsz hst
      simp only [decide_eq_true_eq] at hsz
      split at h
      · rename_i X E m xs
        split at h
        · rename_i hEz
          simp only [decide_eq_true_eq] at hEz
          simp only [Option.some.injEq, Prod.mk.injEq, decide_eq_true_eq] at h
          obtain ⟨rfl, hlen⟩ := h
          obtain ⟨k0, k1, cs, k2, k3⟩ := hr.holds id e _ he hst
          simp only [segCells, List.flatMap_cons, Seg.cells, List.flatMap_nil, List.append_nil] at k3
          have kd := flat_cut E k3 hlen
          rw [hEz] at kd
          have hl : ((xs.drop o.val).take len.val).length = len.val := by simp; omega
          have hcl := denL_length kd
          rw [flat_length, hl, hEz] at hcl
          refine ⟨_, ?_, ?_, kd, ?_, by rintro l h; cases h⟩
          · simp [Builtin.lenOf, Src.len]; omega
          · simp only [Src.len, hl]
            refine reads _ hcl ?_ hsz
            intro _ k hk
            simp only [List.length_take, List.length_drop] at hk
            rw [k0, Nat.zero_add, blk_cell k2]
            rw [List.getElem?_take_of_lt (by omega), List.getElem?_drop]
          · rw [hcl]; simp [Src.len, hl]
        · simp at h
      split at h
      · rename_i o' n l hp
        simp only [Option.map_eq_some_iff, Prod.mk.injEq, and_true] at h
        obtain ⟨r, hrow, rfl⟩ := h
        obtain ⟨h1, h2, h3, h4⟩ := rowsOf_ok hrow
        obtain ⟨k0, k1, cs, k2, k3⟩ := hr.holds id e _ he hst
        rw [plainCells_ok hp] at k3
        have kd := denL_take (n * z) (denL_drop (o' * z) k3)
        refine ⟨(cs.drop (o' * z)).take (n * z), ?_, ?_, ?_, ?_, ?_⟩
        · simp [Builtin.lenOf, Src.len, h1, NN.val]
        · simp only [Src.len, h1]
          refine reads _ ?_ ?_ hsz
          · rw [denL_length kd]; simpa [NN.val] using h3
          · intro _ k hk
            rw [k0, Nat.zero_add, blk_cell k2]
            simp only [List.length_take, List.length_drop] at hk
            rw [List.getElem?_take_of_lt (by omega), List.getElem?_drop]
            rfl
        · simp only [Src.cells, h2]; exact kd
        · rw [denL_length kd, h3]; simp [Src.len, h1]
        · rintro l hl x hx; cases hl; exact h4 x hx
      · simp at h
    · rename_i X E xs T hsz hst
      simp only [decide_eq_true_eq] at hsz
      split at h
      · rename_i hEz
        simp only [decide_eq_true_eq] at hEz
        simp only [Option.some.injEq, Prod.mk.injEq, decide_eq_true_eq] at h
        obtain ⟨rfl, hlen⟩ := h
        obtain ⟨k0, k1, hh⟩ := hr.holds id e _ he hst
        have hexi : ∃ cs, DenL env (xs.flatMap E.enc) cs ∧ (0 < e.cap → ∃ junk, w.heap[e.blk]? = some (.cells ⟨cs ++ junk⟩ T (0, 0))) := by
          rcases Nat.eq_zero_or_pos e.cap with h | h
          · have : xs = [] := List.length_eq_zero_iff.1 (by omega)
            subst this
            exact ⟨[], denL_nil, fun h' => absurd h' (by omega)⟩
          · obtain ⟨cs, junk, k2, k3, k4⟩ := hh h
            exact ⟨cs, k3, fun _ => ⟨junk, k2⟩⟩
        obtain ⟨cs, k3, k2'⟩ := hexi
        have kd := flat_cut E k3 hlen
        rw [hEz] at kd
        have hl : ((xs.drop o.val).take len.val).length = len.val := by simp; omega
        have hcl := denL_length kd
        rw [flat_length, hl, hEz] at hcl
        refine ⟨_, ?_, ?_, kd, ?_, by rintro l h; cases h⟩
        · simp [Builtin.lenOf, Src.len]; omega
        · simp only [Src.len, hl]
          refine reads _ hcl ?_ hsz
          intro _ k hk
          simp only [List.length_take, List.length_drop] at hk
          have hcap0 : 0 < e.cap := by
            rcases Nat.eq_zero_or_pos len.val with h | h
            · rw [h] at hk; omega
            · omega
          obtain ⟨junk, k2⟩ := k2' hcap0
          rw [k0, Nat.zero_add, blk_cell k2]
          rw [List.getElem?_take_of_lt (by omega), List.getElem?_drop, List.getElem?_append_left (by omega)]
        · rw [hcl]; simp [Src.len, hl]
      · simp at h
    · rename_i X E xs hsz hst
      simp only [decide_eq_true_eq] at hsz
      split at h
      · rename_i hEz
        simp only [decide_eq_true_eq] at hEz
        simp only [Option.some.injEq, Prod.mk.injEq, decide_eq_true_eq] at h
        obtain ⟨rfl, hlen⟩ := h
        obtain ⟨cs, k3, k4⟩ := hr.holds id e _ he hst
        have kd := flat_cut E k3 hlen
        rw [hEz] at kd
        have hl : ((xs.drop o.val).take len.val).length = len.val := by simp; omega
        have hcl := denL_length kd
        rw [flat_length, hl, hEz] at hcl
        refine ⟨_, ?_, ?_, kd, ?_, by rintro l h; cases h⟩
        · simp [Builtin.lenOf, Src.len]; omega
        · simp only [Src.len, hl]
          refine reads _ hcl ?_ hsz
          intro _ k hk
          simp only [List.length_take, List.length_drop] at hk
          rw [k4 _ (by omega), List.getElem?_take_of_lt (by omega), List.getElem?_drop]
        · rw [hcl]; simp [Src.len, hl]
      · simp at h
    · simp at h
  · rename_i id i len
    simp only [Den] at hd
    obtain ⟨e, a, cp, he, rfl, hle, ha⟩ := hd
    split at h
    · rename_i k xss hz1 hst
      simp only [decide_eq_true_eq] at hz1
      subst hz1
      simp only [Option.some.injEq, Prod.mk.injEq, Bool.and_eq_true, decide_eq_true_eq] at h
      obtain ⟨rfl, hi, hlen⟩ := h
      obtain ⟨k0, k1⟩ := hr.holds id e _ he hst
      have k1 := k1 i
      generalize xss.getD i [] = r at *
      have hl : (r.take len).length = len := by rw [List.length_take]; omega
      have flat : ∀ l : List Int, DenL env (l.flatMap (encInt k).enc) (l.map (Value.int k)) := by
        intro l
        induction l with
        | nil => simp [DenL]
        | cons x l ih =>
          rw [List.flatMap_cons, List.map_cons]
          exact denL_append (l := (encInt k).enc x) (us := [Value.int k x]) (by simp [encInt, DenL, Den]) ih
      refine ⟨(r.take len).map (Value.int k), ?_, ?_, flat _, by simp [Src.len], by rintro l h; cases h⟩
      · simp only [Src.len, hl]; simp [Builtin.lenOf]
      · intro w1 hw1
        simp only [Src.len, hl]
        rcases Nat.eq_zero_or_pos len with h | h
        · subst h
          cases a <;> simp [Builtin.firstCells, loadCells, loadCellsFrom]
        · obtain ⟨b, o, hb, ho, rfl⟩ := ha h
          refine run_first (by rw [List.length_map, hl, Nat.mul_one]) fun j hj => ?_
          simp only [List.length_map, hl] at hj
          rw [cell_heap hw1, addr_add _ _ rfl, k1 b o hb ho j (by omega)]
          rw [List.getElem?_map, List.getElem?_take_of_lt hj]
          have : r[j]? = some (r.getD j 0) := by
            rw [List.getD_eq_getElem?_getD, List.getElem?_eq_getElem (by omega)]
            rfl
          rw [this]; rfl
    · simp at h
  · simp at h

/-! ## the runs -/
theorem growBy_le (n : Nat) : ∀ (r c : Nat), c ≤ 2 * n → 256 ≤ c → Builtin.growBy n r c ≤ 2 * n
  | 0, c, h, _ => h
  | r + 1, c, h, h2 => by
    simp only [Builtin.growBy]
    split
    · exact h
    · refine growBy_le n r _ ?_ (by omega); omega
theorem nextcap_le {n c : Nat} (h : c < n) : Builtin.nextslicecap n c ≤ 2 * n := by
  unfold Builtin.nextslicecap
  split
  · omega
  · split
    · omega
    · exact growBy_le n 4 c (by omega) (by omega)

theorem run_askRoom {P : Program} {w : World} (n : Nat) : (askRoom n).run P w = .ok () w := by
  unfold askRoom; split <;> simp [mark, Sem.run]

theorem zeroCells_zero (z : Array Value) : Builtin.zeroCells z 0 = ⟨[]⟩ := by
  unfold Builtin.zeroCells; apply Array.ext'; simp

theorem run_append_in {P : Program} {w w' : World} {t t2 elem e2 rt : TypeId} {z n sLen sCap : Nat} {a : Addr} {x : Value} {ys : List Value} (hu : P.underlying t = some (.slice elem)) (hu2 : P.underlying t2 = some (.slice e2))
    (hz : tySize P elem = some z) (hl : (Builtin.lenOf x).run P w = .ok n w) (hf : (Builtin.firstCells z n x).run P w = .ok ⟨ys⟩ w) (hle : sLen + n ≤ sCap)
    (hs : (storeCells (a.add (sLen * z)) ys).run P w = .ok () w') :
    (Builtin.append_ #[t, t2] rt #[.slice (some a) sLen sCap, x]).run P w = .ok (.slice (some a) (sLen + n) sCap) w' := by
  simp [Builtin.append_, Sem.run_bind, run_underlying hu, run_underlying hu2, run_size hz, hl, hle, hf, hs]

theorem run_append_new {P : Program} {w : World} {t t2 elem e2 rt : TypeId} {i : TypeInfo} {zv : Value} {z n sLen sCap : Nat} {base : Option Addr} {x : Value} {os ys : List Value} (hu : P.underlying t = some (.slice elem)) (hu2 : P.underlying t2 = some (.slice e2))
    (hi : P.info? elem = some i) (hiz : i.size = z) (hzv : i.zero = some zv) (hzs : zv.cells.size = z) (hz0 : 0 < z) (hby : 0 < i.bytes) (hl : (Builtin.lenOf x).run P w = .ok n w)
    (hf : ∀ w1 : World, w1.heap = w.heap → (Builtin.firstCells z n x).run P w1 = .ok ⟨ys⟩ w1) (ho : ∀ w1 : World, w1.heap = w.heap → (Builtin.firstCells z sLen (.slice base sLen sCap)).run P w1 = .ok ⟨os⟩ w1)
    (hgt : ¬ sLen + n ≤ sCap) (hb : (sLen + n) * i.bytes ≤ 2 ^ 47) :
    ∃ (cap : Nat) (w1 : World) (junk : List Value), sLen + n ≤ cap ∧ w1.heap = w.heap.push (.cells ⟨(os ++ ys) ++ junk⟩ elem) ∧ junk.length = (cap - (sLen + n)) * z ∧ (w1.os = w.os ∧ w1.output = w.output) ∧
      (Builtin.append_ #[t, t2] rt #[.slice base sLen sCap, x]).run P w = .ok (.slice (some ⟨w.heap.size, 0, none⟩) (sLen + n) cap) w1 := by
  have hsz : tySize P elem = some z := by simp [tySize, hi, hiz]
  have hti : ∀ w1 : World, (typeInfo elem).run P w1 = .ok i w1 := fun w1 => by simp [typeInfo, hi]
  have hzr : ∀ w1 : World, (zeroValue elem).run P w1 = .ok zv w1 := fun w1 => run_zero hi hzv w1
  have c1 : ¬ (((sLen + n : Nat) : Int) > IntKind.i64.max ∧ (False ∨ i.bytes = 0)) := by
    rintro ⟨_, h | h⟩
    · exact h
    · omega
  have c2 : ¬ (Builtin.nextslicecap (sLen + n) sCap * i.bytes > 2 ^ 48) := by
    have h1 := nextcap_le (n := sLen + n) (c := sCap) (by omega)
    have h2 : Builtin.nextslicecap (sLen + n) sCap * i.bytes ≤ 2 * (sLen + n) * i.bytes := Nat.mul_le_mul_right _ h1
    rw [Nat.mul_assoc] at h2
    omega
  let q : Question := .appendCap (sLen + n) sCap elem
  let cap := q.cut (w.tape w.drawn q)
  have hcap : sLen + n ≤ cap := Nat.le_add_right _ _
  let wd : World := { w with drawn := w.drawn + 1 }
  have hch : (choose (.appendCap (sLen + n) sCap elem)).run P w = .ok cap wd := by simp [choose, Sem.run, Question.forced, q, cap, wd]
  refine ⟨cap, { wd with heap := wd.heap.push (.cells ⟨(os ++ ys) ++ (Builtin.zeroCells zv.cells (cap - (sLen + n))).toList⟩ elem) }, _, hcap, rfl, ?_, ⟨rfl, rfl⟩, ?_⟩
  · simp [Builtin.zeroCells, hzs]
  · have ho' := ho wd rfl
    have hf' := hf wd rfl
    have hp : (⟨os⟩ ++ ⟨ys⟩ ++ Builtin.zeroCells zv.cells (cap - (sLen + n)) : Array Value) = ⟨(os ++ ys) ++ (Builtin.zeroCells zv.cells (cap - (sLen + n))).toList⟩ := by
      apply Array.ext'; simp
    simp only [Builtin.append_, Sem.run_bind, run_underlying hu, run_underlying hu2, run_size hsz, hl, Result.andThen_ok, List.getElem?_toArray, List.getElem?_cons_zero, List.getElem?_cons_succ, Sem.run_pure, Bool.false_eq_true, if_false, hti, if_neg hgt]
    rw [if_neg c1]
    simp only [Sem.run_bind, hti, Result.andThen_ok]
    rw [if_neg c2]
    simp only [hch, Result.andThen_ok, Sem.run_bind, hti, run_askRoom, ho', hf', hzr, Sem.run_pure, Bool.not_false, if_true, hp, run_newRow]
    rfl

theorem run_storeBlk {P : Program} {b o : Nat} {T : TypeId} : ∀ {vs cs : List Value} {w : World} (i : Nat), w.heap[b]? = some (.cells ⟨cs⟩ T (0, 0)) → o + i + vs.length ≤ cs.length → (∀ v ∈ vs, flatV v) →
    ∃ w', (storeCells ⟨b, o, none⟩ vs i).run P w = .ok () w' ∧ w'.heap[b]? = some (.cells ⟨cs.take (o + i) ++ vs ++ cs.drop (o + i + vs.length)⟩ T (0, 0)) ∧ w'.heap.size = w.heap.size ∧ (∀ x, x ≠ b → w'.heap[x]? = w.heap[x]?) ∧ w'.os = w.os ∧ w'.output = w.output
  | [], cs, w, i, h, hl, hf => ⟨w, by simp [storeCells], by simpa using h, rfl, fun _ _ => rfl, rfl, rfl⟩
  | v :: vs, cs, w, i, h, hl, hf => by
    simp only [List.length_cons] at hl
    have hc : w.cell? ⟨b, o + i, none⟩ = some cs[o + i] := by rw [blk_cell h]; simp
    have hb := blk_set h (o + i) v
    obtain ⟨w', h1, h2, h3, h4, h5⟩ := run_storeBlk (P := P) (b := b) (o := o) (T := T) (vs := vs) (w := w.setCell ⟨b, o + i, none⟩ v) (i + 1) hb (by simp; omega) (fun u hu => hf u (List.mem_cons_of_mem _ hu))
    refine ⟨w', ?_, ?_, by rw [h3, set_size], fun x hx => by rw [h4 x hx, set_other hx], h5.1, h5.2⟩
    · simp only [storeCells, Sem.run_bind]
      rw [addr_add _ _ rfl, run_store hc (blk_free h _) (hf v List.mem_cons_self)]
      exact h1
    · rw [h2]
      congr 3
      have e1 : (cs.set (o + i) v).take (o + (i + 1)) = cs.take (o + i) ++ [v] := by
        rw [show o + (i + 1) = (o + i) + 1 by omega, List.take_succ_eq_append_getElem (by simp; omega), List.take_set_of_le (Nat.le_refl _)]
        simp
      have e2 : (cs.set (o + i) v).drop (o + (i + 1) + vs.length) = cs.drop (o + i + (vs.length + 1)) := by
        rw [List.drop_set_of_lt (by omega)]
        congr 1; omega
      rw [e1, e2]; simp

theorem decAll_ok {X : Type} {env : Env} (E : Enc X) : ∀ {l : List (List SVal)} {ds : List X} {ys : List Value}, decAll E l = some ds → DenL env l.flatten ys → ds.length = l.length ∧ DenL env (ds.flatMap E.enc) ys
  | [], ds, ys, h, hd => by simp only [decAll, Option.some.injEq] at h; subst h; exact ⟨rfl, hd⟩
  | r :: l, ds, ys, h, hd => by
    simp only [decAll] at h
    split at h
    · rename_i x xs h1 h2
      simp only [Option.some.injEq] at h; subst h
      simp only [List.flatten_cons] at hd
      obtain ⟨us, ws, rfl, k1, k2⟩ := denL_split hd
      obtain ⟨k3, k4⟩ := decAll_ok E h2 k2
      exact ⟨by simp [k3], by simp only [List.flatMap_cons]; exact denL_append (E.ok env _ _ _ h1 k1) k4⟩
    · simp at h

theorem flat_of_scalar {env : Env} : ∀ {l : List SVal} {vs : List Value}, (∀ s ∈ l, scalar s = true) → DenL env l vs → ∀ v ∈ vs, flatV v
  | [], vs, h, hd => by simp only [DenL] at hd; subst hd; simp
  | s :: l, vs, h, hd => by
    simp only [DenL] at hd
    obtain ⟨u, us, rfl, h1, h2⟩ := hd
    intro v hv
    rcases List.mem_cons.1 hv with rfl | hv
    · exact scalar_flat (h s List.mem_cons_self) h1
    · exact flat_of_scalar (fun s hs => h s (List.mem_cons_of_mem _ hs)) h2 v hv

theorem rows_flat {k : Nat} {l : List (List SVal)} (h : ∀ x ∈ l, x.length = k + 1) : l.flatMap (encRow k).enc = l.flatten := by
  induction l with
  | nil => rfl
  | cons x l ih =>
    simp only [List.flatMap_cons, List.flatten_cons]
    rw [ih (fun y hy => h y (List.mem_cons_of_mem _ hy))]
    congr 1
    exact padTo_self (h x List.mem_cons_self)

/-- a row of a new block, the old name being given up -/
theorem made_vec {X : Type} {env : Env} {st : St} {w w1 : World} (hr : Rep env st w) (E : Enc X) {xs : List X} {elem : TypeId} {cs junk : List Value} {cap : Nat} (hw : w1.heap = w.heap.push (.cells ⟨cs ++ junk⟩ elem)) (hd : DenL env (xs.flatMap E.enc) cs)
    (hle : xs.length ≤ cap) (hl : (cs ++ junk).length = cap * E.sz) (len : NN) (hlen : len.val = xs.length) (hcalm : w1.os = w.os ∧ w1.output = w.output) {z : Nat} :
    Rep (env ++ [⟨w.heap.size, 0, cap, []⟩]) (st ++ [.vec E xs elem]) w1 ∧ Ext env st w (env ++ [⟨w.heap.size, 0, cap, []⟩]) (st ++ [.vec E xs elem]) w1 ∧
    Den (env ++ [⟨w.heap.size, 0, cap, []⟩]) (.sli st.length (.c 0) z len none) (.slice (some ⟨w.heap.size, 0, none⟩) len.val cap) := by
  obtain ⟨h1, h2⟩ := rep_new hr (b := .vec E xs elem) (cap := cap) hw (fun x hx => by simpa using vec_foot (E := E) (xs := xs) (T := elem) hx) ⟨rfl, hle, fun _ => ⟨cs, junk, by rw [hw]; simp, denL_mono _ _ _ hd, hl⟩⟩ hcalm
  exact ⟨h1, h2, sli_new hr (by simp [sliCap, NN.val]) (by rw [hlen]; exact hle)⟩

theorem appendTo_ok {P : Program} {env : Env} {st st' : St} {w : World} (hr : Rep env st w) {t t2 elem e2 rt : TypeId} {i : TypeInfo} {zv : Value} {k : Nat} (hu : P.underlying t = some (.slice elem)) (hu2 : P.underlying t2 = some (.slice e2))
    (hi : P.info? elem = some i) (hiz : i.size = k + 1) (hzv : i.zero = some zv) (hzs : zv.cells.size = k + 1) (hby : 0 < i.bytes) {d r : SVal} {vd vs : Value} {src : Src} {ys : List Value} (hsrc : SrcIs P env w (k + 1) src vs ys)
    (hd : Den env d vd) (h : (appendTo st elem k i.bytes src true d).at (r, st')) : Made P env st w (Builtin.append_ #[t, t2] rt #[vd, vs]) r st' := by
  have hsz : tySize P elem = some (k + 1) := by simp [tySize, hi, hiz]
  have hrows : ∀ l, src = .rows l → src.cells = l.flatMap (encRow k).enc := by
    intro l hl; rw [rows_flat (hsrc.rows l hl), hl]; rfl
  -- a new block, out of what lay there and what comes
  have fresh : ∀ {X : Type} (E : Enc X) (xs ds : List X) (st1 : St) (base : Option Addr) (sLen sCap : Nat) (os : List Value) (len : NN), E.sz = k + 1 → Rep env st1 w → Ext env st w env st1 w → vd = .slice base sLen sCap →
      (∀ w1 : World, w1.heap = w.heap → (Builtin.firstCells (k + 1) sLen (.slice base sLen sCap)).run P w1 = .ok ⟨os⟩ w1) → DenL env (xs.flatMap E.enc) os → DenL env (ds.flatMap E.enc) ys → xs.length = sLen → ds.length = src.len →
      ¬ sLen + src.len ≤ sCap → (sLen + src.len) * i.bytes ≤ 2 ^ 47 → len.val = sLen + src.len → r = .sli st1.length (.c 0) (k + 1) len none → st' = st1 ++ [.vec E (xs ++ ds) elem] →
      Made P env st w (Builtin.append_ #[t, t2] rt #[vd, vs]) r st' := by
    intro X E xs ds st1 base sLen sCap os len hE hr1 hx1 hvd ho hdo hdy hxl hdl hgt hb hlen hrr hst
    obtain ⟨cap, w1, junk, c1, c2, c3, c5, c4⟩ := run_append_new (P := P) (rt := rt) hu hu2 hi hiz hzv hzs (Nat.succ_pos k) hby hsrc.len hsrc.get ho hgt hb
    have lo := denL_length hdo
    have ly := denL_length hdy
    rw [flat_length, hE] at lo ly
    obtain ⟨m1, m2, m3⟩ := made_vec (z := k + 1) hr1 E (xs := xs ++ ds) (cap := cap) c2 (by rw [List.flatMap_append]; exact denL_append hdo hdy) (by rw [List.length_append]; omega) (by
      rw [List.length_append, List.length_append, lo, ly, c3, hE, hxl, hdl]
      have e1 : cap * (k + 1) = (sLen + src.len + (cap - (sLen + src.len))) * (k + 1) := by congr 1; omega
      rw [e1, Nat.add_mul, Nat.add_mul]) len (by rw [List.length_append]; omega) c5
    subst hvd hrr hst
    rw [hlen] at m3
    exact ⟨_, _, _, c4, hx1.trans m2, m1, m3⟩
  have empty : ∀ (base : Option Addr) (n : Nat), ∀ w1 : World, w1.heap = w.heap → (Builtin.firstCells (k + 1) 0 (.slice base 0 n)).run P w1 = .ok ⟨[]⟩ w1 := by
    intro base n w1 _; cases base <;> simp [Builtin.firstCells, loadCells, loadCellsFrom]
  have room : ∀ n, roomy n i.bytes = true → n * i.bytes ≤ 2 ^ 47 := by intro n h; simpa [roomy] using h
  -- nothing comes
  have same : src.len = 0 → ∀ (base : Option Addr) (sLen sCap : Nat), vd = .slice base sLen sCap → sLen ≤ sCap → (Builtin.append_ #[t, t2] rt #[vd, vs]).run P w = .ok vd w := by
    intro h0 base sLen sCap hvd hle
    subst hvd
    have hy : ys = [] := by have := hsrc.size; rw [h0] at this; simpa using this
    subst hy
    have hl := hsrc.len
    have hg := hsrc.get w rfl
    rw [h0] at hl hg
    cases base with
    | none => simp [Builtin.append_, Sem.run_bind, run_underlying hu, run_underlying hu2, run_size hsz, hl, hle, hg]
    | some a => exact run_append_in hu hu2 hsz hl hg (by omega) (by simp [storeCells])
  unfold appendTo at h
  split at h
  · -- onto nil
    simp only [Den] at hd; subst hd
    split at h
    · simp only [T.at, Prod.mk.injEq] at h
      obtain ⟨rfl, rfl⟩ := h
      exact ⟨_, _, _, same (by simp [Src.len]) none 0 0 rfl (Nat.le_refl _), Ext.refl _ _ _, hr, by simp only [Den]⟩
    · rename_i r0 l
      simp only [T.at, Prod.mk.injEq] at h
      obtain ⟨hb, rfl, rfl⟩ := h
      have hb := room _ hb
      exact fresh (encRow k) [] (r0 :: l) st none 0 0 [] (.c (l.length + 1)) rfl hr (Ext.refl _ _ _) rfl (empty _ _) (by simp [DenL]) (by rw [← hrows _ rfl]; exact hsrc.den) rfl (by simp [Src.len]) (by simp [Src.len]) (by simpa [Src.len] using hb)
        (by simp [Src.len, NN.val]) rfl rfl
    · exact h.elim
  · rename_i id o sz len cp
    have hd0 := hd
    simp only [Den] at hd
    obtain ⟨e, a, he, rfl, hle, ha⟩ := hd
    split at h
    · simp only [T.at, Prod.mk.injEq] at h
      obtain ⟨rfl, rfl⟩ := h
      exact ⟨_, _, _, same (by simp [Src.len]) a _ _ rfl hle, Ext.refl _ _ _, hr, hd0⟩
    · rename_i hne
      split at h
      · -- onto an empty literal
        rename_i T0 hsz' hemp hst
        simp only [decide_eq_true_eq] at hsz'
        have hlen0 : len.val = 0 ∧ sliCap e o cp = 0 := by
          unfold emptyLit at hemp
          split at hemp
          · exact ⟨rfl, rfl⟩
          · simp at hemp
        rw [hlen0.1, hlen0.2] at fresh same ⊢
        obtain ⟨hr1, hx1⟩ := rep_drop hr id
        split at h
        · rename_i l hT
          simp only [T.at, Prod.mk.injEq] at h
          obtain ⟨hb, rfl, rfl⟩ := h
          have hb := room _ hb
          have hl0 : l ≠ [] := fun h0 => hne (by rw [h0])
          have hpos : 0 < l.length := List.length_pos_iff.2 hl0
          exact fresh (encRow k) [] l (st.set id .gone) a 0 0 [] (.c l.length) rfl hr1 hx1 rfl (empty _ _) (by simp [DenL]) (by rw [← hrows _ rfl]; exact hsrc.den) rfl (by simp [Src.len]) (by simp [Src.len]; exact hl0) (by simpa [Src.len] using hb)
            (by simp [Src.len, NN.val]) (by simp) rfl
        · rename_i X E xs hT
          simp only [decide_eq_true_eq] at hT; subst hT
          simp only [T.at, Prod.mk.injEq] at h
          obtain ⟨_, hb, rfl, rfl⟩ := h
          have hb := room _ hb
          obtain ⟨k0, k1, cs, k2, k3⟩ := hr.holds id e _ he hst
          have hcs : cs = [] := by simpa [segCells, DenL] using k3
          subst hcs
          by_cases hx0 : xs.length = 0
          · obtain ⟨m1, m2⟩ := rep_move hr (e' := ⟨e.blk, 0, 0, []⟩) (b' := .vec E xs T0) he hst (fun x hx => by simp [Blk.supp] at hx) ⟨rfl, by rw [hx0]; exact Nat.le_refl _, fun h => absurd h (Nat.lt_irrefl 0)⟩
            refine ⟨_, w, _, same (by simpa [Src.len] using hx0) a 0 0 rfl (Nat.le_refl _), m2, m1, ?_⟩
            simp only [Den]
            refine ⟨_, a, new_slot hr _, ?_, ?_, ?_⟩
            · simp [sliCap, NN.val, hx0]
            · simp [sliCap, NN.val, hx0]
            · intro h0; simp [sliCap] at h0
          · exact fresh E [] xs (st.set id .gone) a 0 0 [] (.v xs.length) (by
              have := hsrc.size
              have hy := denL_length hsrc.den
              simp only [Src.cells, Src.len] at this hy
              rw [flat_length] at hy
              exact Nat.eq_of_mul_eq_mul_left (Nat.pos_of_ne_zero hx0) (by omega)) hr1 hx1 rfl (empty _ _) (by simp [DenL]) hsrc.den rfl (by simp [Src.len]) (by simp [Src.len]; intro h0; exact hx0 (by simp [h0])) (by simpa [Src.len] using hb)
              (by simp [Src.len, NN.val]) (by simp) rfl
        · exact h.elim
      · -- onto a literal
        rename_i segs T0 hsz' hemp hst
        simp only [decide_eq_true_eq] at hsz'
        split at h
        · rename_i n m l
          split at h
          · rename_i cells hnm hT hp
            simp only [decide_eq_true_eq] at hnm hT; subst hnm; subst hT
            split at h
            · rename_i r0 hrow
              simp only [T.at, Prod.mk.injEq] at h
              obtain ⟨hb, rfl, rfl⟩ := h
              have hb := room _ hb
              obtain ⟨q1, q2, q3, q4⟩ := rowsOf_ok hrow
              obtain ⟨k0, k1, cs, k2, k3⟩ := hr.holds id e _ he hst
              rw [plainCells_ok hp] at k3
              have hl0 : l ≠ [] := fun h0 => hne (by rw [h0])
              have hpos : 0 < l.length := List.length_pos_iff.2 hl0
              obtain ⟨hr1, hx1⟩ := rep_drop hr id
              have lcs := denL_length k3
              refine fresh (encRow k) r0 l (st.set id .gone) a n n cs (.c (n + l.length)) rfl hr1 hx1 rfl ?_ (by rw [rows_flat q4, q2]; exact k3) (by rw [← hrows _ rfl]; exact hsrc.den) q1 (by simp [Src.len]) (by simp only [Src.len]; omega) (by simpa [Src.len] using hb)
                (by simp [Src.len, NN.val]) (by simp) rfl
              intro w1 hw1
              rcases Nat.eq_zero_or_pos n with h0 | h0
              · subst h0
                have : cs = [] := List.length_eq_zero_iff.1 (by rw [lcs, q3]; simp)
                subst this
                exact empty a _ w1 hw1
              have hn : 0 < sliCap e (.c 0) (some (.c n)) := h0
              have := ha hn
              subst this
              refine run_first (by rw [lcs, q3]) fun j hj => ?_
              rw [cell_heap hw1, addr_add _ _ rfl, k0]
              simp only [NN.val, Nat.zero_mul, Nat.zero_add]
              exact blk_cell k2 j
            · exact h.elim
          · exact h.elim
        · rename_i n m X E xs
          split at h
          · rename_i cells hnm hT hE hp
            simp only [decide_eq_true_eq] at hnm hT hE; subst hnm; subst hT
            split at h
            · rename_i r0 hrow
              split at h
              · rename_i ds hdec
                simp only [T.at, Prod.mk.injEq, decide_eq_true_eq] at h
                obtain ⟨_, hpos, hb, rfl, rfl⟩ := h
                have hb := room _ hb
                obtain ⟨q1, q2, q3, q4⟩ := rowsOf_ok hrow
                obtain ⟨k0, k1, cs, k2, k3⟩ := hr.holds id e _ he hst
                rw [plainCells_ok hp] at k3
                obtain ⟨hr1, hx1⟩ := rep_drop hr id
                have lcs := denL_length k3
                obtain ⟨d1, d2⟩ := decAll_ok E hdec (by rw [q2]; exact k3)
                refine fresh E ds xs (st.set id .gone) a n n cs (.v (n + xs.length)) hE hr1 hx1 rfl ?_ d2 hsrc.den (by rw [d1, q1]) (by simp [Src.len]) (by simp only [Src.len]; omega) (by simpa [Src.len] using hb)
                  (by simp [Src.len, NN.val]) (by simp) rfl
                intro w1 hw1
                rcases Nat.eq_zero_or_pos n with h0 | h0
                · subst h0
                  have : cs = [] := List.length_eq_zero_iff.1 (by rw [lcs, q3]; simp)
                  subst this
                  exact empty a _ w1 hw1
                have hn : 0 < sliCap e (.c 0) (some (.c n)) := h0
                have := ha hn
                subst this
                refine run_first (by rw [lcs, q3]) fun j hj => ?_
                rw [cell_heap hw1, addr_add _ _ rfl, k0]
                simp only [NN.val, Nat.zero_mul, Nat.zero_add]
                exact blk_cell k2 j
              · exact h.elim
            · exact h.elim
          · exact h.elim
        · exact h.elim
      · -- onto a row of the program's own
        rename_i X E xs T0 hsz' hemp hst
        simp only [decide_eq_true_eq] at hsz'
        split at h
        · rename_i l
          split at h
          · rename_i ds hT hE hdec
            simp only [Bool.and_eq_true, decide_eq_true_eq, List.all_eq_true] at hT hE
            obtain ⟨hT, hsc⟩ := hT
            subst hT
            simp only [T.at, decide_eq_true_eq, Prod.mk.injEq] at h
            obtain ⟨hxl, hb, rfl, rfl⟩ := h
            have hb := room _ hb
            have hl0 : l ≠ [] := fun h0 => hne (by rw [h0])
            have hpos : 0 < l.length := List.length_pos_iff.2 hl0
            obtain ⟨k0, k1, hh⟩ := hr.holds id e _ he hst
            have hexi : ∃ cs junk, DenL env (xs.flatMap E.enc) cs ∧ (cs ++ junk).length = e.cap * E.sz ∧ (0 < e.cap → w.heap[e.blk]? = some (.cells ⟨cs ++ junk⟩ T0 (0, 0))) := by
              rcases Nat.eq_zero_or_pos e.cap with h | h
              · have : xs = [] := List.length_eq_zero_iff.1 (by omega)
                subst this
                exact ⟨[], [], denL_nil, by simp [h], fun h' => absurd h' (by omega)⟩
              · obtain ⟨cs, junk, k2, k3, k4⟩ := hh h
                exact ⟨cs, junk, k3, k4, fun _ => k2⟩
            obtain ⟨cs, junk, k3, k4, k2'⟩ := hexi
            have hden := hsrc.den
            obtain ⟨q1, q2⟩ := decAll_ok E hdec hden
            have hyf : ∀ v ∈ ys, flatV v := flat_of_scalar (fun s hs => by
              obtain ⟨r0, hr0, hs0⟩ := List.mem_flatten.1 hs
              exact hsc r0 hr0 s hs0) hden
            have hcap : sliCap e (.c 0) none = e.cap := by simp [sliCap, NN.val]
            rw [hcap] at ha hle fresh ⊢
            have lcs := denL_length k3
            have lys := hsrc.size
            simp only [Src.len] at lys
            rw [flat_length, hE] at lcs
            have hnv : (len.add (.c l.length)).val = len.val + l.length := by rw [NN.add_val]; rfl
            by_cases hfit : len.val + l.length ≤ e.cap
            · -- in place
              have hcp : 0 < e.cap := by omega
              have k2 := k2' hcp
              have := ha hcp
              subst this
              rw [hE] at k4
              have hroom : len.val * (k + 1) + ys.length ≤ (cs ++ junk).length := by
                rw [k4, lys, ← Nat.add_mul]; exact Nat.mul_le_mul_right _ hfit
              obtain ⟨w', s1, s2, s3, s4, s5⟩ := run_storeBlk (P := P) (b := e.blk) (o := len.val * (k + 1)) (vs := ys) 0 k2 (by simpa using hroom) hyf
              have hrun := run_append_in (rt := rt) hu hu2 hsz hsrc.len (hsrc.get w rfl) (sLen := len.val) (sCap := e.cap) (a := ⟨e.blk, e.off + (NN.c 0).val * sz, none⟩) (w' := w') (by simpa [Src.len] using hfit) (by
                rw [addr_add _ _ rfl, k0]; simpa [NN.val] using s1)
              have hlc : len.val * (k + 1) = cs.length := by rw [lcs, hxl]
              have hcont : (cs ++ junk).take (len.val * (k + 1) + 0) ++ ys ++ (cs ++ junk).drop (len.val * (k + 1) + 0 + ys.length) = (cs ++ ys) ++ junk.drop ys.length := by
                rw [Nat.add_zero, hlc, List.take_left, List.drop_append, List.drop_of_length_le (by omega)]
                simp
              rw [hcont] at s2
              have hlen2 : ((cs ++ ys) ++ junk.drop ys.length).length = e.cap * E.sz := by
                rw [hE, ← k4]
                simp only [List.length_append, List.length_drop]
                rw [List.length_append] at hroom
                omega
              have hden2 : DenL env ((xs ++ ds).flatMap E.enc) (cs ++ ys) := by rw [List.flatMap_append]; exact denL_append k3 q2
              have hle2 : (xs ++ ds).length ≤ e.cap := by rw [List.length_append]; omega
              obtain ⟨p1, p2⟩ := rep_put hr he hst (b' := .vec E (xs ++ ds) T0) (w' := w') rfl rfl ⟨k0, hle2, fun _ => ⟨cs ++ ys, junk.drop ys.length, s2, hden2, hlen2⟩⟩ (by omega) (fun x _ hx => s4 x (fun hx' => hx (by
                have := vec_supp hcp (E := E) (xs := xs) (T := T0)
                rw [hx']; exact this))) s5
              have hid : id < st.length := (List.getElem?_eq_some_iff.1 hst).1
              obtain ⟨m1, m2⟩ := rep_move p1 (id := id) (e := e) (e' := e) (b := .vec E (xs ++ ds) T0) (b' := .vec E (xs ++ ds) T0) he (List.getElem?_set_self hid) (fun x hx => hx) ⟨k0, hle2, fun _ => ⟨cs ++ ys, junk.drop ys.length, s2, denL_mono _ _ _ hden2, hlen2⟩⟩
              rw [List.set_set] at m1 m2
              refine ⟨_, _, _, hrun, p2.trans m2, m1, ?_⟩
              simp only [Den]
              refine ⟨e, some ⟨e.blk, e.off + (NN.c 0).val * sz, none⟩, new_slot hr e, ?_, ?_, fun _ => by rw [hsz']⟩
              · rw [hcap, hnv]; rfl
              · rw [hcap, hnv]; exact hfit
            · obtain ⟨hr1, hx1⟩ := rep_drop hr id
              refine fresh E xs ds (st.set id .gone) a len.val e.cap cs (len.add (.c l.length)) hE hr1 hx1 rfl ?_ k3 q2 hxl.symm (by simp [Src.len, q1]) (by simpa [Src.len] using hfit) (by simpa [Src.len, hxl] using hb) (by simpa [Src.len] using hnv) (by simp) rfl
              intro w1 hw1
              rcases Nat.eq_zero_or_pos e.cap with h0 | h0
              · have hx0 : xs.length = 0 := by omega
                have : cs = [] := List.length_eq_zero_iff.1 (by rw [lcs, hx0]; simp)
                subst this
                rw [hxl, hx0]
                exact empty a _ w1 hw1
              have := ha h0
              subst this
              have k2 := k2' h0
              refine run_first (by rw [lcs, hxl]) fun j hj => ?_
              rw [cell_heap hw1, addr_add _ _ rfl, k0]
              simp only [NN.val, Nat.zero_mul, Nat.zero_add]
              rw [blk_cell k2 j]
              exact List.getElem?_append_left hj
          · exact h.elim
        · exact h.elim
      · exact h.elim
  · exact h.elim

theorem appendS_ok {P : Program} {env : Env} {st st' : St} {w : World} (hr : Rep env st w) {ts : Array TypeId} {rt : TypeId} {d s r : SVal} {vd vs : Value} (hd : Den env d vd) (hs : Den env s vs) (h : (appendS P st ts.toList d s).at (r, st')) :
    Made P env st w (Builtin.append_ ts rt #[vd, vs]) r st' := by
  unfold appendS at h
  split at h
  · rename_i t t2 hts
    have e1 : ts = #[t, t2] := Array.ext' (by simpa using hts)
    subst e1
    split at h
    · rename_i elem e2 hu hu2
      split at h
      · rename_i i hi
        split at h
        · rename_i k z hk hz
          split at h
          · rename_i src ok hzs hby hsrc
            obtain ⟨rfl, h⟩ := h
            simp only [decide_eq_true_eq] at hzs
            obtain ⟨ys, hys⟩ := srcOf_ok (P := P) hr (Nat.succ_pos k) hsrc hs
            exact appendTo_ok hr hu hu2 hi hk hz hzs (Nat.le_of_ble_eq_true hby) hys hd h
          · exact h.elim
        · exact h.elim
      · exact h.elim
    · exact h.elim
  · exact h.elim

/-! ## copy -/
theorem segs_length {l : List Seg} (hf : segFits l) : (segCells l).length = segsSize l := by
  induction l with
  | nil => rfl
  | cons s l ih =>
    have h1 := ih fun s hs => hf s (List.mem_cons_of_mem _ hs)
    simp only [segCells, List.flatMap_cons, List.length_append, segsSize, List.map_cons, List.sum_cons] at h1 ⊢
    rw [h1]
    congr 1
    cases s with
    | c v => rfl
    | a E n xs =>
      have : xs.length = n := hf _ List.mem_cons_self
      simp only [Seg.cells, flat_length, Seg.size, this]
theorem plain_cells (l : List SVal) : segCells (l.map .c) = l := by
  induction l with
  | nil => rfl
  | cons x l ih => simp only [segCells, List.map_cons, List.flatMap_cons, Seg.cells] at ih ⊢; rw [ih]; rfl
theorem run_copy {P : Program} {w w' : World} {ts : Array TypeId} {t elem rt : TypeId} {z n dCap : Nat} {a : Option Addr} {x : Value} {ys : List Value} (ht : ts[0]? = some t) (hu : P.underlying t = some (.slice elem))
    (hz : tySize P elem = some z) (hl : (Builtin.lenOf x).run P w = .ok n w) (hf : (Builtin.firstCells z n x).run P w = .ok ⟨ys⟩ w)
    (hs : (a = none ∧ w' = w) ∨ ∃ b, a = some b ∧ (storeCells b ys).run P w = .ok () w') :
    (Builtin.copy_ ts rt #[.slice a n dCap, x]).run P w = .ok (.int .i64 n) w' := by
  rcases hs with ⟨rfl, rfl⟩ | ⟨b, rfl, hs⟩
  · simp [Builtin.copy_, ht, Sem.run_bind, run_underlying hu, run_size hz, hl, hf, goInt]
  · simp [Builtin.copy_, ht, Sem.run_bind, run_underlying hu, run_size hz, hl, hf, hs, goInt]
theorem copyTo_ok {P : Program} {env : Env} {st st' : St} {w : World} (hr : Rep env st w) {ts : Array TypeId} {t elem rt : TypeId} {k : Nat} (ht : ts[0]? = some t) (hu : P.underlying t = some (.slice elem)) (hz : tySize P elem = some (k + 1)) {d r : SVal} {vd vs : Value} {src : Src} {ys : List Value}
    (hsrc : SrcIs P env w (k + 1) src vs ys) (hd : Den env d vd) (h : (copyTo st (k + 1) src d).at (r, st')) : Made P env st w (Builtin.copy_ ts rt #[vd, vs]) r st' := by
  unfold copyTo at h
  split at h
  · rename_i id sz len cp
    simp only [Den] at hd
    obtain ⟨e, a, he, rfl, hle, ha⟩ := hd
    split at h
    · rename_i segs T0 hsz hst
      simp only [decide_eq_true_eq] at hsz
      obtain ⟨k0, k1, cs, k2, k3⟩ := hr.holds id e _ he hst
      have hcs := denL_length k3
      rw [segs_length k1] at hcs
      have fin : ∀ segs' : List Seg, len.val = src.len → segsSize segs = src.len * (k + 1) → (∀ v ∈ ys, flatV v) → segFits segs' → DenL env (segCells segs') ys → r = lenI len → st' = st.set id (.own segs' T0) →
          Made P env st w (Builtin.copy_ ts rt #[.slice a len.val (sliCap e (.c 0) cp), vs]) r st' := by
        intro segs' h1 h2 hfl hf' hd' hrr hst'
        subst hrr hst'
        have hly := hsrc.size
        rcases Nat.eq_zero_or_pos src.len with h0 | h0
        · have hy0 : ys = [] := List.length_eq_zero_iff.1 (by rw [hly, h0]; simp)
          have hc0 : cs = [] := List.length_eq_zero_iff.1 (by rw [hcs, h2, h0]; simp)
          subst hy0 hc0
          obtain ⟨p1, p2⟩ := rep_put hr he hst (b' := .own segs' T0) (w' := w) rfl rfl ⟨k0, hf', [], k2, hd'⟩ (Nat.le_refl _) (fun _ _ _ => rfl) ⟨rfl, rfl⟩
          refine ⟨env, w, .int .i64 len.val, ?_, p2, p1, lenI_den _ _⟩
          rw [h1]
          refine run_copy ht hu hz hsrc.len (hsrc.get w rfl) ?_
          cases a with
          | none => exact .inl ⟨rfl, rfl⟩
          | some b => exact .inr ⟨b, rfl, by simp [storeCells]⟩
        · have hcap : 0 < sliCap e (.c 0) cp := by omega
          have := ha hcap
          subst this
          obtain ⟨w', s1, s2, s3, s4, s5⟩ := run_storeBlk (P := P) (b := e.blk) (o := 0) (vs := ys) 0 k2 (by rw [hcs, hly, h2]; omega) hfl
          have hcont : cs.take (0 + 0) ++ ys ++ cs.drop (0 + 0 + ys.length) = ys := by
            rw [List.drop_of_length_le (by rw [hcs, hly, h2]; omega)]
            simp
          rw [hcont] at s2
          obtain ⟨p1, p2⟩ := rep_put hr he hst (b' := .own segs' T0) (w' := w') rfl rfl ⟨k0, hf', ys, s2, hd'⟩ (by omega) (fun x _ hx => s4 x (by simpa [Blk.foot] using hx)) s5
          refine ⟨env, w', .int .i64 len.val, ?_, p2, p1, lenI_den _ _⟩
          rw [h1]
          refine run_copy ht hu hz hsrc.len (hsrc.get w rfl) (.inr ⟨_, rfl, ?_⟩)
          rw [k0]
          simpa [NN.val] using s1
      split at h
      · rename_i l
        split at h
        · rename_i hsc
          simp only [T.at, decide_eq_true_eq, Prod.mk.injEq] at h
          obtain ⟨h1, h2, h3, h4⟩ := h
          refine fin (l.flatten.map .c) h1 h2 ?_ ?_ ?_ h3.symm h4.symm
          · refine flat_of_scalar (fun s hs => ?_) hsrc.den
            simp only [List.all_eq_true] at hsc
            obtain ⟨r0, hr0, hs0⟩ := List.mem_flatten.1 hs
            exact hsc r0 hr0 s hs0
          · intro s hs
            obtain ⟨x, _, rfl⟩ := List.mem_map.1 hs
            trivial
          · rw [plain_cells]; exact hsrc.den
        · exact h.elim
      · rename_i X E xs
        simp only [T.at, decide_eq_true_eq, Prod.mk.injEq] at h
        obtain ⟨h1, h2, hsc, h3, h4⟩ := h
        refine fin [.a E xs.length xs] h1 h2 ?_ ?_ ?_ h3.symm h4.symm
        · refine flat_of_scalar (fun s hs => ?_) hsrc.den
          simp only [List.all_eq_true] at hsc
          obtain ⟨x, hx, hs⟩ := List.mem_flatMap.1 hs
          exact hsc x hx s hs
        · intro s hs
          rw [List.mem_singleton.1 hs]
          rfl
        · simpa [segCells, Seg.cells, Src.cells] using hsrc.den
    · exact h.elim
  · exact h.elim
theorem copyS_ok {P : Program} {env : Env} {st st' : St} {w : World} (hr : Rep env st w) {ts : Array TypeId} {rt : TypeId} {d s r : SVal} {vd vs : Value} (hd : Den env d vd) (hs : Den env s vs) (h : (copyS P st ts.toList d s).at (r, st')) :
    Made P env st w (Builtin.copy_ ts rt #[vd, vs]) r st' := by
  unfold copyS at h
  split at h
  · rename_i t rest hts
    have ht : ts[0]? = some t := by
      rw [← Array.getElem?_toList, hts]; rfl
    split at h
    · rename_i elem hu
      split at h
      · rename_i k hk
        split at h
        · rename_i src ok hsrc
          obtain ⟨rfl, h⟩ := h
          obtain ⟨ys, hys⟩ := srcOf_ok (P := P) hr (Nat.succ_pos k) hsrc hs
          exact copyTo_ok hr ht hu hk hys hd h
        · exact h.elim
      · exact h.elim
    · exact h.elim
  · exact h.elim
end Go.Proofs.YtmknmbacecjfmaaDoor.Sx

/- Bytes as a string. -/
namespace Go.Proofs.YtmknmbacecjfmaaDoor.Sx
set_option linter.unusedVariables false
def isU8 (s : SVal) : Bool := match asI s with
  | some (.u8, _, _) => true
  | _ => false
def litU8 (s : SVal) : Bool := match asI s with
  | some (.u8, _, true) => true
  | _ => false
def byteOf (s : SVal) : UInt8 := match asI s with
  | some (_, x, _) => UInt8.ofNat x.toNat
  | none => 0
theorem litU8_is {s : SVal} (h : litU8 s = true) : isU8 s = true := by
  unfold litU8 at h
  unfold isU8
  split at h
  · rename_i h1; rw [h1]
  · simp at h
theorem u8_den {env : Env} {s : SVal} {v : Value} (h : isU8 s = true) (hd : Den env s v) : ∃ x : Int, v = .int .u8 x ∧ byteOf s = UInt8.ofNat x.toNat := by
  unfold isU8 at h
  split at h
  · rename_i x l h1
    exact ⟨x, asI_den h1 hd, by unfold byteOf; rw [h1]⟩
  · simp at h
theorem run_push {P : Program} {w : World} {env : Env} {f : Value → ByteArray → Sem (ForInStep ByteArray)} (hf : ∀ n r, f (.int .u8 n) r = pure (ForInStep.yield (r.push (UInt8.ofNat n.toNat)))) : ∀ {l : List SVal} {ys : List Value} (s : ByteArray), DenL env l ys → l.all isU8 = true →
    (forIn ys s f).run P w = .ok ⟨(s.data.toList ++ l.map byteOf).toArray⟩ w
  | [], ys, s, hd, hl => by
    simp only [DenL] at hd; subst hd
    simp [Sem.run_pure]
  | x :: l, ys, s, hd, hl => by
    simp only [DenL] at hd
    obtain ⟨u, us, rfl, h1, h2⟩ := hd
    simp only [List.all_cons, Bool.and_eq_true] at hl
    obtain ⟨n, rfl, hb⟩ := u8_den hl.1 h1
    have ih := run_push (P := P) (w := w) hf (s.push (UInt8.ofNat n.toNat)) h2 hl.2
    rw [List.forIn_cons]
    simp only [hf, pure_bind]
    rw [ih]
    simp [hb, ByteArray.push]
theorem run_bytes {P : Program} {w : World} {env : Env} {l : List SVal} {ys : List Value} {a : Addr} {n cp : Nat} (hd : DenL env l ys) (hl : l.all isU8 = true) (hload : (loadCells a n).run P w = .ok ⟨ys⟩ w) :
    (Conv.bytesToString (.slice (some a) n cp)).run P w = .ok (.string ⟨(l.map byteOf).toArray⟩) w := by
  simp only [Conv.bytesToString, Sem.run_bind, hload, Result.andThen_ok, ← Array.forIn_toList]
  rw [run_push (fun n r => rfl) ByteArray.empty hd hl]
  have h0 : ByteArray.empty.data.toList = [] := rfl
  rw [h0]
  simp [Sem.run_pure]
/-- which operand is a slice of bytes that becomes a string -/
def bytesArg (P : Program) (o : Op) : Option Operand := match o with
  | .convert s d x => match P.underlying s, P.underlying d with
    | some (.slice e), some .string => match P.underlying e with
      | some (.int .u8) => some x
      | _ => none
    | _, _ => none
  | _ => none
def bytesS (st : St) (x : SVal) : T (SVal × St) :=
  match srcOf st 1 x with
  | some (src, ok) => match src with
    | .rows l => match l.flatten.all litU8 with
      | true => .need ok (.ret (.sl (l.flatten.map byteOf), st))
      | false => .need ok (.need (l.flatten.all isU8) (.ret (.str ⟨(l.flatten.map byteOf).toArray⟩, st)))
    | .elems E xs => .need ok (.need ((xs.flatMap E.enc).all isU8) (.ret (.str ⟨((xs.flatMap E.enc).map byteOf).toArray⟩, st)))
  | none => .no 140
theorem bytesS_ok {P : Program} {env : Env} {st st' : St} {w : World} (hr : Rep env st w) {sT dT e : TypeId} (h1 : P.underlying sT = some (.slice e)) (h2 : P.underlying dT = some .string) (h3 : P.underlying e = some (.int .u8)) {x s : SVal} {v : Value} (hd : Den env x v) (h : (bytesS st x).at (s, st')) :
    Made P env st w (convert sT dT v) s st' := by
  have key : ∀ (src : Src), srcOf st 1 x = some (src, true) → src.cells.all isU8 = true → ∃ a n cp, v = .slice a n cp ∧ (convert sT dT v).run P w = .ok (.string ⟨(src.cells.map byteOf).toArray⟩) w := by
    intro src hsrc hall
    obtain ⟨ys, hys⟩ := srcOf_ok (P := P) hr Nat.one_pos hsrc hd
    have hv : ∃ a n cp, v = .slice a n cp := by
      unfold srcOf at hsrc
      split at hsrc
      · simp only [Den] at hd; exact ⟨_, _, _, hd⟩
      · simp only [Den] at hd; obtain ⟨_, a, _, h, _⟩ := hd; exact ⟨_, _, _, h⟩
      · simp only [Den] at hd; obtain ⟨_, a, _, _, h, _⟩ := hd; exact ⟨_, _, _, h⟩
      · simp at hsrc
    obtain ⟨a, n, cp, rfl⟩ := hv
    have hn : n = src.len := by
      have := hys.len
      simpa [Builtin.lenOf] using this
    refine ⟨a, n, cp, rfl, ?_⟩
    have hg := hys.get w rfl
    have hsz := hys.size
    cases a with
    | none =>
      have h0 : ys = [] := by
        simp only [Builtin.firstCells, Sem.run_pure, Result.ok.injEq, and_true] at hg
        have := congrArg Array.toList hg
        simpa using this.symm
      subst h0
      have hc : src.cells = [] := by
        have := denL_length hys.den
        exact List.length_eq_zero_iff.1 this.symm
      rw [hc]
      have h0 : ByteArray.mk ([] : List UInt8).toArray = ByteArray.empty := rfl
      simp only [List.map_nil, h0]
      simp [convert, Sem.run_bind, run_underlying h1, run_underlying h2, run_underlying h3, Conv.bytesToString]
    | some a =>
      have hload : (loadCells a n).run P w = .ok ⟨ys⟩ w := by
        simp only [Builtin.firstCells, ← hn, Nat.mul_one] at hg
        exact hg
      have := run_bytes (P := P) (w := w) (cp := cp) hys.den hall hload
      simp [convert, Sem.run_bind, run_underlying h1, run_underlying h2, run_underlying h3, this]
  unfold bytesS at h
  split at h
  · rename_i src ok hsrc
    split at h
    · rename_i l
      split at h
      · rename_i hl
        simp only [T.at, Prod.mk.injEq] at h
        obtain ⟨rfl, rfl, rfl⟩ := h
        obtain ⟨a, n, cp, rfl, hrun⟩ := key _ hsrc (by
          simp only [Src.cells, List.all_eq_true] at hl ⊢
          exact fun x hx => litU8_is (hl x hx))
        exact ⟨env, w, _, hrun, Ext.refl _ _ _, hr, by simp [Den, Src.cells]⟩
      · simp only [T.at, Prod.mk.injEq] at h
        obtain ⟨rfl, hall, rfl, rfl⟩ := h
        obtain ⟨a, n, cp, rfl, hrun⟩ := key _ hsrc hall
        exact ⟨env, w, _, hrun, Ext.refl _ _ _, hr, by simp [Den, Src.cells]⟩
    · rename_i X E xs
      simp only [T.at, Prod.mk.injEq] at h
      obtain ⟨rfl, hall, rfl, rfl⟩ := h
      obtain ⟨a, n, cp, rfl, hrun⟩ := key _ hsrc hall
      exact ⟨env, w, _, hrun, Ext.refl _ _ _, hr, by simp [Den, Src.cells]⟩
  · exact h.elim
end Go.Proofs.YtmknmbacecjfmaaDoor.Sx

/- The executor, and that it is right for code whose order is fixed. -/
namespace Go.Proofs.YtmknmbacecjfmaaDoor.Sx
set_option linter.unusedVariables false

/-- what is called: a function on symbolic arguments -/
abbrev CallT := FuncId → List SVal → St → T (SVal × St)
/-- what the executor is told: the program, exact arithmetic, the names of package-level variables, summaries -/
structure Cfg where
  P : Program
  ex : IntKind → Bool
  gl : List (Nat × Nat)
  sm : FuncId → Option (List SVal → St → T (SVal × St))

def glS : List (Nat × Nat) → Nat → SVal
  | [], _ => .bad
  | (g, id) :: r, x => match Nat.decEq g x with
    | .isTrue _ => .ptr id 0
    | .isFalse _ => glS r x
def evS (gl : List (Nat × Nat)) (ts : List SVal) : Operand → SVal
  | .tmp t => ts.getD t .bad
  | .const v => ofVal v
  | .global g => glS gl g
  | .func f => .fn (.func f) [] []
def putS (ts : List SVal) (d : Option Tmp) (s : SVal) : List SVal :=
  match d with
  | some t => ts.set t s
  | none => ts

/-- a function with a body of its own -/
def callable (P : Program) (f : FuncId) : Bool :=
  match P.funcs[f]? with
  | some fn => (!(fn.name == "runtime.NumGoroutine")) && fn.body.isSome
  | none => false
def methodS (P : Program) (t : TypeId) (name : String) : Option FuncId :=
  match P.info? t with
  | some i => match i.methods.find? (·.name == name) with
    | some m => match m.path.toList, m.func, P.underlying t with
      | [], some (f, true), some (.pointer _) => some f
      | _, _, _ => none
    | none => none
  | none => none
def callS (P : Program) (call : CallT) (f : FuncId) (args : List SVal) (st : St) : T (SVal × St) :=
  match callable P f with
  | true => call f args st
  | false => .no 100
def opS (c : Cfg) (call : CallT) (ev : Operand → SVal) (o : Op) (st : St) : T (SVal × St) :=
  match isPure o with
  | true => (pureS c.P c.ex ev o).bind fun s => .ret (s, st)
  | false => match o with
    | .load t p => (loadS c.P st t (ev p)).bind fun s => .ret (s, st)
    | .store t p v => (storeS c.P st t (ev p) (ev v)).bind fun st' => .ret (.bad, st')
    | .alloc t => allocS c.P st t
    | .box t v => boxS st t (ev v)
    | .buildSlice t n parts => buildSliceS c.P st t n (parts.toList.map fun p => (p.1, ev p.2))
    | .makeSlice t a b => makeSliceS c.P st t a b (ev a) (ev b)
    | .call { callee := .builtin .append, args, argTypes } => match args.toList with
      | [d, s] => appendS c.P st argTypes.toList (ev d) (ev s)
      | _ => .no 101
    | .call { callee := .builtin .copy, args, argTypes } => match args.toList with
      | [d, s] => copyS c.P st argTypes.toList (ev d) (ev s)
      | _ => .no 106
    | .call { callee := .value f, args, .. } => match ev f with
      | .fn (.func g) first cap => callS c.P call g ((first ++ args.toList.map ev) ++ cap) st
      | _ => .no 102
    | .call { callee := .invoke r name, args, .. } => match ev r with
      | .ifc t v => match methodS c.P t name with
        | some f => callS c.P call f (v :: args.toList.map ev) st
        | none => .no 103
      | _ => .no 104
    | _ => .no 105

/-- an operation that stands in its order -/
def opX (c : Cfg) (call : CallT) (ev : Operand → SVal) (o : Op) (st : St) : T (SVal × St) :=
  match bytesArg c.P o with
  | some x => bytesS st (ev x)
  | none => opS c call ev o st

/-! ## a region in its order -/
inductive Want where
  | yes | no | ask (p : Bool) (t : Tmp) | lost
def wantS (ops : Array Oper) (o : Oper) (ts : List SVal) : Want :=
  match o.guard with
  | none => .yes
  | some (j, want) => match ops[j]? with
    | some g => match g.dst with
      | some t => match ts.getD t .bad with
        | .bl b => match b, want with
          | true, true => .yes
          | false, false => .yes
          | _, _ => .no
        | .sb p => .ask p t
        | .tup _ => .no
        | _ => .lost
      | none => .lost
    | none => .lost
def doS (c : Cfg) (call : CallT) (o : Oper) (ts : List SVal) (st : St) : T (List SVal × St) :=
  (opX c call (evS c.gl ts) o.op st).bind fun p => .ret (putS ts o.dst p.1, p.2)
def guardIs (o : Oper) (b : Bool) : Bool :=
  match o.guard with
  | some (_, want) => match b, want with
    | true, true => true
    | false, false => true
    | _, _ => false
  | none => false
def stepS (c : Cfg) (call : CallT) (ops : Array Oper) (o : Oper) (ts : List SVal) (st : St) : T (List SVal × St) :=
  match wantS ops o ts with
  | .yes => doS c call o ts st
  | .no => .ret (putS ts o.dst (.tup []), st)
  | .ask p t => .br p (match guardIs o true with
      | true => doS c call o (ts.set t (.bl true)) st
      | false => .ret (putS (ts.set t (.bl true)) o.dst (.tup []), st))
    (match guardIs o false with
      | true => doS c call o (ts.set t (.bl false)) st
      | false => .ret (putS (ts.set t (.bl false)) o.dst (.tup []), st))
  | .lost => .no 106
def listS (c : Cfg) (call : CallT) (ops : Array Oper) : List Oper → List SVal → St → T (List SVal × St)
  | [], ts, st => .ret (ts, st)
  | o :: r, ts, st => (stepS c call ops o ts st).bind fun p => listS c call ops r p.1 p.2

/-! ## what stands for a frame -/
def DenT (env : Env) (ts : List SVal) (tmps : Array Value) : Prop := ∃ vs, tmps = ⟨vs⟩ ∧ DenL env ts vs
def GlOk (gl : List (Nat × Nat)) (env : Env) : Prop := ∀ p ∈ gl, ∃ e, env[p.2]? = some e ∧ e.blk = p.1 ∧ e.off = 0
theorem GlOk.ext {gl : List (Nat × Nat)} {env env' : Env} {st st' : St} {w w' : World} (h : GlOk gl env) (hx : Ext env st w env' st' w') : GlOk gl env' := by
  obtain ⟨⟨m, rfl⟩, _⟩ := hx
  intro p hp
  obtain ⟨e, h1, h2⟩ := h p hp
  exact ⟨e, getElem?_append_some h1, h2⟩
theorem DenT.ext {env env' : Env} {st st' : St} {w w' : World} {ts : List SVal} {tmps : Array Value} (h : DenT env ts tmps) (hx : Ext env st w env' st' w') : DenT env' ts tmps := by
  obtain ⟨vs, rfl, hd⟩ := h; exact ⟨vs, rfl, hx.denL hd⟩
theorem glS_ok {env : Env} : ∀ {gl : List (Nat × Nat)} (g : Nat), GlOk gl env → Den env (glS gl g) (.pointer (some ⟨g, 0, none⟩))
  | [], g, h => by simp [glS, Den]
  | (g', id) :: r, g, h => by
    simp only [glS]
    split
    · rename_i heq _
      subst heq
      obtain ⟨e, h1, h2, h3⟩ := h (g', id) List.mem_cons_self
      simp only [Den]
      simp only at h1 h2
      exact ⟨e, h1, by rw [h2, h3]⟩
    · exact glS_ok g (fun p hp => h p (List.mem_cons_of_mem _ hp))
theorem evS_ok {env : Env} {gl : List (Nat × Nat)} {ts : List SVal} {a : Act} (hg : GlOk gl env) (ht : DenT env ts a.tmps) (x : Operand) : Den env (evS gl ts x) (a.eval x) := by
  obtain ⟨vs, hv, hd⟩ := ht
  cases x with
  | tmp t =>
    simp only [evS, Act.eval, hv]
    have := denL_getD hd t
    simpa using this
  | const v => exact den_ofVal env v
  | global g => exact glS_ok g hg
  | func f => simp only [evS, Act.eval, Den]; exact ⟨[], [], rfl, denL_nil, denL_nil⟩
theorem putS_ok {env : Env} {ts : List SVal} {a : Act} {d : Option Tmp} {s : SVal} {v : Value} (ht : DenT env ts a.tmps) (hs : Den env s v) : DenT env (putS ts d s) (a.put d v).tmps := by
  obtain ⟨vs, hv, hd⟩ := ht
  cases d with
  | none => exact ⟨vs, hv, hd⟩
  | some t =>
    refine ⟨vs.set t v, ?_, denL_set t hd hs⟩
    simp only [Act.put, hv]
    exact Array.ext' (by simp)

/-- a call does what its tree says -/
def CallOk (c : Cfg) (call : CallT) : Prop :=
  ∀ (f : FuncId) (args : List SVal) (st : St) (s : SVal) (st' : St) (env : Env) (w : World) (vs : List Value), (call f args st).at (s, st') → callable c.P f = true → GlOk c.gl env → Rep env st w → DenL env args vs →
    Calls c.P f ⟨vs⟩ w fun e w' => ∃ env' v, e = .returned v ∧ Ext env st w env' st' w' ∧ Rep env' st' w' ∧ Den env' s v

/-- what an operation leaves: a value, or a call that leaves one -/
def Leaves (P : Program) (env : Env) (st : St) (s : SVal) (st' : St) (w : World) : Result Next → Prop
  | .ok (.value v) w' => ∃ env', Ext env st w env' st' w' ∧ Rep env' st' w' ∧ Den env' s v
  | .ok .skip w' => ∃ env', Ext env st w env' st' w' ∧ Rep env' st' w' ∧ Den env' s undef
  | .ok (.enter f args) w1 => w1 = w ∧ Calls P f args w fun e w' => ∃ env' v, e = .returned v ∧ Ext env st w env' st' w' ∧ Rep env' st' w' ∧ Den env' s v
  | _ => False

theorem leaves_made {P : Program} {env : Env} {st st' : St} {w : World} {m : Sem Value} {s : SVal} (h : Made P env st w m s st') :
    Leaves P env st s st' w ((do pure (Next.value (← m)) : Sem Next).run P w) := by
  obtain ⟨env', w', v, hr, hx, hrep, hd⟩ := h
  simp only [Sem.run_bind, hr, Result.andThen_ok, Sem.run_pure]
  exact ⟨env', hx, hrep, hd⟩

theorem run_callFunc {P : Program} {f : FuncId} (h : callable P f = true) (args : Array Value) (w : World) : (callFunc f args).run P w = .ok (.enter f args) w := by
  unfold callable at h
  cases hf : P.funcs[f]? with
  | none => simp [hf] at h
  | some fn =>
    simp only [hf, Bool.and_eq_true, Bool.not_eq_true', beq_eq_false_iff_ne] at h
    obtain ⟨h1, h2⟩ := h
    have h3 : fn.body.isNone = false := by cases hb : fn.body <;> simp_all
    have h4 : fn.body ≠ none := by intro h; rw [h] at h2; simp at h2
    simp [callFunc, Sem.run_bind, hf, h1, h4]

theorem method_ok {P : Program} {t : TypeId} {name : String} {f : FuncId} {v : Value} {w : World} (h : methodS P t name = some f) (n : Nat) : (method (n + 1) t v name).run P w = .ok (f, v) w := by
  unfold methodS at h
  split at h
  · rename_i i hi
    split at h
    · rename_i m hm
      split at h
      · rename_i f' e hp hf hu
        simp only [Option.some.injEq] at h; subst h
        have hti : (typeInfo t).run P w = .ok i w := by simp [typeInfo, hi]
        simp only [method, Sem.run_bind, hti, Result.andThen_ok, hm, hp, follow, Sem.run_pure, hf, receiverAt, run_underlying hu, Place.get]
      · simp at h
    · simp at h
  · simp at h

theorem opS_ok {c : Cfg} {call : CallT} (hc : CallOk c call) {env : Env} {st st' : St} {w : World} {sev : Operand → SVal} {vev : Operand → Value} {o : Oper} {s : SVal} (hg : GlOk c.gl env) (hr : Rep env st w) (hev : ∀ x, Den env (sev x) (vev x))
    (h : (opS c call sev o.op st).at (s, st')) : Leaves c.P env st s st' w ((execOp vev o).run c.P w) := by
  unfold opS at h
  split at h
  · rw [T.at_bind] at h
    obtain ⟨s', h1, h2⟩ := h
    simp only [T.at, Prod.mk.injEq] at h2
    obtain ⟨rfl, rfl⟩ := h2
    obtain ⟨v, hv, hd⟩ := pure_ok hev h1 w
    rw [hv]
    exact ⟨env, Ext.refl _ _ _, hr, hd⟩
  · obtain ⟨dst, op, type, pos, after, guard⟩ := o
    simp only at h
    split at h
    · rename_i t p _
      rw [T.at_bind] at h
      obtain ⟨s', h1, h2⟩ := h
      simp only [T.at, Prod.mk.injEq] at h2
      obtain ⟨rfl, rfl⟩ := h2
      obtain ⟨v, hv, hd⟩ := loadS_ok hr h1 (hev p)
      exact leaves_made ⟨env, w, v, hv, Ext.refl _ _ _, hr, hd⟩
    · rename_i t p v _
      rw [T.at_bind] at h
      obtain ⟨s', h1, h2⟩ := h
      simp only [T.at, Prod.mk.injEq] at h2
      obtain ⟨rfl, rfl⟩ := h2
      obtain ⟨w', hv, hrep, hx⟩ := storeS_ok hr h1 (hev p) (hev v)
      simp only [execOp, Sem.run_bind, hv, Result.andThen_ok, Sem.run_pure]
      exact ⟨env, hx, hrep, by simp [Den]⟩
    · exact leaves_made (allocS_ok hr h)
    · rename_i t v _
      exact leaves_made (boxS_ok hr h (hev v))
    · rename_i t n parts _
      have hk : Made c.P env st w (Instr.buildSlice t n (parts.map fun (i, x) => (i, vev x))) s st' := by
        refine buildSliceS_ok hr h ?_ ?_
        · simp [Function.comp_def]
        · have := denL_map hev (parts.toList.map (·.2))
          simpa [Function.comp_def] using this
      exact leaves_made hk
    · rename_i t a b _
      exact leaves_made (makeSliceS_ok hr hev h)
    · rename_i args argTypes _
      split at h
      · rename_i d s0 hargs
        have e1 : args = #[d, s0] := Array.ext' (by simpa using hargs)
        subst e1
        have := leaves_made (appendS_ok (rt := type) hr (hev d) (hev s0) h)
        simpa [execOp, resolve, invoke, builtin, Sem.run_bind] using this
      · exact h.elim
    · rename_i args argTypes _
      split at h
      · rename_i d s0 hargs
        have e1 : args = #[d, s0] := Array.ext' (by simpa using hargs)
        subst e1
        have := leaves_made (copyS_ok (rt := type) hr (hev d) (hev s0) h)
        simpa [execOp, resolve, invoke, builtin, Sem.run_bind] using this
      · exact h.elim
    · rename_i f args argTypes _
      split at h
      · rename_i g first cap hf
        unfold callS at h
        split at h
        · rename_i hcal
          have hd := hev f
          rw [hf] at hd
          simp only [Den] at hd
          obtain ⟨us, cs, hv, h1, h2⟩ := hd
          have hargs : DenL env ((first ++ args.toList.map sev) ++ cap) ((us ++ args.toList.map vev) ++ cs) := denL_append (denL_append h1 (denL_map hev _)) h2
          have hcall := hc g _ st s st' env w _ h hcal hg hr hargs
          have e1 : ((⟨us⟩ : Array Value) ++ args.map vev ++ ⟨cs⟩) = ⟨(us ++ args.toList.map vev) ++ cs⟩ := Array.ext' (by simp)
          simp only [execOp, resolve, Sem.run_bind, hv, Deferred.ofValue, Sem.run_pure, Result.andThen_ok, invoke, e1, run_callFunc hcal]
          exact ⟨rfl, hcall⟩
        · exact h.elim
      · exact h.elim
    · rename_i r name args argTypes _
      split at h
      · rename_i t v hrv
        split at h
        · rename_i f hm
          unfold callS at h
          split at h
          · rename_i hcal
            have hd := hev r
            rw [hrv] at hd
            simp only [Den] at hd
            obtain ⟨u, hv, h1⟩ := hd
            have hcall := hc f _ st s st' env w _ h hcal hg hr (denL_cons.2 ⟨h1, denL_map hev args.toList⟩)
            have e1 : (#[u] ++ args.map vev : Array Value) = ⟨u :: args.toList.map vev⟩ := Array.ext' (by simp)
            have hex : (((#[vev r] ++ args.map vev : Array Value))).extract 1 ((#[vev r] ++ args.map vev : Array Value)).size = args.map vev := by
              apply Array.ext'
              simp [List.extract_eq_take_drop]
              exact List.take_of_length_le (by simp)
            have hget : (#[vev r] ++ args.map vev : Array Value)[0]? = some (vev r) := by simp [Array.getElem?_append]
            simp only [execOp, resolve, Sem.run_bind, Sem.run_pure, Result.andThen_ok, invoke, hget, hex]
            rw [hv]
            simp only [callMethod, Sem.run_bind, run_program, Result.andThen_ok]
            rw [show c.P.types.size + Made.depth = (c.P.types.size + Made.depth - 1) + 1 from by unfold Made.depth; omega]
            rw [method_ok hm]
            simp only [Result.andThen_ok, e1, run_callFunc hcal]
            exact ⟨rfl, hcall⟩
          · exact h.elim
        · exact h.elim
      · exact h.elim
    · exact h.elim
theorem opX_ok {c : Cfg} {call : CallT} (hc : CallOk c call) {env : Env} {st st' : St} {w : World} {sev : Operand → SVal} {vev : Operand → Value} {o : Oper} {s : SVal} (hg : GlOk c.gl env) (hr : Rep env st w) (hev : ∀ x, Den env (sev x) (vev x))
    (h : (opX c call sev o.op st).at (s, st')) : Leaves c.P env st s st' w ((execOp vev o).run c.P w) := by
  unfold opX at h
  split at h
  · rename_i x hb
    unfold bytesArg at hb
    split at hb
    · rename_i sT dT x' hop
      split at hb
      · rename_i e h1 h2
        split at hb
        · rename_i h3
          simp only [Option.some.injEq] at hb; subst hb
          have := leaves_made (bytesS_ok hr h1 h2 h3 (hev x') h)
          obtain ⟨dst, op, type, pos, after, guard⟩ := o
          simp only at hop
          subst hop
          simpa [execOp, Sem.run_bind] using this
        · simp at hb
      · simp at hb
    · simp at hb
  · exact opS_ok hc hg hr hev h
end Go.Proofs.YtmknmbacecjfmaaDoor.Sx

/- The executor: regions, code, calls. -/
namespace Go.Proofs.YtmknmbacecjfmaaDoor.Sx
set_option linter.unusedVariables false

/-! ## a region that draws its order -/
/-- which operations must have come before each -/
def masks : List Oper → List Nat → List Nat
  | [], acc => acc
  | o :: r, acc => masks r (acc ++ [o.after.toList.foldl (fun s e => match Region.binds .any e with | true => s ||| 2 ^ e.on ||| acc.getD e.on 0 | false => s) 0])
def isLoad : Op → Bool
  | .load _ _ => true
  | _ => false
/-- bytes that become a string are read as an effect is done: in the text's order -/
def strConv : Op → Bool
  | .convert _ 9 _ => true
  | _ => false
def isEff (o : Op) : Bool := strConv o || (!(isPure o) && !(isLoad o))
def opD (c : Cfg) (call : CallT) (ev : Operand → SVal) (o : Op) (st : St) : T (SVal × St) :=
  match isEff o with
  | true => opX c call ev o st
  | false => opS c call ev o st
def tmpsOf (ops : Array Oper) (o : Oper) : List Tmp :=
  o.dst.toList ++ ((o.op.operands.toList.filterMap fun | .tmp t => some t | _ => none) ++ (match o.guard with | some (g, _) => ((ops[g]?).bind (·.dst)).toList | none => []))
def bit (m : Nat) (j : Nat) : Bool := m.testBit j
/-- i is before j or j before i, as their numbers are -/
def comparable (ms : List Nat) (i j : Nat) : Bool :=
  match Nat.blt i j with
  | true => bit (ms.getD j 0) i
  | false => match Nat.blt j i with
    | true => bit (ms.getD i 0) j
    | false => true
def plainOp : Op → Bool
  | .select _ _ => false
  | _ => true
/-- the order may be drawn: what each operation names is written ahead of it, or behind it, in every order; so are effects -/
def staticOk (ops : Array Oper) : Bool :=
  let ms := masks ops.toList []
  let l := ops.toList.zipIdx
  l.all (fun p => plainOp p.1.op && p.1.after.toList.all (fun e => match Region.binds .any e with | true => Nat.blt e.on p.2 | false => true)) &&
  l.all (fun p => l.all fun q => match p.1.dst with
    | some t => match (tmpsOf ops q.1).contains t with
      | true => comparable ms p.2 q.2
      | false => true
    | none => true) &&
  l.all (fun p => match isEff p.1.op with
    | false => true
    | true => l.all fun q => match isEff q.1.op with
      | false => true
      | true => comparable ms p.2 q.2)

structure Rec where
  ts : List SVal
  st : St
  val : SVal
  ran : Bool
/-- the operations in the text's order; what each found and left -/
def recS (c : Cfg) (call : CallT) (ops : Array Oper) : List Oper → List SVal → St → T (List Rec × List SVal × St)
  | [], ts, st => .ret ([], ts, st)
  | o :: r, ts, st =>
    let go (ts : List SVal) : T (List Rec × List SVal × St) := (opD c call (evS c.gl ts) o.op st).bind fun p => (recS c call ops r (putS ts o.dst p.1) p.2).bind fun q => .ret (⟨ts, st, p.1, true⟩ :: q.1, q.2)
    let skip (ts : List SVal) : T (List Rec × List SVal × St) := (recS c call ops r (putS ts o.dst (.tup [])) st).bind fun q => .ret (⟨ts, st, .tup [], false⟩ :: q.1, q.2)
    match wantS ops o ts with
    | .yes => go ts
    | .no => skip ts
    | .ask p t => .br p (match guardIs o true with
        | true => go (ts.set t (.bl true))
        | false => skip (ts.set t (.bl true)))
      (match guardIs o false with
        | true => go (ts.set t (.bl false))
        | false => skip (ts.set t (.bl false)))
    | .lost => .no 107
def stAt (recs : List Rec) (fin : St) (m : Nat) : St :=
  match recs[m]? with
  | some r => r.st
  | none => fin
/-- may the load number i come up when the effects up to number m (the next one being 'm') have been? -/
def mayMeet (ms : List Nat) (i : Nat) (effs : List Nat) (m : Nat) : Bool :=
  effs.all fun e => (match bit (ms.getD i 0) e with | true => Nat.blt e m | false => true) && (match bit (ms.getD e 0) i with | true => Nat.ble m e | false => true)
def eqN : NN → NN → Bool
  | .c a, .c b => decide (a = b)
  | _, _ => false
mutual
/-- surely the same -/
def eqSV : SVal → SVal → Bool
  | .lit k n, .lit k' n' => decide (k = k') && decide (n = n')
  | .bl b, .bl b' => decide (b = b')
  | .sl l, .sl l' => decide (l = l')
  | .pnil, .pnil => true
  | .ptr i o, .ptr i' o' => decide (i = i') && decide (o = o')
  | .snil, .snil => true
  | .sli i o z n cp, .sli i' o' z' n' cp' => decide (i = i') && eqN o o' && decide (z = z') && eqN n n' && (match cp, cp' with | none, none => true | some a, some b => eqN a b | _, _ => false)
  | .inil, .inil => true
  | .ifc t v, .ifc t' v' => decide (t = t') && eqSV v v'
  | .fnil, .fnil => true
  | .agg l, .agg l' => eqSVL l l'
  | _, _ => false
def eqSVL : List SVal → List SVal → Bool
  | [], [] => true
  | a :: l, b :: l' => eqSV a b && eqSVL l l'
  | _, _ => false
end
def eqTS : T SVal → T SVal → Bool
  | .ret a, .ret b => eqSV a b
  | _, _ => false
theorem eqN_eq {a b : NN} (h : eqN a b = true) : a = b := by
  cases a <;> cases b <;> simp [eqN] at h
  rw [h]
mutual
theorem eqSV_eq : ∀ {a b : SVal}, eqSV a b = true → a = b
  | a, b, h => by
    cases a <;> cases b <;> simp only [eqSV, Bool.false_eq_true, Bool.and_eq_true, decide_eq_true_eq] at h
    case lit.lit => rw [h.1, h.2]
    case bl.bl => rw [h]
    case sl.sl => rw [h]
    case pnil.pnil => rfl
    case ptr.ptr => rw [h.1, h.2]
    case snil.snil => rfl
    case sli.sli i o z n cp i' o' z' n' cp' =>
      obtain ⟨⟨⟨⟨h1, h2⟩, h3⟩, h4⟩, h5⟩ := h
      rw [h1, eqN_eq h2, h3, eqN_eq h4]
      cases cp <;> cases cp' <;> simp at h5
      · rfl
      · rw [eqN_eq h5]
    case inil.inil => rfl
    case ifc.ifc => rw [h.1, eqSV_eq h.2]
    case fnil.fnil => rfl
    case agg.agg => rw [eqSVL_eq h]
theorem eqSVL_eq : ∀ {l l' : List SVal}, eqSVL l l' = true → l = l'
  | [], [], _ => rfl
  | [], _ :: _, h => by simp [eqSVL] at h
  | _ :: _, [], h => by simp [eqSVL] at h
  | a :: l, b :: l', h => by
    simp only [eqSVL, Bool.and_eq_true] at h
    rw [eqSV_eq h.1, eqSVL_eq h.2]
end
theorem eqTS_eq {a b : T SVal} (h : eqTS a b = true) : a = b := by
  cases a <;> cases b <;> simp [eqTS] at h
  rw [eqSV_eq h]
def meets (c : Cfg) (recs : List Rec) (fin : St) (ms : List Nat) (effs : List Nat) {α : Type 1} (k : T α) : List (Oper × Rec × Nat) → T α
  | [] => k
  | (o, r, i) :: rest => match o.op, r.ran with
    | .load t p, true => (0 :: effs.map (· + 1)).foldr (fun m k => match mayMeet ms i effs m with
      | true => match eqTS (loadS c.P (stAt recs fin m) t (evS c.gl r.ts p)) (loadS c.P r.st t (evS c.gl r.ts p)) with
        | true => k
        | false => .eq (loadS c.P (stAt recs fin m) t (evS c.gl r.ts p) = loadS c.P r.st t (evS c.gl r.ts p)) k
      | false => k) (meets c recs fin ms effs k rest)
    | _, _ => meets c recs fin ms effs k rest
def effsOf (ops : List Oper) : List Nat := (ops.zipIdx.filter fun p => isEff p.1.op).map (·.2)
def drawS (c : Cfg) (call : CallT) (ops : Array Oper) (ts : List SVal) (st : St) : T (List SVal × St) :=
  match staticOk ops, c.P.follows .mixedOrders with
  | true, true => (recS c call ops ops.toList ts st).bind fun q =>
      match effsOf ops.toList with
      | [] => .ret q.2
      | effs => meets c q.1 q.2.2 (masks ops.toList []) effs (.ret q.2) ((ops.toList.zip (q.1.zipIdx)))
  | _, _ => .no 108

/-! ## code -/
inductive Ex where
  | normal | exit (id : Nat) | ret
def Ex.to : Ex → Exit
  | .normal => .normal
  | .exit id => .exit id
  | .ret => .ret
abbrev Res := Ex × List SVal × St
def resultS (P : Program) (ts : List SVal) (st : St) : ResultVar → T SVal
  | .tmp t => .ret (ts.getD t .bad)
  | .cell a t => match ts.getD a .bad with
    | .ptr id o => loadS P st t (.ptr id o)
    | _ => .no 109
def resultsS (P : Program) (ts : List SVal) (st : St) : List ResultVar → T (List SVal)
  | [] => .ret []
  | r :: l => (resultS P ts st r).bind fun s => (resultsS P ts st l).bind fun ss => .ret (s :: ss)
def oneOr : List SVal → SVal
  | [s] => s
  | l => .tup l
/-- a call is walked into -/
def enterS (c : Cfg) (run : Code → List SVal → St → T Res) : CallT := fun f args st =>
  match c.sm f with
  | some g => g args st
  | none => match c.P.funcs[f]? with
    | some fn => match fn.body with
      | some b => (run b (args ++ List.replicate (fn.ntmps - args.length) .bad) st).bind fun r => match r.1 with
        | .exit _ => .no 110
        | _ => (resultsS c.P r.2.1 r.2.2 fn.results.toList).bind fun l => .ret (oneOr l, r.2.2)
      | none => .no 111
    | none => .no 112
def exec (c : Cfg) : Nat → Code → List SVal → St → T Res
  | 0, _, _, _ => .no 113
  | n + 1, code, ts, st =>
    match code with
    | .skip | .label _ => .ret (.normal, ts, st)
    | .ret => .ret (.ret, ts, st)
    | .exit id => .ret (.exit id, ts, st)
    | .seq a b => (exec c n a ts st).bind fun r => match r.1 with
      | .normal => exec c n b r.2.1 r.2.2
      | _ => .ret r
    | .cond x a b => match evS c.gl ts x with
      | .bl true => exec c n a ts st
      | .bl false => exec c n b ts st
      | .sb p => .br p (exec c n a ts st) (exec c n b ts st)
      | _ => .no 114
    | .block id b => (exec c n b ts st).bind fun r => match r.1 with
      | .exit id' => match Nat.decEq id' id with
        | .isTrue _ => .ret (.normal, r.2)
        | .isFalse _ => .ret r
      | _ => .ret r
    | .loop b => (exec c n b ts st).bind fun r => match r.1 with
      | .normal => exec c n (.loop b) r.2.1 r.2.2
      | _ => .ret r
    | .scope b => exec c n b ts st
    | .region _ ops draw => match draw with
      | false => (listS c (enterS c (exec c n)) ops ops.toList ts st).bind fun p => .ret (.normal, p)
      | true => (drawS c (enterS c (exec c n)) ops ts st).bind fun p => .ret (.normal, p)
    | _ => .no 115
/-- a function's call -/
def callF (c : Cfg) (n : Nat) : CallT := enterS c (exec c n)

/-! ## it is right -/
def SmOk (c : Cfg) : Prop := ∀ f g, c.sm f = some g → ∀ (args : List SVal) (st : St) (s : SVal) (st' : St) (env : Env) (w : World) (vs : List Value), (g args st).at (s, st') → GlOk c.gl env → Rep env st w → DenL env args vs →
    Calls c.P f ⟨vs⟩ w fun e w' => ∃ env' v, e = .returned v ∧ Ext env st w env' st' w' ∧ Rep env' st' w' ∧ Den env' s v

/-- what a piece of code may be relied on for -/
def After (env : Env) (st : St) (w : World) (a : Act) (ts' : List SVal) (st' : St) (K : Act → World → Prop) : Prop :=
  ∀ env' a' w', Ext env st w env' st' w' → Rep env' st' w' → DenT env' ts' a'.tmps → a'.defers = a.defers → K a' w'
theorem After.step {env env' : Env} {st st' st'' : St} {w w' : World} {a a' : Act} {ts'' : List SVal} {K : Act → World → Prop} (h : After env st w a ts'' st'' K) (hx : Ext env st w env' st' w') (hd : a'.defers = a.defers) :
    After env' st' w' a' ts'' st'' K := fun env2 a2 w2 hx2 hr2 ht2 hd2 => h env2 a2 w2 (hx.trans hx2) hr2 ht2 (by rw [hd2, hd])

theorem upon_leaves {P : Program} {env : Env} {st st' : St} {w : World} {a : Act} {o : Oper} {s : SVal} {ts : List SVal} {K : Act → World → Prop} {Q : Exit → Act → World → Prop} {r : Result Next} (hl : Leaves P env st s st' w r)
    (ht : DenT env ts a.tmps) (hk : After env st w a (putS ts o.dst s) st' K) : o.upon P a K Q r := by
  have put : ∀ {env' : Env} {w' : World} {v : Value}, Ext env st w env' st' w' → Rep env' st' w' → Den env' s v → K (a.put o.dst v) w' := by
    intro env' w' v hx hr hd
    refine hk env' _ w' hx hr (putS_ok (ht.ext hx) hd) ?_
    cases o.dst <;> rfl
  cases r with
  | halt x w' => simp only [Leaves] at hl
  | ok n w' =>
    cases n <;> simp only [Leaves] at hl
    case value v =>
      obtain ⟨env', hx, hr, hd⟩ := hl
      exact put hx hr hd
    case skip =>
      obtain ⟨env', hx, hr, hd⟩ := hl
      exact put hx hr hd
    case enter f args =>
      obtain ⟨rfl, hc⟩ := hl
      simp only [Oper.upon]
      refine hc.mono ?_
      rintro e w'' ⟨env', v, rfl, hx, hr, hd⟩
      exact put hx hr hd

theorem doS_ok {c : Cfg} {call : CallT} (hc : CallOk c call) {env : Env} {st st' : St} {w : World} {a : Act} {o : Oper} {ts ts' : List SVal} (hg : GlOk c.gl env) (hr : Rep env st w) (ht : DenT env ts a.tmps)
    (h : (doS c call o ts st).at (ts', st')) {K : Act → World → Prop} {Q : Exit → Act → World → Prop} (hk : After env st w a ts' st' K) : o.wp c.P a w K Q := by
  unfold doS at h
  rw [T.at_bind] at h
  obtain ⟨⟨s, st1⟩, h1, h2⟩ := h
  simp only [T.at, Prod.mk.injEq] at h2
  obtain ⟨rfl, rfl⟩ := h2
  exact upon_leaves (opX_ok hc hg hr (evS_ok hg ht) h1) ht hk

theorem denT_set {env : Env} {ts : List SVal} {tmps : Array Value} {t : Nat} {s : SVal} (ht : DenT env ts tmps) (hs : ∀ v, Den env (ts.getD t .bad) v → Den env s v) : DenT env (ts.set t s) tmps := by
  obtain ⟨vs, rfl, hd⟩ := ht
  refine ⟨vs, rfl, ?_⟩
  have h1 := denL_set t hd (hs _ (denL_getD hd t))
  have h2 : vs.set t (vs.getD t undef) = vs := by
    apply List.ext_getElem?
    intro i
    rw [List.getElem?_set]
    split
    · rename_i h
      subst h
      split
      · rename_i h; simp [h]
      · rename_i h; rw [List.getElem?_eq_none (by omega)]
    · rfl
  rwa [h2] at h1

theorem yielded_of {env : Env} {ops : Array Oper} {ts : List SVal} {a : Act} {j : Nat} {g : Oper} {t : Tmp} {b : Bool} (ht : DenT env ts a.tmps) (hj : ops[j]? = some g) (hg : g.dst = some t) (hb : ∀ v, Den env (ts.getD t .bad) v → v = .bool b) (hne : ts.getD t .bad ≠ .bad) :
    yielded ops a.tmps j = some b := by
  obtain ⟨vs, hv, hd⟩ := ht
  have hlt : t < ts.length := by
    rcases Nat.lt_or_ge t ts.length with h | h
    · exact h
    · exact (hne (by simp [List.getD_eq_getElem?_getD, List.getElem?_eq_none h])).elim
  obtain ⟨v, h1, h2⟩ := denL_get t hd hlt
  have := hb v h2
  subst this
  simp [yielded, hj, hg, hv, h1]

theorem den_undef (env : Env) : Den env (.tup []) undef := by simp only [Den]; exact ⟨[], rfl, by simp [DenL]⟩
theorem wantS_ok {env : Env} {ops : Array Oper} {o : Oper} {ts : List SVal} {a : Act} (ht : DenT env ts a.tmps) :
    (wantS ops o ts = .yes → Region.wanted o (yielded ops a.tmps) = true) ∧ (wantS ops o ts = .no → Region.wanted o (yielded ops a.tmps) = false) ∧
    (∀ p t, wantS ops o ts = .ask p t → Region.wanted o (yielded ops a.tmps) = guardIs o p ∧ ts.getD t .bad = .sb p) := by
  unfold wantS Region.wanted guardIs
  cases hg : o.guard with
  | none => simp
  | some jw =>
    obtain ⟨j, want⟩ := jw
    simp only
    cases hj : ops[j]? with
    | none => simp
    | some g =>
      simp only
      cases hd : g.dst with
      | none => simp
      | some t =>
        simp only
        cases hs : ts.getD t .bad with
        | bl b =>
          have := yielded_of ht hj hd (b := b) (by rw [hs]; intro v hv; simpa only [Den] using hv) (by rw [hs]; simp)
          cases b <;> cases want <;> simp [this]
        | sb p =>
          have := yielded_of ht hj hd (b := p) (by rw [hs]; intro v hv; simpa only [Den] using hv) (by rw [hs]; simp)
          refine ⟨by simp, by simp, ?_⟩
          intro p' t' h
          simp only [Want.ask.injEq] at h
          obtain ⟨rfl, rfl⟩ := h
          refine ⟨?_, hs⟩
          rw [this]
          cases p <;> cases want <;> rfl
        | tup l =>
          have hy : yielded ops a.tmps j = none := by
            obtain ⟨vs, hv, hd'⟩ := ht
            have hlt : t < ts.length := by
              rcases Nat.lt_or_ge t ts.length with h | h
              · exact h
              · simp [List.getD_eq_getElem?_getD, List.getElem?_eq_none h] at hs
            obtain ⟨v, h1, h2⟩ := denL_get t hd' hlt
            rw [hs] at h2
            simp only [Den] at h2
            obtain ⟨us, rfl, _⟩ := h2
            simp [yielded, hj, hd, hv, h1]
          simp [hy]
        | _ => simp

theorem stepS_ok {c : Cfg} {call : CallT} (hc : CallOk c call) {env : Env} {st st' : St} {w : World} {a : Act} {ops : Array Oper} {o : Oper} {rest : List Oper} {ts ts' : List SVal} (hg : GlOk c.gl env) (hr : Rep env st w) (ht : DenT env ts a.tmps)
    (h : (stepS c call ops o ts st).at (ts', st')) {Q : Exit → Act → World → Prop} (hk : After env st w a ts' st' (wpList c.P ops Q rest)) : wpList c.P ops Q (o :: rest) a w := by
  obtain ⟨w1, w2, w3⟩ := wantS_ok (ops := ops) (o := o) ht
  have yes : ∀ {ts1 : List SVal}, Region.wanted o (yielded ops a.tmps) = true → DenT env ts1 a.tmps → (doS c call o ts1 st).at (ts', st') → wpList c.P ops Q (o :: rest) a w := by
    intro ts1 hw ht1 h
    unfold wpList
    rw [if_pos hw]
    exact .inl (doS_ok hc hg hr ht1 h hk)
  have no : ∀ {ts1 : List SVal}, Region.wanted o (yielded ops a.tmps) = false → DenT env ts1 a.tmps → (T.ret (putS ts1 o.dst (.tup []), st)).at (ts', st') → wpList c.P ops Q (o :: rest) a w := by
    intro ts1 hw ht1 h
    simp only [T.at, Prod.mk.injEq] at h
    obtain ⟨rfl, rfl⟩ := h
    unfold wpList
    rw [if_neg (by rw [hw]; simp)]
    refine hk env _ w (Ext.refl _ _ _) hr (putS_ok ht1 (den_undef _)) ?_
    cases o.dst <;> rfl
  unfold stepS at h
  split at h
  · rename_i hw; exact yes (w1 hw) ht h
  · rename_i hw; exact no (w2 hw) ht h
  · rename_i p t hw
    obtain ⟨hw1, hs⟩ := w3 p t hw
    simp only [T.at] at h
    have set : DenT env (ts.set t (.bl p)) a.tmps := denT_set ht (by rw [hs]; intro v hv; simpa only [Den] using hv)
    rcases h with ⟨rfl, h⟩ | ⟨rfl, h⟩
    · split at h
      · rename_i hgi; exact yes (by rw [hw1, hgi]) set h
      · rename_i hgi; exact no (by rw [hw1, hgi]) set h
    · split at h
      · rename_i hgi; exact yes (by rw [hw1, hgi]) set h
      · rename_i hgi; exact no (by rw [hw1, hgi]) set h
  · exact h.elim

theorem listS_ok {c : Cfg} {call : CallT} (hc : CallOk c call) {ops : Array Oper} {Q : Exit → Act → World → Prop} : ∀ {l : List Oper} {env : Env} {st st' : St} {w : World} {a : Act} {ts ts' : List SVal}, GlOk c.gl env → Rep env st w → DenT env ts a.tmps →
    (listS c call ops l ts st).at (ts', st') → After env st w a ts' st' (Q .normal) → wpList c.P ops Q l a w
  | [], env, st, st', w, a, ts, ts', hg, hr, ht, h, hk => by
    simp only [listS, T.at, Prod.mk.injEq] at h
    obtain ⟨rfl, rfl⟩ := h
    exact hk env a w (Ext.refl _ _ _) hr ht rfl
  | o :: l, env, st, st', w, a, ts, ts', hg, hr, ht, h, hk => by
    simp only [listS] at h
    rw [T.at_bind] at h
    obtain ⟨⟨ts1, st1⟩, h1, h2⟩ := h
    refine stepS_ok hc hg hr ht h1 ?_
    intro env1 a1 w1 hx1 hr1 ht1 hd1
    exact listS_ok hc (hg.ext hx1) hr1 ht1 h2 (hk.step hx1 hd1)
end Go.Proofs.YtmknmbacecjfmaaDoor.Sx

/- A region that draws its order: every order comes to what the text's order comes to. -/
namespace Go.Proofs.YtmknmbacecjfmaaDoor.Sx
set_option linter.unusedVariables false

theorem upon_of {P : Program} {env : Env} {st st' : St} {w : World} {a : Act} {o : Oper} {s : SVal} {K : Act → World → Prop} {Q : Exit → Act → World → Prop} {r : Result Next} (hl : Leaves P env st s st' w r)
    (hk : ∀ env' w' v, Ext env st w env' st' w' → Rep env' st' w' → Den env' s v → K (a.put o.dst v) w') : o.upon P a K Q r := by
  cases r with
  | halt x w' => simp only [Leaves] at hl
  | ok n w' =>
    cases n <;> simp only [Leaves] at hl
    case value v =>
      obtain ⟨env', hx, hr, hd⟩ := hl
      exact hk _ _ _ hx hr hd
    case skip =>
      obtain ⟨env', hx, hr, hd⟩ := hl
      exact hk _ _ _ hx hr hd
    case enter f args =>
      obtain ⟨rfl, hc⟩ := hl
      simp only [Oper.upon]
      refine hc.mono ?_
      rintro e w'' ⟨env', v, rfl, hx, hr, hd⟩
      exact hk _ _ _ hx hr hd

/-! ## only the operands matter -/
theorem map_op {ev ev' : Operand → SVal} {l : List Operand} (h : ∀ x ∈ l, ev x = ev' x) : l.map ev = l.map ev' := List.map_congr_left h
theorem opS_congr {c : Cfg} {call : CallT} {ev ev' : Operand → SVal} {o : Op} (h : ∀ x ∈ o.operands, ev x = ev' x) (st : St) : opS c call ev o st = opS c call ev' o st := by
  have pairs : ∀ ps : Array (Nat × Operand), (∀ x ∈ (ps.toList.map (·.2)).toArray, ev x = ev' x) → (ps.toList.map fun p => (p.1, ev p.2)) = (ps.toList.map fun p => (p.1, ev' p.2)) := fun ps hp =>
    List.map_congr_left fun p hm => by rw [hp p.2 (by simp; exact ⟨p.1, by simpa using hm⟩)]
  cases o
  case call cl =>
    obtain ⟨callee, args, argTypes⟩ := cl
    cases callee with
    | value f =>
      have hf : ev f = ev' f := h f (by simp [Op.operands, Call.operands])
      have ha : args.toList.map ev = args.toList.map ev' := map_op fun x hx => h x (by simp [Op.operands, Call.operands]; exact .inr (by simpa using hx))
      simp only [opS, isPure, hf, ha]
    | invoke r m =>
      have hf : ev r = ev' r := h r (by simp [Op.operands, Call.operands])
      have ha : args.toList.map ev = args.toList.map ev' := map_op fun x hx => h x (by simp [Op.operands, Call.operands]; exact .inr (by simpa using hx))
      simp only [opS, isPure, hf, ha]
    | builtin b =>
      have hx : ∀ x ∈ args.toList, ev x = ev' x := fun x hx => h x (by simpa [Op.operands, Call.operands] using hx)
      have ha : args.toList.map ev = args.toList.map ev' := map_op hx
      cases b <;> simp only [opS, isPure, pureS, ha]
      case append =>
        split
        · rename_i d s hd
          rw [hd] at hx
          rw [hx d (by simp), hx s (by simp)]
        · rfl
      case copy =>
        split
        · rename_i d s hd
          rw [hd] at hx
          rw [hx d (by simp), hx s (by simp)]
        · rfl
      case len =>
        split
        · rename_i x t ts hd _
          rw [hd] at hx
          rw [hx x (by simp)]
        · rfl
  case build t ps => simp only [opS, isPure, pureS, pairs ps h]
  case buildSlice t n ps => simp only [opS, isPure, pairs ps h]
  case makeFunc fn first captured =>
    have h1 : first.toList.map ev = first.toList.map ev' := map_op fun x hx => h x (by simp [Op.operands]; exact .inl (by simpa using hx))
    have h2 : captured.toList.map ev = captured.toList.map ev' := map_op fun x hx => h x (by simp [Op.operands]; exact .inr (by simpa using hx))
    simp only [opS, isPure, pureS, h1, h2]
  case slice t x lo hi mx =>
    have hx : ev x = ev' x := h x (by simp [Op.operands])
    have h1 : lo.map ev = lo.map ev' := by cases lo with | none => rfl | some y => simp [h y (by simp [Op.operands])]
    have h2 : hi.map ev = hi.map ev' := by cases hi with | none => rfl | some y => simp [h y (by simp [Op.operands])]
    have h3 : mx.map ev = mx.map ev' := by cases mx with | none => rfl | some y => simp [h y (by simp [Op.operands])]
    simp only [opS, isPure, pureS, hx, h1, h2, h3]
  all_goals (simp only [Op.operands] at h; first | rfl | (simp only [opS, isPure, pureS]; simp_all; done) | (simp only [opS, isPure]; simp_all; done))

theorem opX_congr {c : Cfg} {call : CallT} {ev ev' : Operand → SVal} {o : Op} (h : ∀ x ∈ o.operands, ev x = ev' x) (st : St) : opX c call ev o st = opX c call ev' o st := by
  unfold opX
  cases hb : bytesArg c.P o with
  | none => exact opS_congr h st
  | some x =>
    have hx : x ∈ o.operands := by
      unfold bytesArg at hb
      split at hb
      · split at hb
        · split at hb
          · simp only [Option.some.injEq] at hb; subst hb
            simp [Op.operands]
          · cases hb
        · cases hb
      · cases hb
    simp only [h x hx]
theorem opD_congr {c : Cfg} {call : CallT} {ev ev' : Operand → SVal} {o : Op} (h : ∀ x ∈ o.operands, ev x = ev' x) (st : St) : opD c call ev o st = opD c call ev' o st := by
  unfold opD
  cases isEff o with
  | true => exact opX_congr h st
  | false => exact opS_congr h st
/-! ## the run in the text's order -/
/-- what is known of a value is known of the other -/
def Sim (ts ts' : List SVal) : Prop := ts.length = ts'.length ∧ ∀ (t : Nat) (env : Env) (v : Value), Den env (ts.getD t .bad) v → Den env (ts'.getD t .bad) v
theorem Sim.refl (ts : List SVal) : Sim ts ts := ⟨rfl, fun _ _ _ h => h⟩
theorem Sim.set {ts : List SVal} {t : Nat} {p : Bool} (h : ts.getD t .bad = .sb p) : Sim ts (ts.set t (.bl p)) := by
  refine ⟨by simp, fun u env v hd => ?_⟩
  by_cases hu : t = u
  · subst hu
    rw [h] at hd
    by_cases hl : t < ts.length
    · simpa [List.getD_eq_getElem?_getD, List.getElem?_set_self hl, Den] using hd
    · simp [List.getD_eq_getElem?_getD, List.getElem?_eq_none (Nat.le_of_not_lt hl)] at h
  · simpa [List.getD_eq_getElem?_getD, List.getElem?_set_ne hu] using hd

inductive Lex (c : Cfg) (call : CallT) (ops : Array Oper) : List Oper → List SVal → St → List Rec → List SVal → St → Prop where
  | nil {ts : List SVal} {st : St} : Lex c call ops [] ts st [] ts st
  | cons {o : Oper} {l : List Oper} {ts : List SVal} {st st1 : St} {r : Rec} {recs : List Rec} {tsf : List SVal} {stf : St} (hs : Sim ts r.ts) (hst : r.st = st)
      (hw : (r.ran = true ∧ wantS ops o r.ts = .yes ∧ (opD c call (evS c.gl r.ts) o.op st).at (r.val, st1)) ∨ (r.ran = false ∧ wantS ops o r.ts = .no ∧ r.val = .tup [] ∧ st1 = st))
      (hl : Lex c call ops l (putS r.ts o.dst r.val) st1 recs tsf stf) : Lex c call ops (o :: l) ts st (r :: recs) tsf stf

theorem wantS_set {ops : Array Oper} {o : Oper} {ts : List SVal} {p : Bool} {t : Nat} (h : wantS ops o ts = .ask p t) (b : Bool) : ts.getD t .bad = .sb p ∧ wantS ops o (ts.set t (.bl b)) = (match guardIs o b with | true => .yes | false => .no) := by
  unfold wantS at h ⊢
  unfold guardIs
  cases hg : o.guard with
  | none => simp [hg] at h
  | some jw =>
    obtain ⟨j, want⟩ := jw
    simp only [hg] at h
    cases hj : ops[j]? with
    | none => simp [hj] at h
    | some g =>
      simp only [hj] at h ⊢
      cases hd : g.dst with
      | none => simp [hd] at h
      | some u =>
        simp only [hd] at h ⊢
        cases hs : ts.getD u .bad with
        | sb q =>
          simp only [hs, Want.ask.injEq] at h
          obtain ⟨rfl, rfl⟩ := h
          have hl : u < ts.length := by
            rcases Nat.lt_or_ge u ts.length with h | h
            · exact h
            · simp [List.getD_eq_getElem?_getD, List.getElem?_eq_none h] at hs
          have : (ts.set u (.bl b)).getD u .bad = .bl b := by simp [List.getD_eq_getElem?_getD, List.getElem?_set_self hl]
          refine ⟨hs, ?_⟩
          rw [this]
          cases b <;> cases want <;> rfl
        | bl q => simp only [hs] at h; cases q <;> cases want <;> simp at h
        | _ => simp only [hs, reduceCtorEq] at h

theorem recS_lex {c : Cfg} {call : CallT} {ops : Array Oper} : ∀ {l : List Oper} {ts : List SVal} {st : St} {q : List Rec × List SVal × St}, (recS c call ops l ts st).at q → Lex c call ops l ts st q.1 q.2.1 q.2.2
  | [], ts, st, q, h => by simp only [recS, T.at] at h; subst h; exact .nil
  | o :: l, ts, st, q, h => by
    have go : ∀ {ts1 : List SVal}, Sim ts ts1 → wantS ops o ts1 = .yes → ((opD c call (evS c.gl ts1) o.op st).bind fun p => (recS c call ops l (putS ts1 o.dst p.1) p.2).bind fun q => .ret (⟨ts1, st, p.1, true⟩ :: q.1, q.2)).at q → Lex c call ops (o :: l) ts st q.1 q.2.1 q.2.2 := by
      intro ts1 hs hw h
      rw [T.at_bind] at h
      obtain ⟨⟨s, st1⟩, h1, h2⟩ := h
      rw [T.at_bind] at h2
      obtain ⟨q', h3, h4⟩ := h2
      simp only [T.at] at h4; subst h4
      exact .cons (r := ⟨ts1, st, s, true⟩) hs rfl (.inl ⟨rfl, hw, h1⟩) (recS_lex h3)
    have skip : ∀ {ts1 : List SVal}, Sim ts ts1 → wantS ops o ts1 = .no → ((recS c call ops l (putS ts1 o.dst (.tup [])) st).bind fun q => .ret (⟨ts1, st, .tup [], false⟩ :: q.1, q.2)).at q → Lex c call ops (o :: l) ts st q.1 q.2.1 q.2.2 := by
      intro ts1 hs hw h
      rw [T.at_bind] at h
      obtain ⟨q', h3, h4⟩ := h
      simp only [T.at] at h4; subst h4
      exact .cons (r := ⟨ts1, st, .tup [], false⟩) hs rfl (.inr ⟨rfl, hw, rfl, rfl⟩) (recS_lex h3)
    simp only [recS] at h
    split at h
    · rename_i hw; exact go (Sim.refl _) hw h
    · rename_i hw; exact skip (Sim.refl _) hw h
    · rename_i p t hw
      simp only [T.at] at h
      rcases h with ⟨rfl, h⟩ | ⟨rfl, h⟩
      · obtain ⟨hs, hw'⟩ := wantS_set hw true
        split at h
        · rename_i hgi; rw [hgi] at hw'; exact go (Sim.set hs) hw' h
        · rename_i hgi; rw [hgi] at hw'; exact skip (Sim.set hs) hw' h
      · obtain ⟨hs, hw'⟩ := wantS_set hw false
        split at h
        · rename_i hgi; rw [hgi] at hw'; exact go (Sim.set hs) hw' h
        · rename_i hgi; rw [hgi] at hw'; exact skip (Sim.set hs) hw' h
    · exact h.elim

/-- an operation that is no effect leaves the state as it was -/
theorem eff_no {o : Op} (he : isEff o = false) : (!(isPure o) && !(isLoad o)) = false := by
  unfold isEff at he
  simp only [Bool.or_eq_false_iff] at he
  exact he.2
theorem opD_no {c : Cfg} {call : CallT} {ev : Operand → SVal} {o : Op} {st : St} (he : isEff o = false) : opD c call ev o st = opS c call ev o st := by
  unfold opD; rw [he]
theorem opD_ok {c : Cfg} {call : CallT} (hc : CallOk c call) {env : Env} {st st' : St} {w : World} {sev : Operand → SVal} {vev : Operand → Value} {o : Oper} {s : SVal} (hg : GlOk c.gl env) (hr : Rep env st w) (hev : ∀ x, Den env (sev x) (vev x))
    (h : (opD c call sev o.op st).at (s, st')) : Leaves c.P env st s st' w ((execOp vev o).run c.P w) := by
  unfold opD at h
  cases he : isEff o.op with
  | true => rw [he] at h; exact opX_ok hc hg hr hev h
  | false => rw [he] at h; exact opS_ok hc hg hr hev h
theorem opS_calm {c : Cfg} {call : CallT} {ev : Operand → SVal} {o : Op} {st st' : St} {s : SVal} (he0 : isEff o = false) (h0 : (opD c call ev o st).at (s, st')) : st' = st := by
  have he := eff_no he0
  have h := h0
  rw [opD_no he0] at h
  unfold opS at h
  cases hp : isPure o with
  | true =>
    rw [hp] at h
    simp only [T.at_bind] at h
    obtain ⟨x, _, h2⟩ := h
    simp only [T.at, Prod.mk.injEq] at h2
    exact h2.2.symm
  | false =>
    rw [hp] at h he
    simp only [Bool.not_false, Bool.true_and, Bool.not_eq_false'] at he
    cases o <;> simp only [isLoad, Bool.false_eq_true] at he
    simp only [T.at_bind] at h
    obtain ⟨x, _, h2⟩ := h
    simp only [T.at, Prod.mk.injEq] at h2
    exact h2.2.symm

/-! ## the same, by number -/
section
variable (ops : Array Oper) (recs : List Rec) (ts0 : List SVal) (tsf : List SVal) (stf : St)
def opN (k : Nat) : Oper := ops.toList.getD k default
def recN (k : Nat) : Rec := recs.getD k ⟨tsf, stf, .bad, false⟩
/-- what a slot holds once the chosen ones of the first k have been -/
def ov (sel : Nat → Bool) (t : Nat) : Nat → SVal
  | 0 => ts0.getD t .bad
  | k + 1 => if sel k = true ∧ (opN ops k).dst = some t then (recN recs tsf stf k).val else ov sel t k
/-- behind which effect -/
def hx (sel : Nat → Bool) : Nat → Nat
  | 0 => 0
  | k + 1 => if sel k = true ∧ isEff (opN ops k).op = true then k + 1 else hx sel k
end

theorem ov_congr {ops : Array Oper} {recs : List Rec} {ts0 tsf : List SVal} {stf : St} {sel sel' : Nat → Bool} {t : Nat} : ∀ {k : Nat}, (∀ j, j < k → (opN ops j).dst = some t → sel j = sel' j) → ov ops recs ts0 tsf stf sel t k = ov ops recs ts0 tsf stf sel' t k
  | 0, _ => rfl
  | k + 1, h => by
    simp only [ov]
    rw [ov_congr (k := k) fun j hj => h j (by omega)]
    by_cases hd : (opN ops k).dst = some t
    · rw [h k (by omega) hd]
    · simp [hd]
theorem ov_none {ops : Array Oper} {recs : List Rec} {ts0 tsf : List SVal} {stf : St} {sel : Nat → Bool} {t i : Nat} : ∀ {k : Nat}, i ≤ k → (∀ j, i ≤ j → j < k → (opN ops j).dst = some t → sel j = false) → ov ops recs ts0 tsf stf sel t k = ov ops recs ts0 tsf stf sel t i
  | 0, hi, _ => by have : i = 0 := by omega
                   subst this; rfl
  | k + 1, hi, h => by
    by_cases hk : i = k + 1
    · subst hk; rfl
    · simp only [ov]
      rw [if_neg]
      · exact ov_none (by omega) fun j h1 h2 => h j h1 (by omega)
      · rintro ⟨h1, h2⟩; rw [h k (by omega) (by omega) h2] at h1; cases h1
theorem hx_congr {ops : Array Oper} {sel sel' : Nat → Bool} : ∀ {k : Nat}, (∀ j, j < k → isEff (opN ops j).op = true → sel j = sel' j) → hx ops sel k = hx ops sel' k
  | 0, _ => rfl
  | k + 1, h => by
    simp only [hx]
    rw [hx_congr (k := k) fun j hj => h j (by omega)]
    by_cases hd : isEff (opN ops k).op = true
    · rw [h k (by omega) hd]
    · simp [hd]
theorem hx_none {ops : Array Oper} {sel : Nat → Bool} {i : Nat} : ∀ {k : Nat}, i ≤ k → (∀ j, i ≤ j → j < k → isEff (opN ops j).op = true → sel j = false) → hx ops sel k = hx ops sel i
  | 0, hi, _ => by have : i = 0 := by omega
                   subst this; rfl
  | k + 1, hi, h => by
    by_cases hk : i = k + 1
    · subst hk; rfl
    · simp only [hx]
      rw [if_neg]
      · exact hx_none (by omega) fun j h1 h2 => h j h1 (by omega)
      · rintro ⟨h1, h2⟩; rw [h k (by omega) (by omega) h2] at h1; cases h1
theorem hx_is {ops : Array Oper} {sel : Nat → Bool} : ∀ (k : Nat), hx ops sel k = 0 ∨ ∃ e, e < k ∧ hx ops sel k = e + 1 ∧ sel e = true ∧ isEff (opN ops e).op = true
  | 0 => .inl rfl
  | k + 1 => by
    simp only [hx]
    split
    · rename_i h; exact .inr ⟨k, by omega, rfl, h.1, h.2⟩
    · rcases hx_is k with h | ⟨e, h1, h2, h3⟩
      · exact .inl h
      · exact .inr ⟨e, by omega, h2, h3⟩
theorem hx_ge {ops : Array Oper} {sel : Nat → Bool} {e : Nat} (h1 : sel e = true) (h2 : isEff (opN ops e).op = true) : ∀ {k : Nat}, e < k → e + 1 ≤ hx ops sel k
  | 0, h => by omega
  | k + 1, h => by
    simp only [hx]
    split
    · omega
    · rename_i hn
      by_cases hk : e = k
      · subst hk; exact (hn ⟨h1, h2⟩).elim
      · exact hx_ge h1 h2 (by omega)

/-- what the run in the text's order says, operation by operation -/
structure LexN (c : Cfg) (call : CallT) (ops : Array Oper) (recs : List Rec) (ts0 tsf : List SVal) (st0 stf : St) : Prop where
  size : recs.length = ops.size
  first : (recN recs tsf stf 0).st = st0
  step : ∀ k, k < ops.size → ((recN recs tsf stf k).ran = true ∧ wantS ops (opN ops k) (recN recs tsf stf k).ts = .yes ∧
      (opD c call (evS c.gl (recN recs tsf stf k).ts) (opN ops k).op (recN recs tsf stf k).st).at ((recN recs tsf stf k).val, (recN recs tsf stf (k + 1)).st)) ∨
    ((recN recs tsf stf k).ran = false ∧ wantS ops (opN ops k) (recN recs tsf stf k).ts = .no ∧ (recN recs tsf stf k).val = .tup [] ∧ (recN recs tsf stf (k + 1)).st = (recN recs tsf stf k).st)
  len : ∀ k, k ≤ ops.size → (recN recs tsf stf k).ts.length = ts0.length
  slot : ∀ k, k ≤ ops.size → ∀ t, t < ts0.length → ∀ env v, Den env (ov ops recs ts0 tsf stf (fun _ => true) t k) v → Den env ((recN recs tsf stf k).ts.getD t .bad) v

theorem putS_getD {ts : List SVal} {d : Option Tmp} {s : SVal} {t : Nat} (ht : t < ts.length) : (putS ts d s).getD t .bad = if d = some t then s else ts.getD t .bad := by
  cases d with
  | none => simp [putS]
  | some u =>
    by_cases h : u = t
    · subst h; simp [putS, List.getD_eq_getElem?_getD, List.getElem?_set_self ht]
    · simp [putS, List.getD_eq_getElem?_getD, List.getElem?_set_ne h, h]
theorem putS_length {ts : List SVal} {d : Option Tmp} {s : SVal} : (putS ts d s).length = ts.length := by cases d <;> simp [putS]

/-- from the middle of the run on -/
theorem lexN_from {c : Cfg} {call : CallT} {ops : Array Oper} {R : List Rec} {ts0 tsf : List SVal} {stf : St} : ∀ {l : List Oper} {ts : List SVal} {st : St} {recs : List Rec} {k : Nat}, Lex c call ops l ts st recs tsf stf → ops.toList.drop k = l → R.drop k = recs → R.length = ops.size → k ≤ ops.size →
    ts.length = ts0.length → (∀ t, t < ts0.length → ∀ env v, Den env (ov ops R ts0 tsf stf (fun _ => true) t k) v → Den env (ts.getD t .bad) v) →
    (recN R tsf stf k).st = st ∧ (recN R tsf stf k).ts.length = ts0.length ∧ (∀ t, t < ts0.length → ∀ env v, Den env (ov ops R ts0 tsf stf (fun _ => true) t k) v → Den env ((recN R tsf stf k).ts.getD t .bad) v) ∧
    ∀ j, k ≤ j → j < ops.size → (((recN R tsf stf j).ran = true ∧ wantS ops (opN ops j) (recN R tsf stf j).ts = .yes ∧
      (opD c call (evS c.gl (recN R tsf stf j).ts) (opN ops j).op (recN R tsf stf j).st).at ((recN R tsf stf j).val, (recN R tsf stf (j + 1)).st)) ∨
    ((recN R tsf stf j).ran = false ∧ wantS ops (opN ops j) (recN R tsf stf j).ts = .no ∧ (recN R tsf stf j).val = .tup [] ∧ (recN R tsf stf (j + 1)).st = (recN R tsf stf j).st)) ∧
     (recN R tsf stf (j + 1)).ts.length = ts0.length ∧ (∀ t, t < ts0.length → ∀ env v, Den env (ov ops R ts0 tsf stf (fun _ => true) t (j + 1)) v → Den env ((recN R tsf stf (j + 1)).ts.getD t .bad) v)
  | [], ts, st, recs, k, h, hl, hr, hn, hk, hlen, hslot => by
    cases h
    have hkl : ops.size ≤ k := by
      have := List.drop_eq_nil_iff.1 hl
      simpa using this
    have hnone : R[k]? = none := List.getElem?_eq_none (by omega)
    have e : recN R tsf stf k = ⟨tsf, stf, .bad, false⟩ := by simp [recN, List.getD_eq_getElem?_getD, hnone]
    rw [e]
    exact ⟨rfl, hlen, hslot, fun j h1 h2 => by omega⟩
  | o :: l, ts, st, recs, k, h, hl, hr, hn, hk, hlen, hslot => by
    cases h with
    | @cons _ _ _ _ st1 r recs' _ _ hs hst hw hlex =>
      have hk2 : k < ops.size := by
        rcases Nat.lt_or_ge k ops.size with h | h
        · exact h
        · rw [List.drop_eq_nil_of_le (by simpa using h)] at hl; cases hl
      have ho : opN ops k = o := by
        have : ops.toList[k]? = some o := by
          have := congrArg (·[0]?) hl
          simpa [List.getElem?_drop] using this
        simp [opN, List.getD_eq_getElem?_getD, this]
      have hrk : recN R tsf stf k = r := by
        have : R[k]? = some r := by
          have := congrArg (·[0]?) hr
          simpa [List.getElem?_drop] using this
        simp [recN, List.getD_eq_getElem?_getD, this]
      have hl' : ops.toList.drop (k + 1) = l := by
        rw [← List.tail_drop, hl]; rfl
      have hr' : R.drop (k + 1) = recs' := by
        rw [← List.tail_drop, hr]; rfl
      have hlen2 : (putS r.ts o.dst r.val).length = ts0.length := by rw [putS_length, ← hs.1, hlen]
      have hslot2 : ∀ t, t < ts0.length → ∀ env v, Den env (ov ops R ts0 tsf stf (fun _ => true) t (k + 1)) v → Den env ((putS r.ts o.dst r.val).getD t .bad) v := by
        intro t ht env v hd
        rw [putS_getD (by rw [← hs.1, hlen]; exact ht)]
        simp only [ov, ho, hrk, true_and] at hd
        split
        · rename_i h; rw [if_pos h] at hd; exact hd
        · rename_i h; rw [if_neg h] at hd; exact hs.2 t env v (hslot t ht env v hd)
      obtain ⟨i1, i2, i3, i4⟩ := lexN_from hlex hl' hr' hn hk2 hlen2 hslot2
      refine ⟨by rw [hrk, hst], by rw [hrk, ← hs.1, hlen], fun t ht env v hd => by rw [hrk]; exact hs.2 t env v (hslot t ht env v hd), ?_⟩
      intro j h1 h2
      by_cases hj : j = k
      · subst hj
        refine ⟨?_, i2, i3⟩
        rw [hrk, ho, i1, hst]
        rcases hw with ⟨a1, a2, a3⟩ | ⟨a1, a2, a3, a4⟩
        · exact .inl ⟨a1, a2, a3⟩
        · exact .inr ⟨a1, a2, a3, a4⟩
      · exact i4 j (by omega) h2

theorem lex_length {c : Cfg} {call : CallT} {ops : Array Oper} {l : List Oper} {ts tsf : List SVal} {st stf : St} {recs : List Rec} (h : Lex c call ops l ts st recs tsf stf) : recs.length = l.length := by
  induction h with
  | nil => rfl
  | cons _ _ _ _ ih => simp [ih]

theorem lexN_of {c : Cfg} {call : CallT} {ops : Array Oper} {recs : List Rec} {ts tsf : List SVal} {st stf : St} (h : Lex c call ops ops.toList ts st recs tsf stf) : LexN c call ops recs ts tsf st stf := by
  have hlen := lex_length h
  obtain ⟨h1, h2, h3, h4⟩ := lexN_from (R := recs) (ts0 := ts) (k := 0) h rfl rfl (by simpa using hlen) (Nat.zero_le _) rfl (fun t _ env v hd => hd)
  refine ⟨by simpa using hlen, h1, fun k hk => (h4 k (Nat.zero_le _) hk).1, fun k hk => ?_, fun k hk => ?_⟩
  · cases k with
    | zero => exact h2
    | succ k => exact (h4 k (Nat.zero_le _) hk).2.1
  · cases k with
    | zero => exact h3
    | succ k => exact (h4 k (Nat.zero_le _) hk).2.2

/-! ## what must have come before -/
theorem bit_or {a b j : Nat} : bit (a ||| b) j = (bit a j || bit b j) := by simp [bit]
theorem bit_pow {n j : Nat} (h : bit (2 ^ n) j = true) : j = n := by simp [bit, Nat.testBit_two_pow] at h; exact h.symm
theorem fold_bit {acc : List Nat} : ∀ (l : List Edge) (s j : Nat), bit (l.foldl (fun s e => match Region.binds .any e with | true => s ||| 2 ^ e.on ||| acc.getD e.on 0 | false => s) s) j = true →
    bit s j = true ∨ ∃ e ∈ l, Region.binds .any e = true ∧ (j = e.on ∨ bit (acc.getD e.on 0) j = true)
  | [], s, j, h => .inl h
  | e :: l, s, j, h => by
    simp only [List.foldl_cons] at h
    rcases fold_bit l _ j h with h | ⟨e', he, hb, h⟩
    · split at h
      · rename_i hb
        rw [bit_or, bit_or, Bool.or_eq_true, Bool.or_eq_true] at h
        rcases h with (h | h) | h
        · exact .inl h
        · exact .inr ⟨e, List.mem_cons_self, hb, .inl (bit_pow h)⟩
        · exact .inr ⟨e, List.mem_cons_self, hb, .inr h⟩
      · exact .inl h
    · exact .inr ⟨e', List.mem_cons_of_mem _ he, hb, h⟩
theorem masks_spec {all : List Oper} {C : Nat → Prop} (hC : ∀ j o, all[j]? = some o → C j → ∀ e ∈ o.after, Region.binds .any e = true → C e.on) : ∀ (l : List Oper) (acc : List Nat), all.drop acc.length = l →
    (∀ i o, i < acc.length → all[i]? = some o → (∀ e ∈ o.after, Region.binds .any e = true → C e.on) → ∀ j, bit (acc.getD i 0) j = true → C j) →
    ∀ i o, all[i]? = some o → (∀ e ∈ o.after, Region.binds .any e = true → C e.on) → ∀ j, bit ((masks l acc).getD i 0) j = true → C j
  | [], acc, hl, hacc, i, o, ho, he, j, hj => by
    have : all.length ≤ acc.length := List.drop_eq_nil_iff.1 hl
    exact hacc i o (by have := (List.getElem?_eq_some_iff.1 ho).1; omega) ho he j hj
  | p :: l, acc, hl, hacc, i, o, ho, he, j, hj => by
    have hp : all[acc.length]? = some p := by
      have := congrArg (·[0]?) hl
      simpa [List.getElem?_drop] using this
    simp only [masks] at hj
    refine masks_spec hC l _ ?_ ?_ i o ho he j hj
    · rw [List.length_append, List.length_singleton, ← List.tail_drop, hl]; rfl
    · intro i' o' hi' ho' he' j' hj'
      rw [List.length_append, List.length_singleton] at hi'
      by_cases hlt : i' < acc.length
      · rw [List.getD_eq_getElem?_getD, List.getElem?_append_left hlt, ← List.getD_eq_getElem?_getD] at hj'
        exact hacc i' o' hlt ho' he' j' hj'
      · have hie : i' = acc.length := by omega
        subst hie
        rw [hp] at ho'; cases ho'
        rw [List.getD_eq_getElem?_getD, List.getElem?_append_right (Nat.le_refl _)] at hj'
        simp only [Nat.sub_self, List.getElem?_cons_zero, Option.getD_some] at hj'
        rcases fold_bit _ _ _ hj' with h | ⟨e, hem, hbe, h⟩
        · simp [bit] at h
        · have hce := he' e (by simpa using hem) hbe
          rcases h with rfl | h
          · exact hce
          · rcases Nat.lt_or_ge e.on acc.length with h1 | h1
            · have hex : ∃ q, all[e.on]? = some q := ⟨all[e.on]'(by have := (List.getElem?_eq_some_iff.1 hp).1; omega), by simp⟩
              obtain ⟨q, hq⟩ := hex
              exact hacc e.on q h1 hq (hC e.on q hq hce) j' h
            · rw [List.getD_eq_getElem?_getD, List.getElem?_eq_none h1] at h
              simp [bit] at h

/-- what the static look says -/
structure Static (ops : Array Oper) : Prop where
  plain : ∀ (i : Nat) (o : Oper), ops[i]? = some o → plainOp o.op = true
  low : ∀ (i : Nat) (o : Oper), ops[i]? = some o → ∀ e ∈ o.after, Region.binds .any e = true → e.on < i
  tmp : ∀ (i j : Nat) (o p : Oper) (t : Tmp), ops[i]? = some o → ops[j]? = some p → o.dst = some t → t ∈ tmpsOf ops p → comparable (masks ops.toList []) i j = true
  eff : ∀ (i j : Nat) (o p : Oper), ops[i]? = some o → ops[j]? = some p → isEff o.op = true → isEff p.op = true → comparable (masks ops.toList []) i j = true
theorem mem_zip {ops : Array Oper} {i : Nat} {o : Oper} (h : ops[i]? = some o) : (o, i) ∈ ops.toList.zipIdx := by
  rw [List.mem_zipIdx_iff_getElem?]; simpa using h
theorem static_of {ops : Array Oper} (h : staticOk ops = true) : Static ops := by
  unfold staticOk at h
  simp only [Bool.and_eq_true, List.all_eq_true] at h
  obtain ⟨⟨h1, h2⟩, h3⟩ := h
  refine ⟨fun i o hi => (h1 _ (mem_zip hi)).1, fun i o hi e he hb => ?_, fun i j o p t hi hj hd ht => ?_, fun i j o p hi hj ho hp => ?_⟩
  · have k1 := (h1 _ (mem_zip hi)).2 e (by simpa using he)
    rw [hb] at k1
    exact Nat.le_of_ble_eq_true k1
  · have := h2 _ (mem_zip hi) _ (mem_zip hj)
    simp only [hd] at this
    split at this
    · exact this
    · rename_i hc
      have hc' : (tmpsOf ops p).contains t = true := List.contains_iff_mem.2 ht
      rw [hc'] at hc; cases hc
  · have := h3 _ (mem_zip hi)
    simp only [ho, List.all_eq_true] at this
    have := this _ (mem_zip hj)
    simpa only [hp] using this
theorem comparable_lt {ms : List Nat} {i j : Nat} (h : comparable ms i j = true) (hlt : i < j) : bit (ms.getD j 0) i = true := by
  unfold comparable at h
  rw [show Nat.blt i j = true from Nat.ble_eq_true_of_le hlt] at h; exact h
theorem comparable_gt {ms : List Nat} {i j : Nat} (h : comparable ms i j = true) (hlt : j < i) : bit (ms.getD i 0) j = true := by
  unfold comparable at h
  have h1 : Nat.blt i j = false := by
    cases hb : Nat.blt i j with
    | false => rfl
    | true => have := Nat.le_of_ble_eq_true hb; omega
  rw [h1, show Nat.blt j i = true from Nat.ble_eq_true_of_le hlt] at h; exact h

/-! ## every order -/
theorem denT_iff {env : Env} {ts : List SVal} {tmps : Array Value} : DenT env ts tmps ↔ tmps.size = ts.length ∧ ∀ t, t < ts.length → Den env (ts.getD t .bad) (tmps.getD t undef) := by
  constructor
  · rintro ⟨vs, rfl, hd⟩
    refine ⟨by simpa using denL_length hd, fun t ht => ?_⟩
    have := denL_getD hd t
    simpa using this
  · rintro ⟨h1, h2⟩
    refine ⟨tmps.toList, by simp, ?_⟩
    have key : ∀ (ts : List SVal) (l : List Value), l.length = ts.length → (∀ t, t < ts.length → Den env (ts.getD t .bad) (l.getD t undef)) → DenL env ts l := by
      intro ts
      induction ts with
      | nil => intro l h1 _; have : l = [] := List.length_eq_zero_iff.1 h1; subst this; exact denL_nil
      | cons s ts ih =>
        intro l h1 h2
        cases l with
        | nil => simp at h1
        | cons v l =>
          refine denL_cons.2 ⟨by simpa using h2 0 (by simp), ih l (by simpa using h1) fun t ht => ?_⟩
          simpa using h2 (t + 1) (by simpa using ht)
    refine key ts tmps.toList (by simpa using h1) fun t ht => ?_
    have := h2 t ht
    simpa using this

/-- only the slots that are named -/
def maskTs (names : List Tmp) (ts : List SVal) : List SVal := ts.zipIdx.map fun p => if names.contains p.2 then p.1 else .bad
theorem maskTs_getD {names : List Tmp} {ts : List SVal} {t : Nat} : (maskTs names ts).getD t .bad = if names.contains t then ts.getD t .bad else .bad := by
  simp only [maskTs, List.getD_eq_getElem?_getD, List.getElem?_map, List.getElem?_zipIdx]
  cases h : ts[t]? with
  | none => simp
  | some s => simp
theorem maskTs_length {names : List Tmp} {ts : List SVal} : (maskTs names ts).length = ts.length := by simp [maskTs]

/-- the invariant: what the listed ones have left -/
structure Inv (c : Cfg) (ops : Array Oper) (recs : List Rec) (ts0 tsf : List SVal) (stf : St) (env : Env) (st0 : St) (w0 : World) (a0 : Act) (listed : Array Bool) (a : Act) (w : World) : Prop where
  size : listed.size = ops.size
  closed : ∀ (j : Nat) (o : Oper), ops[j]? = some o → listed.getD j false = true → ∀ e ∈ o.after, Region.binds .any e = true → listed.getD e.on false = true
  defers : a.defers = a0.defers
  tsize : a.tmps.size = ts0.length
  now : ∃ env', Ext env st0 w0 env' (recN recs tsf stf (hx ops (listed.getD · false) ops.size)).st w ∧ Rep env' (recN recs tsf stf (hx ops (listed.getD · false) ops.size)).st w ∧
    ∀ t, t < ts0.length → Den env' (ov ops recs ts0 tsf stf (listed.getD · false) t ops.size) (a.tmps.getD t undef)

theorem getD_set {listed : Array Bool} {i j : Nat} (hi : i < listed.size) : (listed.setIfInBounds i true).getD j false = if i = j then true else listed.getD j false := by
  by_cases h : i = j
  · subst h; simp [hi]
  · simp [h, Array.getElem?_setIfInBounds_ne h]

theorem opN_of {ops : Array Oper} {i : Nat} {o : Oper} (h : ops[i]? = some o) : opN ops i = o := by
  simp [opN, List.getD_eq_getElem?_getD, h]

section main
variable {c : Cfg} {call : CallT} {ops : Array Oper} {recs : List Rec} {ts0 tsf : List SVal} {st0 stf : St}

/-- between effects the state stands still -/
theorem st_still (L : LexN c call ops recs ts0 tsf st0 stf) : ∀ k, k ≤ ops.size → (recN recs tsf stf (hx ops (fun _ => true) k)).st = (recN recs tsf stf k).st
  | 0, _ => rfl
  | k + 1, hk => by
    simp only [hx]
    split
    · rfl
    · rename_i hn
      rw [st_still L k (by omega)]
      have hne : isEff (opN ops k).op = false := by simpa using hn
      rcases L.step k (by omega) with ⟨_, _, h⟩ | ⟨_, _, _, h⟩
      · exact (opS_calm hne h).symm
      · exact h.symm

/-- what the loads must meet -/
def LoadsOk (c : Cfg) (ops : Array Oper) (recs : List Rec) (tsf : List SVal) (stf : St) : Prop :=
  ∀ (i : Nat) (o : Oper) (t : TypeId) (p : Operand) (m : Nat), ops[i]? = some o → o.op = .load t p → (recN recs tsf stf i).ran = true → (m = 0 ∨ ∃ (e : Nat) (q : Oper), m = e + 1 ∧ ops[e]? = some q ∧ isEff q.op = true) →
    (∀ (e : Nat) (q : Oper), ops[e]? = some q → isEff q.op = true → (bit ((masks ops.toList []).getD i 0) e = true → e < m) ∧ (bit ((masks ops.toList []).getD e 0) i = true → m ≤ e)) →
    loadS c.P (recN recs tsf stf m).st t (evS c.gl (recN recs tsf stf i).ts p) = loadS c.P (recN recs tsf stf i).st t (evS c.gl (recN recs tsf stf i).ts p)

theorem inv_step (hc : CallOk c call) (S : Static ops) (L : LexN c call ops recs ts0 tsf st0 stf) (hl : LoadsOk c ops recs tsf stf)
    {env : Env} {w0 : World} {a0 : Act} (hg : GlOk c.gl env) {listed : Array Bool} {a : Act} {w : World} (I : Inv c ops recs ts0 tsf stf env st0 w0 a0 listed a w) {i : Nat} (hi : i ∈ Region.ready .any ops listed)
    {Q : Exit → Act → World → Prop} {K : Act → World → Prop} (hk : ∀ a' w', Inv c ops recs ts0 tsf stf env st0 w0 a0 (listed.setIfInBounds i true) a' w' → K a' w') : wpOp c.P ops Q i K a w := by
  obtain ⟨hi1, o, ho, hpre⟩ := mem_ready.1 hi
  have hin : i < ops.size := (Array.getElem?_eq_some_iff.1 ho).1
  have hil : i < listed.size := by rw [I.size]; exact hin
  have hi0 : listed.getD i false = false := by simp [hil] at hi1 ⊢; exact hi1
  have hpre' : ∀ e ∈ o.after, Region.binds .any e = true → listed.getD e.on false = true := fun e he hb => hpre e he hb
  -- what must come before has come; what must come behind has not
  have closed : ∀ (j : Nat) (p : Oper), ops.toList[j]? = some p → listed.getD j false = true → ∀ e ∈ p.after, Region.binds .any e = true → listed.getD e.on false = true := fun j p hp hj => I.closed j p (by simpa using hp) hj
  have before : ∀ j, bit ((masks ops.toList []).getD i 0) j = true → listed.getD j false = true :=
    masks_spec (C := fun j => listed.getD j false = true) closed ops.toList [] rfl (fun i' o' h => by simp at h) i o (by simpa using ho) hpre'
  have behind : ∀ j p, ops[j]? = some p → bit ((masks ops.toList []).getD j 0) i = true → listed.getD j false = false := by
    intro j p hj hb
    cases hjl : listed.getD j false with
    | false => rfl
    | true =>
      have := masks_spec (C := fun j => listed.getD j false = true) closed ops.toList [] rfl (fun i' o' h => by simp at h) j p (by simpa using hj) (I.closed j p hj hjl) i hb
      rw [hi0] at this; cases this
  have sides : ∀ j p, ops[j]? = some p → comparable (masks ops.toList []) i j = true ∨ comparable (masks ops.toList []) j i = true → (j < i → listed.getD j false = true) ∧ (i < j → listed.getD j false = false) := by
    intro j p hj hcmp
    refine ⟨fun hlt => before j ?_, fun hlt => behind j p hj ?_⟩
    · rcases hcmp with h | h
      · exact comparable_gt h hlt
      · exact comparable_lt h hlt
    · rcases hcmp with h | h
      · exact comparable_lt h hlt
      · exact comparable_gt h hlt
  have opj : ∀ j, j < ops.size → ops[j]? = some (opN ops j) := by
    intro j hj
    have : ops[j]? = some ops[j] := by simp [hj]
    rw [opN_of this, this]
  -- an operand's slot holds what it held in the text's order
  have seen : ∀ t ∈ tmpsOf ops o, ov ops recs ts0 tsf stf (listed.getD · false) t ops.size = ov ops recs ts0 tsf stf (fun _ => true) t i := by
    intro t ht
    rw [ov_none (i := i) (Nat.le_of_lt hin)]
    · refine ov_congr fun j hj hd => ?_
      have hp := opj j (by omega)
      have hcmp := S.tmp j i _ o t hp ho hd ht
      exact (sides j _ hp (.inr hcmp)).1 hj
    · intro j h1 h2 hd
      by_cases hji : j = i
      · subst hji; exact hi0
      · have hp := opj j h2
        have hcmp := S.tmp j i _ o t hp ho hd ht
        exact (sides j _ hp (.inr hcmp)).2 (by omega)
  obtain ⟨env', hx', hr', ht'⟩ := I.now
  have L0 := L.step i hin
  have hoN := opN_of ho
  rw [hoN] at L0
  let r := recN recs tsf stf i
  have hlen : r.ts.length = ts0.length := L.len i (Nat.le_of_lt hin)
  -- the frame stands for the text order's, on the operands
  have hmask : DenT env' (maskTs (tmpsOf ops o) r.ts) a.tmps := by
    rw [denT_iff]
    refine ⟨by rw [maskTs_length, hlen]; exact I.tsize, fun t ht => ?_⟩
    rw [maskTs_length, hlen] at ht
    rw [maskTs_getD]
    split
    · rename_i hn
      have hn : t ∈ tmpsOf ops o := List.contains_iff_mem.1 hn
      have := ht' t ht
      rw [seen t hn] at this
      exact L.slot i (Nat.le_of_lt hin) t ht env' _ this
    · simp [Den]
  have hgl := hg.ext hx'
  have hevm := evS_ok (gl := c.gl) hgl hmask
  have hev : ∀ x ∈ o.op.operands, evS c.gl (maskTs (tmpsOf ops o) r.ts) x = evS c.gl r.ts x := by
    intro x hx
    cases x with
    | tmp t =>
      simp only [evS]
      rw [maskTs_getD, if_pos]
      refine List.contains_iff_mem.2 ?_
      simp only [tmpsOf, List.mem_append]
      refine .inr (.inl ?_)
      exact List.mem_filterMap.2 ⟨.tmp t, by simpa using hx, rfl⟩
    | _ => rfl
  have hwant : wantS ops o (maskTs (tmpsOf ops o) r.ts) = wantS ops o r.ts := by
    unfold wantS
    cases hgd : o.guard with
    | none => rfl
    | some jw =>
      obtain ⟨j, want⟩ := jw
      simp only
      cases hj : ops[j]? with
      | none => rfl
      | some g =>
        simp only
        cases hd : g.dst with
        | none => rfl
        | some t =>
          simp only
          rw [maskTs_getD, if_pos]
          refine List.contains_iff_mem.2 ?_
          simp only [tmpsOf, List.mem_append]
          exact .inr (.inr (by simp [hgd, hj, hd]))
  -- the effects that have been
  let m := hx ops (listed.getD · false) ops.size
  have heff : isEff o.op = true → (recN recs tsf stf m).st = r.st := by
    intro he
    have h1 : m = hx ops (fun _ => true) i := by
      show hx ops (listed.getD · false) ops.size = _
      rw [hx_none (i := i) (Nat.le_of_lt hin)]
      · refine hx_congr fun j hj hd => ?_
        have hp := opj j (by omega)
        exact (sides j _ hp (.inl (S.eff i j o _ ho hp he hd))).1 hj
      · intro j h1 h2 hd
        by_cases hji : j = i
        · subst hji; exact hi0
        · have hp := opj j h2
          exact (sides j _ hp (.inl (S.eff i j o _ ho hp he hd))).2 (by omega)
    rw [h1]; exact st_still L i (Nat.le_of_lt hin)
  have hsel : ∀ j, (listed.setIfInBounds i true).getD j false = if i = j then true else listed.getD j false := fun j => getD_set hil
  -- where the new state stands
  have hnew : (isEff o.op = true → hx ops ((listed.setIfInBounds i true).getD · false) ops.size = i + 1) ∧ (isEff o.op = false → hx ops ((listed.setIfInBounds i true).getD · false) ops.size = m) := by
    refine ⟨fun he => ?_, fun he => ?_⟩
    · rw [hx_none (i := i + 1) hin]
      · simp only [hx]; rw [if_pos ⟨by rw [hsel, if_pos rfl], by rw [hoN]; exact he⟩]
      · intro j h1 h2 hd
        have hp := opj j h2
        rw [hsel, if_neg (by omega)]
        exact (sides j _ hp (.inl (S.eff i j o _ ho hp he hd))).2 (by omega)
    · refine hx_congr fun j hj hd => ?_
      rw [hsel, if_neg]
      intro h; subst h; rw [hoN, he] at hd; cases hd
  have hov : ∀ t, ov ops recs ts0 tsf stf ((listed.setIfInBounds i true).getD · false) t ops.size = if o.dst = some t then r.val else ov ops recs ts0 tsf stf (listed.getD · false) t ops.size := by
    intro t
    split
    · rename_i hd
      rw [ov_none (i := i + 1) hin]
      · simp only [ov]; rw [if_pos ⟨by rw [hsel, if_pos rfl], by rw [hoN]; exact hd⟩]
      · intro j h1 h2 hdj
        have hp := opj j h2
        rw [hsel, if_neg (by omega)]
        have hin2 : t ∈ tmpsOf ops (opN ops j) := by simp [tmpsOf, hdj]
        exact (sides j _ hp (.inl (S.tmp i j o _ t ho hp hd hin2))).2 (by omega)
    · rename_i hd
      refine ov_congr fun j hj hdj => ?_
      rw [hsel, if_neg]
      intro h; subst h; rw [hoN] at hdj; exact hd hdj
  -- the invariant goes on
  have fin : ∀ (env2 : Env) (st2 : St) (w2 : World) (v : Value), Ext env' (recN recs tsf stf m).st w env2 st2 w2 → Rep env2 st2 w2 → Den env2 r.val v → (recN recs tsf stf (hx ops ((listed.setIfInBounds i true).getD · false) ops.size)).st = st2 → K (a.put o.dst v) w2 := by
    intro env2 st2 w2 v hx2 hr2 hd2 hst2
    refine hk _ _ ⟨by simpa using I.size, ?_, ?_, ?_, env2, ?_, ?_, ?_⟩
    · intro j p hp hj e he hbe
      rw [hsel] at hj ⊢
      split
      · rfl
      · split at hj
        · rename_i hij; subst hij; rw [ho] at hp; cases hp; exact hpre' e he hbe
        · exact I.closed j p hp hj e he hbe
    · rw [← I.defers]; cases o.dst <;> rfl
    · rw [← I.tsize]; cases o.dst <;> simp [Act.put]
    · rw [hst2]; exact hx'.trans hx2
    · rw [hst2]; exact hr2
    · intro t ht
      rw [hov]
      split
      · rename_i hd
        rw [hd]
        simp only [Act.put]
        have : t < a.tmps.size := by rw [I.tsize]; exact ht
        simpa [this] using hd2
      · rename_i hd
        have h1 := hx2.den (ht' t ht)
        cases hod : o.dst with
        | none => simpa [Act.put] using h1
        | some u =>
          have hne : u ≠ t := fun h => hd (by rw [hod, h])
          simpa [Act.put, Array.getElem?_setIfInBounds_ne hne] using h1
  unfold wpOp
  rw [ho]
  simp only
  obtain ⟨w1, w2, _⟩ := wantS_ok (ops := ops) (o := o) hmask
  rw [hwant] at w1 w2
  rcases L0 with ⟨hran, hw, hop⟩ | ⟨hran, hw, hval, hst⟩
  · rw [if_pos (w1 hw)]
    refine .inl ?_
    have key : ∃ st2, (opD c call (evS c.gl (maskTs (tmpsOf ops o) r.ts)) o.op (recN recs tsf stf m).st).at (r.val, st2) ∧ (recN recs tsf stf (hx ops ((listed.setIfInBounds i true).getD · false) ops.size)).st = st2 := by
      rw [opD_congr hev]
      cases he : isEff o.op with
      | true =>
        refine ⟨_, by rw [heff he]; exact hop, ?_⟩
        rw [hnew.1 he]
      | false =>
        have hcalm := opS_calm he hop
        refine ⟨(recN recs tsf stf m).st, ?_, by rw [hnew.2 he]⟩
        rw [opD_no he] at hop ⊢
        replace he := eff_no he
        unfold opS at hop ⊢
        cases hp : isPure o.op with
        | true =>
          rw [hp] at hop
          simp only [T.at_bind] at hop ⊢
          obtain ⟨x, h1, h2⟩ := hop
          simp only [T.at, Prod.mk.injEq] at h2
          exact ⟨x, h1, by simp only [T.at, Prod.mk.injEq]; exact ⟨h2.1, trivial⟩⟩
        | false =>
          rw [hp] at hop he
          simp only [Bool.not_false, Bool.true_and, Bool.not_eq_false'] at he
          obtain ⟨t, p, hop2⟩ : ∃ t p, o.op = .load t p := by
            cases hoo : o.op <;> simp only [hoo, isLoad, Bool.false_eq_true] at he
            exact ⟨_, _, rfl⟩
          rw [hop2] at hop ⊢
          simp only [T.at_bind] at hop ⊢
          obtain ⟨x, h1, h2⟩ := hop
          simp only [T.at, Prod.mk.injEq] at h2
          have hsame := hl i o t p m ho hop2 hran (by
            rcases hx_is (ops := ops) (sel := (listed.getD · false)) ops.size with h | ⟨e, e1, e2, e3, e4⟩
            · exact .inl h
            · exact .inr ⟨e, _, e2, opj e e1, e4⟩) (by
            intro e q hq hqe
            have heN := opN_of hq
            have hen : e < ops.size := (Array.getElem?_eq_some_iff.1 hq).1
            refine ⟨fun hb => ?_, fun hb => ?_⟩
            · have := hx_ge (ops := ops) (sel := (listed.getD · false)) (before e hb) (by rw [heN]; exact hqe) hen
              exact this
            · have hno := behind e q hq hb
              rcases hx_is (ops := ops) (sel := (listed.getD · false)) ops.size with h | ⟨e', e1, e2, e3, e4⟩
              · show hx ops (listed.getD · false) ops.size ≤ e
                rw [h]; exact Nat.zero_le _
              · show hx ops (listed.getD · false) ops.size ≤ e
                rw [e2]
                have hp' := opj e' e1
                rcases Nat.lt_trichotomy e' e with h | h | h
                · exact h
                · subst h; rw [hno] at e3; cases e3
                · exfalso
                  have hcmp := S.eff e e' q _ hq hp' hqe e4
                  have hb' := comparable_lt hcmp h
                  have := masks_spec (C := fun j => listed.getD j false = true) closed ops.toList [] rfl (fun i' o' h => by simp at h) e' (opN ops e') (by simpa using hp') (I.closed e' _ hp' e3) e hb'
                  rw [hno] at this; cases this)
          exact ⟨x, by rw [hsame]; exact h1, by simp only [T.at, Prod.mk.injEq]; exact ⟨h2.1, trivial⟩⟩
    obtain ⟨st2, k1, k2⟩ := key
    exact upon_of (opD_ok hc hgl hr' hevm k1) fun env2 w2 v hx2 hr2 hd2 => fin env2 st2 w2 v hx2 hr2 hd2 k2
  · rw [if_neg (by rw [w2 hw]; simp)]
    refine fin env' _ w undef (Ext.refl _ _ _) hr' (by show Den env' (recN recs tsf stf i).val undef; rw [hval]; exact den_undef _) ?_
    cases he : isEff o.op with
    | true =>
      rw [hnew.1 he]
      show (recN recs tsf stf (i + 1)).st = _
      rw [hst]; exact (heff he).symm
    | false => rw [hnew.2 he]
end main
end Go.Proofs.YtmknmbacecjfmaaDoor.Sx

/- The executor is right. -/
namespace Go.Proofs.YtmknmbacecjfmaaDoor.Sx
set_option linter.unusedVariables false

theorem meets_ok {c : Cfg} {recs : List Rec} {fin : St} {ms effs : List Nat} {α : Type 1} {k : T α} {x : α} : ∀ {l : List (Oper × Rec × Nat)}, (meets c recs fin ms effs k l).at x →
    k.at x ∧ ∀ o r i t p, (o, r, i) ∈ l → o.op = .load t p → r.ran = true → ∀ m, m ∈ 0 :: effs.map (· + 1) → mayMeet ms i effs m = true → loadS c.P (stAt recs fin m) t (evS c.gl r.ts p) = loadS c.P r.st t (evS c.gl r.ts p)
  | [], h => ⟨h, by simp⟩
  | (o, r, i) :: l, h => by
    have fold : ∀ (t : TypeId) (p : Operand) (ns : List Nat), (ns.foldr (fun m k => match mayMeet ms i effs m with | true => (match eqTS (loadS c.P (stAt recs fin m) t (evS c.gl r.ts p)) (loadS c.P r.st t (evS c.gl r.ts p)) with | true => k | false => T.eq (loadS c.P (stAt recs fin m) t (evS c.gl r.ts p) = loadS c.P r.st t (evS c.gl r.ts p)) k) | false => k) (meets c recs fin ms effs k l)).at x →
        (meets c recs fin ms effs k l).at x ∧ ∀ m ∈ ns, mayMeet ms i effs m = true → loadS c.P (stAt recs fin m) t (evS c.gl r.ts p) = loadS c.P r.st t (evS c.gl r.ts p) := by
      intro t p ns
      induction ns with
      | nil => intro h; exact ⟨h, by simp⟩
      | cons n ns ih =>
        intro h
        simp only [List.foldr_cons] at h
        split at h
        · rename_i hm
          have h0 : loadS c.P (stAt recs fin n) t (evS c.gl r.ts p) = loadS c.P r.st t (evS c.gl r.ts p) ∧ (ns.foldr (fun m k => match mayMeet ms i effs m with | true => (match eqTS (loadS c.P (stAt recs fin m) t (evS c.gl r.ts p)) (loadS c.P r.st t (evS c.gl r.ts p)) with | true => k | false => T.eq (loadS c.P (stAt recs fin m) t (evS c.gl r.ts p) = loadS c.P r.st t (evS c.gl r.ts p)) k) | false => k) (meets c recs fin ms effs k l)).at x := by
            split at h
            · rename_i he; exact ⟨eqTS_eq he, h⟩
            · exact h
          obtain ⟨h1, h2⟩ := h0
          obtain ⟨h3, h4⟩ := ih h2
          refine ⟨h3, fun m hmem hmm => ?_⟩
          rcases List.mem_cons.1 hmem with rfl | hmem
          · exact h1
          · exact h4 m hmem hmm
        · rename_i hm
          obtain ⟨h3, h4⟩ := ih h
          refine ⟨h3, fun m hmem hmm => ?_⟩
          rcases List.mem_cons.1 hmem with rfl | hmem
          · rw [hm] at hmm; cases hmm
          · exact h4 m hmem hmm
    simp only [meets] at h
    split at h
    · rename_i t p hop hran
      obtain ⟨h1, h2⟩ := fold t p _ h
      obtain ⟨h3, h4⟩ := meets_ok h1
      refine ⟨h3, ?_⟩
      intro o' r' i' t' p' hmem hop' hran' m hm hmm
      rcases List.mem_cons.1 hmem with heq | hmem
      · simp only [Prod.mk.injEq] at heq
        obtain ⟨rfl, rfl, rfl⟩ := heq
        rw [hop] at hop'; cases hop'
        exact h2 m hm hmm
      · exact h4 o' r' i' t' p' hmem hop' hran' m hm hmm
    · rename_i hno
      obtain ⟨h3, h4⟩ := meets_ok h
      refine ⟨h3, ?_⟩
      intro o' r' i' t' p' hmem hop' hran' m hm hmm
      rcases List.mem_cons.1 hmem with heq | hmem
      · simp only [Prod.mk.injEq] at heq
        obtain ⟨rfl, rfl, rfl⟩ := heq
        exact (hno _ _ hop' hran').elim
      · exact h4 o' r' i' t' p' hmem hop' hran' m hm hmm

theorem mem_effsOf {ops : Array Oper} {e : Nat} : e ∈ effsOf ops.toList ↔ ∃ q, ops[e]? = some q ∧ isEff q.op = true := by
  unfold effsOf
  simp only [List.mem_map, List.mem_filter, Prod.exists]
  constructor
  · rintro ⟨q, i, ⟨h1, h2⟩, rfl⟩
    rw [List.mem_zipIdx_iff_getElem?] at h1
    exact ⟨q, by simpa using h1, h2⟩
  · rintro ⟨q, h1, h2⟩
    exact ⟨q, e, ⟨mem_zip h1, h2⟩, rfl⟩

theorem wpAny_of_inv {c : Cfg} {call : CallT} {ops : Array Oper} {recs : List Rec} {ts0 tsf : List SVal} {st0 stf : St} (hc : CallOk c call) (S : Static ops) (L : LexN c call ops recs ts0 tsf st0 stf) (hl : LoadsOk c ops recs tsf stf)
    {env : Env} {w0 : World} {a0 : Act} (hg : GlOk c.gl env) {Q : Exit → Act → World → Prop} (hQ : After env st0 w0 a0 tsf stf (Q .normal)) : ∀ (fuel : Nat) (listed : Array Bool) (a : Act) (w : World),
    Inv c ops recs ts0 tsf stf env st0 w0 a0 listed a w → (listed.toList.filter (fun b => !b)).length ≤ fuel → wpAny c.P .any ops Q fuel listed a w := by
  have all : ∀ (listed : Array Bool) (a : Act) (w : World), Inv c ops recs ts0 tsf stf env st0 w0 a0 listed a w → (∀ j, j < ops.size → listed.getD j false = true) → Q .normal a w := by
    intro listed a w I hall
    obtain ⟨env', hx', hr', ht'⟩ := I.now
    have h1 : hx ops (listed.getD · false) ops.size = hx ops (fun _ => true) ops.size := hx_congr fun j hj _ => hall j hj
    have h2 := st_still L ops.size (Nat.le_refl _)
    have h3 : recN recs tsf stf ops.size = ⟨tsf, stf, .bad, false⟩ := by
      simp [recN, List.getD_eq_getElem?_getD, List.getElem?_eq_none (Nat.le_of_eq L.size)]
    rw [h1, h2, h3] at hx' hr'
    refine hQ env' a w hx' hr' ?_ I.defers
    have hlen := L.len ops.size (Nat.le_refl _)
    rw [h3] at hlen
    rw [denT_iff]
    refine ⟨by rw [I.tsize]; exact hlen.symm, fun t ht => ?_⟩
    have ht0 : t < ts0.length := by rw [← hlen]; exact ht
    have h4 := ht' t ht0
    rw [ov_congr (sel' := fun _ => true) fun j hj _ => hall j hj] at h4
    have h5 := L.slot ops.size (Nat.le_refl _) t ht0 env' _ h4
    rw [h3] at h5; exact h5
  have ready_nil : ∀ (listed : Array Bool) (a : Act) (w : World), Inv c ops recs ts0 tsf stf env st0 w0 a0 listed a w → Region.ready .any ops listed = [] → ∀ j, j < ops.size → listed.getD j false = true := by
    intro listed a w I hn j
    induction j using Nat.strongRecOn with
    | _ j ih =>
      intro hj
      cases hjl : listed.getD j false with
      | true => rfl
      | false =>
        have hjs : j < listed.size := by rw [I.size]; exact hj
        have hp : ops[j]? = some ops[j] := by simp [hj]
        have : j ∈ Region.ready .any ops listed := by
          refine mem_ready.2 ⟨by simp [hjs] at hjl ⊢; exact hjl, _, hp, fun e he hbe => ?_⟩
          have hlt := S.low j _ hp e he hbe
          exact ih e.on hlt (by omega)
        rw [hn] at this; cases this
  have count : ∀ (l : List Bool) (i : Nat), l[i]? = some false → ((l.set i true).filter (fun b => !b)).length + 1 = (l.filter (fun b => !b)).length := by
    intro l
    induction l with
    | nil => intro i h; simp at h
    | cons b l ih =>
      intro i h
      cases i with
      | zero => simp at h; subst h; simp
      | succ i =>
        have := ih i (by simpa using h)
        cases b <;> simp <;> omega
  intro fuel
  induction fuel with
  | zero =>
    intro listed a w I hf
    have hall : ∀ j, j < ops.size → listed.getD j false = true := by
      intro j hj
      have hjs : j < listed.size := by rw [I.size]; exact hj
      cases hjl : listed.getD j false with
      | true => rfl
      | false =>
        have hm : listed[j] ∈ listed.toList.filter (fun b => !b) := by
          refine List.mem_filter.2 ⟨by simp, ?_⟩
          simp [hjs] at hjl; simp [hjl]
        have : listed.toList.filter (fun b => !b) = [] := List.length_eq_zero_iff.1 (by omega)
        rw [this] at hm; cases hm
    refine ⟨?_, all listed a w I hall⟩
    cases hr : Region.ready .any ops listed with
    | nil => rfl
    | cons i l =>
      have hi : i ∈ Region.ready .any ops listed := by rw [hr]; exact List.mem_cons_self
      obtain ⟨h1, o, ho, _⟩ := mem_ready.1 hi
      have hin : i < ops.size := (Array.getElem?_eq_some_iff.1 ho).1
      have hjs : i < listed.size := by rw [I.size]; exact hin
      have := hall i hin
      simp [hjs] at h1 this
      rw [h1] at this; cases this
  | succ fuel ih =>
    intro listed a w I hf
    refine ⟨fun hn => all listed a w I (ready_nil listed a w I hn), fun i hi => ?_⟩
    refine inv_step hc S L hl hg I hi fun a' w' I' => ih _ a' w' I' ?_
    obtain ⟨h1, o, ho, _⟩ := mem_ready.1 hi
    have hin : i < ops.size := (Array.getElem?_eq_some_iff.1 ho).1
    have hjs : i < listed.size := by rw [I.size]; exact hin
    have := count listed.toList i (by simp [hjs] at h1 ⊢; exact h1)
    rw [Array.toList_setIfInBounds]
    omega

theorem drawS_ok {c : Cfg} {call : CallT} (hc : CallOk c call) {env : Env} {st st' : St} {w : World} {a : Act} {ops : Array Oper} {ts ts' : List SVal} {id : Nat} (hg : GlOk c.gl env) (hr : Rep env st w) (ht : DenT env ts a.tmps)
    (h : (drawS c call ops ts st).at (ts', st')) {Q : Exit → Act → World → Prop} (hk : After env st w a ts' st' (Q .normal)) : (Code.region id ops true).wp c.P Q a w := by
  unfold drawS at h
  split at h
  · rename_i hs hmix
    rw [T.at_bind] at h
    obtain ⟨⟨recs, tsf, stf⟩, h1, h2⟩ := h
    have S := static_of hs
    have L := lexN_of (recS_lex h1)
    simp only at L
    have nth : ∀ m, m ≤ ops.size → (recN recs tsf stf m).st = stAt recs stf m := by
      intro m hm
      unfold recN stAt
      rw [List.getD_eq_getElem?_getD]
      cases recs[m]? <;> rfl
    have both : (tsf, stf) = (ts', st') ∧ LoadsOk c ops recs tsf stf := by
      split at h2
      · rename_i heff
        refine ⟨h2, fun i o t p m ho hop hran hm hmm => ?_⟩
        have none : ∀ e : Nat, ¬ (∃ q : Oper, ops[e]? = some q ∧ isEff q.op = true) := by
          intro e he
          have := mem_effsOf.2 he
          rw [heff] at this; cases this
        have hm0 : m = 0 := by
          rcases hm with h | ⟨e, q, rfl, hq, hqe⟩
          · exact h
          · exact (none e ⟨q, hq, hqe⟩).elim
        subst hm0
        have hin : i < ops.size := (Array.getElem?_eq_some_iff.1 ho).1
        have h3 := st_still L i (Nat.le_of_lt hin)
        rcases hx_is (ops := ops) (sel := fun _ => true) i with h4 | ⟨e, e1, e2, e3, e4⟩
        · rw [h4] at h3; rw [h3]
        · exfalso
          have he : e < ops.size := by omega
          have hp : ops[e]? = some ops[e] := by simp [he]
          rw [opN_of hp] at e4
          exact none e ⟨_, hp, e4⟩
      · rename_i effs heff hne
        obtain ⟨h3, h4⟩ := meets_ok h2
        refine ⟨h3, fun i o t p m ho hop hran hm hmm => ?_⟩
        have hin : i < ops.size := (Array.getElem?_eq_some_iff.1 ho).1
        have hrec : recs[i]? = some (recN recs tsf stf i) := by
          have : i < recs.length := by rw [L.size]; exact hin
          simp [recN, List.getD_eq_getElem?_getD, this]
        have hmem : (o, recN recs tsf stf i, i) ∈ ops.toList.zip recs.zipIdx := by
          rw [List.mem_iff_getElem?]
          refine ⟨i, ?_⟩
          rw [List.getElem?_zip_eq_some]
          refine ⟨by simpa using ho, ?_⟩
          rw [List.getElem?_zipIdx, hrec]; simp
        have hm1 : m ∈ 0 :: (effsOf ops.toList).map (· + 1) := by
          rcases hm with rfl | ⟨e, q, rfl, hq, hqe⟩
          · exact List.mem_cons_self
          · exact List.mem_cons_of_mem _ (List.mem_map.2 ⟨e, mem_effsOf.2 ⟨q, hq, hqe⟩, rfl⟩)
        have hm2 : mayMeet (masks ops.toList []) i (effsOf ops.toList) m = true := by
          unfold mayMeet
          rw [List.all_eq_true]
          intro e he
          obtain ⟨q, hq, hqe⟩ := mem_effsOf.1 he
          obtain ⟨k1, k2⟩ := hmm e q hq hqe
          rw [Bool.and_eq_true]
          refine ⟨?_, ?_⟩
          · split
            · rename_i hb; exact Nat.ble_eq_true_of_le (k1 hb)
            · rfl
          · split
            · rename_i hb; exact Nat.ble_eq_true_of_le (k2 hb)
            · rfl
        have hms : m ≤ ops.size := by
          rcases hm with rfl | ⟨e, q, rfl, hq, hqe⟩
          · exact Nat.zero_le _
          · have := (Array.getElem?_eq_some_iff.1 hq).1; omega
        rw [nth m hms]
        exact h4 o _ i t p hmem hop hran m hm1 hm2
    obtain ⟨heq, hl⟩ := both
    simp only [Prod.mk.injEq] at heq
    obtain ⟨rfl, rfl⟩ := heq
    refine wp_region_any hmix ?_
    have hr0 := rep_heap (w' := { w with drawn := w.drawn + 1 }) hr rfl
    have hx0 : Ext env st w env st { w with drawn := w.drawn + 1 } := ext_heap rfl ⟨rfl, rfl⟩
    refine wpAny_of_inv hc S L hl (w0 := { w with drawn := w.drawn + 1 }) (a0 := a) hg (hk.step hx0 rfl) ops.size _ a _ ?_ ?_
    · rw [denT_iff] at ht
      have h0 : ∀ j, (Array.replicate ops.size false).getD j false = false := by
        intro j; by_cases hj : j < ops.size <;> simp [hj]
      have hh : hx ops ((Array.replicate ops.size false).getD · false) ops.size = 0 := by
        rw [hx_none (i := 0) (Nat.zero_le _) fun j _ _ _ => h0 j]; rfl
      have ho : ∀ t, ov ops recs ts tsf stf ((Array.replicate ops.size false).getD · false) t ops.size = ts.getD t .bad := by
        intro t; rw [ov_none (i := 0) (Nat.zero_le _) fun j _ _ _ => h0 j]; rfl
      refine ⟨by simp, fun j o ho hj => (by rw [h0 j] at hj; cases hj), rfl, ht.1, env, ?_, ?_, fun t ht' => (by rw [ho]; exact ht.2 t ht')⟩
      · rw [hh, L.first]; exact Ext.refl _ _ _
      · rw [hh, L.first]; exact hr0
    · have := List.length_filter_le (fun b => !b) (Array.replicate ops.size false).toList
      simp
  · exact h.elim

/-! ## results, calls, code -/
def resF (tmps : Array Value) : ResultVar → Sem Value
  | .tmp t => pure (tmps.getD t undef)
  | .cell a t => do loadVar t (← asAddr (tmps.getD a undef))
theorem resultS_ok {P : Program} {env : Env} {st : St} {w : World} {ts : List SVal} {tmps : Array Value} (hr : Rep env st w) (ht : DenT env ts tmps) {r : ResultVar} {s : SVal} (h : (resultS P ts st r).at s) :
    ∃ v, (resF tmps r).run P w = .ok v w ∧ Den env s v := by
  obtain ⟨vs, rfl, hd⟩ := ht
  have get : ∀ t, Den env (ts.getD t .bad) ((⟨vs⟩ : Array Value).getD t undef) := fun t => by have := denL_getD hd t; simpa using this
  cases r with
  | tmp t =>
    simp only [resultS, T.at] at h; subst h
    exact ⟨_, rfl, get t⟩
  | cell a t =>
    simp only [resultS] at h
    split at h
    · rename_i id o ha
      have hp := get a
      rw [ha] at hp
      obtain ⟨v, hv, hdv⟩ := loadS_ok hr h hp
      simp only [Den] at hp
      obtain ⟨e, he, hval⟩ := hp
      refine ⟨v, ?_, hdv⟩
      rw [hval] at hv
      simp only [resF]
      rw [hval]
      simpa [Instr.loadAt, Instr.sureAddr, asAddr, Sem.run_bind] using hv
    · exact h.elim

theorem resultsS_ok {P : Program} {env : Env} {st : St} {w : World} {ts : List SVal} {tmps : Array Value} (hr : Rep env st w) (ht : DenT env ts tmps) : ∀ {l : List ResultVar} {ss : List SVal}, (resultsS P ts st l).at ss →
    ∃ vs, (l.mapM (resF tmps)).run P w = .ok vs w ∧ DenL env ss vs
  | [], ss, h => by
    simp only [resultsS, T.at] at h; subst h
    exact ⟨[], rfl, denL_nil⟩
  | r :: l, ss, h => by
    simp only [resultsS] at h
    rw [T.at_bind] at h
    obtain ⟨s, h1, h2⟩ := h
    rw [T.at_bind] at h2
    obtain ⟨ss', h3, h4⟩ := h2
    simp only [T.at] at h4; subst h4
    obtain ⟨v, hv, hd⟩ := resultS_ok hr ht h1
    obtain ⟨vs, hvs, hds⟩ := resultsS_ok hr ht h3
    refine ⟨v :: vs, ?_, denL_cons.2 ⟨hd, hds⟩⟩
    rw [List.mapM_cons]
    simp only [Sem.run_bind, hvs, hv, Result.andThen_ok, Sem.run_pure]

theorem results_ok {P : Program} {env : Env} {st : St} {w : World} {ts : List SVal} {fn : Func} {tmps : Array Value} (hr : Rep env st w) (ht : DenT env ts tmps) {ss : List SVal} (h : (resultsS P ts st fn.results.toList).at ss) :
    ∃ v, (results fn tmps).run P w = .ok v w ∧ Den env (oneOr ss) v := by
  obtain ⟨vs, hvs, hd⟩ := resultsS_ok hr ht h
  have harr : (fn.results.mapM (resF tmps)).run P w = .ok ⟨vs⟩ w := by
    rw [Array.mapM_eq_mapM_toList]
    simp only [Sem.run_bind, map_eq_pure_bind, hvs, Result.andThen_ok, Sem.run_pure]
  refine ⟨if h : (⟨vs⟩ : Array Value).size = 1 then (⟨vs⟩ : Array Value)[0] else .tuple ⟨vs⟩, ?_, ?_⟩
  · show ((do let vs ← fn.results.mapM (resF tmps); pure (if h : vs.size = 1 then vs[0] else .tuple vs)) : Sem Value).run P w = _
    simp only [Sem.run_bind, harr, Result.andThen_ok, Sem.run_pure]
  · cases ss with
    | nil => simp only [DenL] at hd; subst hd; simp [oneOr, Den, DenL]
    | cons s ss =>
      simp only [DenL] at hd
      obtain ⟨u, us, rfl, h1, h2⟩ := hd
      cases ss with
      | nil => simp only [DenL] at h2; subst h2; simpa [oneOr] using h1
      | cons s2 ss =>
        have h2' := h2
        simp only [DenL] at h2
        obtain ⟨u2, us2, rfl, _, _⟩ := h2
        simp only [oneOr, Den]
        exact ⟨u :: u2 :: us2, by simp, denL_cons.2 ⟨h1, h2'⟩⟩

/-- what a runner of code is relied on for -/
def RunOk (c : Cfg) (run : Code → List SVal → St → T Res) : Prop :=
  ∀ (code : Code) (ts : List SVal) (st : St) (e : Ex) (ts' : List SVal) (st' : St) (env : Env) (w : World) (a : Act) (Q : Exit → Act → World → Prop), (run code ts st).at (e, ts', st') → GlOk c.gl env → Rep env st w → DenT env ts a.tmps →
    After env st w a ts' st' (Q e.to) → code.wp c.P Q a w

theorem denL_bads {env : Env} : ∀ n : Nat, DenL env (List.replicate n .bad) (List.replicate n undef)
  | 0 => denL_nil
  | n + 1 => denL_cons.2 ⟨by simp [Den], denL_bads n⟩

theorem enterS_ok {c : Cfg} (hsm : SmOk c) {run : Code → List SVal → St → T Res} (hrun : RunOk c run) : CallOk c (enterS c run) := by
  intro f args st s st' env w vs h hcal hg hr hargs
  unfold enterS at h
  split at h
  · rename_i g hf
    exact hsm f g hf args st s st' env w vs h hg hr hargs
  · split at h
    · rename_i fn hfn
      split at h
      · rename_i b hb
        rw [T.at_bind] at h
        obtain ⟨⟨e, ts1, st1⟩, h1, h2⟩ := h
        refine calls_of_wp hfn hb ?_
        have hlen := denL_length hargs
        have hfr : DenT env (args ++ List.replicate (fn.ntmps - args.length) .bad) ((⟨vs⟩ : Array Value) ++ Array.replicate (fn.ntmps - (⟨vs⟩ : Array Value).size) undef) := by
          refine ⟨vs ++ List.replicate (fn.ntmps - args.length) undef, ?_, denL_append hargs (denL_bads _)⟩
          apply Array.ext'
          simp [hlen]
        refine hrun b _ st e ts1 st1 env w _ _ h1 hg hr hfr ?_
        intro env' a' w' hx' hr' ht' hd'
        have fin : (resultsS c.P ts1 st1 fn.results.toList |>.bind fun l => T.ret (oneOr l, st1)).at (s, st') → a'.defers = [] ∧ ∃ v, (results fn a'.tmps).run c.P w' = .ok v w' ∧
            ∃ env'' v', Ending.returned v = .returned v' ∧ Ext env st w env'' st' w' ∧ Rep env'' st' w' ∧ Den env'' s v' := by
          intro h
          rw [T.at_bind] at h
          obtain ⟨ss, h3, h4⟩ := h
          simp only [T.at, Prod.mk.injEq] at h4
          obtain ⟨rfl, rfl⟩ := h4
          obtain ⟨v, hv, hdv⟩ := results_ok hr' ht' h3
          exact ⟨hd', v, hv, env', v, rfl, hx', hr', hdv⟩
        cases e with
        | normal => exact fin h2
        | exit id => exact h2.elim
        | ret => exact fin h2
      · exact h.elim
    · exact h.elim

/-- a loop, so many rounds -/
def LoopOk (c : Cfg) (n : Nat) : Prop :=
  ∀ (b : Code) (ts : List SVal) (st : St) (e : Ex) (ts' : List SVal) (st' : St) (env : Env) (w : World) (a : Act) (Q : Exit → Act → World → Prop), (exec c n (.loop b) ts st).at (e, ts', st') → GlOk c.gl env → Rep env st w → DenT env ts a.tmps →
    After env st w a ts' st' (Q e.to) → Code.rounds c.P b Q n a w

theorem loop_step {c : Cfg} {n : Nat} (ih : RunOk c (exec c n)) (il : LoopOk c n) : LoopOk c (n + 1) := by
  intro b ts st e ts' st' env w a Q h hg hr ht hk
  simp only [exec] at h
  rw [T.at_bind] at h
  obtain ⟨⟨e1, ts1, st1⟩, h1, h2⟩ := h
  rw [rounds_succ]
  refine ih b ts st e1 ts1 st1 env w a _ h1 hg hr ht ?_
  cases e1 with
  | normal =>
    intro env1 a1 w1 hx1 hr1 ht1 hd1
    exact il b ts1 st1 e ts' st' env1 w1 a1 Q h2 (hg.ext hx1) hr1 ht1 (hk.step hx1 hd1)
  | exit id =>
    simp only [T.at, Prod.mk.injEq] at h2
    obtain ⟨rfl, rfl, rfl⟩ := h2
    exact hk
  | ret =>
    simp only [T.at, Prod.mk.injEq] at h2
    obtain ⟨rfl, rfl, rfl⟩ := h2
    exact hk

theorem exec_both {c : Cfg} (hsm : SmOk c) : ∀ n, RunOk c (exec c n) ∧ LoopOk c n
  | 0 => ⟨by intro code ts st e ts' st' env w a Q h; exact h.elim, by intro b ts st e ts' st' env w a Q h; exact h.elim⟩
  | n + 1 => by
    obtain ⟨ih, il⟩ := exec_both hsm n
    have hc : CallOk c (enterS c (exec c n)) := enterS_ok hsm ih
    have il' := loop_step ih il
    refine ⟨?_, il'⟩
    intro code ts st e ts' st' env w a Q h hg hr ht hk
    have h0 := h
    cases code <;> simp only [exec] at h
    case skip =>
      simp only [T.at, Prod.mk.injEq] at h
      obtain ⟨rfl, rfl, rfl⟩ := h
      exact wp_skip (hk env a w (Ext.refl _ _ _) hr ht rfl)
    case label l =>
      simp only [T.at, Prod.mk.injEq] at h
      obtain ⟨rfl, rfl, rfl⟩ := h
      exact wp_label (hk env a w (Ext.refl _ _ _) hr ht rfl)
    case ret =>
      simp only [T.at, Prod.mk.injEq] at h
      obtain ⟨rfl, rfl, rfl⟩ := h
      exact wp_ret (hk env a w (Ext.refl _ _ _) hr ht rfl)
    case exit id =>
      simp only [T.at, Prod.mk.injEq] at h
      obtain ⟨rfl, rfl, rfl⟩ := h
      exact wp_exit (hk env a w (Ext.refl _ _ _) hr ht rfl)
    case seq x y =>
      rw [T.at_bind] at h
      obtain ⟨⟨e1, ts1, st1⟩, h1, h2⟩ := h
      refine wp_seq (ih x ts st e1 ts1 st1 env w a _ h1 hg hr ht ?_)
      cases e1 with
      | normal =>
        intro env1 a1 w1 hx1 hr1 ht1 hd1
        exact ih y ts1 st1 e ts' st' env1 w1 a1 Q h2 (hg.ext hx1) hr1 ht1 (hk.step hx1 hd1)
      | exit id =>
        simp only [T.at, Prod.mk.injEq] at h2
        obtain ⟨rfl, rfl, rfl⟩ := h2
        exact hk
      | ret =>
        simp only [T.at, Prod.mk.injEq] at h2
        obtain ⟨rfl, rfl, rfl⟩ := h2
        exact hk
    case cond x y z =>
      have hev := evS_ok hg ht x
      split at h
      · rename_i hx
        rw [hx] at hev; simp only [Den] at hev
        exact wp_cond_true hev (ih y ts st e ts' st' env w a Q h hg hr ht hk)
      · rename_i hx
        rw [hx] at hev; simp only [Den] at hev
        exact wp_cond_false hev (ih z ts st e ts' st' env w a Q h hg hr ht hk)
      · rename_i p hx
        rw [hx] at hev; simp only [Den] at hev
        simp only [T.at] at h
        rcases h with ⟨rfl, h⟩ | ⟨rfl, h⟩
        · exact wp_cond_true hev (ih y ts st e ts' st' env w a Q h hg hr ht hk)
        · exact wp_cond_false hev (ih z ts st e ts' st' env w a Q h hg hr ht hk)
      · exact h.elim
    case block id b =>
      rw [T.at_bind] at h
      obtain ⟨⟨e1, ts1, st1⟩, h1, h2⟩ := h
      refine wp_block (ih b ts st e1 ts1 st1 env w a _ h1 hg hr ht ?_)
      cases e1 with
      | normal =>
        simp only [T.at, Prod.mk.injEq] at h2
        obtain ⟨rfl, rfl, rfl⟩ := h2
        exact hk
      | ret =>
        simp only [T.at, Prod.mk.injEq] at h2
        obtain ⟨rfl, rfl, rfl⟩ := h2
        exact hk
      | exit id' =>
        simp only at h2
        split at h2
        · rename_i heq _
          simp only [T.at, Prod.mk.injEq] at h2
          obtain ⟨rfl, rfl, rfl⟩ := h2
          intro env1 a1 w1 hx1 hr1 ht1 hd1
          simp only [Ex.to, Exit.inBlock, heq, if_true]
          exact hk env1 a1 w1 hx1 hr1 ht1 hd1
        · rename_i hne _
          simp only [T.at, Prod.mk.injEq] at h2
          obtain ⟨rfl, rfl, rfl⟩ := h2
          intro env1 a1 w1 hx1 hr1 ht1 hd1
          simp only [Ex.to, Exit.inBlock, hne, if_false]
          exact hk env1 a1 w1 hx1 hr1 ht1 hd1
    case loop b =>
      exact wp_loop_rounds (n + 1) (il' b ts st e ts' st' env w a Q h0 hg hr ht hk)
    case scope b =>
      refine wp_scope_straight (ih b ts st e ts' st' env w a _ h hg hr ht ?_)
      cases e <;> exact hk
    case region id ops draw =>
      cases draw with
      | false =>
        simp only at h
        rw [T.at_bind] at h
        obtain ⟨⟨ts1, st1⟩, h1, h2⟩ := h
        simp only [T.at, Prod.mk.injEq] at h2
        obtain ⟨rfl, rfl, rfl⟩ := h2
        exact wp_region_list (listS_ok hc hg hr ht h1 hk)
      | true =>
        simp only at h
        rw [T.at_bind] at h
        obtain ⟨⟨ts1, st1⟩, h1, h2⟩ := h
        simp only [T.at, Prod.mk.injEq] at h2
        obtain ⟨rfl, rfl, rfl⟩ := h2
        exact drawS_ok hc hg hr ht h1 hk
    all_goals exact h.elim

theorem exec_ok {c : Cfg} (hsm : SmOk c) (n : Nat) : RunOk c (exec c n) := (exec_both hsm n).1
theorem callF_ok {c : Cfg} (hsm : SmOk c) (n : Nat) : CallOk c (callF c n) := enterS_ok hsm (exec_ok hsm n)
end Go.Proofs.YtmknmbacecjfmaaDoor.Sx

/- Paths through a tree; runs that are closed. -/
namespace Go.Proofs.YtmknmbacecjfmaaDoor.Sx
set_option linter.unusedVariables false

/-- at each node: the yes branch, the no branch, a need that is kept, a need that is closed, an equation -/
inductive Dir where
  | t | f | k | l | e
/-- a way down, what must hold on it, and where it ends -/
def T.path {α : Type 1} : T α → List Dir → Option (List Bool × List Prop × α)
  | .ret a, [] => some ([], [], a)
  | .br b t f, d :: ds => match d with
    | .t => (t.path ds).map fun r => (b :: r.1, r.2)
    | .f => (f.path ds).map fun r => ((!b) :: r.1, r.2)
    | _ => none
  | .need b t, d :: ds => match d with
    | .k => (t.path ds).map fun r => (b :: r.1, r.2)
    | .l => match b with
      | true => t.path ds
      | false => none
    | _ => none
  | .eq p t, d :: ds => match d with
    | .e => (t.path ds).map fun r => (r.1, p :: r.2.1, r.2.2)
    | _ => none
  | _, _ => none
def AllB : List Bool → Prop
  | [] => True
  | b :: l => b = true ∧ AllB l
def AllP : List Prop → Prop
  | [] => True
  | p :: l => p ∧ AllP l
theorem T.path_at {α : Type 1} : ∀ {t : T α} {ds : List Dir} {cs : List Bool} {ps : List Prop} {a : α}, t.path ds = some (cs, ps, a) → AllB cs → AllP ps → t.at a
  | .ret x, [], cs, ps, a, h, hc, hp => by
    simp only [T.path, Option.some.injEq, Prod.mk.injEq] at h
    exact h.2.2
  | .ret x, d :: ds, cs, ps, a, h, hc, hp => by simp [T.path] at h
  | .no n, ds, cs, ps, a, h, hc, hp => by cases ds <;> simp [T.path] at h
  | .br b t f, [], cs, ps, a, h, hc, hp => by simp [T.path] at h
  | .br b t f, d :: ds, cs, ps, a, h, hc, hp => by
    cases d <;> simp only [T.path, Option.map_eq_some_iff, reduceCtorEq] at h
    · obtain ⟨⟨cs', ps', a'⟩, h1, h2⟩ := h
      simp only [Prod.mk.injEq] at h2
      obtain ⟨rfl, rfl, rfl⟩ := h2
      exact .inl ⟨hc.1, T.path_at h1 hc.2 hp⟩
    · obtain ⟨⟨cs', ps', a'⟩, h1, h2⟩ := h
      simp only [Prod.mk.injEq] at h2
      obtain ⟨rfl, rfl, rfl⟩ := h2
      exact .inr ⟨by simpa using hc.1, T.path_at h1 hc.2 hp⟩
  | .need b t, [], cs, ps, a, h, hc, hp => by simp [T.path] at h
  | .need b t, d :: ds, cs, ps, a, h, hc, hp => by
    cases d <;> simp only [T.path, Option.map_eq_some_iff, reduceCtorEq] at h
    · obtain ⟨⟨cs', ps', a'⟩, h1, h2⟩ := h
      simp only [Prod.mk.injEq] at h2
      obtain ⟨rfl, rfl, rfl⟩ := h2
      exact ⟨hc.1, T.path_at h1 hc.2 hp⟩
    · cases b with
      | true => exact ⟨rfl, T.path_at h hc hp⟩
      | false => simp at h
  | .eq p t, [], cs, ps, a, h, hc, hp => by simp [T.path] at h
  | .eq p t, d :: ds, cs, ps, a, h, hc, hp => by
    cases d <;> simp only [T.path, Option.map_eq_some_iff, reduceCtorEq] at h
    obtain ⟨⟨cs', ps', a'⟩, h1, h2⟩ := h
    simp only [Prod.mk.injEq] at h2
    obtain ⟨rfl, rfl, rfl⟩ := h2
    exact ⟨hp.1, T.path_at h1 hc hp.2⟩

/-- a run with nothing open; equations are not taken -/
def T.run {α : Type 1} : T α → Option α
  | .ret a => some a
  | .br b t f => match b with | true => t.run | false => f.run
  | .need b t => match b with | true => t.run | false => none
  | .eq _ _ => none
  | .no _ => none
theorem T.run_at {α : Type 1} : ∀ {t : T α} {a : α}, t.run = some a → t.at a
  | .ret x, a, h => by simpa [T.run, T.at] using h
  | .no n, a, h => by simp [T.run] at h
  | .eq p t, a, h => by simp [T.run] at h
  | .br b t f, a, h => by
    cases b
    · exact .inr ⟨rfl, T.run_at h⟩
    · exact .inl ⟨rfl, T.run_at h⟩
  | .need b t, a, h => by
    cases b
    · simp [T.run] at h
    · exact ⟨rfl, T.run_at h⟩
/-- only the value of a call that ran -/
def T.val (t : T (SVal × St)) : Option SVal := match t.run with | some p => some p.1 | none => none
theorem T.val_at {t : T (SVal × St)} {s : SVal} (h : t.val = some s) : ∃ st', t.at (s, st') := by
  unfold T.val at h
  cases hr : t.run with
  | none => simp [hr] at h
  | some p => simp only [hr, Option.some.injEq] at h; subst h; exact ⟨p.2, T.run_at hr⟩
/-- where a run stops: for looking only -/
def T.why {α : Type 1} : T α → Nat
  | .ret _ => 0
  | .br b t f => match b with | true => t.why | false => f.why
  | .need b t => match b with | true => t.why | false => 999
  | .eq _ _ => 998
  | .no n => n

/-- no memory, no names -/
theorem rep_nil (w : World) : Rep [] [] w := ⟨rfl, by simp, by simp, by simp⟩
end Go.Proofs.YtmknmbacecjfmaaDoor.Sx

/- States with names of their own: frames, what is reached, new names. -/
namespace Go.Proofs.YtmknmbacecjfmaaDoor.Sx
set_option linter.unusedVariables false

/-! ## frames of which some slots are kept -/
def findN (t : Nat) : List Nat → List SVal → SVal
  | n :: ns, v :: vs => match Nat.beq n t with
    | true => v
    | false => findN t ns vs
  | _, _ => .bad
/-- a frame of n slots, of which some are known -/
def fr (n : Nat) (names : List Nat) (vals : List SVal) : List SVal := (List.range n).map fun t => findN t names vals
def pick (names : List Nat) (ts : List SVal) : List SVal := names.map fun t => ts.getD t .bad
theorem findN_pick {t : Nat} {ts : List SVal} : ∀ {names : List Nat}, findN t names (pick names ts) = .bad ∨ findN t names (pick names ts) = ts.getD t .bad
  | [] => .inl rfl
  | n :: ns => by
    simp only [pick, List.map_cons, findN]
    split
    · rename_i h; have := Nat.eq_of_beq_eq_true h; subst this; exact .inr rfl
    · exact findN_pick
theorem fr_length (n : Nat) (names : List Nat) (vals : List SVal) : (fr n names vals).length = n := by simp [fr]
theorem fr_getD {n t : Nat} {names : List Nat} {vals : List SVal} (h : t < n) : (fr n names vals).getD t .bad = findN t names vals := by
  simp [fr, List.getD_eq_getElem?_getD, h]
/-- from a whole frame to what is kept of it -/
theorem denT_pick {env : Env} {ts : List SVal} {tmps : Array Value} (h : DenT env ts tmps) (names : List Nat) {n : Nat} (hn : ts.length = n) : DenT env (fr n names (pick names ts)) tmps := by
  rw [denT_iff] at h ⊢
  refine ⟨by rw [fr_length, h.1, hn], fun t ht => ?_⟩
  rw [fr_length] at ht
  rw [fr_getD ht]
  rcases findN_pick (t := t) (ts := ts) (names := names) with h1 | h1
  · rw [h1]; simp [Den]
  · rw [h1]; exact h.2 t (by omega)
/-- the kept ones are all that is asked -/
theorem denT_fr {env : Env} {n : Nat} {names : List Nat} {vals vals' : List SVal} {tmps : Array Value} (h : DenT env (fr n names vals) tmps) {env' : Env} (hs : ∀ t v, Den env (findN t names vals) v → Den env' (findN t names vals') v) :
    DenT env' (fr n names vals') tmps := by
  rw [denT_iff] at h ⊢
  refine ⟨by rw [fr_length]; simpa [fr_length] using h.1, fun t ht => ?_⟩
  rw [fr_length] at ht
  rw [fr_getD ht]
  have := h.2 t (by rw [fr_length]; exact ht)
  rw [fr_getD ht] at this
  exact hs t _ this

/-! ## new names -/
def renRows {X : Type} (m : List Nat) (E : Enc X) (xs : List X) : List (List SVal) := xs.map fun x => renL m (E.enc x)
def renSeg (m : List Nat) : Seg → Option Seg
  | .c v => some (.c (ren m v))
  | .a E n xs => match keepsE m E with | true => some (.a E n xs) | false => none
def renSegs (m : List Nat) : List Seg → Option (List Seg)
  | [] => some []
  | s :: l => match renSeg m s, renSegs m l with
    | some s, some l => some (s :: l)
    | _, _ => none
def renBlk (m : List Nat) : Blk → Option Blk
  | .own segs T => match renSegs m segs with | some s => some (.own s T) | none => none
  | .vec E xs T => match keepsE m E with | true => some (.vec E xs T) | false => some (.vec (encRow (E.sz - 1)) (renRows m E xs) T)
  | .ro E xs => match keepsE m E with | true => some (.ro E xs) | false => some (.ro (encRow (E.sz - 1)) (renRows m E xs))
  | .many E xs T => match keepsE m E with | true => some (.many E xs T) | false => none
  | .rows o k xss => some (.rows o k xss)
  | .gone => some .gone
def renSt (m : List Nat) (st : St) : List Nat → Option St
  | [] => some []
  | i :: r => match st[i]? with
    | some b => match renBlk m b, renSt m st r with
      | some b, some l => some (b :: l)
      | _, _ => none
    | none => none
def nodupB : List Nat → Bool
  | [] => true
  | i :: l => !(l.contains i) && nodupB l
def subEnv (env : Env) (ids : List Nat) : Env := ids.map fun i => env.getD i ⟨0, 0, 0, []⟩

theorem idx_spec {i : Nat} : ∀ {m : List Nat} {k j : Nat}, idx i m k = some j → k ≤ j ∧ m[j - k]? = some i
  | [], k, j, h => by simp [idx] at h
  | x :: m, k, j, h => by
    simp only [idx] at h
    split at h
    · rename_i hx
      have := Nat.eq_of_beq_eq_true hx
      simp only [Option.some.injEq] at h; subst h; subst this
      simp
    · obtain ⟨h1, h2⟩ := idx_spec h
      refine ⟨by omega, ?_⟩
      rw [show j - k = (j - (k + 1)) + 1 by omega]
      simpa using h2
theorem idx_env {env : Env} {m : List Nat} {i j : Nat} {e : Slot} (h : idx i m 0 = some j) (he : env[i]? = some e) : (subEnv env m)[j]? = some e := by
  obtain ⟨_, h2⟩ := idx_spec h
  rw [Nat.sub_zero] at h2
  simp [subEnv, h2, List.getD_eq_getElem?_getD, he]
mutual
theorem ren_den {env : Env} {m : List Nat} : ∀ (s : SVal) (v : Value), Den env s v → Den (subEnv env m) (ren m s) v
  | .lit k n, v, h => by simpa only [ren, Den] using h
  | .int k x, v, h => by simpa only [ren, Den] using h
  | .bl b, v, h => by simpa only [ren, Den] using h
  | .sb b, v, h => by simpa only [ren, Den] using h
  | .sl l, v, h => by simpa only [ren, Den] using h
  | .str s, v, h => by simpa only [ren, Den] using h
  | .pnil, v, h => by simpa only [ren, Den] using h
  | .ptr id o, v, h => by
    simp only [ren]
    split
    · rename_i j hj
      simp only [Den] at h ⊢
      obtain ⟨e, h1, h2⟩ := h
      exact ⟨e, idx_env hj h1, h2⟩
    · simp [Den]
  | .pti id o i sz j, v, h => by
    simp only [ren]
    split
    · rename_i j hj
      simp only [Den] at h ⊢
      obtain ⟨e, h1, h2⟩ := h
      exact ⟨e, idx_env hj h1, h2⟩
    · simp [Den]
  | .ptw id i j, v, h => by
    simp only [ren]
    split
    · rename_i k hk
      simp only [Den] at h ⊢
      obtain ⟨e, b, o, h1, h2⟩ := h
      exact ⟨e, b, o, idx_env hk h1, h2⟩
    · simp [Den]
  | .slr id i j, v, h => by
    simp only [ren]
    split
    · rename_i k hk
      simp only [Den] at h ⊢
      obtain ⟨e, b, o, h1, h2⟩ := h
      exact ⟨e, b, o, idx_env hk h1, h2⟩
    · simp [Den]
  | .pto id i j, v, h => by
    simp only [ren]
    split
    · rename_i k hk
      simp only [Den] at h ⊢
      obtain ⟨e, b, h1, h2⟩ := h
      exact ⟨e, b, idx_env hk h1, h2⟩
    · simp [Den]
  | .sw b x y, v, h => by
    simp only [ren, Den] at h ⊢
    rcases h with ⟨hb, h⟩ | ⟨hb, h⟩
    · exact .inl ⟨hb, ren_den x v h⟩
    · exact .inr ⟨hb, ren_den y v h⟩
  | .snil, v, h => by simpa only [ren, Den] using h
  | .sli id o sz n cp, v, h => by
    simp only [ren]
    split
    · rename_i j hj
      simp only [Den] at h ⊢
      obtain ⟨e, a, h1, h2⟩ := h
      exact ⟨e, a, idx_env hj h1, h2⟩
    · simp [Den]
  | .ifc t s, v, h => by
    simp only [ren, Den] at h ⊢
    obtain ⟨u, h1, h2⟩ := h
    exact ⟨u, h1, ren_den s u h2⟩
  | .inil, v, h => by simpa only [ren, Den] using h
  | .fn f a b, v, h => by
    simp only [ren, Den] at h ⊢
    obtain ⟨us, cs, h1, h2, h3⟩ := h
    exact ⟨us, cs, h1, renL_den a us h2, renL_den b cs h3⟩
  | .fnil, v, h => by simpa only [ren, Den] using h
  | .agg l, v, h => by
    simp only [ren, Den] at h ⊢
    obtain ⟨vs, h1, h2⟩ := h
    exact ⟨vs, h1, renL_den l vs h2⟩
  | .tup l, v, h => by
    simp only [ren, Den] at h ⊢
    obtain ⟨vs, h1, h2⟩ := h
    exact ⟨vs, h1, renL_den l vs h2⟩
  | .raw u, v, h => by simpa only [ren, Den] using h
  | .bad, v, h => by simp only [ren, Den]
theorem renL_den {env : Env} {m : List Nat} : ∀ (l : List SVal) (vs : List Value), DenL env l vs → DenL (subEnv env m) (renL m l) vs
  | [], vs, h => by simpa only [renL, DenL] using h
  | s :: l, vs, h => by
    simp only [renL, DenL] at h ⊢
    obtain ⟨u, us, h1, h2, h3⟩ := h
    exact ⟨u, us, h1, ren_den s u h2, renL_den l us h3⟩
end
theorem flat_shut {X : Type} (E : Enc X) (h : E.shut = true) {env env' : Env} : ∀ {xs : List X} {cs : List Value}, DenL env (xs.flatMap E.enc) cs → DenL env' (xs.flatMap E.enc) cs
  | [], cs, hd => by simpa [DenL] using hd
  | x :: xs, cs, hd => by
    simp only [List.flatMap_cons] at hd ⊢
    obtain ⟨us, ws, rfl, h1, h2⟩ := denL_split hd
    exact denL_append (E.shutOk h env env' x us h1) (flat_shut E h h2)
theorem renL_append {m : List Nat} : ∀ {a b : List SVal}, renL m (a ++ b) = renL m a ++ renL m b
  | [], b => by simp [renL]
  | s :: a, b => by simp [renL, renL_append (a := a)]
theorem renL_length {m : List Nat} : ∀ {a : List SVal}, (renL m a).length = a.length
  | [] => by simp [renL]
  | s :: a => by simp [renL, renL_length (a := a)]
theorem keepsE_flat {X : Type} {m : List Nat} {E : Enc X} (he : ∀ x, renL m (E.enc x) = E.enc x) : ∀ {xs : List X}, renL m (xs.flatMap E.enc) = xs.flatMap E.enc
  | [] => by simp [renL]
  | x :: xs => by simp only [List.flatMap_cons, renL_append]; rw [he, keepsE_flat he]
theorem keeps_den {X : Type} {m : List Nat} {E : Enc X} (h : keepsE m E = true) {env : Env} {xs : List X} {cs : List Value} (hd : DenL env (xs.flatMap E.enc) cs) : DenL (subEnv env m) (xs.flatMap E.enc) cs := by
  unfold keepsE at h
  split at h
  · rename_i hs; exact flat_shut E hs hd
  · split at h
    · rename_i k hk
      rw [← keepsE_flat (E.topOk k hk m (natsEq_eq h))]
      exact renL_den _ _ hd
    · cases h
theorem renRows_flat {X : Type} {m : List Nat} {E : Enc X} : ∀ {xs : List X}, (renRows m E xs).flatMap (encRow (E.sz - 1)).enc = renL m (xs.flatMap E.enc)
  | [] => by simp [renRows, renL]
  | x :: xs => by
    have h1 : (encRow (E.sz - 1)).enc (renL m (E.enc x)) = renL m (E.enc x) := by
      refine padTo_self ?_
      rw [renL_length, E.len]
      have := E.pos
      omega
    have ih := renRows_flat (m := m) (E := E) (xs := xs)
    simp only [renRows, List.map_cons, List.flatMap_cons, renL_append] at ih ⊢
    rw [h1, ih]
theorem renRows_sz {X : Type} (E : Enc X) : (encRow (E.sz - 1)).sz = E.sz := by
  have := E.pos
  show E.sz - 1 + 1 = E.sz
  omega
theorem renSegs_den {env : Env} {m : List Nat} : ∀ {l l' : List Seg} {cs : List Value}, renSegs m l = some l' → DenL env (segCells l) cs → segFits l → DenL (subEnv env m) (segCells l') cs ∧ segFits l'
  | [], l', cs, h, hd, hf => by
    simp only [renSegs, Option.some.injEq] at h; subst h
    simp only [segCells, List.flatMap_nil, DenL] at hd ⊢
    exact ⟨hd, hf⟩
  | s :: l, l', cs, h, hd, hf => by
    simp only [renSegs] at h
    split at h
    · rename_i s' l'' h1 h2
      simp only [Option.some.injEq] at h; subst h
      simp only [segCells, List.flatMap_cons] at hd ⊢
      obtain ⟨us, ws, rfl, h3, h4⟩ := denL_split hd
      obtain ⟨k1, k2⟩ := renSegs_den (l := l) h2 h4 (fun s hs => hf s (List.mem_cons_of_mem _ hs))
      have hs : DenL (subEnv env m) s'.cells us ∧ s'.fits := by
        cases s with
        | c v =>
          simp only [renSeg, Option.some.injEq] at h1; subst h1
          simp only [Seg.cells] at h3 ⊢
          refine ⟨?_, trivial⟩
          simp only [DenL] at h3 ⊢
          obtain ⟨u, us, rfl, h5, rfl⟩ := h3
          exact ⟨u, [], rfl, ren_den v u h5, rfl⟩
        | a E n xs =>
          simp only [renSeg] at h1
          split at h1
          · rename_i hsh
            simp only [Option.some.injEq] at h1; subst h1
            exact ⟨keeps_den hsh h3, hf _ List.mem_cons_self⟩
          · simp at h1
      refine ⟨denL_append hs.1 k1, fun s'' hs'' => ?_⟩
      rcases List.mem_cons.1 hs'' with rfl | hs''
      · exact hs.2
      · exact k2 s'' hs''
    · simp at h
theorem renBlk_holds {env : Env} {m : List Nat} {e : Slot} {w : World} {b b' : Blk} (h : renBlk m b = some b') (hh : b.holds env e w) : b'.holds (subEnv env m) e w ∧ b'.foot e = b.foot e ∧ b'.supp e = b.supp e := by
  cases b with
  | own segs T =>
    simp only [renBlk] at h
    split at h
    · rename_i s hs
      simp only [Option.some.injEq] at h; subst h
      obtain ⟨h0, h1, cs, h2, h3⟩ := hh
      obtain ⟨k1, k2⟩ := renSegs_den hs h3 h1
      exact ⟨⟨h0, k2, cs, h2, k1⟩, rfl, rfl⟩
    · simp at h
  | vec E xs T =>
    simp only [renBlk] at h
    split at h
    · rename_i hs
      simp only [Option.some.injEq] at h; subst h
      obtain ⟨h0, h1, hh⟩ := hh
      refine ⟨⟨h0, h1, fun hc => ?_⟩, rfl, rfl⟩
      obtain ⟨cs, junk, h2, h3, h4⟩ := hh hc
      exact ⟨cs, junk, h2, keeps_den hs h3, h4⟩
    · simp only [Option.some.injEq] at h; subst h
      obtain ⟨h0, h1, hh⟩ := hh
      refine ⟨⟨h0, by simpa [renRows] using h1, fun hc => ?_⟩, rfl, rfl⟩
      obtain ⟨cs, junk, h2, h3, h4⟩ := hh hc
      exact ⟨cs, junk, h2, by rw [renRows_flat]; exact renL_den _ _ h3, by rw [renRows_sz]; exact h4⟩
  | ro E xs =>
    simp only [renBlk] at h
    split at h
    · rename_i hs
      simp only [Option.some.injEq] at h; subst h
      obtain ⟨cs, h1, h2⟩ := hh
      exact ⟨⟨cs, keeps_den hs h1, h2⟩, rfl, rfl⟩
    · simp only [Option.some.injEq] at h; subst h
      obtain ⟨cs, h1, h2⟩ := hh
      exact ⟨⟨cs, by rw [renRows_flat]; exact renL_den _ _ h1, h2⟩, rfl, by cases xs <;> rfl⟩
  | many E xs T =>
    simp only [renBlk] at h
    split at h
    · rename_i hs
      simp only [Option.some.injEq] at h; subst h
      obtain ⟨h0, h1, h2⟩ := hh
      refine ⟨⟨h0, h1, fun i b hb => ?_⟩, rfl, rfl⟩
      obtain ⟨cs, h3, h4⟩ := h2 i b hb
      exact ⟨cs, h3, by have := keeps_den (xs := [xs.getD i E.dflt]) hs (by simpa using h4); simpa using this⟩
    · simp at h
  | rows ow k xss =>
    simp only [renBlk, Option.some.injEq] at h; subst h
    exact ⟨hh, rfl, rfl⟩
  | gone => simp only [renBlk, Option.some.injEq] at h; subst h; exact ⟨trivial, rfl, rfl⟩

theorem renSt_get {m : List Nat} {st : St} : ∀ {ids : List Nat} {st' : St}, renSt m st ids = some st' → st'.length = ids.length ∧ ∀ (k : Nat) (b' : Blk), st'[k]? = some b' → ∃ (i : Nat) (b : Blk), ids[k]? = some i ∧ st[i]? = some b ∧ renBlk m b = some b'
  | [], st', h => by simp only [renSt, Option.some.injEq] at h; subst h; simp
  | i :: ids, st', h => by
    simp only [renSt] at h
    split at h
    · rename_i b hb
      split at h
      · rename_i b' l h1 h2
        simp only [Option.some.injEq] at h; subst h
        obtain ⟨k1, k2⟩ := renSt_get h2
        refine ⟨by simp [k1], fun k c hc => ?_⟩
        cases k with
        | zero => simp at hc; subst hc; exact ⟨i, b, rfl, hb, h1⟩
        | succ k => simpa using k2 k c (by simpa using hc)
      · simp at h
    · simp at h
theorem nodup_get : ∀ {ids : List Nat}, nodupB ids = true → ∀ {i j : Nat} {x : Nat}, ids[i]? = some x → ids[j]? = some x → i = j
  | [], _, i, j, x, hi, _ => by simp at hi
  | y :: ids, h, i, j, x, hi, hj => by
    simp only [nodupB, Bool.and_eq_true, Bool.not_eq_true'] at h
    obtain ⟨h1, h2⟩ := h
    have hno : ∀ k : Nat, ids[k]? ≠ some y := by
      intro k hk
      have : ids.contains y = true := List.contains_iff_mem.2 (List.mem_of_getElem? hk)
      rw [h1] at this; cases this
    cases i with
    | zero =>
      simp at hi; subst hi
      cases j with
      | zero => rfl
      | succ j => simp at hj; exact (hno j (by simpa using hj)).elim
    | succ i =>
      cases j with
      | zero => simp at hj; subst hj; exact (hno i (by simpa using hi)).elim
      | succ j =>
        have := nodup_get h2 (i := i) (j := j) (x := x) (by simpa using hi) (by simpa using hj)
        rw [this]

/-- some blocks under new names -/
theorem rep_sub {env : Env} {st st' : St} {w : World} (hr : Rep env st w) {ids : List Nat} (hn : nodupB ids = true) (h : renSt ids st ids = some st') :
    Rep (subEnv env ids) st' w ∧ ∀ x, inFoot (subEnv env ids) st' x → inFoot env st x := by
  obtain ⟨hl, hg⟩ := renSt_get h
  have get : ∀ {k : Nat} {e : Slot} {b' : Blk}, (subEnv env ids)[k]? = some e → st'[k]? = some b' → ∃ (i : Nat) (b : Blk), ids[k]? = some i ∧ env[i]? = some e ∧ st[i]? = some b ∧ renBlk ids b = some b' := by
    intro k e b' he hb
    obtain ⟨i, b, h1, h2, h3⟩ := hg k b' hb
    refine ⟨i, b, h1, ?_, h2, h3⟩
    have hi : i < env.length := by rw [hr.len]; exact (List.getElem?_eq_some_iff.1 h2).1
    have he' : env[i]? = some env[i] := by simp [hi]
    simp only [subEnv, List.getElem?_map, h1, Option.map_some, List.getD_eq_getElem?_getD, he', Option.getD_some, Option.some.injEq] at he
    rw [he', he]
  refine ⟨⟨by simp [subEnv, hl], ?_, ?_, ?_⟩, ?_⟩
  · intro k e b' he hb
    obtain ⟨i, b, h1, h2, h3, h4⟩ := get he hb
    exact (renBlk_holds h4 (hr.holds i e b h2 h3)).1
  · intro k l e f b' c' hkl he hf hb hc x hx hx'
    obtain ⟨i, b, h1, h2, h3, h4⟩ := get he hb
    obtain ⟨j, c, g1, g2, g3, g4⟩ := get hf hc
    have hij : i ≠ j := fun hij => hkl (nodup_get hn h1 (by rw [hij]; exact g1))
    rw [(renBlk_holds h4 (hr.holds i e b h2 h3)).2.1] at hx
    rw [(renBlk_holds g4 (hr.holds j f c g2 g3)).2.2] at hx'
    exact hr.apart i j e f b c hij h2 g2 h3 g3 x hx hx'
  · intro k e b' he hb x hx
    obtain ⟨i, b, h1, h2, h3, h4⟩ := get he hb
    rw [(renBlk_holds h4 (hr.holds i e b h2 h3)).2.2] at hx
    exact hr.low i e b h2 h3 x hx
  · rintro x ⟨k, e, b', he, hb, hx⟩
    obtain ⟨i, b, h1, h2, h3, h4⟩ := get he hb
    rw [(renBlk_holds h4 (hr.holds i e b h2 h3)).2.1] at hx
    exact ⟨i, e, b, h2, h3, hx⟩

/-! ## what is reached -/
mutual
def idsOf : SVal → List Nat
  | .ptr id _ => [id]
  | .pti id _ _ _ _ => [id]
  | .pto id _ _ => [id]
  | .ptw id _ _ => [id]
  | .slr id _ _ => [id]
  | .sw _ x y => idsOf x ++ idsOf y
  | .sli id _ _ _ _ => [id]
  | .ifc _ v => idsOf v
  | .fn _ a b => idsOfL a ++ idsOfL b
  | .agg l => idsOfL l
  | .tup l => idsOfL l
  | _ => []
def idsOfL : List SVal → List Nat
  | [] => []
  | s :: l => idsOf s ++ idsOfL l
end
def topIds {X : Type} (E : Enc X) : List Nat := match E.shut with
  | true => []
  | false => match E.top with
    | some k => List.range k
    | none => []
def idsSegs : List Seg → List Nat
  | [] => []
  | .c v :: r => idsOf v ++ idsSegs r
  | .a E n xs :: r => topIds E ++ idsSegs r
def idsBlk : Blk → List Nat
  | .own segs _ => idsSegs segs
  | .vec E xs _ => match E.shut with | true => [] | false => match E.top with
    | some k => List.range k
    | none => idsOfL (xs.flatMap E.enc)
  | .ro E xs => match E.shut with | true => [] | false => match E.top with
    | some k => List.range k
    | none => idsOfL (xs.flatMap E.enc)
  | .many E xs _ => topIds E
  | _ => []
/-- the names that are reached, in the order in which they are met -/
def reach (st : St) : Nat → List Nat → List Nat → List Nat
  | 0, _, acc => acc.reverse
  | _, [], acc => acc.reverse
  | n + 1, i :: r, acc => match acc.contains i with
    | true => reach st n r acc
    | false => match st[i]? with
      | some (.gone) => reach st n r acc
      | some b => reach st n (idsBlk b ++ r) (i :: acc)
      | none => reach st n r acc
def glKept (ids : List Nat) : List (Nat × Nat) → Bool
  | [] => true
  | p :: r => match idx p.2 ids 0 with
    | some j => Nat.beq j p.2 && glKept ids r
    | none => false
/-- the state behind a piece of code, in its own names: the kept slots and what they reach; the package's variables keep theirs -/
def canon (gl : List (Nat × Nat)) (N : Nat) (names : List Nat) (r : Res) : T (Ex × List SVal × St) :=
  let vals := pick names r.2.1
  let ids := reach r.2.2 400 (gl.map (·.2) ++ idsOfL vals) []
  match nodupB ids && glKept ids gl && Nat.beq r.2.1.length N, renSt ids r.2.2 ids with
  | true, some st => .ret (r.1, renL ids vals, st)
  | _, _ => .no 300

/-- where a call began, and which blocks it may change -/
structure From where
  w : World
  F : Nat → Prop
/-- all blocks that may change are new, or the call's own; nothing else has changed -/
structure Fresh (w0 : From) (env : Env) (st : St) (w : World) : Prop where
  size : w0.w.heap.size ≤ w.heap.size
  keep : ∀ x, x < w0.w.heap.size → ¬ w0.F x → w.heap[x]? = w0.w.heap[x]?
  foot : ∀ x, x < w0.w.heap.size → inFoot env st x → w0.F x
  calm : w.os = w0.w.os ∧ w.output = w0.w.output
theorem Fresh.ext {w0 : From} {env env' : Env} {st st' : St} {w w' : World} (h : Fresh w0 env st w) (hx : Ext env st w env' st' w') : Fresh w0 env' st' w' :=
  ⟨Nat.le_trans h.size hx.size, fun x hl hn => by rw [hx.keep x (Nat.lt_of_lt_of_le hl h.size) (fun hf => hn (h.foot x hl hf)), h.keep x hl hn], fun x hl hf => h.foot x hl (hx.foot x (Nat.lt_of_lt_of_le hl h.size) hf), hx.calm.1.trans h.calm.1, hx.calm.2.trans h.calm.2⟩
theorem Fresh.sub {w0 : From} {env env' : Env} {st st' : St} {w : World} (h : Fresh w0 env st w) (hs : ∀ x, inFoot env' st' x → inFoot env st x) : Fresh w0 env' st' w :=
  ⟨h.size, h.keep, fun x hl hf => h.foot x hl (hs x hf), h.calm⟩

theorem renL_find {m : List Nat} {t : Nat} : ∀ {names : List Nat} {vals : List SVal}, findN t names (renL m vals) = ren m (findN t names vals)
  | [], vals => by simp [findN, ren]
  | n :: ns, [] => by simp [findN, renL, ren]
  | n :: ns, v :: vs => by
    simp only [renL, findN]
    split
    · rfl
    · exact renL_find

theorem glKept_ok {ids : List Nat} {env : Env} : ∀ {gl : List (Nat × Nat)}, glKept ids gl = true → GlOk gl env → GlOk gl (subEnv env ids)
  | [], _, _ => by intro p hp; cases hp
  | q :: r, h, hg => by
    simp only [glKept] at h
    split at h
    · rename_i j hj
      simp only [Bool.and_eq_true] at h
      have := Nat.eq_of_beq_eq_true h.1
      subst this
      intro p hp
      rcases List.mem_cons.1 hp with rfl | hp
      · obtain ⟨e, h1, h2⟩ := hg p List.mem_cons_self
        exact ⟨e, idx_env hj h1, h2⟩
      · exact glKept_ok h.2 (fun p hp => hg p (List.mem_cons_of_mem _ hp)) p hp
    · cases h

/-- what a piece of code leaves, in its own names -/
theorem canon_ok {gl : List (Nat × Nat)} {N : Nat} {names : List Nat} {r : Res} {e : Ex} {vals : List SVal} {st' : St} (h : (canon gl N names r).at (e, vals, st')) {env : Env} {w : World} (hg : GlOk gl env) (hr : Rep env r.2.2 w) {tmps : Array Value} (ht : DenT env r.2.1 tmps) :
    r.1 = e ∧ ∃ env', GlOk gl env' ∧ Rep env' st' w ∧ DenT env' (fr N names vals) tmps ∧ ∀ x, inFoot env' st' x → inFoot env r.2.2 x := by
  unfold canon at h
  simp only at h
  split at h
  · rename_i st1 hnd hst
    simp only [Bool.and_eq_true] at hnd
    obtain ⟨⟨hnd, hgk⟩, hN⟩ := hnd
    have hN := Nat.eq_of_beq_eq_true hN
    simp only [T.at, Prod.mk.injEq] at h
    obtain ⟨rfl, rfl, rfl⟩ := h
    obtain ⟨h1, h2⟩ := rep_sub hr hnd hst
    refine ⟨rfl, _, glKept_ok hgk hg, h1, ?_, h2⟩
    refine denT_fr (denT_pick ht names hN) fun t v hd => ?_
    rw [renL_find]; exact ren_den _ v hd
  · exact h.elim

/-! ## pieces of code -/
theorem wp_weaken {P : Program} {c : Code} {Q Q' : Exit → Act → World → Prop} {a : Act} {w : World} (h : c.wp P Q a w) (hq : ∀ e a w, Q e a w → Q' e a w) : c.wp P Q' a w := wp_mono h hq

/-- where a program stands -/
structure At (gl : List (Nat × Nat)) (w0 : From) (env : Env) (ts : List SVal) (st : St) (a : Act) (w : World) : Prop where
  gl : GlOk gl env
  rep : Rep env st w
  den : DenT env ts a.tmps
  fresh : Fresh w0 env st w
  defers : a.defers = []

/-- a piece of code, along one way -/
theorem piece {c : Cfg} (hsm : SmOk c) {fuel N : Nat} {code : Code} {ts : List SVal} {st st' : St} {names : List Nat} {ds : List Dir} {cs : List Bool} {ps : List Prop} {e : Ex} {vals : List SVal}
    (hp : ((exec c fuel code ts st).bind (canon c.gl N names)).path ds = some (cs, ps, (e, vals, st'))) (hc : AllB cs) (hq : AllP ps) {w0 : From} {env : Env} {a : Act} {w : World} (hA : At c.gl w0 env ts st a w) {Q : Exit → Act → World → Prop}
    (hk : ∀ env' a' w', At c.gl w0 env' (fr N names vals) st' a' w' → Q e.to a' w') : code.wp c.P Q a w := by
  have h := T.path_at hp hc hq
  rw [T.at_bind] at h
  obtain ⟨⟨e1, ts1, st1⟩, h1, h2⟩ := h
  refine exec_ok hsm fuel code ts st e1 ts1 st1 env w a Q h1 hA.gl hA.rep hA.den ?_
  intro env1 a1 w1 hx1 hr1 ht1 hd1
  obtain ⟨rfl, env2, g2, r2, t2, f2⟩ := canon_ok h2 (hA.gl.ext hx1) hr1 ht1
  exact hk env2 a1 w1 ⟨g2, r2, t2, (hA.fresh.ext hx1).sub f2, by rw [hd1, hA.defers]⟩

/-- the first n links of a chain -/
def execN (c : Cfg) (fuel : Nat) : Nat → Code → List SVal → St → T Res
  | 0, _, ts, st => .ret (.normal, ts, st)
  | n + 1, code, ts, st => match code with
    | .seq a b => (exec c fuel a ts st).bind fun r => match r.1 with
      | .normal => execN c fuel n b r.2.1 r.2.2
      | _ => .ret r
    | _ => .no 114
/-- the rest -/
def restC : Nat → Code → Code
  | n + 1, .seq _ b => restC n b
  | _, c => c
theorem execN_ok {c : Cfg} (hsm : SmOk c) (fuel : Nat) : ∀ (n : Nat) (code : Code) (ts : List SVal) (st : St) (e : Ex) (ts' : List SVal) (st' : St) (env : Env) (w : World) (a : Act) (Q : Exit → Act → World → Prop),
    (execN c fuel n code ts st).at (e, ts', st') → GlOk c.gl env → Rep env st w → DenT env ts a.tmps →
    (∀ env' a' w', Ext env st w env' st' w' → Rep env' st' w' → DenT env' ts' a'.tmps → a'.defers = a.defers → Exit.then (fun a w => (restC n code).wp c.P Q a w) Q e.to a' w') → code.wp c.P Q a w
  | 0, code, ts, st, e, ts', st', env, w, a, Q, h, hg, hr, ht, hk => by
    simp only [execN, T.at, Prod.mk.injEq] at h
    obtain ⟨rfl, rfl, rfl⟩ := h
    have := hk env a w (Ext.refl ..) hr ht rfl
    simpa [restC, Ex.to, Exit.then] using this
  | n + 1, code, ts, st, e, ts', st', env, w, a, Q, h, hg, hr, ht, hk => by
    cases code with
    | seq x y =>
      simp only [execN] at h
      rw [T.at_bind] at h
      obtain ⟨⟨e1, ts1, st1⟩, h1, h2⟩ := h
      refine wp_seq (exec_ok hsm fuel x ts st e1 ts1 st1 env w a _ h1 hg hr ht ?_)
      intro env1 a1 w1 hx1 hr1 ht1 hd1
      cases e1 with
      | normal =>
        simp only [Ex.to, Exit.then]
        refine execN_ok hsm fuel n y ts1 st1 e ts' st' env1 w1 a1 Q h2 (hg.ext hx1) hr1 ht1 ?_
        intro env2 a2 w2 hx2 hr2 ht2 hd2
        have := hk env2 a2 w2 (hx1.trans hx2) hr2 ht2 (by rw [hd2, hd1])
        simpa only [restC] using this
      | exit id =>
        simp only [T.at, Prod.mk.injEq] at h2
        obtain ⟨rfl, rfl, rfl⟩ := h2
        exact hk env1 a1 w1 hx1 hr1 ht1 hd1
      | ret =>
        simp only [T.at, Prod.mk.injEq] at h2
        obtain ⟨rfl, rfl, rfl⟩ := h2
        exact hk env1 a1 w1 hx1 hr1 ht1 hd1
    | _ => exact h.elim
/-- the first links of a chain, along one way -/
theorem pieceN {c : Cfg} (hsm : SmOk c) {fuel N n : Nat} {code : Code} {ts : List SVal} {st st' : St} {names : List Nat} {ds : List Dir} {cs : List Bool} {ps : List Prop} {e : Ex} {vals : List SVal}
    (hp : ((execN c fuel n code ts st).bind (canon c.gl N names)).path ds = some (cs, ps, (e, vals, st'))) (hc : AllB cs) (hq : AllP ps) {w0 : From} {env : Env} {a : Act} {w : World} (hA : At c.gl w0 env ts st a w) {Q : Exit → Act → World → Prop}
    (hk : ∀ env' a' w', At c.gl w0 env' (fr N names vals) st' a' w' → Exit.then (fun a w => (restC n code).wp c.P Q a w) Q e.to a' w') : code.wp c.P Q a w := by
  have h := T.path_at hp hc hq
  rw [T.at_bind] at h
  obtain ⟨⟨e1, ts1, st1⟩, h1, h2⟩ := h
  refine execN_ok hsm fuel n code ts st e1 ts1 st1 env w a Q h1 hA.gl hA.rep hA.den ?_
  intro env1 a1 w1 hx1 hr1 ht1 hd1
  obtain ⟨rfl, env2, g2, r2, t2, f2⟩ := canon_ok h2 (hA.gl.ext hx1) hr1 ht1
  exact hk env2 a1 w1 ⟨g2, r2, t2, (hA.fresh.ext hx1).sub f2, by rw [hd1, hA.defers]⟩
end Go.Proofs.YtmknmbacecjfmaaDoor.Sx

