/- The objects of this layer: what they do, step by step. -/
import Derived.Test.YtplbncncnjiahaaDoorRga
import Derived.Test.YtplbncncnjiahaaDoorSxC
import Derived.Test.YtplbncncnjiahaaDoorCards
import Derived.Test.YtplbncncnjiahaaDoorTie
import Derived.ProofKit
import Derived.LaidMore
import Derived.OpenShut
import Derived.Stop.Joined
/- Layer 12, plain: a ring in small: what its sides' steps do to a queue of messages. -/
namespace Go.Proofs.YtplbncncnjiahaaDoor
open Go Go.Proofs.YtplbncncnjiahaaDoor.Sx
set_option linter.unusedVariables false
/-- how many words a message needs -/
def nw (s : ByteArray) : Nat := (s.size + 3) / 4
/-- a ring's sides and its queue, without indices -/
structure Ab where
  sent : List Bool
  sp : Nat
  sd : Nat
  sq : Nat
  got : List ByteArray
  rp : Nat
  rd : Nat
  rq : Nat
  q : List ByteArray
def aStepS (n : Int) (ms : List ByteArray) (A : Ab) : Ab :=
  if A.sent.length = ms.length then A else
  match A.sp with
  | 0 => ⟨A.sent, 1, A.sd, A.q.length, A.got, A.rp, A.rd, A.rq, A.q⟩
  | 1 => if n ≤ (A.sq : Int) then ⟨A.sent ++ [false], 0, A.sd, A.sq, A.got, A.rp, A.rd, A.rq, A.q⟩ else ⟨A.sent, 2, 0, A.sq, A.got, A.rp, A.rd, A.rq, A.q⟩
  | 2 => ⟨A.sent, if nw (ms.getD A.sent.length nilB) < A.sd + 1 then 3 else 2, A.sd + 1, A.sq, A.got, A.rp, A.rd, A.rq, A.q⟩
  | _ => ⟨A.sent ++ [true], 0, A.sd, A.sq, A.got, A.rp, A.rd, A.rq, A.q ++ [ms.getD A.sent.length nilB]⟩
def aStepR (t : Int) (A : Ab) : Ab :=
  if (A.got.length : Int) = t then A else
  match A.rp with
  | 0 => ⟨A.sent, A.sp, A.sd, A.sq, A.got, 1, A.rd, A.q.length, A.q⟩
  | 1 => if A.rq = 0 then ⟨A.sent, A.sp, A.sd, A.sq, A.got ++ [nilB], 0, A.rd, A.rq, A.q⟩ else ⟨A.sent, A.sp, A.sd, A.sq, A.got, 2, 0, A.rq, A.q⟩
  | 2 => ⟨A.sent, A.sp, A.sd, A.sq, A.got, if nw (A.q.headD nilB) < A.rd + 1 then 3 else 2, A.rd + 1, A.rq, A.q⟩
  | _ => ⟨A.sent, A.sp, A.sd, A.sq, A.got ++ [A.q.headD nilB], 0, A.rd, A.rq, A.q.tail⟩
structure RelM (k : Nat) (a n z : Int) (l : List Int) : Prop where
  at0 : 0 ≤ a
  room : a + 2 + n * (1 + (z + 3) / 4) ≤ k
  n1 : k ≤ 4096
  ll : l.length = k
  ring : RingOk n z
  us : U32s l
abbrev hdW (a : Int) (l : List Int) : Int := l.getD a.toNat 0
abbrev tlW (a : Int) (l : List Int) : Int := l.getD (a + 1).toNat 0
/-- what lies of a message in the place of an index: its length, and words -/
def Lies (a n z : Int) (l : List Int) (i : Int) (s : ByteArray) (d : Nat) : Prop :=
  (0 < d → l.getD (plc a n z i).toNat 0 = s.size) ∧ ∀ j : Nat, j + 1 < d → l.getD (plc a n z i + 1 + j).toNat 0 = packI s j
abbrev msg (ms : List ByteArray) (A : Ab) : ByteArray := ms.getD A.sent.length nilB
abbrev fitB (z : Int) (s : ByteArray) : Prop := 1 ≤ s.size ∧ (s.size : Int) ≤ z
structure RelQ (a n z : Int) (l : List Int) (q : List ByteArray) : Prop where
  tl : tlW a l = (hdW a l + q.length) % 4294967296
  cap : (q.length : Int) ≤ n
  fit : ∀ s ∈ q, fitB z s
  lies : ∀ j, j < q.length → Lies a n z l ((hdW a l + (j : Nat)) % 4294967296) (q.getD j nilB) (nw (q.getD j nilB) + 1)
structure RelS (a n z : Int) (ms : List ByteArray) (l : List Int) (x : Snd) (A : Ab) : Prop where
  at' : x.at' = a
  en : x.n = n
  ez : x.z = z
  sent : x.sent = A.sent
  p : x.p = A.sp
  p3 : A.sp ≤ 3
  le : A.sent.length ≤ ms.length
  ml : ms.length ≤ 1000
  fit : ∀ s ∈ ms, fitB z s
  tl : 0 ≤ x.tail ∧ x.tail < 4294967296
  s1 : A.sp = 1 → (tlW a l - x.head) % 4294967296 = (A.sq : Int) ∧ A.q.length ≤ A.sq ∧ (A.sq : Int) ≤ n
  s2 : 2 ≤ A.sp → A.sent.length < ms.length ∧ x.tail = tlW a l ∧ (A.q.length : Int) < n ∧ x.did = (A.sd : Int) ∧ Lies a n z l x.tail (msg ms A) A.sd
  e2 : A.sp = 2 → A.sd ≤ nw (msg ms A)
  e3 : A.sp = 3 → A.sd = nw (msg ms A) + 1
/-- the bytes of a message's first words -/
def bytesD (s : ByteArray) (d : Nat) : List Int := (List.range d).flatMap fun j => bytesI (packI s j)
structure RelR (a n z t : Int) (l : List Int) (y : Rcv) (A : Ab) : Prop where
  at' : y.at' = a
  en : y.n = n
  ez : y.z = z
  et : y.times = t
  t0 : 0 ≤ t ∧ t ≤ 1000
  got : y.got = A.got
  p : y.p = A.rp
  p3 : A.rp ≤ 3
  le : (A.got.length : Int) ≤ t
  hd : 0 ≤ y.head ∧ y.head < 4294967296
  bl : y.b.length ≤ 1000
  s1 : A.rp = 1 → y.tail = (hdW a l + (A.rq : Int)) % 4294967296 ∧ A.rq ≤ A.q.length
  s2 : 2 ≤ A.rp → y.head = hdW a l ∧ A.q ≠ [] ∧ y.did = (A.rd : Int) ∧ (0 < A.rd → y.ln = ((A.q.headD nilB).size : Int)) ∧ y.b = bytesD (A.q.headD nilB) (A.rd - 1)
  e2 : A.rp = 2 → A.rd ≤ nw (A.q.headD nilB)
  e3 : A.rp = 3 → A.rd = nw (A.q.headD nilB) + 1
structure Rel (k : Nat) (a n z t : Int) (ms : List ByteArray) (l : List Int) (x : Snd) (y : Rcv) (A : Ab) : Prop where
  m : RelM k a n z l
  q : RelQ a n z l A.q
  s : RelS a n z ms l x A
  r : RelR a n z t l y A
theorem nw_le {s : ByteArray} {z : Int} (h : fitB z s) : (nw s : Int) ≤ (z + 3) / 4 ∧ 1 ≤ nw s := by
  unfold nw; have := h.1; have := h.2; omega
theorem fit_get {z : Int} {ms : List ByteArray} (h : ∀ s ∈ ms, fitB z s) {i : Nat} (hi : i < ms.length) : fitB z (ms.getD i nilB) := by
  rw [List.getD_eq_getElem?_getD, List.getElem?_eq_getElem hi]
  exact h _ (List.getElem_mem hi)
theorem RelM.set {k : Nat} {a n z : Int} {l : List Int} (h : RelM k a n z l) (i : Nat) {v : Int} (hv : 0 ≤ v ∧ v < 4294967296) : RelM k a n z (l.set i v) :=
  ⟨h.at0, h.room, h.n1, by rw [List.length_set]; exact h.ll, h.ring, u32s_set h.us i hv⟩
theorem RelM.on {k : Nat} {a n z c : Int} {l : List Int} (h : RelM k a n z l) (hc : 0 ≤ c ∧ c ≤ 1000000) : ROn k l c a n z := ⟨h.at0, h.room, h.n1, h.ll, h.ring, h.us, hc⟩
theorem dvd_n {n z : Int} (h : RingOk n z) : n ∣ 4294967296 := by
  have hp := h.p
  have hp' : n = 1 ∨ n = 2 ∨ n = 4 ∨ n = 8 ∨ n = 16 ∨ n = 32 ∨ n = 64 ∨ n = 128 ∨ n = 256 ∨ n = 512 ∨ n = 1024 ∨ n = 2048 ∨ n = 4096 ∨ n = 8192 ∨ n = 16384 ∨ n = 32768 := by simpa [powB] using hp
  rcases hp' with rfl | rfl | rfl | rfl | rfl | rfl | rfl | rfl | rfl | rfl | rfl | rfl | rfl | rfl | rfl | rfl <;> decide
/-- indices near each other have places of their own -/
theorem mod_ne {n z i j : Int} (h : RingOk n z) (h1 : i < j) (h2 : j < i + n) : ¬ (i % 4294967296) % n = (j % 4294967296) % n := by
  rw [Int.emod_emod_of_dvd i (dvd_n h), Int.emod_emod_of_dvd j (dvd_n h)]
  intro e
  have h3 := Int.emod_eq_emod_iff_emod_sub_eq_zero.1 e.symm
  have h4 : n ∣ j - i := Int.dvd_of_emod_eq_zero h3
  have := Int.le_of_dvd (by omega) h4
  omega
theorem plc_apart {a n z i j d e : Int} (h : RingOk n z) (hne : ¬ i % n = j % n) (hd : 0 ≤ d ∧ d ≤ (z + 3) / 4) (he : 0 ≤ e ∧ e ≤ (z + 3) / 4) : ¬ plc a n z i + d = plc a n z j + e := by
  have hz := h.z
  unfold plc
  generalize hu : i % n = u at *
  generalize hv : j % n = v at *
  generalize hE : 1 + (z + 3) / 4 = E at *
  rcases Int.lt_or_gt_of_ne hne with h1 | h1
  · have h2 : (u + 1) * E ≤ v * E := Int.mul_le_mul_of_nonneg_right (by omega) (by omega)
    rw [Int.add_mul] at h2; omega
  · have h2 : (v + 1) * E ≤ u * E := Int.mul_le_mul_of_nonneg_right (by omega) (by omega)
    rw [Int.add_mul] at h2; omega
theorem plc_pos {a n z i : Int} (h : RingOk n z) : a + 2 ≤ plc a n z i := (plc_le h).1
/-- a store elsewhere -/
theorem Lies.set {a n z : Int} {l : List Int} {i : Int} {s : ByteArray} {d : Nat} (h : Lies a n z l i s d) {p : Nat} {v : Int} (h0 : 0 < d → p ≠ (plc a n z i).toNat) (h1 : ∀ j : Nat, j + 1 < d → p ≠ (plc a n z i + 1 + j).toNat) : Lies a n z (l.set p v) i s d :=
  ⟨fun hd => by rw [Sx.getD_set_ne (h0 hd)]; exact h.1 hd, fun j hj => by rw [Sx.getD_set_ne (h1 j hj)]; exact h.2 j hj⟩
theorem Lies.low {a n z : Int} {l : List Int} {i : Int} {s : ByteArray} {d : Nat} (h : Lies a n z l i s d) (ha : 0 ≤ a) (hr : RingOk n z) {p : Nat} {v : Int} (hp : (p : Int) < a + 2) : Lies a n z (l.set p v) i s d := by
  have := plc_pos (a := a) (i := i) hr
  exact h.set (fun _ => by omega) fun j _ => by omega
theorem Lies.other {a n z : Int} {l : List Int} {i j : Int} {s : ByteArray} {d e : Nat} (h : Lies a n z l i s d) (ha : 0 ≤ a) (hr : RingOk n z) (hne : ¬ i % n = j % n) (hd : (d : Int) ≤ (z + 3) / 4 + 1) (he : (e : Int) ≤ (z + 3) / 4) {v : Int} : Lies a n z (l.set (plc a n z j + (e : Int)).toNat v) i s d := by
  have h1 := plc_pos (a := a) (i := i) hr
  have h2 := plc_pos (a := a) (i := j) hr
  have hz := hr.z
  refine h.set (fun hd => ?_) fun t ht => ?_
  · have := plc_apart (a := a) (d := 0) (e := (e : Int)) hr hne (by omega) (by omega)
    omega
  · have := plc_apart (a := a) (d := 1 + (t : Int)) (e := (e : Int)) hr hne (by omega) (by omega)
    omega
theorem Lies.more {a n z : Int} {l : List Int} {i : Int} {s : ByteArray} {d : Nat} (h : Lies a n z l i s d) (ha : 0 ≤ a) (hr : RingOk n z) (hlen : (plc a n z i + (d : Int)).toNat < l.length) {v : Int} (h0 : d = 0 → v = s.size) (h1 : 0 < d → v = packI s (d - 1)) : Lies a n z (l.set (plc a n z i + (d : Int)).toNat v) i s (d + 1) := by
  have hp := plc_pos (a := a) (i := i) hr
  refine ⟨fun _ => ?_, fun j hj => ?_⟩
  · by_cases hd : d = 0
    · subst hd
      rw [show (plc a n z i + ((0 : Nat) : Int)).toNat = (plc a n z i).toNat by omega] at hlen ⊢
      rw [Sx.getD_set_self hlen]; exact h0 rfl
    · rw [Sx.getD_set_ne (by omega)]; exact h.1 (by omega)
  · by_cases hd : j + 1 = d
    · rw [show (plc a n z i + 1 + (j : Int)).toNat = (plc a n z i + (d : Int)).toNat by omega, Sx.getD_set_self hlen, h1 (by omega)]
      congr 1; omega
    · rw [Sx.getD_set_ne (by omega)]; exact h.2 j (by omega)
end Go.Proofs.YtplbncncnjiahaaDoor

/- Layer 12, plain: a side's step, in small. -/
namespace Go.Proofs.YtplbncncnjiahaaDoor
open Go Go.Proofs.YtplbncncnjiahaaDoor.Sx
set_option linter.unusedVariables false
theorem w8_mod (x : Int) : IntKind.u8.wrap x = x % 256 := by
  simp [IntKind.wrap, IntKind.signed, IntKind.bits]
theorem bytesI_pack (s : ByteArray) (k : Nat) : bytesI (packI s k) = [byteD s (4 * k), byteD s (4 * k + 1), byteD s (4 * k + 2), byteD s (4 * k + 3)] := by
  have h0 := byteD_le s (4 * k)
  have h1 := byteD_le s (4 * k + 1)
  have h2 := byteD_le s (4 * k + 2)
  have h3 := byteD_le s (4 * k + 3)
  unfold bytesI packI
  generalize byteD s (4 * k) = b0 at *
  generalize byteD s (4 * k + 1) = b1 at *
  generalize byteD s (4 * k + 2) = b2 at *
  generalize byteD s (4 * k + 3) = b3 at *
  rw [Int.fdiv_eq_ediv_of_nonneg _ (by omega), Int.fdiv_eq_ediv_of_nonneg _ (by omega), Int.fdiv_eq_ediv_of_nonneg _ (by omega), w8_mod, w8_mod, w8_mod, w8_mod]
  congr 1
  · omega
  congr 1
  · omega
  congr 1
  · omega
  congr 1
  omega
theorem bytesD_succ (s : ByteArray) (d : Nat) : bytesD s (d + 1) = bytesD s d ++ bytesI (packI s d) := by
  unfold bytesD
  rw [List.range_succ, List.flatMap_append]
  simp
theorem bytesD_eq (s : ByteArray) : ∀ d, bytesD s d = (List.range (4 * d)).map (byteD s)
  | 0 => rfl
  | d + 1 => by
    rw [bytesD_succ, bytesD_eq s d, bytesI_pack, show 4 * (d + 1) = 4 * d + 1 + 1 + 1 + 1 by omega, List.range_succ, List.range_succ, List.range_succ, List.range_succ]
    simp
theorem flat_u8 : ∀ B : List Int, B.flatMap (encInt .u8).enc = B.map (SVal.int .u8)
  | [] => rfl
  | b :: B => by rw [List.flatMap_cons, List.map_cons, flat_u8 B]; rfl
theorem str_bytes (s : ByteArray) : strI ((bytesD s (nw s)).take s.size) = s := by
  obtain ⟨⟨l⟩⟩ := s
  have hsz : (ByteArray.mk ⟨l⟩).size = l.length := rfl
  rw [bytesD_eq, ← List.map_take, List.take_range, hsz, show min l.length (4 * nw (ByteArray.mk ⟨l⟩)) = l.length by unfold nw; rw [hsz]; omega]
  unfold strI
  rw [flat_u8, List.map_map, List.map_map]
  congr 2
  refine List.ext_getElem (by simp) fun i h1 h2 => ?_
  rw [List.getElem_map, List.getElem_range]
  have hb : byteD (ByteArray.mk ⟨l⟩) i = ((l[i].toNat : Nat) : Int) := by
    unfold byteD byteAt
    rw [if_pos (by rw [hsz]; exact h2)]
    simp [h2]
  show Sx.byteOf (SVal.int .u8 (byteD (ByteArray.mk ⟨l⟩) i)) = l[i]
  rw [hb]
  show UInt8.ofNat (((l[i].toNat : Nat) : Int)).toNat = l[i]
  rw [Int.toNat_natCast]
  exact UInt8.ofNat_toNat
theorem bytesD_len (s : ByteArray) (d : Nat) : (bytesD s d).length = 4 * d := by rw [bytesD_eq]; simp
theorem getD_appL {l m : List ByteArray} {i : Nat} (h : i < l.length) : (l ++ m).getD i nilB = l.getD i nilB := Sx.getD_append_left h
theorem headD_app {l m : List ByteArray} (h : l ≠ []) : (l ++ m).headD nilB = l.headD nilB := by
  cases l with
  | nil => exact absurd rfl h
  | cons a l => rfl
theorem headD_get {l : List ByteArray} : l.headD nilB = l.getD 0 nilB := by cases l <;> rfl
theorem tail_get {l : List ByteArray} {j : Nat} : l.tail.getD j nilB = l.getD (j + 1) nilB := by cases l <;> simp
/-- what a receiver's relation wants of the words -/
theorem RelR.move {a n z t : Int} {l l' : List Int} {y : Rcv} {A A' : Ab} (h : RelR a n z t l y A) (hh : hdW a l' = hdW a l) (e1 : A'.got = A.got) (e2 : A'.rp = A.rp) (e3 : A'.rd = A.rd) (e4 : A'.rq = A.rq) (hq : ∃ m, A'.q = A.q ++ m) : RelR a n z t l' y A' := by
  obtain ⟨m, hq⟩ := hq
  have hd : A.q ≠ [] → A'.q.headD nilB = A.q.headD nilB := fun h => by rw [hq]; exact headD_app h
  refine ⟨h.at', h.en, h.ez, h.et, h.t0, by rw [e1]; exact h.got, by rw [e2]; exact h.p, by rw [e2]; exact h.p3, by rw [e1]; exact h.le, h.hd, h.bl, ?_, ?_, ?_, ?_⟩
  · rw [e2, e4, hh, hq]
    intro hp
    have := h.s1 hp
    exact ⟨this.1, by rw [List.length_append]; omega⟩
  · rw [e2, e3, hh]
    intro hp
    obtain ⟨k1, k2, k3, k4, k5⟩ := h.s2 hp
    rw [hd k2]
    exact ⟨k1, by rw [hq]; simp [k2], k3, k4, k5⟩
  · rw [e2, e3]
    intro hp
    rw [hd (h.s2 (by omega)).2.1]
    exact h.e2 hp
  · rw [e2, e3]
    intro hp
    rw [hd (h.s2 (by omega)).2.1]
    exact h.e3 hp
/-- what a sender's relation wants -/
theorem RelS.move {a n z : Int} {ms : List ByteArray} {l l' : List Int} {x : Snd} {A A' : Ab} (h : RelS a n z ms l x A) (hh : tlW a l' = tlW a l) (hl : ∀ s d, Lies a n z l x.tail s d → Lies a n z l' x.tail s d) (e1 : A'.sent = A.sent) (e2 : A'.sp = A.sp) (e3 : A'.sd = A.sd) (e4 : A'.sq = A.sq) (hq : A'.q.length ≤ A.q.length) : RelS a n z ms l' x A' := by
  refine ⟨h.at', h.en, h.ez, by rw [e1]; exact h.sent, by rw [e2]; exact h.p, by rw [e2]; exact h.p3, by rw [e1]; exact h.le, h.ml, h.fit, h.tl, ?_, ?_, ?_, ?_⟩
  · rw [e2, e4, hh]
    intro hp
    obtain ⟨k1, k2, k3⟩ := h.s1 hp
    exact ⟨k1, by omega, k3⟩
  · unfold msg
    rw [e1, e2, e3, hh]
    intro hp
    obtain ⟨k1, k2, k3, k4, k5⟩ := h.s2 hp
    exact ⟨k1, k2, by omega, k4, hl _ _ k5⟩
  · unfold msg
    rw [e1, e2, e3]; exact h.e2
  · unfold msg
    rw [e1, e2, e3]; exact h.e3
theorem hd_in {k : Nat} {a n z : Int} {l : List Int} (h : RelM k a n z l) : 0 ≤ hdW a l ∧ hdW a l < 4294967296 := u32s_getD h.us _
theorem tl_in {k : Nat} {a n z : Int} {l : List Int} (h : RelM k a n z l) : 0 ≤ tlW a l ∧ tlW a l < 4294967296 := u32s_getD h.us _
set_option maxHeartbeats 1000000 in
/-- a sender's step -/
theorem rel_s {k : Nat} {a n z t : Int} {ms : List ByteArray} {l : List Int} {x : Snd} {y : Rcv} {A : Ab} (h : Rel k a n z t ms l x y A) :
    Rel k a n z t ms (sNext x ms l).2 (sNext x ms l).1 y (aStepS n ms A) ∧ sStill (sNext x ms l).1 ms = ((aStepS n ms A).sent.length == ms.length) := by
  have key : Rel k a n z t ms (sNext x ms l).2 (sNext x ms l).1 y (aStepS n ms A) → (Rel k a n z t ms (sNext x ms l).2 (sNext x ms l).1 y (aStepS n ms A) ∧ sStill (sNext x ms l).1 ms = ((aStepS n ms A).sent.length == ms.length)) := by
    intro hr
    refine ⟨hr, ?_⟩
    unfold sStill
    rw [hr.s.sent]
  refine key ?_
  obtain ⟨hm, hq, hs, hr⟩ := h
  have hhd := hd_in hm
  have htl := tl_in hm
  have hn := hm.ring.n
  have hz := hm.ring.z
  have ha := hm.at0
  obtain ⟨at', n', z', head, tail, did, sent, p⟩ := x
  obtain ⟨sent', sp, sd, sq, got, rp, rd, rq, q⟩ := A
  obtain ⟨i1, i2, i3, i4, i5, i6, i7, i8, i9, i10, s1, s2, e2, e3⟩ := hs
  simp only at i1 i2 i3 i4 i5 i6 i7 i10 s1 s2 e2 e3 hq hr
  subst i1 i2 i3 i4 i5
  by_cases hov : sent.length = ms.length
  · simp only [sNext, aStepS, if_pos hov]
    exact ⟨hm, hq, ⟨rfl, rfl, rfl, rfl, rfl, i6, i7, i8, i9, i10, s1, s2, e2, e3⟩, hr⟩
  have hlt : sent.length < ms.length := by omega
  have hfm := fit_get i9 hlt
  have hnw := nw_le hfm
  have hql := hq.cap
  have hp : p = 0 ∨ p = 1 ∨ p = 2 ∨ p = 3 := by omega
  rcases hp with rfl | rfl | rfl | rfl <;> simp only [sNext, aStepS, if_neg hov]
  · refine ⟨hm, hq, ⟨rfl, rfl, rfl, rfl, rfl, by simp only; omega, i7, i8, i9, i10, fun _ => ⟨?_, Nat.le_refl _, hql⟩, fun h => by simp only at h; omega, fun h => (by cases h), fun h => (by cases h)⟩, hr.move rfl rfl rfl rfl rfl ⟨[], by simp⟩⟩
    have := hq.tl
    simp only [hdW, tlW] at *
    omega
  · obtain ⟨k1, k2, k3⟩ := s1 rfl
    simp only [tlW] at k1
    rw [k1]
    by_cases hf : n' ≤ (sq : Int)
    · simp only [if_pos hf]
      exact ⟨hm, hq, ⟨rfl, rfl, rfl, rfl, rfl, by simp only; omega, by simp only [List.length_append, List.length_singleton]; omega, i8, i9, htl, fun h => (by cases h), fun h => by simp only at h; omega, fun h => (by cases h), fun h => (by cases h)⟩, hr.move rfl rfl rfl rfl rfl ⟨[], by simp⟩⟩
    · simp only [if_neg hf]
      refine ⟨hm, hq, ⟨rfl, rfl, rfl, rfl, rfl, by simp only; omega, i7, i8, i9, htl, fun h => (by cases h), fun _ => ⟨hlt, rfl, by simp only at k2 ⊢; omega, rfl, ⟨fun h => by simp only at h; omega, fun j h => by simp only at h; omega⟩⟩, fun _ => Nat.zero_le _, fun h => (by cases h)⟩, hr.move rfl rfl rfl rfl rfl ⟨[], by simp⟩⟩
  · obtain ⟨k1, k2, k3, k4, k5⟩ := s2 (by omega)
    have k6 := e2 rfl
    subst k4
    simp only [msg] at k5 k6 k3
    generalize hM : ms.getD sent.length nilB = M at *
    have hpl := plc_in (i := tail) (d := (sd : Int)) (hm.on (c := 0) (by omega)) ⟨by omega, by omega⟩
    have hP : ((plc at' n' z' tail + (sd : Int)).toNat : Int) = plc at' n' z' tail + (sd : Int) := by omega
    have hh : ∀ v, hdW at' (l.set (plc at' n' z' tail + (sd : Int)).toNat v) = hdW at' l := fun v => Sx.getD_set_ne (by omega) _ _
    have ht : ∀ v, tlW at' (l.set (plc at' n' z' tail + (sd : Int)).toNat v) = tlW at' l := fun v => Sx.getD_set_ne (by omega) _ _
    have hpk := packI_le M ((sd : Int) - 1).toNat
    have hll := hm.ll
    have hv : 0 ≤ (if 0 < (sd : Int) then packI M ((sd : Int) - 1).toNat else (M.size : Int)) ∧ (if 0 < (sd : Int) then packI M ((sd : Int) - 1).toNat else (M.size : Int)) < 4294967296 := by
      split
      · exact hpk
      · have := hfm.2; omega
    have hL : Lies at' n' z' (l.set (plc at' n' z' tail + (sd : Int)).toNat (if 0 < (sd : Int) then packI M ((sd : Int) - 1).toNat else (M.size : Int))) tail M (sd + 1) := by
      refine k5.more ha hm.ring (by omega) (fun h => ?_) fun h => ?_
      · rw [if_neg (by omega)]
      · rw [if_pos (by omega)]; congr 1; omega
    have hif : (if ((M.size : Int) + 3) / 4 < (sd : Int) + 1 then 3 else 2) = (if nw M < sd + 1 then 3 else 2) := by
      unfold nw
      by_cases h : (M.size + 3) / 4 < sd + 1
      · rw [if_pos h, if_pos (by omega)]
      · rw [if_neg h, if_neg (by omega)]
    refine ⟨hm.set _ hv, ⟨?_, hql, hq.fit, fun j hj => ?_⟩, ?_, hr.move (hh _) rfl rfl rfl rfl ⟨[], by simp⟩⟩
    · rw [hh, ht]; exact hq.tl
    · rw [hh]
      simp only at hj
      have hqt := hq.tl
      have hfq := nw_le (fit_get hq.fit hj)
      refine (hq.lies j hj).other ha hm.ring ?_ (by omega) (by omega)
      rw [k2, hqt]
      exact mod_ne hm.ring (by omega) (by omega)
    · rw [hif]
      refine ⟨rfl, rfl, rfl, rfl, rfl, by simp only; split <;> omega, i7, i8, i9, i10, fun h => ?_, fun _ => ⟨hlt, by rw [ht]; exact k2, k3, by simp, by simp only [msg]; rw [hM]; exact hL⟩, fun h => ?_, fun h => ?_⟩
      · simp only at h; split at h <;> cases h
      · simp only [msg] at h ⊢
        rw [hM]
        split at h
        · cases h
        · omega
      · simp only [msg] at h ⊢
        rw [hM]
        split at h
        · omega
        · cases h
  · obtain ⟨k1, k2, k3, k4, k5⟩ := s2 (by omega)
    have k6 := e3 rfl
    simp only [msg] at k5 k6 k3
    generalize hM : ms.getD sent.length nilB = M at *
    have hm0 : 1 + (z' + 3) / 4 ≤ n' * (1 + (z' + 3) / 4) := by
      have := Int.mul_le_mul_of_nonneg_right hn.1 (show 0 ≤ 1 + (z' + 3) / 4 by omega)
      omega
    have hroom := hm.room
    have hll := hm.ll
    have hh : ∀ v, hdW at' (l.set (at' + 1).toNat v) = hdW at' l := fun v => Sx.getD_set_ne (by omega) _ _
    have ht : ∀ v, tlW at' (l.set (at' + 1).toNat v) = v := fun v => Sx.getD_set_self (by omega) _ _
    have hqt := hq.tl
    refine ⟨hm.set _ (by omega), ⟨?_, by simp only [List.length_append, List.length_singleton]; omega, ?_, fun j hj => ?_⟩, ⟨rfl, rfl, rfl, rfl, rfl, by simp only; omega, by simp only [List.length_append, List.length_singleton]; omega, i8, i9, i10, fun h => (by cases h), fun h => by simp only at h; omega, fun h => (by cases h), fun h => (by cases h)⟩, hr.move (hh _) rfl rfl rfl rfl ⟨[M], rfl⟩⟩
    · rw [hh, ht, k2, hqt]
      simp only [List.length_append, List.length_singleton]
      omega
    · intro s hs
      rcases List.mem_append.1 hs with hs | hs
      · exact hq.fit s hs
      · rw [List.mem_singleton.1 hs]; exact hfm
    · rw [hh]
      simp only [List.length_append, List.length_singleton] at hj
      by_cases hjq : j < q.length
      · rw [getD_appL hjq]
        exact (hq.lies j hjq).low ha hm.ring (by omega)
      · obtain rfl : j = q.length := by omega
        rw [Sx.getD_append_len, ← hqt, ← k2, ← k6]
        exact k5.low ha hm.ring (by omega)
set_option maxHeartbeats 1000000 in
/-- a receiver's step -/
theorem rel_r {k : Nat} {a n z t : Int} {ms : List ByteArray} {l : List Int} {x : Snd} {y : Rcv} {A : Ab} (h : Rel k a n z t ms l x y A) :
    Rel k a n z t ms (rNext y l).2 x (rNext y l).1 (aStepR t A) ∧ rStill (rNext y l).1 = (((aStepR t A).got.length : Int) == t) := by
  have key : Rel k a n z t ms (rNext y l).2 x (rNext y l).1 (aStepR t A) → (Rel k a n z t ms (rNext y l).2 x (rNext y l).1 (aStepR t A) ∧ rStill (rNext y l).1 = (((aStepR t A).got.length : Int) == t)) := by
    intro hr
    refine ⟨hr, ?_⟩
    unfold rStill
    rw [hr.r.got, hr.r.et]
  refine key ?_
  obtain ⟨hm, hq, hs, hr⟩ := h
  have hhd := hd_in hm
  have htl := tl_in hm
  have hn := hm.ring.n
  have hz := hm.ring.z
  have ha := hm.at0
  obtain ⟨at', n', z', head, tail, did, times, ln, b, got, p⟩ := y
  obtain ⟨sent', sp, sd, sq, got', rp, rd, rq, q⟩ := A
  obtain ⟨i1, i2, i3, i4, i5, i6, i7, i8, i9, i10, i11, s1, s2, e2, e3⟩ := hr
  simp only at i1 i2 i3 i4 i6 i7 i8 i9 i10 i11 s1 s2 e2 e3 hq hs
  subst i1 i2 i3 i4 i6 i7
  by_cases hov : (got.length : Int) = times
  · simp only [rNext, aStepR, if_pos hov]
    exact ⟨hm, hq, hs, ⟨rfl, rfl, rfl, rfl, i5, rfl, rfl, i8, i9, i10, i11, s1, s2, e2, e3⟩⟩
  have hlt : (got.length : Int) < times := by omega
  have hql := hq.cap
  have hp : p = 0 ∨ p = 1 ∨ p = 2 ∨ p = 3 := by omega
  have hqt := hq.tl
  rcases hp with rfl | rfl | rfl | rfl <;> simp only [rNext, aStepR, if_neg hov]
  · exact ⟨hm, hq, hs.move rfl (fun _ _ h => h) rfl rfl rfl rfl (Nat.le_refl _), ⟨rfl, rfl, rfl, rfl, i5, rfl, rfl, by simp only; omega, i9, i10, i11, fun _ => ⟨hqt, Nat.le_refl _⟩, fun h => by simp only at h; omega, fun h => (by cases h), fun h => (by cases h)⟩⟩
  · obtain ⟨k1, k2⟩ := s1 rfl
    simp only [hdW] at k1 hhd
    by_cases hf : rq = 0
    · have hf' : l.getD at'.toNat 0 = tail := by subst hf; omega
      simp only [if_pos hf', if_pos hf]
      exact ⟨hm, hq, hs.move rfl (fun _ _ h => h) rfl rfl rfl rfl (Nat.le_refl _), ⟨rfl, rfl, rfl, rfl, i5, rfl, rfl, by simp only; omega, by simp only [List.length_append, List.length_singleton]; omega, hhd, by simp, fun h => (by cases h), fun h => by simp only at h; omega, fun h => (by cases h), fun h => (by cases h)⟩⟩
    · have hf' : ¬ l.getD at'.toNat 0 = tail := by omega
      simp only [if_neg hf', if_neg hf]
      exact ⟨hm, hq, hs.move rfl (fun _ _ h => h) rfl rfl rfl rfl (Nat.le_refl _), ⟨rfl, rfl, rfl, rfl, i5, rfl, rfl, by simp only; omega, i9, hhd, by simp, fun h => (by cases h), fun _ => ⟨rfl, fun h => by simp only at h; rw [h] at k2; simp only [List.length_nil] at k2; omega, rfl, fun h => by simp only at h; omega, rfl⟩, fun _ => Nat.zero_le _, fun h => (by cases h)⟩⟩
  · obtain ⟨k1, k2, k3, k4, k5⟩ := s2 (by omega)
    have k6 := e2 rfl
    subst k3 k5
    have hq0 : 0 < q.length := List.length_pos_iff.2 k2
    have hL := hq.lies 0 hq0
    rw [headD_get] at k4 k6 ⊢
    have hfm := fit_get hq.fit hq0
    generalize hM : q.getD 0 nilB = M at *
    have hi : (hdW at' l + ((0 : Nat) : Int)) % 4294967296 = head := by rw [k1]; omega
    rw [hi] at hL
    have hnw := nw_le hfm
    have hnz : ((M.size : Int) + 3) / 4 = (nw M : Int) := by unfold nw; omega
    by_cases hd : rd = 0
    · subst hd
      have hw : l.getD (plc at' n' z' head + ((0 : Nat) : Int)).toNat 0 = (M.size : Int) := by
        rw [show (plc at' n' z' head + ((0 : Nat) : Int)).toNat = (plc at' n' z' head).toNat by omega]
        exact hL.1 (by omega)
      have himm : imin (imax (M.size : Int) 1) z' = (M.size : Int) := by
        have := hfm.1; have := hfm.2
        unfold imin imax; split <;> split <;> omega
      have h0 : (((0 : Nat) : Int) = 0) := rfl
      simp only [if_pos h0, hw, himm, hnz]
      have hif : (if (nw M : Int) < 1 then 3 else 2) = (if nw M < 0 + 1 then 3 else 2) := by
        rw [if_neg (by omega), if_neg (by omega)]
      rw [hif]
      refine ⟨hm, hq, hs.move rfl (fun _ _ h => h) rfl rfl rfl rfl (Nat.le_refl _), ⟨rfl, rfl, rfl, rfl, i5, rfl, rfl, by simp only; split <;> omega, i9, i10, i11, fun h => ?_, fun _ => ⟨k1, k2, rfl, fun _ => by simp only [headD_get]; rw [hM], by simp only [headD_get]; rw [hM]⟩, fun h => ?_, fun h => ?_⟩⟩
      · simp only at h; split at h <;> cases h
      · simp only [headD_get]; rw [hM]; omega
      · simp only [headD_get] at h ⊢; rw [hM]
        split at h
        · omega
        · cases h
    · have h0 : ¬ ((rd : Int) = 0) := by omega
      have hw : l.getD (plc at' n' z' head + (rd : Int)).toNat 0 = packI M (rd - 1) := by
        rw [← hL.2 (rd - 1) (by omega)]
        congr 2; omega
      have k4' := k4 (by omega)
      subst k4'
      simp only [if_neg h0, hw, hnz]
      have hif : (if (nw M : Int) < (rd : Int) + 1 then 3 else 2) = (if nw M < rd + 1 then 3 else 2) := by
        by_cases h : nw M < rd + 1
        · rw [if_pos h, if_pos (by omega)]
        · rw [if_neg h, if_neg (by omega)]
      have hb : bytesD M (rd - 1) ++ bytesI (packI M (rd - 1)) = bytesD M rd := by
        rw [← bytesD_succ, show rd - 1 + 1 = rd by omega]
      rw [hif, hb]
      refine ⟨hm, hq, hs.move rfl (fun _ _ h => h) rfl rfl rfl rfl (Nat.le_refl _), ⟨rfl, rfl, rfl, rfl, i5, rfl, rfl, by simp only; split <;> omega, i9, i10, by simp only [bytesD_len]; omega, fun h => ?_, fun _ => ⟨k1, k2, by simp, fun _ => by simp only [headD_get]; rw [hM], by simp only [headD_get]; rw [hM]; rfl⟩, fun h => ?_, fun h => ?_⟩⟩
      · simp only at h; split at h <;> cases h
      · simp only [headD_get] at h ⊢; rw [hM]
        split at h
        · cases h
        · omega
      · simp only [headD_get] at h ⊢; rw [hM]
        split at h
        · omega
        · cases h
  · obtain ⟨k1, k2, k3, k4, k5⟩ := s2 (by omega)
    have k6 := e3 rfl
    have k4' := k4 (by omega)
    subst k5 k4' k6
    have hq0 : 0 < q.length := List.length_pos_iff.2 k2
    have hroom := hm.room
    have hll := hm.ll
    have hm0 : 1 + (z' + 3) / 4 ≤ n' * (1 + (z' + 3) / 4) := by
      have := Int.mul_le_mul_of_nonneg_right hn.1 (show 0 ≤ 1 + (z' + 3) / 4 by omega)
      omega
    have hh : ∀ v, hdW at' (l.set at'.toNat v) = v := fun v => Sx.getD_set_self (by omega) _ _
    have ht : ∀ v, tlW at' (l.set at'.toNat v) = tlW at' l := fun v => Sx.getD_set_ne (by omega) _ _
    have hst : strI (List.take (((q.headD nilB).size : Int)).toNat (bytesD (q.headD nilB) (nw (q.headD nilB) + 1 - 1))) = q.headD nilB := by
      rw [Int.toNat_natCast, Nat.add_sub_cancel]
      exact str_bytes _
    rw [hst]
    have hti : q.tail.length = q.length - 1 := List.length_tail
    refine ⟨hm.set _ (by omega), ⟨?_, by simp only; omega, fun s hs => hq.fit s (List.mem_of_mem_tail hs), fun j hj => ?_⟩, hs.move (ht _) (fun s d h => h.low ha hm.ring (by omega)) rfl rfl rfl rfl (by simp only; omega), ⟨rfl, rfl, rfl, rfl, i5, rfl, rfl, by simp only; omega, by simp only [List.length_append, List.length_singleton]; omega, i10, i11, fun h => (by cases h), fun h => by simp only at h; omega, fun h => (by cases h), fun h => (by cases h)⟩⟩
    · rw [hh, ht, hqt, k1]
      simp only [hti]
      omega
    · rw [hh]
      simp only [hti] at hj
      rw [tail_get]
      have := (hq.lies (j + 1) (by omega)).low (v := (head + 1) % 4294967296) (p := at'.toNat) ha hm.ring (by omega)
      rw [show ((head + 1) % 4294967296 + (j : Int)) % 4294967296 = (hdW at' l + ((j + 1 : Nat) : Int)) % 4294967296 by rw [k1]; omega]
      exact this
end Go.Proofs.YtplbncncnjiahaaDoor

/- Layer 12, plain: what is sent is received; full and empty. -/
namespace Go.Proofs.YtplbncncnjiahaaDoor
open Go Go.Proofs.YtplbncncnjiahaaDoor.Sx
set_option linter.unusedVariables false
/-- of messages those that were sent, of the first i -/
def outK (ms : List ByteArray) (sent : List Bool) : Nat → List ByteArray
  | 0 => []
  | i + 1 => if sent.getD i false then outK ms sent i ++ [ms.getD i nilB] else outK ms sent i
/-- of tries what was received, of the first i -/
def inK (got : List ByteArray) : Nat → List ByteArray
  | 0 => []
  | i + 1 => if (got.getD i nilB).size = 0 then inK got i else inK got i ++ [got.getD i nilB]
theorem outK_app (ms : List ByteArray) (sent : List Bool) (b : Bool) : ∀ i, i ≤ sent.length → outK ms (sent ++ [b]) i = outK ms sent i
  | 0, _ => rfl
  | i + 1, h => by
    simp only [outK, outK_app ms sent b i (by omega)]
    rw [Sx.getD_append_left (by omega)]
theorem inK_app (got : List ByteArray) (s : ByteArray) : ∀ i, i ≤ got.length → inK (got ++ [s]) i = inK got i
  | 0, _ => rfl
  | i + 1, h => by
    simp only [inK, inK_app got s i (by omega)]
    rw [Sx.getD_append_left (by omega)]
abbrev outA (ms : List ByteArray) (A : Ab) : List ByteArray := outK ms A.sent A.sent.length
abbrev inA (A : Ab) : List ByteArray := inK A.got A.got.length
theorem out_app (ms : List ByteArray) (sent : List Bool) (b : Bool) : outK ms (sent ++ [b]) (sent ++ [b]).length = if b then outK ms sent sent.length ++ [ms.getD sent.length nilB] else outK ms sent sent.length := by
  rw [List.length_append, List.length_singleton]
  simp only [outK, outK_app ms sent b sent.length (Nat.le_refl _), Sx.getD_append_len]
theorem in_app (got : List ByteArray) (s : ByteArray) : inK (got ++ [s]) (got ++ [s]).length = if s.size = 0 then inK got got.length else inK got got.length ++ [s] := by
  rw [List.length_append, List.length_singleton]
  simp only [inK, inK_app got s got.length (Nat.le_refl _), Sx.getD_append_len]
theorem outK_len (ms : List ByteArray) (sent : List Bool) : ∀ i, (outK ms sent i).length ≤ i
  | 0 => Nat.le_refl _
  | i + 1 => by
    have := outK_len ms sent i
    simp only [outK]; split
    · rw [List.length_append, List.length_singleton]; omega
    · omega
theorem inK_len (got : List ByteArray) : ∀ i, (inK got i).length ≤ i
  | 0 => Nat.le_refl _
  | i + 1 => by
    have := inK_len got i
    simp only [inK]; split
    · omega
    · rw [List.length_append, List.length_singleton]; omega
/-- what was received, and what lies in the ring, is what was sent -/
def OrdA (ms : List ByteArray) (A : Ab) : Prop := outA ms A = inA A ++ A.q
theorem ord_s {k : Nat} {a n z t : Int} {ms : List ByteArray} {l : List Int} {x : Snd} {y : Rcv} {A : Ab} (h : Rel k a n z t ms l x y A) (ho : OrdA ms A) : OrdA ms (aStepS n ms A) := by
  obtain ⟨sent, sp, sd, sq, got, rp, rd, rq, q⟩ := A
  have hp3 := h.s.p3
  simp only at hp3
  by_cases hov : sent.length = ms.length
  · simp only [aStepS, if_pos hov]; exact ho
  have hp : sp = 0 ∨ sp = 1 ∨ sp = 2 ∨ sp = 3 := by omega
  unfold OrdA outA inA at *
  simp only at ho
  rcases hp with rfl | rfl | rfl | rfl
  · simp only [aStepS, if_neg hov]; exact ho
  · simp only [aStepS, if_neg hov]
    split
    · simp only [out_app]; exact ho
    · exact ho
  · simp only [aStepS, if_neg hov]; exact ho
  · simp only [aStepS, if_neg hov, out_app, if_true, ho, List.append_assoc]
theorem ord_r {k : Nat} {a n z t : Int} {ms : List ByteArray} {l : List Int} {x : Snd} {y : Rcv} {A : Ab} (h : Rel k a n z t ms l x y A) (ho : OrdA ms A) : OrdA ms (aStepR t A) := by
  obtain ⟨sent, sp, sd, sq, got, rp, rd, rq, q⟩ := A
  have hp3 := h.r.p3
  have h2 := h.r.s2
  simp only at hp3 h2
  by_cases hov : (got.length : Int) = t
  · simp only [aStepR, if_pos hov]; exact ho
  have hp : rp = 0 ∨ rp = 1 ∨ rp = 2 ∨ rp = 3 := by omega
  unfold OrdA outA inA at *
  simp only at ho
  have hz0 : nilB.size = 0 := rfl
  rcases hp with rfl | rfl | rfl | rfl
  · simp only [aStepR, if_neg hov]; exact ho
  · simp only [aStepR, if_neg hov]
    split
    · simp only [in_app, if_pos hz0]; exact ho
    · exact ho
  · simp only [aStepR, if_neg hov]; exact ho
  · obtain ⟨_, k2, _⟩ := h2 (by omega)
    cases q with
    | nil => exact absurd rfl k2
    | cons s q =>
      have hf := h.q.fit s (by simp)
      have hne : ¬ s.size = 0 := by have := hf.1; omega
      simp only [aStepR, if_neg hov, List.headD_cons, List.tail_cons, in_app, if_neg hne, List.append_assoc, List.singleton_append]
      exact ho
/-- what was received is the beginning of what was sent; never are more under way than there are places -/
theorem ord_say {k : Nat} {a n z t : Int} {ms : List ByteArray} {l : List Int} {x : Snd} {y : Rcv} {A : Ab} (h : Rel k a n z t ms l x y A) (ho : OrdA ms A) :
    (inA A).length ≤ (outA ms A).length ∧ ((outA ms A).length : Int) - (inA A).length ≤ n ∧ (outA ms A).take (inA A).length = inA A ∧ (outA ms A).length - (inA A).length = A.q.length := by
  unfold OrdA at ho
  have hn := h.q.cap
  rw [ho, List.length_append]
  exact ⟨by omega, by omega, by simp, by omega⟩
end Go.Proofs.YtplbncncnjiahaaDoor

/- Rings of the laws: pieces of what makes them. -/
namespace Go.Proofs.YtplbncncnjiahaaDoor
open Go Go.Proofs.YtplbncncnjiahaaDoor.Sx
set_option linter.unusedVariables false
/-- what comes in: a play's words, messages, picks; places and size, raw -/
structure InR where
  h : Int
  t : Int
  ms : List ByteArray
  c1 : Nat
  ps : List Int
  c2 : Nat
abbrev plV (q : InR) (i j : Nat) : SVal := .agg [.int .u32 q.h, .int .u32 q.t, .sli i (.c 0) 1 (.v q.ms.length) (some (.v q.c1)), .sli j (.c 0) 1 (.v q.ps.length) (some (.v q.c2))]
abbrev plB (q : InR) (i j : Nat) : Blk := .own [.c (.int .u32 q.h), .c (.int .u32 q.t), .c (.sli i (.c 0) 1 (.v q.ms.length) (some (.v q.c1))), .c (.sli j (.c 0) 1 (.v q.ps.length) (some (.v q.c2)))] 43
abbrev sB (q : InR) : St := [lookB, .ro encStr q.ms, .ro (encInt .u8) q.ps]
noncomputable def b25 : Code := Tryd.f25.body.getD .skip
noncomputable def cB : Code := restC 3 b25
noncomputable def regB : Code := lft (lft cB)
noncomputable def blkB : Code := rgt (lft cB)
noncomputable def roundB : Code := lft (lft blkB)
noncomputable def tmB : Code := lft roundB
noncomputable def bbB : Code := lft (lft (rgt roundB))
noncomputable def incB : Code := rgt (rgt roundB)
noncomputable def endB : Code := rgt cB
abbrev sBl (q : InR) (l : List ByteArray) : St := sB q ++ [plB q 1 2, .vec encStr l 9]
abbrev vB (n z : Int) (l : List ByteArray) : List SVal := [.ptr 3 0, .int .i64 n, .int .i64 z, .sli 4 (.c 0) 1 (.v l.length) none]
abbrev sBm (q : InR) (l : List ByteArray) (w : List Int) (c : Int) : St := sBl q l ++ [.own [.a (encInt .u32) 80 w] 40, .own [.c (.sli 5 (.c 0) 1 (.v 80) (some (.v 80))), .c (.int .i64 c)] 80]
abbrev aSB (n z : Int) (l : List ByteArray) : List SVal := [.lit .i64 0, .int .i64 n, .int .i64 z, .sli 4 (.c 0) 1 (.v l.length) none]
noncomputable def cfgB (q : InR) (n z : Int) (l : List ByteArray) : Cfg := { P := Tryd.prog, ex := exI, gl := [(0, 0)], sm := fun f => match f with
  | 10 => some (smPre 1 gWords)
  | 12 => some (smEq (aSB n z l) (sBm q l (List.replicate 80 0) 0) ((wordsP n z).2 = 0 ∧ fits z l ∧ l.length ≤ 1000) (.tup [.ptr 7 0, .lit .i64 0]) (sBm q l (List.replicate 80 0) 0 ++ sndB 7 0 n z l))
  | _ => none }
end Go.Proofs.YtplbncncnjiahaaDoor

namespace Go.Proofs.YtplbncncnjiahaaDoor
open Go Go.Proofs.YtplbncncnjiahaaDoor.Sx
set_option linter.unusedVariables false
set_option maxRecDepth 100000 in
theorem z_pre {q : InR} {p s : Int} : (execN cfgM 100 3 b25 ([plV q 1 2, .int .u8 p, .int .u8 s] ++ List.replicate 115 .bad) (sB q)).bind (canonK 3 [(0,0)] 118 [3, 11, 12, 13]) =
 

 (.need (inR .u64 (bitop BinOp.and IntKind.u8 p (3 : Int)))

 (.need (decide ((0 : Int) ≤ bitop BinOp.and IntKind.u8 p (3 : Int)))

 (.need (inR .i64 s)

 (.need (true)

 (.need (inR .i64 ((1 : Int) + s.tmod (32 : Int)))

 (.ret (.normal, [.ptr 3 0, .int .i64 (IntKind.i64.wrap ((1 : Int) * (2 : Int) ^ min (bitop BinOp.and IntKind.u8 p (3 : Int)).toNat 64)), .int .i64 ((1 : Int) + s.tmod (32 : Int)), .sli 4 (.c 0) 1 (.c 0) (some (.c 0))], [.ro encLook [PUnit.unit], .ro encStr q.3, .ro (encInt IntKind.u8) q.5, .own [.c (.int .u32 q.1), .c (.int .u32 q.2), .c (.sli 1 (.c 0) 1 (.v q.3.length) (some (.v q.4))), .c (.sli 2 (.c 0) 1 (.v q.5.length) (some (.v q.6)))] 43, .own [] 9]))))))) := by kernel_rfl
set_option maxRecDepth 100000 in
theorem z_reg {q : InR} {n z : Int} {l : List ByteArray} : (exec cfgM 100 regB (fr 118 [3, 11, 12, 13] (vB n z l)) (sBl q l)).bind (canonK 5 [(0,0)] 118 [3, 11, 12, 13, 14]) =
 

 (.ret (.normal, [.ptr 3 0, .int .i64 n, .int .i64 z, .sli 4 (.c 0) 1 (.v l.length) none, .lit .i64 (0 : Int)], [.ro encLook [PUnit.unit], .ro encStr q.3, .ro (encInt IntKind.u8) q.5, .own [.c (.int .u32 q.1), .c (.int .u32 q.2), .c (.sli 1 (.c 0) 1 (.v q.3.length) (some (.v q.4))), .c (.sli 2 (.c 0) 1 (.v q.5.length) (some (.v q.6)))] 43, .vec encStr l 9])) := by kernel_rfl
set_option maxRecDepth 100000 in
theorem z_tm {q : InR} {n z : Int} {l : List ByteArray} {i : Nat} : (exec cfgM 100 tmB (fr 118 [3, 11, 12, 13, 14] (vB n z l ++ [.int .i64 (i : Nat)])) (sBl q l)).bind (canonK 5 [(0,0)] 118 [3, 11, 12, 13, 14]) =
 

 (.br (decide ((↑i : Int) < (↑q.3.length : Int)))

 (.br (decide ((↑i : Int) < (20 : Int)))

 (.ret (.normal, [.ptr 3 0, .int .i64 n, .int .i64 z, .sli 4 (.c 0) 1 (.v l.length) none, .int .i64 (↑i : Int)], [.ro encLook [PUnit.unit], .ro encStr q.3, .ro (encInt IntKind.u8) q.5, .own [.c (.int .u32 q.1), .c (.int .u32 q.2), .c (.sli 1 (.c 0) 1 (.v q.3.length) (some (.v q.4))), .c (.sli 2 (.c 0) 1 (.v q.5.length) (some (.v q.6)))] 43, .vec encStr l 9]))

 (.ret (.exit 0, [.ptr 3 0, .int .i64 n, .int .i64 z, .sli 4 (.c 0) 1 (.v l.length) none, .int .i64 (↑i : Int)], [.ro encLook [PUnit.unit], .ro encStr q.3, .ro (encInt IntKind.u8) q.5, .own [.c (.int .u32 q.1), .c (.int .u32 q.2), .c (.sli 1 (.c 0) 1 (.v q.3.length) (some (.v q.4))), .c (.sli 2 (.c 0) 1 (.v q.5.length) (some (.v q.6)))] 43, .vec encStr l 9])))

 (.ret (.exit 0, [.ptr 3 0, .int .i64 n, .int .i64 z, .sli 4 (.c 0) 1 (.v l.length) none, .int .i64 (↑i : Int)], [.ro encLook [PUnit.unit], .ro encStr q.3, .ro (encInt IntKind.u8) q.5, .own [.c (.int .u32 q.1), .c (.int .u32 q.2), .c (.sli 1 (.c 0) 1 (.v q.3.length) (some (.v q.4))), .c (.sli 2 (.c 0) 1 (.v q.5.length) (some (.v q.6)))] 43, .vec encStr l 9]))) := by kernel_rfl
set_option maxRecDepth 100000 in
theorem z_bb {q : InR} {n z : Int} {l : List ByteArray} {i : Nat} : (exec cfgM 100 bbB (fr 118 [3, 11, 12, 13, 14] (vB n z l ++ [.int .i64 (i : Nat)])) (sBl q l)).bind (canonK 4 [(0,0)] 118 [3, 11, 12, 13, 14]) =
 

 (.need (decide ((0 : Int) ≤ (↑i : Int)) && decide ((↑i : Int).toNat < q.3.length))

 (.need (decide ((↑i : Int).toNat < q.3.length))

 (.br (decide (z < (↑(q.3.getD (↑i : Int).toNat { data := { toList := [] } }).size : Int)))

 (.need (decide ((0 : Int) ≤ z) && decide (z.toNat ≤ (q.3.getD (↑i : Int).toNat { data := { toList := [] } }).size))

 (.need (decide (0 ≤ z.toNat))

 (.br (strEq ((q.3.getD (↑i : Int).toNat { data := { toList := [] } }).extract 0 z.toNat) { data := { toList := [] } })

 (.need (true)

 (.need (decide (l.length = l.length))

 (.need (roomy (l.length + 1) 16)

 (.ret (.normal, [.ptr 3 0, .int .i64 n, .int .i64 z, .sli 4 (.c 0) 1 (.v (l.length + 1)) none, .int .i64 (↑i : Int)], [.ro encLook [PUnit.unit], .ro encStr q.3, .ro (encInt IntKind.u8) q.5, .own [.c (.int .u32 q.1), .c (.int .u32 q.2), .c (.sli 1 (.c 0) 1 (.v q.3.length) (some (.v q.4))), .c (.sli 2 (.c 0) 1 (.v q.5.length) (some (.v q.6)))] 43, .vec encStr (l ++ [{ data := { toList := [(101 : UInt8)] } }]) 9])))))

 (.need (true)

 (.need (decide (l.length = l.length))

 (.need (roomy (l.length + 1) 16)

 (.ret (.normal, [.ptr 3 0, .int .i64 n, .int .i64 z, .sli 4 (.c 0) 1 (.v (l.length + 1)) none, .int .i64 (↑i : Int)], [.ro encLook [PUnit.unit], .ro encStr q.3, .ro (encInt IntKind.u8) q.5, .own [.c (.int .u32 q.1), .c (.int .u32 q.2), .c (.sli 1 (.c 0) 1 (.v q.3.length) (some (.v q.4))), .c (.sli 2 (.c 0) 1 (.v q.5.length) (some (.v q.6)))] 43, .vec encStr (l ++ [(q.3.getD (↑i : Int).toNat { data := { toList := [] } }).extract 0 z.toNat]) 9]))))))))

 (.br (strEq (q.3.getD (↑i : Int).toNat { data := { toList := [] } }) { data := { toList := [] } })

 (.need (true)

 (.need (decide (l.length = l.length))

 (.need (roomy (l.length + 1) 16)

 (.ret (.normal, [.ptr 3 0, .int .i64 n, .int .i64 z, .sli 4 (.c 0) 1 (.v (l.length + 1)) none, .int .i64 (↑i : Int)], [.ro encLook [PUnit.unit], .ro encStr q.3, .ro (encInt IntKind.u8) q.5, .own [.c (.int .u32 q.1), .c (.int .u32 q.2), .c (.sli 1 (.c 0) 1 (.v q.3.length) (some (.v q.4))), .c (.sli 2 (.c 0) 1 (.v q.5.length) (some (.v q.6)))] 43, .vec encStr (l ++ [{ data := { toList := [(101 : UInt8)] } }]) 9])))))

 (.need (true)

 (.need (decide (l.length = l.length))

 (.need (roomy (l.length + 1) 16)

 (.ret (.normal, [.ptr 3 0, .int .i64 n, .int .i64 z, .sli 4 (.c 0) 1 (.v (l.length + 1)) none, .int .i64 (↑i : Int)], [.ro encLook [PUnit.unit], .ro encStr q.3, .ro (encInt IntKind.u8) q.5, .own [.c (.int .u32 q.1), .c (.int .u32 q.2), .c (.sli 1 (.c 0) 1 (.v q.3.length) (some (.v q.4))), .c (.sli 2 (.c 0) 1 (.v q.5.length) (some (.v q.6)))] 43, .vec encStr (l ++ [q.3.getD (↑i : Int).toNat { data := { toList := [] } }]) 9]))))))))) := by kernel_rfl
set_option maxRecDepth 100000 in
theorem z_inc {q : InR} {n z : Int} {l : List ByteArray} {i : Nat} : (exec cfgM 100 incB (fr 118 [3, 11, 12, 13, 14] (vB n z l ++ [.int .i64 (i : Nat)])) (sBl q l)).bind (canonK 5 [(0,0)] 118 [3, 11, 12, 13, 14]) =
 

 (.need (inR .i64 ((↑i : Int) + (1 : Int)))

 (.ret (.normal, [.ptr 3 0, .int .i64 n, .int .i64 z, .sli 4 (.c 0) 1 (.v l.length) none, .int .i64 ((↑i : Int) + (1 : Int))], [.ro encLook [PUnit.unit], .ro encStr q.3, .ro (encInt IntKind.u8) q.5, .own [.c (.int .u32 q.1), .c (.int .u32 q.2), .c (.sli 1 (.c 0) 1 (.v q.3.length) (some (.v q.4))), .c (.sli 2 (.c 0) 1 (.v q.5.length) (some (.v q.6)))] 43, .vec encStr l 9]))) := by kernel_rfl
set_option maxRecDepth 100000 in
theorem z_mem {q : InR} {n z : Int} {l : List ByteArray} : (execN cfgM 100 1 endB (fr 118 [3, 11, 12, 13] (vB n z l)) (sBl q l)).bind (canonK 5 [(0,0)] 118 [3, 11, 12, 13, 16, 17]) =
 

 (.ret (.normal, [.ptr 3 0, .int .i64 n, .int .i64 z, .sli 4 (.c 0) 1 (.v l.length) none, .ptr 5 0, .lit .i64 (0 : Int)], [.ro encLook [PUnit.unit], .ro encStr q.3, .ro (encInt IntKind.u8) q.5, .own [.c (.int .u32 q.1), .c (.int .u32 q.2), .c (.sli 1 (.c 0) 1 (.v q.3.length) (some (.v q.4))), .c (.sli 2 (.c 0) 1 (.v q.5.length) (some (.v q.6)))] 43, .vec encStr l 9, .own [.c (.sli 6 (.c 0) 1 (.c 80) (some (.c 80))), .c (.lit .i64 (0 : Int))] 80, .own [.c (.lit .u32 (0 : Int)), .c (.lit .u32 (0 : Int)), .c (.lit .u32 (0 : Int)), .c (.lit .u32 (0 : Int)), .c (.lit .u32 (0 : Int)), .c (.lit .u32 (0 : Int)), .c (.lit .u32 (0 : Int)), .c (.lit .u32 (0 : Int)), .c (.lit .u32 (0 : Int)), .c (.lit .u32 (0 : Int)), .c (.lit .u32 (0 : Int)), .c (.lit .u32 (0 : Int)), .c (.lit .u32 (0 : Int)), .c (.lit .u32 (0 : Int)), .c (.lit .u32 (0 : Int)), .c (.lit .u32 (0 : Int)), .c (.lit .u32 (0 : Int)), .c (.lit .u32 (0 : Int)), .c (.lit .u32 (0 : Int)), .c (.lit .u32 (0 : Int)), .c (.lit .u32 (0 : Int)), .c (.lit .u32 (0 : Int)), .c (.lit .u32 (0 : Int)), .c (.lit .u32 (0 : Int)), .c (.lit .u32 (0 : Int)), .c (.lit .u32 (0 : Int)), .c (.lit .u32 (0 : Int)), .c (.lit .u32 (0 : Int)), .c (.lit .u32 (0 : Int)), .c (.lit .u32 (0 : Int)), .c (.lit .u32 (0 : Int)), .c (.lit .u32 (0 : Int)), .c (.lit .u32 (0 : Int)), .c (.lit .u32 (0 : Int)), .c (.lit .u32 (0 : Int)), .c (.lit .u32 (0 : Int)), .c (.lit .u32 (0 : Int)), .c (.lit .u32 (0 : Int)), .c (.lit .u32 (0 : Int)), .c (.lit .u32 (0 : Int)), .c (.lit .u32 (0 : Int)), .c (.lit .u32 (0 : Int)), .c (.lit .u32 (0 : Int)), .c (.lit .u32 (0 : Int)), .c (.lit .u32 (0 : Int)), .c (.lit .u32 (0 : Int)), .c (.lit .u32 (0 : Int)), .c (.lit .u32 (0 : Int)), .c (.lit .u32 (0 : Int)), .c (.lit .u32 (0 : Int)), .c (.lit .u32 (0 : Int)), .c (.lit .u32 (0 : Int)), .c (.lit .u32 (0 : Int)), .c (.lit .u32 (0 : Int)), .c (.lit .u32 (0 : Int)), .c (.lit .u32 (0 : Int)), .c (.lit .u32 (0 : Int)), .c (.lit .u32 (0 : Int)), .c (.lit .u32 (0 : Int)), .c (.lit .u32 (0 : Int)), .c (.lit .u32 (0 : Int)), .c (.lit .u32 (0 : Int)), .c (.lit .u32 (0 : Int)), .c (.lit .u32 (0 : Int)), .c (.lit .u32 (0 : Int)), .c (.lit .u32 (0 : Int)), .c (.lit .u32 (0 : Int)), .c (.lit .u32 (0 : Int)), .c (.lit .u32 (0 : Int)), .c (.lit .u32 (0 : Int)), .c (.lit .u32 (0 : Int)), .c (.lit .u32 (0 : Int)), .c (.lit .u32 (0 : Int)), .c (.lit .u32 (0 : Int)), .c (.lit .u32 (0 : Int)), .c (.lit .u32 (0 : Int)), .c (.lit .u32 (0 : Int)), .c (.lit .u32 (0 : Int)), .c (.lit .u32 (0 : Int)), .c (.lit .u32 (0 : Int))] 40])) := by kernel_rfl
set_option maxRecDepth 100000 in
theorem z_end {q : InR} {n z : Int} {l : List ByteArray} : (exec (cfgB q n z l) 100 (restC 1 endB) (fr 118 [3, 11, 12, 13, 16, 17] (vB n z l ++ [.ptr 6 0, .lit .i64 0])) (sBm q l (List.replicate 80 0) 0)).bind (canonK 3 [(0,0)] 118 [6, 7, 8, 9, 10]) =
 

 (.eq ([SVal.lit .i64 (0 : Int), .int .i64 n, .int .i64 z, .sli 4 (.c 0) 1 (.v l.length) none] = [SVal.lit .i64 (0 : Int), .int .i64 n, .int .i64 z, .sli 4 (.c 0) 1 (.v l.length) none] ∧ [Blk.ro encLook [PUnit.unit], .ro encStr q.3, .ro (encInt IntKind.u8) q.5, .own [.c (.int .u32 q.1), .c (.int .u32 q.2), .c (.sli 1 (.c 0) 1 (.v q.3.length) (some (.v q.4))), .c (.sli 2 (.c 0) 1 (.v q.5.length) (some (.v q.6)))] 43, .vec encStr l 9, .own [.a (encInt IntKind.u32) 80 (List.replicate 80 (0 : Int))] 40, .own [.c (.sli 5 (.c 0) 1 (.v 80) (some (.v 80))), .c (.int .i64 (0 : Int))] 80] = [Blk.ro encLook [PUnit.unit], .ro encStr q.3, .ro (encInt IntKind.u8) q.5, .own [.c (.int .u32 q.1), .c (.int .u32 q.2), .c (.sli 1 (.c 0) 1 (.v q.3.length) (some (.v q.4))), .c (.sli 2 (.c 0) 1 (.v q.5.length) (some (.v q.6)))] 43, .vec encStr l 9, .own [.a (encInt IntKind.u32) 80 (List.replicate 80 (0 : Int))] 40, .own [.c (.sli 5 (.c 0) 1 (.v 80) (some (.v 80))), .c (.int .i64 (0 : Int))] 80] ∧ (wordsP n z).snd = (0 : Int) ∧ fits z l ∧ l.length ≤ 1000)

 (.eq ([Blk.ro encLook [PUnit.unit]] = [Blk.ro encLook [PUnit.unit]])

 (.br ((wordsP n z).snd != (0 : Int))

 (.br ((wordsP n z).snd != (0 : Int))

 (.ret (.ret, [.pnil, .pnil, .pnil, .snil, .lit .i64 (0 : Int)], [.ro encLook [PUnit.unit], .ro encStr q.3, .ro (encInt IntKind.u8) q.5]))

 (.ret (.ret, [.pnil, .pnil, .pnil, .snil, .lit .i64 (0 : Int)], [.ro encLook [PUnit.unit], .ro encStr q.3, .ro (encInt IntKind.u8) q.5])))

 (.br (false)

 (.ret (.ret, [.pnil, .pnil, .pnil, .snil, .lit .i64 (0 : Int)], [.ro encLook [PUnit.unit], .ro encStr q.3, .ro (encInt IntKind.u8) q.5]))

 (.need (true)

 (.need (true)

 (.need (true)

 (.need (true)

 (.need (true)

 (.need (true)
 (.eq (T.ret (SVal.sli (5 : Nat) (NN.c (0 : Nat)) (1 : Nat) (NN.v (80 : Nat)) (some (NN.v (80 : Nat)))) = T.ret (SVal.sli (5 : Nat) (NN.c (0 : Nat)) (1 : Nat) (NN.v (80 : Nat)) (some (NN.v (80 : Nat)))))
 (.eq (T.ret (SVal.int IntKind.u32 q.1) = T.ret (SVal.int IntKind.u32 q.1))

 (.need (true)

 (.need (true)
 (.eq (T.ret (SVal.sli (5 : Nat) (NN.c (0 : Nat)) (1 : Nat) (NN.v (80 : Nat)) (some (NN.v (80 : Nat)))) = T.ret (SVal.sli (5 : Nat) (NN.c (0 : Nat)) (1 : Nat) (NN.v (80 : Nat)) (some (NN.v (80 : Nat)))))
 (.eq (T.ret ([SVal.int IntKind.u32 (((List.replicate (80 : Nat) (0 : Int)).set (0 : Nat) (bitop BinOp.or IntKind.u32 (0 : Int) q.1)).getD (0 : Nat) (0 : Int))].getD (0 : Nat) SVal.bad) = T.ret ([SVal.int IntKind.u32 (((List.replicate (80 : Nat) (0 : Int)).set (0 : Nat) (bitop BinOp.or IntKind.u32 (0 : Int) q.1)).getD (0 : Nat) (0 : Int))].getD (0 : Nat) SVal.bad))

 (.br (false)

 (.ret (.ret, [.pnil, .pnil, .pnil, .snil, .lit .i64 (0 : Int)], [.ro encLook [PUnit.unit], .ro encStr q.3, .ro (encInt IntKind.u8) q.5]))

 (.need (true)

 (.need (true)

 (.need (true)

 (.need (true)

 (.need (true)

 (.need (true)
 (.eq (T.ret (SVal.sli (5 : Nat) (NN.c (0 : Nat)) (1 : Nat) (NN.v (80 : Nat)) (some (NN.v (80 : Nat)))) = T.ret (SVal.sli (5 : Nat) (NN.c (0 : Nat)) (1 : Nat) (NN.v (80 : Nat)) (some (NN.v (80 : Nat)))))
 (.eq (T.ret (SVal.int IntKind.u32 q.1) = T.ret (SVal.int IntKind.u32 q.1))

 (.need (true)

 (.need (true)
 (.eq (T.ret (SVal.sli (5 : Nat) (NN.c (0 : Nat)) (1 : Nat) (NN.v (80 : Nat)) (some (NN.v (80 : Nat)))) = T.ret (SVal.sli (5 : Nat) (NN.c (0 : Nat)) (1 : Nat) (NN.v (80 : Nat)) (some (NN.v (80 : Nat)))))
 (.eq (T.ret ([SVal.int IntKind.u32 (((((List.replicate (80 : Nat) (0 : Int)).set (0 : Nat) (bitop BinOp.or IntKind.u32 (0 : Int) q.1)).set (0 : Nat) (IntKind.u32.wrap (((List.replicate (80 : Nat) (0 : Int)).set (0 : Nat) (bitop BinOp.or IntKind.u32 (0 : Int) q.1)).getD (0 : Nat) (0 : Int) + (0 : Int)))).set (1 : Nat) (bitop BinOp.or IntKind.u32 (bitop BinOp.and IntKind.u32 ((((List.replicate (80 : Nat) (0 : Int)).set (0 : Nat) (bitop BinOp.or IntKind.u32 (0 : Int) q.1)).set (0 : Nat) (IntKind.u32.wrap (((List.replicate (80 : Nat) (0 : Int)).set (0 : Nat) (bitop BinOp.or IntKind.u32 (0 : Int) q.1)).getD (0 : Nat) (0 : Int) + (0 : Int)))).getD (1 : Nat) (0 : Int)) (0 : Int)) q.1)).getD (1 : Nat) (0 : Int))].getD (0 : Nat) SVal.bad) = T.ret ([SVal.int IntKind.u32 (((((List.replicate (80 : Nat) (0 : Int)).set (0 : Nat) (bitop BinOp.or IntKind.u32 (0 : Int) q.1)).set (0 : Nat) (IntKind.u32.wrap (((List.replicate (80 : Nat) (0 : Int)).set (0 : Nat) (bitop BinOp.or IntKind.u32 (0 : Int) q.1)).getD (0 : Nat) (0 : Int) + (0 : Int)))).set (1 : Nat) (bitop BinOp.or IntKind.u32 (bitop BinOp.and IntKind.u32 ((((List.replicate (80 : Nat) (0 : Int)).set (0 : Nat) (bitop BinOp.or IntKind.u32 (0 : Int) q.1)).set (0 : Nat) (IntKind.u32.wrap (((List.replicate (80 : Nat) (0 : Int)).set (0 : Nat) (bitop BinOp.or IntKind.u32 (0 : Int) q.1)).getD (0 : Nat) (0 : Int) + (0 : Int)))).getD (1 : Nat) (0 : Int)) (0 : Int)) q.1)).getD (1 : Nat) (0 : Int))].getD (0 : Nat) SVal.bad))

 (.ret (.ret, [.ptr 3 0, .ptr 5 0, .ptr 7 0, .sli 8 (.c 0) 1 (.v l.length) none, .int .i64 n], [.ro encLook [PUnit.unit], .ro encStr q.3, .ro (encInt IntKind.u8) q.5, .own [.c (.sli 4 (.c 0) 1 (.v 80) (some (.v 80))), .c (.int .i64 (2 : Int))] 80, .own [.a (encInt IntKind.u32) 80 (((((List.replicate 80 (0 : Int)).set 0 (bitop BinOp.or IntKind.u32 (0 : Int) q.1)).set 0 (IntKind.u32.wrap (((List.replicate 80 (0 : Int)).set 0 (bitop BinOp.or IntKind.u32 (0 : Int) q.1)).getD 0 (0 : Int) + (0 : Int)))).set 1 (bitop BinOp.or IntKind.u32 (bitop BinOp.and IntKind.u32 ((((List.replicate 80 (0 : Int)).set 0 (bitop BinOp.or IntKind.u32 (0 : Int) q.1)).set 0 (IntKind.u32.wrap (((List.replicate 80 (0 : Int)).set 0 (bitop BinOp.or IntKind.u32 (0 : Int) q.1)).getD 0 (0 : Int) + (0 : Int)))).getD 1 (0 : Int)) (0 : Int)) q.1)).set 1 (IntKind.u32.wrap (((((List.replicate 80 (0 : Int)).set 0 (bitop BinOp.or IntKind.u32 (0 : Int) q.1)).set 0 (IntKind.u32.wrap (((List.replicate 80 (0 : Int)).set 0 (bitop BinOp.or IntKind.u32 (0 : Int) q.1)).getD 0 (0 : Int) + (0 : Int)))).set 1 (bitop BinOp.or IntKind.u32 (bitop BinOp.and IntKind.u32 ((((List.replicate 80 (0 : Int)).set 0 (bitop BinOp.or IntKind.u32 (0 : Int) q.1)).set 0 (IntKind.u32.wrap (((List.replicate 80 (0 : Int)).set 0 (bitop BinOp.or IntKind.u32 (0 : Int) q.1)).getD 0 (0 : Int) + (0 : Int)))).getD 1 (0 : Int)) (0 : Int)) q.1)).getD 1 (0 : Int) + (0 : Int))))] 40, .own [.c (.int .i64 (0 : Int)), .c (.int .i64 n), .c (.int .i64 z), .c (SVal.fn (Fn.func 30) [.ptr 5 0] []), .c (.lit .u32 (0 : Int)), .c (.lit .u32 (0 : Int)), .c (.lit .i64 (0 : Int)), .c (.sli 6 (.c 0) 1 (.v l.length) none), .c .snil] 76, .vec encStr l 9, .own [.c (.lit .i64 (0 : Int)), .c (.int .i64 n), .c (.int .i64 z), .c (SVal.fn (Fn.func 31) [.ptr 7 0] []), .c (.lit .u32 (0 : Int)), .c (.lit .u32 (0 : Int)), .c (.lit .i64 (0 : Int)), .c (.lit .i64 (40 : Int)), .c (.lit .i64 (0 : Int)), .c .snil, .c .snil] 78, .vec encStr l 9]))))))))))))))))))))))))))))))) := by kernel_rfl
end Go.Proofs.YtplbncncnjiahaaDoor

/- Rings of the laws: what makes them. -/
namespace Go.Proofs.YtplbncncnjiahaaDoor
open Go Go.Proofs.YtplbncncnjiahaaDoor.Sx
set_option linter.unusedVariables false
/-- a message cut to a ring's size, and never empty -/
def cutM (z : Int) (s : ByteArray) : ByteArray :=
  let x := if z < (s.size : Int) then s.extract 0 z.toNat else s
  if x.size = 0 then ⟨⟨[(101 : UInt8)]⟩⟩ else x
def cutL (z : Int) (ms : List ByteArray) : Nat → List ByteArray
  | 0 => []
  | i + 1 => cutL z ms i ++ [cutM z (ms.getD i nilB)]
theorem cutL_len (z : Int) (ms : List ByteArray) : ∀ i, (cutL z ms i).length = i
  | 0 => rfl
  | i + 1 => by simp [cutL, cutL_len z ms i]
theorem cutM_fit {z : Int} (hz : 1 ≤ z) (s : ByteArray) : fitB z (cutM z s) := by
  unfold cutM
  have h1 : (ByteArray.mk ⟨[(101 : UInt8)]⟩).size = 1 := rfl
  by_cases h : z < (s.size : Int)
  · have h2 : (s.extract 0 z.toNat).size = z.toNat := by rw [ByteArray.size_extract]; omega
    simp only [if_pos h]
    split
    · rw [fitB, h1]; omega
    · rw [fitB, h2]; omega
  · simp only [if_neg h]
    split
    · rw [fitB, h1]; omega
    · rw [fitB]; omega
theorem cutL_fit {z : Int} (hz : 1 ≤ z) (ms : List ByteArray) : ∀ i, ∀ s ∈ cutL z ms i, fitB z s
  | 0 => fun s hs => by cases hs
  | i + 1 => fun s hs => by
    rcases List.mem_append.1 hs with hs | hs
    · exact cutL_fit hz ms i s hs
    · rw [List.mem_singleton.1 hs]; exact cutM_fit hz _
/-- the number of places, and the size, that raw numbers mean -/
def nR (p : Int) : Int := IntKind.i64.wrap ((1 : Int) * (2 : Int) ^ min (bitop BinOp.and IntKind.u8 p (3 : Int)).toNat 64)
def zR (s : Int) : Int := 1 + s.tmod 32
theorem and3 (p : Int) : bitop .and .u8 p 3 = 0 ∨ bitop .and .u8 p 3 = 1 ∨ bitop .and .u8 p 3 = 2 ∨ bitop .and .u8 p 3 = 3 := by
  have h1 : low .u8 3 = 3 := by decide
  have h2 : (low .u8 p &&& 3) = low .u8 p % 4 := Nat.and_two_pow_sub_one_eq_mod _ 2
  have w8 : ∀ x : Int, IntKind.u8.wrap x = x % 256 := fun x => by simp [IntKind.wrap, IntKind.signed, IntKind.bits]
  simp only [bitop, h1, h2, w8]
  omega
theorem nR_ok (p : Int) : nR p = 1 ∨ nR p = 2 ∨ nR p = 4 ∨ nR p = 8 := by
  unfold nR
  rcases and3 p with h | h | h | h <;> rw [h]
  · exact .inl (by decide)
  · exact .inr (.inl (by decide))
  · exact .inr (.inr (.inl (by decide)))
  · exact .inr (.inr (.inr (by decide)))
theorem zR_ok {s : Int} (h : 0 ≤ s ∧ s ≤ 255) : 1 ≤ zR s ∧ zR s ≤ 32 := by
  unfold zR; rw [Int.tmod_eq_emod_of_nonneg h.1]; omega
theorem ring_nz {p s : Int} (h : 0 ≤ s ∧ s ≤ 255) : RingOk (nR p) (zR s) := by
  have h1 := nR_ok p
  refine ⟨?_, by omega, zR_ok h⟩
  unfold powB
  exact decide_eq_true (by omega)
theorem words_nz {n z : Int} (h : RingOk n z) : (wordsP n z).2 = 0 := by
  have h1 := h.p
  have h2 := h.n
  have h3 := h.z
  unfold wordsP
  rw [if_neg (by rw [h1]; simp; omega), if_neg (by omega)]
abbrev lAll (q : InR) (z : Int) : List ByteArray := cutL z q.ms (min q.ms.length 20)
abbrev w80 (h : Int) : List Int := ((List.replicate 80 0).set 0 h).set 1 h
abbrev snd0 (n z : Int) : Snd := ⟨0, n, z, 0, 0, 0, [], 0⟩
abbrev rcv0 (n z : Int) : Rcv := ⟨0, n, z, 0, 0, 0, 40, 0, [], [], 0⟩
/-- what is made: words, memory, sender, receiver, messages -/
abbrev madeS (k : Nat) (n z : Int) (L : List ByteArray) (h : Int) : St := [.own [.a (encInt .u32) 80 (w80 h)] 40, .own [.c (.sli k (.c 0) 1 (.v 80) (some (.v 80))), .c (.int .i64 2)] 80] ++ sndS 30 (k + 2) (snd0 n z) L ++ rcvS 31 (k + 5) (rcv0 n z) ++ [.vec encStr L 9]
abbrev madeV (k : Nat) (n : Int) (L : List ByteArray) : SVal := .tup [.ptr (k + 1) 0, .ptr (k + 2) 0, .ptr (k + 5) 0, .sli (k + 8) (.c 0) 1 (.v L.length) none, .int .i64 n]
theorem fits_of {z : Int} {l : List ByteArray} (h : ∀ s ∈ l, fitB z s) : fits z l := fun j hj => fit_get h hj
abbrev idB : List Nat := [0, 4, 1, 2, 3, 5, 6]
abbrev ivB : List Nat := [0, 2, 3, 4, 1, 5, 6]
abbrev mB (w : List Int) (c : Int) (k : Nat) : St := [.own [.a (encInt .u32) 80 w] 40, .own [.c (.sli k (.c 0) 1 (.v 80) (some (.v 80))), .c (.int .i64 c)] 80]
theorem gl_ltB {k : Nat} (h : 0 < k) : ∀ p ∈ cfgM.gl, p.2 < k := by
  intro p hp
  rw [List.mem_singleton.1 hp]; exact h
set_option maxRecDepth 100000 in
theorem sendB_ok {q : InR} {n z : Int} {l : List ByteArray} (h1 : (wordsP n z).2 = 0) (h2 : fits z l) (hl : l.length ≤ 1000) (env : Env) (w : World) (vs : List Value) (hg : GlOk cfgM.gl env) (hr : Rep env (sBm q l (List.replicate 80 0) 0) w) (hd : DenL env (aSB n z l) vs) :
    Calls cfgM.P 12 ⟨vs⟩ w (Ends1 env (sBm q l (List.replicate 80 0) 0) w (.tup [.ptr 7 0, .lit .i64 0]) (sBm q l (List.replicate 80 0) 0 ++ sndB 7 0 n z l)) := by
  have hd' : DenL env [.int .i64 0, .int .i64 n, .int .i64 z, .sli 4 (.c 0) 1 (.v l.length) none] vs := by simpa [DenL, Den] using hd
  have hc := send_call (a := 0) (p := n) (s := z) hl
  rw [sendR_ok h1 h2] at hc
  have hf := frameNew (c := cfgM) (n := 2) hc [.ro encStr q.ms, .ro (encInt .u8) q.ps, plB q 2 3, .own [.a (encInt .u32) 80 (List.replicate 80 0)] 40, .own [.c (.sli 5 (.c 0) 1 (.v 80) (some (.v 80))), .c (.int .i64 0)] 80] rfl rfl (gl_ltB (by simp)) (by kernel_rfl) (Sa := sS l) (Sb := sndB 7 0 n z l) (s' := .tup [.ptr 7 0, .lit .i64 0]) (by kernel_rfl) (by kernel_rfl) rfl (roSame_refl _) sndB_plain rfl
  exact permNew (n := 2) (st := sBm q l (List.replicate 80 0) 0) (S0 := sS l ++ [.ro encStr q.ms, .ro (encInt .u8) q.ps, plB q 2 3, .own [.a (encInt .u32) 80 (List.replicate 80 0)] 40, .own [.c (.sli 5 (.c 0) 1 (.v 80) (some (.v 80))), .c (.int .i64 0)] 80]) (st0' := sBm q l (List.replicate 80 0) 0 ++ sndB 7 0 n z l) (st' := sBm q l (List.replicate 80 0) 0 ++ sndB 7 0 n z l) idB ivB hf rfl rfl rfl rfl rfl rfl rfl (by kernel_rfl) EqvSt.rfl' (by kernel_rfl) EqvSt.rfl' rfl rfl env w vs hg hr hd'
theorem cfgB_ok {q : InR} {n z : Int} {l : List ByteArray} : SmOk (cfgB q n z l) := by
  intro f g h
  simp only [cfgB] at h
  split at h
  · simp only [Option.some.injEq] at h; subst h
    exact smPre_ok (c := cfgM) (gl_lt (by omega)) gWords_ok
  · simp only [Option.some.injEq] at h; subst h
    exact smEq_ok (c := cfgB q n z l) fun h env w vs hg hr hd => sendB_ok h.1 h.2.1 h.2.2 env w vs hg hr hd
  · cases h
theorem b25_eq : Tryd.f25.body = some b25 := by kernel_rfl
theorem strEq_size (s : ByteArray) : strEq s { data := { toList := [] } } = true ↔ s.size = 0 := by
  rw [show ({ data := { toList := [] } } : ByteArray) = ByteArray.mk ⟨[]⟩ from rfl, strEq_nil, decide_eq_true_eq]
theorem w80_eq {h : Int} (hh : 0 ≤ h ∧ h < 4294967296) : ((((List.replicate 80 (0 : Int)).set 0 (bitop BinOp.or IntKind.u32 (0 : Int) h)).set 0 (IntKind.u32.wrap (((List.replicate 80 (0 : Int)).set 0 (bitop BinOp.or IntKind.u32 (0 : Int) h)).getD 0 (0 : Int) + (0 : Int))))) = (List.replicate 80 0).set 0 h := by
  have e1 : bitop BinOp.or IntKind.u32 (0 : Int) h = h := by rw [zero_or]; omega
  rw [e1, Sx.getD_set_self (by simp), List.set_set, w32_mod]
  congr 1; omega
end Go.Proofs.YtplbncncnjiahaaDoor

/- Rings of the laws: they are made. -/
namespace Go.Proofs.YtplbncncnjiahaaDoor
open Go Go.Proofs.YtplbncncnjiahaaDoor.Sx
set_option linter.unusedVariables false
theorem w80_eq1 {h : Int} (hh : 0 ≤ h ∧ h < 4294967296) (W : List Int) (hl : 1 < W.length) : (W.set 1 (bitop BinOp.or IntKind.u32 (bitop BinOp.and IntKind.u32 (W.getD 1 (0 : Int)) (0 : Int)) h)).set 1 (IntKind.u32.wrap ((W.set 1 (bitop BinOp.or IntKind.u32 (bitop BinOp.and IntKind.u32 (W.getD 1 (0 : Int)) (0 : Int)) h)).getD 1 (0 : Int) + (0 : Int))) = W.set 1 h := by
  rw [Sx.getD_set_self hl, List.set_set, raw_set]
  congr 1; omega
set_option maxHeartbeats 4000000 in
theorem both_call {q : InR} {p s : Int} (hh : 0 ≤ q.h ∧ q.h < 4294967296) (hs : 0 ≤ s ∧ s ≤ 255) :
    ∀ (env : Env) (w : World) (vs : List Value), GlOk cfgM.gl env → Rep env (sB q) w → DenL env [plV q 1 2, .int .u8 p, .int .u8 s] vs → Calls cfgM.P 25 ⟨vs⟩ w (Ends1 env (sB q) w (madeV 3 (nR p) (lAll q (zR s))) (sB q ++ madeS 3 (nR p) (zR s) (lAll q (zR s)) q.h)) := by
  intro env w vs hg hr hd
  have hb0 : env.length = 3 := hr.len
  have hz := zR_ok hs
  have hn := nR_ok p
  refine AtK.begin (c := cfgM) Tryd.func25 b25_eq hg hr hd fun a0 hA => ?_
  refine pieceNTK2 (c := cfgM) cfgM_ok 3 [3, 11, 12, 13] z_pre (by omega) (by simp) hA ?_
  have h3 := and3 p
  refine all_need (by
    have e : inR .u64 (bitop BinOp.and IntKind.u8 p (3 : Int)) = true := by
      simp only [inR, IntKind.min, IntKind.max, IntKind.signed, IntKind.bits]
      rcases h3 with h | h | h | h <;> rw [h] <;> decide
    exact e) fun _ => ?_
  refine all_needq (by simp only [decide_eq_true_eq]; exact Iff.rfl) (by omega) ?_
  refine all_needq (by simp only [inR_i64]; exact Iff.rfl) (by omega) ?_
  refine all_need rfl fun _ => ?_
  refine all_needq (by simp only [inR_i64]; exact Iff.rfl) (by unfold zR at hz; omega) ?_
  refine all_ret fun env1 a1 w1 hA1 => ?_
  simp only [Ex.to, Exit.then]
  obtain ⟨env2, hA2⟩ := hA1.void 4 encStr rfl
  have hA3 := hA2.perm [0, 1, 2, 3, 5] (by kernel_rfl) (by kernel_rfl) (st' := sBl q []) (vals' := [.ptr 3 0, .int .i64 (nR p), .int .i64 (zR s), .sli 4 (.c 0) 1 (.v 0) none]) (by kernel_rfl) (by kernel_rfl) (by rw [hb0]; rfl)
  have hA4 := hA3.on fun h => h.gvals (vB (nR p) (zR s) (cutL (zR s) q.ms 0)) rfl
  generalize nR p = n at *
  generalize zR s = z at *
  refine (show cB.wp Tryd.prog _ a1 w1 from wpS (by kernel_rfl) (wpS (by kernel_rfl) ?_))
  refine pieceTK2 (c := cfgM) cfgM_ok [3, 11, 12, 13, 14] (z_reg (l := cutL z q.ms 0)) (by omega) (by simp) hA4 ?_
  refine all_ret fun env5 a5 w5 hA5 => ?_
  simp only [Ex.to, Exit.then]
  have hA6 := hA5.on fun h => h.gvals (vB n z (cutL z q.ms 0) ++ [.int .i64 ((0 : Nat) : Int)]) rfl
  refine wpB 0 (by kernel_rfl) (wpL (by kernel_rfl) (fun (i : Nat) a' w' => (i ≤ q.ms.length ∧ i ≤ 20) ∧ ∃ env', AtK env [(0, 0)] ⟨w, inFoot env (sB q)⟩ env' (fr 118 [3, 11, 12, 13, 14] (vB n z (cutL z q.ms i) ++ [SVal.int .i64 ((i : Nat) : Int)])) (sBl q (cutL z q.ms i)) a' w') (fun (i : Nat) => 20 - i) (0 : Nat) ⟨⟨Nat.zero_le _, Nat.zero_le _⟩, env5, hA6⟩ ?_)
  rintro i a' w' ⟨⟨hi, hi2⟩, env', hA⟩
  have hcl := cutL_len z q.ms i
  refine (show roundB.wp _ _ _ _ from wpS (by kernel_rfl) ?_)
  refine pieceTK2 (c := cfgM) cfgM_ok [3, 11, 12, 13, 14] (z_tm (l := cutL z q.ms i)) (by omega) (by simp) hA ?_
  have out : i = min q.ms.length 20 → ∀ {env' : Env} {a' : Act} {w' : World}, AtK env [(0, 0)] ⟨w, inFoot env (sB q)⟩ env' (fr 118 [3, 11, 12, 13, 14] (vB n z (cutL z q.ms i) ++ [.int .i64 (i : Nat)])) (sBl q (cutL z q.ms i)) a' w' →
      endB.wp Tryd.prog (bodyPost Tryd.prog Tryd.f25 (Ends1 env (sB q) w (madeV 3 n (lAll q z)) (sB q ++ madeS 3 n z (lAll q z) q.h))) a' w' := by
    intro hie env' a' w' hA
    have hL : cutL z q.ms i = lAll q z := by rw [hie]
    rw [hL] at hA hcl
    have hfit := cutL_fit hz.1 q.ms (min q.ms.length 20)
    generalize hLL : lAll q z = L at *
    have hA0 : AtK env [(0, 0)] ⟨w, inFoot env (sB q)⟩ env' (fr 118 [3, 11, 12, 13] (vB n z L)) (sBl q L) a' w' := hA.on fun h => At.few (names := [3, 11, 12, 13]) (extra := [14]) (vals := vB n z L) (ev := [.int .i64 (i : Nat)]) h rfl
    refine pieceNTK2 (c := cfgM) cfgM_ok 1 [3, 11, 12, 13, 16, 17] (z_mem (l := L)) (by omega) (by simp) hA0 ?_
    refine all_ret fun env1 a1 w1 hA1 => ?_
    simp only [Ex.to, Exit.then]
    have hA2 := hA1.on fun h => h.segs 6 (l' := [.a (encInt .u32) 80 (List.replicate 80 0)]) rfl (by intro s hs; rw [List.mem_singleton.1 hs]; exact List.length_replicate) (fun cs h => denL_gen2 (by kernel_rfl) h)
    have hA3 := hA2.perm [0, 1, 2, 3, 4, 6, 5] (by kernel_rfl) (by kernel_rfl) (st' := sBl q L ++ [.own [.a (encInt .u32) 80 (List.replicate 80 0)] 40, .own [.c (.sli 5 (.c 0) 1 (.c 80) (some (.c 80))), .c (.lit .i64 0)] 80]) (vals' := vB n z L ++ [.ptr 6 0, .lit .i64 0]) (by kernel_rfl) (by kernel_rfl) (by rw [hb0]; rfl)
    have hA4 : AtK env [(0, 0)] ⟨w, inFoot env (sB q)⟩ _ (fr 118 [3, 11, 12, 13, 16, 17] (vB n z L ++ [.ptr 6 0, .lit .i64 0])) (sBm q L (List.replicate 80 0) 0) a1 w1 := hA3.on fun h => h.gen rfl
    have hring : RingOk n z := by
      refine ⟨?_, by omega, hz⟩
      unfold powB
      exact decide_eq_true (by omega)
    have hw := words_nz hring
    refine pieceTK2 (c := cfgB q n z L) cfgB_ok [6, 7, 8, 9, 10] (z_end (l := L)) (by omega) (by simp) hA4 ?_
    refine all_eq ⟨by first | exact True.intro | rfl, by first | exact True.intro | rfl, hw, fits_of (by rw [← hLL]; exact hfit), by omega⟩ ?_
    refine all_eq rfl ?_
    refine all_br (fun hh => absurd hw (bne_iff_ne.1 hh)) (fun _ => ?_)
    refine all_br (fun hh => by cases hh) (fun _ => ?_)
    have w1 : (1 : Nat) < ((List.replicate 80 (0 : Int)).set 0 q.h).length := by simp
    rw [w80_eq hh, w80_eq1 hh _ w1]
    repeat' (first
      | refine all_need rfl (fun _ => ?_)
      | refine all_eq trivial ?_
      | refine all_eq rfl ?_
      | refine all_br (fun hh => by cases hh) (fun _ => ?_))
    refine all_ret fun env5 a5 w5 hA5 => ?_
    obtain ⟨env6, hA6⟩ := hA5.nilv 5 8 1 (l := [.int .i64 0, .int .i64 n, .int .i64 z, .fn (.func 30) [.ptr 5 0] [], .lit .u32 0, .lit .u32 0, .lit .i64 0, .sli 6 (.c 0) 1 (.v L.length) none, .snil]) (T0 := 76) rfl rfl encBool 4
    obtain ⟨env7, hA7⟩ := hA6.nilv 7 9 1 (l := [.lit .i64 0, .int .i64 n, .int .i64 z, .fn (.func 31) [.ptr 7 0] [], .lit .u32 0, .lit .u32 0, .lit .i64 0, .lit .i64 40, .lit .i64 0, .snil, .snil]) (T0 := 78) rfl rfl (encInt .u8) 5
    obtain ⟨env8, hA8⟩ := hA7.nilv 7 10 1 (l := [.lit .i64 0, .int .i64 n, .int .i64 z, .fn (.func 31) [.ptr 7 0] [], .lit .u32 0, .lit .u32 0, .lit .i64 0, .lit .i64 40, .lit .i64 0, .sli 10 (.c 0) 1 (.v 0) none, .snil]) (T0 := 78) rfl rfl encStr 9
    have hA9 := hA8.perm [0, 1, 2, 4, 3, 5, 6, 9, 7, 10, 11, 8] (by kernel_rfl) (by kernel_rfl) (st' := sB q ++ ([.own [.a (encInt .u32) 80 (w80 q.h)] 40, .own [.c (.sli 3 (.c 0) 1 (.v 80) (some (.v 80))), .c (.int .i64 2)] 80,
      .own [.c (.int .i64 0), .c (.int .i64 n), .c (.int .i64 z), .c (.fn (.func 30) [.ptr 5 0] []), .c (.lit .u32 0), .c (.lit .u32 0), .c (.lit .i64 0), .c (.sli 6 (.c 0) 1 (.v L.length) none), .c (.sli 7 (.c 0) 1 (.v 0) none)] 76, .vec encStr L 9, .vec encBool [] 4,
      .own [.c (.lit .i64 0), .c (.int .i64 n), .c (.int .i64 z), .c (.fn (.func 31) [.ptr 8 0] []), .c (.lit .u32 0), .c (.lit .u32 0), .c (.lit .i64 0), .c (.lit .i64 40), .c (.lit .i64 0), .c (.sli 9 (.c 0) 1 (.v 0) none), .c (.sli 10 (.c 0) 1 (.v 0) none)] 78, .vec (encInt .u8) [] 5, .vec encStr [] 9, .vec encStr L 9]))
      (vals' := [.ptr 4 0, .ptr 5 0, .ptr 8 0, .sli 11 (.c 0) 1 (.v L.length) none, .int .i64 n]) (by kernel_rfl) (by kernel_rfl) (by rw [hb0]; rfl)
    have hA10 : AtK env [(0, 0)] ⟨w, inFoot env (sB q)⟩ _ (fr 118 [6, 7, 8, 9, 10] [.ptr 4 0, .ptr 5 0, .ptr 8 0, .sli 11 (.c 0) 1 (.v L.length) none, .int .i64 n]) (sB q ++ madeS 3 n z L q.h) a5 w5 := hA9.on fun h => h.gen rfl
    exact hA10.out (c := cfgM) (by kernel_rfl)
  refine all_brp (by simp only [decide_eq_true_eq] <;> exact Iff.rfl) (fun h6 => ?_) (fun h6 => all_ret fun _ _ _ h => ?_)
  · refine all_brp (by simp only [decide_eq_true_eq] <;> exact Iff.rfl) (fun h7 => all_ret fun env1 a1 w1 hA1 => ?_) (fun h7 => all_ret fun _ _ _ h => ?_)
    · simp only [Ex.to, Exit.then]
      have hi' : i < q.ms.length := by omega
      refine (show (rgt roundB).wp _ _ _ _ from wpS (by kernel_rfl) (wpB 1 (by kernel_rfl) ?_))
      refine (show bbB.wp _ _ _ _ from ?_)
      refine pieceTK2 (c := cfgM) cfgM_ok [3, 11, 12, 13, 14] (z_bb (l := cutL z q.ms i)) (by omega) (by simp) hA1 ?_
      simp only [Int.toNat_natCast]
      have fin : ∀ {x : ByteArray}, x = cutM z (q.ms.getD i nilB) → ∀ {env' : Env} {a' : Act} {w' : World}, AtK env [(0, 0)] ⟨w, inFoot env (sB q)⟩ env' (fr 118 [3, 11, 12, 13, 14] [.ptr 3 0, .int .i64 n, .int .i64 z, .sli 4 (.c 0) 1 (.v ((cutL z q.ms i).length + 1)) none, .int .i64 (i : Nat)]) (sB q ++ [plB q 1 2, .vec encStr (cutL z q.ms i ++ [x]) 9]) a' w' →
          Exit.inBlock 1 (Exit.then (incB.wp Tryd.prog (Exit.then (fun a' w' => ∃ k : Nat, ((k ≤ q.ms.length ∧ k ≤ 20) ∧ ∃ env', AtK env [(0, 0)] ⟨w, inFoot env (sB q)⟩ env' (fr 118 [3, 11, 12, 13, 14] (vB n z (cutL z q.ms k) ++ [SVal.int .i64 ((k : Nat) : Int)])) (sBl q (cutL z q.ms k)) a' w') ∧ 20 - k < 20 - i) (Exit.inBlock 0 (Exit.then (endB.wp Tryd.prog (bodyPost Tryd.prog Tryd.f25 (Ends1 env (sB q) w (madeV 3 n (lAll q z)) (sB q ++ madeS 3 n z (lAll q z) q.h)))) (bodyPost Tryd.prog Tryd.f25 (Ends1 env (sB q) w (madeV 3 n (lAll q z)) (sB q ++ madeS 3 n z (lAll q z) q.h))))))) (Exit.then (fun a' w' => ∃ k : Nat, ((k ≤ q.ms.length ∧ k ≤ 20) ∧ ∃ env', AtK env [(0, 0)] ⟨w, inFoot env (sB q)⟩ env' (fr 118 [3, 11, 12, 13, 14] (vB n z (cutL z q.ms k) ++ [SVal.int .i64 ((k : Nat) : Int)])) (sBl q (cutL z q.ms k)) a' w') ∧ 20 - k < 20 - i) (Exit.inBlock 0 (Exit.then (endB.wp Tryd.prog (bodyPost Tryd.prog Tryd.f25 (Ends1 env (sB q) w (madeV 3 n (lAll q z)) (sB q ++ madeS 3 n z (lAll q z) q.h)))) (bodyPost Tryd.prog Tryd.f25 (Ends1 env (sB q) w (madeV 3 n (lAll q z)) (sB q ++ madeS 3 n z (lAll q z) q.h))))))) .normal a' w' := by
        intro x hx env' a' w' h'
        simp only [Exit.inBlock, Exit.then]
        subst hx
        have e2 : (cutL z q.ms i).length + 1 = (cutL z q.ms (i + 1)).length := by rw [cutL_len, cutL_len]
        rw [e2] at h'
        have h2 : AtK env [(0, 0)] ⟨w, inFoot env (sB q)⟩ env' (fr 118 [3, 11, 12, 13, 14] (vB n z (cutL z q.ms (i + 1)) ++ [.int .i64 (i : Nat)])) (sBl q (cutL z q.ms (i + 1))) a' w' := h'
        refine pieceTK2 (c := cfgM) cfgM_ok [3, 11, 12, 13, 14] (z_inc (l := cutL z q.ms (i + 1))) (by omega) (by simp) h2 ?_
        refine all_needp (by simp only [inR_i64]; exact Iff.rfl) (by omega) fun _ => all_ret fun env4 a4 w4 hA4 => ?_
        exact ⟨i + 1, ⟨⟨by omega, by omega⟩, env4, hA4⟩, by omega⟩
      refine all_needq (by simp only [decide_eq_true_eq, Bool.and_eq_true]; exact Iff.rfl) (by omega) ?_
      refine all_needq (by simp only [decide_eq_true_eq]; exact Iff.rfl) (by omega) ?_
      have hM : ∀ x, x = (if z < ((q.ms.getD i nilB).size : Int) then (q.ms.getD i nilB).extract 0 z.toNat else q.ms.getD i nilB) → (x.size = 0 → (⟨⟨[(101 : UInt8)]⟩⟩ : ByteArray) = cutM z (q.ms.getD i nilB)) ∧ (¬ x.size = 0 → x = cutM z (q.ms.getD i nilB)) := by
        intro x hx
        unfold cutM
        simp only
        rw [← hx]
        exact ⟨fun h => by rw [if_pos h], fun h => by rw [if_neg h]⟩
      refine all_brp (by simp only [decide_eq_true_eq] <;> exact Iff.rfl) (fun h8 => ?_) (fun h8 => ?_)
      · refine all_needq (by simp only [decide_eq_true_eq, Bool.and_eq_true]; exact Iff.rfl) (by omega) ?_
        refine all_needq (by simp only [decide_eq_true_eq]; exact Iff.rfl) (by omega) ?_
        have hm := hM _ (if_pos (show z < ((q.ms.getD i nilB).size : Int) from h8)).symm
        refine all_brp (strEq_size _) (fun h9 => ?_) (fun h9 => ?_)
        · refine all_need rfl fun _ => ?_
          refine all_need (by first | rfl | exact decide_eq_true rfl) fun _ => ?_
          refine all_needq (by simp only [roomy_iff]; exact Iff.rfl) (by omega) ?_
          exact all_ret fun _ _ _ h => fin (hm.1 h9) h
        · refine all_need rfl fun _ => ?_
          refine all_need (by first | rfl | exact decide_eq_true rfl) fun _ => ?_
          refine all_needq (by simp only [roomy_iff]; exact Iff.rfl) (by omega) ?_
          exact all_ret fun _ _ _ h => fin (hm.2 h9) h
      · have hm := hM _ (if_neg (show ¬ z < ((q.ms.getD i nilB).size : Int) from h8)).symm
        refine all_brp (strEq_size _) (fun h9 => ?_) (fun h9 => ?_)
        · refine all_need rfl fun _ => ?_
          refine all_need (by first | rfl | exact decide_eq_true rfl) fun _ => ?_
          refine all_needq (by simp only [roomy_iff]; exact Iff.rfl) (by omega) ?_
          exact all_ret fun _ _ _ h => fin (hm.1 h9) h
        · refine all_need rfl fun _ => ?_
          refine all_need (by first | rfl | exact decide_eq_true rfl) fun _ => ?_
          refine all_needq (by simp only [roomy_iff]; exact Iff.rfl) (by omega) ?_
          exact all_ret fun _ _ _ h => fin (hm.2 h9) h
    · simp only [Ex.to, Exit.then, Exit.inBlock, if_true]
      exact out (by omega) h
  · simp only [Ex.to, Exit.then, Exit.inBlock, if_true]
    exact out (by omega) h
end Go.Proofs.YtplbncncnjiahaaDoor

/- Rings of the laws: their states; what was sent and got: pieces. -/
namespace Go.Proofs.YtplbncncnjiahaaDoor
open Go Go.Proofs.YtplbncncnjiahaaDoor.Sx
set_option linter.unusedVariables false
abbrev tailR (q : InR) (L : List ByteArray) : St := [.vec encStr L 9, .ro encStr q.ms, .ro (encInt .u8) q.ps, plB q 10 11]
/-- a law's state: memory, sender, receiver, messages, what came in -/
abbrev sLw (q : InR) (w : List Int) (c : Int) (f g : Nat) (x : Snd) (y : Rcv) (L : List ByteArray) : St := memS 80 w c ++ sndS f 3 x L ++ rcvS g 6 y ++ tailR q L
/-- passed: its state -/
abbrev sP (L : List ByteArray) (S : List Bool) (G : List ByteArray) : St := [lookB, .vec encStr L 9, .own [.a encBool S.length S] 4, .vec encStr G 9]
abbrev aP (L : List ByteArray) (S : List Bool) (G : List ByteArray) : List SVal := [.sli 1 (.c 0) 1 (.v L.length) none, .sli 2 (.c 0) 1 (.v S.length) (some (.v S.length)), .sli 3 (.c 0) 1 (.v G.length) none]
noncomputable def b26 : Code := Tryd.f26.body.getD .skip
noncomputable def c26 : Code := restC 2 b26
noncomputable def reg26 : Code := lft (lft c26)
noncomputable def blk26 : Code := rgt (lft c26)
noncomputable def round26 : Code := lft (lft blk26)
noncomputable def tm26 : Code := lft round26
noncomputable def bb26 : Code := lft (lft (rgt round26))
noncomputable def inc26 : Code := rgt (rgt round26)
noncomputable def d26 : Code := rgt c26
noncomputable def reg27 : Code := lft (lft d26)
noncomputable def blk27 : Code := rgt (lft d26)
noncomputable def round27 : Code := lft (lft blk27)
noncomputable def tm27 : Code := lft round27
noncomputable def bb27 : Code := lft (lft (rgt round27))
noncomputable def inc27 : Code := rgt (rgt round27)
noncomputable def end27 : Code := rgt d26
abbrev sP2 (L : List ByteArray) (S : List Bool) (G O I : List ByteArray) : St := sP L S G ++ [.vec encStr O 9, .vec encStr I 9]
abbrev vP (L : List ByteArray) (S : List Bool) (G O I : List ByteArray) : List SVal := aP L S G ++ [.sli 4 (.c 0) 1 (.v O.length) none, .sli 5 (.c 0) 1 (.v I.length) none]
abbrev nP : List Nat := [0, 1, 2, 8, 9]
abbrev nP1 : List Nat := [0, 1, 2, 8, 9, 10]
abbrev nP2 : List Nat := [0, 1, 2, 8, 9, 11]
/-- texts: its state -/
abbrev sX (A B : List ByteArray) : St := [lookB, .vec encStr A 9, .vec encStr B 9]
abbrev aX (A B : List ByteArray) (k : Nat) : List SVal := [.sli 1 (.c 0) 1 (.v A.length) none, .sli 2 (.c 0) 1 (.v k) none]
noncomputable def b24 : Code := Tryd.f24.body.getD .skip
noncomputable def c24 : Code := restC 2 b24
noncomputable def reg24 : Code := lft (lft c24)
noncomputable def blk24 : Code := rgt (lft c24)
noncomputable def round24 : Code := lft (lft blk24)
noncomputable def tm24 : Code := lft round24
noncomputable def bb24 : Code := lft (lft (rgt round24))
noncomputable def inc24 : Code := rgt (rgt round24)
noncomputable def end24 : Code := rgt c24
/-- sames: its state -/
abbrev sY (A B : List Bool) : St := [lookB, .own [.a encBool A.length A] 4, .own [.a encBool B.length B] 4]
abbrev aY (A B : List Bool) : List SVal := [.sli 1 (.c 0) 1 (.v A.length) (some (.v A.length)), .sli 2 (.c 0) 1 (.v B.length) (some (.v B.length))]
noncomputable def b23 : Code := Tryd.f23.body.getD .skip
noncomputable def c23 : Code := restC 2 b23
noncomputable def reg23 : Code := lft (lft c23)
noncomputable def blk23 : Code := rgt (lft c23)
noncomputable def round23 : Code := lft (lft blk23)
noncomputable def tm23 : Code := lft round23
noncomputable def bb23 : Code := lft (lft (rgt round23))
noncomputable def inc23 : Code := rgt (rgt round23)
noncomputable def end23 : Code := rgt c23
end Go.Proofs.YtplbncncnjiahaaDoor

namespace Go.Proofs.YtplbncncnjiahaaDoor
open Go Go.Proofs.YtplbncncnjiahaaDoor.Sx
set_option linter.unusedVariables false
set_option maxRecDepth 100000 in
theorem pa_pre {L : List ByteArray} {S : List Bool} {G : List ByteArray} : (execN cfgM 100 2 b26 (aP L S G ++ List.replicate 54 .bad) (sP L S G)).bind (canonK 4 [(0,0)] 57 nP) =
 

 (.ret (.normal, [.sli 1 (.c 0) 1 (.v L.length) none, .sli 2 (.c 0) 1 (.v S.length) (some (.v S.length)), .sli 3 (.c 0) 1 (.v G.length) none, .sli 4 (.c 0) 1 (.c 0) (some (.c 0)), .sli 5 (.c 0) 1 (.c 0) (some (.c 0))], [.ro encLook [PUnit.unit], .vec encStr L 9, .own [.a encBool S.length S] 4, .vec encStr G 9, .own [] 9, .own [] 9])) := by kernel_rfl
set_option maxRecDepth 100000 in
theorem pa_reg {L : List ByteArray} {S : List Bool} {G O I : List ByteArray} : (exec cfgM 100 reg26 (fr 57 nP (vP L S G O I)) (sP2 L S G O I)).bind (canonK 6 [(0,0)] 57 nP1) =
 

 (.ret (.normal, [.sli 1 (.c 0) 1 (.v L.length) none, .sli 2 (.c 0) 1 (.v S.length) (some (.v S.length)), .sli 3 (.c 0) 1 (.v G.length) none, .sli 4 (.c 0) 1 (.v O.length) none, .sli 5 (.c 0) 1 (.v I.length) none, .lit .i64 (0 : Int)], [.ro encLook [PUnit.unit], .vec encStr L 9, .own [.a encBool S.length S] 4, .vec encStr G 9, .vec encStr O 9, .vec encStr I 9])) := by kernel_rfl
set_option maxRecDepth 100000 in
theorem pa_tm {L : List ByteArray} {S : List Bool} {G O I : List ByteArray} {i : Nat} : (exec cfgM 100 tm26 (fr 57 nP1 (vP L S G O I ++ [.int .i64 (i : Nat)])) (sP2 L S G O I)).bind (canonK 6 [(0,0)] 57 nP1) =
 

 (.br (decide ((↑i : Int) < (↑S.length : Int)))

 (.br (decide ((↑i : Int) < (↑L.length : Int)))

 (.ret (.normal, [.sli 1 (.c 0) 1 (.v L.length) none, .sli 2 (.c 0) 1 (.v S.length) (some (.v S.length)), .sli 3 (.c 0) 1 (.v G.length) none, .sli 4 (.c 0) 1 (.v O.length) none, .sli 5 (.c 0) 1 (.v I.length) none, .int .i64 (↑i : Int)], [.ro encLook [PUnit.unit], .vec encStr L 9, .own [.a encBool S.length S] 4, .vec encStr G 9, .vec encStr O 9, .vec encStr I 9]))

 (.ret (.exit 0, [.sli 1 (.c 0) 1 (.v L.length) none, .sli 2 (.c 0) 1 (.v S.length) (some (.v S.length)), .sli 3 (.c 0) 1 (.v G.length) none, .sli 4 (.c 0) 1 (.v O.length) none, .sli 5 (.c 0) 1 (.v I.length) none, .int .i64 (↑i : Int)], [.ro encLook [PUnit.unit], .vec encStr L 9, .own [.a encBool S.length S] 4, .vec encStr G 9, .vec encStr O 9, .vec encStr I 9])))

 (.ret (.exit 0, [.sli 1 (.c 0) 1 (.v L.length) none, .sli 2 (.c 0) 1 (.v S.length) (some (.v S.length)), .sli 3 (.c 0) 1 (.v G.length) none, .sli 4 (.c 0) 1 (.v O.length) none, .sli 5 (.c 0) 1 (.v I.length) none, .int .i64 (↑i : Int)], [.ro encLook [PUnit.unit], .vec encStr L 9, .own [.a encBool S.length S] 4, .vec encStr G 9, .vec encStr O 9, .vec encStr I 9]))) := by kernel_rfl
set_option maxRecDepth 100000 in
theorem pa_bb {L : List ByteArray} {S : List Bool} {G O I : List ByteArray} {i : Nat} : (exec cfgM 100 bb26 (fr 57 nP1 (vP L S G O I ++ [.int .i64 (i : Nat)])) (sP2 L S G O I)).bind (canonK 4 [(0,0)] 57 nP1) =
 

 (.need (decide ((0 : Int) ≤ (↑i : Int)) && decide ((↑i : Int).toNat < S.length))

 (.need (decide ((↑i : Int).toNat < S.length))

 (.br (S.getD (↑i : Int).toNat false)

 (.need (decide ((0 : Int) ≤ (↑i : Int)) && decide ((↑i : Int).toNat < L.length))

 (.need (decide ((↑i : Int).toNat < L.length))

 (.need (true)

 (.need (decide (O.length = O.length))

 (.need (roomy (O.length + 1) 16)

 (.ret (.normal, [.sli 1 (.c 0) 1 (.v L.length) none, .sli 2 (.c 0) 1 (.v S.length) (some (.v S.length)), .sli 3 (.c 0) 1 (.v G.length) none, .sli 4 (.c 0) 1 (.v (O.length + 1)) none, .sli 5 (.c 0) 1 (.v I.length) none, .int .i64 (↑i : Int)], [.ro encLook [PUnit.unit], .vec encStr L 9, .own [.a encBool S.length S] 4, .vec encStr G 9, .vec encStr (O ++ [L.getD (↑i : Int).toNat { data := { toList := [] } }]) 9, .vec encStr I 9])))))))

 (.ret (.normal, [.sli 1 (.c 0) 1 (.v L.length) none, .sli 2 (.c 0) 1 (.v S.length) (some (.v S.length)), .sli 3 (.c 0) 1 (.v G.length) none, .sli 4 (.c 0) 1 (.v O.length) none, .sli 5 (.c 0) 1 (.v I.length) none, .int .i64 (↑i : Int)], [.ro encLook [PUnit.unit], .vec encStr L 9, .own [.a encBool S.length S] 4, .vec encStr G 9, .vec encStr O 9, .vec encStr I 9]))))) := by kernel_rfl
set_option maxRecDepth 100000 in
theorem pa_inc {L : List ByteArray} {S : List Bool} {G O I : List ByteArray} {i : Nat} : (exec cfgM 100 inc26 (fr 57 nP1 (vP L S G O I ++ [.int .i64 (i : Nat)])) (sP2 L S G O I)).bind (canonK 6 [(0,0)] 57 nP1) =
 

 (.need (inR .i64 ((↑i : Int) + (1 : Int)))

 (.ret (.normal, [.sli 1 (.c 0) 1 (.v L.length) none, .sli 2 (.c 0) 1 (.v S.length) (some (.v S.length)), .sli 3 (.c 0) 1 (.v G.length) none, .sli 4 (.c 0) 1 (.v O.length) none, .sli 5 (.c 0) 1 (.v I.length) none, .int .i64 ((↑i : Int) + (1 : Int))], [.ro encLook [PUnit.unit], .vec encStr L 9, .own [.a encBool S.length S] 4, .vec encStr G 9, .vec encStr O 9, .vec encStr I 9]))) := by kernel_rfl
set_option maxRecDepth 100000 in
theorem pb_reg {L : List ByteArray} {S : List Bool} {G O I : List ByteArray} : (exec cfgM 100 reg27 (fr 57 nP (vP L S G O I)) (sP2 L S G O I)).bind (canonK 6 [(0,0)] 57 nP2) =
 

 (.ret (.normal, [.sli 1 (.c 0) 1 (.v L.length) none, .sli 2 (.c 0) 1 (.v S.length) (some (.v S.length)), .sli 3 (.c 0) 1 (.v G.length) none, .sli 4 (.c 0) 1 (.v O.length) none, .sli 5 (.c 0) 1 (.v I.length) none, .lit .i64 (0 : Int)], [.ro encLook [PUnit.unit], .vec encStr L 9, .own [.a encBool S.length S] 4, .vec encStr G 9, .vec encStr O 9, .vec encStr I 9])) := by kernel_rfl
set_option maxRecDepth 100000 in
theorem pb_tm {L : List ByteArray} {S : List Bool} {G O I : List ByteArray} {i : Nat} : (exec cfgM 100 tm27 (fr 57 nP2 (vP L S G O I ++ [.int .i64 (i : Nat)])) (sP2 L S G O I)).bind (canonK 6 [(0,0)] 57 nP2) =
 

 (.br (decide ((↑i : Int) < (↑G.length : Int)))

 (.ret (.normal, [.sli 1 (.c 0) 1 (.v L.length) none, .sli 2 (.c 0) 1 (.v S.length) (some (.v S.length)), .sli 3 (.c 0) 1 (.v G.length) none, .sli 4 (.c 0) 1 (.v O.length) none, .sli 5 (.c 0) 1 (.v I.length) none, .int .i64 (↑i : Int)], [.ro encLook [PUnit.unit], .vec encStr L 9, .own [.a encBool S.length S] 4, .vec encStr G 9, .vec encStr O 9, .vec encStr I 9]))

 (.ret (.exit 2, [.sli 1 (.c 0) 1 (.v L.length) none, .sli 2 (.c 0) 1 (.v S.length) (some (.v S.length)), .sli 3 (.c 0) 1 (.v G.length) none, .sli 4 (.c 0) 1 (.v O.length) none, .sli 5 (.c 0) 1 (.v I.length) none, .int .i64 (↑i : Int)], [.ro encLook [PUnit.unit], .vec encStr L 9, .own [.a encBool S.length S] 4, .vec encStr G 9, .vec encStr O 9, .vec encStr I 9]))) := by kernel_rfl
set_option maxRecDepth 100000 in
theorem pb_bb {L : List ByteArray} {S : List Bool} {G O I : List ByteArray} {i : Nat} : (exec cfgM 100 bb27 (fr 57 nP2 (vP L S G O I ++ [.int .i64 (i : Nat)])) (sP2 L S G O I)).bind (canonK 4 [(0,0)] 57 nP2) =
 

 (.need (decide ((0 : Int) ≤ (↑i : Int)) && decide ((↑i : Int).toNat < G.length))

 (.need (decide ((↑i : Int).toNat < G.length))

 (.br (!strEq (G.getD (↑i : Int).toNat { data := { toList := [] } }) { data := { toList := [] } })

 (.need (decide ((0 : Int) ≤ (↑i : Int)) && decide ((↑i : Int).toNat < G.length))

 (.need (decide ((↑i : Int).toNat < G.length))

 (.need (true)

 (.need (decide (I.length = I.length))

 (.need (roomy (I.length + 1) 16)

 (.ret (.normal, [.sli 1 (.c 0) 1 (.v L.length) none, .sli 2 (.c 0) 1 (.v S.length) (some (.v S.length)), .sli 3 (.c 0) 1 (.v G.length) none, .sli 4 (.c 0) 1 (.v O.length) none, .sli 5 (.c 0) 1 (.v (I.length + 1)) none, .int .i64 (↑i : Int)], [.ro encLook [PUnit.unit], .vec encStr L 9, .own [.a encBool S.length S] 4, .vec encStr G 9, .vec encStr O 9, .vec encStr (I ++ [G.getD (↑i : Int).toNat { data := { toList := [] } }]) 9])))))))

 (.ret (.normal, [.sli 1 (.c 0) 1 (.v L.length) none, .sli 2 (.c 0) 1 (.v S.length) (some (.v S.length)), .sli 3 (.c 0) 1 (.v G.length) none, .sli 4 (.c 0) 1 (.v O.length) none, .sli 5 (.c 0) 1 (.v I.length) none, .int .i64 (↑i : Int)], [.ro encLook [PUnit.unit], .vec encStr L 9, .own [.a encBool S.length S] 4, .vec encStr G 9, .vec encStr O 9, .vec encStr I 9]))))) := by kernel_rfl
set_option maxRecDepth 100000 in
theorem pb_inc {L : List ByteArray} {S : List Bool} {G O I : List ByteArray} {i : Nat} : (exec cfgM 100 inc27 (fr 57 nP2 (vP L S G O I ++ [.int .i64 (i : Nat)])) (sP2 L S G O I)).bind (canonK 6 [(0,0)] 57 nP2) =
 

 (.need (inR .i64 ((↑i : Int) + (1 : Int)))

 (.ret (.normal, [.sli 1 (.c 0) 1 (.v L.length) none, .sli 2 (.c 0) 1 (.v S.length) (some (.v S.length)), .sli 3 (.c 0) 1 (.v G.length) none, .sli 4 (.c 0) 1 (.v O.length) none, .sli 5 (.c 0) 1 (.v I.length) none, .int .i64 ((↑i : Int) + (1 : Int))], [.ro encLook [PUnit.unit], .vec encStr L 9, .own [.a encBool S.length S] 4, .vec encStr G 9, .vec encStr O 9, .vec encStr I 9]))) := by kernel_rfl
set_option maxRecDepth 100000 in
theorem pb_end {L : List ByteArray} {S : List Bool} {G O I : List ByteArray} : (exec cfgM 100 end27 (fr 57 nP (vP L S G O I)) (sP2 L S G O I)).bind (canonK 4 [(0,0)] 57 [6, 7]) =
 

 (.ret (.ret, [.sli 4 (.c 0) 1 (.v O.length) none, .sli 5 (.c 0) 1 (.v I.length) none], [.ro encLook [PUnit.unit], .vec encStr L 9, .own [.a encBool S.length S] 4, .vec encStr G 9, .vec encStr O 9, .vec encStr I 9])) := by kernel_rfl
set_option maxRecDepth 100000 in
theorem tx_pre {A B : List ByteArray} {k : Nat} : (execN cfgM 100 2 b24 (aX A B k ++ List.replicate 24 .bad) (sX A B)).bind (canonK 3 [(0,0)] 26 [0, 1, 4]) =
 

 (.br ((↑A.length : Int) != (↑k : Int))

 (.ret (.ret, [.sli 1 (.c 0) 1 (.v A.length) none, .sli 2 (.c 0) 1 (.v k) none, .bl false], [.ro encLook [PUnit.unit], .vec encStr A 9, .vec encStr B 9]))

 (.ret (.normal, [.sli 1 (.c 0) 1 (.v A.length) none, .sli 2 (.c 0) 1 (.v k) none, .bl false], [.ro encLook [PUnit.unit], .vec encStr A 9, .vec encStr B 9]))) := by kernel_rfl
set_option maxRecDepth 100000 in
theorem tx_reg {A B : List ByteArray} {k : Nat} : (exec cfgM 100 reg24 (fr 26 [0, 1] (aX A B k)) (sX A B)).bind (canonK 3 [(0,0)] 26 [0, 1, 5]) =
 

 (.ret (.normal, [.sli 1 (.c 0) 1 (.v A.length) none, .sli 2 (.c 0) 1 (.v k) none, .lit .i64 (0 : Int)], [.ro encLook [PUnit.unit], .vec encStr A 9, .vec encStr B 9])) := by kernel_rfl
set_option maxRecDepth 100000 in
theorem tx_tm {A B : List ByteArray} {k i : Nat} : (exec cfgM 100 tm24 (fr 26 [0, 1, 5] (aX A B k ++ [.int .i64 (i : Nat)])) (sX A B)).bind (canonK 3 [(0,0)] 26 [0, 1, 5]) =
 

 (.br (decide ((↑i : Int) < (↑A.length : Int)))

 (.ret (.normal, [.sli 1 (.c 0) 1 (.v A.length) none, .sli 2 (.c 0) 1 (.v k) none, .int .i64 (↑i : Int)], [.ro encLook [PUnit.unit], .vec encStr A 9, .vec encStr B 9]))

 (.ret (.exit 0, [.sli 1 (.c 0) 1 (.v A.length) none, .sli 2 (.c 0) 1 (.v k) none, .int .i64 (↑i : Int)], [.ro encLook [PUnit.unit], .vec encStr A 9, .vec encStr B 9]))) := by kernel_rfl
set_option maxRecDepth 100000 in
theorem tx_bb {A B : List ByteArray} {k i : Nat} : (exec cfgM 100 bb24 (fr 26 [0, 1, 5] (aX A B k ++ [.int .i64 (i : Nat)])) (sX A B)).bind (canonK 3 [(0,0)] 26 [0, 1, 5, 4]) =
 

 (.need (decide ((0 : Int) ≤ (↑i : Int)) && decide ((↑i : Int).toNat < A.length))

 (.need (decide ((↑i : Int).toNat < A.length))

 (.need (decide ((0 : Int) ≤ (↑i : Int)) && decide ((↑i : Int).toNat < k))

 (.need (decide ((↑i : Int).toNat < B.length))

 (.br (!strEq (A.getD (↑i : Int).toNat { data := { toList := [] } }) (B.getD (↑i : Int).toNat { data := { toList := [] } }))

 (.ret (.ret, [.sli 1 (.c 0) 1 (.v A.length) none, .sli 2 (.c 0) 1 (.v k) none, .int .i64 (↑i : Int), .bl false], [.ro encLook [PUnit.unit], .vec encStr A 9, .vec encStr B 9]))

 (.ret (.normal, [.sli 1 (.c 0) 1 (.v A.length) none, .sli 2 (.c 0) 1 (.v k) none, .int .i64 (↑i : Int), .bad], [.ro encLook [PUnit.unit], .vec encStr A 9, .vec encStr B 9]))))))) := by kernel_rfl
set_option maxRecDepth 100000 in
theorem tx_inc {A B : List ByteArray} {k i : Nat} : (exec cfgM 100 inc24 (fr 26 [0, 1, 5] (aX A B k ++ [.int .i64 (i : Nat)])) (sX A B)).bind (canonK 3 [(0,0)] 26 [0, 1, 5]) =
 

 (.need (inR .i64 ((↑i : Int) + (1 : Int)))

 (.ret (.normal, [.sli 1 (.c 0) 1 (.v A.length) none, .sli 2 (.c 0) 1 (.v k) none, .int .i64 ((↑i : Int) + (1 : Int))], [.ro encLook [PUnit.unit], .vec encStr A 9, .vec encStr B 9]))) := by kernel_rfl
set_option maxRecDepth 100000 in
theorem tx_end {A B : List ByteArray} {k i : Nat} : (exec cfgM 100 end24 (fr 26 [0, 1, 5] (aX A B k ++ [.int .i64 (i : Nat)])) (sX A B)).bind (canonK 3 [(0,0)] 26 [4]) =
 

 (.ret (.ret, [.bl true], [.ro encLook [PUnit.unit], .vec encStr A 9, .vec encStr B 9])) := by kernel_rfl
set_option maxRecDepth 100000 in
theorem sm_pre {A B : List Bool} : (execN cfgM 100 2 b23 (aY A B ++ List.replicate 24 .bad) (sY A B)).bind (canonK 3 [(0,0)] 26 [0, 1, 4]) =
 

 (.br ((↑A.length : Int) != (↑B.length : Int))

 (.ret (.ret, [.sli 1 (.c 0) 1 (.v A.length) (some (.v A.length)), .sli 2 (.c 0) 1 (.v B.length) (some (.v B.length)), .bl false], [.ro encLook [PUnit.unit], .own [.a encBool A.length A] 4, .own [.a encBool B.length B] 4]))

 (.ret (.normal, [.sli 1 (.c 0) 1 (.v A.length) (some (.v A.length)), .sli 2 (.c 0) 1 (.v B.length) (some (.v B.length)), .bl false], [.ro encLook [PUnit.unit], .own [.a encBool A.length A] 4, .own [.a encBool B.length B] 4]))) := by kernel_rfl
set_option maxRecDepth 100000 in
theorem sm_reg {A B : List Bool} : (exec cfgM 100 reg23 (fr 26 [0, 1] (aY A B)) (sY A B)).bind (canonK 3 [(0,0)] 26 [0, 1, 5]) =
 

 (.ret (.normal, [.sli 1 (.c 0) 1 (.v A.length) (some (.v A.length)), .sli 2 (.c 0) 1 (.v B.length) (some (.v B.length)), .lit .i64 (0 : Int)], [.ro encLook [PUnit.unit], .own [.a encBool A.length A] 4, .own [.a encBool B.length B] 4])) := by kernel_rfl
set_option maxRecDepth 100000 in
theorem sm_tm {A B : List Bool} {i : Nat} : (exec cfgM 100 tm23 (fr 26 [0, 1, 5] (aY A B ++ [.int .i64 (i : Nat)])) (sY A B)).bind (canonK 3 [(0,0)] 26 [0, 1, 5]) =
 

 (.br (decide ((↑i : Int) < (↑A.length : Int)))

 (.ret (.normal, [.sli 1 (.c 0) 1 (.v A.length) (some (.v A.length)), .sli 2 (.c 0) 1 (.v B.length) (some (.v B.length)), .int .i64 (↑i : Int)], [.ro encLook [PUnit.unit], .own [.a encBool A.length A] 4, .own [.a encBool B.length B] 4]))

 (.ret (.exit 0, [.sli 1 (.c 0) 1 (.v A.length) (some (.v A.length)), .sli 2 (.c 0) 1 (.v B.length) (some (.v B.length)), .int .i64 (↑i : Int)], [.ro encLook [PUnit.unit], .own [.a encBool A.length A] 4, .own [.a encBool B.length B] 4]))) := by kernel_rfl
set_option maxRecDepth 100000 in
theorem sm_bb {A B : List Bool} {i : Nat} : (exec cfgM 100 bb23 (fr 26 [0, 1, 5] (aY A B ++ [.int .i64 (i : Nat)])) (sY A B)).bind (canonK 3 [(0,0)] 26 [0, 1, 5, 4]) =
 

 (.need (decide ((0 : Int) ≤ (↑i : Int)) && decide ((↑i : Int).toNat < A.length))

 (.need (decide ((↑i : Int).toNat < A.length))

 (.need (decide ((0 : Int) ≤ (↑i : Int)) && decide ((↑i : Int).toNat < B.length))

 (.need (decide ((↑i : Int).toNat < B.length))

 (.br (!A.getD (↑i : Int).toNat false == B.getD (↑i : Int).toNat false)

 (.ret (.ret, [.sli 1 (.c 0) 1 (.v A.length) (some (.v A.length)), .sli 2 (.c 0) 1 (.v B.length) (some (.v B.length)), .int .i64 (↑i : Int), .bl false], [.ro encLook [PUnit.unit], .own [.a encBool A.length A] 4, .own [.a encBool B.length B] 4]))

 (.ret (.normal, [.sli 1 (.c 0) 1 (.v A.length) (some (.v A.length)), .sli 2 (.c 0) 1 (.v B.length) (some (.v B.length)), .int .i64 (↑i : Int), .bad], [.ro encLook [PUnit.unit], .own [.a encBool A.length A] 4, .own [.a encBool B.length B] 4]))))))) := by kernel_rfl
set_option maxRecDepth 100000 in
theorem sm_inc {A B : List Bool} {i : Nat} : (exec cfgM 100 inc23 (fr 26 [0, 1, 5] (aY A B ++ [.int .i64 (i : Nat)])) (sY A B)).bind (canonK 3 [(0,0)] 26 [0, 1, 5]) =
 

 (.need (inR .i64 ((↑i : Int) + (1 : Int)))

 (.ret (.normal, [.sli 1 (.c 0) 1 (.v A.length) (some (.v A.length)), .sli 2 (.c 0) 1 (.v B.length) (some (.v B.length)), .int .i64 ((↑i : Int) + (1 : Int))], [.ro encLook [PUnit.unit], .own [.a encBool A.length A] 4, .own [.a encBool B.length B] 4]))) := by kernel_rfl
set_option maxRecDepth 100000 in
theorem sm_end {A B : List Bool} {i : Nat} : (exec cfgM 100 end23 (fr 26 [0, 1, 5] (aY A B ++ [.int .i64 (i : Nat)])) (sY A B)).bind (canonK 3 [(0,0)] 26 [4]) =
 

 (.ret (.ret, [.bl true], [.ro encLook [PUnit.unit], .own [.a encBool A.length A] 4, .own [.a encBool B.length B] 4])) := by kernel_rfl
end Go.Proofs.YtplbncncnjiahaaDoor

/- Rings of the laws: what was sent and received; likeness. -/
namespace Go.Proofs.YtplbncncnjiahaaDoor
open Go Go.Proofs.YtplbncncnjiahaaDoor.Sx
set_option linter.unusedVariables false
theorem b26_eq : Tryd.f26.body = some b26 := by kernel_rfl
theorem b24_eq : Tryd.f24.body = some b24 := by kernel_rfl
theorem b23_eq : Tryd.f23.body = some b23 := by kernel_rfl
abbrev sP3 (L : List ByteArray) (S : List Bool) (G : List ByteArray) : St := sP2 L S G (outK L S (min S.length L.length)) (inK G G.length)
abbrev rP (L : List ByteArray) (S : List Bool) (G : List ByteArray) : SVal := .tup [.sli 4 (.c 0) 1 (.v (outK L S (min S.length L.length)).length) none, .sli 5 (.c 0) 1 (.v (inK G G.length).length) none]
def InvA (env : Env) (w0 : From) (L : List ByteArray) (S : List Bool) (G : List ByteArray) (i : Nat) (a : Act) (w : World) : Prop :=
  (i ≤ S.length ∧ i ≤ L.length) ∧ ∃ env', AtK env [(0, 0)] w0 env' (fr 57 nP1 (vP L S G (outK L S i) [] ++ [SVal.int .i64 ((i : Nat) : Int)])) (sP2 L S G (outK L S i) []) a w
def InvB (env : Env) (w0 : From) (L : List ByteArray) (S : List Bool) (G O : List ByteArray) (i : Nat) (a : Act) (w : World) : Prop :=
  i ≤ G.length ∧ ∃ env', AtK env [(0, 0)] w0 env' (fr 57 nP2 (vP L S G O (inK G i) ++ [SVal.int .i64 ((i : Nat) : Int)])) (sP2 L S G O (inK G i)) a w
set_option maxHeartbeats 2000000 in
theorem passed_call {L : List ByteArray} {S : List Bool} {G : List ByteArray} (hL : L.length ≤ 1000) (hG : G.length ≤ 1000) :
    ∀ (env : Env) (w : World) (vs : List Value), GlOk cfgM.gl env → Rep env (sP L S G) w → DenL env (aP L S G) vs → Calls cfgM.P 26 ⟨vs⟩ w (Ends1 env (sP L S G) w (rP L S G) (sP3 L S G)) := by
  intro env w vs hg hr hd
  have hb0 : env.length = 4 := hr.len
  refine AtK.begin (c := cfgM) Tryd.func26 b26_eq hg hr hd fun a0 hA => ?_
  refine pieceNTK2 (c := cfgM) cfgM_ok 2 nP pa_pre (by omega) (by simp) hA ?_
  refine all_ret fun env1 a1 w1 hA1 => ?_
  simp only [Ex.to, Exit.then]
  obtain ⟨env2, hA2⟩ := hA1.void 4 encStr rfl
  obtain ⟨env3, hA3⟩ := hA2.void 5 encStr rfl
  have hA4 := hA3.perm [0, 1, 2, 3, 6, 7] (by kernel_rfl) (by kernel_rfl) (st' := sP2 L S G [] []) (vals' := aP L S G ++ [.sli 4 (.c 0) 1 (.v 0) none, .sli 5 (.c 0) 1 (.v 0) none]) (by kernel_rfl) (by kernel_rfl) (by rw [hb0]; rfl)
  have hA5 := hA4.on fun h => h.gvals (vP L S G (outK L S 0) []) rfl
  refine (show c26.wp Tryd.prog _ a1 w1 from wpS (by kernel_rfl) (wpS (by kernel_rfl) ?_))
  refine pieceTK2 (c := cfgM) cfgM_ok nP1 (pa_reg (O := outK L S 0) (I := [])) (by omega) (by simp) hA5 ?_
  refine all_ret fun env6 a6 w6 hA6 => ?_
  simp only [Ex.to, Exit.then]
  have hA7 := hA6.on fun h => h.gvals (vP L S G (outK L S 0) [] ++ [.int .i64 ((0 : Nat) : Int)]) rfl
  refine wpB 0 (by kernel_rfl) (wpL (by kernel_rfl) (InvA env ⟨w, inFoot env (sP L S G)⟩ L S G) (fun i => S.length - i) 0 ⟨⟨Nat.zero_le _, Nat.zero_le _⟩, env6, hA7⟩ ?_)
  rintro i a' w' ⟨⟨hi, hi2⟩, env', hA⟩
  have hol := outK_len L S i
  refine (show round26.wp _ _ _ _ from wpS (by kernel_rfl) ?_)
  refine pieceTK2 (c := cfgM) cfgM_ok nP1 pa_tm (by omega) (by simp) hA ?_
  have out : i = min S.length L.length → ∀ {env' : Env} {a' : Act} {w' : World}, AtK env [(0, 0)] ⟨w, inFoot env (sP L S G)⟩ env' (fr 57 nP1 (vP L S G (outK L S i) [] ++ [SVal.int .i64 ((i : Nat) : Int)])) (sP2 L S G (outK L S i) []) a' w' →
      d26.wp Tryd.prog (bodyPost Tryd.prog Tryd.f26 (Ends1 env (sP L S G) w (rP L S G) (sP3 L S G))) a' w' := by
    intro hie env' a' w' hA
    rw [hie] at hA hol
    generalize hO : outK L S (min S.length L.length) = O at *
    have hA0 : AtK env [(0, 0)] ⟨w, inFoot env (sP L S G)⟩ env' (fr 57 nP (vP L S G O (inK G 0))) (sP2 L S G O (inK G 0)) a' w' := hA.on fun h => At.few (names := nP) (extra := [10]) (vals := vP L S G O []) (ev := [.int .i64 _]) h rfl
    refine wpS (by kernel_rfl) (wpS (by kernel_rfl) ?_)
    refine (show reg27.wp _ _ _ _ from ?_)
    refine pieceTK2 (c := cfgM) cfgM_ok nP2 (pb_reg (O := O) (I := inK G 0)) (by omega) (by simp) hA0 ?_
    refine all_ret fun env6 a6 w6 hA6 => ?_
    simp only [Ex.to, Exit.then]
    have hA7 := hA6.on fun h => h.gvals (vP L S G O (inK G 0) ++ [.int .i64 ((0 : Nat) : Int)]) rfl
    refine wpB 2 (by kernel_rfl) (wpL (by kernel_rfl) (InvB env ⟨w, inFoot env (sP L S G)⟩ L S G O) (fun i => G.length - i) 0 ⟨Nat.zero_le _, env6, hA7⟩ ?_)
    rintro j a' w' ⟨hj, env', hA⟩
    have hil := inK_len G j
    refine (show round27.wp _ _ _ _ from wpS (by kernel_rfl) ?_)
    refine pieceTK2 (c := cfgM) cfgM_ok nP2 pb_tm (by omega) (by simp) hA ?_
    refine all_brp (by simp only [decide_eq_true_eq] <;> exact Iff.rfl) (fun h6 => all_ret fun env1 a1 w1 hA1 => ?_) (fun h6 => all_ret fun env1 a1 w1 hA1 => ?_)
    · simp only [Ex.to, Exit.then]
      refine (show (rgt round27).wp _ _ _ _ from wpS (by kernel_rfl) (wpB 3 (by kernel_rfl) ?_))
      refine (show bb27.wp _ _ _ _ from ?_)
      refine pieceTK2 (c := cfgM) cfgM_ok nP2 pb_bb (by omega) (by simp) hA1 ?_
      have fin : ∀ {env' : Env} {a' : Act} {w' : World}, AtK env [(0, 0)] ⟨w, inFoot env (sP L S G)⟩ env' (fr 57 nP2 (vP L S G O (inK G (j + 1)) ++ [SVal.int .i64 ((j : Nat) : Int)])) (sP2 L S G O (inK G (j + 1))) a' w' →
          (inc27.wp Tryd.prog (Exit.then (fun a' w' => ∃ k, InvB env ⟨w, inFoot env (sP L S G)⟩ L S G O k a' w' ∧ G.length - k < G.length - j) (Exit.inBlock 2 (Exit.then (end27.wp Tryd.prog (bodyPost Tryd.prog Tryd.f26 (Ends1 env (sP L S G) w (rP L S G) (sP3 L S G)))) (bodyPost Tryd.prog Tryd.f26 (Ends1 env (sP L S G) w (rP L S G) (sP3 L S G))))))) a' w' := by
        intro env' a' w' h'
        refine pieceTK2 (c := cfgM) cfgM_ok nP2 pb_inc (by omega) (by simp) h' ?_
        refine all_needp (by simp only [inR_i64]; exact Iff.rfl) (by omega) fun _ => all_ret fun env4 a4 w4 hA4 => ?_
        exact ⟨j + 1, ⟨by omega, env4, hA4⟩, by omega⟩
      simp only [Int.toNat_natCast]
      refine all_needq (by simp only [decide_eq_true_eq, Bool.and_eq_true]; exact Iff.rfl) (by omega) ?_
      refine all_needq (by simp only [decide_eq_true_eq]; exact Iff.rfl) (by omega) ?_
      have hs := strEq_size (G.getD j nilB)
      refine all_br (fun hh => ?_) (fun hh => ?_)
      · have hn : ¬ (G.getD j nilB).size = 0 := by
          intro e
          have h1 : (!strEq (G.getD j nilB) { data := { toList := [] } }) = true := hh
          rw [hs.2 e] at h1; cases h1
        have e1 : inK G (j + 1) = inK G j ++ [G.getD j nilB] := by simp only [inK, if_neg hn]
        have e2 : (inK G j).length + 1 = (inK G (j + 1)).length := by rw [e1]; simp
        refine all_needq (by simp only [decide_eq_true_eq, Bool.and_eq_true]; exact Iff.rfl) (by omega) ?_
        refine all_needq (by simp only [decide_eq_true_eq]; exact Iff.rfl) (by omega) ?_
        refine all_need rfl fun _ => ?_
        refine all_need (by first | rfl | exact decide_eq_true rfl) fun _ => ?_
        refine all_needq (by simp only [roomy_iff]; exact Iff.rfl) (by omega) ?_
        refine all_ret fun env4 a4 w4 hA4 => ?_
        simp only [Ex.to, Exit.inBlock, Exit.then]
        rw [e2] at hA4
        refine fin (env' := env4) ?_
        rw [e1] at hA4 ⊢
        exact hA4
      · have hn : (G.getD j nilB).size = 0 := by
          have h1 : (!strEq (G.getD j nilB) { data := { toList := [] } }) = false := hh
          exact hs.1 (by simpa using h1)
        have e1 : inK G (j + 1) = inK G j := by simp only [inK, if_pos hn]
        refine all_ret fun env4 a4 w4 hA4 => ?_
        simp only [Ex.to, Exit.inBlock, Exit.then]
        refine fin (env' := env4) ?_
        rw [e1]
        exact hA4
    · simp only [Ex.to, Exit.then, Exit.inBlock, if_true]
      obtain rfl : j = G.length := by omega
      have hA2 : AtK env [(0, 0)] ⟨w, inFoot env (sP L S G)⟩ env1 (fr 57 nP (vP L S G O (inK G G.length))) (sP2 L S G O (inK G G.length)) a1 w1 := hA1.on fun h => At.few (names := nP) (extra := [11]) (vals := vP L S G O (inK G G.length)) (ev := [.int .i64 _]) h rfl
      refine (show end27.wp _ _ _ _ from ?_)
      refine pieceTK2 (c := cfgM) cfgM_ok [6, 7] pb_end (by omega) (by simp) hA2 ?_
      refine all_ret fun env4 a4 w4 hA4 => ?_
      subst hO
      exact hA4.out (c := cfgM) (by kernel_rfl)
  refine all_brp (by simp only [decide_eq_true_eq] <;> exact Iff.rfl) (fun h6 => ?_) (fun h6 => all_ret fun _ _ _ h => ?_)
  · refine all_brp (by simp only [decide_eq_true_eq] <;> exact Iff.rfl) (fun h7 => all_ret fun env1 a1 w1 hA1 => ?_) (fun h7 => all_ret fun _ _ _ h => ?_)
    · simp only [Ex.to, Exit.then]
      refine (show (rgt round26).wp _ _ _ _ from wpS (by kernel_rfl) (wpB 1 (by kernel_rfl) ?_))
      refine (show bb26.wp _ _ _ _ from ?_)
      refine pieceTK2 (c := cfgM) cfgM_ok nP1 pa_bb (by omega) (by simp) hA1 ?_
      have fin : ∀ {env' : Env} {a' : Act} {w' : World}, AtK env [(0, 0)] ⟨w, inFoot env (sP L S G)⟩ env' (fr 57 nP1 (vP L S G (outK L S (i + 1)) [] ++ [SVal.int .i64 ((i : Nat) : Int)])) (sP2 L S G (outK L S (i + 1)) []) a' w' →
          (inc26.wp Tryd.prog (Exit.then (fun a' w' => ∃ k, InvA env ⟨w, inFoot env (sP L S G)⟩ L S G k a' w' ∧ S.length - k < S.length - i) (Exit.inBlock 0 (Exit.then (d26.wp Tryd.prog (bodyPost Tryd.prog Tryd.f26 (Ends1 env (sP L S G) w (rP L S G) (sP3 L S G)))) (bodyPost Tryd.prog Tryd.f26 (Ends1 env (sP L S G) w (rP L S G) (sP3 L S G))))))) a' w' := by
        intro env' a' w' h'
        refine pieceTK2 (c := cfgM) cfgM_ok nP1 pa_inc (by omega) (by simp) h' ?_
        refine all_needp (by simp only [inR_i64]; exact Iff.rfl) (by omega) fun _ => all_ret fun env4 a4 w4 hA4 => ?_
        exact ⟨i + 1, ⟨⟨by omega, by omega⟩, env4, hA4⟩, by omega⟩
      simp only [Int.toNat_natCast]
      refine all_needq (by simp only [decide_eq_true_eq, Bool.and_eq_true]; exact Iff.rfl) (by omega) ?_
      refine all_needq (by simp only [decide_eq_true_eq]; exact Iff.rfl) (by omega) ?_
      refine all_br (fun hh => ?_) (fun hh => ?_)
      · have e1 : outK L S (i + 1) = outK L S i ++ [L.getD i nilB] := by simp only [outK, hh, if_true]
        have e2 : (outK L S i).length + 1 = (outK L S (i + 1)).length := by rw [e1]; simp
        refine all_needq (by simp only [decide_eq_true_eq, Bool.and_eq_true]; exact Iff.rfl) (by omega) ?_
        refine all_needq (by simp only [decide_eq_true_eq]; exact Iff.rfl) (by omega) ?_
        refine all_need rfl fun _ => ?_
        refine all_need (by first | rfl | exact decide_eq_true rfl) fun _ => ?_
        refine all_needq (by simp only [roomy_iff]; exact Iff.rfl) (by omega) ?_
        refine all_ret fun env4 a4 w4 hA4 => ?_
        simp only [Ex.to, Exit.inBlock, Exit.then]
        rw [e2] at hA4
        refine fin (env' := env4) ?_
        rw [e1] at hA4 ⊢
        exact hA4
      · have e1 : outK L S (i + 1) = outK L S i := by simp only [outK, hh]; rfl
        refine all_ret fun env4 a4 w4 hA4 => ?_
        simp only [Ex.to, Exit.inBlock, Exit.then]
        refine fin (env' := env4) ?_
        rw [e1]
        exact hA4
    · simp only [Ex.to, Exit.then, Exit.inBlock, if_true]
      exact out (by omega) h
  · simp only [Ex.to, Exit.then, Exit.inBlock, if_true]
    exact out (by omega) h
set_option maxHeartbeats 1000000 in
/-- like texts -/
theorem texts_call {A B : List ByteArray} {k : Nat} (hk : A.length = k) (hB : B.take k = A) (hl : k ≤ B.length) (hA1 : A.length ≤ 1000000) :
    ∀ (env : Env) (w : World) (vs : List Value), GlOk cfgM.gl env → Rep env (sX A B) w → DenL env (aX A B k) vs → Calls cfgM.P 24 ⟨vs⟩ w (Ends1 env (sX A B) w (.bl true) (sX A B)) := by
  intro env w vs hg hr hd
  have hb0 : env.length = 3 := hr.len
  refine AtK.begin (c := cfgM) Tryd.func24 b24_eq hg hr hd fun a0 hA => ?_
  refine pieceNTK2 (c := cfgM) cfgM_ok 2 [0, 1, 4] tx_pre (by omega) (by simp) hA ?_
  refine all_br (fun hh => absurd (bne_iff_ne.1 hh) (by simp [hk])) (fun _ => ?_)
  refine all_ret fun env1 a1 w1 hA1 => ?_
  simp only [Ex.to, Exit.then]
  have hA2 : AtK env [(0, 0)] ⟨w, inFoot env (sX A B)⟩ env1 (fr 26 [0, 1] (aX A B k)) (sX A B) a1 w1 := hA1.on fun h => At.few (names := [0, 1]) (extra := [4]) (vals := aX A B k) (ev := [.bl false]) h rfl
  refine (show c24.wp Tryd.prog _ a1 w1 from wpS (by kernel_rfl) (wpS (by kernel_rfl) ?_))
  refine pieceTK2 (c := cfgM) cfgM_ok [0, 1, 5] tx_reg (by omega) (by simp) hA2 ?_
  refine all_ret fun env3 a3 w3 hA3 => ?_
  simp only [Ex.to, Exit.then]
  have hA4 := hA3.on fun h => h.gvals (aX A B k ++ [.int .i64 ((0 : Nat) : Int)]) rfl
  refine wpB 0 (by kernel_rfl) (wpL (by kernel_rfl) (fun (i : Nat) a' w' => i ≤ A.length ∧ ∃ env', AtK env [(0, 0)] ⟨w, inFoot env (sX A B)⟩ env' (fr 26 [0, 1, 5] (aX A B k ++ [SVal.int .i64 ((i : Nat) : Int)])) (sX A B) a' w') (fun (i : Nat) => A.length - i) (0 : Nat) ⟨Nat.zero_le _, env3, hA4⟩ ?_)
  rintro i a' w' ⟨hi, env', hA⟩
  refine (show round24.wp _ _ _ _ from wpS (by kernel_rfl) ?_)
  refine pieceTK2 (c := cfgM) cfgM_ok [0, 1, 5] tx_tm (by omega) (by simp) hA ?_
  refine all_brp (by simp only [decide_eq_true_eq] <;> exact Iff.rfl) (fun h6 => all_ret fun env1 a1 w1 hA1 => ?_) (fun h6 => all_ret fun env1 a1 w1 hA1 => ?_)
  · simp only [Ex.to, Exit.then]
    refine (show (rgt round24).wp _ _ _ _ from wpS (by kernel_rfl) (wpB 1 (by kernel_rfl) ?_))
    refine (show bb24.wp _ _ _ _ from ?_)
    refine pieceTK2 (c := cfgM) cfgM_ok [0, 1, 5, 4] tx_bb (by omega) (by simp) hA1 ?_
    simp only [Int.toNat_natCast]
    refine all_needq (by simp only [decide_eq_true_eq, Bool.and_eq_true]; exact Iff.rfl) (by omega) ?_
    refine all_needq (by simp only [decide_eq_true_eq]; exact Iff.rfl) (by omega) ?_
    refine all_needq (by simp only [decide_eq_true_eq, Bool.and_eq_true]; exact Iff.rfl) (by omega) ?_
    refine all_needq (by simp only [decide_eq_true_eq]; exact Iff.rfl) (by omega) ?_
    have e1 : A.getD i nilB = B.getD i nilB := by
      rw [← hB, List.getD_eq_getElem?_getD, List.getElem?_take, if_pos (by omega), ← List.getD_eq_getElem?_getD]
    have e2 : strEq (A.getD i nilB) (B.getD i nilB) = true := by rw [strEq_iff]; exact e1
    refine all_br (fun hh => by
      have h1 : (!strEq (A.getD i nilB) (B.getD i nilB)) = true := hh
      rw [e2] at h1; cases h1) (fun _ => ?_)
    refine all_ret fun env2 a2 w2 hA2 => ?_
    simp only [Ex.to, Exit.inBlock, Exit.then]
    have hA3 : AtK env [(0, 0)] ⟨w, inFoot env (sX A B)⟩ env2 (fr 26 [0, 1, 5] (aX A B k ++ [.int .i64 (i : Nat)])) (sX A B) a2 w2 := hA2.on fun h => At.few (names := [0, 1, 5]) (extra := [4]) (vals := aX A B k ++ [.int .i64 (i : Nat)]) (ev := [.bad]) h rfl
    refine (show inc24.wp _ _ _ _ from ?_)
    refine pieceTK2 (c := cfgM) cfgM_ok [0, 1, 5] tx_inc (by omega) (by simp) hA3 ?_
    refine all_needp (by simp only [inR_i64]; exact Iff.rfl) (by omega) fun _ => all_ret fun env4 a4 w4 hA4 => ?_
    exact ⟨i + 1, ⟨by omega, env4, hA4⟩, by omega⟩
  · simp only [Ex.to, Exit.then, Exit.inBlock, if_true]
    refine (show end24.wp _ _ _ _ from ?_)
    refine pieceTK2 (c := cfgM) cfgM_ok [4] tx_end (by omega) (by simp) hA1 ?_
    exact all_ret fun env4 a4 w4 hA4 => hA4.out (c := cfgM) (by kernel_rfl)
set_option maxHeartbeats 1000000 in
/-- like answers -/
theorem sames_call {A : List Bool} (hA1 : A.length ≤ 1000000) :
    ∀ (env : Env) (w : World) (vs : List Value), GlOk cfgM.gl env → Rep env (sY A A) w → DenL env (aY A A) vs → Calls cfgM.P 23 ⟨vs⟩ w (Ends1 env (sY A A) w (.bl true) (sY A A)) := by
  intro env w vs hg hr hd
  have hb0 : env.length = 3 := hr.len
  refine AtK.begin (c := cfgM) Tryd.func23 b23_eq hg hr hd fun a0 hA => ?_
  refine pieceNTK2 (c := cfgM) cfgM_ok 2 [0, 1, 4] sm_pre (by omega) (by simp) hA ?_
  refine all_br (fun hh => absurd (bne_iff_ne.1 hh) (by simp)) (fun _ => ?_)
  refine all_ret fun env1 a1 w1 hA1 => ?_
  simp only [Ex.to, Exit.then]
  have hA2 : AtK env [(0, 0)] ⟨w, inFoot env (sY A A)⟩ env1 (fr 26 [0, 1] (aY A A)) (sY A A) a1 w1 := hA1.on fun h => At.few (names := [0, 1]) (extra := [4]) (vals := aY A A) (ev := [.bl false]) h rfl
  refine (show c23.wp Tryd.prog _ a1 w1 from wpS (by kernel_rfl) (wpS (by kernel_rfl) ?_))
  refine pieceTK2 (c := cfgM) cfgM_ok [0, 1, 5] sm_reg (by omega) (by simp) hA2 ?_
  refine all_ret fun env3 a3 w3 hA3 => ?_
  simp only [Ex.to, Exit.then]
  have hA4 := hA3.on fun h => h.gvals (aY A A ++ [.int .i64 ((0 : Nat) : Int)]) rfl
  refine wpB 0 (by kernel_rfl) (wpL (by kernel_rfl) (fun (i : Nat) a' w' => i ≤ A.length ∧ ∃ env', AtK env [(0, 0)] ⟨w, inFoot env (sY A A)⟩ env' (fr 26 [0, 1, 5] (aY A A ++ [SVal.int .i64 ((i : Nat) : Int)])) (sY A A) a' w') (fun (i : Nat) => A.length - i) (0 : Nat) ⟨Nat.zero_le _, env3, hA4⟩ ?_)
  rintro i a' w' ⟨hi, env', hA⟩
  refine (show round23.wp _ _ _ _ from wpS (by kernel_rfl) ?_)
  refine pieceTK2 (c := cfgM) cfgM_ok [0, 1, 5] sm_tm (by omega) (by simp) hA ?_
  refine all_brp (by simp only [decide_eq_true_eq] <;> exact Iff.rfl) (fun h6 => all_ret fun env1 a1 w1 hA1 => ?_) (fun h6 => all_ret fun env1 a1 w1 hA1 => ?_)
  · simp only [Ex.to, Exit.then]
    refine (show (rgt round23).wp _ _ _ _ from wpS (by kernel_rfl) (wpB 1 (by kernel_rfl) ?_))
    refine (show bb23.wp _ _ _ _ from ?_)
    refine pieceTK2 (c := cfgM) cfgM_ok [0, 1, 5, 4] sm_bb (by omega) (by simp) hA1 ?_
    simp only [Int.toNat_natCast]
    refine all_needq (by simp only [decide_eq_true_eq, Bool.and_eq_true]; exact Iff.rfl) (by omega) ?_
    refine all_needq (by simp only [decide_eq_true_eq]; exact Iff.rfl) (by omega) ?_
    refine all_needq (by simp only [decide_eq_true_eq, Bool.and_eq_true]; exact Iff.rfl) (by omega) ?_
    refine all_needq (by simp only [decide_eq_true_eq]; exact Iff.rfl) (by omega) ?_
    refine all_br (fun hh => by simp at hh) (fun _ => ?_)
    refine all_ret fun env2 a2 w2 hA2 => ?_
    simp only [Ex.to, Exit.inBlock, Exit.then]
    have hA3 : AtK env [(0, 0)] ⟨w, inFoot env (sY A A)⟩ env2 (fr 26 [0, 1, 5] (aY A A ++ [.int .i64 (i : Nat)])) (sY A A) a2 w2 := hA2.on fun h => At.few (names := [0, 1, 5]) (extra := [4]) (vals := aY A A ++ [.int .i64 (i : Nat)]) (ev := [.bad]) h rfl
    refine (show inc23.wp _ _ _ _ from ?_)
    refine pieceTK2 (c := cfgM) cfgM_ok [0, 1, 5] sm_inc (by omega) (by simp) hA3 ?_
    refine all_needp (by simp only [inR_i64]; exact Iff.rfl) (by omega) fun _ => all_ret fun env4 a4 w4 hA4 => ?_
    exact ⟨i + 1, ⟨by omega, env4, hA4⟩, by omega⟩
  · simp only [Ex.to, Exit.then, Exit.inBlock, if_true]
    refine (show end23.wp _ _ _ _ from ?_)
    refine pieceTK2 (c := cfgM) cfgM_ok [4] sm_end (by omega) (by simp) hA1 ?_
    exact all_ret fun env4 a4 w4 hA4 => hA4.out (c := cfgM) (by kernel_rfl)
end Go.Proofs.YtplbncncnjiahaaDoor

/- Rings of the laws: their calls in a law's state. -/
namespace Go.Proofs.YtplbncncnjiahaaDoor
open Go Go.Proofs.YtplbncncnjiahaaDoor.Sx
set_option linter.unusedVariables false
theorem rel_sok {k : Nat} {a n z t c : Int} {ms : List ByteArray} {l : List Int} {x : Snd} {y : Rcv} {A : Ab} (h : Rel k a n z t ms l x y A) (hc : 0 ≤ c ∧ c ≤ 1000000) : SOk k l c x ms ∧ x.p ≤ 3 := by
  have hs := h.s
  refine ⟨⟨by rw [hs.at', hs.en, hs.ez]; exact h.m.on hc, hs.tl, fun hp => ?_, hs.ml, fun s hm => by rw [hs.ez]; exact (hs.fit s hm).2, by rw [hs.sent]; exact hs.le⟩, by rw [hs.p]; exact hs.p3⟩
  rw [hs.p] at hp
  obtain ⟨k1, k2, k3, k4, k5⟩ := hs.s2 (by omega)
  have h2 := hs.e2 hp
  have h3 := nw_le (fit_get hs.fit k1)
  rw [k4, hs.ez]
  unfold msg at h2
  omega
theorem rel_rok {k : Nat} {a n z t c : Int} {ms : List ByteArray} {l : List Int} {x : Snd} {y : Rcv} {A : Ab} (h : Rel k a n z t ms l x y A) (hc : 0 ≤ c ∧ c ≤ 1000000) : ROk k l c y ∧ y.p ≤ 3 := by
  have hs := h.r
  have hf : A.q ≠ [] → fitB z (A.q.headD nilB) := fun hq => by rw [headD_get]; exact fit_get h.q.fit (List.length_pos_iff.2 hq)
  refine ⟨⟨by rw [hs.at', hs.en, hs.ez]; exact h.m.on hc, hs.hd, fun hp => ?_, by rw [hs.et]; exact hs.t0, by rw [hs.got, hs.et]; exact hs.le, fun hp hd => ?_, hs.bl, fun hp => ?_⟩, by rw [hs.p]; exact hs.p3⟩
  · rw [hs.p] at hp
    obtain ⟨k1, k2, k3, k4, k5⟩ := hs.s2 (by omega)
    have h2 := hs.e2 hp
    have h3 := nw_le (hf k2)
    rw [k3, hs.ez]
    omega
  · rw [hs.p] at hp
    obtain ⟨k1, k2, k3, k4, k5⟩ := hs.s2 (by omega)
    rw [k3] at hd
    have h3 := hf k2
    rw [k4 (by omega), hs.ez]
    exact ⟨by have := h3.1; omega, h3.2⟩
  · rw [hs.p] at hp
    obtain ⟨k1, k2, k3, k4, k5⟩ := hs.s2 (by omega)
    have h2 := hs.e3 hp
    rw [k4 (by omega), k5, bytesD_len, h2]
    unfold nw
    omega
theorem gl_lt12 {k : Nat} (h : 0 < k) : ∀ p ∈ cfgK.gl, p.2 < k := by
  intro p hp
  rw [List.mem_singleton.1 hp]; exact h
theorem roPlain {S S' : St} (h0 : S'[0]? = S[0]?) (h : ∀ i, 0 < i → ∀ b, S'[i]? = some b → plainB b = true) : roSame S S' := by
  intro i b hb
  by_cases hi : i = 0
  · subst hi; exact .inr (by rw [← h0]; exact hb)
  · exact .inl (plainB_ok (h i (by omega) b hb))
/-- behind a sender's step, in a law's state -/
abbrev sLwS (q : InR) (w : List Int) (c : Int) (g : Nat) (x : Snd) (y : Rcv) (L : List ByteArray) : St := memS 80 w c ++ [.own [.c (.int .i64 x.at'), .c (.int .i64 x.n), .c (.int .i64 x.z), .c (.fn (.func (sfn x.p)) [.ptr 3 0] []), .c (.int .u32 x.head), .c (.int .u32 x.tail), .c (.int .i64 x.did), .c (.sli 4 (.c 0) 1 (.v L.length) none), .c (.sli 13 (.c 0) 1 (.v x.sent.length) none)] 76, .vec encStr L 9, .gone] ++ (rcvS g 6 y ++ tailR q L ++ [.vec encBool x.sent 4])
set_option maxRecDepth 100000 in
theorem stepS {q : InR} {w : List Int} {c : Int} {x : Snd} {y : Rcv} {L : List ByteArray} (g : Nat) (h : SOk 80 w c x L ∧ x.p ≤ 3) (env : Env) (W : World) (vs : List Value) (hg : GlOk cfgK.gl env) (hr : Rep env (sLw q w c (sfn x.p) g x y L) W) (hd : DenL env [.ptr 3 0, .ptr 2 0] vs) :
    Calls cfgK.P 19 ⟨vs⟩ W (Ends1 env (sLw q w c (sfn x.p) g x y L) W (.sb (sStill (sNext x L w).1 L)) (sLwS q (sNext x L w).2 (sC x L c) g (sNext x L w).1 y L)) := by
  have hl : (sNext x L w).1 = (sNext x L w).1 := rfl
  generalize hx' : (sNext x L w).1 = x' at *
  generalize hw' : (sNext x L w).2 = w' at *
  generalize hc' : sC x L c = c' at *
  have hs := s_step h.1 h.2
  unfold SStep at hs
  rw [hx', hw', hc'] at hs
  have hf := frameNew (c := cfgK) (n := 1) hs (rcvS g 6 y ++ tailR q L) rfl rfl (gl_lt12 (by simp)) (by kernel_rfl) (Sa := memS 80 w' c' ++ [.own [.c (.int .i64 x'.at'), .c (.int .i64 x'.n), .c (.int .i64 x'.z), .c (.fn (.func (sfn x'.p)) [.ptr 3 0] []), .c (.int .u32 x'.head), .c (.int .u32 x'.tail), .c (.int .i64 x'.did), .c (.sli 4 (.c 0) 1 (.v L.length) none), .c (.sli 13 (.c 0) 1 (.v x'.sent.length) none)] 76, .vec encStr L 9, .gone]) (Sb := [.vec encBool x'.sent 4]) (s' := .sb (sStill x' L)) (by kernel_rfl) (by kernel_rfl) rfl
    (roPlain rfl (by
      intro i hi b hb
      match i, hi with
      | 1, _ => simp at hb; subst hb; rfl
      | 2, _ => simp at hb; subst hb; rfl
      | 3, _ => simp at hb; subst hb; rfl
      | 4, _ => simp at hb; subst hb; rfl
      | 5, _ => simp at hb; subst hb; rfl
      | n + 6, _ => simp at hb)) (by intro b hb; rw [List.mem_singleton.1 hb]; rfl) rfl
  exact hf env W vs hg hr hd
/-- behind a receiver's step, in a law's state -/
abbrev sLwR (q : InR) (w : List Int) (c : Int) (f : Nat) (x : Snd) (y : Rcv) (L : List ByteArray) : St := memS 80 w c ++ sndS f 3 x L ++ [.own [.c (.int .i64 y.at'), .c (.int .i64 y.n), .c (.int .i64 y.z), .c (.fn (.func (rfn y.p)) [.ptr 6 0] []), .c (.int .u32 y.head), .c (.int .u32 y.tail), .c (.int .i64 y.did), .c (.int .i64 y.times), .c (.int .i64 y.ln), .c (.sli 13 (.c 0) 1 (.v y.b.length) none), .c (.sli 14 (.c 0) 1 (.v y.got.length) none)] 78, .gone, .gone] ++ tailR q L ++ [.vec (encInt .u8) y.b 5, .vec encStr y.got 9]
abbrev idR : List Nat := [0, 1, 2, 6, 7, 8, 3, 4, 5, 9, 10, 11, 12]
set_option maxRecDepth 100000 in
theorem stepR {q : InR} {w : List Int} {c : Int} {x : Snd} {y : Rcv} {L : List ByteArray} (f : Nat) (h : ROk 80 w c y ∧ y.p ≤ 3) (env : Env) (W : World) (vs : List Value) (hg : GlOk cfgK.gl env) (hr : Rep env (sLw q w c f (rfn y.p) x y L) W) (hd : DenL env [.ptr 6 0, .ptr 2 0] vs) :
    Calls cfgK.P 20 ⟨vs⟩ W (Ends1 env (sLw q w c f (rfn y.p) x y L) W (.sb (rStill (rNext y w).1)) (sLwR q (rNext y w).2 (rC y c) f x (rNext y w).1 L)) := by
  have hs := r_step h.1 h.2
  unfold RStep at hs
  generalize hx' : (rNext y w).1 = y' at *
  generalize hw' : (rNext y w).2 = w' at *
  generalize hc' : rC y c = c' at *
  have hf := frameNew (c := cfgK) (n := 2) hs (sndS f 6 x L ++ tailR q L) rfl rfl (gl_lt12 (by simp)) (by kernel_rfl) (Sa := memS 80 w' c' ++ [.own [.c (.int .i64 y'.at'), .c (.int .i64 y'.n), .c (.int .i64 y'.z), .c (.fn (.func (rfn y'.p)) [.ptr 3 0] []), .c (.int .u32 y'.head), .c (.int .u32 y'.tail), .c (.int .i64 y'.did), .c (.int .i64 y'.times), .c (.int .i64 y'.ln), .c (.sli 13 (.c 0) 1 (.v y'.b.length) none), .c (.sli 14 (.c 0) 1 (.v y'.got.length) none)] 78, .gone, .gone]) (Sb := [.vec (encInt .u8) y'.b 5, .vec encStr y'.got 9]) (s' := .sb (rStill y')) (by kernel_rfl) (by kernel_rfl) rfl
    (roPlain rfl (by
      intro i hi b hb
      match i, hi with
      | 1, _ => simp at hb; subst hb; rfl
      | 2, _ => simp at hb; subst hb; rfl
      | 3, _ => simp at hb; subst hb; rfl
      | 4, _ => simp at hb; subst hb; rfl
      | 5, _ => simp at hb; subst hb; rfl
      | n + 6, _ => simp at hb)) (by
      intro b hb
      simp only [List.mem_cons, List.not_mem_nil, or_false] at hb
      rcases hb with rfl | rfl <;> rfl) rfl
  exact permNew (n := 2) (st := sLw q w c f (rfn y.p) x y L) (S0 := memS 80 w c ++ rcvS (rfn y.p) 3 y ++ (sndS f 6 x L ++ tailR q L)) (st0' := sLwR q w' c' f x y' L) (st' := sLwR q w' c' f x y' L) idR idR hf rfl rfl rfl rfl rfl rfl (by rfl) (by kernel_rfl) EqvSt.rfl' (by kernel_rfl) EqvSt.rfl' rfl rfl env W vs hg hr hd
/-- behind a sender's step, with its number -/
abbrev sLwSf (q : InR) (w : List Int) (c : Int) (f g : Nat) (x : Snd) (y : Rcv) (L : List ByteArray) : St := memS 80 w c ++ [.own [.c (.int .i64 x.at'), .c (.int .i64 x.n), .c (.int .i64 x.z), .c (.fn (.func f) [.ptr 3 0] []), .c (.int .u32 x.head), .c (.int .u32 x.tail), .c (.int .i64 x.did), .c (.sli 4 (.c 0) 1 (.v L.length) none), .c (.sli 13 (.c 0) 1 (.v x.sent.length) none)] 76, .vec encStr L 9, .gone] ++ (rcvS g 6 y ++ tailR q L ++ [.vec encBool x.sent 4])
abbrev sLwRf (q : InR) (w : List Int) (c : Int) (f g : Nat) (x : Snd) (y : Rcv) (L : List ByteArray) : St := memS 80 w c ++ sndS f 3 x L ++ [.own [.c (.int .i64 y.at'), .c (.int .i64 y.n), .c (.int .i64 y.z), .c (.fn (.func g) [.ptr 6 0] []), .c (.int .u32 y.head), .c (.int .u32 y.tail), .c (.int .i64 y.did), .c (.int .i64 y.times), .c (.int .i64 y.ln), .c (.sli 13 (.c 0) 1 (.v y.b.length) none), .c (.sli 14 (.c 0) 1 (.v y.got.length) none)] 78, .gone, .gone] ++ tailR q L ++ [.vec (encInt .u8) y.b 5, .vec encStr y.got 9]
/-- both sides' steps: what they come to is named -/
noncomputable def cfgSt (q : InR) (w : List Int) (c : Int) (f g : Nat) (x : Snd) (y : Rcv) (L : List ByteArray) (w1 w2 : List Int) (c1 c2 : Int) (f1 g2 : Nat) (x1 : Snd) (y2 : Rcv) (b1 b2 : Bool) (P1 P2 : Prop) : Cfg := { P := Tryd.prog, ex := exI, gl := [(0, 0)], sm := fun F => match F with
  | 19 => some (smEq [.ptr 3 0, .ptr 2 0] (sLw q w c f g x y L) P1 (.sb b1) (sLwSf q w1 c1 f1 g x1 y L))
  | 20 => some (smEq [.ptr 6 0, .ptr 2 0] (sLw q w c f g x y L) P2 (.sb b2) (sLwRf q w2 c2 f g2 x y2 L))
  | _ => none }
theorem cfgSt_ok {q : InR} {w : List Int} {c : Int} {x : Snd} {y : Rcv} {L : List ByteArray} : SmOk (cfgSt q w c (sfn x.p) (rfn y.p) x y L (sNext x L w).2 (rNext y w).2 (sC x L c) (rC y c) (sfn (sNext x L w).1.p) (rfn (rNext y w).1.p) (sNext x L w).1 (rNext y w).1 (sStill (sNext x L w).1 L) (rStill (rNext y w).1) (SOk 80 w c x L ∧ x.p ≤ 3) (ROk 80 w c y ∧ y.p ≤ 3)) := by
  intro F G h
  simp only [cfgSt] at h
  split at h
  · simp only [Option.some.injEq] at h; subst h
    exact smEq_ok (c := cfgSt q w c (sfn x.p) (rfn y.p) x y L (sNext x L w).2 (rNext y w).2 (sC x L c) (rC y c) (sfn (sNext x L w).1.p) (rfn (rNext y w).1.p) (sNext x L w).1 (rNext y w).1 (sStill (sNext x L w).1 L) (rStill (rNext y w).1) (SOk 80 w c x L ∧ x.p ≤ 3) (ROk 80 w c y ∧ y.p ≤ 3)) fun h env w vs hg hr hd => stepS _ h env w vs hg hr hd
  · simp only [Option.some.injEq] at h; subst h
    exact smEq_ok (c := cfgSt q w c (sfn x.p) (rfn y.p) x y L (sNext x L w).2 (rNext y w).2 (sC x L c) (rC y c) (sfn (sNext x L w).1.p) (rfn (rNext y w).1.p) (sNext x L w).1 (rNext y w).1 (sStill (sNext x L w).1 L) (rStill (rNext y w).1) (SOk 80 w c x L ∧ x.p ≤ 3) (ROk 80 w c y ∧ y.p ≤ 3)) fun h env w vs hg hr hd => stepR _ h env w vs hg hr hd
  · cases h
/-- a law's state, with what was sent and got -/
abbrev sLp (q : InR) (w : List Int) (c : Int) (f g : Nat) (x : Snd) (y : Rcv) (L : List ByteArray) (S : List Bool) (G : List ByteArray) : St := sLw q w c f g x y L ++ [.own [.a encBool S.length S] 4, .gone, .vec encStr G 9]
abbrev aLp (L : List ByteArray) (S : List Bool) (G : List ByteArray) : List SVal := [.sli 9 (.c 0) 1 (.v L.length) none, .sli 13 (.c 0) 1 (.v S.length) (some (.v S.length)), .sli 15 (.c 0) 1 (.v G.length) none]
abbrev rLp (O I : List ByteArray) : SVal := .tup [.sli 16 (.c 0) 1 (.v O.length) none, .sli 17 (.c 0) 1 (.v I.length) none]
abbrev idP : List Nat := [0, 9, 13, 15, 1, 2, 3, 4, 5, 6, 7, 8, 10, 11, 12, 14]
abbrev ivP : List Nat := [0, 4, 5, 6, 7, 8, 9, 10, 11, 1, 12, 13, 14, 2, 15, 3]
set_option maxRecDepth 100000 in
theorem passedL {q : InR} {w : List Int} {c : Int} {f g : Nat} {x : Snd} {y : Rcv} {L : List ByteArray} {S : List Bool} {G : List ByteArray} (hL : L.length ≤ 1000) (hG : G.length ≤ 1000) (env : Env) (W : World) (vs : List Value) (hg : GlOk cfgM.gl env) (hr : Rep env (sLp q w c f g x y L S G) W) (hd : DenL env (aLp L S G) vs) :
    Calls cfgM.P 26 ⟨vs⟩ W (Ends1 env (sLp q w c f g x y L S G) W (rLp (outK L S (min S.length L.length)) (inK G G.length)) (sLp q w c f g x y L S G ++ [.vec encStr (outK L S (min S.length L.length)) 9, .vec encStr (inK G G.length) 9])) := by
  have hs := passed_call (S := S) hL hG
  unfold sP3 rP at hs
  generalize outK L S (min S.length L.length) = O at *
  generalize inK G G.length = I at *
  have hf := frameNew (c := cfgM) (n := 2) hs [.own [.a (encInt .u32) 80 w] 40, .own [.c (.sli 4 (.c 0) 1 (.v 80) (some (.v 80))), .c (.int .i64 c)] 80, .own [.c (.int .i64 x.at'), .c (.int .i64 x.n), .c (.int .i64 x.z), .c (.fn (.func f) [.ptr 6 0] []), .c (.int .u32 x.head), .c (.int .u32 x.tail), .c (.int .i64 x.did), .c (.sli 7 (.c 0) 1 (.v L.length) none), .c (.sli 8 (.c 0) 1 (.v x.sent.length) none)] 76, .vec encStr L 9, .vec encBool x.sent 4,
    .own [.c (.int .i64 y.at'), .c (.int .i64 y.n), .c (.int .i64 y.z), .c (.fn (.func g) [.ptr 9 0] []), .c (.int .u32 y.head), .c (.int .u32 y.tail), .c (.int .i64 y.did), .c (.int .i64 y.times), .c (.int .i64 y.ln), .c (.sli 10 (.c 0) 1 (.v y.b.length) none), .c (.sli 11 (.c 0) 1 (.v y.got.length) none)] 78, .vec (encInt .u8) y.b 5, .vec encStr y.got 9, .ro encStr q.ms, .ro (encInt .u8) q.ps, plB q 12 13, .gone] rfl rfl (gl_lt (by simp)) (by kernel_rfl) (Sa := sP L S G) (Sb := [.vec encStr O 9, .vec encStr I 9]) (s' := rLp O I) (by kernel_rfl) (by kernel_rfl) rfl (roSame_refl _) (by
      intro b hb
      simp only [List.mem_cons, List.not_mem_nil, or_false] at hb
      rcases hb with rfl | rfl <;> rfl) rfl
  exact permNew (n := 2) (st := sLp q w c f g x y L S G) (S0 := _) (st0' := sLp q w c f g x y L S G ++ [.vec encStr O 9, .vec encStr I 9]) (st' := sLp q w c f g x y L S G ++ [.vec encStr O 9, .vec encStr I 9]) idP ivP hf rfl rfl rfl rfl rfl rfl (by rfl) (by kernel_rfl) EqvSt.rfl' (by kernel_rfl) EqvSt.rfl' rfl rfl env W vs hg hr hd
noncomputable def cfgPs (q : InR) (w : List Int) (c : Int) (f g : Nat) (x : Snd) (y : Rcv) (L : List ByteArray) (O I : List ByteArray) (P : Prop) : Cfg := { P := Tryd.prog, ex := exI, gl := [(0, 0)], sm := fun F => match F with
  | 26 => some (smEq [.sli 9 (.c 0) 1 (.v L.length) none, .sli 13 (.c 0) 1 (.v x.sent.length) (some (.v x.sent.length)), .sli 15 (.c 0) 1 (.v (y.got.take y.got.length).length) none] (sLp q w c f g x y L (x.sent.take x.sent.length) (y.got.take y.got.length)) P (rLp O I) (sLp q w c f g x y L (x.sent.take x.sent.length) (y.got.take y.got.length) ++ [.vec encStr O 9, .vec encStr I 9]))
  | _ => none }
theorem cfgPs_ok {q : InR} {w : List Int} {c : Int} {f g : Nat} {x : Snd} {y : Rcv} {L : List ByteArray} {O I : List ByteArray} {P : Prop} (hP : P → O = outK L x.sent (min x.sent.length L.length) ∧ I = inK y.got y.got.length ∧ L.length ≤ 1000 ∧ y.got.length ≤ 1000) : SmOk (cfgPs q w c f g x y L O I P) := by
  intro F G h
  simp only [cfgPs] at h
  split at h
  · simp only [Option.some.injEq] at h; subst h
    refine smEq_ok (c := cfgPs q w c f g x y L O I P) fun h env w vs hg hr hd => ?_
    obtain ⟨rfl, rfl, h1, h2⟩ := hP h
    rw [List.take_length, List.take_length] at *
    exact passedL h1 h2 env w vs hg hr hd
  · cases h
abbrev sLo (q : InR) (w : List Int) (c : Int) (f g : Nat) (x : Snd) (y : Rcv) (L O I : List ByteArray) : St := sLw q w c f g x y L ++ [.vec encStr O 9, .vec encStr I 9]
abbrev idX : List Nat := [0, 14, 13, 1, 2, 3, 4, 5, 6, 7, 8, 9, 10, 11, 12]
abbrev ivX : List Nat := [0, 3, 4, 5, 6, 7, 8, 9, 10, 11, 12, 13, 14, 2, 1]
set_option maxRecDepth 100000 in
theorem textsL {q : InR} {w : List Int} {c : Int} {f g : Nat} {x : Snd} {y : Rcv} {L O I : List ByteArray} (hB : O.take I.length = I) (hl : I.length ≤ O.length) (hA1 : I.length ≤ 1000000) (env : Env) (W : World) (vs : List Value) (hg : GlOk cfgM.gl env) (hr : Rep env (sLo q w c f g x y L O I) W) (hd : DenL env [.sli 14 (.c 0) 1 (.v I.length) none, .sli 13 (.c 0) 1 (.v I.length) none] vs) :
    Calls cfgM.P 24 ⟨vs⟩ W (Ends1 env (sLo q w c f g x y L O I) W (.bl true) (sLo q w c f g x y L O I)) := by
  have hs := texts_call (A := I) (B := O) rfl hB hl hA1
  have hf := frame (c := cfgM) hs [.own [.a (encInt .u32) 80 w] 40, .own [.c (.sli 3 (.c 0) 1 (.v 80) (some (.v 80))), .c (.int .i64 c)] 80, .own [.c (.int .i64 x.at'), .c (.int .i64 x.n), .c (.int .i64 x.z), .c (.fn (.func f) [.ptr 5 0] []), .c (.int .u32 x.head), .c (.int .u32 x.tail), .c (.int .i64 x.did), .c (.sli 6 (.c 0) 1 (.v L.length) none), .c (.sli 7 (.c 0) 1 (.v x.sent.length) none)] 76, .vec encStr L 9, .vec encBool x.sent 4,
    .own [.c (.int .i64 y.at'), .c (.int .i64 y.n), .c (.int .i64 y.z), .c (.fn (.func g) [.ptr 8 0] []), .c (.int .u32 y.head), .c (.int .u32 y.tail), .c (.int .i64 y.did), .c (.int .i64 y.times), .c (.int .i64 y.ln), .c (.sli 9 (.c 0) 1 (.v y.b.length) none), .c (.sli 10 (.c 0) 1 (.v y.got.length) none)] 78, .vec (encInt .u8) y.b 5, .vec encStr y.got 9, .vec encStr L 9, .ro encStr q.ms, .ro (encInt .u8) q.ps, plB q 12 13] rfl rfl (gl_lt (by simp)) (by kernel_rfl) (roSame_refl _)
  exact permCall (st := sLo q w c f g x y L O I) (S0 := _) (st0' := sLo q w c f g x y L O I) (st' := sLo q w c f g x y L O I) idX ivX hf rfl rfl rfl rfl rfl (by rfl) (by kernel_rfl) EqvSt.rfl' (by kernel_rfl) EqvSt.rfl' rfl rfl env W vs hg hr hd
set_option maxRecDepth 100000 in
theorem textsL2 {q : InR} {w : List Int} {c : Int} {f g : Nat} {x : Snd} {y : Rcv} {L O I : List ByteArray} {B1 B2 : Blk} (hB : O.take I.length = I) (hl : I.length ≤ O.length) (hA1 : I.length ≤ 1000000) (env : Env) (W : World) (vs : List Value) (hg : GlOk cfgM.gl env) (hr : Rep env (sLo q w c f g x y L O I ++ [B1, B2]) W) (hd : DenL env [.sli 14 (.c 0) 1 (.v I.length) none, .sli 13 (.c 0) 1 (.v I.length) none] vs) :
    Calls cfgM.P 24 ⟨vs⟩ W (Ends1 env (sLo q w c f g x y L O I ++ [B1, B2]) W (.bl true) (sLo q w c f g x y L O I ++ [B1, B2])) :=
  frame (c := cfgM) (textsL hB hl hA1) [B1, B2] rfl rfl (gl_lt (by simp)) (by kernel_rfl) (roSame_refl _) env W vs hg hr hd
noncomputable def cfgTx2 (q : InR) (w : List Int) (c : Int) (f g : Nat) (x : Snd) (y : Rcv) (L O I : List ByteArray) (P : Prop) : Cfg := { P := Tryd.prog, ex := exI, gl := [(0, 0)], sm := fun F => match F with
  | 24 => some (smEq [.sli 14 (.c 0) 1 (.v I.length) none, .sli 13 (.c 0) 1 (.v I.length) none] (sLo q w c f g x y L O I ++ [.gone, .vec encStr (y.got.take y.got.length) 9]) P (.bl true) (sLo q w c f g x y L O I ++ [.gone, .vec encStr (y.got.take y.got.length) 9]))
  | _ => none }
theorem cfgTx2_ok {q : InR} {w : List Int} {c : Int} {f g : Nat} {x : Snd} {y : Rcv} {L O I : List ByteArray} {P : Prop} (hP : P → O.take I.length = I ∧ I.length ≤ O.length ∧ I.length ≤ 1000000) : SmOk (cfgTx2 q w c f g x y L O I P) := by
  intro F G h
  simp only [cfgTx2] at h
  split at h
  · simp only [Option.some.injEq] at h; subst h
    exact smEq_ok (c := cfgTx2 q w c f g x y L O I P) fun h env w vs hg hr hd => textsL2 (hP h).1 (hP h).2.1 (hP h).2.2 env w vs hg hr hd
  · cases h
noncomputable def cfgTx (q : InR) (w : List Int) (c : Int) (f g : Nat) (x : Snd) (y : Rcv) (L O I : List ByteArray) (P : Prop) : Cfg := { P := Tryd.prog, ex := exI, gl := [(0, 0)], sm := fun F => match F with
  | 24 => some (smEq [.sli 14 (.c 0) 1 (.v I.length) none, .sli 13 (.c 0) 1 (.v I.length) none] (sLo q w c f g x y L O I) P (.bl true) (sLo q w c f g x y L O I))
  | _ => none }
theorem cfgTx_ok {q : InR} {w : List Int} {c : Int} {f g : Nat} {x : Snd} {y : Rcv} {L O I : List ByteArray} {P : Prop} (hP : P → O.take I.length = I ∧ I.length ≤ O.length ∧ I.length ≤ 1000000) : SmOk (cfgTx q w c f g x y L O I P) := by
  intro F G h
  simp only [cfgTx] at h
  split at h
  · simp only [Option.some.injEq] at h; subst h
    exact smEq_ok (c := cfgTx q w c f g x y L O I P) fun h env w vs hg hr hd => textsL (hP h).1 (hP h).2.1 (hP h).2.2 env w vs hg hr hd
  · cases h
end Go.Proofs.YtplbncncnjiahaaDoor

/- Rings of the laws: at the beginning. -/
namespace Go.Proofs.YtplbncncnjiahaaDoor
open Go Go.Proofs.YtplbncncnjiahaaDoor.Sx
set_option linter.unusedVariables false
abbrev ab0 : Ab := ⟨[], 0, 0, 0, [], 0, 0, 0, []⟩
theorem relM_start {n z h : Int} (hn : n = 1 ∨ n = 2 ∨ n = 4 ∨ n = 8) (hz : 1 ≤ z ∧ z ≤ 32) (hh : 0 ≤ h ∧ h < 4294967296) : RelM 80 0 n z (w80 h) := by
  refine ⟨Int.le_refl _, ?_, by omega, by simp, ⟨?_, by omega, hz⟩, ?_⟩
  · rcases hn with rfl | rfl | rfl | rfl <;> omega
  · unfold powB
    exact decide_eq_true (by omega)
  · refine u32s_set (u32s_set ?_ 0 hh) 1 hh
    intro x hx
    rw [(List.mem_replicate.1 hx).2]; omega
theorem rel_start {n z h : Int} (hn : n = 1 ∨ n = 2 ∨ n = 4 ∨ n = 8) (hz : 1 ≤ z ∧ z ≤ 32) (hh : 0 ≤ h ∧ h < 4294967296) {L : List ByteArray} (hL : L.length ≤ 1000) (hf : ∀ s ∈ L, fitB z s) :
    Rel 80 0 n z 40 L (w80 h) (snd0 n z) (rcv0 n z) ab0 := by
  have h0 : hdW 0 (w80 h) = h := rfl
  have h1 : tlW 0 (w80 h) = h := rfl
  refine ⟨relM_start hn hz hh, ⟨?_, by simp only [List.length_nil]; omega, fun s hs => (by cases hs), fun j hj => (by simp only [List.length_nil] at hj; omega)⟩,
    ⟨rfl, rfl, rfl, rfl, rfl, by simp, Nat.zero_le _, hL, hf, by simp, fun h => (by cases h), fun h => (by simp only at h; omega), fun h => (by cases h), fun h => (by cases h)⟩,
    ⟨rfl, rfl, rfl, rfl, by omega, rfl, rfl, by simp, by simp, by simp, by simp, fun h => (by cases h), fun h => (by simp only at h; omega), fun h => (by cases h), fun h => (by cases h)⟩⟩
  rw [h0, h1]
  simp only [List.length_nil]
  omega
theorem ord_start (L : List ByteArray) : OrdA L ab0 := rfl
/-- the making of it all, and awake -/
abbrev sB4 (q : InR) : St := sB q ++ [plB q 1 2]
noncomputable def cfgBo (q : InR) (p s : Int) (n : Int) (z : Int) (L : List ByteArray) (P : Prop) : Cfg := { P := Tryd.prog, ex := exI, gl := [(0, 0)], sm := fun f => match f with
  | 9 => some (smClosed [0] [lookB] (.bl true))
  | 25 => some (smEq [plV q 1 2, .int .u8 p, .int .u8 s] (sB4 q) P (madeV 4 n L) (sB4 q ++ madeS 4 n z L q.h))
  | _ => none }
theorem bothL {q : InR} {p s : Int} (hh : 0 ≤ q.h ∧ q.h < 4294967296) (hs : 0 ≤ s ∧ s ≤ 255) (env : Env) (w : World) (vs : List Value) (hg : GlOk cfgM.gl env) (hr : Rep env (sB4 q) w) (hd : DenL env [plV q 1 2, .int .u8 p, .int .u8 s] vs) :
    Calls cfgM.P 25 ⟨vs⟩ w (Ends1 env (sB4 q) w (madeV 4 (nR p) (lAll q (zR s))) (sB4 q ++ madeS 4 (nR p) (zR s) (lAll q (zR s)) q.h)) := by
  have h := both_call (q := q) (p := p) (s := s) hh hs
  generalize nR p = n at *
  generalize zR s = z at *
  generalize lAll q z = L at *
  exact frameNew (c := cfgM) (n := 9) h [plB q 1 2] rfl rfl (gl_lt (by simp)) (by kernel_rfl) (Sa := sB q) (Sb := madeS 4 n z L q.h) (s' := madeV 4 n L) (by kernel_rfl) (by kernel_rfl) rfl (roSame_refl _) (by
    intro b hb
    simp only [List.mem_cons, List.mem_append, List.not_mem_nil, or_false] at hb
    rcases hb with (((rfl | rfl) | rfl | rfl | rfl) | rfl | rfl | rfl) | rfl <;> rfl) rfl env w vs hg hr hd
theorem cfgBo_ok {q : InR} {p s : Int} (hh : 0 ≤ q.h ∧ q.h < 4294967296) (hs : 0 ≤ s ∧ s ≤ 255) : SmOk (cfgBo q p s (nR p) (zR s) (lAll q (zR s)) True) := by
  intro F G h
  simp only [cfgBo] at h
  split at h
  · simp only [Option.some.injEq] at h; subst h
    exact smClosedS_ok cfg0_ok awake_val ⟨rfl, rfl, rfl, rfl, rfl, rfl, rfl, rfl, rfl, rfl, trivial⟩ (by kernel_rfl) rfl rfl (by intro b hb e; rw [List.mem_singleton.1 hb]; rfl)
  · simp only [Option.some.injEq] at h; subst h
    exact smEq_ok (c := cfgBo q p s (nR p) (zR s) (lAll q (zR s)) True) fun h env w vs hg hr hd => bothL hh hs env w vs hg hr hd
  · cases h
end Go.Proofs.YtplbncncnjiahaaDoor

/- Rings of the laws: what holds between steps. -/
namespace Go.Proofs.YtplbncncnjiahaaDoor
open Go Go.Proofs.YtplbncncnjiahaaDoor.Sx
set_option linter.unusedVariables false
structure LI (q : InR) (n z : Int) (L : List ByteArray) (m : Nat) (w : List Int) (c : Int) (x : Snd) (y : Rcv) (A : Ab) : Prop where
  rel : Rel 80 0 n z 40 L w x y A
  ord : OrdA L A
  c : 0 ≤ c ∧ c ≤ 2 + (m : Int)
theorem LI.small {q : InR} {n z : Int} {L : List ByteArray} {m : Nat} {w : List Int} {c : Int} {x : Snd} {y : Rcv} {A : Ab} (h : LI q n z L m w c x y A) : x.sent.length ≤ L.length ∧ L.length ≤ 1000 ∧ y.got.length ≤ 40 ∧ outK L x.sent (min x.sent.length L.length) = outA L A ∧ inK y.got y.got.length = inA A := by
  have hs := h.rel.s
  have hr := h.rel.r
  have h1 := hs.le
  have h2 := hr.le
  refine ⟨by rw [hs.sent]; exact h1, hs.ml, by rw [hr.got]; omega, ?_, by rw [hr.got]⟩
  rw [hs.sent, Nat.min_eq_left h1]
theorem LI.s {q : InR} {n z : Int} {L : List ByteArray} {m : Nat} {w : List Int} {c : Int} {x : Snd} {y : Rcv} {A : Ab} (h : LI q n z L m w c x y A) : LI q n z L (m + 1) (sNext x L w).2 (sC x L c) (sNext x L w).1 y (aStepS n L A) := by
  refine ⟨(rel_s h.rel).1, ord_s h.rel h.ord, ?_⟩
  have := h.c
  unfold sC
  split <;> omega
theorem LI.r {q : InR} {n z : Int} {L : List ByteArray} {m : Nat} {w : List Int} {c : Int} {x : Snd} {y : Rcv} {A : Ab} (h : LI q n z L m w c x y A) : LI q n z L (m + 1) (rNext y w).2 (rC y c) x (rNext y w).1 (aStepR 40 A) := by
  refine ⟨(rel_r h.rel).1, ord_r h.rel h.ord, ?_⟩
  have := h.c
  unfold rC
  split <;> omega
abbrev idK : List Nat := [0, 5, 4, 6, 7, 8, 9, 10, 11, 12, 2, 3, 1]
theorem pass_needs {x : Snd} {y : Rcv} {Q : (Ex × List SVal × St) → Prop} {t : T (Ex × List SVal × St)} (h1 : x.sent.length ≤ 1000) (h2 : y.got.length ≤ 1000) (h : All Q t) :
    All Q (.need (decide ((0 : Int) ≤ (↑x.7.length : Int))) (.need (decide ((↑x.7.length : Int) * ((1 : Nat) : Int) ≤ (140737488355328 : Int))) (.need (decide ((↑x.7.length : Int) ≤ (4611686018427387904 : Int))) (.need (decide (0 + x.7.length ≤ x.7.length)) (.need (decide ((↑x.7.length : Int).toNat = (List.take x.7.length (List.drop 0 x.7)).length)) (.need (decide ((↑x.7.length : Int).toNat * 1 + 0 = (List.take x.7.length (List.drop 0 x.7)).length * 1)) (.need ((List.take x.7.length (List.drop 0 x.7)).all fun x => (encBool.enc x).all scalar) (.need (decide (0 + y.10.length ≤ y.10.length)) (.need (decide (0 + y.10.length ≤ y.10.length)) (.need (roomy (List.take y.10.length (List.drop 0 y.10)).length 16) t)))))))))) := by
  have e1 : (List.take x.7.length (List.drop 0 x.7)).length = x.7.length := by simp
  have e2 : (List.take y.10.length (List.drop 0 y.10)).length = y.10.length := by simp
  rw [e1, e2]
  refine all_needq (by simp only [decide_eq_true_eq]; exact Iff.rfl) (by omega) ?_
  refine all_needq (by simp only [decide_eq_true_eq]; exact Iff.rfl) (by omega) ?_
  refine all_needq (by simp only [decide_eq_true_eq]; exact Iff.rfl) (by omega) ?_
  refine all_needq (by simp only [decide_eq_true_eq]; exact Iff.rfl) (by omega) ?_
  refine all_needq (by simp only [decide_eq_true_eq]; exact Iff.rfl) (by omega) ?_
  refine all_needq (by simp only [decide_eq_true_eq]; exact Iff.rfl) (by omega) ?_
  refine all_need (List.all_eq_true.2 fun b _ => rfl) fun _ => ?_
  refine all_needq (by simp only [decide_eq_true_eq]; exact Iff.rfl) (by omega) ?_
  refine all_needq (by simp only [decide_eq_true_eq]; exact Iff.rfl) (by omega) ?_
  exact all_needq (by simp only [roomy_iff]; exact Iff.rfl) (by omega) h
theorem noFootR {e0 e1 e2 : Slot} {q : InR} (x : Nat) (h : inFoot [e0, e1, e2] (sB q) x) : False := by
  obtain ⟨id, e, b, he, hb, hx⟩ := h
  match id with
  | 0 => simp at hb; subst hb; cases hx
  | 1 => simp at hb; subst hb; cases hx
  | 2 => simp at hb; subst hb; cases hx
  | n + 3 => simp at hb
end Go.Proofs.YtplbncncnjiahaaDoor

/- Layer 12: the package's variable, and how a card is closed. -/
namespace Go.Proofs.YtplbncncnjiahaaDoor
open Go Go.Proofs.YtplbncncnjiahaaDoor.Sx Go.ChangeShapes Go.WideShapes Go.ChangeAt Go.RowKit
set_option linter.unusedVariables false
abbrev laid1 : List (String × DataW Unit) := [("purlin/mem.look", Rows.laid_purlin_mem_look)]
theorem Tryd.own : ownKnob Tryd.prog.godebug = none := by kernel_rfl
theorem Tryd.laidOut : laidOutB Tryd.prog = true := by kernel_rfl
theorem gLook : Tryd.prog.globalNamed "purlin/mem.look" = some 0 := by kernel_rfl
theorem tLook : (Tryd.prog.globals[0]?).map (·.type) = some 83 := by kernel_rfl
/-- the door's own heap meets the condition -/
theorem door_met (os : Os) (args : Array Value) : laidMetH Tryd.prog laid1 ((World.doorLaid Tryd.prog 400 os).forCall (fun _ _ => 0) ⟨#[], args, []⟩).memory :=
  laidMetH_of_parts3 (fuel := 8) (laidMet_of_run' 8 (by kernel_rfl) (by kernel_rfl)) (by kernel_rfl) (by kernel_rfl)
set_option maxRecDepth 100000 in
/-- what the condition gives -/
theorem of_laid {W : World} (h : laidMetH Tryd.prog laid1 W) : ∃ e : Slot, (e.blk = 0 ∧ e.off = 0) ∧ Rep [e] [lookB] W := by
  rw [MakeChecks.laidMetH_plain _ _ _ (by kernel_rfl)] at h
  obtain ⟨ps, ⟨g0, t0, cs0, f0, p0, q0, hg0, ht0, hv0, hd0, _, _⟩, _, _⟩ := h
  obtain rfl := Option.some.inj (gLook.symm.trans hg0)
  obtain rfl := Option.some.inj (tLook.symm.trans ht0)
  obtain ⟨xs, m, _, hx, hlen, hxl, hf⟩ := DataW.trod_struct Tryd.underlying83 hd0
  have hC : Tryd.prog.cellsOf 83 = 3 := by kernel_rfl
  have k40 : Tryd.prog.cellsOf 40 = 1 := by kernel_rfl
  rw [hC] at hlen
  obtain ⟨l⟩ := cs0
  simp only at hlen hf
  match l, hlen with
  | [c0, c1, c2], _ =>
    match xs, hxl, hx with
    | [y0, y1, y2], _, hx =>
      have f0 : DataW.trod _ Tryd.prog W 0 _ false m 40 (([c0, c1, c2].drop 0).take (Tryd.prog.cellsOf 40)) = some y0 := hf 0 _ rfl
      have f1 : DataW.trod _ Tryd.prog W 0 _ false m 40 (([c0, c1, c2].drop 1).take (Tryd.prog.cellsOf 40)) = some y1 := hf 1 _ rfl
      have f2 : DataW.trod _ Tryd.prog W 0 _ false m 40 (([c0, c1, c2].drop 2).take (Tryd.prog.cellsOf 40)) = some y2 := hf 2 _ rfl
      rw [k40] at f0 f1 f2
      obtain ⟨a0, h0, e0, _⟩ := DataW.trod_int Tryd.underlying40 f0
      obtain ⟨a1, h1, e1, _⟩ := DataW.trod_int Tryd.underlying40 f1
      obtain ⟨a2, h2, e2, _⟩ := DataW.trod_int Tryd.underlying40 f2
      simp at h0 h1 h2
      subst h0 h1 h2 e0 e1 e2
      simp [Rows.laid_purlin_mem_look] at hx
      obtain ⟨⟨rfl, rfl, rfl⟩, _⟩ := hx
      have hc := fun i => World.var?_cell hg0 hv0 i
      have hsz : 0 < W.heap.size := by
        have := hc 0
        simp only [World.cell?] at this
        rcases Nat.eq_zero_or_pos W.heap.size with h | h
        · rw [Array.getElem?_eq_none (by omega)] at this; simp at this
        · exact h
      refine ⟨⟨0, 0, 0, []⟩, ⟨rfl, rfl⟩, rfl, ?_, ?_, ?_⟩
      · intro id sl b he hb
        match id with
        | 0 =>
          simp only [List.getElem?_cons_zero, Option.some.injEq] at he hb
          subst he hb
          refine ⟨[.int .u32 4294967295, .int .u32 0, .int .u32 0], by simp [encLook, encOf, DenL, Den], fun i hi => ?_⟩
          have := hc i
          simpa using this
        | n + 1 => simp at he
      · intro i j e f b c hij he hf' hb' hc' x hx''
        match i, j with
        | 0, 0 => exact (hij rfl).elim
        | i + 1, _ => simp at he
        | 0, j + 1 => simp at hf'
      · intro id sl b he hb x hx
        match id with
        | 0 =>
          simp only [List.getElem?_cons_zero, Option.some.injEq] at he hb
          subst he hb
          simp [Blk.supp] at hx
          omega
        | n + 1 => simp at he
end Go.Proofs.YtplbncncnjiahaaDoor

/- Rings of the laws: a play that comes in. -/
namespace Go.Proofs.YtplbncncnjiahaaDoor
open Go Go.Proofs.YtplbncncnjiahaaDoor.Sx Go.ChangeShapes Go.WideShapes Go.ChangeAt Go.RowKit
set_option linter.unusedVariables false
theorem wf_u32R {n : Int} (h : (Lit.int .u32 n).wf = true) : 0 ≤ n ∧ n < 4294967296 := by simp [Lit.wf, IntKind.min, IntKind.max, IntKind.signed, IntKind.bits] at h; omega
theorem wf_u8R {n : Int} (h : (Lit.int .u8 n).wf = true) : 0 ≤ n ∧ n ≤ 255 := by simp [Lit.wf, IntKind.min, IntKind.max, IntKind.signed, IntKind.bits] at h; omega
theorem open_strR {H : Type} {enc : TypeId × Value → H} {w : World} {base : Nat} {spare : Nat → Bool} {held : Bool} (n : Nat) (cs : List Value) (y : DataW H × List MemPlace) (h : DataW.trod enc Tryd.prog w base spare held n 9 cs = some y) :
    ∃ x : ByteArray, DenL [] (encStr.enc x) cs := by
  obtain ⟨s, h0, _⟩ := DataW.trod_string Tryd.underlying9 h
  subst h0
  exact ⟨s, by simp [encStr, DenL, Den]⟩
theorem open_u8R {H : Type} {enc : TypeId × Value → H} {w : World} {base : Nat} {spare : Nat → Bool} {held : Bool} (n : Nat) (cs : List Value) (y : DataW H × List MemPlace) (h : DataW.trod enc Tryd.prog w base spare held n 5 cs = some y) :
    ∃ x : Int, DenL [] ((encInt .u8).enc x) cs := by
  obtain ⟨a, h0, _, hw⟩ := DataW.trod_int Tryd.underlying5 h
  subst h0
  exact ⟨a, by simp [encInt, DenL, Den]⟩
theorem open_byteR {H : Type} {enc : TypeId × Value → H} {W W0 : World} {r : Reach} {b0 base : Nat} {spare : Nat → Bool} {held : Bool} {v : Value} {d : DataW H} {ps : List MemPlace} (hval : Value.okWide Tryd.prog W0 r b0 5 v) (hd : DataW.Trod enc Tryd.prog W base spare held 5 v d ps) :
    ∃ a, v = .int .u8 a ∧ (0 ≤ a ∧ a ≤ 255) := by
  obtain ⟨m, rfl⟩ := okWide_int Tryd.underlying5 hval
  obtain ⟨fuel, hf⟩ := hd
  obtain ⟨a, h0, _, hw⟩ := DataW.trod_int Tryd.underlying5 hf
  simp [Value.cells] at h0
  subst h0
  exact ⟨_, rfl, wf_u8R hw⟩
abbrev playV (h t : Int) (a b : Value) : Value := .agg #[.int .u32 h, .int .u32 t, a, b]
theorem open_play {H : Type} {enc : TypeId × Value → H} {W : World} {r : Reach} {b0 base : Nat} {spare : Nat → Bool} {held : Bool} {v : Value} {d : DataW H} {ps : List MemPlace} (hval : Value.okWide Tryd.prog W r b0 43 v) (hd : DataW.Trod enc Tryd.prog W base spare held 43 v d ps) :
    ∃ (h t : Int) (a b : Value), v = playV h t a b ∧ (0 ≤ h ∧ h < 4294967296) ∧ (0 ≤ t ∧ t < 4294967296) ∧ (∃ (ms : List ByteArray) (c1 : Nat) (s1 : Slot), Rep [s1] [.ro encStr ms] W ∧ Den [s1] (.sli 0 (.c 0) 1 (.v ms.length) (some (.v c1))) a) ∧ ∃ (ks : List Int) (c2 : Nat) (s2 : Slot), Rep [s2] [.ro (encInt .u8) ks] W ∧ Den [s2] (.sli 0 (.c 0) 1 (.v ks.length) (some (.v c2))) b := by
  have hv : ∃ cs, v = .agg cs := by
    have h := hval
    simp only [Value.okWide, Tryd.underlying43] at h
    obtain ⟨cs, e, _⟩ := h
    exact ⟨cs, e⟩
  obtain ⟨cs, rfl⟩ := hv
  obtain ⟨fuel, h⟩ := hd
  obtain ⟨xs, m, _, _, hlen, hxl, hf⟩ := DataW.trod_struct Tryd.underlying43 h
  have hC : Tryd.prog.cellsOf 43 = 4 := by kernel_rfl
  rw [hC] at hlen
  obtain ⟨l⟩ := cs
  simp only [Value.cells] at hlen hf
  match l, hlen with
  | [c0, c1, c2, c3], _ =>
    match xs, hxl with
    | [y0, y1, y2, y3], _ =>
      have f0 : DataW.trod enc Tryd.prog W base spare held m 40 (([c0, c1, c2, c3].drop 0).take (Tryd.prog.cellsOf 40)) = some y0 := hf 0 _ rfl
      have f1 : DataW.trod enc Tryd.prog W base spare held m 40 (([c0, c1, c2, c3].drop 1).take (Tryd.prog.cellsOf 40)) = some y1 := hf 1 _ rfl
      have f2 : DataW.trod enc Tryd.prog W base spare held m 24 (([c0, c1, c2, c3].drop 2).take (Tryd.prog.cellsOf 24)) = some y2 := hf 2 _ rfl
      have f3 : DataW.trod enc Tryd.prog W base spare held m 41 (([c0, c1, c2, c3].drop 3).take (Tryd.prog.cellsOf 41)) = some y3 := hf 3 _ rfl
      have k0 : Tryd.prog.cellsOf 40 = 1 := by kernel_rfl
      have k2 : Tryd.prog.cellsOf 24 = 1 := by kernel_rfl
      have k3 : Tryd.prog.cellsOf 41 = 1 := by kernel_rfl
      rw [k0] at f0 f1
      rw [k2] at f2
      rw [k3] at f3
      obtain ⟨a, h0, _, w0⟩ := DataW.trod_int Tryd.underlying40 f0
      obtain ⟨b, h1, _, w1⟩ := DataW.trod_int Tryd.underlying40 f1
      simp at h0 h1
      subst h0 h1
      have hts : Tryd.prog.cellTypes Tryd.prog.depth 43 = some [40, 40, 24, 41] := by kernel_rfl
      have v2 := okWide_cell (i := 2) (v := c2) (u := 24) hval Tryd.underlying43 hts rfl rfl Tryd.underlying24
      have v3 := okWide_cell (i := 3) (v := c3) (u := 41) hval Tryd.underlying43 hts rfl rfl Tryd.underlying41
      exact ⟨a, b, c2, c3, rfl, wf_u32R w0, wf_u32R w1, open_cell encStr Tryd.underlying24 (by kernel_rfl) open_strR rfl v2 f2, open_cell (encInt .u8) Tryd.underlying41 (by kernel_rfl) open_u8R rfl v3 f3⟩
/-- the argument, and where its rows lie -/
theorem den_play {env : Env} {q : InR} {a b : Value} {i j : Nat} (h1 : Den env (.sli i (.c 0) 1 (.v q.ms.length) (some (.v q.c1))) a) (h2 : Den env (.sli j (.c 0) 1 (.v q.ps.length) (some (.v q.c2))) b) : Den env (plV q i j) (playV q.h q.t a b) :=
  ⟨_, rfl, _, _, rfl, rfl, _, _, rfl, rfl, _, _, rfl, h1, _, _, rfl, h2, rfl⟩
end Go.Proofs.YtplbncncnjiahaaDoor

