/-
  Slices in the walk by steps: bytes (Rd, OwB), and whatever cells (RdV, ownsRow).
-/
import Derived.Test.YtfmpbbeacpdalaaDoorF
import Derived.Maps.AppendAt
set_option linter.unusedVariables false
set_option linter.unusedSimpArgs false
namespace Go.Proofs.YtfmpbbeacpdalaaDoor
open Go.RowKit


/-- The place of a slice's cell. -/
def pt (A : Option Addr) (j : Nat) : Option Addr := A.map fun a => ⟨a.block, a.off + j, none⟩
/-- A slice's address and capacity, and what it reads as: n elements of sz cells. -/
structure RdV (w : World) (A : Option Addr) (c sz n : Nat) (cs : List Value) : Prop where
  len : cs.length = n * sz
  le : n ≤ c
  max : c ≤ 9223372036854775807
  nil : A = none → c = 0
  form : ∀ a, A = some a → 0 < cs.length → a.spot = none
  get : ∀ j v, cs[j]? = some v → ∀ a, A = some a → w.cell? ⟨a.block, a.off + j, none⟩ = some v
section
variable {w w' : World} {A : Option Addr} {c sz n : Nat} {cs : List Value} {l : List UInt8} {M : Nat → Prop}

theorem RdV.lt (h : RdV w A c sz n cs) : ∀ a, A = some a → 0 < cs.length → a.block < w.heap.size := fun a ha hl => by
  have := World.block_lt_of_cell? w _ (h.get 0 _ (List.getElem?_eq_getElem hl) a ha)
  exact this
theorem RdV.chg {w0 : World} (h0 : RdV w0 A c sz n cs) (h : RdV w A c sz n cs) (hc : Chg M w w') (hm : ∀ k, k < w0.heap.size → ¬ M k) : RdV w' A c sz n cs :=
  ⟨h.len, h.le, h.max, h.nil, h.form, fun j v hj a ha => hc.cell (hm _ (h0.lt a ha (by have := (List.getElem?_eq_some_iff.1 hj).1; omega))) (h.get j v hj a ha)⟩
theorem RdV.chgNe (h : RdV w A c sz n cs) (hc : Chg M w w') (hm : ∀ a, A = some a → 0 < cs.length → ¬ M a.block) : RdV w' A c sz n cs :=
  ⟨h.len, h.le, h.max, h.nil, h.form, fun j v hj a ha => hc.cell (hm a ha (by have := (List.getElem?_eq_some_iff.1 hj).1; omega)) (h.get j v hj a ha)⟩
theorem RdV.nilAt (w : World) (sz : Nat) : RdV w none 0 sz 0 [] := ⟨by simp, Nat.le_refl _, by omega, (fun _ => rfl), (fun _ h => by cases h), (fun _ _ _ _ h => by cases h)⟩
theorem RdV.at_ (h : RdV w A c sz n cs) {j : Nat} (hj : j < cs.length) : ∃ b o, A = some ⟨b, o, none⟩ := by
  cases A with
  | none =>
    have h1 := h.nil rfl
    have h2 := h.le
    have h3 := h.len
    have : n = 0 := by omega
    subst this
    simp at h3
    simp [h3] at hj
  | some a =>
    have hf := h.form a rfl (by omega)
    obtain ⟨b, o, s⟩ := a
    simp only at hf
    subst hf
    exact ⟨b, o, rfl⟩
theorem Rd.toV (h : Rd w A c l) : RdV w A c 1 l.length (bs l) :=
  ⟨by simp [bs_length], h.le, h.max, h.nil, (fun a ha h0 => h.form a ha (by simpa [bs_length] using h0)), fun j v hj a ha => by
    obtain ⟨hj', rfl⟩ := bs_get l j v hj
    exact h.get j hj' a ha⟩
/-- The type of a slice whose elements have so many cells. -/
def sliceT (P : Program) (t : TypeId) (sz : Nat) : Bool := match P.underlying t with
  | some (.slice e) => (P.info? e).map (·.size) == some sz
  | _ => false
variable {P : Program} {t : TypeId} {k : IntKind} {i : Int} {j : Nat}

theorem sliceT_spec (h : sliceT P t sz = true) : ∃ e f, P.underlying t = some (.slice e) ∧ P.info? e = some f ∧ f.size = sz := by
  unfold sliceT at h
  split at h
  · rename_i e he
    cases hi : P.info? e with
    | none => simp [hi] at h
    | some f => exact ⟨e, f, he, hi, by simpa [hi] using h⟩
  · cases h
theorem idx_rdv (h : RdV w A c sz n cs) (ht : sliceT P t sz = true) (hsz : 0 < sz) (hi : i = (j : Int)) (hj : j < n) : (Instr.indexAt t (.slice A n c) (.int k i)).run P w = .ok (.pointer (pt A (j * sz))) w := by
  obtain ⟨e, f, he, hf, hfs⟩ := sliceT_spec ht
  have hlen : 0 < cs.length := by
    rw [h.len]
    exact Nat.mul_pos (by omega) hsz
  obtain ⟨b, o, rfl⟩ := h.at_ hlen
  subst hi
  have h1 : (0 : Int) ≤ (j : Int) ∧ (j : Int) < (n : Int) := by omega
  simp [Instr.indexAt, asIntOf, Sem.run_bind, run_underlying he, sizeOf, typeInfo, hf, hfs, h1.2, pt, add_plain, hj]
theorem idx_rd (h : Rd w A c l) (ht : sliceT P t 1 = true) (hi : i = (j : Int)) (hj : j < l.length) : (Instr.indexAt t (.slice A l.length c) (.int k i)).run P w = .ok (.pointer (pt A j)) w := by
  have := idx_rdv (P := P) (k := k) h.toV ht (by decide) hi hj
  simpa using this
variable {L : Env} {x : Operand}

theorem do_load_rd (hx : ev L x = some (.pointer (pt A j))) (ht : plainT P t = true) (h : Rd w A c l) (hj : j < l.length) : Does P L (.load t x) (some (.int .u8 ((l.getD j 0).toNat : Int))) w w := by
  obtain ⟨b, o, rfl, hc⟩ := h.at_ hj
  have e : l.getD j 0 = l[j] := by simp [List.getD_eq_getElem?_getD, List.getElem?_eq_getElem hj]
  rw [e]
  exact do_load hx ht hc
theorem do_load_rdv {v : Value} (hx : ev L x = some (.pointer (pt A j))) (ht : plainT P t = true) (h : RdV w A c sz n cs) (hv : cs[j]? = some v) : Does P L (.load t x) (some v) w w := by
  have hj := (List.getElem?_eq_some_iff.1 hv).1
  obtain ⟨b, o, rfl⟩ := h.at_ hj
  exact do_load hx ht (h.get j v hv _ rfl)
theorem do_loads_rdv {us : List Value} (hx : ev L x = some (.pointer (pt A j))) (ht : rowT P t us.length = true) (h : RdV w A c sz n cs) (h0 : 0 < us.length) (hv : ∀ i v, us[i]? = some v → cs[j + i]? = some v) : Does P L (.load t x) (some (.agg us.toArray)) w w := by
  have hj := (List.getElem?_eq_some_iff.1 (hv 0 _ (List.getElem?_eq_getElem h0))).1
  obtain ⟨b, o, rfl⟩ := h.at_ hj
  exact do_loads hx ht fun i v hi => by
    have := h.get (j + i) v (hv i v hi) _ rfl
    simpa [Nat.add_assoc] using this
theorem len_slice {ts : Array TypeId} {ty : TypeId} {bo : Array Bool} {s : TypeId} {e : TypeId} (hs : P.underlying s = some (.slice e)) : (builtin .len #[s] ty bo #[.slice A n c]).run P w = .ok (.value (.int .i64 (n : Int))) w := by
  simp [builtin, Builtin.len_, Sem.run_bind, run_underlying hs, goInt]

/-- A part of a slice: its address. -/
def sub (A : Option Addr) (c lo sz : Nat) : Option Addr := if c = lo then A else pt A (lo * sz)
theorem slice_rdv {lo hi : Nat} {l' h' : Option Value} (h : RdV w A c sz n cs) (ht : sliceT P t sz = true) (hsz : 0 < sz) (h1 : lo ≤ hi) (h2 : hi ≤ n) (hA : c = lo ∨ A.all (·.spot.isNone) = true)
    (hl : (l' = none ∧ lo = 0) ∨ ∃ k, l' = some (.int k (lo : Int))) (hh : (h' = none ∧ hi = n) ∨ ∃ k, h' = some (.int k (hi : Int))) :
    (∀ W, (Instr.sliceAt t (.slice A n c) l' h' none).run P W = .ok (.slice (sub A c lo sz) (hi - lo) (c - lo)) W) ∧ RdV w (sub A c lo sz) (c - lo) sz (hi - lo) ((cs.drop (lo * sz)).take ((hi - lo) * sz)) := by
  obtain ⟨e, f, he, hf, hfs⟩ := sliceT_spec ht
  have hle := h.le
  constructor
  · intro W
    have e1 : (if c = lo then A else A.map (·.add (lo * sz))) = sub A c lo sz := by
      unfold sub
      split
      · rfl
      · rcases hA with hA | hA
        · exact absurd hA ‹_›
        · cases A with
          | none => rfl
          | some a =>
            obtain ⟨b, o, s⟩ := a
            simp at hA
            subst hA
            simp [pt, add_plain]
    have hb : ∀ (l' h' : Option Value), ((l' = none ∧ lo = 0) ∨ ∃ k, l' = some (.int k (lo : Int))) → ((h' = none ∧ hi = n) ∨ ∃ k, h' = some (.int k (hi : Int))) → (Instr.sliceBounds true n c l' h' none).run P W = .ok (lo, hi, c) W := by
      intro l' h' hl hh
      have q1 : (hi : Int) ≤ (c : Int) := by omega
      have q2 : (lo : Int) ≤ (hi : Int) := by omega
      have q3 : (0 : Int) ≤ (lo : Int) := by omega
      have q4 : (0 : Int) ≤ (hi : Int) := by omega
      rcases hl with ⟨rfl, hl0⟩ | ⟨k1, rfl⟩ <;> rcases hh with ⟨rfl, hh0⟩ | ⟨k2, rfl⟩ <;> simp only [Instr.sliceBounds, Instr.sliceBound, asIntOf, Sem.run_bind, Sem.run_pure, Result.andThen_ok, Option.isSome, if_true, q1, q2, q3, q4, and_self, Int.toNat_natCast]
      · rw [hl0, hh0]
      · rw [hl0]
      · rw [← hh0]
        simp [q2]
    simp [Instr.sliceAt, Instr.slice, Sem.run_bind, run_underlying he, hb l' h' hl hh, sizeOf, typeInfo, hf, hfs, e1]
  · refine ⟨?_, by omega, by have := h.max; omega, ?_, ?_, ?_⟩
    · have := h.len
      rw [List.length_take, List.length_drop, this]
      have : (hi - lo) * sz ≤ n * sz - lo * sz := by
        rw [← Nat.sub_mul]
        exact Nat.mul_le_mul_right _ (by omega)
      omega
    · intro hA'
      unfold sub at hA'
      split at hA'
      · omega
      · have : A = none := by
          cases A with
          | none => rfl
          | some a => simp [pt] at hA'
        have := h.nil this
        omega
    · intro a ha h0
      unfold sub at ha
      split at ha
      · rename_i hc
        rw [List.length_take] at h0
        have : (hi - lo) * sz = 0 := by
          have : hi - lo = 0 := by omega
          simp [this]
        omega
      · cases A with
        | none => simp [pt] at ha
        | some b =>
          simp [pt] at ha
          subst ha
          rfl
    · intro j v hj a ha
      have hjl := (List.getElem?_eq_some_iff.1 hj).1
      rw [List.getElem?_take] at hj
      split at hj
      · rw [List.getElem?_drop] at hj
        unfold sub at ha
        split at ha
        · rename_i hc
          have : (hi - lo) * sz = 0 := by
            have : hi - lo = 0 := by omega
            simp [this]
          omega
        · cases A with
          | none => simp [pt] at ha
          | some b =>
            simp [pt] at ha
            subst ha
            have := h.get _ v hj b rfl
            simpa [Nat.add_assoc] using this
      · cases hj
end

/-! Lists, element by element as cells. -/

def enc {α : Type} (f : α → List Value) (l : List α) : List Value := l.flatMap f
section
variable {α : Type} {f : α → List Value} {sz : Nat} (hf : ∀ x, (f x).length = sz)
include hf

theorem enc_length (l : List α) : (enc f l).length = l.length * sz := by
  unfold enc
  induction l with
  | nil => simp
  | cons x l ih =>
    simp only [List.flatMap_cons, List.length_append, hf, ih, List.length_cons]
    rw [Nat.add_mul]
    omega
theorem enc_get (l : List α) (d : α) {j i : Nat} (hj : j < l.length) (hi : i < sz) : (enc f l)[j * sz + i]? = (f (l.getD j d))[i]? := by
  unfold enc
  induction l generalizing j with
  | nil => simp at hj
  | cons x l ih =>
    rw [List.flatMap_cons]
    cases j with
    | zero =>
      rw [List.getElem?_append_left (by rw [hf]; omega)]
      simp
    | succ j =>
      have e : (j + 1) * sz + i = sz + (j * sz + i) := by rw [Nat.add_mul]; omega
      rw [e, List.getElem?_append_right (by rw [hf]; omega), hf]
      have : sz + (j * sz + i) - sz = j * sz + i := by omega
      rw [this, ih (by simpa using hj)]
      simp
theorem enc_drop_take (l : List α) {lo m : Nat} (h : lo + m ≤ l.length) : ((enc f l).drop (lo * sz)).take (m * sz) = enc f ((l.drop lo).take m) := by
  induction l generalizing lo m with
  | nil =>
    simp at h
    obtain ⟨rfl, rfl⟩ := h
    simp [enc]
  | cons x l ih =>
    cases lo with
    | succ lo =>
      have e : (lo + 1) * sz = (f x).length + lo * sz := by rw [hf, Nat.add_mul]; omega
      have h2 : enc f (x :: l) = f x ++ enc f l := rfl
      rw [h2, e, List.drop_append]
      have : (f x).drop ((f x).length + lo * sz) = [] := by simp
      rw [this, Nat.add_sub_cancel_left, List.nil_append, ih (by simp at h; omega)]
      simp
    | zero =>
      cases m with
      | zero => simp [enc]
      | succ m =>
        have h2 : enc f (x :: l) = f x ++ enc f l := rfl
        have e : (m + 1) * sz = (f x).length + m * sz := by rw [hf, Nat.add_mul]; omega
        have ih' := ih (lo := 0) (m := m) (by simp at h; omega)
        simp only [Nat.zero_mul, List.drop_zero] at ih' ⊢
        rw [h2, e, List.take_length_add_append, ih']
        simp [enc]
end

def int1 (n : Int) : List Value := [.int .i64 n]
theorem int1_len : ∀ x, (int1 x).length = 1 := fun _ => rfl
/-- A slice of whole numbers. -/
abbrev RdI (w : World) (A : Option Addr) (c : Nat) (l : List Int) : Prop := RdV w A c 1 l.length (enc int1 l)
section
variable {P : Program} {L : Env} {x : Operand} {w : World} {A : Option Addr} {c : Nat} {l : List Int} {t : TypeId} {j : Nat}

theorem idx_rdi {k : IntKind} {i : Int} (h : RdI w A c l) (ht : sliceT P t 1 = true) (hi : i = (j : Int)) (hj : j < l.length) (W : World) : (Instr.indexAt t (.slice A l.length c) (.int k i)).run P W = .ok (.pointer (pt A j)) W := by
  have h' : RdV W A c 1 l.length (enc int1 l) ∨ True := .inr trivial
  obtain ⟨e, f, he, hf, hfs⟩ := sliceT_spec ht
  have hlen : 0 < (enc int1 l).length := by rw [enc_length int1_len]; omega
  obtain ⟨b, o, rfl⟩ := h.at_ hlen
  subst hi
  have h1 : (0 : Int) ≤ (j : Int) ∧ (j : Int) < (l.length : Int) := by omega
  simp [Instr.indexAt, asIntOf, Sem.run_bind, run_underlying he, sizeOf, typeInfo, hf, hfs, h1.2, pt, add_plain, hj]
theorem do_load_rdi (hx : ev L x = some (.pointer (pt A j))) (ht : plainT P t = true) (h : RdI w A c l) (hj : j < l.length) : Does P L (.load t x) (some (.int .i64 (l.getD j 0))) w w :=
  do_load_rdv hx ht h (by
    have := enc_get int1_len l 0 hj (i := 0) (by decide)
    simpa [int1] using this)
end

theorem idx_rd' {P : Program} {w : World} {A : Option Addr} {c : Nat} {l : List UInt8} {t : TypeId} {k : IntKind} {i : Int} {j : Nat} (h : Rd w A c l) (ht : sliceT P t 1 = true) (hi : i = (j : Int)) (hj : j < l.length) (W : World) : (Instr.indexAt t (.slice A l.length c) (.int k i)).run P W = .ok (.pointer (pt A j)) W := by
  obtain ⟨e, f, he, hf, hfs⟩ := sliceT_spec ht
  obtain ⟨b, o, rfl, _⟩ := h.at_ hj
  subst hi
  have h1 : (0 : Int) ≤ (j : Int) ∧ (j : Int) < (l.length : Int) := by omega
  simp [Instr.indexAt, asIntOf, Sem.run_bind, run_underlying he, sizeOf, typeInfo, hf, hfs, h1.2, pt, add_plain, hj]
end Go.Proofs.YtfmpbbeacpdalaaDoor
