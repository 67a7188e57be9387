/-
  What a reader writes: some variables of its caller, and nothing else that stood ahead of Try.
-/
import Derived.Test.YtkhjgmcndieecaaCurLaw
set_option linter.unusedVariables false
set_option linter.unusedSimpArgs false
namespace Go.Proofs.Ytkhjgmcndieecaa
open Go.RowKit

/-- Of the blocks that stood there none has changed, but some. -/
structure Wrote (w w' : World) (xs : List Nat) : Prop where
  os : w'.os = w.os
  tape : w'.tape = w.tape
  output : w'.output = w.output
  size : w.heap.size ≤ w'.heap.size
  block : ∀ i, i < w.heap.size → i ∉ xs → w'.heap[i]? = w.heap[i]?
theorem Wrote.refl (w : World) (xs : List Nat) : Wrote w w xs := ⟨rfl, rfl, rfl, Nat.le_refl _, fun _ _ _ => rfl⟩
theorem Wrote.of_below {w w' : World} (h : Below w.heap.size w w') (xs : List Nat) : Wrote w w' xs := ⟨h.os, h.tape, h.output, h.size, fun i hi _ => h.block i hi⟩
theorem Wrote.trans {a b c : World} {xs : List Nat} (h : Wrote a b xs) (k : Wrote b c xs) : Wrote a c xs :=
  ⟨k.os.trans h.os, k.tape.trans h.tape, k.output.trans h.output, Nat.le_trans h.size k.size, fun i hi hx => (k.block i (Nat.lt_of_lt_of_le hi h.size) hx).trans (h.block i hi hx)⟩
theorem Wrote.mono {a b : World} {xs ys : List Nat} (h : Wrote a b xs) (hs : ∀ x ∈ xs, x ∈ ys) : Wrote a b ys := ⟨h.os, h.tape, h.output, h.size, fun i hi hx => h.block i hi fun k => hx (hs i k)⟩
theorem Wrote.grown {a b c : World} {xs : List Nat} {p : Nat} (h : Wrote a b xs) (hg : b.grownBy c (some p)) (hp : a.heap.size ≤ p) : Wrote a c xs :=
  ⟨hg.os.trans h.os, hg.tape.trans h.tape, hg.output.trans h.output, Nat.le_trans h.size hg.size, fun i hi hx => (hg.block i (Nat.lt_of_lt_of_le hi h.size) (by simp; omega)).trans (h.block i hi hx)⟩
theorem Wrote.step {a b c : World} {xs : List Nat} (h : Wrote a b xs) (hb : Below b.heap.size b c) : Wrote a c xs := h.trans (.of_below hb xs)
theorem Wrote.alloc {a b : World} {xs : List Nat} (h : Wrote a b xs) (o : Obj) : Wrote a (b.alloc o) xs := h.step ((Below.refl _ _).alloc (Nat.le_refl _) o)
theorem Wrote.drew {a b : World} {xs : List Nat} (h : Wrote a b xs) : Wrote a b.drew xs := ⟨h.os, h.tape, h.output, h.size, h.block⟩
theorem Wrote.set {a b : World} {xs : List Nat} (h : Wrote a b xs) (n k : Nat) (v : Value) (hn : n ∈ xs ∨ a.heap.size ≤ n) : Wrote a (b.setCell ⟨n, k, none⟩ v) xs :=
  ⟨h.os, h.tape, h.output, by simpa using h.size, fun i hi hx => (heap_setCell_other _ _ _ _ (by rintro rfl; exact hn.elim hx (by omega))).trans (h.block i hi hx)⟩
theorem Wrote.tail {a b c : World} {xs : List Nat} (h : Wrote a b xs) (ht : Tail a b c) : Wrote a c xs :=
  ⟨ht.os.trans h.os, ht.tape.trans h.tape, ht.output.trans h.output, Nat.le_trans h.size ht.size, fun i hi hx => (ht.block i (Nat.lt_of_lt_of_le hi h.size) (.inl hi)).trans (h.block i hi hx)⟩
theorem Wrote.below {a b : World} {xs : List Nat} {B : Nat} (h : Wrote a b xs) (hB : B ≤ a.heap.size) (hx : ∀ x ∈ xs, B ≤ x) : Below B a b :=
  ⟨h.os, h.tape, h.output, h.size, fun i hi => h.block i (by omega) fun k => by have := hx i k; omega⟩
theorem Wrote.var {a b : World} {xs : List Nat} {n : Nat} {v : Value} {t : TypeId} (h : Wrote a b xs) (hv : Var a n v t) (hn : n ∉ xs) : Var b n v t := hv.of (h.block n hv.lt hn)
theorem Wrote.rd {a b : World} {xs : List Nat} {A : Option Addr} {c : Nat} {l : List UInt8} (h : Wrote a b xs) (hr : Rd a A c l) (hn : ∀ g, A = some g → 0 < l.length → g.block ∉ xs) : Rd b A c l :=
  ⟨hr.le, hr.max, hr.nil, hr.form, fun j hj g hg => by
    have h1 := hr.get j hj g hg
    have hlt := World.block_lt_of_cell? a _ h1
    obtain ⟨bb, o, e, _⟩ := hr.at_ hj
    have e' := hg.symm.trans e
    cases e'
    refine Eq.trans ?_ h1
    have hb := h.block bb hlt (by simpa using hn _ hg (by omega))
    unfold World.cell?
    simp only [hb]⟩

theorem Var.grown {w w' : World} {b p : Nat} {v : Value} {t : TypeId} (h : Var w b v t) (hg : w.grownBy w' (some p)) (hb : b ≠ p) : Var w' b v t := h.of (hg.block _ h.lt (by simpa using hb))
theorem Var.other {w : World} {b b' k : Nat} {v u : Value} {t : TypeId} (h : Var w b v t) (hb : b ≠ b') : Var (w.setCell ⟨b', k, none⟩ u) b v t := h.of (heap_setCell_other w _ b _ hb)

theorem Var.new' (w : World) (v : Value) (t : TypeId) {k : Nat} (hk : w.heap.size = k) : Var (w.alloc (.cells #[v] t)) k v t := hk ▸ Var.new w v t
/-- The reader has ended so, has written some variables, and they hold this. -/
def Leaves (w0 : World) (xs : List Nat) (o : Except Int Unit) (vs : List (Nat × Value × TypeId)) (o' : Except Int Unit) (w2 : World) : Prop := o' = o ∧ Wrote w0 w2 xs ∧ ∀ x ∈ vs, Var w2 x.1 x.2.1 x.2.2
/-- So has Try. -/
def Left (w : World) (xs : List Nat) (k : Int) (vs : List (Nat × Value × TypeId)) (e : Ending) (w' : World) : Prop := e = .returned (.int .i64 k) ∧ Wrote w w' xs ∧ ∀ x ∈ vs, Var w' x.1 x.2.1 x.2.2
theorem Left.of {w w' : World} {xs : List Nat} {o : Except Int Unit} {vs : List (Nat × Value × TypeId)} {e : Ending} (hvs : ∀ x ∈ vs, x.1 < w.heap.size) (h : Tried w (Leaves w xs o vs) e w') : Left w xs (code o) vs e w' := by
  obtain ⟨o', w2, ⟨rfl, hw, hv⟩, rfl, ht⟩ := h
  exact ⟨rfl, hw.tail ht, fun x hx => ht.var (hv x hx) (hvs x hx)⟩
/-- Try, by what its reader does. -/
theorem try_left (A : Option Addr) (c : Nat) (l : List UInt8) (big : Bool) (F : FuncId) (cap : Array Value) (w : World) (xs : List Nat) (o : Except Int Unit) (vs : List (Nat × Value × TypeId)) (k : Int) (hk : code o = k) (hr : Rd w A c l)
    (hF : ∀ (args : Array Value) (W : World), (callFunc F args).run Try.prog W = .ok (.enter F args) W) (hvs : ∀ x ∈ vs, x.1 < w.heap.size)
    (hread : ∀ W, Below w.heap.size w W → W.heap.size = w.heap.size + 3 → Cur W (w.heap.size + 1) A c l 0 big true → Calls Try.prog F (#[.pointer (some ⟨w.heap.size + 1, 0, none⟩)] ++ cap) W (Read w (w.heap.size + 1) (Leaves w xs o vs) W)) :
    Calls Try.prog 15 #[.slice A l.length c, .bool big, .func (.func F) #[] cap] w (Left w xs k vs) := by
  subst hk
  exact (try_any A c l big F cap w (Leaves w xs o vs) hr hF hread).mono fun e w' h => Left.of hvs h
end Go.Proofs.Ytkhjgmcndieecaa
