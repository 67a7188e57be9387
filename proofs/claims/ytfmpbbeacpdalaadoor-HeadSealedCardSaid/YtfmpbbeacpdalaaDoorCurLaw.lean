/-
  What the statements of the cursor share: a copy of bytes, and 'awake'.
-/
import Derived.Test.YtfmpbbeacpdalaaDoorTry
set_option linter.unusedVariables false
set_option linter.unusedSimpArgs false
namespace Go.Proofs.YtfmpbbeacpdalaaDoor
open Go.RowKit


/-- A block of one cell: a variable. -/
def Var (w : World) (b : Nat) (v : Value) (t : TypeId) : Prop := w.heap[b]? = some (.cells #[v] t (0, 0))
theorem Var.lt {w : World} {b : Nat} {v : Value} {t : TypeId} (h : Var w b v t) : b < w.heap.size := (Array.getElem?_eq_some_iff.1 h).1
theorem Var.cell {w : World} {b : Nat} {v : Value} {t : TypeId} (h : Var w b v t) : w.cell? ⟨b, 0, none⟩ = some v := by rw [cell_of_heap h]; rfl
theorem Var.fz {w : World} {b : Nat} {v : Value} {t : TypeId} (h : Var w b v t) : w.frozen? ⟨b, 0, none⟩ = false := frozen_of_heap h 0
theorem Var.set {w : World} {b : Nat} {v : Value} {t : TypeId} (h : Var w b v t) (u : Value) : Var (w.setCell ⟨b, 0, none⟩ u) b u t := by
  unfold Var
  rw [heap_setCell_same w b 0 _ _ _ h]
  rfl
theorem Var.of {w w' : World} {b : Nat} {v : Value} {t : TypeId} (h : Var w b v t) (e : w'.heap[b]? = w.heap[b]?) : Var w' b v t := e.trans h
theorem Var.below {w w' : World} {b : Nat} {v : Value} {t : TypeId} {B : Nat} (h : Var w b v t) (hb : Below B w w') (hlt : b < B) : Var w' b v t := h.of (hb.block b hlt)
theorem Var.new (w : World) (v : Value) (t : TypeId) : Var (w.alloc (.cells #[v] t)) w.heap.size v t := heap_alloc_new w _
theorem Var.alloc {w : World} {b : Nat} {v : Value} {t : TypeId} (h : Var w b v t) (o : Obj) : Var (w.alloc o) b v t := h.of (Below.heap_alloc _ _ _ h.lt)

theorem below_of_grown {w w' : World} {p B : Nat} (h : w.grownBy w' (some p)) (hp : B ≤ p) (hB : B ≤ w.heap.size) : Below B w w' :=
  ⟨h.os, h.tape, h.output, h.size, fun k hk => h.block k (Nat.lt_of_lt_of_le hk hB) (by simp; omega)⟩
theorem Tail.below {w0 w2 w' : World} (h : Tail w0 w2 w') {B : Nat} (hB : B ≤ w0.heap.size) (h2 : w0.heap.size ≤ w2.heap.size) : Below B w2 w' :=
  ⟨h.os, h.tape, h.output, h.size, fun k hk => h.block k (by omega) (.inl (by omega))⟩
theorem Tail.var {w0 w2 w' : World} (h : Tail w0 w2 w') {b : Nat} {v : Value} {t : TypeId} (hv : Var w2 b v t) (hb : b < w0.heap.size) : Var w' b v t := hv.of (h.block b hv.lt (.inl hb))

/-- The reader leaves one variable: what it holds then. -/
def Leaves1 (B nb : Nat) (t : TypeId) (W : World) (o : Except Int Unit) (v : Value) (o' : Except Int Unit) (w2 : World) : Prop := o' = o ∧ Below B W w2 ∧ Var w2 nb v t

theorem num12 : numA [1, 2] 0 2 true = .ok (.int .i64 258) := by
  unfold numA numV wide win beN
  simp
theorem num14 : numA [1, 2] 0 4 true = .error 3 := by
  unfold numA wide
  simp

/-- Nothing but the cursor has been written, and what lies ahead of Try. -/
structure Since (w0 : World) (p : Nat) (W w1 : World) : Prop where
  size : W.heap.size ≤ w1.heap.size
  kept : ∀ i, i < W.heap.size → w0.heap.size ≤ i → i ≠ p → w1.heap[i]? = W.heap[i]?
  cur : ∃ A n c, ∃ at_ : Int, ∃ big live, w1.heap[p]? = some (.cells #[.slice A n c, .int .i64 at_, .bool big, .bool live] 65 (0, 0))
theorem Since.of_cur {w0 W w1 : World} {p : Nat} {A : Option Addr} {c : Nat} {l : List UInt8} {at_ : Nat} {big live : Bool} (hg : W.grownBy w1 (some p)) (hc : Cur w1 p A c l at_ big live) : Since w0 p W w1 :=
  ⟨hg.size, fun i hi _ hn => hg.block i hi (by simpa using hn), _, _, _, _, _, _, hc.block⟩
theorem Since.set {w0 W w1 : World} {p nb : Nat} (h : Since w0 p W w1) (hnb : nb < w0.heap.size) (hp : w0.heap.size ≤ p) (k : Nat) (v : Value) : Since w0 p W (w1.setCell ⟨nb, k, none⟩ v) :=
  ⟨by simpa using h.size, fun i hi h0 hn => (heap_setCell_other _ _ _ _ (by simp; omega)).trans (h.kept i hi h0 hn), by
    obtain ⟨A, n, c, at_, big, live, hb⟩ := h.cur
    exact ⟨A, n, c, at_, big, live, (heap_setCell_other _ _ _ _ (by simp; omega)).trans hb⟩⟩
theorem Since.ok {w0 W w1 : World} {p : Nat} {S : Except Int Unit → World → Prop} (h : Since w0 p W w1) (hS : S (.ok ()) w1) : Read w0 p S W (.returned (.tuple #[])) w1 := ⟨h.size, h.kept, h.cur, .inl ⟨rfl, hS⟩⟩
theorem Since.err {w0 W w1 : World} {p : Nat} {S : Except Int Unit → World → Prop} (h : Since w0 p W w1) {k : Int} (hk : k ≠ 0) (hS : S (.error k) w1) : Read w0 p S W (.panicked (gave k)) w1 := ⟨h.size, h.kept, h.cur, .inr ⟨k, hk, rfl, hS⟩⟩

/-- In a drawn region a call that only panics: the way behind it is walked under a 'False'. -/
theorem calls_never {P : Program} {f : Nat} {args : Array Value} {w : World} {U : Ending → World → Prop} {v : Value} {w' : World} (h : Calls P f args w U) (_ : False → U (.returned v) w') : Calls P f args w U := h

/-- What Try has done, of one variable of its caller. -/
def Left1 (w : World) (nb : Nat) (t : TypeId) (k : Int) (v : Value) (e : Ending) (w' : World) : Prop := e = .returned (.int .i64 k) ∧ Below nb w w' ∧ Var w' nb v t
theorem Left1.of {w w' : World} {nb : Nat} {t : TypeId} {o : Except Int Unit} {v : Value} {e : Ending} (hnb : nb < w.heap.size) (h : Tried w (Leaves1 nb nb t w o v) e w') : Left1 w nb t (code o) v e w' := by
  obtain ⟨o', w2, ⟨rfl, hb, hv⟩, rfl, ht⟩ := h
  have hs := hb.size
  exact ⟨rfl, hb.trans (ht.below (by omega) hs), ht.var hv hnb⟩
theorem Leaves1.weaken {w W : World} {nb : Nat} {t : TypeId} {o o' : Except Int Unit} {v : Value} {w2 : World} (hB : Below w.heap.size w W) (hnb : nb ≤ w.heap.size) (h : Leaves1 nb nb t W o v o' w2) : Leaves1 nb nb t w o v o' w2 :=
  ⟨h.1, (hB.mono hnb).trans h.2.1, h.2.2⟩
theorem Read.weaken {w0 W w' : World} {p : Nat} {S S' : Except Int Unit → World → Prop} {e : Ending} (hS : ∀ o w, S o w → S' o w) (h : Read w0 p S W e w') : Read w0 p S' W e w' :=
  ⟨h.1, h.2.1, h.2.2.1, h.2.2.2.imp (fun x => ⟨x.1, hS _ _ x.2⟩) (fun ⟨k, x⟩ => ⟨k, x.1, x.2.1, hS _ _ x.2.2⟩)⟩

end Go.Proofs.YtfmpbbeacpdalaaDoor
