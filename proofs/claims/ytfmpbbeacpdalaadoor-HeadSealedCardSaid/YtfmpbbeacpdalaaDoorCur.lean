/-
  The cursor: its block in memory; the walks of its small methods.
-/
import Derived.Test.YtfmpbbeacpdalaaDoorW
import Derived.Defers
import Derived.Recover
set_option linter.unusedVariables false
set_option linter.unusedSimpArgs false
namespace Go.Proofs.YtfmpbbeacpdalaaDoor
open Go.RowKit


/-- A cursor in block p: over the bytes l, at a place. -/
structure Cur (w : World) (p : Nat) (A : Option Addr) (c : Nat) (l : List UInt8) (at_ : Nat) (big live : Bool) : Prop where
  block : w.heap[p]? = some (.cells #[.slice A l.length c, .int .i64 (at_ : Int), .bool big, .bool live] 65 (0, 0))
  rd : Rd w A c l
  ne : ∀ a, A = some a → 0 < l.length → a.block ≠ p

section
variable {w w' : World} {p : Nat} {A : Option Addr} {c : Nat} {l : List UInt8} {at_ : Nat} {big live : Bool}

theorem cell_of_heap {t : TypeId} {cs : Array Value} {fr : Nat × Nat} (h : w.heap[p]? = some (.cells cs t fr)) (k : Nat) : w.cell? ⟨p, k, none⟩ = cs[k]? := by simp [World.cell?, h]
theorem frozen_of_heap {t : TypeId} {cs : Array Value} (h : w.heap[p]? = some (.cells cs t (0, 0))) (k : Nat) : w.frozen? ⟨p, k, none⟩ = false := by simp [World.frozen?, h]
theorem Cur.c0 (h : Cur w p A c l at_ big live) : w.cell? ⟨p, 0, none⟩ = some (.slice A l.length c) := by rw [cell_of_heap h.block]; rfl
theorem Cur.c1 (h : Cur w p A c l at_ big live) : w.cell? ⟨p, 1, none⟩ = some (.int .i64 (at_ : Int)) := by rw [cell_of_heap h.block]; rfl
theorem Cur.c2 (h : Cur w p A c l at_ big live) : w.cell? ⟨p, 2, none⟩ = some (.bool big) := by rw [cell_of_heap h.block]; rfl
theorem Cur.c3 (h : Cur w p A c l at_ big live) : w.cell? ⟨p, 3, none⟩ = some (.bool live) := by rw [cell_of_heap h.block]; rfl
theorem Cur.fz (h : Cur w p A c l at_ big live) (k : Nat) : w.frozen? ⟨p, k, none⟩ = false := frozen_of_heap h.block k
theorem grown_of_below {row : Option Nat} (h : Below w.heap.size w w') : w.grownBy w' row := ⟨h.os, h.tape, h.output, h.size, fun i hi _ => h.block i hi⟩
theorem grown_trans {w0 : World} {row : Option Nat} (h : w0.grownBy w row) (k : w.grownBy w' row) : w0.grownBy w' row :=
  ⟨k.os.trans h.os, k.tape.trans h.tape, k.output.trans h.output, Nat.le_trans h.size k.size, fun i hi hn => (k.block i (Nat.lt_of_lt_of_le hi h.size) hn).trans (h.block i hi hn)⟩
theorem grown_drewN (w : World) (row : Option Nat) (n : Nat) : w.grownBy (w.drewN n) row := by
  induction n generalizing w with
  | zero => exact ⟨rfl, rfl, rfl, Nat.le_refl _, fun _ _ _ => rfl⟩
  | succ n ih => rw [← World.drew_drewN]; exact grown_trans (ih w) ⟨rfl, rfl, rfl, Nat.le_refl _, fun _ _ _ => rfl⟩
theorem Rd.grown (h : Rd w A c l) (hg : w.grownBy w' (some p)) (hn : ∀ a, A = some a → 0 < l.length → a.block ≠ p) : Rd w' A c l :=
  ⟨h.le, h.max, h.nil, h.form, fun j hj a ha => hg.cell (h.get j hj a ha) (by
    have := hn a ha (by omega)
    simpa using this)⟩
theorem Cur.lt (h : Cur w p A c l at_ big live) : p < w.heap.size := (Array.getElem?_eq_some_iff.1 h.block).1
/-- Other blocks are written, or new. -/
theorem Cur.other {row : Option Nat} (h : Cur w p A c l at_ big live) (hg : w.grownBy w' row) (hp : some p ≠ row) (hA : ∀ a, A = some a → 0 < l.length → some a.block ≠ row) : Cur w' p A c l at_ big live :=
  ⟨(hg.block p h.lt hp).trans h.block, ⟨h.rd.le, h.rd.max, h.rd.nil, h.rd.form, fun j hj a ha => hg.cell (h.rd.get j hj a ha) (hA a ha (by omega))⟩, h.ne⟩
theorem Cur.below (h : Cur w p A c l at_ big live) (hb : Below w.heap.size w w') : Cur w' p A c l at_ big live :=
  h.other (row := none) (grown_of_below hb) (by simp) (by simp)
theorem Cur.drewN (h : Cur w p A c l at_ big live) (n : Nat) : Cur (w.drewN n) p A c l at_ big live :=
  h.other (row := none) (grown_drewN w _ n) (by simp) (by simp)
/-- Another place. -/
theorem Cur.move (h : Cur w p A c l at_ big live) (n : Nat) : Cur (w.setCell ⟨p, 1, none⟩ (.int .i64 (n : Int))) p A c l n big live ∧ w.grownBy (w.setCell ⟨p, 1, none⟩ (.int .i64 (n : Int))) (some p) := by
  have hg : w.grownBy (w.setCell ⟨p, 1, none⟩ (.int .i64 (n : Int))) (some p) := ⟨rfl, rfl, rfl, by simp, fun k _ hk => heap_setCell_other w _ k _ (fun e => hk (by simp [e]))⟩
  refine ⟨⟨?_, h.rd.grown hg h.ne, h.ne⟩, hg⟩
  rw [heap_setCell_same w p 1 _ _ _ h.block]
  rfl
end


/-- What a cursor panics with. -/
def gave (e : Int) : List PanicEntry := [{ v := .iface 67 (.agg #[.int .i64 e]), recovered := false }]

set_option maxHeartbeats 400000 in
theorem dead_any (p : Nat) (b : Bool) (w : World) (h3 : w.cell? ⟨p, 3, none⟩ = some (.bool b)) :
    Calls Tryd.prog 46 #[.pointer (some ⟨p, 0, none⟩)] w fun e w' => e = .returned (.bool (!b)) ∧ w = w' := by
  go_enter Tryd.func46, Tryd.ntmps46
  go_wp2
  go_ret
  exact ⟨rfl, rfl⟩
set_option maxHeartbeats 400000 in
theorem dead_nil (w : World) :
    Calls Tryd.prog 46 #[.pointer none] w fun e w' => e = .returned (.bool true) ∧ w = w' := by
  go_enter Tryd.func46, Tryd.ntmps46
  go_wp2
  go_ret
  exact ⟨rfl, rfl⟩

set_option maxHeartbeats 400000 in
theorem fail_live (p : Nat) (k : Int) (w : World) (h3 : w.cell? ⟨p, 3, none⟩ = some (.bool true)) (hk : (k == 0) = false) :
    Calls Tryd.prog 44 #[.pointer (some ⟨p, 0, none⟩), .int .i64 k] w fun e w' => e = .panicked (gave k) ∧ w = w' := by
  go_enter Tryd.func44, Tryd.ntmps44
  go_wp2_with (go_at_call 46; refine (dead_any p true _ h3).mono ?_; rintro e w' ⟨rfl, rfl⟩)
  exact ⟨rfl, rfl, rfl⟩
set_option maxHeartbeats 400000 in
theorem fail_none (p : Nat) (w : World) (h3 : w.cell? ⟨p, 3, none⟩ = some (.bool true)) :
    Calls Tryd.prog 44 #[.pointer (some ⟨p, 0, none⟩), .int .i64 0] w fun e w' => e = .returned (.tuple #[]) ∧ w = w' := by
  go_enter Tryd.func44, Tryd.ntmps44
  go_wp2_with (go_at_call 46; refine (dead_any p true _ h3).mono ?_; rintro e w' ⟨rfl, rfl⟩)
  go_end0
  exact ⟨rfl, rfl⟩

/-- A cursor that is not there, or whose Try has ended. -/
def Dead (w : World) (q : Option Addr) : Prop := q = none ∨ ∃ p, q = some ⟨p, 0, none⟩ ∧ w.cell? ⟨p, 3, none⟩ = some (.bool false)
theorem dead_dead (q : Option Addr) (w : World) (h : Dead w q) :
    Calls Tryd.prog 46 #[.pointer q] w fun e w' => e = .returned (.bool true) ∧ w = w' := by
  rcases h with rfl | ⟨p, rfl, h3⟩
  · exact dead_nil w
  · exact dead_any p false w h3
set_option maxHeartbeats 400000 in
theorem fail_dead (q : Option Addr) (k : Int) (w : World) (h : Dead w q) :
    Calls Tryd.prog 44 #[.pointer q, .int .i64 k] w fun e w' => e = .returned (.tuple #[]) ∧ w = w' := by
  have H := Go.Lib.hid h
  clear h
  go_enter Tryd.func44, Tryd.ntmps44
  go_wp2_with (go_at_call 46; refine (dead_dead q _ H.out).mono ?_; rintro e w' ⟨rfl, rfl⟩)
  go_end0
  exact ⟨rfl, rfl⟩

/-- The world is the old one, some orders having been drawn. -/
def Quiet (w w' : World) : Prop := ∃ n, w' = w.drewN n

set_option maxHeartbeats 800000 in
theorem need_has (p : Nat) (A : Option Addr) (c : Nat) (l : List UInt8) (at_ : Nat) (big : Bool) (n : Int) (w : World) (h : Cur w p A c l at_ big true) (hn : n ≤ (l.length : Int) - at_) (hat : at_ ≤ l.length) :
    Calls Tryd.prog 47 #[.pointer (some ⟨p, 0, none⟩), .int .i64 n] w fun e w' => e = .returned (.tuple #[]) ∧ Quiet w w' := by
  have h0 := h.c0
  have h1 := h.c1
  have hl := h.rd.len
  go_enter Tryd.func47, Tryd.ntmps47
  go_wp2
  go_quiet (fail)
  go_wp2
  go_end0
  exact ⟨rfl, _, rfl⟩
set_option maxHeartbeats 800000 in
theorem need_short (p : Nat) (A : Option Addr) (c : Nat) (l : List UInt8) (at_ : Nat) (big : Bool) (n : Int) (w : World) (h : Cur w p A c l at_ big true) (hn : (l.length : Int) - at_ < n) (hat : at_ ≤ l.length) :
    Calls Tryd.prog 47 #[.pointer (some ⟨p, 0, none⟩), .int .i64 n] w fun e w' => e = .panicked (gave 3) ∧ Quiet w w' := by
  have h0 := h.c0
  have h1 := h.c1
  have hl := h.rd.len
  have H := Go.Lib.hid h
  go_enter Tryd.func47, Tryd.ntmps47
  go_wp2
  go_quiet (fail)
  go_wp2_with (go_at_call 44; refine (fail_live p 3 _ (H.out.drewN _).c3 rfl).mono ?_; rintro e w' ⟨rfl, rfl⟩)
  exact ⟨rfl, rfl, _, rfl⟩
end Go.Proofs.YtfmpbbeacpdalaaDoor
