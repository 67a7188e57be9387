/-
  The walk of the cursor's Bytes.
-/
import Derived.Test.YtfmpbbeacpdalaaDoorCurMore
set_option linter.unusedVariables false
set_option linter.unusedSimpArgs false
namespace Go.Proofs.YtfmpbbeacpdalaaDoor
open Go.RowKit


/-- The bytes that are told, or why there are none. -/
def bytesA (l : List UInt8) (at_ : Nat) (n : Int) : Except Nat (List UInt8) := if n < 1 then .ok [] else if (l.length : Int) - at_ < n then .error 3 else .ok ((l.drop at_).take n.toNat)
def AskedB (w : World) (p : Nat) (A : Option Addr) (c : Nat) (l : List UInt8) (at_ : Nat) (big : Bool) (to_ : Nat) (r : Except Nat (List UInt8)) (e : Ending) (w' : World) : Prop :=
  w.grownBy w' (some p) ∧
  match r with
  | .ok b => (∃ v, e = .returned v ∧ OwB w' w.heap.size v b) ∧ Cur w' p A c l to_ big true
  | .error k => e = .panicked (gave k) ∧ Cur w' p A c l at_ big true

theorem OwB.drew {w : World} {base : Nat} {v : Value} {l : List UInt8} (h : OwB w base v l) : OwB w.drew base v l := h
theorem Rd.window {w : World} {A : Option Addr} {c : Nat} {l : List UInt8} (h : Rd w A c l) (b o : Nat) (hA : A = some ⟨b, o, none⟩) (i n : Nat) (hi : i + n ≤ l.length) : Rd w (some ((⟨b, o, none⟩ : Addr).add i)) (c - i) ((l.drop i).take n) := by
  subst hA
  refine ⟨by have := h.le; simp; omega, by have := h.max; omega, (fun e => by cases e), ?_, ?_⟩
  · intro a ha _
    cases ha
    rw [add_plain]
  · intro j hj a ha
    cases ha
    rw [add_plain]
    simp at hj
    have := h.get (i + j) (by omega) ⟨b, o, none⟩ rfl
    simp only [Nat.add_assoc] at this ⊢
    rw [this]
    simp

theorem left_dead (q : Option Addr) (w : World) (h : Dead w q) :
    Calls Tryd.prog 43 #[.pointer q] w fun e w' => e = .returned (.int .i64 0) ∧ w = w' := by
  have H := Go.Lib.hid h
  clear h
  go_enter Tryd.func43, Tryd.ntmps43
  go_wp2_with (go_at_call 46; refine (dead_dead q _ H.out).mono ?_; rintro e w' ⟨rfl, rfl⟩)
  go_ret
  exact ⟨rfl, rfl⟩
end Go.Proofs.YtfmpbbeacpdalaaDoor
