/-
  The walks of the cursor's other methods.
-/
import Derived.Test.YtfmpbbeacpdalaaDoorNumber
import Derived.Deep.RegionHeld3
set_option linter.unusedVariables false
set_option linter.unusedSimpArgs false
namespace Go.Proofs.YtfmpbbeacpdalaaDoor
open Go.RowKit

section
variable (p : Nat) (A : Option Addr) (c : Nat) (l : List UInt8) (at_ : Nat) (big : Bool) (w : World)


theorem left_any (h : Cur w p A c l at_ big true) (hat : at_ ≤ l.length) : Calls Tryd.prog 43 #[.pointer (some ⟨p, 0, none⟩)] w fun e w' => e = .returned (.int .i64 ((l.length : Int) - at_)) ∧ Quiet w w' := by
  have H := Go.Lib.hid h
  have h0 := h.c0
  have h1 := h.c1
  have hl := h.rd.len
  clear h
  go_enter Tryd.func43, Tryd.ntmps43
  go_wp2_with (go_at_call 46; refine (dead_any p true _ H.out.c3).mono ?_; rintro e w' ⟨rfl, rfl⟩)
  go_quiet (fail)
  go_wp2
  go_ret
  exact ⟨rfl, _, rfl⟩

theorem Quiet.grown {w w' : World} {row : Option Nat} (h : Quiet w w') : w.grownBy w' row := by obtain ⟨n, rfl⟩ := h; exact grown_drewN _ _ _
theorem Quiet.cur {w w' : World} {p : Nat} {A : Option Addr} {c : Nat} {l : List UInt8} {at_ : Nat} {big live : Bool} (h : Cur w p A c l at_ big live) (hq : Quiet w w') : Cur w' p A c l at_ big live := by obtain ⟨n, rfl⟩ := hq; exact h.drewN n

/-- Nothing is told. -/
def endA (l : List UInt8) (at_ : Nat) : Except Nat Value := if at_ < l.length then .error 5 else .ok (.tuple #[])
def skipA (l : List UInt8) (at_ : Nat) (n : Int) : Except Nat Value := if n < 1 then .ok (.tuple #[]) else if (l.length : Int) - at_ < n then .error 3 else .ok (.tuple #[])
def seekA (l : List UInt8) (a : Int) : Except Nat Value := if a < 0 ∨ (l.length : Int) < a then .error 2 else .ok (.tuple #[])
end
end Go.Proofs.YtfmpbbeacpdalaaDoor
