/-
  More of the cursor's contracts for the walk by steps.
-/
import Derived.Test.YtfmpbbeacpdalaaDoorCPure
set_option linter.unusedVariables false
set_option linter.unusedSimpArgs false
namespace Go.Proofs.YtfmpbbeacpdalaaDoor
open Go.RowKit


theorem fails_e {w : World} {p : Nat} (x : Int) (hx : x ≠ 0) (h3 : w.cell? ⟨p, 3, none⟩ = some (.bool true)) : Calls Tryd.prog 44 [.pointer (some ⟨p, 0, none⟩), .int .i64 x].toArray w
    (Out (fun _ _ => False) (fun ch w' => ch = gave x ∧ w = w')) := by
  refine (fail_live p x w h3 (by simpa using hx)).mono ?_
  rintro e w' ⟨rfl, rfl⟩
  exact ⟨rfl, rfl⟩
theorem left_e {w : World} {p : Nat} {A : Option Addr} {c : Nat} {l : List UInt8} {at_ : Nat} {big : Bool} (h : Cur w p A c l at_ big true) (hat : at_ ≤ l.length) : Calls Tryd.prog 43 [.pointer (some ⟨p, 0, none⟩)].toArray w
    (Ret fun v w' => v = .int .i64 ((l.length : Int) - (at_ : Int)) ∧ Cur w' p A c l at_ big true ∧ Chg (fun _ => False) w w') := by
  refine (left_any p A c l at_ big w h hat).mono ?_
  rintro e w' ⟨rfl, hq⟩
  refine ⟨rfl, hq.cur h, ?_⟩
  have := Chg.of_row (row := none) hq.grown
  exact this.mono fun k _ e => by cases e
end Go.Proofs.YtfmpbbeacpdalaaDoor
