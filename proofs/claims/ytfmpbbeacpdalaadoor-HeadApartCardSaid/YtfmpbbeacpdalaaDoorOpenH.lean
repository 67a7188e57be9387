/-
  Arguments opened: a head.
-/
import Derived.Test.YtfmpbbeacpdalaaDoorCPure
import Derived.Test.YtfmpbbeacpdalaaDoorOpen
import Derived.Lib.SmallJoins
set_option linter.unusedVariables false
set_option linter.unusedSimpArgs false
namespace Go.Proofs.YtfmpbbeacpdalaaDoor
open Go.ChangeShapes Go.WideShapes Go.ChangeAt Go.RowKit Go.Joins Go.Deep

theorem head_open {H : Type} {enc_ : TypeId × Value → H} {W : World} {b0 base : Nat} {r : Reach} {spare : Nat → Bool} {held : Bool} {v : Value} {d : DataW H} {ps : List MemPlace}
    (hv : Value.okWide Tryd.prog W r b0 23 v) (h : DataW.Trod enc_ Tryd.prog W base spare held 23 v d ps) :
    ∃ (b : Bool) (g f l : Int), v = .agg #[.bool b, .int .i64 g, .int .i64 f, .int .i64 l] ∧ (-9223372036854775808 ≤ g ∧ g ≤ 9223372036854775807) ∧ (-9223372036854775808 ≤ f ∧ f ≤ 9223372036854775807) ∧ (-9223372036854775808 ≤ l ∧ l ≤ 9223372036854775807) := by
  obtain ⟨v0, v1, v2, v3, y0, y1, y2, y3, n, rfl, _, _, h0, h1, h2, h3⟩ := open_agg4 Tryd.underlying23 (by kernel_rfl) (by kernel_rfl) hv h
  obtain ⟨b, hb, _⟩ := DataW.trod_bool Tryd.underlying4 h0
  obtain ⟨x, hx, _, wx⟩ := DataW.trod_int Tryd.underlying3 h1
  obtain ⟨y, hy, _, wy⟩ := DataW.trod_int Tryd.underlying3 h2
  obtain ⟨z, hz, _, wz⟩ := DataW.trod_int Tryd.underlying3 h3
  cases hb
  cases hx
  cases hy
  cases hz
  exact ⟨b, x, y, z, rfl, bounds_i64 wx, bounds_i64 wy, bounds_i64 wz⟩
end Go.Proofs.YtfmpbbeacpdalaaDoor
