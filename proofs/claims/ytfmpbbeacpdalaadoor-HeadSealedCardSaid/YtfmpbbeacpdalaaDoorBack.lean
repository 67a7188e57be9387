/-
  The walk of the reference's Back (a list the other way round).
-/
import Derived.Test.YtfmpbbeacpdalaaDoorW
set_option linter.unusedVariables false
set_option linter.unusedSimpArgs false
namespace Go.Proofs.YtfmpbbeacpdalaaDoor
open Go.RowKit


theorem back_snoc (l : List UInt8) (k : Nat) (h : k < l.length) : l.reverse.take (k + 1) = l.reverse.take k ++ [l[l.length - 1 - k]'(by omega)] := by
  rw [take_snoc _ _ (by simpa using h)]
  congr 2
  rw [List.getElem_reverse]

set_option maxHeartbeats 800000 in
theorem back_any (A : Option Addr) (c : Nat) (l : List UInt8) (w : World) (hr : Rd w A c l) (hl : l.length ≤ 140737488355000) :
    Calls Tryd.prog 41 #[.slice A l.length c] w (RetB w l.reverse) := by
  have HR := Go.Lib.hid hr
  clear hr
  go_enter Tryd.func41, Tryd.ntmps41
  go_wp2
  go_loopw [3, 4] (fun v i W => ∃ k : Nat, k ≤ l.length ∧ i = .int .i64 k ∧ Hid (OwB W w.heap.size v (l.reverse.take k)) ∧ Hid (Below w.heap.size w W)) (fun _ i _ => l.length - (intOf i).toNat)
  case atStart => exact ⟨0, Nat.zero_le _, rfl, World.ownsRow_nil .., Below.refl _ _⟩
  case round =>
    obtain ⟨k, hk, rfl, ho, hb⟩ := hrel
    by_cases hlt : k < l.length
    · obtain ⟨b, o, e, hc⟩ := (HR.out.below hb.out).at_ (show l.length - 1 - k < l.length by omega)
      cases e
      have hle : (l.reverse.take k).length = k := by simp; omega
      have HL := Go.Lib.hid hle
      have HS := Go.Lib.hid (back_snoc l k hlt)
      obtain ⟨x, hx⟩ : ∃ x : UInt8, x = l[l.length - 1 - k] := ⟨_, rfl⟩
      rw [← hx] at hc HS
      clear hx hle
      go_wp2_with (at_builtin; go_must (refine app_lit (w0 := w) (w := wr) rfl (.tmp 11) (.tmp 20) rfl w.heap.size _ (l.reverse.take k) [x] _ 1 rfl rfl rfl rfl ho.out hb.out hb.out.size ?l1 ?_); (case l1 => rw [HL.out]; simp; omega); intro v1 w1 ho1 hb1; clear ho hb)
      refine ⟨⟨k + 1, by omega, by go_num, ?_, hb1⟩, by simp [intOf]; omega⟩
      rw [HS.out]
      exact ho1
    · have hkk : k = l.length := by omega
      go_wp2
      go_ret
      refine ⟨_, rfl, ?_, hb.out⟩
      have := ho.out
      rw [hkk, show l.reverse.take l.length = l.reverse by rw [← List.length_reverse, List.take_length]] at this
      exact this

end Go.Proofs.YtfmpbbeacpdalaaDoor
