/-
  The walk of crc.Check.
-/
import Derived.Test.YtfmpbbeacpdalaaDoorCrcSum
import Derived.Deep.RegionHeld3
set_option linter.unusedVariables false
set_option linter.unusedSimpArgs false
namespace Go.Proofs.YtfmpbbeacpdalaaDoor
open Go.RowKit


noncomputable def chk (l : List UInt8) : List UInt8 × Nat :=
  open Classical in if l.length < 4 then ([], 3) else if sealed (l.take (l.length - 4)) = l then (l.take (l.length - 4), 0) else ([], 8)
/-- Bytes of the call's own and an error's number are handed back. -/
def RetC (w : World) (r : List UInt8 × Nat) (e : Ending) (w' : World) : Prop := ∃ v, e = .returned (.tuple #[v, .int .i64 (r.2 : Int)]) ∧ OwB w' w.heap.size v r.1 ∧ Below w.heap.size w w'

set_option maxHeartbeats 800000 in
theorem check_short (A : Option Addr) (c : Nat) (l : List UInt8) (w : World) (hr : Rd w A c l) (hl : l.length < 4) :
    Calls Tryd.prog 28 #[.slice A l.length c] w (RetC w ([], 3)) := by
  go_enter Tryd.func28, Tryd.ntmps28
  go_wp2
  go_ret2
  exact ⟨_, rfl, World.ownsRow_nil .., Below.refl _ _⟩

set_option maxHeartbeats 800000 in
theorem check_long (A : Option Addr) (c : Nat) (l : List UInt8) (w : World) (hT : TabW w) (hr : Rd w A c l) (hl : 4 ≤ l.length) (hl2 : l.length ≤ 140737488355000) :
    Calls Tryd.prog 28 #[.slice A l.length c] w (RetC w (chk l)) := by
  have hle := hr.le
  have hmx := hr.max
  obtain ⟨m, hm⟩ : ∃ m, l.length = m + 4 := ⟨l.length - 4, by omega⟩
  have ht := hr.take m (by omega)
  have htl : (l.take m).length = m := by simp; omega
  have hseal : ∀ W : World, Below w.heap.size w W → Calls Tryd.prog 25 #[.slice A m c] W (RetIn w (sealed (l.take m))) := fun W hW => by
    have := seal_any A c (l.take m) W (hT.below hW) (ht.below hW) (by omega)
    rw [htl] at this
    exact this.mono fun e W' h => RetB.in_ hW h
  have hx : ∀ W : World, Below w.heap.size w W → (convert 24 9 (.slice A (m + 4) c)).run Tryd.prog W = .ok (.string (str l)) W := fun W hW => by
    have := run_str (hr.below hW)
    rw [hm] at this
    exact this
  have hml : m ≤ 140737488354996 := by omega
  have HM := Go.Lib.hid hm
  have HR := Go.Lib.hid hr
  have HT := Go.Lib.hid ht
  have HTL := Go.Lib.hid htl
  have HS := Go.Lib.hid hseal
  rw [hm] at hle ⊢
  clear hm hr ht htl hseal hT hl hl2
  go_enter Tryd.func28, Tryd.ntmps28
  go_wp2
  have hS : Below w.heap.size w w.drew := (Below.refl _ _).drew
  have h4 : l.length - 4 = m := by have := HM.out; omega
  have hnl : ¬ l.length < 4 := by have := HM.out; omega
  have H4 := Go.Lib.hid h4
  have HNL := Go.Lib.hid hnl
  clear h4 hnl
  go_region_with (first | (go_at_call 25; refine (HS.out _ ?_).mono ?_; assumption; rintro e w1 ⟨A1, c1, rfl, ho1, hr1, hb1⟩; have hx1 := run_str hr1))
  all_goals
    clear hx hx1
    by_cases hq : sealed (l.take m) = l
    · rw [str_ne_true hq]
      have HQ := Go.Lib.hid hq
      clear hq
      go_wp2_with (at_builtin; refine gate_app (.tmp 18) (.tmp 21) rfl ?_; go_must (refine app_b (w0 := w) rfl (.tmp 18) (.tmp 21) rfl w.heap.size _ [] (l.take m) A _ c rfl rfl HTL.out.symm ?o1 ?r1 ?b1 ?s1 ?l1 ?_); (case o1 => go_must (exact OwB.lit0 (w0 := w) hb1 (Nat.le_refl _) rfl)); (case r1 => go_must (exact (HT.out.below hb1).alloc _)); (case b1 => go_must (exact hb1.alloc hb1.size _)); (case s1 => go_must (have := hb1.size; simp; omega)); (case l1 => go_must (rw [HTL.out]; simp; omega)); intro v2 w2 ho2 hb2 hg2; clear hg2)
      go_ret2
      have hc : chk l = (l.take m, 0) := by
        unfold chk
        rw [if_neg HNL.out, H4.out, if_pos HQ.out]
      rw [hc]
      exact ⟨_, rfl, ho2, hb2⟩
    · rw [str_ne_false hq]
      have HQ := Go.Lib.hid hq
      clear hq
      go_wp2
      go_ret2
      have hc : chk l = ([], 8) := by
        unfold chk
        rw [if_neg HNL.out, H4.out, if_neg HQ.out]
      rw [hc]
      exact ⟨_, rfl, World.ownsRow_nil .., hb1⟩

end Go.Proofs.YtfmpbbeacpdalaaDoor
