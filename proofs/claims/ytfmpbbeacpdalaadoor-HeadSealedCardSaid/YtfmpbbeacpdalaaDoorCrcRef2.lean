/-
  The walks of the reference's Seal and Check.
-/
import Derived.Test.YtfmpbbeacpdalaaDoorTold
import Derived.Test.YtfmpbbeacpdalaaDoorCrcRef
set_option linter.unusedVariables false
set_option linter.unusedSimpArgs false
namespace Go.Proofs.YtfmpbbeacpdalaaDoor
open Go.RowKit


theorem le4_told (n : Nat) : told (n : Int) 4 false = le4 n := by
  simp [told, leN, le4, Nat.div_div_eq_div_mul]

set_option maxHeartbeats 800000 in
theorem refseal_any (A : Option Addr) (c : Nat) (l : List UInt8) (w : World) (hr : Rd w A c l) (hl : l.length ≤ 140737488355000) :
    Calls Tryd.prog 18 #[.slice A l.length c] w (RetB w (sealed l)) := by
  have HR := Go.Lib.hid hr
  clear hr
  obtain ⟨s, hss⟩ : ∃ s, s = Crc.sum l := ⟨_, rfl⟩
  have hs : s ≤ 4294967295 := by have := Crc.sum_lt l; omega
  have hsum : ∀ W, Below w.heap.size w W → Calls Tryd.prog 35 #[.slice A l.length c] W fun e w' => e = .returned (.int .u32 (s : Int)) ∧ W = w' := fun W hW => by
    rw [hss]
    exact (refsum_any A c l W (HR.out.below hW)).mono fun e w' h => ⟨h.1, h.2.symm⟩
  have HS := Go.Lib.hid hss
  have HM := Go.Lib.hid hsum
  clear hss hsum
  go_enter Tryd.func18, Tryd.ntmps18
  go_wp2_with (first
    | (at_builtin; refine gate_app (.tmp 3) (.tmp 4) rfl ?_; go_must (refine app_b (w0 := w) rfl (.tmp 3) (.tmp 4) rfl w.heap.size _ [] l A _ c rfl rfl rfl ?o1 ?r1 ?b1 ?s1 ?l1 ?_); (case o1 => go_must (exact OwB.lit0 (w0 := w) (Below.refl _ _) (Nat.le_refl _) rfl)); (case r1 => go_must (exact HR.out.alloc _)); (case b1 => go_must (exact (Below.refl _ _).alloc (Nat.le_refl _) _)); (case s1 => go_must (simp)); (case l1 => go_must (simp; omega)); intro v1 w1 ho1 hb1 hg1; clear hg1; have HO1 := Go.Lib.hid ho1; have HB1 := Go.Lib.hid hb1; clear ho1 hb1)
    | (go_at_call 35; refine (HM.out _ HB1.out).mono ?_; rintro e w' ⟨rfl, rfl⟩)
    | (go_at_call 27; refine (told_any (s : Int) 4 false _ (by omega) (by omega) (by omega)).mono ?_; rintro e w2 ⟨v2, rfl, ho2, hb2⟩; obtain ⟨A2, c2, rfl, hr2⟩ := ho2.rd; have HR2 := Go.Lib.hid hr2; have HB2 := Go.Lib.hid hb2; clear hr2 hb2 ho2)
    | (at_builtin; refine gate_app (.tmp 5) (.tmp 9) rfl ?_; go_must (refine app_b (w0 := w) rfl (.tmp 5) (.tmp 9) rfl w.heap.size _ ([] ++ l) _ A2 _ c2 rfl rfl rfl (HO1.out.below HB2.out) HR2.out (Below.step HB1.out HB2.out) (Below.step HB1.out HB2.out).size ?l2 ?_); (case l2 => go_must (rw [told_length]; simp; omega)); intro v3 w3 ho3 hb3 hg3; clear hg3))
  go_ret
  refine ⟨_, rfl, ?_, hb3⟩
  have h4 := ho3
  rw [le4_told, HS.out] at h4
  exact h4

set_option maxHeartbeats 800000 in
theorem refcheck_any (A : Option Addr) (c : Nat) (l : List UInt8) (w : World) (hr : Rd w A c l) (hl2 : l.length ≤ 140737488355000) :
    Calls Tryd.prog 33 #[.slice A l.length c] w (RetT w (chk l)) := by
  by_cases hl : l.length < 4
  · have hc : chk l = ([], 3) := by unfold chk; rw [if_pos hl]
    rw [hc]
    clear hc
    have HR := Go.Lib.hid hr
    clear hr
    go_enter Tryd.func33, Tryd.ntmps33
    go_wp2
    go_ret2
    exact ⟨_, _, rfl, Rd.nilAt _, Below.refl _ _⟩
  · have hle := hr.le
    have hmx := hr.max
    obtain ⟨m, hm⟩ : ∃ m, l.length = m + 4 := ⟨l.length - 4, by omega⟩
    have ht := hr.take m (by omega)
    have htl : (l.take m).length = m := by simp; omega
    have hseal : ∀ W : World, Below w.heap.size w W → Calls Tryd.prog 18 #[.slice A m c] W (RetIn w (sealed (l.take m))) := fun W hW => by
      have := refseal_any A c (l.take m) W (ht.below hW) (by omega)
      rw [htl] at this
      exact this.mono fun e W' h => RetB.in_ hW h
    have hx : ∀ W : World, Below w.heap.size w W → (convert 24 9 (.slice A (m + 4) c)).run Tryd.prog W = .ok (.string (str l)) W := fun W hW => by
      have := run_str (hr.below hW)
      rw [hm] at this
      exact this
    have hml : m ≤ 140737488354996 := by omega
    have HM := Go.Lib.hid hm
    have HR := Go.Lib.hid hr
    have HT := Go.Lib.hid ht
    have HTL := Go.Lib.hid htl
    have HS := Go.Lib.hid hseal
    rw [hm] at hle ⊢
    clear hm hr ht htl hseal hl hl2
    go_enter Tryd.func33, Tryd.ntmps33
    go_wp2
    have hS : Below w.heap.size w w.drew := (Below.refl _ _).drew
    have h4 : l.length - 4 = m := by have := HM.out; omega
    have hnl : ¬ l.length < 4 := by have := HM.out; omega
    have H4 := Go.Lib.hid h4
    have HNL := Go.Lib.hid hnl
    clear h4 hnl
    go_region_with (first | (go_at_call 18; refine (HS.out _ ?_).mono ?_; assumption; rintro e w1 ⟨A1, c1, rfl, ho1, hr1, hb1⟩; have hx1 := run_str hr1))
    all_goals
      clear hx hx1
      by_cases hq : sealed (l.take m) = l
      · rw [str_ne_true hq]
        have HQ := Go.Lib.hid hq
        clear hq
        go_wp2
        go_ret2
        have hc : chk l = (l.take m, 0) := by
          unfold chk
          rw [if_neg HNL.out, H4.out, if_pos HQ.out]
        rw [hc]
        exact ⟨_, _, by rw [HTL.out]; rfl, HT.out.below hb1, hb1⟩
      · rw [str_ne_false hq]
        have HQ := Go.Lib.hid hq
        clear hq
        go_wp2
        go_ret2
        have hc : chk l = ([], 8) := by
          unfold chk
          rw [if_neg HNL.out, H4.out, if_neg HQ.out]
        rw [hc]
        exact ⟨_, _, rfl, Rd.nilAt _, hb1⟩

end Go.Proofs.YtfmpbbeacpdalaaDoor
