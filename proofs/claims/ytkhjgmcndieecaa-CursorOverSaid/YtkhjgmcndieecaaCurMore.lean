/-
  The walks of the cursor's other methods.
-/
import Derived.Test.YtkhjgmcndieecaaNumber
import Derived.Deep.RegionHeld3
set_option linter.unusedVariables false
set_option linter.unusedSimpArgs false
namespace Go.Proofs.Ytkhjgmcndieecaa
open Go.RowKit

section
variable (p : Nat) (A : Option Addr) (c : Nat) (l : List UInt8) (at_ : Nat) (big : Bool) (w : World)

theorem at_any (h : Cur w p A c l at_ big true) : Calls Try.prog 23 #[.pointer (some ⟨p, 0, none⟩)] w fun e w' => e = .returned (.int .i64 (at_ : Int)) ∧ w = w' := by
  have H := Go.Lib.hid h
  have h1 := h.c1
  clear h
  go_enter Try.func23, Try.ntmps23
  go_wp2_with (go_at_call 40; refine (dead_any p true _ H.out.c3).mono ?_; rintro e w' ⟨rfl, rfl⟩)
  go_ret
  exact ⟨rfl, rfl⟩

theorem left_any (h : Cur w p A c l at_ big true) (hat : at_ ≤ l.length) : Calls Try.prog 24 #[.pointer (some ⟨p, 0, none⟩)] w fun e w' => e = .returned (.int .i64 ((l.length : Int) - at_)) ∧ Quiet w w' := by
  have H := Go.Lib.hid h
  have h0 := h.c0
  have h1 := h.c1
  have hl := h.rd.len
  clear h
  go_enter Try.func24, Try.ntmps24
  go_wp2_with (go_at_call 40; refine (dead_any p true _ H.out.c3).mono ?_; rintro e w' ⟨rfl, rfl⟩)
  go_quiet (fail)
  go_wp2
  go_ret
  exact ⟨rfl, _, rfl⟩

theorem Quiet.grown {w w' : World} {row : Option Nat} (h : Quiet w w') : w.grownBy w' row := by obtain ⟨n, rfl⟩ := h; exact grown_drewN _ _ _
theorem Quiet.cur {w w' : World} {p : Nat} {A : Option Addr} {c : Nat} {l : List UInt8} {at_ : Nat} {big live : Bool} (h : Cur w p A c l at_ big live) (hq : Quiet w w') : Cur w' p A c l at_ big live := by obtain ⟨n, rfl⟩ := hq; exact h.drewN n

/-- Nothing is told. -/
def endA (l : List UInt8) (at_ : Nat) : Except Nat Value := if at_ < l.length then .error 5 else .ok (.tuple #[])
set_option maxHeartbeats 800000 in
theorem end_any (h : Cur w p A c l at_ big true) (hat : at_ ≤ l.length) : Calls Try.prog 18 #[.pointer (some ⟨p, 0, none⟩)] w (Asked w p A c l at_ big at_ (endA l at_)) := by
  have H := Go.Lib.hid h
  clear h
  by_cases hl : at_ < l.length
  · have e : Hid (endA l at_ = .error 5) := by unfold endA; rw [if_pos hl]; rfl
    have hp : (0 : Int) < (l.length : Int) - at_ := by omega
    go_enter Try.func18, Try.ntmps18
    go_wp2_with (first
      | (go_at_call 24; refine (left_any p A c l at_ big _ H.out hat).mono ?_; rintro e1 w' ⟨rfl, hq⟩; have HQ := Go.Lib.hid hq; clear hq)
      | (go_at_call 30; refine (fail_live p 5 _ (HQ.out.cur H.out).c3 rfl).mono ?_; rintro e1 w'' ⟨rfl, rfl⟩))
    refine ⟨rfl, ?_⟩
    rw [e.out]
    exact Quiet.asked H.out HQ.out
  · have e : Hid (endA l at_ = .ok (.tuple #[])) := by unfold endA; rw [if_neg hl]; rfl
    have hp : ¬ (0 : Int) < (l.length : Int) - at_ := by omega
    go_enter Try.func18, Try.ntmps18
    go_wp2_with (go_at_call 24; refine (left_any p A c l at_ big _ H.out hat).mono ?_; rintro e1 w' ⟨rfl, hq⟩; have HQ := Go.Lib.hid hq; clear hq)
    go_end0
    rw [e.out]
    exact ⟨HQ.out.grown, rfl, HQ.out.cur H.out⟩

def skipA (l : List UInt8) (at_ : Nat) (n : Int) : Except Nat Value := if n < 1 then .ok (.tuple #[]) else if (l.length : Int) - at_ < n then .error 3 else .ok (.tuple #[])
set_option maxHeartbeats 800000 in
theorem skip_any (n : Int) (h : Cur w p A c l at_ big true) (hat : at_ ≤ l.length) : Calls Try.prog 22 #[.pointer (some ⟨p, 0, none⟩), .int .i64 n] w (Asked w p A c l at_ big (at_ + n.toNat) (skipA l at_ n)) := by
  have H := Go.Lib.hid h
  have hl := h.rd.len
  clear h
  by_cases hn : n < 1
  · have e : Hid (skipA l at_ n = .ok (.tuple #[])) := by unfold skipA; rw [if_pos hn]; rfl
    have e0 : n.toNat = 0 := by omega
    rw [e0, Nat.add_zero]
    clear e0
    go_enter Try.func22, Try.ntmps22
    go_wp2_with (go_at_call 40; refine (dead_any p true _ H.out.c3).mono ?_; rintro e w' ⟨rfl, rfl⟩)
    first | go_end0 | refine bodyPost_ret (results_none rfl _ _ _) rfl ?_
    rw [e.out]
    exact ⟨World.grownBy.refl _ _, rfl, H.out⟩
  · by_cases hs : (l.length : Int) - at_ < n
    · have e : Hid (skipA l at_ n = .error 3) := by unfold skipA; rw [if_neg hn, if_pos hs]; rfl
      have HS := Go.Lib.hid hs
      clear hs
      go_enter Try.func22, Try.ntmps22
      go_wp2_with (first
        | (go_at_call 40; refine (dead_any p true _ H.out.c3).mono ?_; rintro e w' ⟨rfl, rfl⟩)
        | (go_at_call 41; refine (need_short p A c l at_ big n _ H.out HS.out hat).mono ?_; rintro e w' ⟨rfl, hq⟩))
      refine ⟨rfl, ?_⟩
      rw [e.out]
      exact Quiet.asked H.out hq
    · have e : Hid (skipA l at_ n = .ok (.tuple #[])) := by unfold skipA; rw [if_neg hn, if_neg hs]; rfl
      obtain ⟨m, rfl⟩ : ∃ m : Nat, n = (m : Int) := ⟨n.toNat, by omega⟩
      have hs' : at_ + m ≤ l.length := by omega
      rw [Int.toNat_natCast]
      clear hs
      go_enter Try.func22, Try.ntmps22
      go_wp2_with (first
        | (go_at_call 40; refine (dead_any p true _ H.out.c3).mono ?_; rintro e w' ⟨rfl, rfl⟩)
        | (go_at_call 41; refine (need_has p A c l at_ big (m : Int) _ H.out (by omega) hat).mono ?_; rintro e w1 ⟨rfl, hq⟩; have HC := Go.Lib.hid (hq.cur H.out); have HQ := Go.Lib.hid hq; clear hq; have h1 := HC.out.c1; have hf := HC.out.fz 1))
      go_end0
      rw [e.out]
      have hm := HC.out.move (at_ + m)
      exact ⟨grown_trans HQ.out.grown hm.2, rfl, hm.1⟩

def seekA (l : List UInt8) (a : Int) : Except Nat Value := if a < 0 ∨ (l.length : Int) < a then .error 2 else .ok (.tuple #[])
set_option maxHeartbeats 800000 in
theorem seek_any (a : Int) (h : Cur w p A c l at_ big true) : Calls Try.prog 31 #[.pointer (some ⟨p, 0, none⟩), .int .i64 a] w (Asked w p A c l at_ big a.toNat (seekA l a)) := by
  have H := Go.Lib.hid h
  have h0 := h.c0
  have hl := h.rd.len
  clear h
  by_cases hn : a < 0 ∨ (l.length : Int) < a
  · have e : Hid (seekA l a = .error 2) := by unfold seekA; rw [if_pos hn]; rfl
    rcases hn with hn | hn
    all_goals
      go_enter Try.func31, Try.ntmps31
      go_wp2_with (first
        | (go_at_call 40; refine (dead_any p true _ H.out.c3).mono ?_; rintro e w' ⟨rfl, rfl⟩)
        | (go_at_call 30; refine (fail_live p 2 _ H.out.c3 rfl).mono ?_; rintro e w' ⟨rfl, rfl⟩))
    all_goals
      refine ⟨rfl, ?_⟩
      rw [e.out]
      exact Quiet.asked H.out ⟨0, rfl⟩
  · have e : Hid (seekA l a = .ok (.tuple #[])) := by unfold seekA; rw [if_neg hn]; rfl
    have hn1 : 0 ≤ a := by omega
    have hn2 : a ≤ (l.length : Int) := by omega
    clear hn
    obtain ⟨m, rfl⟩ : ∃ m : Nat, a = (m : Int) := ⟨a.toNat, by omega⟩
    rw [Int.toNat_natCast]
    have h1 := H.out.c1
    have hf := H.out.fz 1
    go_enter Try.func31, Try.ntmps31
    go_wp2_with (go_at_call 40; refine (dead_any p true _ H.out.c3).mono ?_; rintro e w' ⟨rfl, rfl⟩)
    go_end0
    rw [e.out]
    have hm := H.out.move m
    exact ⟨hm.2, rfl, hm.1⟩
end
end Go.Proofs.Ytkhjgmcndieecaa
