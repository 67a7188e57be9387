/-
  The walk of the cursor's Bytes.
-/
import Derived.Test.YtkhjgmcndieecaaCurMore
set_option linter.unusedVariables false
set_option linter.unusedSimpArgs false
namespace Go.Proofs.Ytkhjgmcndieecaa
open Go.RowKit

/-- The bytes that are told, or why there are none. -/
def bytesA (l : List UInt8) (at_ : Nat) (n : Int) : Except Nat (List UInt8) := if n < 1 then .ok [] else if (l.length : Int) - at_ < n then .error 3 else .ok ((l.drop at_).take n.toNat)
def AskedB (w : World) (p : Nat) (A : Option Addr) (c : Nat) (l : List UInt8) (at_ : Nat) (big : Bool) (to_ : Nat) (r : Except Nat (List UInt8)) (e : Ending) (w' : World) : Prop :=
  w.grownBy w' (some p) ∧
  match r with
  | .ok b => (∃ v, e = .returned v ∧ OwB w' w.heap.size v b) ∧ Cur w' p A c l to_ big true
  | .error k => e = .panicked (gave k) ∧ Cur w' p A c l at_ big true

theorem OwB.drew {w : World} {base : Nat} {v : Value} {l : List UInt8} (h : OwB w base v l) : OwB w.drew base v l := h
theorem Rd.window {w : World} {A : Option Addr} {c : Nat} {l : List UInt8} (h : Rd w A c l) (b o : Nat) (hA : A = some ⟨b, o, none⟩) (i n : Nat) (hi : i + n ≤ l.length) : Rd w (some ((⟨b, o, none⟩ : Addr).add i)) (c - i) ((l.drop i).take n) := by
  subst hA
  refine ⟨by have := h.le; simp; omega, by have := h.max; omega, (fun e => by cases e), ?_, ?_⟩
  · intro a ha _
    cases ha
    rw [add_plain]
  · intro j hj a ha
    cases ha
    rw [add_plain]
    simp at hj
    have := h.get (i + j) (by omega) ⟨b, o, none⟩ rfl
    simp only [Nat.add_assoc] at this ⊢
    rw [this]
    simp

set_option maxHeartbeats 1600000 in
theorem bytes_in (p b o c : Nat) (l : List UInt8) (at_ : Nat) (big : Bool) (n : Nat) (w : World) (h : Cur w p (some ⟨b, o, none⟩) c l at_ big true) (hs : at_ + n ≤ l.length) (hn : 1 ≤ n) (hl47 : l.length ≤ 140737488355000) :
    Calls Try.prog 26 #[.pointer (some ⟨p, 0, none⟩), .int .i64 (n : Int)] w (AskedB w p (some ⟨b, o, none⟩) c l at_ big (at_ + n) (.ok ((l.drop at_).take n))) := by
  have H := Go.Lib.hid h
  have hl := h.rd.len
  have hle := h.rd.le
  clear h
  go_enter Try.func26, Try.ntmps26
  go_wp2_with (first
    | (go_at_call 40; refine (dead_any p true _ H.out.c3).mono ?_; rintro e w' ⟨rfl, rfl⟩)
    | (go_at_call 41; refine (need_has p (some ⟨b, o, none⟩) c l at_ big (n : Int) _ H.out (by omega) (by omega)).mono ?_; rintro e w1 ⟨rfl, hq⟩; have HC := Go.Lib.hid (hq.cur H.out); have HQ := Go.Lib.hid (hq.grown (row := some p)); clear hq; have h0 := HC.out.c0; have h1 := HC.out.c1))
  have hx1 : IntKind.i64.wrap ((at_ : Int) + (n : Int)) = (at_ : Int) + (n : Int) := IntWalk.i64_in _ (by omega)
  have hx2 : (0 : Int) ≤ (at_ : Int) + (n : Int) := by omega
  have hx3 : ((at_ : Int) + (n : Int)).toNat = at_ + n := by omega
  have hx4 : (at_ : Int) + (n : Int) ≤ (c : Int) := by omega
  have hx5 : (at_ : Int) ≤ (at_ : Int) + (n : Int) := by omega
  have hca : ¬ c = at_ := by omega
  have k0 := World.new_ne w1 _ h0
  have k1 := World.new_ne w1 _ h1
  have HW := Go.Lib.hid (by have := HC.out.rd.window b o rfl at_ n hs; rw [add_plain] at this; exact this : Rd w1 (some ⟨b, o + at_, none⟩) (c - at_) ((l.drop at_).take n))
  go_region_held3 (fun w' => w'.cell? ⟨p, 0, none⟩ = some (.slice (some ⟨b, o, none⟩) l.length c) ∧ w'.cell? ⟨p, 1, none⟩ = some (.int .i64 (at_ : Int))) (first | go_keep | (exact ⟨(hb2.cell (HC.out.lt)).trans h0, (hb2.cell (HC.out.lt)).trans h1⟩))
    ((go_must (refine step_app_b (w0 := w1) (by rfl) (.tmp 15) (.tmp 30) (by rfl) w1.heap.size _ [] ((l.drop at_).take n) (some ⟨b, o + at_, none⟩) n (c - at_) (by rfl) (by rfl) (by simp; omega) ?o1 ?r1 ?b1 ?s1 ?l1 ?_); (case o1 => go_must (exact (OwB.lit0 (w0 := w1) (Below.refl _ _) (Nat.le_refl _) rfl).drew)); (case r1 => go_must (exact (HW.out.alloc _).drew)); (case b1 => go_must (exact ((Below.refl _ _).alloc (Nat.le_refl _) _).drew)); (case s1 => simp); (case l1 => simp; omega); intro v2 w2 ho2 hb2 hg2; clear hg2))
  have h1' := ((HC.out.below hb2)).c1
  have hf' := ((HC.out.below hb2)).fz 1
  clear hx1 hx2 hx3 hx4 hx5
  go_wp2
  go_ret
  have hm := ((HC.out.below hb2)).move (at_ + n)
  have ho3 : OwB (w2.setCell ⟨p, 1, none⟩ (.int .i64 ((at_ + n : Nat) : Int))) w1.heap.size v2 ([] ++ (l.drop at_).take n) := ownsRow_setCell_below ho2 HC.out.lt _
  exact ⟨grown_trans HQ.out (grown_trans (grown_of_below hb2) hm.2), ⟨_, rfl, ho3.mono HQ.out.size⟩, hm.1⟩

set_option maxHeartbeats 800000 in
theorem bytes_any (p : Nat) (A : Option Addr) (c : Nat) (l : List UInt8) (at_ : Nat) (big : Bool) (n : Int) (w : World) (h : Cur w p A c l at_ big true) (hat : at_ ≤ l.length) (hl47 : l.length ≤ 140737488355000) :
    Calls Try.prog 26 #[.pointer (some ⟨p, 0, none⟩), .int .i64 n] w (AskedB w p A c l at_ big (at_ + n.toNat) (bytesA l at_ n)) := by
  by_cases hn : n < 1
  · have e : bytesA l at_ n = .ok [] := by unfold bytesA; rw [if_pos hn]
    have e0 : n.toNat = 0 := by omega
    rw [e, e0, Nat.add_zero]
    have H := Go.Lib.hid h
    clear h e e0
    go_enter Try.func26, Try.ntmps26
    go_wp2_with (go_at_call 40; refine (dead_any p true _ H.out.c3).mono ?_; rintro e w' ⟨rfl, rfl⟩)
    go_ret
    exact ⟨World.grownBy.refl _ _, ⟨_, rfl, World.ownsRow_nil ..⟩, H.out⟩
  · by_cases hs : (l.length : Int) - at_ < n
    · have e : bytesA l at_ n = .error 3 := by unfold bytesA; rw [if_neg hn, if_pos hs]
      rw [e]
      have H := Go.Lib.hid h
      have HS := Go.Lib.hid hs
      clear h e hs
      go_enter Try.func26, Try.ntmps26
      go_wp2_with (first
        | (go_at_call 40; refine (dead_any p true _ H.out.c3).mono ?_; rintro e w' ⟨rfl, rfl⟩)
        | (go_at_call 41; refine (need_short p A c l at_ big n _ H.out HS.out hat).mono ?_; rintro e w' ⟨rfl, hq⟩))
      refine ⟨rfl, ?_⟩
      obtain ⟨m, rfl⟩ := hq
      exact ⟨grown_drewN _ _ _, rfl, H.out.drewN m⟩
    · have e : bytesA l at_ n = .ok ((l.drop at_).take n.toNat) := by unfold bytesA; rw [if_neg hn, if_neg hs]
      rw [e]
      obtain ⟨m, rfl⟩ : ∃ m : Nat, n = (m : Int) := ⟨n.toNat, by omega⟩
      rw [Int.toNat_natCast]
      obtain ⟨b, o, rfl, _⟩ := h.rd.at_ (show at_ < l.length by omega)
      exact bytes_in p b o c l at_ big m w h (by omega) (by omega) hl47

/-- What a dead cursor does. -/
theorem bytes_dead (q : Option Addr) (n : Int) (w : World) (h : Dead w q) :
    Calls Try.prog 26 #[.pointer q, .int .i64 n] w fun e w' => e = .returned (.slice none 0 0) ∧ w = w' := by
  have H := Go.Lib.hid h
  clear h
  go_enter Try.func26, Try.ntmps26
  go_wp2_with (go_at_call 40; refine (dead_dead q _ H.out).mono ?_; rintro e w' ⟨rfl, rfl⟩)
  go_ret
  exact ⟨rfl, rfl⟩
theorem skip_dead (q : Option Addr) (n : Int) (w : World) (h : Dead w q) :
    Calls Try.prog 22 #[.pointer q, .int .i64 n] w fun e w' => e = .returned (.tuple #[]) ∧ w = w' := by
  have H := Go.Lib.hid h
  clear h
  go_enter Try.func22, Try.ntmps22
  go_wp2_with (go_at_call 40; refine (dead_dead q _ H.out).mono ?_; rintro e w' ⟨rfl, rfl⟩)
  first | go_end0 | refine bodyPost_ret (results_none rfl _ _ _) rfl ?_
  exact ⟨rfl, rfl⟩
theorem seek_dead (q : Option Addr) (n : Int) (w : World) (h : Dead w q) :
    Calls Try.prog 31 #[.pointer q, .int .i64 n] w fun e w' => e = .returned (.tuple #[]) ∧ w = w' := by
  have H := Go.Lib.hid h
  clear h
  go_enter Try.func31, Try.ntmps31
  go_wp2_with (go_at_call 40; refine (dead_dead q _ H.out).mono ?_; rintro e w' ⟨rfl, rfl⟩)
  first | go_end0 | refine bodyPost_ret (results_none rfl _ _ _) rfl ?_
  exact ⟨rfl, rfl⟩
theorem at_dead (q : Option Addr) (w : World) (h : Dead w q) :
    Calls Try.prog 23 #[.pointer q] w fun e w' => e = .returned (.int .i64 0) ∧ w = w' := by
  have H := Go.Lib.hid h
  clear h
  go_enter Try.func23, Try.ntmps23
  go_wp2_with (go_at_call 40; refine (dead_dead q _ H.out).mono ?_; rintro e w' ⟨rfl, rfl⟩)
  go_ret
  exact ⟨rfl, rfl⟩
theorem left_dead (q : Option Addr) (w : World) (h : Dead w q) :
    Calls Try.prog 24 #[.pointer q] w fun e w' => e = .returned (.int .i64 0) ∧ w = w' := by
  have H := Go.Lib.hid h
  clear h
  go_enter Try.func24, Try.ntmps24
  go_wp2_with (go_at_call 40; refine (dead_dead q _ H.out).mono ?_; rintro e w' ⟨rfl, rfl⟩)
  go_ret
  exact ⟨rfl, rfl⟩
theorem end_dead (q : Option Addr) (w : World) (h : Dead w q) :
    Calls Try.prog 18 #[.pointer q] w fun e w' => e = .returned (.tuple #[]) ∧ w = w' := by
  have H := Go.Lib.hid h
  clear h
  go_enter Try.func18, Try.ntmps18
  go_wp2_with (go_at_call 24; refine (left_dead q _ H.out).mono ?_; rintro e w' ⟨rfl, rfl⟩)
  first | go_end0 | refine bodyPost_ret (results_none rfl _ _ _) rfl ?_
  exact ⟨rfl, rfl⟩
end Go.Proofs.Ytkhjgmcndieecaa
