/-
  The walks of cursor.Put, and of the reference's.
-/
import Derived.Test.YtfmpbbeacpdalaaDoorTold
import Derived.Test.YtfmpbbeacpdalaaDoorNumber
set_option linter.unusedVariables false
set_option linter.unusedSimpArgs false
namespace Go.Proofs.YtfmpbbeacpdalaaDoor
open Go.RowKit


/-- A number behind some bytes. -/
def put (l : List UInt8) (n size : Int) (big : Bool) : List UInt8 := if wide size then l ++ told n size.toNat big else l

theorem width2_any (size : Int) (w : World) : Calls Tryd.prog 48 #[.int .i64 size] w fun e w' => e = .returned (.bool (wide size)) ∧ w = w' := by
  unfold wide
  go_enter Tryd.func48, Tryd.ntmps48
  go_wp2
  all_goals
    go_ret
    refine ⟨?_, rfl⟩
    simp_all

theorem leN_get (k : Nat) : ∀ (m j : Nat) (h : j < (leN m k).length), (leN m k)[j] = UInt8.ofNat (m / 256 ^ j) := by
  induction k with
  | zero => intro m j h; simp [leN] at h
  | succ k ih =>
    intro m j h
    cases j with
    | zero => simp [leN]
    | succ j =>
      simp only [leN, List.getElem_cons_succ]
      rw [ih, Nat.div_div_eq_div_mul, Nat.pow_succ, Nat.mul_comm 256]
/-- Which byte of a number stands at a place. -/
def placeOf (k i : Nat) (big : Bool) : Nat := if big then k - 1 - i else i
theorem told_snoc (n : Int) (k i : Nat) (big : Bool) (hi : i < k) : (told n k big).take (i + 1) = (told n k big).take i ++ [UInt8.ofNat (n.toNat / 256 ^ placeOf k i big)] := by
  rw [take_snoc _ _ (by rw [told_length]; exact hi)]
  congr 2
  unfold told placeOf
  cases big
  · simp only [Bool.false_eq_true, if_false]
    exact leN_get _ _ _ _
  · simp only [if_true, List.getElem_reverse, leN_length]
    exact leN_get _ _ _ _

theorem byte_shr (m j : Nat) : ((m : Int) / 2 ^ (8 * j) % 256) = ((UInt8.ofNat (m / 256 ^ j)).toNat : Int) := by
  have h : (256 : Nat) ^ j = 2 ^ (8 * j) := by rw [Nat.pow_mul]
  rw [h]
  generalize 8 * j = s
  simp
theorem bytes1 (x : Int) (b : UInt8) (h : x = (b.toNat : Int)) : #[Value.int .u8 x] = (bs [b]).toArray := by simp [bs, h]

set_option maxHeartbeats 1600000 in
theorem put_wide (A : Option Addr) (c : Nat) (l : List UInt8) (n : Int) (k : Nat) (big : Bool) (w : World) (hr : Rd w A c l) (hl : l.length ≤ 140737488355000) (hn0 : -9223372036854775808 ≤ n) (hn1 : n ≤ 9223372036854775807) (hk : wide k = true) (hk8 : k ≤ 8) :
    Calls Tryd.prog 24 #[.slice A l.length c, .int .i64 n, .int .i64 (k : Int), .bool big] w (RetB w (l ++ told n k big)) := by
  obtain ⟨m, hm⟩ : ∃ m : Nat, m = n.toNat := ⟨_, rfl⟩
  have hml : m ≤ 9223372036854775807 := by omega
  obtain ⟨tl, htl⟩ : ∃ tl, tl = told n k big := ⟨_, rfl⟩
  have HLEN := Go.Lib.hid (show tl.length = k by rw [htl]; exact told_length _ _ _)
  obtain ⟨m0, hm0⟩ : ∃ m0 : Nat, m0 = m := ⟨_, rfl⟩
  have HM0 := Go.Lib.hid hm0
  have HS := Go.Lib.hid (show ∀ i, i < k → tl.take (i + 1) = tl.take i ++ [UInt8.ofNat (m0 / 256 ^ placeOf k i big)] by intro i hi; rw [htl, hm0, hm]; exact told_snoc n k i big hi)
  rw [← htl]
  have HK := Go.Lib.hid hk
  have HR := Go.Lib.hid hr
  have hm2 : n < 0 ∧ (m : Int) = 0 ∨ 0 ≤ n ∧ n = (m : Int) := by omega
  clear hm hr hk htl hm0
  have hm3 : n < 0 ∧ m = 0 ∨ 0 ≤ n ∧ n = (m : Int) := by omega
  clear hm2
  rcases hm3 with ⟨h1, h2⟩ | ⟨h1, rfl⟩
  case' inl => have HZ := Go.Lib.hid h2; clear h2
  all_goals
    go_enter Tryd.func24, Tryd.ntmps24
    go_wp2_with (first
      | (at_builtin; go_must (refine app_b (w0 := w) rfl (.tmp 12) (.tmp 13) rfl w.heap.size _ [] l A l.length c rfl rfl rfl (OwB.lit w [] (by decide) (Nat.le_refl _)) (HR.out.alloc _) ((Below.refl _ _).alloc (Nat.le_refl _) _) (by simp) (by simp; omega) ?_); intro v1 w1 ho1 hb1 hg1; have HO := Go.Lib.hid ho1; have HB := Go.Lib.hid hb1; clear ho1 hb1 hg1)
      | (go_at_call 39; refine (width_any (k : Int) _).mono ?_; rintro e w' ⟨rfl, rfl⟩; rw [HK.out]))
    go_loopw [9, 22] (fun v i W => ∃ j : Nat, j ≤ k ∧ i = .int .i64 j ∧ Hid (OwB W w.heap.size v (l ++ tl.take j)) ∧ Hid (Below w.heap.size w W)) (fun _ i _ => k - (intOf i).toNat)
    case atStart => exact ⟨0, Nat.zero_le _, rfl, Go.Lib.hid (by simpa using HO.out), HB⟩
    case round =>
      obtain ⟨j, hj, rfl, ho, hb⟩ := hrel
      by_cases hlt : j < k
      · have hll := Go.Lib.hid (show (l ++ tl.take j).length ≤ 140737488355100 by have := HLEN.out; simp; omega)
        have HSJ := Go.Lib.hid (HS.out j hlt)
        cases big
        · have hp : placeOf k j false = j := rfl
          rw [hp] at HSJ
          go_wp2_with (at_builtin; go_must (refine app_lit (w0 := w) (w := wr) rfl (.tmp 33) (.tmp 38) rfl w.heap.size _ (l ++ tl.take j) [UInt8.ofNat (m / 256 ^ j)] _ 1 rfl rfl ?c1 rfl ho.out hb.out hb.out.size ?l1 ?_); (case c1 => go_must (first | exact bytes1 _ _ (byte_shr m j) | exact bytes1 _ _ (by rw [HZ.out]; simp))); (case l1 => have := hll.out; simp at this ⊢; omega); intro v1 w1 ho1 hb1; clear ho hb)
          refine ⟨⟨j + 1, by omega, by go_num, ?_, hb1⟩, by simp [intOf]; omega⟩
          show OwB _ _ _ _
          rw [HSJ.out, HM0.out, ← List.append_assoc]
          exact ho1
        · obtain ⟨d, hd⟩ : ∃ d, d = k - 1 - j := ⟨_, rfl⟩
          have hp : placeOf k j true = d := by rw [hd]; rfl
          rw [hp] at HSJ
          have hd2 : (k : Int) - 1 - (j : Int) = (d : Int) := by omega
          clear hd
          go_wp2_with (at_builtin; go_must (refine app_lit (w0 := w) (w := wr) rfl (.tmp 33) (.tmp 38) rfl w.heap.size _ (l ++ tl.take j) [UInt8.ofNat (m / 256 ^ d)] _ 1 rfl rfl ?c1 rfl ho.out hb.out hb.out.size ?l1 ?_); (case c1 => go_must (first | exact bytes1 _ _ (byte_shr m d) | exact bytes1 _ _ (by rw [HZ.out]; simp))); (case l1 => have := hll.out; simp at this ⊢; omega); intro v1 w1 ho1 hb1; clear ho hb)
          refine ⟨⟨j + 1, by omega, by go_num, ?_, hb1⟩, by simp [intOf]; omega⟩
          show OwB _ _ _ _
          rw [HSJ.out, HM0.out, ← List.append_assoc]
          exact ho1
      · have hjk : j = k := by omega
        subst hjk
        have hlen := HLEN.out
        have ht : tl.take j = tl := by rw [← hlen, List.take_length]
        rw [ht] at ho
        clear hlen ht
        go_wp2
        go_ret
        exact ⟨_, rfl, ho.out, hb.out⟩

set_option maxHeartbeats 800000 in
theorem put_any (A : Option Addr) (c : Nat) (l : List UInt8) (n size : Int) (big : Bool) (w : World) (hr : Rd w A c l) (hl : l.length ≤ 140737488355000) (hn0 : -9223372036854775808 ≤ n) (hn1 : n ≤ 9223372036854775807) :
    Calls Tryd.prog 24 #[.slice A l.length c, .int .i64 n, .int .i64 size, .bool big] w (RetB w (put l n size big)) := by
  by_cases hw : wide size = true
  · obtain ⟨k, rfl⟩ : ∃ k : Nat, size = (k : Int) := ⟨size.toNat, by rcases wide_cases hw with h | h | h | h <;> omega⟩
    have e : put l n k big = l ++ told n k big := by unfold put; rw [if_pos hw]; rfl
    rw [e]
    exact put_wide A c l n k big w hr hl hn0 hn1 hw (by rcases wide_cases hw with h | h | h | h <;> omega)
  · have hw' : wide size = false := by simpa using hw
    have e : put l n size big = l := by unfold put; rw [hw']; rfl
    rw [e]
    have HW := Go.Lib.hid hw'
    have HR := Go.Lib.hid hr
    clear hw hw' e hr
    go_enter Tryd.func24, Tryd.ntmps24
    go_wp2_with (first
      | (at_builtin; go_must (refine app_b (w0 := w) rfl (.tmp 12) (.tmp 13) rfl w.heap.size _ [] l A l.length c rfl rfl rfl (OwB.lit w [] (by decide) (Nat.le_refl _)) (HR.out.alloc _) ((Below.refl _ _).alloc (Nat.le_refl _) _) (by simp) (by simp; omega) ?_); intro v1 w1 ho1 hb1 hg1; have HO := Go.Lib.hid ho1; have HB := Go.Lib.hid hb1; clear ho1 hb1 hg1)
      | (go_at_call 39; refine (width_any size _).mono ?_; rintro e w' ⟨rfl, rfl⟩; rw [HW.out]))
    go_ret
    exact ⟨_, rfl, HO.out, HB.out⟩

/-- Bytes are told: of the call's own, or others'. -/
def RetR (w : World) (l : List UInt8) (e : Ending) (w' : World) : Prop := ∃ A c, e = .returned (.slice A l.length c) ∧ Rd w' A c l ∧ Below w.heap.size w w'

end Go.Proofs.YtfmpbbeacpdalaaDoor
