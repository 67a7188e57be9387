/-
  The walks of the reference's Told (a number in so many bytes).
-/
import Derived.Test.YtfmpbbeacpdalaaDoorBack
set_option linter.unusedVariables false
set_option linter.unusedSimpArgs false
namespace Go.Proofs.YtfmpbbeacpdalaaDoor
open Go.RowKit


/-- A number in so many bytes, the lowest first. -/
def leN : Nat → Nat → List UInt8
  | _, 0 => []
  | n, k + 1 => UInt8.ofNat n :: leN (n / 256) k
theorem leN_length (k : Nat) : ∀ n, (leN n k).length = k := by
  induction k with
  | zero => intro n; rfl
  | succ k ih => intro n; simp [leN, ih]
theorem leN_snoc (k : Nat) : ∀ n, leN n (k + 1) = leN n k ++ [UInt8.ofNat (n / 256 ^ k)] := by
  induction k with
  | zero => intro n; simp [leN]
  | succ k ih =>
    intro n
    rw [leN, ih, leN, List.cons_append, Nat.div_div_eq_div_mul, Nat.pow_succ, Nat.mul_comm 256]

/-- The bytes of a number: the document's. -/
def told (n : Int) (k : Nat) (big : Bool) : List UInt8 := if big then (leN n.toNat k).reverse else leN n.toNat k
theorem told_length (n : Int) (k : Nat) (big : Bool) : (told n k big).length = k := by
  unfold told
  split <;> simp [leN_length]

def ToldRel (w : World) (m k : Nat) (s v i : Value) (W : World) : Prop :=
  ∃ j q : Nat, j ≤ k ∧ i = .int .i64 j ∧ s = .int .i64 q ∧ q ≤ 9223372036854775807 ∧ Hid (q = m / 256 ^ j) ∧ Hid (OwB W w.heap.size v (leN m j)) ∧ Hid (Below w.heap.size w W)
theorem told_round {w : World} {m k : Nat} : True := trivial

set_option maxHeartbeats 800000 in
theorem told_any (n : Int) (k : Nat) (big : Bool) (w : World) (hn0 : -9223372036854775808 ≤ n) (hn1 : n ≤ 9223372036854775807) (hk : k ≤ 140737488355000) :
    Calls Tryd.prog 27 #[.int .i64 n, .int .i64 (k : Int), .bool big] w (RetB w (told n k big)) := by
  obtain ⟨m, hm⟩ : ∃ m : Nat, m = n.toNat := ⟨_, rfl⟩
  have hml : m ≤ 9223372036854775807 := by omega
  have HT : Hid (told n k big = if big then (leN m k).reverse else leN m k) := by rw [hm]; rfl
  obtain ⟨m0, hm0⟩ : ∃ m0 : Nat, m0 = m := ⟨_, rfl⟩
  have hm2 : n < 0 ∧ m = 0 ∨ 0 ≤ n ∧ n = (m : Int) := by omega
  have HM0 := Go.Lib.hid hm0
  clear hm hm0
  rcases hm2 with ⟨h1, rfl⟩ | ⟨h1, rfl⟩
  all_goals
    go_enter Tryd.func27, Tryd.ntmps27
    go_wp2
    go_loopw [0, 7, 8] (fun s v i W => ToldRel w m0 k s v i W) (fun _ _ i _ => k - (intOf i).toNat)
    case atStart => exact ⟨0, m0, Nat.zero_le _, rfl, int_eq (by have := HM0.out; omega), by have := HM0.out; omega, by simp [Hid], World.ownsRow_nil .., Below.refl _ _⟩
    case round =>
      obtain ⟨j, q, hj, rfl, rfl, hq, hqq, ho, hb⟩ := hrel
      by_cases hlt : j < k
      · have HL := Go.Lib.hid (leN_length j m0)
        have HS := Go.Lib.hid (leN_snoc j m0)
        go_wp2_with (at_builtin; go_must (refine app_lit (w0 := w) (w := wr) rfl (.tmp 16) (.tmp 20) rfl w.heap.size _ (leN m0 j) [UInt8.ofNat q] _ 1 rfl rfl ?c1 rfl ho.out hb.out hb.out.size ?l1 ?_); (case c1 => simp [bs]); (case l1 => rw [HL.out]; simp; omega); intro v1 w1 ho1 hb1; clear ho hb)
        refine ⟨⟨j + 1, q / 256, by omega, by go_num, int_eq (by omega), by omega, ?_, ?_, hb1⟩, by simp [intOf]; omega⟩
        · show q / 256 = _
          rw [hqq.out, Nat.div_div_eq_div_mul, Nat.pow_succ]
        · show OwB _ _ _ _
          rw [HS.out, ← hqq.out]
          exact ho1
      · have hjk : j = k := by omega
        clear hlt
        subst hjk
        cases big with
        | false =>
          go_wp2
          go_ret
          refine ⟨_, rfl, ?_, hb.out⟩
          have h2 := HT.out
          have h3 := ho.out
          rw [HM0.out] at h3
          rw [h2]
          exact h3
        | true =>
          obtain ⟨A, c, rfl, hr⟩ := ho.out.rd
          have HR := Go.Lib.hid hr
          have HL := Go.Lib.hid (leN_length j m0)
          clear hr
          go_wp2_with (go_at_call 41; refine (back_any A c (leN m0 j) _ HR.out (by rw [HL.out]; omega)).mono ?_; rintro e w' ⟨v1, rfl, ho1, hb1⟩)
          go_ret
          refine ⟨_, rfl, ?_, Below.step hb.out hb1⟩
          have h2 := HT.out
          have h3 := ho1.mono hb.out.size
          rw [HM0.out] at h3
          rw [h2]
          exact h3

end Go.Proofs.YtfmpbbeacpdalaaDoor
