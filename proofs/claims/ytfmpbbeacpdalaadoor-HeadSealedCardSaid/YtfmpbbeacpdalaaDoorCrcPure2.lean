/-
  Plain lemmas on sealed bytes and on bytes with bits turned.
-/
import Derived.Test.YtfmpbbeacpdalaaDoorCrcCheck
set_option linter.unusedVariables false
set_option linter.unusedSimpArgs false
namespace Go.Proofs.YtfmpbbeacpdalaaDoor
open Go.RowKit


theorem le4_length (n : Nat) : (le4 n).length = 4 := rfl
theorem le4_inj {a b : Nat} (ha : a < 4294967296) (hb : b < 4294967296) (h : le4 a = le4 b) : a = b := by
  simp only [le4, List.cons.injEq, and_true] at h
  obtain ⟨h0, h1, h2, h3⟩ := h
  have g0 := congrArg UInt8.toNat h0
  have g1 := congrArg UInt8.toNat h1
  have g2 := congrArg UInt8.toNat h2
  have g3 := congrArg UInt8.toNat h3
  simp at g0 g1 g2 g3
  omega

theorem chk_sealed (l : List UInt8) : chk (sealed l) = (l, 0) := by
  have h1 : (sealed l).length - 4 = l.length := by rw [sealed_length]; omega
  have h2 : (sealed l).take l.length = l := by unfold sealed; simp
  unfold chk
  rw [if_neg (by rw [sealed_length]; omega), h1, h2, if_pos rfl]

theorem num_set (l : List UInt8) : ∀ (k : Nat) (h : k < l.length) (x : UInt8), Crc.num (l.set k (l[k] ^^^ x)) = Crc.num l ^^^ (2 ^ (8 * k) * x.toNat) := by
  induction l with
  | nil => intro k h; cases h
  | cons y l ih =>
    intro k h x
    cases k with
    | zero =>
      simp only [List.set_cons_zero, Crc.num, List.getElem_cons_zero, Nat.mul_zero, Nat.pow_zero, Nat.one_mul]
      rw [Crc.add_xor _ _ (UInt8.toNat_lt _), Crc.add_xor _ _ (UInt8.toNat_lt _), UInt8.toNat_xor]
      generalize 256 * Crc.num l = z
      rw [Nat.xor_assoc, Nat.xor_assoc, Nat.xor_comm x.toNat z]
    | succ k =>
      have h' : k < l.length := by simpa using h
      have e := ih k h' x
      simp only [List.set_cons_succ, Crc.num, List.getElem_cons_succ]
      rw [e, Crc.add_xor _ _ (UInt8.toNat_lt _), Crc.add_xor _ _ (UInt8.toNat_lt _), Nat.xor_assoc]
      congr 1
      rw [show (256 : Nat) = 2 ^ 8 by rfl, Nat.mul_comm (2 ^ 8), ← Nat.shiftLeft_eq, Nat.shiftLeft_xor_distrib, Nat.shiftLeft_eq, Nat.shiftLeft_eq, Nat.mul_comm (Crc.num l)]
      congr 1
      rw [show 8 * (k + 1) = 8 * k + 8 by omega, Nat.pow_add]
      rw [Nat.mul_assoc, Nat.mul_assoc, Nat.mul_comm x.toNat]

theorem sum_set (l : List UInt8) (k : Nat) (h : k < l.length) (x : UInt8) (hx : x ≠ 0) : Crc.sum (l.set k (l[k] ^^^ x)) ≠ Crc.sum l := by
  refine Crc.sum_burst (by simp) (8 * k) x.toNat ?_ ?_ ?_ (num_set l k h x)
  · intro e
    exact hx (UInt8.toNat_inj.1 e)
  · have := x.toNat_lt; omega
  · simp; omega

theorem set_xor_ne (s : List UInt8) (k : Nat) (hk : k < s.length) (x : UInt8) (h : s.set k (s[k] ^^^ x) = s) : x = 0 := by
  have h1 := congrArg (fun z => z[k]?) h
  simp [List.getElem?_set, hk] at h1
  have h2 : s[k] ^^^ (s[k] ^^^ x) = s[k] ^^^ s[k] := by rw [h1]
  rw [← UInt8.xor_assoc, UInt8.xor_self, UInt8.zero_xor] at h2
  exact h2

theorem chk_turned (l : List UInt8) (k : Nat) (hk : k < (sealed l).length) (x : UInt8) : (chk ((sealed l).set k ((sealed l)[k] ^^^ x))).2 = if x = 0 then 0 else 8 := by
  by_cases hx : x = 0
  · subst hx
    rw [if_pos rfl, UInt8.xor_zero, List.set_getElem_self, chk_sealed]
  · rw [if_neg hx]
    have hl : ((sealed l).set k ((sealed l)[k] ^^^ x)).length = l.length + 4 := by rw [List.length_set, sealed_length]
    unfold chk
    rw [if_neg (by omega), hl, Nat.add_sub_cancel]
    rw [if_neg]
    intro e
    by_cases hkl : k < l.length
    · have h1 : ((sealed l).set k ((sealed l)[k] ^^^ x)) = l.set k (l[k] ^^^ x) ++ le4 (Crc.sum l) := by
        have : (sealed l)[k] = l[k] := by
          have h5 : (l ++ le4 (Crc.sum l))[k]'(by simp; omega) = l[k] := List.getElem_append_left hkl
          exact h5
        rw [this]
        unfold sealed
        rw [List.set_append_left _ _ hkl]
      rw [h1] at e
      have h2 : (l.set k (l[k] ^^^ x) ++ le4 (Crc.sum l)).take l.length = l.set k (l[k] ^^^ x) := by
        rw [List.take_append_of_le_length (by simp), List.take_of_length_le (by simp)]
      rw [h2] at e
      unfold sealed at e
      have h3 := List.append_cancel_left e
      exact sum_set l k hkl x hx (le4_inj (Crc.sum_lt _) (Crc.sum_lt _) h3)
    · have h1 : ((sealed l).set k ((sealed l)[k] ^^^ x)).take l.length = l := by
        rw [List.take_set_of_le (by omega)]
        unfold sealed
        simp
      rw [h1] at e
      exact hx (set_xor_ne _ k hk x e.symm)

theorem bits_xor_u8 (a b : UInt8) : bits .xor .u8 (a.toNat : Int) (b.toNat : Int) = ((a ^^^ b).toNat : Int) := by
  have ha : a.toNat % 256 = a.toNat := Nat.mod_eq_of_lt a.toNat_lt
  have hb : b.toNat % 256 = b.toNat := Nat.mod_eq_of_lt b.toNat_lt
  have hx := (a ^^^ b).toNat_lt
  rw [UInt8.toNat_xor] at hx ⊢
  simp only [bits, BitVec.ofInt_natCast, BitVec.toNat_xor, BitVec.toNat_ofNat, IntKind.wrap_u8]
  simp only [IntKind.bits, Nat.reducePow, ha, hb]
  omega

end Go.Proofs.YtfmpbbeacpdalaaDoor
