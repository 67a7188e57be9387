/-
  Arguments opened: a question, and slices of questions.
-/
import Derived.Test.YtkhjgmcndieecaaOpenI
import Derived.Lib.SmallJoins
import Derived.Deep.SlicePairs
set_option linter.unusedVariables false
set_option linter.unusedSimpArgs false
namespace Go.Proofs.Ytkhjgmcndieecaa
open Go.ChangeShapes Go.WideShapes Go.ChangeAt Go.RowKit Go.Joins Go.Deep

theorem ask_open {H : Type} {enc_ : TypeId × Value → H} {W : World} {b0 base : Nat} {r : Reach} {spare : Nat → Bool} {held : Bool} {v : Value} {d : DataW H} {ps : List MemPlace}
    (hv : Value.okWide Try.prog W r b0 44 v) (h : DataW.Trod enc_ Try.prog W base spare held 44 v d ps) :
    ∃ a b : Int, v = .agg #[.int .i64 a, .int .i64 b] ∧ (-9223372036854775808 ≤ a ∧ a ≤ 9223372036854775807) ∧ (-9223372036854775808 ≤ b ∧ b ≤ 9223372036854775807) := by
  obtain ⟨v0, v1, y0, y1, n, rfl, _, _, h0, h1⟩ := open_agg2 Try.underlying44 (by kernel_rfl) (by kernel_rfl) hv h
  obtain ⟨a, ha, _, hwa⟩ := DataW.trod_int Try.underlying3 h0
  obtain ⟨b, hb, _, hwb⟩ := DataW.trod_int Try.underlying3 h1
  cases ha
  cases hb
  exact ⟨a, b, rfl, bounds_i64 hwa, bounds_i64 hwb⟩
/-- A question's cells. -/
def ask2 (x : Int × Int) : List Value := [.int .i64 x.1, .int .i64 x.2]
theorem ask2_len : ∀ x, (ask2 x).length = 2 := fun _ => rfl
abbrev RdA (w : World) (A : Option Addr) (c : Nat) (l : List (Int × Int)) : Prop := RdV w A c 2 l.length (enc ask2 l)
theorem asks_open {H : Type} {enc_ : TypeId × Value → H} {W : World} {base : Nat} {spare : Nat → Bool} {held : Bool} {a : Option Addr} {len cap : Nat} {d : DataW H} {ps : List MemPlace}
    (h : DataW.Trod enc_ Try.prog W base spare held 40 (.slice a len cap) d ps) : ∃ l : List (Int × Int), len = l.length ∧ RdA W a cap l ∧ ∀ x ∈ l, (-9223372036854775808 ≤ x.1 ∧ x.1 ≤ 9223372036854775807) ∧ -9223372036854775808 ≤ x.2 ∧ x.2 ≤ 9223372036854775807 := by
  obtain ⟨fuel, hf⟩ := h
  rcases open_slice_pairs Try.underlying40 Try.underlying44 (by kernel_rfl) rfl rfl (by kernel_rfl) (by kernel_rfl) hf with ⟨hcs, _⟩ | ⟨x, l, c, m, n, V0, V1, D0, D1, P0, P1, hcs, _, hl, hm, hmm, _, hcell⟩
  · simp [Value.cells] at hcs
    obtain ⟨rfl, rfl, rfl⟩ := hcs
    exact ⟨[], rfl, RdV.nilAt W 2, by simp⟩
  · simp [Value.cells] at hcs
    obtain ⟨rfl, rfl, rfl⟩ := hcs
    have hlm : len ≤ m := by
      rw [hmm]
      split
      · exact hl
      · exact Nat.le_refl _
    have hint : ∀ i, i < m → ∃ p : Int × Int, V0 i = .int .i64 p.1 ∧ V1 i = .int .i64 p.2 ∧ (-9223372036854775808 ≤ p.1 ∧ p.1 ≤ 9223372036854775807) ∧ -9223372036854775808 ≤ p.2 ∧ p.2 ≤ 9223372036854775807 := fun i hi => by
      obtain ⟨_, _, h0, h1⟩ := hcell i hi
      obtain ⟨a, ha, _, hwa⟩ := DataW.trod_int Try.underlying3 h0
      obtain ⟨b, hb, _, hwb⟩ := DataW.trod_int Try.underlying3 h1
      simp only [List.cons.injEq, and_true] at ha hb
      exact ⟨(a, b), ha, hb, bounds_i64 hwa, bounds_i64 hwb⟩
    have hspot : 0 < m → x.spot = none := fun h0 => by
      have := World.cell?_spot (hcell 0 h0).1
      simpa [Addr.add] using this
    let g : Nat → Int × Int := fun i => if h : i < m then Classical.choose (hint i h) else (0, 0)
    have hg : ∀ i (h : i < m), V0 i = .int .i64 (g i).1 ∧ V1 i = .int .i64 (g i).2 ∧ (-9223372036854775808 ≤ (g i).1 ∧ (g i).1 ≤ 9223372036854775807) ∧ -9223372036854775808 ≤ (g i).2 ∧ (g i).2 ≤ 9223372036854775807 := fun i h => by
      have := Classical.choose_spec (hint i h)
      simpa [g, h] using this
    have hlen : ((List.range len).map g).length = len := by simp
    refine ⟨(List.range len).map g, hlen.symm, ⟨by rw [enc_length ask2_len], by rw [hlen]; exact hl, by simpa [maxLen] using hm, (fun e => by cases e), ?_, ?_⟩, ?_⟩
    · intro a ha h0
      cases ha
      rw [enc_length ask2_len, hlen] at h0
      exact hspot (by omega)
    · intro j v hj a ha
      cases ha
      have hjl : j < (enc ask2 ((List.range len).map g)).length := (List.getElem?_eq_some_iff.1 hj).1
      rw [enc_length ask2_len, hlen] at hjl
      have hsp := hspot (by omega)
      obtain ⟨b, o, s⟩ := x
      simp only at hsp
      subst hsp
      have hi : j / 2 < len := by omega
      have e := enc_get ask2_len ((List.range len).map g) (0, 0) (j := j / 2) (i := j % 2) (by rw [hlen]; exact hi) (by omega)
      rw [show j / 2 * 2 + j % 2 = j by omega] at e
      rw [e] at hj
      have hgd : ((List.range len).map g).getD (j / 2) (0, 0) = g (j / 2) := by simp [List.getD_eq_getElem?_getD, List.getElem?_map, List.getElem?_range hi]
      rw [hgd] at hj
      obtain ⟨c0, c1, _, _⟩ := hcell (j / 2) (by omega)
      obtain ⟨e0, e1, _⟩ := hg (j / 2) (by omega)
      rw [add_plain] at c0 c1
      have : j % 2 = 0 ∨ j % 2 = 1 := by omega
      rcases this with h2 | h2
      · rw [h2] at hj
        simp [ask2] at hj
        subst hj
        rw [← e0, show j = j / 2 * 2 by omega]
        simpa using c0
      · rw [h2] at hj
        simp [ask2] at hj
        subst hj
        rw [← e1]
        show W.cell? ⟨b, o + j, none⟩ = _
        rw [show o + j = o + (j / 2 * 2 + 1) by omega]
        exact c1
    · intro y hy
      obtain ⟨i, hi, rfl⟩ := List.mem_map.1 hy
      have := hg i (by have := List.mem_range.1 hi; omega)
      exact this.2.2
end Go.Proofs.Ytkhjgmcndieecaa
