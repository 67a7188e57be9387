/-
  Arguments opened: slices of whole numbers.
-/
import Derived.Test.YtkhjgmcndieecaaOpen
import Derived.Test.YtkhjgmcndieecaaG
set_option linter.unusedVariables false
set_option linter.unusedSimpArgs false
namespace Go.Proofs.Ytkhjgmcndieecaa
open Go.ChangeShapes Go.WideShapes Go.ChangeAt Go.RowKit

theorem enc_int1 (l : List Int) : enc int1 l = l.map (Value.int .i64) := by
  unfold enc int1
  induction l with
  | nil => rfl
  | cons x l ih => simp [List.flatMap_cons, ih]
theorem rdi_open {H : Type} {enc_ : TypeId × Value → H} {W : World} {base : Nat} {spare : Nat → Bool} {held : Bool} {a : Option Addr} {len cap : Nat} {d : DataW H} {ps : List MemPlace}
    (h : DataW.Trod enc_ Try.prog W base spare held 34 (.slice a len cap) d ps) : ∃ l : List Int, len = l.length ∧ RdI W a cap l ∧ ∀ n ∈ l, -9223372036854775808 ≤ n ∧ n ≤ 9223372036854775807 := by
  obtain ⟨fuel, hf⟩ := h
  rcases open_ints Try.underlying34 Try.underlying3 (by kernel_rfl) hf with ⟨hcs, _⟩ | ⟨x, l, c, zs, hcs, _, hl, hm, hz, _, hcell, hwz⟩
  · simp [Value.cells] at hcs
    obtain ⟨rfl, rfl, rfl⟩ := hcs
    exact ⟨[], rfl, RdV.nilAt W 1, by simp⟩
  · simp [Value.cells] at hcs
    obtain ⟨rfl, rfl, rfl⟩ := hcs
    have hzl : len ≤ zs.length := by
      rw [hz]
      split
      · exact hl
      · exact Nat.le_refl _
    have hspot : 0 < zs.length → x.spot = none := fun h0 => by
      have := World.cell?_spot (hcell 0 h0)
      simpa [Addr.add] using this
    have hlen : (zs.take len).length = len := by simp; omega
    refine ⟨zs.take len, hlen.symm, ⟨by rw [enc_length int1_len], by rw [hlen]; exact hl, by simpa [maxLen] using hm, (fun e => by cases e), ?_, ?_⟩, ?_⟩
    · intro a ha h0
      cases ha
      rw [enc_length int1_len, hlen] at h0
      exact hspot (by omega)
    · intro j v hj a ha
      cases ha
      rw [enc_int1, List.getElem?_map] at hj
      have hj1 : j < (zs.take len).length := by
        rcases Nat.lt_or_ge j (zs.take len).length with h1 | h1
        · exact h1
        · rw [List.getElem?_eq_none h1] at hj
          cases hj
      rw [List.getElem?_eq_getElem hj1] at hj
      simp only [Option.map_some, Option.some.injEq] at hj
      subst hj
      have hj2 : j < zs.length := by rw [hlen] at hj1; omega
      have hc := hcell j hj2
      have hsp := hspot (by omega)
      obtain ⟨b, o, s⟩ := x
      simp only at hsp
      subst hsp
      rw [add_plain] at hc
      show W.cell? ⟨b, o + j, none⟩ = _
      rw [hc]
      simp [List.getD_eq_getElem?_getD, List.getElem?_eq_getElem hj2]
    · intro n hn
      have hn' : n ∈ zs := List.mem_of_mem_take hn
      exact bounds_i64 (hwz n hn')
end Go.Proofs.Ytkhjgmcndieecaa
