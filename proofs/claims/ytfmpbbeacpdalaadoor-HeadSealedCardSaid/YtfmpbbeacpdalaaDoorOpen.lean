/-
  Arguments opened: byte slices; the table that the row lists.
-/
import Derived.Test.YtfmpbbeacpdalaaDoorW
import Derived.ProofKit
import Derived.OpenShut
set_option linter.unusedVariables false
set_option linter.unusedSimpArgs false
namespace Go.Proofs.YtfmpbbeacpdalaaDoor
open Go.ChangeShapes Go.WideShapes Go.ChangeAt Go.RowKit


theorem wf_u8 {n : Int} (h : (Lit.int .u8 n).wf = true) : 0 ≤ n ∧ n ≤ 255 := by
  have := bounds_u8 h
  omega

theorem rd_open {H : Type} {enc : TypeId × Value → H} {W : World} {base : Nat} {spare : Nat → Bool} {held : Bool} {a : Option Addr} {len cap : Nat} {d : DataW H} {ps : List MemPlace}
    (h : DataW.Trod enc Tryd.prog W base spare held 24 (.slice a len cap) d ps) : ∃ l : List UInt8, len = l.length ∧ Rd W a cap l := by
  obtain ⟨fuel, hf⟩ := h
  rcases open_ints Tryd.underlying24 Tryd.underlying5 (by kernel_rfl) hf with ⟨hcs, _⟩ | ⟨x, l, c, zs, hcs, _, hl, hm, hz, _, hcell, hwz⟩
  · simp [Value.cells] at hcs
    obtain ⟨rfl, rfl, rfl⟩ := hcs
    exact ⟨[], rfl, Rd.nilAt W⟩
  · simp [Value.cells] at hcs
    obtain ⟨rfl, rfl, rfl⟩ := hcs
    have hzl : len ≤ zs.length := by
      rw [hz]
      split
      · exact hl
      · exact Nat.le_refl _
    have hspot : 0 < zs.length → x.spot = none := fun h0 => by
      have := World.cell?_spot (hcell 0 h0)
      simpa [Addr.add] using this
    refine ⟨(zs.take len).map fun n => UInt8.ofNat n.toNat, by simp; omega, ⟨by simp; omega, by simpa [maxLen] using hm, (fun e => by cases e), ?_, ?_⟩⟩
    · intro a ha h0
      cases ha
      exact hspot (by simp at h0; omega)
    · intro j hj a ha
      cases ha
      have hj1 : j < zs.length := by simp at hj; omega
      have hc := hcell j hj1
      have hsp := hspot (by omega)
      obtain ⟨b, o, s⟩ := x
      simp only at hsp
      subst hsp
      rw [add_plain] at hc
      have hw := wf_u8 (hwz (zs.getD j 0) (by rw [List.getD_eq_getElem?_getD, List.getElem?_eq_getElem hj1]; simp))
      show W.cell? ⟨b, o + j, none⟩ = _
      rw [hc]
      simp [List.getD_eq_getElem?_getD, List.getElem?_eq_getElem hj1] at hw ⊢
      omega

end Go.Proofs.YtfmpbbeacpdalaaDoor
