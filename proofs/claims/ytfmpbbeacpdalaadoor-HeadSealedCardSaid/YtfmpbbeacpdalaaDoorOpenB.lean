/-
  Arguments opened: an array of bytes.
-/
import Derived.Test.YtfmpbbeacpdalaaDoorCPure
import Derived.Test.YtfmpbbeacpdalaaDoorOpen
import Derived.OpenShut
set_option linter.unusedVariables false
set_option linter.unusedSimpArgs false
namespace Go.Proofs.YtfmpbbeacpdalaaDoor
open Go.ChangeShapes Go.WideShapes Go.ChangeAt Go.RowKit

theorem arr_open {H : Type} {enc_ : TypeId × Value → H} {W : World} {b0 base : Nat} {r : Reach} {spare : Nat → Bool} {held : Bool} {v : Value} {d : DataW H} {ps : List MemPlace}
    (hv : Value.okWide Tryd.prog W r b0 33 v) (h : DataW.Trod enc_ Tryd.prog W base spare held 33 v d ps) : ∃ lb : List UInt8, v = .agg (bs lb).toArray ∧ lb.length = 124 := by
  simp only [Value.okWide, Tryd.underlying33] at hv
  obtain ⟨cs, rfl, hsz, _⟩ := hv
  obtain ⟨fuel, hf⟩ := h
  obtain ⟨xs, m, _, _, hl, hxl, hall⟩ := DataW.trod_array Tryd.underlying33 hf
  have hc : Tryd.prog.cellsOf 5 = 1 := by kernel_rfl
  have hn : cs.toList.length = 124 := hl.trans (by kernel_rfl)
  rw [hc] at hall
  have hb : ∀ i (h : i < cs.toList.length), ∃ b : UInt8, cs.toList[i] = .int .u8 (b.toNat : Int) := fun i h => by
    have h1 := hall i (by omega)
    rw [List.getElem?_eq_getElem (by omega)] at h1
    obtain ⟨n, h2, _, hw⟩ := DataW.trod_int Tryd.underlying5 h1
    have hbd := bounds_u8 hw
    have h3 : ((Value.agg cs).cells.toList.drop (i * 1)).take 1 = [cs.toList[i]] := by
      rw [Nat.mul_one]
      show (cs.toList.drop i).take 1 = _
      rw [List.drop_eq_getElem_cons h]
      rfl
    rw [h3] at h2
    injection h2 with h2
    exact ⟨UInt8.ofNat n.toNat, by rw [h2, UInt8.toNat_ofNat']; congr 1; omega⟩
  refine ⟨cs.toList.map fun v => match v with
    | .int _ n => UInt8.ofNat n.toNat
    | _ => 0, ?_, by simpa using hn⟩
  congr 1
  apply Array.ext'
  simp only [bs]
  refine List.ext_getElem (by simp) fun i h1 h2 => ?_
  obtain ⟨b, hb⟩ := hb i h1
  simp only [List.getElem_map]
  rw [hb]
  simp
end Go.Proofs.YtfmpbbeacpdalaaDoor
