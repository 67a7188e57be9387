/-
  What the row's listed table gives the walks.
-/
import Derived.Test.YtfmpbbeacpdalaaDoorCrcMore
import Derived.Test.YtfmpbbeacpdalaaDoorOpen
import Derived.LaidMore
set_option linter.unusedVariables false
set_option linter.unusedSimpArgs false
namespace Go.Proofs.YtfmpbbeacpdalaaDoor
open Go.ChangeShapes Go.WideShapes Go.ChangeAt Go.RowKit


noncomputable abbrev laidTab {H : Type} : List (String × DataW H) := [("clerestory/crc.nibbles", Rows.laid_clerestory_crc_nibbles)]
theorem gTab : Tryd.prog.globalNamed "clerestory/crc.nibbles" = some 0 := by kernel_rfl
theorem tTab : (Tryd.prog.globals[0]?).map (·.type) = some 75 := by kernel_rfl

theorem tab_of_laid {W : World} (h : laidMetH Tryd.prog laidTab W) : TabW W := by
  rw [MakeChecks.laidMetH_plain _ _ _ (by kernel_rfl)] at h
  obtain ⟨ps, ⟨g0, t0, cs0, f0, p0, q0, hg0, ht0, hv0, hd0, _, _⟩, _⟩ := h
  obtain rfl := Option.some.inj (gTab.symm.trans hg0)
  obtain rfl := Option.some.inj (tTab.symm.trans ht0)
  obtain ⟨xs, m1, rfl, hx1, hlen, hn, hel⟩ := DataW.trod_array Tryd.underlying75 hd0
  have c3 : Tryd.prog.cellsOf 52 = 1 := by kernel_rfl
  rw [c3] at hel
  simp only [Prod.mk.injEq, Rows.laid_clerestory_crc_nibbles, DataW.agg.injEq] at hx1
  intro i hi
  have hi' := hel i hi
  have hxi : i < xs.length := by omega
  rw [List.getElem?_eq_getElem hxi] at hi'
  obtain ⟨k, e1, e2, _⟩ := DataW.trod_int Tryd.underlying52 hi'
  have e3 : (xs.map (·.1))[i]? = some (.lit (.int .u32 k)) := by
    rw [List.getElem?_map, List.getElem?_eq_getElem hxi, e2]
    rfl
  rw [← hx1.1] at e3
  have hk : k = (Crc.nib i : Int) := by
    have : i = 0 ∨ i = 1 ∨ i = 2 ∨ i = 3 ∨ i = 4 ∨ i = 5 ∨ i = 6 ∨ i = 7 ∨ i = 8 ∨ i = 9 ∨ i = 10 ∨ i = 11 ∨ i = 12 ∨ i = 13 ∨ i = 14 ∨ i = 15 := by omega
    rcases this with rfl | rfl | rfl | rfl | rfl | rfl | rfl | rfl | rfl | rfl | rfl | rfl | rfl | rfl | rfl | rfl <;> (simp at e3; rw [← e3]; rfl)
  have hc := World.var?_cell hg0 hv0 i
  rw [hc]
  obtain ⟨l⟩ := cs0
  simp only [Nat.mul_one] at e1
  have e4 : l[i]? = some (.int .u32 k) := by
    have h1 : (l.drop i).take 1 = [.int .u32 k] := e1
    have h2 : i < l.length := by
      rcases Nat.lt_or_ge i l.length with h3 | h3
      · exact h3
      · rw [List.drop_eq_nil_of_le h3] at h1
        simp at h1
    rw [List.drop_eq_getElem_cons h2] at h1
    simp only [List.take_succ_cons, List.take_zero, List.cons.injEq, and_true] at h1
    rw [List.getElem?_eq_getElem h2, h1]
  rw [← hk]
  simpa using e4

end Go.Proofs.YtfmpbbeacpdalaaDoor
