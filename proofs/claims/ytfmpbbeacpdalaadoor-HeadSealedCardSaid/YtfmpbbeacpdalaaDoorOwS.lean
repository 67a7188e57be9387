/-
  A byte stored into a row of the call's own.
-/
import Derived.Test.YtfmpbbeacpdalaaDoorAppB
import Derived.Test.YtfmpbbeacpdalaaDoorFS
set_option linter.unusedVariables false
set_option linter.unusedSimpArgs false
namespace Go.Proofs.YtfmpbbeacpdalaaDoor
open Go.RowKit

theorem own_store {w : World} {base : Nat} {A : Option Addr} {c : Nat} {l : List UInt8} (ho : OwB w base (.slice A l.length c) l) {j : Nat} (hj : j < l.length) (b : UInt8) :
    ∃ w', (∀ (L : Env) (x y : Operand), ev L x = some (.pointer (pt A j)) → ev L y = some (.int .u8 (b.toNat : Int)) → Does Tryd.prog L (.store 5 x y) none w w') ∧
      OwB w' base (.slice A (l.set j b).length c) (l.set j b) ∧ Rd w' A c (l.set j b) ∧ Chg (fun k => some k = (Value.slice A (l.set j b).length c).ownBlock) w w' ∧ w'.heap.size = w.heap.size := by
  obtain ⟨g, c', hg, he, hc, hgl⟩ := ho.some_ (by omega)
  injection he with e1 e2 e3
  subst e1
  subst e3
  have hrow := ho.set hj b
  have hlen : (l.set j b).length = l.length := by simp
  rw [← hlen] at hrow
  refine ⟨w.setCell ⟨g, j, none⟩ (.int .u8 (b.toNat : Int)), ?_, hrow, ?_, ?_, by simp⟩
  · intro L x y hx hy
    have hp : pt (some ⟨g, 0, none⟩) j = some ⟨g, j, none⟩ := by simp [pt]
    rw [hp] at hx
    obtain ⟨h1, h2⟩ := ho.cell hj
    exact do_store hx hy rfl (by kernel_rfl) h1 h2
  · obtain ⟨A', c'', e, hr⟩ := hrow.rd
    injection e with e1 e2 e3
    rw [e1, e3]
    exact hr
  · refine (Chg.setCell w g j _).mono fun k _ hk => ?_
    rw [hk]
    rfl
end Go.Proofs.YtfmpbbeacpdalaaDoor
