/-
  Whole structs and arrays stored.
-/
import Derived.Test.YtfmpbbeacpdalaaDoorF
import Derived.Laws.IdiomCopy
set_option linter.unusedVariables false
set_option linter.unusedSimpArgs false
namespace Go.Proofs.YtfmpbbeacpdalaaDoor
open Go.RowKit

theorem sc_same (g : Nat) : ∀ (vs : List Value) (o : Nat) (w : World), (w.setCells g o vs).os = w.os ∧ (w.setCells g o vs).tape = w.tape ∧ (w.setCells g o vs).output = w.output ∧ (w.setCells g o vs).heap.size = w.heap.size
  | [], _, _ => ⟨rfl, rfl, rfl, rfl⟩
  | v :: r, o, w => by
    obtain ⟨h1, h2, h3, h4⟩ := sc_same g r (o + 1) (w.setCell ⟨g, o, none⟩ v)
    rw [World.setCells]
    exact ⟨h1, h2, h3, by rw [h4]; simp [World.setCell]⟩
theorem sc_far {g : Nat} : ∀ (vs : List Value) (o : Nat) {w : World} (k : Nat), k ≠ g → (w.setCells g o vs).heap[k]? = w.heap[k]?
  | [], _, _, _, _ => rfl
  | v :: r, o, w, k, hk => by
    rw [World.setCells, sc_far r (o + 1) k hk]
    exact Below.heap_setCell w ⟨g, o, none⟩ v k hk
def setAll (cs : Array Value) : Nat → List Value → Array Value
  | _, [] => cs
  | o, v :: r => setAll (cs.setIfInBounds o v) (o + 1) r
theorem obj_setCells {p : Nat} {t : TypeId} : ∀ (vs : List Value) (o : Nat) {w : World} {cs : Array Value}, w.heap[p]? = some (.cells cs t (0, 0)) → (w.setCells p o vs).heap[p]? = some (.cells (setAll cs o vs) t (0, 0))
  | [], _, _, _, h => h
  | v :: r, o, w, cs, h => obj_setCells r (o + 1) (obj_setCell h)
theorem Chg.setCells (w : World) (p o : Nat) (vs : List Value) : Chg (fun k => k = p) w (w.setCells p o vs) :=
  ⟨(sc_same p vs o w).1, (sc_same p vs o w).2.1, (sc_same p vs o w).2.2.1, Nat.le_of_eq (sc_same p vs o w).2.2.2.symm, fun k _ hk => sc_far vs o k hk⟩
theorem sc_size (w : World) (p o : Nat) (vs : List Value) : (w.setCells p o vs).heap.size = w.heap.size := (sc_same p vs o w).2.2.2
theorem there_obj {w : World} {p : Nat} {cs : Array Value} {t : TypeId} {o n : Nat} (h : w.heap[p]? = some (.cells cs t (0, 0))) (hn : o + n ≤ cs.size) : w.there p o n := fun j hj => by
  rw [obj_cell h, obj_frozen h]
  exact ⟨by simp; omega, rfl⟩
theorem do_storesB {P : Program} {L : Env} {w : World} {x y : Operand} {t t' : TypeId} {b o : Nat} {cs : List Value} {old : Array Value} (hx : ev L x = some (.pointer (some ⟨b, o, none⟩))) (hy : ev L y = some (.agg cs.toArray)) (h1 : cs.all (·.oneCell') = true) (hs : (P.info? t).map (·.size) = some cs.length)
    (h : w.heap[b]? = some (.cells old t' (0, 0))) (hn : o + cs.length ≤ old.size) : Does P L (.store t x y) none w (w.setCells b o cs) :=
  do_stores hx hy (fun v hv => List.all_eq_true.1 h1 v hv) hs (there_obj h hn)
/-- An integer's kind is changed. -/
def intT (P : Program) (s d : TypeId) (k : IntKind) : Bool := (P.underlying s).isSome && (match P.underlying d with | some (.int q) => decide (q = k) && decide (P.intKind d = k) | _ => false)
theorem conv_int {P : Program} {w : World} {s d : TypeId} {q k : IntKind} {a b : Int} (ht : intT P s d k = true) (h : k.wrap a = b) : (convert s d (.int q a)).run P w = .ok (.int k b) w := by
  unfold intT at ht
  simp only [Bool.and_eq_true] at ht
  cases hd : P.underlying d with
  | none => simp [hd] at ht
  | some u =>
    cases u <;> simp [hd] at ht
    have h2 := ht.2.2
    have h1 := ht.2.1
    rw [run_convert_int w s d q a ht.1 (by rw [hd, h1, h2]), h2, h]
end Go.Proofs.YtfmpbbeacpdalaaDoor
