/-
  Structs of integers and bools: are two the same?
-/
import Derived.Test.YtfmpbbeacpdalaaDoorFS
import Derived.Laws.StructEq
set_option linter.unusedVariables false
set_option linter.unusedSimpArgs false
namespace Go.Proofs.YtfmpbbeacpdalaaDoor
open Go.RowKit

inductive Sc where
  | i (k : IntKind) (a : Int)
  | b (x : Bool)
def Sc.val : Sc → Value
  | .i k a => .int k a
  | .b x => .bool x
def Sc.kind : Sc → Option IntKind
  | .i k _ => some k
  | .b _ => none
def Sc.same : Sc → Sc → Bool
  | .i _ a1, .i _ a2 => a1 == a2
  | .b x1, .b x2 => x1 == x2
  | _, _ => false
def all2 : List Sc → List Sc → Bool
  | x :: xs, y :: ys => x.same y && all2 xs ys
  | _, _ => true
/-- These fields are these scalars, in order, from a place on. -/
def flatF (P : Program) : Nat → List Field → List (Option IntKind) → Bool
  | _, [], [] => true
  | o, f :: fs, k :: ks => (f.name != "_") && (f.offset == o) && (match k with
      | some _ => (match P.underlying f.type with | some (.int _) => true | _ => false)
      | none => (match P.underlying f.type with | some .bool => true | _ => false)) && flatF P (o + 1) fs ks
  | _, _, _ => false
def flatT (P : Program) (t : TypeId) (ks : List (Option IntKind)) : Bool :=
  !P.stoodInHeld t && !P.eqGuardType P.depth t && (match P.underlying t with | some (.struct fs) => flatF P 0 fs.toList ks | _ => false)
theorem run_part1 {P : Program} {w : World} {t : TypeId} {cs : Array Value} {o : Nat} {v : Value} {d : TypeDesc} (hu : P.underlying t = some d) (hd : d.isRow = false) (hv : cs[o]? = some v) : (part t cs o).run P w = .ok v w := by
  have h : (isAgg t).run P w = .ok false w := by
    simp only [isAgg, Sem.run_bind, run_underlying hu, Result.andThen_ok]
    cases d <;> simp_all
  simp [part, Sem.run_bind, h, hv]
theorem run_flatF {P : Program} {w : World} (d : Nat) (X Y : Array Value) : ∀ (fs : List Field) (xs ys : List Sc) (o : Nat), flatF P o fs (xs.map Sc.kind) = true → xs.map Sc.kind = ys.map Sc.kind →
    (∀ j v, (xs.map Sc.val)[j]? = some v → X[o + j]? = some v) → (∀ j v, (ys.map Sc.val)[j]? = some v → Y[o + j]? = some v) → (Op.eqFields (d + 1) X Y fs).run P w = .ok (all2 xs ys) w
  | [], [], [], _, _, _, _, _ => rfl
  | [], x :: xs, _, _, h, _, _, _ => by simp [flatF] at h
  | f :: fs, [], _, _, h, _, _, _ => by simp [flatF] at h
  | [], [], y :: ys, _, _, hk, _, _ => by simp at hk
  | f :: fs, x :: xs, [], _, _, hk, _, _ => by simp at hk
  | f :: fs, x :: xs, y :: ys, o, h, hk, hX, hY => by
    simp only [List.map_cons, flatF, Bool.and_eq_true, bne_iff_ne, beq_iff_eq] at h
    obtain ⟨⟨⟨hn, ho⟩, ht⟩, hf⟩ := h
    simp only [List.map_cons, List.cons.injEq] at hk
    have ih := run_flatF (w := w) d X Y fs xs ys (o + 1) hf hk.2 (fun j v hj => by have := hX (j + 1) v (by simpa using hj); rwa [show o + (j + 1) = o + 1 + j by omega] at this) (fun j v hj => by have := hY (j + 1) v (by simpa using hj); rwa [show o + (j + 1) = o + 1 + j by omega] at this)
    have h0 := hX 0 x.val (by simp)
    have h1 := hY 0 y.val (by simp)
    rw [Nat.add_zero] at h0 h1
    have fin : ∀ b : Bool, (Op.equalIn (d + 1) f.type x.val y.val).run P w = .ok b w → (part f.type X f.offset).run P w = .ok x.val w → (part f.type Y f.offset).run P w = .ok y.val w → b = x.same y → (Op.eqFields (d + 1) X Y (f :: fs)).run P w = .ok (all2 (x :: xs) (y :: ys)) w := by
      intro b he hp hq hb
      subst hb
      unfold Op.eqFields
      rw [if_pos hn]
      simp only [Sem.run_bind, hp, hq, he, Result.andThen_ok, all2]
      cases hs : x.same y
      · rfl
      · simp only [Bool.not_true, Bool.false_eq_true, if_false, Bool.true_and]
        exact ih
    cases x with
    | i k a =>
      cases y with
      | b y => simp [Sc.kind] at hk
      | i k' b' =>
        obtain rfl : k = k' := by simpa [Sc.kind] using hk.1
        simp only [Sc.kind] at ht
        cases hu : P.underlying f.type with
        | none => simp [hu] at ht
        | some dd =>
          cases dd <;> simp [hu] at ht
          exact fin _ (run_equalIn_int w d f.type k _ a b' hu) (ho ▸ run_part1 hu rfl h0) (ho ▸ run_part1 hu rfl h1) rfl
    | b x =>
      cases y with
      | i k' b' => simp [Sc.kind] at hk
      | b y =>
        simp only [Sc.kind] at ht
        cases hu : P.underlying f.type with
        | none => simp [hu] at ht
        | some dd =>
          cases dd <;> simp [hu] at ht
          exact fin _ (run_equalIn_bool' w d f.type x y hu) (ho ▸ run_part1 hu rfl h0) (ho ▸ run_part1 hu rfl h1) rfl
theorem run_flat {P : Program} {w : World} {t : TypeId} {xs ys : List Sc} (ht : flatT P t (xs.map Sc.kind) = true) (hk : xs.map Sc.kind = ys.map Sc.kind) :
    (Op.equalIn 10000 t (.agg (xs.map Sc.val).toArray) (.agg (ys.map Sc.val).toArray)).run P w = .ok (all2 xs ys) w := by
  unfold flatT at ht
  simp only [Bool.and_eq_true, Bool.not_eq_true'] at ht
  obtain ⟨⟨hp, _⟩, hf⟩ := ht
  cases hu : P.underlying t with
  | none => simp [hu] at hf
  | some d =>
    cases d <;> simp only [hu] at hf <;> first | (cases hf; done) | skip
    rename_i fs
    have hfs : P.fieldsOf t = fs := by simp [Program.fieldsOf, hu]
    rw [show (10000 : Nat) = 9999 + 1 from rfl, run_equalIn_struct w 9999 t _ _ (by rw [hfs]; exact hu) hp, hfs, show (9999 : Nat) = 9998 + 1 from rfl]
    exact run_flatF 9998 _ _ fs.toList xs ys 0 hf hk (fun j v hj => by simpa using hj) (fun j v hj => by simpa using hj)
theorem do_eqst {P : Program} {L : Env} {w : World} {x y : Operand} {t t' : TypeId} {xs ys : List Sc} {p : Prop} [Decidable p] (hx : ev L x = some (.agg (xs.map Sc.val).toArray)) (hy : ev L y = some (.agg (ys.map Sc.val).toArray))
    (ht : flatT P t (xs.map Sc.kind) = true) (hk : xs.map Sc.kind = ys.map Sc.kind) (hp : p ↔ all2 xs ys = true) : Does P L (.binOp .eql t x y t') (some (.bool (decide p))) w w := by
  have hg : P.eqGuardType P.depth t = false := by unfold flatT at ht; simp only [Bool.and_eq_true, Bool.not_eq_true'] at ht; exact ht.1.2
  refine do_binop hx hy (fun w => run_eqGuard_agg w _ _ _ _ _ _ hg) ?_
  rw [run_eql_struct, run_flat ht hk, Result.andThen_ok]
  have : decide p = all2 xs ys := by
    cases h : all2 xs ys
    · exact decide_eq_false (by rw [hp, h]; decide)
    · exact decide_eq_true (by rw [hp, h])
  rw [this]
theorem do_nest {P : Program} {L : Env} {w : World} {x y : Operand} {t t' : TypeId} {xs ys : List Sc} {p : Prop} [Decidable p] (hx : ev L x = some (.agg (xs.map Sc.val).toArray)) (hy : ev L y = some (.agg (ys.map Sc.val).toArray))
    (ht : flatT P t (xs.map Sc.kind) = true) (hk : xs.map Sc.kind = ys.map Sc.kind) (hp : p ↔ all2 xs ys = true) : Does P L (.binOp .neq t x y t') (some (.bool (decide (¬ p)))) w w := by
  have hg : P.eqGuardType P.depth t = false := by unfold flatT at ht; simp only [Bool.and_eq_true, Bool.not_eq_true'] at ht; exact ht.1.2
  refine do_binop hx hy (fun w => run_eqGuard_agg w _ _ _ _ _ _ hg) ?_
  rw [run_neq_struct, run_flat ht hk, Result.andThen_ok]
  have : decide (¬ p) = !(all2 xs ys) := by
    cases h : all2 xs ys
    · exact decide_eq_true (by rw [hp, h]; decide)
    · exact decide_eq_false (by rw [hp, h]; decide)
  rw [this]
end Go.Proofs.YtfmpbbeacpdalaaDoor
