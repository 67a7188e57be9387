/-
  append, for rows of bytes of the call's own, in the walk by steps.
-/
import Derived.Test.YtfmpbbeacpdalaaDoorZeros
import Derived.Lib.AppendStr
set_option linter.unusedVariables false
set_option linter.unusedSimpArgs false
namespace Go.Proofs.YtfmpbbeacpdalaaDoor
open Go.RowKit Go.Lib


/-- Noughts. -/
abbrev zeros (n : Nat) : List UInt8 := List.replicate n 0
section
variable {w : World} {base : Nat} {v : Value} {l m : List UInt8} {A : Option Addr} {c : Nat}

theorem OwB.nilRow (w : World) (base : Nat) : OwB w base (.slice none 0 0) [] := World.ownsRow_nil _ _ _ _
theorem OwB.of_obj {p : Nat} {cs : List Value} (h : w.heap[p]? = some (.cells cs.toArray 5 (0, 0))) (hcs : cs = bs l) (hb : base ≤ p) (hl : l.length ≤ 9223372036854775807) : OwB w base (.slice (some ⟨p, 0, none⟩) l.length l.length) l := by
  subst hcs
  exact ⟨by simp [bs_length], .inr ⟨p, l.length, (bs l).toArray, rfl, hb, h, Nat.le_refl _, by simpa [maxLen] using hl, by simp [bs_length], by simp [List.take_of_length_le, bs_length]⟩⟩
theorem Rd.of_obj {p : Nat} {cs : List Value} {t : TypeId} {fr : Nat × Nat} (h : w.heap[p]? = some (.cells cs.toArray t fr)) (hcs : cs = bs l) (hl : l.length ≤ 9223372036854775807) : Rd w (some ⟨p, 0, none⟩) l.length l := by
  subst hcs
  refine ⟨Nat.le_refl _, hl, (fun e => by cases e), (fun a ha _ => by cases ha; rfl), fun j hj a ha => ?_⟩
  cases ha
  have := obj_range h j (.int .u8 (l[j].toNat : Int)) (by simp [bs, List.getElem?_eq_getElem hj])
  simpa using this
theorem app_run (own : OwB w base v l) (rd : Rd w A c m) (hb : base ≤ w.heap.size) (hlen : l.length + m.length ≤ 140737488355328) :
    ∃ v' w', (∀ ty cs, (builtin .append #[24, 24] ty cs #[v, .slice A m.length c]).run Tryd.prog w = .ok (.value v') w') ∧ OwB w' base v' (l ++ m) ∧ Chg (fun k => some k = v.ownBlock) w w' := by
  obtain ⟨i0, hi, hz0, hz1, hz2⟩ := info_parts Tryd.infoB
  cases A with
  | some ad =>
    obtain ⟨v', w', hr, ho, hg, _⟩ := run_append_own (P := Tryd.prog) w base 24 0 5 i0 (.int .u8 0) 1 1 Tryd.underlying24 hi hz0 hz1 hz2 rfl (by decide) v l.length (bs l) own ad m.length c (bs m) (by simp [bs_length]) (by
      intro j u hu
      obtain ⟨hj, rfl⟩ := bs_get m j u hu
      obtain ⟨b, o', e, hc⟩ := rd.at_ hj
      cases e
      rw [add_plain]
      exact hc) (bs_one m) (by simp [maxLen]; omega) (by omega) hb
    refine ⟨v', w', fun ty cs => ?_, ?_, Chg.of_row hg⟩
    · show ((Builtin.append_ #[24, 24] 0 #[v, .slice (some ad) m.length c]) >>= fun x => pure (Next.value x)).run Tryd.prog w = _
      rw [Sem.run_bind, hr]
      rfl
    · unfold OwB
      rw [bs_append, List.length_append]
      exact ho
  | none =>
    have hc := rd.nil rfl
    have hm : m = [] := List.eq_nil_of_length_eq_zero (by have := rd.le; omega)
    subst hm
    subst hc
    have hr := run_append_owned_none (P := Tryd.prog) w base 24 0 5 i0 1 Tryd.underlying24 hi v l.length (bs l) own
    refine ⟨v, w, fun ty cs => ?_, by simpa using own, Chg.refl _ _⟩
    show ((Builtin.append_ #[24, 24] 0 #[v, .slice none 0 0]) >>= fun x => pure (Next.value x)).run Tryd.prog w = _
    rw [Sem.run_bind, hr]
    rfl
theorem bs_zeros (m : Nat) : (Builtin.zeroCells #[Value.int .u8 0] m).toList = bs (List.replicate m 0) := by
  apply List.ext_getElem
  · simp [Builtin.zeroCells, bs]
  · intro i h1 h2
    simp [Builtin.zeroCells, bs, Nat.mod_one]
theorem app_zeros (own : OwB w base v l) (m : Nat) (hb : base ≤ w.heap.size) (hlen : l.length + m ≤ 140737488355328) :
    ∃ v' w', (∀ ty cs, (builtin .append #[24, 3] ty cs #[v, .int .i64 (m : Int)]).run Tryd.prog w = .ok (.value v') w') ∧ OwB w' base v' (l ++ List.replicate m 0) ∧ Chg (fun k => some k = v.ownBlock) w w' := by
  obtain ⟨i0, hi, hz0, hz1, hz2⟩ := info_parts Tryd.infoB
  obtain ⟨v', w', hr, ho, hg, _⟩ := run_append_zeros (P := Tryd.prog) w base 24 3 0 5 i0 (.int .u8 0) 1 1 Tryd.underlying24 Tryd.underlying3 hi hz0 hz1 hz2 rfl (by decide) (by decide) v l.length (bs l) own .i64 m (by
    intro u hu
    rw [show (Value.int IntKind.u8 0).cells = #[Value.int .u8 0] from rfl, bs_zeros] at hu
    exact bs_one _ u hu) (by omega) hb
  refine ⟨v', w', fun ty cs => ?_, ?_, Chg.of_row hg⟩
  · show ((Builtin.append_ #[24, 3] 0 #[v, .int .i64 (m : Int)]) >>= fun x => pure (Next.value x)).run Tryd.prog w = _
    rw [Sem.run_bind, hr]
    rfl
  · unfold OwB
    rw [bs_append, List.length_append, List.length_replicate]
    rw [show (Value.int IntKind.u8 0).cells = #[Value.int .u8 0] from rfl, bs_zeros] at ho
    exact ho
theorem strCells_str (m : List UInt8) : strCells (str m) = bs m := by
  unfold strCells str bs
  simp
theorem app_str (own : OwB w base v l) (m : List UInt8) (hb : base ≤ w.heap.size) (hlen : l.length + m.length ≤ 140737488355328) :
    ∃ v' w', (∀ ty cs, (builtin .append #[24, 9] ty cs #[v, .string (str m)]).run Tryd.prog w = .ok (.value v') w') ∧ OwB w' base v' (l ++ m) ∧ Chg (fun k => some k = v.ownBlock) w w' := by
  obtain ⟨i0, hi, hz0, hz1, hz2⟩ := info_parts Tryd.infoB
  have hsz : (str m).size = m.length := by simp [str, ByteArray.size]
  obtain ⟨v', w', hr, ho, hg, _⟩ := run_append_own_string (P := Tryd.prog) w base 24 9 0 5 i0 Tryd.underlying24 Tryd.underlying9 hi hz0 hz1 hz2 v l.length (bs l) own (str m) (by simp [maxLen, hsz]; omega) (by omega) hb
  refine ⟨v', w', fun ty cs => ?_, ?_, Chg.of_row hg⟩
  · show ((Builtin.append_ #[24, 9] 0 #[v, .string (str m)]) >>= fun x => pure (Next.value x)).run Tryd.prog w = _
    rw [Sem.run_bind, hr]
    rfl
  · unfold OwB
    rw [bs_append, List.length_append, ← hsz, ← strCells_str]
    exact ho
theorem OwB.chg {w' : World} {M : Nat → Prop} (h : OwB w base v l) (hc : Chg M w w') (hm : ∀ k, v.ownBlock = some k → ¬ M k) : OwB w' base v l := by
  refine ⟨h.1, ?_⟩
  rcases h.2 with h1 | ⟨g, cap, cur, e, hg, hh, r⟩
  · exact .inl h1
  · refine .inr ⟨g, cap, cur, e, hg, hc.obj (hm g ?_) hh, r⟩
    rw [e]
    rfl
end
end Go.Proofs.YtfmpbbeacpdalaaDoor
