/-
  The cursor's contracts for the walk by steps; Try over whatever reader.
-/
import Derived.Test.YtfmpbbeacpdalaaDoorG
import Derived.Test.YtfmpbbeacpdalaaDoorCurLaw
set_option linter.unusedVariables false
set_option linter.unusedSimpArgs false
namespace Go.Proofs.YtfmpbbeacpdalaaDoor
open Go.RowKit


/-- No cell is a byte. -/
def noByte (cs : List Value) : Bool := cs.all fun v => match v with
  | .int .u8 _ => false
  | _ => true
section
variable {w w' : World} {p q : Nat} {A : Option Addr} {c : Nat} {l : List UInt8} {at_ : Nat} {big live : Bool} {M : Nat → Prop}

theorem Rd.ne {cs : List Value} {t : TypeId} {fr : Nat × Nat} (h : Rd w A c l) (ho : w.heap[q]? = some (.cells cs.toArray t fr)) (hb : noByte cs = true) : ∀ a, A = some a → 0 < l.length → a.block ≠ q := by
  intro a ha hl e
  have hc := h.get 0 hl a ha
  rw [e, obj_cell ho] at hc
  have hm : Value.int .u8 (l[0].toNat : Int) ∈ cs := by
    have := List.mem_of_getElem? (by simpa using hc : cs[a.off + 0]? = some _)
    simpa using this
  have := List.all_eq_true.1 hb _ hm
  simp at this
theorem Rd.chgNe (h : Rd w A c l) (hc : Chg M w w') (hm : ∀ a, A = some a → 0 < l.length → ¬ M a.block) : Rd w' A c l :=
  ⟨h.le, h.max, h.nil, h.form, fun j hj a ha => hc.cell (hm a ha (by omega)) (h.get j hj a ha)⟩
theorem Cur.chg (h : Cur w p A c l at_ big live) (hc : Chg M w w') (hp : ¬ M p) (hm : ∀ a, A = some a → 0 < l.length → ¬ M a.block) : Cur w' p A c l at_ big live :=
  ⟨hc.obj hp h.block, h.rd.chgNe hc hm, h.ne⟩
/-- Told: a number, or why there is none. -/
def NumOk (l : List UInt8) (at_ : Nat) (size : Int) (big : Bool) (m : Nat) : Prop := wide size = true ∧ at_ + size.toNat ≤ l.length ∧ m = beN (win l at_ size.toNat big) ∧ m ≤ 9223372036854775807
def NumNo (l : List UInt8) (at_ : Nat) (size : Int) (big : Bool) (k : Nat) : Prop := numA l at_ size big = .error k ∧ k ≠ 0
theorem number_e (size : Int) (h : Cur w p A c l at_ big true) (hat : at_ ≤ l.length) : Calls Tryd.prog 32 [.pointer (some ⟨p, 0, none⟩), .int .i64 size].toArray w
    (Out (fun v w' => ∃ m : Nat, v = .int .i64 (m : Int) ∧ NumOk l at_ size big m ∧ Cur w' p A c l (at_ + size.toNat) big true ∧ Chg (fun k => k = p) w w')
      (fun ch w' => ∃ k : Nat, ch = gave k ∧ NumNo l at_ size big k ∧ Cur w' p A c l at_ big true ∧ Chg (fun k => k = p) w w')) := by
  refine (number_any p A c l at_ big size w h hat).mono ?_
  rintro e w' ⟨hg, hq⟩
  have hC : Chg (fun k => k = p) w w' := (Chg.of_row hg).mono fun k _ e => by simpa using e
  cases hn : numA l at_ size big with
  | ok v =>
    rw [hn] at hq
    obtain ⟨rfl, hc⟩ := hq
    unfold numA numV at hn
    split at hn
    · cases hn
    · rename_i hw
      split at hn
      · cases hn
      · rename_i hs
        split at hn
        · rename_i hm
          cases hn
          exact ⟨_, rfl, ⟨by simpa using hw, by omega, rfl, hm⟩, hc, hC⟩
        · cases hn
  | error k =>
    rw [hn] at hq
    obtain ⟨rfl, hc⟩ := hq
    refine ⟨k, rfl, ⟨hn, ?_⟩, hc, hC⟩
    unfold numA numV at hn
    split at hn
    · cases hn
      decide
    · split at hn
      · cases hn
        decide
      · split at hn
        · cases hn
        · cases hn
          decide
theorem unit_e {f : FuncId} {args : Array Value} {to_ : Nat} {r : Except Nat Value} (hr : ∀ v, r = .ok v → v = .tuple #[]) (h : Calls Tryd.prog f args w (Asked w p A c l at_ big to_ r)) : Calls Tryd.prog f args w
    (Out (fun v w' => v = .tuple #[] ∧ r = .ok (.tuple #[]) ∧ Cur w' p A c l to_ big true ∧ Chg (fun k => k = p) w w')
      (fun ch w' => ∃ k : Nat, ch = gave k ∧ r = .error k ∧ Cur w' p A c l at_ big true ∧ Chg (fun k => k = p) w w')) := by
  refine h.mono ?_
  rintro e w' ⟨hg, hq⟩
  have hC : Chg (fun k => k = p) w w' := (Chg.of_row hg).mono fun k _ e => by simpa using e
  cases r with
  | ok v =>
    obtain ⟨rfl, hc⟩ := hq
    have := hr v rfl
    subst this
    exact ⟨rfl, rfl, hc, hC⟩
  | error k =>
    obtain ⟨rfl, hc⟩ := hq
    exact ⟨k, rfl, rfl, hc, hC⟩
/-- What a reader does: it ends as S says, writes the cursor in block p, and blocks of M. -/
def Rdr (p : Nat) (M : Nat → Prop) (S : Except Int Unit → World → Prop) (W : World) : Ending → World → Prop :=
  Out (fun v w' => v = .tuple #[] ∧ S (.ok ()) w' ∧ Chg (fun k => M k ∨ k = p) W w' ∧ ∃ A c l at_ big live, Cur w' p A c l at_ big live)
    (fun ch w' => ∃ k : Int, k ≠ 0 ∧ ch = gave k ∧ S (.error k) w' ∧ Chg (fun k => M k ∨ k = p) W w' ∧ ∃ A c l at_ big live, Cur w' p A c l at_ big live)
theorem try_e (F : FuncId) (cap : Array Value) (S : Except Int Unit → World → Prop) (hr : Rd w A c l) (hM : ∀ k, M k → k < w.heap.size)
    (hF : enters Tryd.prog F = true) (hS : ∀ o w2 w3, S o w2 → Chg (fun k => w.heap.size ≤ k ∧ k < w.heap.size + 3) w2 w3 → S o w3)
    (hread : ∀ W, Chg (fun _ => False) w W → W.heap.size = w.heap.size + 3 → Cur W (w.heap.size + 1) A c l 0 big true → Calls Tryd.prog F (#[.pointer (some ⟨w.heap.size + 1, 0, none⟩)] ++ cap) W (Rdr (w.heap.size + 1) M S W)) :
    Calls Tryd.prog 30 [.slice A l.length c, .bool big, .func (.func F) #[] cap].toArray w (Ret fun v w' => ∃ o, v = .int .i64 (code o) ∧ S o w' ∧ Chg M w w') := by
  refine (try_any A c l big F cap w (fun o w2 => S o w2 ∧ Chg M w w2) hr (fun args W => run_callFunc hF) ?_).mono ?_
  · intro W hB hsz hc
    have hcW := Chg.of_new hB
    refine (hread W hcW hsz hc).mono ?_
    have step : ∀ w', Chg (fun k => M k ∨ k = w.heap.size + 1) W w' → Chg M w w' := fun w' hC =>
      ⟨hC.os.trans hcW.os, hC.tape.trans hcW.tape, hC.output.trans hcW.output, Nat.le_trans hcW.size hC.size, fun k hk hn => (hC.block k (by omega) (by
        rintro (h | h)
        · exact hn h
        · omega)).trans (hcW.block k hk (fun x => x))⟩
    have kept : ∀ w', Chg (fun k => M k ∨ k = w.heap.size + 1) W w' → ∀ i, i < W.heap.size → w.heap.size ≤ i → i ≠ w.heap.size + 1 → w'.heap[i]? = W.heap[i]? := fun w' hC i hi h0 hn => hC.block i hi (by
      rintro (h | h)
      · have := hM i h
        omega
      · exact hn h)
    intro e w' h
    cases e with
    | returned v =>
      obtain ⟨rfl, hS', hC, A', c', l', at', b', li', hc'⟩ := h
      exact ⟨hC.size, kept w' hC, ⟨_, _, _, _, _, _, hc'.block⟩, .inl ⟨rfl, hS', step w' hC⟩⟩
    | panicked ch =>
      obtain ⟨k, hk, rfl, hS', hC, A', c', l', at', b', li', hc'⟩ := h
      exact ⟨hC.size, kept w' hC, ⟨_, _, _, _, _, _, hc'.block⟩, .inr ⟨k, hk, rfl, hS', step w' hC⟩⟩
    | outgrown => exact h.elim
  · rintro e w' ⟨o, w2, ⟨hS', hC⟩, rfl, ht⟩
    refine ⟨o, rfl, hS o w2 w' hS' ⟨ht.os, ht.tape, ht.output, ht.size, fun k hk hn => ht.block k hk (by omega)⟩, ⟨ht.os.trans hC.os, ht.tape.trans hC.tape, ht.output.trans hC.output, Nat.le_trans hC.size ht.size, fun k hk hn => ?_⟩⟩
    exact (ht.block k (Nat.lt_of_lt_of_le hk hC.size) (.inl hk)).trans (hC.block k hk hn)
end
end Go.Proofs.YtfmpbbeacpdalaaDoor
