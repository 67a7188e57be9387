/-
  Numbers as bytes, and bytes as numbers: what is put is read, and what is read is put.
-/
import Derived.Test.YtfmpbbeacpdalaaDoorCE
import Derived.Test.YtfmpbbeacpdalaaDoorPut
set_option linter.unusedVariables false
set_option linter.unusedSimpArgs false
namespace Go.Proofs.YtfmpbbeacpdalaaDoor
open Go.RowKit


theorem beN_leN (k : Nat) : ∀ m, beN (leN m k).reverse = m % 256 ^ k := by
  induction k with
  | zero => intro m; simp [leN, beN, Nat.mod_one]
  | succ k ih =>
    intro m
    rw [leN, List.reverse_cons, beN_snoc, ih, Nat.pow_succ, Nat.mul_comm (256 ^ k) 256, Nat.mod_mul]
    simp [Nat.add_comm, Nat.mul_comm]
theorem leN_beN : ∀ (k : Nat) (r : List UInt8), r.length = k → leN (beN r) k = r.reverse := by
  intro k
  induction k with
  | zero => intro r h; simp [leN, List.eq_nil_of_length_eq_zero h]
  | succ k ih =>
    intro r h
    have hne : r ≠ [] := by intro e; simp [e] at h
    obtain ⟨x, hx⟩ : ∃ x, r = r.dropLast ++ [x] := ⟨_, (List.dropLast_concat_getLast hne).symm⟩
    have hl : r.dropLast.length = k := by simp [h]
    rw [hx, beN_snoc, leN, List.reverse_append]
    have h1 : (beN r.dropLast * 256 + x.toNat) / 256 = beN r.dropLast := by have := x.toNat_lt; omega
    have h2 : UInt8.ofNat (beN r.dropLast * 256 + x.toNat) = x := by
      apply UInt8.toNat_inj.1
      have := x.toNat_lt
      simp
    rw [h1, h2, ih _ hl]
    simp
theorem win_told (l1 l2 : List UInt8) (n : Int) (s : Nat) (big : Bool) : win (l1 ++ told n s big ++ l2) l1.length s big = (leN n.toNat s).reverse := by
  have h : ((l1 ++ told n s big ++ l2).drop l1.length).take s = told n s big := by
    rw [List.append_assoc, List.drop_left, List.take_append_of_le_length (by rw [told_length]; exact Nat.le_refl _), List.take_of_length_le (by rw [told_length]; exact Nat.le_refl _)]
  unfold win
  rw [h]
  unfold told
  cases big <;> simp
theorem told_win (l : List UInt8) (at_ s : Nat) (big : Bool) (h : at_ + s ≤ l.length) : told (beN (win l at_ s big) : Int) s big = (l.drop at_).take s := by
  unfold told
  simp only [Int.toNat_natCast]
  rw [leN_beN s _ (win_length l at_ s big h)]
  unfold win
  cases big <;> simp
theorem slice_rd {P : Program} {w : World} {A : Option Addr} {c : Nat} {l : List UInt8} {t : TypeId} {lo hi : Nat} {l' h' : Option Value} (h : Rd w A c l) (ht : sliceT P t 1 = true) (h1 : lo ≤ hi) (h2 : hi ≤ l.length) (h0 : 0 < l.length)
    (hl : (l' = none ∧ lo = 0) ∨ ∃ k, l' = some (.int k (lo : Int))) (hh : (h' = none ∧ hi = l.length) ∨ ∃ k, h' = some (.int k (hi : Int))) (W : World) :
    (Instr.sliceAt t (.slice A l.length c) l' h' none).run P W = .ok (.slice (sub A c lo 1) ((l.drop lo).take (hi - lo)).length (c - lo)) W ∧ Rd w (sub A c lo 1) (c - lo) ((l.drop lo).take (hi - lo)) := by
  have hA : c = lo ∨ A.all (·.spot.isNone) = true := by
    cases A with
    | none => exact .inr rfl
    | some a =>
      right
      simp [h.form a rfl h0]
  have e : ((l.drop lo).take (hi - lo)).length = hi - lo := by simp; omega
  obtain ⟨b, o, hb, _⟩ := h.at_ h0
  obtain ⟨r1, r2⟩ := slice_rdv h.toV ht (by decide) h1 h2 hA hl hh
  obtain ⟨p1, p2, hW⟩ := sliceT_spec ht
  refine ⟨?_, ?_⟩
  · rw [e]
    exact r1 W
  · refine ⟨by rw [e]; have := h.le; omega, by have := h.max; omega, ?_, ?_, ?_⟩
    · exact r2.nil
    · intro a ha h3
      exact r2.form a ha (by
        rw [e] at h3
        simp [bs_length]
        omega)
    · intro j hj a ha
      rw [e] at hj
      have := r2.get j (.int .u8 ((((l.drop lo).take (hi - lo))[j]'(by rw [e]; exact hj)).toNat : Int)) (by
        have hx : ((l.drop lo).take (hi - lo))[j]? = some (((l.drop lo).take (hi - lo))[j]'(by rw [e]; exact hj)) := List.getElem?_eq_getElem _
        have hy : (List.take ((hi - lo) * 1) (List.drop (lo * 1) (bs l))) = bs ((l.drop lo).take (hi - lo)) := by simp [bs, List.map_drop, List.map_take]
        rw [hy]
        simp only [bs, List.getElem?_map, hx, Option.map_some]) a ha
      exact this
section
variable {w w' : World} {A : Option Addr} {c : Nat} {l : List UInt8}

theorem put_e (n size : Int) (big : Bool) (h : Rd w A c l) (hl : l.length ≤ 140737488355000) (h0 : -9223372036854775808 ≤ n) (h1 : n ≤ 9223372036854775807) :
    Calls Tryd.prog 24 [.slice A l.length c, .int .i64 n, .int .i64 size, .bool big].toArray w (Ret fun v w' => ∃ A' c', v = .slice A' (put l n size big).length c' ∧ Rd w' A' c' (put l n size big) ∧ Chg (fun _ => False) w w') :=
  (put_any A c l n size big w h hl h0 h1).mono fun e w' h => by
    obtain ⟨v, rfl, ho, hb⟩ := h
    obtain ⟨A', c', rfl, hr⟩ := ho.rd
    exact ⟨A', c', rfl, hr, Chg.of_new hb⟩
end

theorem put_length (l : List UInt8) (n : Int) (s : Nat) (big : Bool) : (put l n s big).length ≤ l.length + s := by
  unfold put
  split
  · simp [told_length]
  · omega
theorem put_wide_eq (l : List UInt8) (n : Int) (s : Nat) (big : Bool) (h : wide s = true) : put l n s big = l ++ told n s big := by
  unfold put
  rw [if_pos h]
  simp
theorem wide_of {s : Nat} (h : s = 1 ∨ s = 2 ∨ s = 4 ∨ s = 8) : wide s = true := by
  unfold wide
  rcases h with rfl | rfl | rfl | rfl <;> rfl
/-- How great a number of so many bytes may be. -/
theorem put_max {n : Int} {s : Nat} (hs : s = 1 ∨ s = 2 ∨ s = 4 ∨ s = 8) (h1 : n ≤ 9223372036854775807) : n.toNat % 256 ^ s ≤ 9223372036854775807 := by
  rcases hs with rfl | rfl | rfl | rfl
  · have := Nat.mod_lt n.toNat (show 256 ^ 1 > 0 by decide)
    omega
  · have := Nat.mod_lt n.toNat (show 256 ^ 2 > 0 by decide)
    omega
  · have := Nat.mod_lt n.toNat (show 256 ^ 4 > 0 by decide)
    omega
  · have := Nat.mod_le n.toNat (256 ^ 8)
    omega
theorem num_told (l1 l2 : List UInt8) (n : Int) (s : Nat) (big : Bool) (hs : s = 1 ∨ s = 2 ∨ s = 4 ∨ s = 8) (h1 : n ≤ 9223372036854775807) :
    numA (l1 ++ told n s big ++ l2) l1.length s big = .ok (.int .i64 ((n.toNat % 256 ^ s : Nat) : Int)) := by
  unfold numA numV
  rw [wide_of hs]
  have hlen : (l1 ++ told n s big ++ l2).length = l1.length + s + l2.length := by simp [told_length]; omega
  rw [if_neg (by simp), if_neg (by omega)]
  simp only [Int.toNat_natCast, win_told, beN_leN]
  rw [if_pos (put_max hs h1)]
theorem NumOk.num {l : List UInt8} {at_ : Nat} {size : Int} {big : Bool} {m : Nat} (h : NumOk l at_ size big m) : numA l at_ size big = .ok (.int .i64 (m : Int)) := by
  obtain ⟨h1, h2, rfl, h4⟩ := h
  unfold numA numV
  rw [h1, if_neg (by simp), if_neg (by have := wide_cases h1; omega), if_pos h4]
theorem told_all (n : Int) (s : Nat) (big : Bool) (hs : s = 1 ∨ s = 2 ∨ s = 4 ∨ s = 8) (h1 : n ≤ 9223372036854775807) :
    numA (put [] n s big) 0 s big = .ok (.int .i64 ((n.toNat % 256 ^ s : Nat) : Int)) ∧ endA (put [] n s big) (0 + Int.toNat s) = .ok (.tuple #[]) := by
  have h := num_told [] [] n s big hs h1
  rw [put_wide_eq _ _ _ _ (wide_of hs)]
  simp only [List.nil_append, List.append_nil, List.length_nil] at h ⊢
  refine ⟨h, ?_⟩
  unfold endA
  rw [if_neg (by simp [told_length])]
theorem NumNo.not {l : List UInt8} {at_ : Nat} {size : Int} {big : Bool} {k : Nat} {v : Value} (h : NumNo l at_ size big k) (h' : numA l at_ size big = .ok v) : False := by
  have := h.1
  rw [h'] at this
  cases this
theorem NumOk.eq {l : List UInt8} {at_ : Nat} {size : Int} {big : Bool} {m : Nat} {x : Int} (h : NumOk l at_ size big m) (h' : numA l at_ size big = .ok (.int .i64 x)) : (m : Int) = x := by
  have := h.num
  rw [h'] at this
  injection this with this
  injection this with _ this
  exact this.symm
theorem ret_true {w : World} {e : Ending} {w' : World} (h : Ret (fun v w' => v = .bool true ∧ Chg (fun _ => False) w w') e w') : RetTrue w e w' := by
  cases e with
  | returned v =>
    obtain ⟨rfl, hc⟩ := h
    exact ⟨rfl, hc.new⟩
  | panicked ch => exact h.elim
  | outgrown => exact h.elim
theorem same_e {P : Program} {f : FuncId} {args : Array Value} {w : World} {V : Value} (h : Calls P f args w fun e w' => e = .returned V ∧ w = w') : Calls P f args w (Ret fun v w' => v = V ∧ w = w') :=
  h.mono fun e w' h => by
    obtain ⟨rfl, rfl⟩ := h
    exact ⟨rfl, rfl⟩
/-- Try, and that its cursor is dead behind it. -/
theorem try_dead_e {w : World} {A : Option Addr} {c : Nat} {l : List UInt8} {big : Bool} {M : Nat → Prop} (F : FuncId) (cap : Array Value) (S : Except Int Unit → World → Prop) (hr : Rd w A c l) (hM : ∀ k, M k → k < w.heap.size)
    (hF : enters Tryd.prog F = true) (hS : ∀ o w2 w3, S o w2 → Chg (fun k => w.heap.size ≤ k ∧ k < w.heap.size + 3) w2 w3 → S o w3)
    (hread : ∀ W, Chg (fun _ => False) w W → W.heap.size = w.heap.size + 3 → Cur W (w.heap.size + 1) A c l 0 big true → Calls Tryd.prog F (#[.pointer (some ⟨w.heap.size + 1, 0, none⟩)] ++ cap) W (Rdr (w.heap.size + 1) M S W)) :
    Calls Tryd.prog 30 [.slice A l.length c, .bool big, .func (.func F) #[] cap].toArray w (Ret fun v w' => ∃ o, v = .int .i64 (code o) ∧ (S o w' ∧ w'.cell? ⟨w.heap.size + 1, 3, none⟩ = some (.bool false)) ∧ Chg M w w') := by
  refine (try_any A c l big F cap w (fun o w2 => S o w2 ∧ Chg M w w2) hr (fun args W => run_callFunc hF) ?_).mono ?_
  · intro W hB hsz hc
    have hcW := Chg.of_new hB
    refine (hread W hcW hsz hc).mono ?_
    have step : ∀ w', Chg (fun k => M k ∨ k = w.heap.size + 1) W w' → Chg M w w' := fun w' hC =>
      ⟨hC.os.trans hcW.os, hC.tape.trans hcW.tape, hC.output.trans hcW.output, Nat.le_trans hcW.size hC.size, fun k hk hn => (hC.block k (by omega) (by
        rintro (h | h)
        · exact hn h
        · omega)).trans (hcW.block k hk (fun x => x))⟩
    have kept : ∀ w', Chg (fun k => M k ∨ k = w.heap.size + 1) W w' → ∀ i, i < W.heap.size → w.heap.size ≤ i → i ≠ w.heap.size + 1 → w'.heap[i]? = W.heap[i]? := fun w' hC i hi h0 hn => hC.block i hi (by
      rintro (h | h)
      · have := hM i h
        omega
      · exact hn h)
    intro e w' h
    cases e with
    | returned v =>
      obtain ⟨rfl, hS', hC, A', c', l', at', b', li', hc'⟩ := h
      exact ⟨hC.size, kept w' hC, ⟨_, _, _, _, _, _, hc'.block⟩, .inl ⟨rfl, hS', step w' hC⟩⟩
    | panicked ch =>
      obtain ⟨k, hk, rfl, hS', hC, A', c', l', at', b', li', hc'⟩ := h
      exact ⟨hC.size, kept w' hC, ⟨_, _, _, _, _, _, hc'.block⟩, .inr ⟨k, hk, rfl, hS', step w' hC⟩⟩
    | outgrown => exact h.elim
  · rintro e w' ⟨o, w2, ⟨hS', hC⟩, rfl, ht⟩
    refine ⟨o, rfl, ⟨hS o w2 w' hS' ⟨ht.os, ht.tape, ht.output, ht.size, fun k hk hn => ht.block k hk (by omega)⟩, ht.dead⟩, ⟨ht.os.trans hC.os, ht.tape.trans hC.tape, ht.output.trans hC.output, Nat.le_trans hC.size ht.size, fun k hk hn => ?_⟩⟩
    exact (ht.block k (Nat.lt_of_lt_of_le hk hC.size) (.inl hk)).trans (hC.block k hk hn)
theorem Dead.chg {w w' : World} {M : Nat → Prop} {q : Option Addr} (h : Dead w q) (hc : Chg M w w') (hm : ∀ p, q = some ⟨p, 0, none⟩ → ¬ M p) : Dead w' q := by
  rcases h with rfl | ⟨p, rfl, h3⟩
  · exact .inl rfl
  · exact .inr ⟨p, rfl, hc.cell (hm p rfl) h3⟩
theorem RdV.of_obj {w : World} {p n : Nat} {cs : List Value} {t : TypeId} {fr : Nat × Nat} {sz : Nat} (h : w.heap[p]? = some (.cells cs.toArray t fr)) (hl : cs.length = n * sz) (hm : n ≤ 9223372036854775807) : RdV w (some ⟨p, 0, none⟩) n sz n cs :=
  ⟨hl, Nat.le_refl _, hm, (fun e => by cases e), (fun a ha _ => by cases ha; rfl), fun j v hj a ha => by
    cases ha
    have := obj_range h j v hj
    simpa using this⟩
theorem idx_any {P : Program} {w : World} {A : Option Addr} {c sz n : Nat} {cs : List Value} {t : TypeId} {k : IntKind} {i : Int} {j : Nat} (h : RdV w A c sz n cs) (ht : sliceT P t sz = true) (hsz : 0 < sz) (hi : i = (j : Int)) (hj : j < n) (W : World) : (Instr.indexAt t (.slice A n c) (.int k i)).run P W = .ok (.pointer (pt A (j * sz))) W := by
  obtain ⟨e, f, he, hf, hfs⟩ := sliceT_spec ht
  have hlen : 0 < cs.length := by
    rw [h.len]
    exact Nat.mul_pos (by omega) hsz
  obtain ⟨b, o, rfl⟩ := h.at_ hlen
  subst hi
  have h1 : (0 : Int) ≤ (j : Int) ∧ (j : Int) < (n : Int) := by omega
  simp [Instr.indexAt, asIntOf, Sem.run_bind, run_underlying he, sizeOf, typeInfo, hf, hfs, h1.2, pt, add_plain, hj]
end Go.Proofs.YtfmpbbeacpdalaaDoor
