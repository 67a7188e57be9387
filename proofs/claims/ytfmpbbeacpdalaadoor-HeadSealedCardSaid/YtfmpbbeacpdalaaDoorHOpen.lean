/-
  A file's header, opened.
-/
import Derived.Test.YtfmpbbeacpdalaaDoorHPut
import Derived.Test.YtfmpbbeacpdalaaDoorCE2
import Derived.OpenShut
set_option linter.unusedVariables false
set_option linter.unusedSimpArgs false
set_option maxRecDepth 100000
namespace Go.Proofs.YtfmpbbeacpdalaaDoor
open Go.RowKit

/-- These bytes begin with this header. -/
def HdrOf (l : List UInt8) (big : Bool) (first : Int) : Prop := (first = 0 ∨ PlaceP first big) ∧ 0 ≤ first ∧ first ≤ 9223372036854775807 ∧ ∃ rest, l = hdr big first ++ rest
structure HdrF (l : List UInt8) (big : Bool) (first : Int) : Prop where
  len : 8 ≤ l.length
  lenb : big = true → 16 ≤ l.length
  n0 : numA l 0 2 false = .ok (.int .i64 18761)
  n2 : numA l 2 2 false = .ok (.int .i64 (if big then 43 else 42))
  n4 : big = true → numA l 4 4 false = .ok (.int .i64 8)
  m4 : big = false → numA l 4 4 false = .ok (.int .i64 first)
  n8 : big = true → numA l 8 8 false = .ok (.int .i64 first)
  pl : first = 0 ∨ PlaceP first big
theorem hdr_facts {l : List UInt8} {big : Bool} {first : Int} (h : HdrOf l big first) : HdrF l big first := by
  obtain ⟨hp, h0, h1, rest, rfl⟩ := h
  have hl := hdr_length big first
  cases big with
  | true =>
    have e8 : ((first.toNat % 256 ^ 8 : Nat) : Int) = first := by
      rw [Nat.mod_eq_of_lt (by have : (256 : Nat) ^ 8 = 18446744073709551616 := by decide
                               omega)]
      omega
    have hn := num_told [73, 73, 43, 0, 8, 0, 0, 0] rest first 8 false (by simp) h1
    rw [e8] at hn
    refine ⟨?_, ?_, ?_, ?_, ?_, ?_, ?_, hp⟩
    · simp [hl]; omega
    · intro _; simp [hl]
    · simp [numA, numV, wide, win, hdr, beN, told_length]; omega
    · simp [numA, numV, wide, win, hdr, beN, told_length]; omega
    · intro _; simp [numA, numV, wide, win, hdr, beN, told_length]; omega
    · intro h; cases h
    · intro _
      exact hn
  | false =>
    have hlt : first < 4294967296 := by
      rcases hp with rfl | hp
      · decide
      · exact hp.2.2
    have e4 : ((first.toNat % 256 ^ 4 : Nat) : Int) = first := by
      rw [Nat.mod_eq_of_lt (by have : (256 : Nat) ^ 4 = 4294967296 := by decide
                               omega)]
      omega
    have hn := num_told [73, 73, 42, 0] rest first 4 false (by simp) h1
    rw [e4] at hn
    refine ⟨?_, ?_, ?_, ?_, ?_, ?_, ?_, hp⟩
    · simp [hl]
    · intro h; cases h
    · simp [numA, numV, wide, win, hdr, beN, told_length]; omega
    · simp [numA, numV, wide, win, hdr, beN, told_length]; omega
    · intro h; cases h
    · intro _
      exact hn
    · intro h; cases h
/-- How a header's reader ends. -/
def OpenS (l : List UInt8) (o : Except Int Unit) (bg : Bool) (f : Int) : Prop :=
  (∃ k : Int, k ≠ 0 ∧ o = .error k ∧ ∀ big first, ¬ HdrOf l big first) ∨ (o = .ok () ∧ (0 ≤ f ∧ f ≤ 9223372036854775807) ∧ ∀ big first, HdrOf l big first → bg = big ∧ f = first)

theorem open1_e (p q1 q2 : Nat) (A : Option Addr) (c : Nat) (l : List UInt8) (x1 : Bool) (x2 : Int) (w : World) (hc : Cur w p A c l 0 false true) (h1 : w.heap[q1]? = some (.cells #[.bool x1] 4 (0, 0))) (h2 : w.heap[q2]? = some (.cells #[.int .i64 x2] 3 (0, 0))) (hq : q1 < p ∧ q2 < p ∧ q1 ≠ q2) (hll : l.length ≤ 1000000) :
    Calls Tryd.prog 42 [.pointer (some ⟨p, 0, none⟩), .pointer (some ⟨q1, 0, none⟩), .pointer (some ⟨q2, 0, none⟩)].toArray w
      (Rdr p (fun k => k = q1 ∨ k = q2) (fun o w' => ∃ bg f, w'.heap[q1]? = some (.cells #[.bool bg] 4 (0, 0)) ∧ w'.heap[q2]? = some (.cells #[.int .i64 f] 3 (0, 0)) ∧ OpenS l o bg f) w) := by
  refine enter (n := 54) (L := [(0, .pointer (some ⟨p, 0, none⟩)), (1, .pointer (some ⟨q1, 0, none⟩)), (2, .pointer (some ⟨q2, 0, none⟩))]) (args := [.pointer (some ⟨p, 0, none⟩), .pointer (some ⟨q1, 0, none⟩), .pointer (some ⟨q2, 0, none⟩)]) Tryd.func42 rfl rfl (Nat.le_of_ble_eq_true rfl) (by intro t v h; exact look_args h) ?_
  refine t_body (fun Q0 hB0 hQ0 => ?_)
  refine t_seq (fun K1 hK1 => ?_)
  refine t_seq (fun K2 hK2 => ?_)
  refine t_region ?_
  refine tl_val (w' := w) rfl (do_move rfl) (by decide) ?_
  refine tl_call rfl (en_call (f := 43) (by kernel_rfl) rfl) rfl (left_e hc (by omega)) (fun v6 w4 hr5 => ?_) (fun _ _ h => h.elim) (fun _ h => h)
  obtain ⟨rfl, hcur3, hchg3⟩ := hr5
  have hz7 := hchg3.size
  refine tl_val (w' := w4) rfl (do_lss rfl rfl) (by decide) ?_
  refine tl_end ?_
  refine fun a_ ha_ => hK2 _ _ _ (T.sub (L' := [(0, .pointer (some ⟨p, 0, none⟩)), (1, .pointer (some ⟨q1, 0, none⟩)), (2, .pointer (some ⟨q2, 0, none⟩)), (9, .bool (decide (((l.length : Int) - (0 : Int)) < 8)))]) ?_ (sub_cons rfl (sub_cons rfl (sub_cons rfl (sub_cons rfl sub_nil))))) a_ ha_
  by_cases hc8 : ((l.length : Int) - (0 : Int)) < 8
  · have hk9 := decide_eq_true hc8
    refine t_yes rfl hk9 ?_
    refine t_region ?_
    refine tl_val (w' := w4) rfl (do_move rfl) (by decide) ?_
    refine tl_call rfl (en_call (f := 44) (by kernel_rfl) rfl) rfl (fails_e 3 (by decide) hcur3.c3) (fun _ _ h => h.elim) ?_ (fun _ h => h)
    intro ch_ w_ h_
    refine fun a_ ha_ => hQ0 _ _ _ (body_panic ha_ ?_)
    obtain ⟨rfl, rfl⟩ := h_
    have h13 := (hchg3.obj (fun x => x) h1)
    have h14 := (hchg3.obj (fun x => x) h2)
    refine ⟨3, by decide, rfl, ⟨_, _, h13, h14, .inl ⟨_, by decide, rfl, ?_⟩⟩, ((Chg.refl (fun k_ => (k_ = q1 ∨ k_ = q2) ∨ k_ = p) w).step hchg3 (fun k_ hk_ (h_ : False) => h_.elim)), _, _, _, _, _, _, hcur3⟩
    intro big_ first_ h2_
    have F_ := hdr_facts h2_
    cases big_ with
    | true =>
      have hl_ := F_.len
      have hp_ := F_.pl
      have hb_ := F_.lenb rfl
      first | omega
    | false =>
      have hl_ := F_.len
      have hp_ := F_.pl
      first | omega
  · have hk9 := decide_eq_false hc8
    refine t_no rfl hk9 ?_
    refine t_skip ?_
    refine fun a_ ha_ => hK1 _ _ _ (T.sub (L' := [(0, .pointer (some ⟨p, 0, none⟩)), (1, .pointer (some ⟨q1, 0, none⟩)), (2, .pointer (some ⟨q2, 0, none⟩)), (9, .bool (decide (((l.length : Int) - (0 : Int)) < 8)))]) ?_ (sub_cons rfl (sub_cons rfl (sub_cons rfl (sub_cons rfl sub_nil))))) a_ ha_
    refine t_seq (fun K15 hK15 => ?_)
    refine t_region ?_
    refine tl_val (w' := w4) rfl (do_move rfl) (by decide) ?_
    refine tl_call rfl (en_call (f := 32) (by kernel_rfl) rfl) rfl (number_e 2 hcur3 (by omega)) (fun v19 w17 hr18 => ?_) ?_ (fun _ h => h)
    · obtain ⟨m16, rfl, hnum16, hcur16, hchg16⟩ := hr18
      have hz20 := hchg16.size
      have hle16 := hnum16.2.1
      have hlm16 := hnum16.2.2.2
      refine tl_val (w' := w17) rfl (do_move rfl) (by decide) ?_
      refine tl_call rfl (en_call (f := 32) (by kernel_rfl) rfl) rfl (number_e 2 hcur16 (by omega)) (fun v24 w22 hr23 => ?_) ?_ (fun _ h => h)
      · obtain ⟨m21, rfl, hnum21, hcur21, hchg21⟩ := hr23
        have hz25 := hchg21.size
        have hle21 := hnum21.2.1
        have hlm21 := hnum21.2.2.2
        refine tl_val (w' := w22) rfl (do_assign rfl) (by decide) ?_
        refine tl_val (w' := w22) rfl (do_assign rfl) (by decide) ?_
        refine tl_end ?_
        refine fun a_ ha_ => hK15 _ _ _ (T.sub (L' := [(0, .pointer (some ⟨p, 0, none⟩)), (1, .pointer (some ⟨q1, 0, none⟩)), (2, .pointer (some ⟨q2, 0, none⟩)), (4, .int .i64 (m16 : Int)), (5, .int .i64 (m21 : Int)), (9, .bool (decide (((l.length : Int) - (0 : Int)) < 8)))]) ?_ (sub_cons rfl (sub_cons rfl (sub_cons rfl (sub_cons rfl (sub_cons rfl (sub_cons rfl sub_nil))))))) a_ ha_
        refine t_seq (fun K26 hK26 => ?_)
        refine t_seq (fun K27 hK27 => ?_)
        refine t_region ?_
        refine tl_val (w' := w22) rfl (do_move rfl) (by decide) ?_
        refine tl_val (w' := w22) rfl (do_neq rfl rfl) (by decide) ?_
        refine tl_val (w' := w22) rfl (do_move rfl) (by decide) ?_
        by_cases hc28 : (m16 : Int) ≠ 18761
        · have hk29 := decide_eq_true hc28
          refine tl_skipU ⟨18, _, rfl, rfl, (by rw [hk29]; rfl)⟩ (by decide) ?_
          refine tl_skipU ⟨18, _, rfl, rfl, (by rw [hk29]; rfl)⟩ (by decide) ?_
          refine tl_skipU ⟨18, _, rfl, rfl, (by rw [hk29]; rfl)⟩ (by decide) ?_
          refine tl_skipU ⟨21, _, rfl, rfl, rfl⟩ (by decide) ?_
          refine tl_skipU ⟨21, _, rfl, rfl, rfl⟩ (by decide) ?_
          refine tl_skipU ⟨18, _, rfl, rfl, (by rw [hk29]; rfl)⟩ (by decide) ?_
          refine tl_val (w' := w22) rfl (do_pick_t rfl hk29 rfl) (by decide) ?_
          refine tl_end ?_
          refine fun a_ ha_ => hK27 _ _ _ (T.sub (L' := [(0, .pointer (some ⟨p, 0, none⟩)), (1, .pointer (some ⟨q1, 0, none⟩)), (2, .pointer (some ⟨q2, 0, none⟩)), (4, .int .i64 (m16 : Int)), (5, .int .i64 (m21 : Int)), (9, .bool (decide (((l.length : Int) - (0 : Int)) < 8))), (25, .bool true)]) ?_ (sub_cons rfl (sub_cons rfl (sub_cons rfl (sub_cons rfl (sub_cons rfl (sub_cons rfl (sub_cons rfl sub_nil)))))))) a_ ha_
          refine t_yes rfl rfl ?_
          refine t_region ?_
          refine tl_val (w' := w22) rfl (do_move rfl) (by decide) ?_
          refine tl_call rfl (en_call (f := 44) (by kernel_rfl) rfl) rfl (fails_e 4 (by decide) hcur21.c3) (fun _ _ h => h.elim) ?_ (fun _ h => h)
          intro ch_ w_ h_
          refine fun a_ ha_ => hQ0 _ _ _ (body_panic ha_ ?_)
          obtain ⟨rfl, rfl⟩ := h_
          have h33 := (hchg21.obj (show ¬ q1 = p by omega) (hchg16.obj (show ¬ q1 = p by omega) (hchg3.obj (fun x => x) h1)))
          have h34 := (hchg21.obj (show ¬ q2 = p by omega) (hchg16.obj (show ¬ q2 = p by omega) (hchg3.obj (fun x => x) h2)))
          refine ⟨4, by decide, rfl, ⟨_, _, h33, h34, .inl ⟨_, by decide, rfl, ?_⟩⟩, ((((Chg.refl (fun k_ => (k_ = q1 ∨ k_ = q2) ∨ k_ = p) w).step hchg3 (fun k_ hk_ (h_ : False) => h_.elim)).step hchg16 (fun k_ hk_ (h_ : k_ = p) => (show (k_ = q1 ∨ k_ = q2) ∨ k_ = p by omega))).step hchg21 (fun k_ hk_ (h_ : k_ = p) => (show (k_ = q1 ∨ k_ = q2) ∨ k_ = p by omega))), _, _, _, _, _, _, hcur21⟩
          intro big_ first_ h2_
          have F_ := hdr_facts h2_
          have e0_ := NumOk.eq hnum16 F_.n0
          have e1_ := NumOk.eq hnum21 F_.n2
          cases big_ with
          | true =>
            have hl_ := F_.len
            have hp_ := F_.pl
            have hb_ := F_.lenb rfl
            simp only [if_true, if_false, Bool.false_eq_true] at e1_
            first | omega
          | false =>
            have hl_ := F_.len
            have hp_ := F_.pl
            simp only [if_true, if_false, Bool.false_eq_true] at e1_
            first | omega
        · have hk29 := decide_eq_false hc28
          refine tl_val (w' := w22) ⟨18, _, rfl, rfl, (by rw [hk29]; rfl)⟩ (do_move rfl) (by decide) ?_
          refine tl_val (w' := w22) ⟨18, _, rfl, rfl, (by rw [hk29]; rfl)⟩ (do_neq rfl rfl) (by decide) ?_
          refine tl_val (w' := w22) ⟨18, _, rfl, rfl, (by rw [hk29]; rfl)⟩ (do_move rfl) (by decide) ?_
          by_cases hc35 : (m21 : Int) ≠ 42
          · have hk36 := decide_eq_true hc35
            refine tl_val (w' := w22) ⟨21, _, rfl, rfl, (by rw [hk36]; rfl)⟩ (do_move rfl) (by decide) ?_
            refine tl_val (w' := w22) ⟨21, _, rfl, rfl, (by rw [hk36]; rfl)⟩ (do_neq rfl rfl) (by decide) ?_
            refine tl_val (w' := w22) ⟨18, _, rfl, rfl, (by rw [hk29]; rfl)⟩ (do_pick_t rfl hk36 rfl) (by decide) ?_
            refine tl_val (w' := w22) rfl (do_pick_f rfl hk29 rfl) (by decide) ?_
            refine tl_end ?_
            refine fun a_ ha_ => hK27 _ _ _ (T.sub (L' := [(0, .pointer (some ⟨p, 0, none⟩)), (1, .pointer (some ⟨q1, 0, none⟩)), (2, .pointer (some ⟨q2, 0, none⟩)), (4, .int .i64 (m16 : Int)), (5, .int .i64 (m21 : Int)), (9, .bool (decide (((l.length : Int) - (0 : Int)) < 8))), (25, .bool (decide ((m21 : Int) ≠ 43)))]) ?_ (sub_cons rfl (sub_cons rfl (sub_cons rfl (sub_cons rfl (sub_cons rfl (sub_cons rfl (sub_cons rfl sub_nil)))))))) a_ ha_
            by_cases hc37 : (m21 : Int) ≠ 43
            · have hk38 := decide_eq_true hc37
              refine t_yes rfl hk38 ?_
              refine t_region ?_
              refine tl_val (w' := w22) rfl (do_move rfl) (by decide) ?_
              refine tl_call rfl (en_call (f := 44) (by kernel_rfl) rfl) rfl (fails_e 4 (by decide) hcur21.c3) (fun _ _ h => h.elim) ?_ (fun _ h => h)
              intro ch_ w_ h_
              refine fun a_ ha_ => hQ0 _ _ _ (body_panic ha_ ?_)
              obtain ⟨rfl, rfl⟩ := h_
              have h42 := (hchg21.obj (show ¬ q1 = p by omega) (hchg16.obj (show ¬ q1 = p by omega) (hchg3.obj (fun x => x) h1)))
              have h43 := (hchg21.obj (show ¬ q2 = p by omega) (hchg16.obj (show ¬ q2 = p by omega) (hchg3.obj (fun x => x) h2)))
              refine ⟨4, by decide, rfl, ⟨_, _, h42, h43, .inl ⟨_, by decide, rfl, ?_⟩⟩, ((((Chg.refl (fun k_ => (k_ = q1 ∨ k_ = q2) ∨ k_ = p) w).step hchg3 (fun k_ hk_ (h_ : False) => h_.elim)).step hchg16 (fun k_ hk_ (h_ : k_ = p) => (show (k_ = q1 ∨ k_ = q2) ∨ k_ = p by omega))).step hchg21 (fun k_ hk_ (h_ : k_ = p) => (show (k_ = q1 ∨ k_ = q2) ∨ k_ = p by omega))), _, _, _, _, _, _, hcur21⟩
              intro big_ first_ h2_
              have F_ := hdr_facts h2_
              have e0_ := NumOk.eq hnum16 F_.n0
              have e1_ := NumOk.eq hnum21 F_.n2
              cases big_ with
              | true =>
                have hl_ := F_.len
                have hp_ := F_.pl
                have hb_ := F_.lenb rfl
                simp only [if_true, if_false, Bool.false_eq_true] at e1_
                first | omega
              | false =>
                have hl_ := F_.len
                have hp_ := F_.pl
                simp only [if_true, if_false, Bool.false_eq_true] at e1_
                first | omega
            · have hk38 := decide_eq_false hc37
              refine t_no rfl hk38 ?_
              refine t_skip ?_
              refine fun a_ ha_ => hK26 _ _ _ (T.sub (L' := [(0, .pointer (some ⟨p, 0, none⟩)), (1, .pointer (some ⟨q1, 0, none⟩)), (2, .pointer (some ⟨q2, 0, none⟩)), (4, .int .i64 (m16 : Int)), (5, .int .i64 (m21 : Int)), (9, .bool (decide (((l.length : Int) - (0 : Int)) < 8))), (25, .bool (decide ((m21 : Int) ≠ 43)))]) ?_ (sub_cons rfl (sub_cons rfl (sub_cons rfl (sub_cons rfl (sub_cons rfl (sub_cons rfl (sub_cons rfl sub_nil)))))))) a_ ha_
              refine t_seq (fun K44 hK44 => ?_)
              refine t_region ?_
              refine tl_val (w' := w22) rfl (do_assign rfl) (by decide) ?_
              refine tl_end ?_
              refine fun a_ ha_ => hK44 _ _ _ (T.sub (L' := [(0, .pointer (some ⟨p, 0, none⟩)), (1, .pointer (some ⟨q1, 0, none⟩)), (2, .pointer (some ⟨q2, 0, none⟩)), (4, .int .i64 (m16 : Int)), (5, .int .i64 (m21 : Int)), (6, .int .i64 4), (9, .bool (decide (((l.length : Int) - (0 : Int)) < 8))), (25, .bool (decide ((m21 : Int) ≠ 43)))]) ?_ (sub_cons rfl (sub_cons rfl (sub_cons rfl (sub_cons rfl (sub_cons rfl (sub_cons rfl (sub_cons rfl (sub_cons rfl sub_nil))))))))) a_ ha_
              refine t_seq (fun K45 hK45 => ?_)
              refine t_seq (fun K46 hK46 => ?_)
              refine t_region ?_
              refine tl_val (w' := w22) rfl (do_move rfl) (by decide) ?_
              refine tl_val (w' := w22) rfl (do_eql rfl rfl) (by decide) ?_
              have h47 := (hchg21.obj (show ¬ q1 = p by omega) (hchg16.obj (show ¬ q1 = p by omega) (hchg3.obj (fun x => x) h1)))
              refine tl_unit rfl (do_store (u := .bool x1) rfl rfl rfl (by kernel_rfl) (by rw [obj_cell h47]; rfl) (obj_frozen h47 _)) ?_
              refine tl_gen (fun w48 e49 => ?_)
              have hb50 : Chg (fun k => k = q1) w22 w48 := e49 ▸ Chg.setCell _ _ _ _
              have hz51 : w48.heap.size = w22.heap.size := by rw [e49]; simp
              have hc52 : w48.heap[q1]? = some (.cells #[.bool (decide ((m21 : Int) = 43))] 4 (0, 0)) := by rw [e49]; exact obj_setCell h47
              clear e49
              refine tl_end ?_
              refine fun a_ ha_ => hK46 _ _ _ (T.sub (L' := [(0, .pointer (some ⟨p, 0, none⟩)), (1, .pointer (some ⟨q1, 0, none⟩)), (2, .pointer (some ⟨q2, 0, none⟩)), (4, .int .i64 (m16 : Int)), (5, .int .i64 (m21 : Int)), (6, .int .i64 4), (9, .bool (decide (((l.length : Int) - (0 : Int)) < 8))), (25, .bool (decide ((m21 : Int) ≠ 43)))]) ?_ (sub_cons rfl (sub_cons rfl (sub_cons rfl (sub_cons rfl (sub_cons rfl (sub_cons rfl (sub_cons rfl (sub_cons rfl sub_nil))))))))) a_ ha_
              refine t_seq (fun K53 hK53 => ?_)
              refine t_region ?_
              refine tl_val (w' := w48) rfl (do_load (v := .bool (decide ((m21 : Int) = 43))) rfl (by kernel_rfl) (by rw [obj_cell hc52]; rfl)) (by decide) ?_
              refine tl_end ?_
              refine fun a_ ha_ => hK53 _ _ _ (T.sub (L' := [(0, .pointer (some ⟨p, 0, none⟩)), (1, .pointer (some ⟨q1, 0, none⟩)), (2, .pointer (some ⟨q2, 0, none⟩)), (4, .int .i64 (m16 : Int)), (5, .int .i64 (m21 : Int)), (6, .int .i64 4), (9, .bool (decide (((l.length : Int) - (0 : Int)) < 8))), (25, .bool (decide ((m21 : Int) ≠ 43))), (30, .bool (decide ((m21 : Int) = 43)))]) ?_ (sub_cons rfl (sub_cons rfl (sub_cons rfl (sub_cons rfl (sub_cons rfl (sub_cons rfl (sub_cons rfl (sub_cons rfl (sub_cons rfl sub_nil)))))))))) a_ ha_
              by_cases hc54 : (m21 : Int) = 43
              · have hk55 := decide_eq_true hc54
                have hs56 : w48.heap[q1]? = some (.cells #[.bool true] 4 (0, 0)) := by have h_ := hc52; rw [hk55] at h_; exact h_
                refine t_yes rfl hk55 ?_
                refine t_seq (fun K57 hK57 => ?_)
                refine t_seq (fun K58 hK58 => ?_)
                refine t_region ?_
                refine tl_val (w' := w48) rfl (do_move rfl) (by decide) ?_
                have h60 := (Cur.chg hcur21 hb50 (show ¬ p = q1 by omega) (fun a_ h1_ h2_ => Rd.ne (cs := [.bool x1]) (hcur21).rd h47 (by rfl) a_ h1_ h2_))
                refine tl_call rfl (en_call (f := 43) (by kernel_rfl) rfl) rfl (left_e h60 (by omega)) (fun v63 w61 hr62 => ?_) (fun _ _ h => h.elim) (fun _ h => h)
                obtain ⟨rfl, hcur59, hchg59⟩ := hr62
                have hz64 := hchg59.size
                refine tl_val (w' := w61) rfl (do_lss rfl rfl) (by decide) ?_
                refine tl_end ?_
                refine fun a_ ha_ => hK58 _ _ _ (T.sub (L' := [(0, .pointer (some ⟨p, 0, none⟩)), (1, .pointer (some ⟨q1, 0, none⟩)), (2, .pointer (some ⟨q2, 0, none⟩)), (4, .int .i64 (m16 : Int)), (5, .int .i64 (m21 : Int)), (6, .int .i64 4), (9, .bool (decide (((l.length : Int) - (0 : Int)) < 8))), (25, .bool (decide ((m21 : Int) ≠ 43))), (30, .bool (decide ((m21 : Int) = 43))), (33, .bool (decide (((l.length : Int) - (0 + Int.toNat 2 + Int.toNat 2 : Int)) < 12)))]) ?_ (sub_cons rfl (sub_cons rfl (sub_cons rfl (sub_cons rfl (sub_cons rfl (sub_cons rfl (sub_cons rfl (sub_cons rfl (sub_cons rfl (sub_cons rfl sub_nil))))))))))) a_ ha_
                by_cases hc65 : ((l.length : Int) - (0 + Int.toNat 2 + Int.toNat 2 : Int)) < 12
                · have hk66 := decide_eq_true hc65
                  refine t_yes rfl hk66 ?_
                  refine t_region ?_
                  refine tl_val (w' := w61) rfl (do_move rfl) (by decide) ?_
                  refine tl_call rfl (en_call (f := 44) (by kernel_rfl) rfl) rfl (fails_e 3 (by decide) hcur59.c3) (fun _ _ h => h.elim) ?_ (fun _ h => h)
                  intro ch_ w_ h_
                  refine fun a_ ha_ => hQ0 _ _ _ (body_panic ha_ ?_)
                  obtain ⟨rfl, rfl⟩ := h_
                  have h70 := (hchg59.obj (fun x => x) hs56)
                  have h71 := (hchg59.obj (fun x => x) (hb50.obj (show ¬ q2 = q1 by omega) (hchg21.obj (show ¬ q2 = p by omega) (hchg16.obj (show ¬ q2 = p by omega) (hchg3.obj (fun x => x) h2)))))
                  refine ⟨3, by decide, rfl, ⟨_, _, h70, h71, .inl ⟨_, by decide, rfl, ?_⟩⟩, ((((((Chg.refl (fun k_ => (k_ = q1 ∨ k_ = q2) ∨ k_ = p) w).step hchg3 (fun k_ hk_ (h_ : False) => h_.elim)).step hchg16 (fun k_ hk_ (h_ : k_ = p) => (show (k_ = q1 ∨ k_ = q2) ∨ k_ = p by omega))).step hchg21 (fun k_ hk_ (h_ : k_ = p) => (show (k_ = q1 ∨ k_ = q2) ∨ k_ = p by omega))).step hb50 (fun k_ hk_ (h_ : k_ = q1) => (show (k_ = q1 ∨ k_ = q2) ∨ k_ = p by omega))).step hchg59 (fun k_ hk_ (h_ : False) => h_.elim)), _, _, _, _, _, _, hcur59⟩
                  intro big_ first_ h2_
                  have F_ := hdr_facts h2_
                  have e0_ := NumOk.eq hnum16 F_.n0
                  have e1_ := NumOk.eq hnum21 F_.n2
                  cases big_ with
                  | true =>
                    have hl_ := F_.len
                    have hp_ := F_.pl
                    have hb_ := F_.lenb rfl
                    simp only [if_true, if_false, Bool.false_eq_true] at e1_
                    first | omega
                  | false =>
                    have hl_ := F_.len
                    have hp_ := F_.pl
                    simp only [if_true, if_false, Bool.false_eq_true] at e1_
                    first | omega
                · have hk66 := decide_eq_false hc65
                  refine t_no rfl hk66 ?_
                  refine t_skip ?_
                  refine fun a_ ha_ => hK57 _ _ _ (T.sub (L' := [(0, .pointer (some ⟨p, 0, none⟩)), (1, .pointer (some ⟨q1, 0, none⟩)), (2, .pointer (some ⟨q2, 0, none⟩)), (4, .int .i64 (m16 : Int)), (5, .int .i64 (m21 : Int)), (6, .int .i64 4), (9, .bool (decide (((l.length : Int) - (0 : Int)) < 8))), (25, .bool (decide ((m21 : Int) ≠ 43))), (30, .bool (decide ((m21 : Int) = 43))), (33, .bool (decide (((l.length : Int) - (0 + Int.toNat 2 + Int.toNat 2 : Int)) < 12)))]) ?_ (sub_cons rfl (sub_cons rfl (sub_cons rfl (sub_cons rfl (sub_cons rfl (sub_cons rfl (sub_cons rfl (sub_cons rfl (sub_cons rfl (sub_cons rfl sub_nil))))))))))) a_ ha_
                  refine t_seq (fun K72 hK72 => ?_)
                  refine t_seq (fun K73 hK73 => ?_)
                  refine t_region ?_
                  refine tl_val (w' := w61) rfl (do_move rfl) (by decide) ?_
                  refine tl_call rfl (en_call (f := 32) (by kernel_rfl) rfl) rfl (number_e 4 hcur59 (by omega)) (fun v77 w75 hr76 => ?_) ?_ (fun _ h => h)
                  · obtain ⟨m74, rfl, hnum74, hcur74, hchg74⟩ := hr76
                    have hz78 := hchg74.size
                    have hle74 := hnum74.2.1
                    have hlm74 := hnum74.2.2.2
                    refine tl_val (w' := w75) rfl (do_neq rfl rfl) (by decide) ?_
                    refine tl_end ?_
                    refine fun a_ ha_ => hK73 _ _ _ (T.sub (L' := [(0, .pointer (some ⟨p, 0, none⟩)), (1, .pointer (some ⟨q1, 0, none⟩)), (2, .pointer (some ⟨q2, 0, none⟩)), (4, .int .i64 (m16 : Int)), (5, .int .i64 (m21 : Int)), (6, .int .i64 4), (9, .bool (decide (((l.length : Int) - (0 : Int)) < 8))), (25, .bool (decide ((m21 : Int) ≠ 43))), (30, .bool (decide ((m21 : Int) = 43))), (33, .bool (decide (((l.length : Int) - (0 + Int.toNat 2 + Int.toNat 2 : Int)) < 12))), (38, .bool (decide ((m74 : Int) ≠ 8)))]) ?_ (sub_cons rfl (sub_cons rfl (sub_cons rfl (sub_cons rfl (sub_cons rfl (sub_cons rfl (sub_cons rfl (sub_cons rfl (sub_cons rfl (sub_cons rfl (sub_cons rfl sub_nil)))))))))))) a_ ha_
                    by_cases hc79 : (m74 : Int) ≠ 8
                    · have hk80 := decide_eq_true hc79
                      refine t_yes rfl hk80 ?_
                      refine t_region ?_
                      refine tl_val (w' := w75) rfl (do_move rfl) (by decide) ?_
                      refine tl_call rfl (en_call (f := 44) (by kernel_rfl) rfl) rfl (fails_e 4 (by decide) hcur74.c3) (fun _ _ h => h.elim) ?_ (fun _ h => h)
                      intro ch_ w_ h_
                      refine fun a_ ha_ => hQ0 _ _ _ (body_panic ha_ ?_)
                      obtain ⟨rfl, rfl⟩ := h_
                      have h84 := (hchg74.obj (show ¬ q1 = p by omega) (hchg59.obj (fun x => x) hs56))
                      have h85 := (hchg74.obj (show ¬ q2 = p by omega) (hchg59.obj (fun x => x) (hb50.obj (show ¬ q2 = q1 by omega) (hchg21.obj (show ¬ q2 = p by omega) (hchg16.obj (show ¬ q2 = p by omega) (hchg3.obj (fun x => x) h2))))))
                      refine ⟨4, by decide, rfl, ⟨_, _, h84, h85, .inl ⟨_, by decide, rfl, ?_⟩⟩, (((((((Chg.refl (fun k_ => (k_ = q1 ∨ k_ = q2) ∨ k_ = p) w).step hchg3 (fun k_ hk_ (h_ : False) => h_.elim)).step hchg16 (fun k_ hk_ (h_ : k_ = p) => (show (k_ = q1 ∨ k_ = q2) ∨ k_ = p by omega))).step hchg21 (fun k_ hk_ (h_ : k_ = p) => (show (k_ = q1 ∨ k_ = q2) ∨ k_ = p by omega))).step hb50 (fun k_ hk_ (h_ : k_ = q1) => (show (k_ = q1 ∨ k_ = q2) ∨ k_ = p by omega))).step hchg59 (fun k_ hk_ (h_ : False) => h_.elim)).step hchg74 (fun k_ hk_ (h_ : k_ = p) => (show (k_ = q1 ∨ k_ = q2) ∨ k_ = p by omega))), _, _, _, _, _, _, hcur74⟩
                      intro big_ first_ h2_
                      have F_ := hdr_facts h2_
                      have e0_ := NumOk.eq hnum16 F_.n0
                      have e1_ := NumOk.eq hnum21 F_.n2
                      cases big_ with
                      | true =>
                        have hl_ := F_.len
                        have hp_ := F_.pl
                        have hb_ := F_.lenb rfl
                        simp only [if_true, if_false, Bool.false_eq_true] at e1_
                        have e2_ := NumOk.eq hnum74 (F_.n4 rfl)
                        first | omega | (rcases hp_ with h0_ | h0_ <;> first | omega | exact absurd h0_ (by rw [← e2_]; assumption) | (rw [← e2_] at h0_; contradiction))
                      | false =>
                        have hl_ := F_.len
                        have hp_ := F_.pl
                        simp only [if_true, if_false, Bool.false_eq_true] at e1_
                        have e2_ := NumOk.eq hnum74 (F_.m4 rfl)
                        first | omega | (rcases hp_ with h0_ | h0_ <;> first | omega | exact absurd h0_ (by rw [← e2_]; assumption) | (rw [← e2_] at h0_; contradiction))
                    · have hk80 := decide_eq_false hc79
                      refine t_no rfl hk80 ?_
                      refine t_skip ?_
                      refine fun a_ ha_ => hK72 _ _ _ (T.sub (L' := [(0, .pointer (some ⟨p, 0, none⟩)), (1, .pointer (some ⟨q1, 0, none⟩)), (2, .pointer (some ⟨q2, 0, none⟩)), (4, .int .i64 (m16 : Int)), (5, .int .i64 (m21 : Int)), (6, .int .i64 4), (9, .bool (decide (((l.length : Int) - (0 : Int)) < 8))), (25, .bool (decide ((m21 : Int) ≠ 43))), (30, .bool (decide ((m21 : Int) = 43))), (33, .bool (decide (((l.length : Int) - (0 + Int.toNat 2 + Int.toNat 2 : Int)) < 12))), (38, .bool (decide ((m74 : Int) ≠ 8)))]) ?_ (sub_cons rfl (sub_cons rfl (sub_cons rfl (sub_cons rfl (sub_cons rfl (sub_cons rfl (sub_cons rfl (sub_cons rfl (sub_cons rfl (sub_cons rfl (sub_cons rfl sub_nil)))))))))))) a_ ha_
                      refine t_region ?_
                      refine tl_val (w' := w75) rfl (do_assign rfl) (by decide) ?_
                      refine tl_end ?_
                      refine fun a_ ha_ => hK45 _ _ _ (T.sub (L' := [(0, .pointer (some ⟨p, 0, none⟩)), (1, .pointer (some ⟨q1, 0, none⟩)), (2, .pointer (some ⟨q2, 0, none⟩)), (4, .int .i64 (m16 : Int)), (5, .int .i64 (m21 : Int)), (6, .int .i64 8), (9, .bool (decide (((l.length : Int) - (0 : Int)) < 8))), (25, .bool (decide ((m21 : Int) ≠ 43))), (30, .bool (decide ((m21 : Int) = 43))), (33, .bool (decide (((l.length : Int) - (0 + Int.toNat 2 + Int.toNat 2 : Int)) < 12))), (38, .bool (decide ((m74 : Int) ≠ 8)))]) ?_ (sub_cons rfl (sub_cons rfl (sub_cons rfl (sub_cons rfl (sub_cons rfl (sub_cons rfl (sub_cons rfl (sub_cons rfl (sub_cons rfl (sub_cons rfl (sub_cons rfl sub_nil)))))))))))) a_ ha_
                      refine t_seq (fun K86 hK86 => ?_)
                      refine t_region ?_
                      refine tl_val (w' := w75) rfl (do_move rfl) (by decide) ?_
                      refine tl_val (w' := w75) rfl (do_move rfl) (by decide) ?_
                      refine tl_call rfl (en_call (f := 32) (by kernel_rfl) rfl) rfl (number_e 8 hcur74 (by omega)) (fun v90 w88 hr89 => ?_) ?_ (fun _ h => h)
                      · obtain ⟨m87, rfl, hnum87, hcur87, hchg87⟩ := hr89
                        have hz91 := hchg87.size
                        have hle87 := hnum87.2.1
                        have hlm87 := hnum87.2.2.2
                        have h92 := (hchg87.obj (show ¬ q2 = p by omega) (hchg74.obj (show ¬ q2 = p by omega) (hchg59.obj (fun x => x) (hb50.obj (show ¬ q2 = q1 by omega) (hchg21.obj (show ¬ q2 = p by omega) (hchg16.obj (show ¬ q2 = p by omega) (hchg3.obj (fun x => x) h2)))))))
                        refine tl_unit rfl (do_store (u := .int .i64 x2) rfl rfl rfl (by kernel_rfl) (by rw [obj_cell h92]; rfl) (obj_frozen h92 _)) ?_
                        refine tl_gen (fun w93 e94 => ?_)
                        have hb95 : Chg (fun k => k = q2) w88 w93 := e94 ▸ Chg.setCell _ _ _ _
                        have hz96 : w93.heap.size = w88.heap.size := by rw [e94]; simp
                        have hc97 : w93.heap[q2]? = some (.cells #[.int .i64 (m87 : Int)] 3 (0, 0)) := by rw [e94]; exact obj_setCell h92
                        clear e94
                        refine tl_end ?_
                        refine fun a_ ha_ => hK86 _ _ _ (T.sub (L' := [(0, .pointer (some ⟨p, 0, none⟩)), (1, .pointer (some ⟨q1, 0, none⟩)), (2, .pointer (some ⟨q2, 0, none⟩)), (4, .int .i64 (m16 : Int)), (5, .int .i64 (m21 : Int)), (6, .int .i64 8), (9, .bool (decide (((l.length : Int) - (0 : Int)) < 8))), (25, .bool (decide ((m21 : Int) ≠ 43))), (30, .bool (decide ((m21 : Int) = 43))), (33, .bool (decide (((l.length : Int) - (0 + Int.toNat 2 + Int.toNat 2 : Int)) < 12))), (38, .bool (decide ((m74 : Int) ≠ 8)))]) ?_ (sub_cons rfl (sub_cons rfl (sub_cons rfl (sub_cons rfl (sub_cons rfl (sub_cons rfl (sub_cons rfl (sub_cons rfl (sub_cons rfl (sub_cons rfl (sub_cons rfl sub_nil)))))))))))) a_ ha_
                        refine t_seq (fun K98 hK98 => ?_)
                        refine t_region ?_
                        refine tl_val (w' := w93) rfl (do_load (v := .int .i64 (m87 : Int)) rfl (by kernel_rfl) (by rw [obj_cell hc97]; rfl)) (by decide) ?_
                        refine tl_val (w' := w93) rfl (do_neq rfl rfl) (by decide) ?_
                        refine tl_val (w' := w93) rfl (do_move rfl) (by decide) ?_
                        by_cases hc99 : (m87 : Int) ≠ 0
                        · have hk100 := decide_eq_true hc99
                          refine tl_val (w' := w93) ⟨46, _, rfl, rfl, (by rw [hk100]; rfl)⟩ (do_load (v := .int .i64 (m87 : Int)) rfl (by kernel_rfl) (by rw [obj_cell hc97]; rfl)) (by decide) ?_
                          have h101 := (hb95.obj (show ¬ q1 = q2 by omega) (hchg87.obj (show ¬ q1 = p by omega) (hchg74.obj (show ¬ q1 = p by omega) (hchg59.obj (fun x => x) hs56))))
                          refine tl_val (w' := w93) ⟨46, _, rfl, rfl, (by rw [hk100]; rfl)⟩ (do_load (v := .bool true) rfl (by kernel_rfl) (by rw [obj_cell h101]; rfl)) (by decide) ?_
                          refine tl_call ⟨46, _, rfl, rfl, (by rw [hk100]; rfl)⟩ (en_call (f := 38) (by kernel_rfl) rfl) rfl (place_e (m87 : Int) true _) (fun v103 _ hr102 => ?_) (fun _ _ h => h.elim) (fun _ h => h)
                          obtain ⟨rfl, rfl⟩ := hr102
                          refine tl_val (w' := w93) ⟨46, _, rfl, rfl, (by rw [hk100]; rfl)⟩ (do_not rfl (not_dec _)) (by decide) ?_
                          refine tl_val (w' := w93) rfl (do_pick_t rfl hk100 rfl) (by decide) ?_
                          refine tl_end ?_
                          refine fun a_ ha_ => hK98 _ _ _ (T.sub (L' := [(0, .pointer (some ⟨p, 0, none⟩)), (1, .pointer (some ⟨q1, 0, none⟩)), (2, .pointer (some ⟨q2, 0, none⟩)), (4, .int .i64 (m16 : Int)), (5, .int .i64 (m21 : Int)), (6, .int .i64 8), (9, .bool (decide (((l.length : Int) - (0 : Int)) < 8))), (25, .bool (decide ((m21 : Int) ≠ 43))), (30, .bool (decide ((m21 : Int) = 43))), (33, .bool (decide (((l.length : Int) - (0 + Int.toNat 2 + Int.toNat 2 : Int)) < 12))), (38, .bool (decide ((m74 : Int) ≠ 8))), (51, .bool (decide (¬ (PlaceP (m87 : Int) true))))]) ?_ (sub_cons rfl (sub_cons rfl (sub_cons rfl (sub_cons rfl (sub_cons rfl (sub_cons rfl (sub_cons rfl (sub_cons rfl (sub_cons rfl (sub_cons rfl (sub_cons rfl (sub_cons rfl sub_nil))))))))))))) a_ ha_
                          by_cases hc104 : ¬ (PlaceP (m87 : Int) true)
                          · have hk105 := decide_eq_true hc104
                            refine t_yes rfl hk105 ?_
                            refine t_region ?_
                            refine tl_val (w' := w93) rfl (do_move rfl) (by decide) ?_
                            have h106 := (Cur.chg hcur87 hb95 (show ¬ p = q2 by omega) (fun a_ h1_ h2_ => Rd.ne (cs := [.int .i64 x2]) (hcur87).rd h92 (by rfl) a_ h1_ h2_))
                            refine tl_call rfl (en_call (f := 44) (by kernel_rfl) rfl) rfl (fails_e 2 (by decide) h106.c3) (fun _ _ h => h.elim) ?_ (fun _ h => h)
                            intro ch_ w_ h_
                            refine fun a_ ha_ => hQ0 _ _ _ (body_panic ha_ ?_)
                            obtain ⟨rfl, rfl⟩ := h_
                            refine ⟨2, by decide, rfl, ⟨_, _, h101, hc97, .inl ⟨_, by decide, rfl, ?_⟩⟩, (((((((((Chg.refl (fun k_ => (k_ = q1 ∨ k_ = q2) ∨ k_ = p) w).step hchg3 (fun k_ hk_ (h_ : False) => h_.elim)).step hchg16 (fun k_ hk_ (h_ : k_ = p) => (show (k_ = q1 ∨ k_ = q2) ∨ k_ = p by omega))).step hchg21 (fun k_ hk_ (h_ : k_ = p) => (show (k_ = q1 ∨ k_ = q2) ∨ k_ = p by omega))).step hb50 (fun k_ hk_ (h_ : k_ = q1) => (show (k_ = q1 ∨ k_ = q2) ∨ k_ = p by omega))).step hchg59 (fun k_ hk_ (h_ : False) => h_.elim)).step hchg74 (fun k_ hk_ (h_ : k_ = p) => (show (k_ = q1 ∨ k_ = q2) ∨ k_ = p by omega))).step hchg87 (fun k_ hk_ (h_ : k_ = p) => (show (k_ = q1 ∨ k_ = q2) ∨ k_ = p by omega))).step hb95 (fun k_ hk_ (h_ : k_ = q2) => (show (k_ = q1 ∨ k_ = q2) ∨ k_ = p by omega))), _, _, _, _, _, _, h106⟩
                            intro big_ first_ h2_
                            have F_ := hdr_facts h2_
                            have e0_ := NumOk.eq hnum16 F_.n0
                            have e1_ := NumOk.eq hnum21 F_.n2
                            cases big_ with
                            | true =>
                              have hl_ := F_.len
                              have hp_ := F_.pl
                              have hb_ := F_.lenb rfl
                              simp only [if_true, if_false, Bool.false_eq_true] at e1_
                              have e2_ := NumOk.eq hnum74 (F_.n4 rfl)
                              have e3_ := NumOk.eq hnum87 (F_.n8 rfl)
                              first | omega | (rcases hp_ with h0_ | h0_ <;> first | omega | exact absurd h0_ (by rw [← e3_]; assumption) | (rw [← e3_] at h0_; contradiction))
                            | false =>
                              have hl_ := F_.len
                              have hp_ := F_.pl
                              simp only [if_true, if_false, Bool.false_eq_true] at e1_
                              have e2_ := NumOk.eq hnum74 (F_.m4 rfl)
                              first | omega | (rcases hp_ with h0_ | h0_ <;> first | omega | exact absurd h0_ (by rw [← e3_]; assumption) | (rw [← e3_] at h0_; contradiction))
                          · have hk105 := decide_eq_false hc104
                            refine t_no rfl hk105 ?_
                            refine t_skip ?_
                            refine fun a_ ha_ => hQ0 _ _ _ (body_end (rs := []) (vs := []) ha_ (by kernel_rfl) rfl ?_)
                            have h110 := (Cur.chg hcur87 hb95 (show ¬ p = q2 by omega) (fun a_ h1_ h2_ => Rd.ne (cs := [.int .i64 x2]) (hcur87).rd h92 (by rfl) a_ h1_ h2_))
                            refine ⟨rfl, ⟨_, _, h101, hc97, .inr ⟨rfl, ⟨by omega, by omega⟩, ?_⟩⟩, (((((((((Chg.refl (fun k_ => (k_ = q1 ∨ k_ = q2) ∨ k_ = p) w).step hchg3 (fun k_ hk_ (h_ : False) => h_.elim)).step hchg16 (fun k_ hk_ (h_ : k_ = p) => (show (k_ = q1 ∨ k_ = q2) ∨ k_ = p by omega))).step hchg21 (fun k_ hk_ (h_ : k_ = p) => (show (k_ = q1 ∨ k_ = q2) ∨ k_ = p by omega))).step hb50 (fun k_ hk_ (h_ : k_ = q1) => (show (k_ = q1 ∨ k_ = q2) ∨ k_ = p by omega))).step hchg59 (fun k_ hk_ (h_ : False) => h_.elim)).step hchg74 (fun k_ hk_ (h_ : k_ = p) => (show (k_ = q1 ∨ k_ = q2) ∨ k_ = p by omega))).step hchg87 (fun k_ hk_ (h_ : k_ = p) => (show (k_ = q1 ∨ k_ = q2) ∨ k_ = p by omega))).step hb95 (fun k_ hk_ (h_ : k_ = q2) => (show (k_ = q1 ∨ k_ = q2) ∨ k_ = p by omega))), _, _, _, _, _, _, h110⟩
                            intro big_ first_ h2_
                            have F_ := hdr_facts h2_
                            have e0_ := NumOk.eq hnum16 F_.n0
                            have e1_ := NumOk.eq hnum21 F_.n2
                            cases big_ with
                            | true =>
                              simp only [if_true, if_false, Bool.false_eq_true] at e1_
                              exact ⟨rfl, NumOk.eq hnum87 (F_.n8 rfl)⟩
                            | false =>
                              simp only [if_true, if_false, Bool.false_eq_true] at e1_
                              omega
                        · have hk100 := decide_eq_false hc99
                          refine tl_skipU ⟨46, _, rfl, rfl, (by rw [hk100]; rfl)⟩ (by decide) ?_
                          refine tl_skipU ⟨46, _, rfl, rfl, (by rw [hk100]; rfl)⟩ (by decide) ?_
                          refine tl_skipU ⟨46, _, rfl, rfl, (by rw [hk100]; rfl)⟩ (by decide) ?_
                          refine tl_skipU ⟨46, _, rfl, rfl, (by rw [hk100]; rfl)⟩ (by decide) ?_
                          refine tl_val (w' := w93) rfl (do_pick_f rfl hk100 rfl) (by decide) ?_
                          refine tl_end ?_
                          refine fun a_ ha_ => hK98 _ _ _ (T.sub (L' := [(0, .pointer (some ⟨p, 0, none⟩)), (1, .pointer (some ⟨q1, 0, none⟩)), (2, .pointer (some ⟨q2, 0, none⟩)), (4, .int .i64 (m16 : Int)), (5, .int .i64 (m21 : Int)), (6, .int .i64 8), (9, .bool (decide (((l.length : Int) - (0 : Int)) < 8))), (25, .bool (decide ((m21 : Int) ≠ 43))), (30, .bool (decide ((m21 : Int) = 43))), (33, .bool (decide (((l.length : Int) - (0 + Int.toNat 2 + Int.toNat 2 : Int)) < 12))), (38, .bool (decide ((m74 : Int) ≠ 8))), (51, .bool false)]) ?_ (sub_cons rfl (sub_cons rfl (sub_cons rfl (sub_cons rfl (sub_cons rfl (sub_cons rfl (sub_cons rfl (sub_cons rfl (sub_cons rfl (sub_cons rfl (sub_cons rfl (sub_cons rfl sub_nil))))))))))))) a_ ha_
                          refine t_no rfl rfl ?_
                          refine t_skip ?_
                          refine fun a_ ha_ => hQ0 _ _ _ (body_end (rs := []) (vs := []) ha_ (by kernel_rfl) rfl ?_)
                          have h111 := (hb95.obj (show ¬ q1 = q2 by omega) (hchg87.obj (show ¬ q1 = p by omega) (hchg74.obj (show ¬ q1 = p by omega) (hchg59.obj (fun x => x) hs56))))
                          have h112 := (Cur.chg hcur87 hb95 (show ¬ p = q2 by omega) (fun a_ h1_ h2_ => Rd.ne (cs := [.int .i64 x2]) (hcur87).rd h92 (by rfl) a_ h1_ h2_))
                          refine ⟨rfl, ⟨_, _, h111, hc97, .inr ⟨rfl, ⟨by omega, by omega⟩, ?_⟩⟩, (((((((((Chg.refl (fun k_ => (k_ = q1 ∨ k_ = q2) ∨ k_ = p) w).step hchg3 (fun k_ hk_ (h_ : False) => h_.elim)).step hchg16 (fun k_ hk_ (h_ : k_ = p) => (show (k_ = q1 ∨ k_ = q2) ∨ k_ = p by omega))).step hchg21 (fun k_ hk_ (h_ : k_ = p) => (show (k_ = q1 ∨ k_ = q2) ∨ k_ = p by omega))).step hb50 (fun k_ hk_ (h_ : k_ = q1) => (show (k_ = q1 ∨ k_ = q2) ∨ k_ = p by omega))).step hchg59 (fun k_ hk_ (h_ : False) => h_.elim)).step hchg74 (fun k_ hk_ (h_ : k_ = p) => (show (k_ = q1 ∨ k_ = q2) ∨ k_ = p by omega))).step hchg87 (fun k_ hk_ (h_ : k_ = p) => (show (k_ = q1 ∨ k_ = q2) ∨ k_ = p by omega))).step hb95 (fun k_ hk_ (h_ : k_ = q2) => (show (k_ = q1 ∨ k_ = q2) ∨ k_ = p by omega))), _, _, _, _, _, _, h112⟩
                          intro big_ first_ h2_
                          have F_ := hdr_facts h2_
                          have e0_ := NumOk.eq hnum16 F_.n0
                          have e1_ := NumOk.eq hnum21 F_.n2
                          cases big_ with
                          | true =>
                            simp only [if_true, if_false, Bool.false_eq_true] at e1_
                            exact ⟨rfl, NumOk.eq hnum87 (F_.n8 rfl)⟩
                          | false =>
                            simp only [if_true, if_false, Bool.false_eq_true] at e1_
                            omega
                      · intro ch_ w_ h_
                        refine fun a_ ha_ => hQ0 _ _ _ (body_panic ha_ ?_)
                        obtain ⟨k_, rfl, hno, hcur, hchg⟩ := h_
                        have h113 := (hchg.obj (show ¬ q1 = p by omega) (hchg74.obj (show ¬ q1 = p by omega) (hchg59.obj (fun x => x) hs56)))
                        have h114 := (hchg.obj (show ¬ q2 = p by omega) (hchg74.obj (show ¬ q2 = p by omega) (hchg59.obj (fun x => x) (hb50.obj (show ¬ q2 = q1 by omega) (hchg21.obj (show ¬ q2 = p by omega) (hchg16.obj (show ¬ q2 = p by omega) (hchg3.obj (fun x => x) h2)))))))
                        refine ⟨(k_ : Int), by exact_mod_cast hno.2, rfl, ⟨_, _, h113, h114, .inl ⟨_, by exact_mod_cast hno.2, rfl, ?_⟩⟩, ((((((((Chg.refl (fun k_ => (k_ = q1 ∨ k_ = q2) ∨ k_ = p) w).step hchg3 (fun k_ hk_ (h_ : False) => h_.elim)).step hchg16 (fun k_ hk_ (h_ : k_ = p) => (show (k_ = q1 ∨ k_ = q2) ∨ k_ = p by omega))).step hchg21 (fun k_ hk_ (h_ : k_ = p) => (show (k_ = q1 ∨ k_ = q2) ∨ k_ = p by omega))).step hb50 (fun k_ hk_ (h_ : k_ = q1) => (show (k_ = q1 ∨ k_ = q2) ∨ k_ = p by omega))).step hchg59 (fun k_ hk_ (h_ : False) => h_.elim)).step hchg74 (fun k_ hk_ (h_ : k_ = p) => (show (k_ = q1 ∨ k_ = q2) ∨ k_ = p by omega))).step hchg (fun k_ hk_ (h_ : k_ = p) => (show (k_ = q1 ∨ k_ = q2) ∨ k_ = p by omega))), _, _, _, _, _, _, hcur⟩
                        intro big_ first_ h2_
                        have F_ := hdr_facts h2_
                        have e0_ := NumOk.eq hnum16 F_.n0
                        have e1_ := NumOk.eq hnum21 F_.n2
                        cases big_ with
                        | true =>
                          have hl_ := F_.len
                          have hp_ := F_.pl
                          have hb_ := F_.lenb rfl
                          simp only [if_true, if_false, Bool.false_eq_true] at e1_
                          have e2_ := NumOk.eq hnum74 (F_.n4 rfl)
                          first | omega | exact hno.not (F_.n8 rfl) | (rcases hp_ with h0_ | h0_ <;> first | omega | exact absurd h0_ (by rw [← e2_]; assumption) | (rw [← e2_] at h0_; contradiction))
                        | false =>
                          have hl_ := F_.len
                          have hp_ := F_.pl
                          simp only [if_true, if_false, Bool.false_eq_true] at e1_
                          have e2_ := NumOk.eq hnum74 (F_.m4 rfl)
                          first | omega | (rcases hp_ with h0_ | h0_ <;> first | omega | exact absurd h0_ (by rw [← e2_]; assumption) | (rw [← e2_] at h0_; contradiction))
                  · intro ch_ w_ h_
                    refine fun a_ ha_ => hQ0 _ _ _ (body_panic ha_ ?_)
                    obtain ⟨k_, rfl, hno, hcur, hchg⟩ := h_
                    have h115 := (hchg.obj (show ¬ q1 = p by omega) (hchg59.obj (fun x => x) hs56))
                    have h116 := (hchg.obj (show ¬ q2 = p by omega) (hchg59.obj (fun x => x) (hb50.obj (show ¬ q2 = q1 by omega) (hchg21.obj (show ¬ q2 = p by omega) (hchg16.obj (show ¬ q2 = p by omega) (hchg3.obj (fun x => x) h2))))))
                    refine ⟨(k_ : Int), by exact_mod_cast hno.2, rfl, ⟨_, _, h115, h116, .inl ⟨_, by exact_mod_cast hno.2, rfl, ?_⟩⟩, (((((((Chg.refl (fun k_ => (k_ = q1 ∨ k_ = q2) ∨ k_ = p) w).step hchg3 (fun k_ hk_ (h_ : False) => h_.elim)).step hchg16 (fun k_ hk_ (h_ : k_ = p) => (show (k_ = q1 ∨ k_ = q2) ∨ k_ = p by omega))).step hchg21 (fun k_ hk_ (h_ : k_ = p) => (show (k_ = q1 ∨ k_ = q2) ∨ k_ = p by omega))).step hb50 (fun k_ hk_ (h_ : k_ = q1) => (show (k_ = q1 ∨ k_ = q2) ∨ k_ = p by omega))).step hchg59 (fun k_ hk_ (h_ : False) => h_.elim)).step hchg (fun k_ hk_ (h_ : k_ = p) => (show (k_ = q1 ∨ k_ = q2) ∨ k_ = p by omega))), _, _, _, _, _, _, hcur⟩
                    intro big_ first_ h2_
                    have F_ := hdr_facts h2_
                    have e0_ := NumOk.eq hnum16 F_.n0
                    have e1_ := NumOk.eq hnum21 F_.n2
                    cases big_ with
                    | true =>
                      have hl_ := F_.len
                      have hp_ := F_.pl
                      have hb_ := F_.lenb rfl
                      simp only [if_true, if_false, Bool.false_eq_true] at e1_
                      first | omega | exact hno.not (F_.n4 rfl)
                    | false =>
                      have hl_ := F_.len
                      have hp_ := F_.pl
                      simp only [if_true, if_false, Bool.false_eq_true] at e1_
                      first | omega | exact hno.not (F_.m4 rfl)
              · have hk55 := decide_eq_false hc54
                have hs117 : w48.heap[q1]? = some (.cells #[.bool false] 4 (0, 0)) := by have h_ := hc52; rw [hk55] at h_; exact h_
                refine t_no rfl hk55 ?_
                refine t_skip ?_
                refine fun a_ ha_ => hK45 _ _ _ (T.sub (L' := [(0, .pointer (some ⟨p, 0, none⟩)), (1, .pointer (some ⟨q1, 0, none⟩)), (2, .pointer (some ⟨q2, 0, none⟩)), (4, .int .i64 (m16 : Int)), (5, .int .i64 (m21 : Int)), (6, .int .i64 4), (9, .bool (decide (((l.length : Int) - (0 : Int)) < 8))), (25, .bool (decide ((m21 : Int) ≠ 43))), (30, .bool (decide ((m21 : Int) = 43)))]) ?_ (sub_cons rfl (sub_cons rfl (sub_cons rfl (sub_cons rfl (sub_cons rfl (sub_cons rfl (sub_cons rfl (sub_cons rfl (sub_cons rfl sub_nil)))))))))) a_ ha_
                refine t_seq (fun K118 hK118 => ?_)
                refine t_region ?_
                refine tl_val (w' := w48) rfl (do_move rfl) (by decide) ?_
                refine tl_val (w' := w48) rfl (do_move rfl) (by decide) ?_
                have h119 := (Cur.chg hcur21 hb50 (show ¬ p = q1 by omega) (fun a_ h1_ h2_ => Rd.ne (cs := [.bool x1]) (hcur21).rd h47 (by rfl) a_ h1_ h2_))
                refine tl_call rfl (en_call (f := 32) (by kernel_rfl) rfl) rfl (number_e 4 h119 (by omega)) (fun v123 w121 hr122 => ?_) ?_ (fun _ h => h)
                · obtain ⟨m120, rfl, hnum120, hcur120, hchg120⟩ := hr122
                  have hz124 := hchg120.size
                  have hle120 := hnum120.2.1
                  have hlm120 := hnum120.2.2.2
                  have h125 := (hchg120.obj (show ¬ q2 = p by omega) (hb50.obj (show ¬ q2 = q1 by omega) (hchg21.obj (show ¬ q2 = p by omega) (hchg16.obj (show ¬ q2 = p by omega) (hchg3.obj (fun x => x) h2)))))
                  refine tl_unit rfl (do_store (u := .int .i64 x2) rfl rfl rfl (by kernel_rfl) (by rw [obj_cell h125]; rfl) (obj_frozen h125 _)) ?_
                  refine tl_gen (fun w126 e127 => ?_)
                  have hb128 : Chg (fun k => k = q2) w121 w126 := e127 ▸ Chg.setCell _ _ _ _
                  have hz129 : w126.heap.size = w121.heap.size := by rw [e127]; simp
                  have hc130 : w126.heap[q2]? = some (.cells #[.int .i64 (m120 : Int)] 3 (0, 0)) := by rw [e127]; exact obj_setCell h125
                  clear e127
                  refine tl_end ?_
                  refine fun a_ ha_ => hK118 _ _ _ (T.sub (L' := [(0, .pointer (some ⟨p, 0, none⟩)), (1, .pointer (some ⟨q1, 0, none⟩)), (2, .pointer (some ⟨q2, 0, none⟩)), (4, .int .i64 (m16 : Int)), (5, .int .i64 (m21 : Int)), (6, .int .i64 4), (9, .bool (decide (((l.length : Int) - (0 : Int)) < 8))), (25, .bool (decide ((m21 : Int) ≠ 43))), (30, .bool (decide ((m21 : Int) = 43)))]) ?_ (sub_cons rfl (sub_cons rfl (sub_cons rfl (sub_cons rfl (sub_cons rfl (sub_cons rfl (sub_cons rfl (sub_cons rfl (sub_cons rfl sub_nil)))))))))) a_ ha_
                  refine t_seq (fun K131 hK131 => ?_)
                  refine t_region ?_
                  refine tl_val (w' := w126) rfl (do_load (v := .int .i64 (m120 : Int)) rfl (by kernel_rfl) (by rw [obj_cell hc130]; rfl)) (by decide) ?_
                  refine tl_val (w' := w126) rfl (do_neq rfl rfl) (by decide) ?_
                  refine tl_val (w' := w126) rfl (do_move rfl) (by decide) ?_
                  by_cases hc132 : (m120 : Int) ≠ 0
                  · have hk133 := decide_eq_true hc132
                    refine tl_val (w' := w126) ⟨46, _, rfl, rfl, (by rw [hk133]; rfl)⟩ (do_load (v := .int .i64 (m120 : Int)) rfl (by kernel_rfl) (by rw [obj_cell hc130]; rfl)) (by decide) ?_
                    have h134 := (hb128.obj (show ¬ q1 = q2 by omega) (hchg120.obj (show ¬ q1 = p by omega) hs117))
                    refine tl_val (w' := w126) ⟨46, _, rfl, rfl, (by rw [hk133]; rfl)⟩ (do_load (v := .bool false) rfl (by kernel_rfl) (by rw [obj_cell h134]; rfl)) (by decide) ?_
                    refine tl_call ⟨46, _, rfl, rfl, (by rw [hk133]; rfl)⟩ (en_call (f := 38) (by kernel_rfl) rfl) rfl (place_e (m120 : Int) false _) (fun v136 _ hr135 => ?_) (fun _ _ h => h.elim) (fun _ h => h)
                    obtain ⟨rfl, rfl⟩ := hr135
                    refine tl_val (w' := w126) ⟨46, _, rfl, rfl, (by rw [hk133]; rfl)⟩ (do_not rfl (not_dec _)) (by decide) ?_
                    refine tl_val (w' := w126) rfl (do_pick_t rfl hk133 rfl) (by decide) ?_
                    refine tl_end ?_
                    refine fun a_ ha_ => hK131 _ _ _ (T.sub (L' := [(0, .pointer (some ⟨p, 0, none⟩)), (1, .pointer (some ⟨q1, 0, none⟩)), (2, .pointer (some ⟨q2, 0, none⟩)), (4, .int .i64 (m16 : Int)), (5, .int .i64 (m21 : Int)), (6, .int .i64 4), (9, .bool (decide (((l.length : Int) - (0 : Int)) < 8))), (25, .bool (decide ((m21 : Int) ≠ 43))), (30, .bool (decide ((m21 : Int) = 43))), (51, .bool (decide (¬ (PlaceP (m120 : Int) false))))]) ?_ (sub_cons rfl (sub_cons rfl (sub_cons rfl (sub_cons rfl (sub_cons rfl (sub_cons rfl (sub_cons rfl (sub_cons rfl (sub_cons rfl (sub_cons rfl sub_nil))))))))))) a_ ha_
                    by_cases hc137 : ¬ (PlaceP (m120 : Int) false)
                    · have hk138 := decide_eq_true hc137
                      refine t_yes rfl hk138 ?_
                      refine t_region ?_
                      refine tl_val (w' := w126) rfl (do_move rfl) (by decide) ?_
                      have h139 := (Cur.chg hcur120 hb128 (show ¬ p = q2 by omega) (fun a_ h1_ h2_ => Rd.ne (cs := [.int .i64 x2]) (hcur120).rd h125 (by rfl) a_ h1_ h2_))
                      refine tl_call rfl (en_call (f := 44) (by kernel_rfl) rfl) rfl (fails_e 2 (by decide) h139.c3) (fun _ _ h => h.elim) ?_ (fun _ h => h)
                      intro ch_ w_ h_
                      refine fun a_ ha_ => hQ0 _ _ _ (body_panic ha_ ?_)
                      obtain ⟨rfl, rfl⟩ := h_
                      refine ⟨2, by decide, rfl, ⟨_, _, h134, hc130, .inl ⟨_, by decide, rfl, ?_⟩⟩, (((((((Chg.refl (fun k_ => (k_ = q1 ∨ k_ = q2) ∨ k_ = p) w).step hchg3 (fun k_ hk_ (h_ : False) => h_.elim)).step hchg16 (fun k_ hk_ (h_ : k_ = p) => (show (k_ = q1 ∨ k_ = q2) ∨ k_ = p by omega))).step hchg21 (fun k_ hk_ (h_ : k_ = p) => (show (k_ = q1 ∨ k_ = q2) ∨ k_ = p by omega))).step hb50 (fun k_ hk_ (h_ : k_ = q1) => (show (k_ = q1 ∨ k_ = q2) ∨ k_ = p by omega))).step hchg120 (fun k_ hk_ (h_ : k_ = p) => (show (k_ = q1 ∨ k_ = q2) ∨ k_ = p by omega))).step hb128 (fun k_ hk_ (h_ : k_ = q2) => (show (k_ = q1 ∨ k_ = q2) ∨ k_ = p by omega))), _, _, _, _, _, _, h139⟩
                      intro big_ first_ h2_
                      have F_ := hdr_facts h2_
                      have e0_ := NumOk.eq hnum16 F_.n0
                      have e1_ := NumOk.eq hnum21 F_.n2
                      cases big_ with
                      | true =>
                        have hl_ := F_.len
                        have hp_ := F_.pl
                        have hb_ := F_.lenb rfl
                        simp only [if_true, if_false, Bool.false_eq_true] at e1_
                        have e2_ := NumOk.eq hnum120 (F_.n4 rfl)
                        first | omega | (rcases hp_ with h0_ | h0_ <;> first | omega | exact absurd h0_ (by rw [← e2_]; assumption) | (rw [← e2_] at h0_; contradiction))
                      | false =>
                        have hl_ := F_.len
                        have hp_ := F_.pl
                        simp only [if_true, if_false, Bool.false_eq_true] at e1_
                        have e2_ := NumOk.eq hnum120 (F_.m4 rfl)
                        first | omega | (rcases hp_ with h0_ | h0_ <;> first | omega | exact absurd h0_ (by rw [← e2_]; assumption) | (rw [← e2_] at h0_; contradiction))
                    · have hk138 := decide_eq_false hc137
                      refine t_no rfl hk138 ?_
                      refine t_skip ?_
                      refine fun a_ ha_ => hQ0 _ _ _ (body_end (rs := []) (vs := []) ha_ (by kernel_rfl) rfl ?_)
                      have h143 := (Cur.chg hcur120 hb128 (show ¬ p = q2 by omega) (fun a_ h1_ h2_ => Rd.ne (cs := [.int .i64 x2]) (hcur120).rd h125 (by rfl) a_ h1_ h2_))
                      refine ⟨rfl, ⟨_, _, h134, hc130, .inr ⟨rfl, ⟨by omega, by omega⟩, ?_⟩⟩, (((((((Chg.refl (fun k_ => (k_ = q1 ∨ k_ = q2) ∨ k_ = p) w).step hchg3 (fun k_ hk_ (h_ : False) => h_.elim)).step hchg16 (fun k_ hk_ (h_ : k_ = p) => (show (k_ = q1 ∨ k_ = q2) ∨ k_ = p by omega))).step hchg21 (fun k_ hk_ (h_ : k_ = p) => (show (k_ = q1 ∨ k_ = q2) ∨ k_ = p by omega))).step hb50 (fun k_ hk_ (h_ : k_ = q1) => (show (k_ = q1 ∨ k_ = q2) ∨ k_ = p by omega))).step hchg120 (fun k_ hk_ (h_ : k_ = p) => (show (k_ = q1 ∨ k_ = q2) ∨ k_ = p by omega))).step hb128 (fun k_ hk_ (h_ : k_ = q2) => (show (k_ = q1 ∨ k_ = q2) ∨ k_ = p by omega))), _, _, _, _, _, _, h143⟩
                      intro big_ first_ h2_
                      have F_ := hdr_facts h2_
                      have e0_ := NumOk.eq hnum16 F_.n0
                      have e1_ := NumOk.eq hnum21 F_.n2
                      cases big_ with
                      | true =>
                        simp only [if_true, if_false, Bool.false_eq_true] at e1_
                        omega
                      | false =>
                        simp only [if_true, if_false, Bool.false_eq_true] at e1_
                        exact ⟨rfl, NumOk.eq hnum120 (F_.m4 rfl)⟩
                  · have hk133 := decide_eq_false hc132
                    refine tl_skipU ⟨46, _, rfl, rfl, (by rw [hk133]; rfl)⟩ (by decide) ?_
                    refine tl_skipU ⟨46, _, rfl, rfl, (by rw [hk133]; rfl)⟩ (by decide) ?_
                    refine tl_skipU ⟨46, _, rfl, rfl, (by rw [hk133]; rfl)⟩ (by decide) ?_
                    refine tl_skipU ⟨46, _, rfl, rfl, (by rw [hk133]; rfl)⟩ (by decide) ?_
                    refine tl_val (w' := w126) rfl (do_pick_f rfl hk133 rfl) (by decide) ?_
                    refine tl_end ?_
                    refine fun a_ ha_ => hK131 _ _ _ (T.sub (L' := [(0, .pointer (some ⟨p, 0, none⟩)), (1, .pointer (some ⟨q1, 0, none⟩)), (2, .pointer (some ⟨q2, 0, none⟩)), (4, .int .i64 (m16 : Int)), (5, .int .i64 (m21 : Int)), (6, .int .i64 4), (9, .bool (decide (((l.length : Int) - (0 : Int)) < 8))), (25, .bool (decide ((m21 : Int) ≠ 43))), (30, .bool (decide ((m21 : Int) = 43))), (51, .bool false)]) ?_ (sub_cons rfl (sub_cons rfl (sub_cons rfl (sub_cons rfl (sub_cons rfl (sub_cons rfl (sub_cons rfl (sub_cons rfl (sub_cons rfl (sub_cons rfl sub_nil))))))))))) a_ ha_
                    refine t_no rfl rfl ?_
                    refine t_skip ?_
                    refine fun a_ ha_ => hQ0 _ _ _ (body_end (rs := []) (vs := []) ha_ (by kernel_rfl) rfl ?_)
                    have h144 := (hb128.obj (show ¬ q1 = q2 by omega) (hchg120.obj (show ¬ q1 = p by omega) hs117))
                    have h145 := (Cur.chg hcur120 hb128 (show ¬ p = q2 by omega) (fun a_ h1_ h2_ => Rd.ne (cs := [.int .i64 x2]) (hcur120).rd h125 (by rfl) a_ h1_ h2_))
                    refine ⟨rfl, ⟨_, _, h144, hc130, .inr ⟨rfl, ⟨by omega, by omega⟩, ?_⟩⟩, (((((((Chg.refl (fun k_ => (k_ = q1 ∨ k_ = q2) ∨ k_ = p) w).step hchg3 (fun k_ hk_ (h_ : False) => h_.elim)).step hchg16 (fun k_ hk_ (h_ : k_ = p) => (show (k_ = q1 ∨ k_ = q2) ∨ k_ = p by omega))).step hchg21 (fun k_ hk_ (h_ : k_ = p) => (show (k_ = q1 ∨ k_ = q2) ∨ k_ = p by omega))).step hb50 (fun k_ hk_ (h_ : k_ = q1) => (show (k_ = q1 ∨ k_ = q2) ∨ k_ = p by omega))).step hchg120 (fun k_ hk_ (h_ : k_ = p) => (show (k_ = q1 ∨ k_ = q2) ∨ k_ = p by omega))).step hb128 (fun k_ hk_ (h_ : k_ = q2) => (show (k_ = q1 ∨ k_ = q2) ∨ k_ = p by omega))), _, _, _, _, _, _, h145⟩
                    intro big_ first_ h2_
                    have F_ := hdr_facts h2_
                    have e0_ := NumOk.eq hnum16 F_.n0
                    have e1_ := NumOk.eq hnum21 F_.n2
                    cases big_ with
                    | true =>
                      simp only [if_true, if_false, Bool.false_eq_true] at e1_
                      omega
                    | false =>
                      simp only [if_true, if_false, Bool.false_eq_true] at e1_
                      exact ⟨rfl, NumOk.eq hnum120 (F_.m4 rfl)⟩
                · intro ch_ w_ h_
                  refine fun a_ ha_ => hQ0 _ _ _ (body_panic ha_ ?_)
                  obtain ⟨k_, rfl, hno, hcur, hchg⟩ := h_
                  have h146 := (hchg.obj (show ¬ q1 = p by omega) hs117)
                  have h147 := (hchg.obj (show ¬ q2 = p by omega) (hb50.obj (show ¬ q2 = q1 by omega) (hchg21.obj (show ¬ q2 = p by omega) (hchg16.obj (show ¬ q2 = p by omega) (hchg3.obj (fun x => x) h2)))))
                  refine ⟨(k_ : Int), by exact_mod_cast hno.2, rfl, ⟨_, _, h146, h147, .inl ⟨_, by exact_mod_cast hno.2, rfl, ?_⟩⟩, ((((((Chg.refl (fun k_ => (k_ = q1 ∨ k_ = q2) ∨ k_ = p) w).step hchg3 (fun k_ hk_ (h_ : False) => h_.elim)).step hchg16 (fun k_ hk_ (h_ : k_ = p) => (show (k_ = q1 ∨ k_ = q2) ∨ k_ = p by omega))).step hchg21 (fun k_ hk_ (h_ : k_ = p) => (show (k_ = q1 ∨ k_ = q2) ∨ k_ = p by omega))).step hb50 (fun k_ hk_ (h_ : k_ = q1) => (show (k_ = q1 ∨ k_ = q2) ∨ k_ = p by omega))).step hchg (fun k_ hk_ (h_ : k_ = p) => (show (k_ = q1 ∨ k_ = q2) ∨ k_ = p by omega))), _, _, _, _, _, _, hcur⟩
                  intro big_ first_ h2_
                  have F_ := hdr_facts h2_
                  have e0_ := NumOk.eq hnum16 F_.n0
                  have e1_ := NumOk.eq hnum21 F_.n2
                  cases big_ with
                  | true =>
                    have hl_ := F_.len
                    have hp_ := F_.pl
                    have hb_ := F_.lenb rfl
                    simp only [if_true, if_false, Bool.false_eq_true] at e1_
                    first | omega | exact hno.not (F_.n4 rfl)
                  | false =>
                    have hl_ := F_.len
                    have hp_ := F_.pl
                    simp only [if_true, if_false, Bool.false_eq_true] at e1_
                    first | omega | exact hno.not (F_.m4 rfl)
          · have hk36 := decide_eq_false hc35
            refine tl_skipU ⟨21, _, rfl, rfl, (by rw [hk36]; rfl)⟩ (by decide) ?_
            refine tl_skipU ⟨21, _, rfl, rfl, (by rw [hk36]; rfl)⟩ (by decide) ?_
            refine tl_val (w' := w22) ⟨18, _, rfl, rfl, (by rw [hk29]; rfl)⟩ (do_pick_f rfl hk36 rfl) (by decide) ?_
            refine tl_val (w' := w22) rfl (do_pick_f rfl hk29 rfl) (by decide) ?_
            refine tl_end ?_
            refine fun a_ ha_ => hK27 _ _ _ (T.sub (L' := [(0, .pointer (some ⟨p, 0, none⟩)), (1, .pointer (some ⟨q1, 0, none⟩)), (2, .pointer (some ⟨q2, 0, none⟩)), (4, .int .i64 (m16 : Int)), (5, .int .i64 (m21 : Int)), (9, .bool (decide (((l.length : Int) - (0 : Int)) < 8))), (25, .bool false)]) ?_ (sub_cons rfl (sub_cons rfl (sub_cons rfl (sub_cons rfl (sub_cons rfl (sub_cons rfl (sub_cons rfl sub_nil)))))))) a_ ha_
            refine t_no rfl rfl ?_
            refine t_skip ?_
            refine fun a_ ha_ => hK26 _ _ _ (T.sub (L' := [(0, .pointer (some ⟨p, 0, none⟩)), (1, .pointer (some ⟨q1, 0, none⟩)), (2, .pointer (some ⟨q2, 0, none⟩)), (4, .int .i64 (m16 : Int)), (5, .int .i64 (m21 : Int)), (9, .bool (decide (((l.length : Int) - (0 : Int)) < 8))), (25, .bool false)]) ?_ (sub_cons rfl (sub_cons rfl (sub_cons rfl (sub_cons rfl (sub_cons rfl (sub_cons rfl (sub_cons rfl sub_nil)))))))) a_ ha_
            refine t_seq (fun K148 hK148 => ?_)
            refine t_region ?_
            refine tl_val (w' := w22) rfl (do_assign rfl) (by decide) ?_
            refine tl_end ?_
            refine fun a_ ha_ => hK148 _ _ _ (T.sub (L' := [(0, .pointer (some ⟨p, 0, none⟩)), (1, .pointer (some ⟨q1, 0, none⟩)), (2, .pointer (some ⟨q2, 0, none⟩)), (4, .int .i64 (m16 : Int)), (5, .int .i64 (m21 : Int)), (6, .int .i64 4), (9, .bool (decide (((l.length : Int) - (0 : Int)) < 8))), (25, .bool false)]) ?_ (sub_cons rfl (sub_cons rfl (sub_cons rfl (sub_cons rfl (sub_cons rfl (sub_cons rfl (sub_cons rfl (sub_cons rfl sub_nil))))))))) a_ ha_
            refine t_seq (fun K149 hK149 => ?_)
            refine t_seq (fun K150 hK150 => ?_)
            refine t_region ?_
            refine tl_val (w' := w22) rfl (do_move rfl) (by decide) ?_
            refine tl_val (w' := w22) rfl (do_eql rfl rfl) (by decide) ?_
            have h151 := (hchg21.obj (show ¬ q1 = p by omega) (hchg16.obj (show ¬ q1 = p by omega) (hchg3.obj (fun x => x) h1)))
            refine tl_unit rfl (do_store (u := .bool x1) rfl rfl rfl (by kernel_rfl) (by rw [obj_cell h151]; rfl) (obj_frozen h151 _)) ?_
            refine tl_gen (fun w152 e153 => ?_)
            have hb154 : Chg (fun k => k = q1) w22 w152 := e153 ▸ Chg.setCell _ _ _ _
            have hz155 : w152.heap.size = w22.heap.size := by rw [e153]; simp
            have hc156 : w152.heap[q1]? = some (.cells #[.bool (decide ((m21 : Int) = 43))] 4 (0, 0)) := by rw [e153]; exact obj_setCell h151
            clear e153
            refine tl_end ?_
            refine fun a_ ha_ => hK150 _ _ _ (T.sub (L' := [(0, .pointer (some ⟨p, 0, none⟩)), (1, .pointer (some ⟨q1, 0, none⟩)), (2, .pointer (some ⟨q2, 0, none⟩)), (4, .int .i64 (m16 : Int)), (5, .int .i64 (m21 : Int)), (6, .int .i64 4), (9, .bool (decide (((l.length : Int) - (0 : Int)) < 8))), (25, .bool false)]) ?_ (sub_cons rfl (sub_cons rfl (sub_cons rfl (sub_cons rfl (sub_cons rfl (sub_cons rfl (sub_cons rfl (sub_cons rfl sub_nil))))))))) a_ ha_
            refine t_seq (fun K157 hK157 => ?_)
            refine t_region ?_
            refine tl_val (w' := w152) rfl (do_load (v := .bool (decide ((m21 : Int) = 43))) rfl (by kernel_rfl) (by rw [obj_cell hc156]; rfl)) (by decide) ?_
            refine tl_end ?_
            refine fun a_ ha_ => hK157 _ _ _ (T.sub (L' := [(0, .pointer (some ⟨p, 0, none⟩)), (1, .pointer (some ⟨q1, 0, none⟩)), (2, .pointer (some ⟨q2, 0, none⟩)), (4, .int .i64 (m16 : Int)), (5, .int .i64 (m21 : Int)), (6, .int .i64 4), (9, .bool (decide (((l.length : Int) - (0 : Int)) < 8))), (25, .bool false), (30, .bool (decide ((m21 : Int) = 43)))]) ?_ (sub_cons rfl (sub_cons rfl (sub_cons rfl (sub_cons rfl (sub_cons rfl (sub_cons rfl (sub_cons rfl (sub_cons rfl (sub_cons rfl sub_nil)))))))))) a_ ha_
            by_cases hc158 : (m21 : Int) = 43
            · have hk159 := decide_eq_true hc158
              have hs160 : w152.heap[q1]? = some (.cells #[.bool true] 4 (0, 0)) := by have h_ := hc156; rw [hk159] at h_; exact h_
              refine t_yes rfl hk159 ?_
              refine t_seq (fun K161 hK161 => ?_)
              refine t_seq (fun K162 hK162 => ?_)
              refine t_region ?_
              refine tl_val (w' := w152) rfl (do_move rfl) (by decide) ?_
              have h164 := (Cur.chg hcur21 hb154 (show ¬ p = q1 by omega) (fun a_ h1_ h2_ => Rd.ne (cs := [.bool x1]) (hcur21).rd h151 (by rfl) a_ h1_ h2_))
              refine tl_call rfl (en_call (f := 43) (by kernel_rfl) rfl) rfl (left_e h164 (by omega)) (fun v167 w165 hr166 => ?_) (fun _ _ h => h.elim) (fun _ h => h)
              obtain ⟨rfl, hcur163, hchg163⟩ := hr166
              have hz168 := hchg163.size
              refine tl_val (w' := w165) rfl (do_lss rfl rfl) (by decide) ?_
              refine tl_end ?_
              refine fun a_ ha_ => hK162 _ _ _ (T.sub (L' := [(0, .pointer (some ⟨p, 0, none⟩)), (1, .pointer (some ⟨q1, 0, none⟩)), (2, .pointer (some ⟨q2, 0, none⟩)), (4, .int .i64 (m16 : Int)), (5, .int .i64 (m21 : Int)), (6, .int .i64 4), (9, .bool (decide (((l.length : Int) - (0 : Int)) < 8))), (25, .bool false), (30, .bool (decide ((m21 : Int) = 43))), (33, .bool (decide (((l.length : Int) - (0 + Int.toNat 2 + Int.toNat 2 : Int)) < 12)))]) ?_ (sub_cons rfl (sub_cons rfl (sub_cons rfl (sub_cons rfl (sub_cons rfl (sub_cons rfl (sub_cons rfl (sub_cons rfl (sub_cons rfl (sub_cons rfl sub_nil))))))))))) a_ ha_
              by_cases hc169 : ((l.length : Int) - (0 + Int.toNat 2 + Int.toNat 2 : Int)) < 12
              · have hk170 := decide_eq_true hc169
                refine t_yes rfl hk170 ?_
                refine t_region ?_
                refine tl_val (w' := w165) rfl (do_move rfl) (by decide) ?_
                refine tl_call rfl (en_call (f := 44) (by kernel_rfl) rfl) rfl (fails_e 3 (by decide) hcur163.c3) (fun _ _ h => h.elim) ?_ (fun _ h => h)
                intro ch_ w_ h_
                refine fun a_ ha_ => hQ0 _ _ _ (body_panic ha_ ?_)
                obtain ⟨rfl, rfl⟩ := h_
                have h174 := (hchg163.obj (fun x => x) hs160)
                have h175 := (hchg163.obj (fun x => x) (hb154.obj (show ¬ q2 = q1 by omega) (hchg21.obj (show ¬ q2 = p by omega) (hchg16.obj (show ¬ q2 = p by omega) (hchg3.obj (fun x => x) h2)))))
                refine ⟨3, by decide, rfl, ⟨_, _, h174, h175, .inl ⟨_, by decide, rfl, ?_⟩⟩, ((((((Chg.refl (fun k_ => (k_ = q1 ∨ k_ = q2) ∨ k_ = p) w).step hchg3 (fun k_ hk_ (h_ : False) => h_.elim)).step hchg16 (fun k_ hk_ (h_ : k_ = p) => (show (k_ = q1 ∨ k_ = q2) ∨ k_ = p by omega))).step hchg21 (fun k_ hk_ (h_ : k_ = p) => (show (k_ = q1 ∨ k_ = q2) ∨ k_ = p by omega))).step hb154 (fun k_ hk_ (h_ : k_ = q1) => (show (k_ = q1 ∨ k_ = q2) ∨ k_ = p by omega))).step hchg163 (fun k_ hk_ (h_ : False) => h_.elim)), _, _, _, _, _, _, hcur163⟩
                intro big_ first_ h2_
                have F_ := hdr_facts h2_
                have e0_ := NumOk.eq hnum16 F_.n0
                have e1_ := NumOk.eq hnum21 F_.n2
                cases big_ with
                | true =>
                  have hl_ := F_.len
                  have hp_ := F_.pl
                  have hb_ := F_.lenb rfl
                  simp only [if_true, if_false, Bool.false_eq_true] at e1_
                  first | omega
                | false =>
                  have hl_ := F_.len
                  have hp_ := F_.pl
                  simp only [if_true, if_false, Bool.false_eq_true] at e1_
                  first | omega
              · have hk170 := decide_eq_false hc169
                refine t_no rfl hk170 ?_
                refine t_skip ?_
                refine fun a_ ha_ => hK161 _ _ _ (T.sub (L' := [(0, .pointer (some ⟨p, 0, none⟩)), (1, .pointer (some ⟨q1, 0, none⟩)), (2, .pointer (some ⟨q2, 0, none⟩)), (4, .int .i64 (m16 : Int)), (5, .int .i64 (m21 : Int)), (6, .int .i64 4), (9, .bool (decide (((l.length : Int) - (0 : Int)) < 8))), (25, .bool false), (30, .bool (decide ((m21 : Int) = 43))), (33, .bool (decide (((l.length : Int) - (0 + Int.toNat 2 + Int.toNat 2 : Int)) < 12)))]) ?_ (sub_cons rfl (sub_cons rfl (sub_cons rfl (sub_cons rfl (sub_cons rfl (sub_cons rfl (sub_cons rfl (sub_cons rfl (sub_cons rfl (sub_cons rfl sub_nil))))))))))) a_ ha_
                refine t_seq (fun K176 hK176 => ?_)
                refine t_seq (fun K177 hK177 => ?_)
                refine t_region ?_
                refine tl_val (w' := w165) rfl (do_move rfl) (by decide) ?_
                refine tl_call rfl (en_call (f := 32) (by kernel_rfl) rfl) rfl (number_e 4 hcur163 (by omega)) (fun v181 w179 hr180 => ?_) ?_ (fun _ h => h)
                · obtain ⟨m178, rfl, hnum178, hcur178, hchg178⟩ := hr180
                  have hz182 := hchg178.size
                  have hle178 := hnum178.2.1
                  have hlm178 := hnum178.2.2.2
                  refine tl_val (w' := w179) rfl (do_neq rfl rfl) (by decide) ?_
                  refine tl_end ?_
                  refine fun a_ ha_ => hK177 _ _ _ (T.sub (L' := [(0, .pointer (some ⟨p, 0, none⟩)), (1, .pointer (some ⟨q1, 0, none⟩)), (2, .pointer (some ⟨q2, 0, none⟩)), (4, .int .i64 (m16 : Int)), (5, .int .i64 (m21 : Int)), (6, .int .i64 4), (9, .bool (decide (((l.length : Int) - (0 : Int)) < 8))), (25, .bool false), (30, .bool (decide ((m21 : Int) = 43))), (33, .bool (decide (((l.length : Int) - (0 + Int.toNat 2 + Int.toNat 2 : Int)) < 12))), (38, .bool (decide ((m178 : Int) ≠ 8)))]) ?_ (sub_cons rfl (sub_cons rfl (sub_cons rfl (sub_cons rfl (sub_cons rfl (sub_cons rfl (sub_cons rfl (sub_cons rfl (sub_cons rfl (sub_cons rfl (sub_cons rfl sub_nil)))))))))))) a_ ha_
                  by_cases hc183 : (m178 : Int) ≠ 8
                  · have hk184 := decide_eq_true hc183
                    refine t_yes rfl hk184 ?_
                    refine t_region ?_
                    refine tl_val (w' := w179) rfl (do_move rfl) (by decide) ?_
                    refine tl_call rfl (en_call (f := 44) (by kernel_rfl) rfl) rfl (fails_e 4 (by decide) hcur178.c3) (fun _ _ h => h.elim) ?_ (fun _ h => h)
                    intro ch_ w_ h_
                    refine fun a_ ha_ => hQ0 _ _ _ (body_panic ha_ ?_)
                    obtain ⟨rfl, rfl⟩ := h_
                    have h188 := (hchg178.obj (show ¬ q1 = p by omega) (hchg163.obj (fun x => x) hs160))
                    have h189 := (hchg178.obj (show ¬ q2 = p by omega) (hchg163.obj (fun x => x) (hb154.obj (show ¬ q2 = q1 by omega) (hchg21.obj (show ¬ q2 = p by omega) (hchg16.obj (show ¬ q2 = p by omega) (hchg3.obj (fun x => x) h2))))))
                    refine ⟨4, by decide, rfl, ⟨_, _, h188, h189, .inl ⟨_, by decide, rfl, ?_⟩⟩, (((((((Chg.refl (fun k_ => (k_ = q1 ∨ k_ = q2) ∨ k_ = p) w).step hchg3 (fun k_ hk_ (h_ : False) => h_.elim)).step hchg16 (fun k_ hk_ (h_ : k_ = p) => (show (k_ = q1 ∨ k_ = q2) ∨ k_ = p by omega))).step hchg21 (fun k_ hk_ (h_ : k_ = p) => (show (k_ = q1 ∨ k_ = q2) ∨ k_ = p by omega))).step hb154 (fun k_ hk_ (h_ : k_ = q1) => (show (k_ = q1 ∨ k_ = q2) ∨ k_ = p by omega))).step hchg163 (fun k_ hk_ (h_ : False) => h_.elim)).step hchg178 (fun k_ hk_ (h_ : k_ = p) => (show (k_ = q1 ∨ k_ = q2) ∨ k_ = p by omega))), _, _, _, _, _, _, hcur178⟩
                    intro big_ first_ h2_
                    have F_ := hdr_facts h2_
                    have e0_ := NumOk.eq hnum16 F_.n0
                    have e1_ := NumOk.eq hnum21 F_.n2
                    cases big_ with
                    | true =>
                      have hl_ := F_.len
                      have hp_ := F_.pl
                      have hb_ := F_.lenb rfl
                      simp only [if_true, if_false, Bool.false_eq_true] at e1_
                      have e2_ := NumOk.eq hnum178 (F_.n4 rfl)
                      first | omega | (rcases hp_ with h0_ | h0_ <;> first | omega | exact absurd h0_ (by rw [← e2_]; assumption) | (rw [← e2_] at h0_; contradiction))
                    | false =>
                      have hl_ := F_.len
                      have hp_ := F_.pl
                      simp only [if_true, if_false, Bool.false_eq_true] at e1_
                      have e2_ := NumOk.eq hnum178 (F_.m4 rfl)
                      first | omega | (rcases hp_ with h0_ | h0_ <;> first | omega | exact absurd h0_ (by rw [← e2_]; assumption) | (rw [← e2_] at h0_; contradiction))
                  · have hk184 := decide_eq_false hc183
                    refine t_no rfl hk184 ?_
                    refine t_skip ?_
                    refine fun a_ ha_ => hK176 _ _ _ (T.sub (L' := [(0, .pointer (some ⟨p, 0, none⟩)), (1, .pointer (some ⟨q1, 0, none⟩)), (2, .pointer (some ⟨q2, 0, none⟩)), (4, .int .i64 (m16 : Int)), (5, .int .i64 (m21 : Int)), (6, .int .i64 4), (9, .bool (decide (((l.length : Int) - (0 : Int)) < 8))), (25, .bool false), (30, .bool (decide ((m21 : Int) = 43))), (33, .bool (decide (((l.length : Int) - (0 + Int.toNat 2 + Int.toNat 2 : Int)) < 12))), (38, .bool (decide ((m178 : Int) ≠ 8)))]) ?_ (sub_cons rfl (sub_cons rfl (sub_cons rfl (sub_cons rfl (sub_cons rfl (sub_cons rfl (sub_cons rfl (sub_cons rfl (sub_cons rfl (sub_cons rfl (sub_cons rfl sub_nil)))))))))))) a_ ha_
                    refine t_region ?_
                    refine tl_val (w' := w179) rfl (do_assign rfl) (by decide) ?_
                    refine tl_end ?_
                    refine fun a_ ha_ => hK149 _ _ _ (T.sub (L' := [(0, .pointer (some ⟨p, 0, none⟩)), (1, .pointer (some ⟨q1, 0, none⟩)), (2, .pointer (some ⟨q2, 0, none⟩)), (4, .int .i64 (m16 : Int)), (5, .int .i64 (m21 : Int)), (6, .int .i64 8), (9, .bool (decide (((l.length : Int) - (0 : Int)) < 8))), (25, .bool false), (30, .bool (decide ((m21 : Int) = 43))), (33, .bool (decide (((l.length : Int) - (0 + Int.toNat 2 + Int.toNat 2 : Int)) < 12))), (38, .bool (decide ((m178 : Int) ≠ 8)))]) ?_ (sub_cons rfl (sub_cons rfl (sub_cons rfl (sub_cons rfl (sub_cons rfl (sub_cons rfl (sub_cons rfl (sub_cons rfl (sub_cons rfl (sub_cons rfl (sub_cons rfl sub_nil)))))))))))) a_ ha_
                    refine t_seq (fun K190 hK190 => ?_)
                    refine t_region ?_
                    refine tl_val (w' := w179) rfl (do_move rfl) (by decide) ?_
                    refine tl_val (w' := w179) rfl (do_move rfl) (by decide) ?_
                    refine tl_call rfl (en_call (f := 32) (by kernel_rfl) rfl) rfl (number_e 8 hcur178 (by omega)) (fun v194 w192 hr193 => ?_) ?_ (fun _ h => h)
                    · obtain ⟨m191, rfl, hnum191, hcur191, hchg191⟩ := hr193
                      have hz195 := hchg191.size
                      have hle191 := hnum191.2.1
                      have hlm191 := hnum191.2.2.2
                      have h196 := (hchg191.obj (show ¬ q2 = p by omega) (hchg178.obj (show ¬ q2 = p by omega) (hchg163.obj (fun x => x) (hb154.obj (show ¬ q2 = q1 by omega) (hchg21.obj (show ¬ q2 = p by omega) (hchg16.obj (show ¬ q2 = p by omega) (hchg3.obj (fun x => x) h2)))))))
                      refine tl_unit rfl (do_store (u := .int .i64 x2) rfl rfl rfl (by kernel_rfl) (by rw [obj_cell h196]; rfl) (obj_frozen h196 _)) ?_
                      refine tl_gen (fun w197 e198 => ?_)
                      have hb199 : Chg (fun k => k = q2) w192 w197 := e198 ▸ Chg.setCell _ _ _ _
                      have hz200 : w197.heap.size = w192.heap.size := by rw [e198]; simp
                      have hc201 : w197.heap[q2]? = some (.cells #[.int .i64 (m191 : Int)] 3 (0, 0)) := by rw [e198]; exact obj_setCell h196
                      clear e198
                      refine tl_end ?_
                      refine fun a_ ha_ => hK190 _ _ _ (T.sub (L' := [(0, .pointer (some ⟨p, 0, none⟩)), (1, .pointer (some ⟨q1, 0, none⟩)), (2, .pointer (some ⟨q2, 0, none⟩)), (4, .int .i64 (m16 : Int)), (5, .int .i64 (m21 : Int)), (6, .int .i64 8), (9, .bool (decide (((l.length : Int) - (0 : Int)) < 8))), (25, .bool false), (30, .bool (decide ((m21 : Int) = 43))), (33, .bool (decide (((l.length : Int) - (0 + Int.toNat 2 + Int.toNat 2 : Int)) < 12))), (38, .bool (decide ((m178 : Int) ≠ 8)))]) ?_ (sub_cons rfl (sub_cons rfl (sub_cons rfl (sub_cons rfl (sub_cons rfl (sub_cons rfl (sub_cons rfl (sub_cons rfl (sub_cons rfl (sub_cons rfl (sub_cons rfl sub_nil)))))))))))) a_ ha_
                      refine t_seq (fun K202 hK202 => ?_)
                      refine t_region ?_
                      refine tl_val (w' := w197) rfl (do_load (v := .int .i64 (m191 : Int)) rfl (by kernel_rfl) (by rw [obj_cell hc201]; rfl)) (by decide) ?_
                      refine tl_val (w' := w197) rfl (do_neq rfl rfl) (by decide) ?_
                      refine tl_val (w' := w197) rfl (do_move rfl) (by decide) ?_
                      by_cases hc203 : (m191 : Int) ≠ 0
                      · have hk204 := decide_eq_true hc203
                        refine tl_val (w' := w197) ⟨46, _, rfl, rfl, (by rw [hk204]; rfl)⟩ (do_load (v := .int .i64 (m191 : Int)) rfl (by kernel_rfl) (by rw [obj_cell hc201]; rfl)) (by decide) ?_
                        have h205 := (hb199.obj (show ¬ q1 = q2 by omega) (hchg191.obj (show ¬ q1 = p by omega) (hchg178.obj (show ¬ q1 = p by omega) (hchg163.obj (fun x => x) hs160))))
                        refine tl_val (w' := w197) ⟨46, _, rfl, rfl, (by rw [hk204]; rfl)⟩ (do_load (v := .bool true) rfl (by kernel_rfl) (by rw [obj_cell h205]; rfl)) (by decide) ?_
                        refine tl_call ⟨46, _, rfl, rfl, (by rw [hk204]; rfl)⟩ (en_call (f := 38) (by kernel_rfl) rfl) rfl (place_e (m191 : Int) true _) (fun v207 _ hr206 => ?_) (fun _ _ h => h.elim) (fun _ h => h)
                        obtain ⟨rfl, rfl⟩ := hr206
                        refine tl_val (w' := w197) ⟨46, _, rfl, rfl, (by rw [hk204]; rfl)⟩ (do_not rfl (not_dec _)) (by decide) ?_
                        refine tl_val (w' := w197) rfl (do_pick_t rfl hk204 rfl) (by decide) ?_
                        refine tl_end ?_
                        refine fun a_ ha_ => hK202 _ _ _ (T.sub (L' := [(0, .pointer (some ⟨p, 0, none⟩)), (1, .pointer (some ⟨q1, 0, none⟩)), (2, .pointer (some ⟨q2, 0, none⟩)), (4, .int .i64 (m16 : Int)), (5, .int .i64 (m21 : Int)), (6, .int .i64 8), (9, .bool (decide (((l.length : Int) - (0 : Int)) < 8))), (25, .bool false), (30, .bool (decide ((m21 : Int) = 43))), (33, .bool (decide (((l.length : Int) - (0 + Int.toNat 2 + Int.toNat 2 : Int)) < 12))), (38, .bool (decide ((m178 : Int) ≠ 8))), (51, .bool (decide (¬ (PlaceP (m191 : Int) true))))]) ?_ (sub_cons rfl (sub_cons rfl (sub_cons rfl (sub_cons rfl (sub_cons rfl (sub_cons rfl (sub_cons rfl (sub_cons rfl (sub_cons rfl (sub_cons rfl (sub_cons rfl (sub_cons rfl sub_nil))))))))))))) a_ ha_
                        by_cases hc208 : ¬ (PlaceP (m191 : Int) true)
                        · have hk209 := decide_eq_true hc208
                          refine t_yes rfl hk209 ?_
                          refine t_region ?_
                          refine tl_val (w' := w197) rfl (do_move rfl) (by decide) ?_
                          have h210 := (Cur.chg hcur191 hb199 (show ¬ p = q2 by omega) (fun a_ h1_ h2_ => Rd.ne (cs := [.int .i64 x2]) (hcur191).rd h196 (by rfl) a_ h1_ h2_))
                          refine tl_call rfl (en_call (f := 44) (by kernel_rfl) rfl) rfl (fails_e 2 (by decide) h210.c3) (fun _ _ h => h.elim) ?_ (fun _ h => h)
                          intro ch_ w_ h_
                          refine fun a_ ha_ => hQ0 _ _ _ (body_panic ha_ ?_)
                          obtain ⟨rfl, rfl⟩ := h_
                          refine ⟨2, by decide, rfl, ⟨_, _, h205, hc201, .inl ⟨_, by decide, rfl, ?_⟩⟩, (((((((((Chg.refl (fun k_ => (k_ = q1 ∨ k_ = q2) ∨ k_ = p) w).step hchg3 (fun k_ hk_ (h_ : False) => h_.elim)).step hchg16 (fun k_ hk_ (h_ : k_ = p) => (show (k_ = q1 ∨ k_ = q2) ∨ k_ = p by omega))).step hchg21 (fun k_ hk_ (h_ : k_ = p) => (show (k_ = q1 ∨ k_ = q2) ∨ k_ = p by omega))).step hb154 (fun k_ hk_ (h_ : k_ = q1) => (show (k_ = q1 ∨ k_ = q2) ∨ k_ = p by omega))).step hchg163 (fun k_ hk_ (h_ : False) => h_.elim)).step hchg178 (fun k_ hk_ (h_ : k_ = p) => (show (k_ = q1 ∨ k_ = q2) ∨ k_ = p by omega))).step hchg191 (fun k_ hk_ (h_ : k_ = p) => (show (k_ = q1 ∨ k_ = q2) ∨ k_ = p by omega))).step hb199 (fun k_ hk_ (h_ : k_ = q2) => (show (k_ = q1 ∨ k_ = q2) ∨ k_ = p by omega))), _, _, _, _, _, _, h210⟩
                          intro big_ first_ h2_
                          have F_ := hdr_facts h2_
                          have e0_ := NumOk.eq hnum16 F_.n0
                          have e1_ := NumOk.eq hnum21 F_.n2
                          cases big_ with
                          | true =>
                            have hl_ := F_.len
                            have hp_ := F_.pl
                            have hb_ := F_.lenb rfl
                            simp only [if_true, if_false, Bool.false_eq_true] at e1_
                            have e2_ := NumOk.eq hnum178 (F_.n4 rfl)
                            have e3_ := NumOk.eq hnum191 (F_.n8 rfl)
                            first | omega | (rcases hp_ with h0_ | h0_ <;> first | omega | exact absurd h0_ (by rw [← e3_]; assumption) | (rw [← e3_] at h0_; contradiction))
                          | false =>
                            have hl_ := F_.len
                            have hp_ := F_.pl
                            simp only [if_true, if_false, Bool.false_eq_true] at e1_
                            have e2_ := NumOk.eq hnum178 (F_.m4 rfl)
                            first | omega | (rcases hp_ with h0_ | h0_ <;> first | omega | exact absurd h0_ (by rw [← e3_]; assumption) | (rw [← e3_] at h0_; contradiction))
                        · have hk209 := decide_eq_false hc208
                          refine t_no rfl hk209 ?_
                          refine t_skip ?_
                          refine fun a_ ha_ => hQ0 _ _ _ (body_end (rs := []) (vs := []) ha_ (by kernel_rfl) rfl ?_)
                          have h214 := (Cur.chg hcur191 hb199 (show ¬ p = q2 by omega) (fun a_ h1_ h2_ => Rd.ne (cs := [.int .i64 x2]) (hcur191).rd h196 (by rfl) a_ h1_ h2_))
                          refine ⟨rfl, ⟨_, _, h205, hc201, .inr ⟨rfl, ⟨by omega, by omega⟩, ?_⟩⟩, (((((((((Chg.refl (fun k_ => (k_ = q1 ∨ k_ = q2) ∨ k_ = p) w).step hchg3 (fun k_ hk_ (h_ : False) => h_.elim)).step hchg16 (fun k_ hk_ (h_ : k_ = p) => (show (k_ = q1 ∨ k_ = q2) ∨ k_ = p by omega))).step hchg21 (fun k_ hk_ (h_ : k_ = p) => (show (k_ = q1 ∨ k_ = q2) ∨ k_ = p by omega))).step hb154 (fun k_ hk_ (h_ : k_ = q1) => (show (k_ = q1 ∨ k_ = q2) ∨ k_ = p by omega))).step hchg163 (fun k_ hk_ (h_ : False) => h_.elim)).step hchg178 (fun k_ hk_ (h_ : k_ = p) => (show (k_ = q1 ∨ k_ = q2) ∨ k_ = p by omega))).step hchg191 (fun k_ hk_ (h_ : k_ = p) => (show (k_ = q1 ∨ k_ = q2) ∨ k_ = p by omega))).step hb199 (fun k_ hk_ (h_ : k_ = q2) => (show (k_ = q1 ∨ k_ = q2) ∨ k_ = p by omega))), _, _, _, _, _, _, h214⟩
                          intro big_ first_ h2_
                          have F_ := hdr_facts h2_
                          have e0_ := NumOk.eq hnum16 F_.n0
                          have e1_ := NumOk.eq hnum21 F_.n2
                          cases big_ with
                          | true =>
                            simp only [if_true, if_false, Bool.false_eq_true] at e1_
                            exact ⟨rfl, NumOk.eq hnum191 (F_.n8 rfl)⟩
                          | false =>
                            simp only [if_true, if_false, Bool.false_eq_true] at e1_
                            omega
                      · have hk204 := decide_eq_false hc203
                        refine tl_skipU ⟨46, _, rfl, rfl, (by rw [hk204]; rfl)⟩ (by decide) ?_
                        refine tl_skipU ⟨46, _, rfl, rfl, (by rw [hk204]; rfl)⟩ (by decide) ?_
                        refine tl_skipU ⟨46, _, rfl, rfl, (by rw [hk204]; rfl)⟩ (by decide) ?_
                        refine tl_skipU ⟨46, _, rfl, rfl, (by rw [hk204]; rfl)⟩ (by decide) ?_
                        refine tl_val (w' := w197) rfl (do_pick_f rfl hk204 rfl) (by decide) ?_
                        refine tl_end ?_
                        refine fun a_ ha_ => hK202 _ _ _ (T.sub (L' := [(0, .pointer (some ⟨p, 0, none⟩)), (1, .pointer (some ⟨q1, 0, none⟩)), (2, .pointer (some ⟨q2, 0, none⟩)), (4, .int .i64 (m16 : Int)), (5, .int .i64 (m21 : Int)), (6, .int .i64 8), (9, .bool (decide (((l.length : Int) - (0 : Int)) < 8))), (25, .bool false), (30, .bool (decide ((m21 : Int) = 43))), (33, .bool (decide (((l.length : Int) - (0 + Int.toNat 2 + Int.toNat 2 : Int)) < 12))), (38, .bool (decide ((m178 : Int) ≠ 8))), (51, .bool false)]) ?_ (sub_cons rfl (sub_cons rfl (sub_cons rfl (sub_cons rfl (sub_cons rfl (sub_cons rfl (sub_cons rfl (sub_cons rfl (sub_cons rfl (sub_cons rfl (sub_cons rfl (sub_cons rfl sub_nil))))))))))))) a_ ha_
                        refine t_no rfl rfl ?_
                        refine t_skip ?_
                        refine fun a_ ha_ => hQ0 _ _ _ (body_end (rs := []) (vs := []) ha_ (by kernel_rfl) rfl ?_)
                        have h215 := (hb199.obj (show ¬ q1 = q2 by omega) (hchg191.obj (show ¬ q1 = p by omega) (hchg178.obj (show ¬ q1 = p by omega) (hchg163.obj (fun x => x) hs160))))
                        have h216 := (Cur.chg hcur191 hb199 (show ¬ p = q2 by omega) (fun a_ h1_ h2_ => Rd.ne (cs := [.int .i64 x2]) (hcur191).rd h196 (by rfl) a_ h1_ h2_))
                        refine ⟨rfl, ⟨_, _, h215, hc201, .inr ⟨rfl, ⟨by omega, by omega⟩, ?_⟩⟩, (((((((((Chg.refl (fun k_ => (k_ = q1 ∨ k_ = q2) ∨ k_ = p) w).step hchg3 (fun k_ hk_ (h_ : False) => h_.elim)).step hchg16 (fun k_ hk_ (h_ : k_ = p) => (show (k_ = q1 ∨ k_ = q2) ∨ k_ = p by omega))).step hchg21 (fun k_ hk_ (h_ : k_ = p) => (show (k_ = q1 ∨ k_ = q2) ∨ k_ = p by omega))).step hb154 (fun k_ hk_ (h_ : k_ = q1) => (show (k_ = q1 ∨ k_ = q2) ∨ k_ = p by omega))).step hchg163 (fun k_ hk_ (h_ : False) => h_.elim)).step hchg178 (fun k_ hk_ (h_ : k_ = p) => (show (k_ = q1 ∨ k_ = q2) ∨ k_ = p by omega))).step hchg191 (fun k_ hk_ (h_ : k_ = p) => (show (k_ = q1 ∨ k_ = q2) ∨ k_ = p by omega))).step hb199 (fun k_ hk_ (h_ : k_ = q2) => (show (k_ = q1 ∨ k_ = q2) ∨ k_ = p by omega))), _, _, _, _, _, _, h216⟩
                        intro big_ first_ h2_
                        have F_ := hdr_facts h2_
                        have e0_ := NumOk.eq hnum16 F_.n0
                        have e1_ := NumOk.eq hnum21 F_.n2
                        cases big_ with
                        | true =>
                          simp only [if_true, if_false, Bool.false_eq_true] at e1_
                          exact ⟨rfl, NumOk.eq hnum191 (F_.n8 rfl)⟩
                        | false =>
                          simp only [if_true, if_false, Bool.false_eq_true] at e1_
                          omega
                    · intro ch_ w_ h_
                      refine fun a_ ha_ => hQ0 _ _ _ (body_panic ha_ ?_)
                      obtain ⟨k_, rfl, hno, hcur, hchg⟩ := h_
                      have h217 := (hchg.obj (show ¬ q1 = p by omega) (hchg178.obj (show ¬ q1 = p by omega) (hchg163.obj (fun x => x) hs160)))
                      have h218 := (hchg.obj (show ¬ q2 = p by omega) (hchg178.obj (show ¬ q2 = p by omega) (hchg163.obj (fun x => x) (hb154.obj (show ¬ q2 = q1 by omega) (hchg21.obj (show ¬ q2 = p by omega) (hchg16.obj (show ¬ q2 = p by omega) (hchg3.obj (fun x => x) h2)))))))
                      refine ⟨(k_ : Int), by exact_mod_cast hno.2, rfl, ⟨_, _, h217, h218, .inl ⟨_, by exact_mod_cast hno.2, rfl, ?_⟩⟩, ((((((((Chg.refl (fun k_ => (k_ = q1 ∨ k_ = q2) ∨ k_ = p) w).step hchg3 (fun k_ hk_ (h_ : False) => h_.elim)).step hchg16 (fun k_ hk_ (h_ : k_ = p) => (show (k_ = q1 ∨ k_ = q2) ∨ k_ = p by omega))).step hchg21 (fun k_ hk_ (h_ : k_ = p) => (show (k_ = q1 ∨ k_ = q2) ∨ k_ = p by omega))).step hb154 (fun k_ hk_ (h_ : k_ = q1) => (show (k_ = q1 ∨ k_ = q2) ∨ k_ = p by omega))).step hchg163 (fun k_ hk_ (h_ : False) => h_.elim)).step hchg178 (fun k_ hk_ (h_ : k_ = p) => (show (k_ = q1 ∨ k_ = q2) ∨ k_ = p by omega))).step hchg (fun k_ hk_ (h_ : k_ = p) => (show (k_ = q1 ∨ k_ = q2) ∨ k_ = p by omega))), _, _, _, _, _, _, hcur⟩
                      intro big_ first_ h2_
                      have F_ := hdr_facts h2_
                      have e0_ := NumOk.eq hnum16 F_.n0
                      have e1_ := NumOk.eq hnum21 F_.n2
                      cases big_ with
                      | true =>
                        have hl_ := F_.len
                        have hp_ := F_.pl
                        have hb_ := F_.lenb rfl
                        simp only [if_true, if_false, Bool.false_eq_true] at e1_
                        have e2_ := NumOk.eq hnum178 (F_.n4 rfl)
                        first | omega | exact hno.not (F_.n8 rfl) | (rcases hp_ with h0_ | h0_ <;> first | omega | exact absurd h0_ (by rw [← e2_]; assumption) | (rw [← e2_] at h0_; contradiction))
                      | false =>
                        have hl_ := F_.len
                        have hp_ := F_.pl
                        simp only [if_true, if_false, Bool.false_eq_true] at e1_
                        have e2_ := NumOk.eq hnum178 (F_.m4 rfl)
                        first | omega | (rcases hp_ with h0_ | h0_ <;> first | omega | exact absurd h0_ (by rw [← e2_]; assumption) | (rw [← e2_] at h0_; contradiction))
                · intro ch_ w_ h_
                  refine fun a_ ha_ => hQ0 _ _ _ (body_panic ha_ ?_)
                  obtain ⟨k_, rfl, hno, hcur, hchg⟩ := h_
                  have h219 := (hchg.obj (show ¬ q1 = p by omega) (hchg163.obj (fun x => x) hs160))
                  have h220 := (hchg.obj (show ¬ q2 = p by omega) (hchg163.obj (fun x => x) (hb154.obj (show ¬ q2 = q1 by omega) (hchg21.obj (show ¬ q2 = p by omega) (hchg16.obj (show ¬ q2 = p by omega) (hchg3.obj (fun x => x) h2))))))
                  refine ⟨(k_ : Int), by exact_mod_cast hno.2, rfl, ⟨_, _, h219, h220, .inl ⟨_, by exact_mod_cast hno.2, rfl, ?_⟩⟩, (((((((Chg.refl (fun k_ => (k_ = q1 ∨ k_ = q2) ∨ k_ = p) w).step hchg3 (fun k_ hk_ (h_ : False) => h_.elim)).step hchg16 (fun k_ hk_ (h_ : k_ = p) => (show (k_ = q1 ∨ k_ = q2) ∨ k_ = p by omega))).step hchg21 (fun k_ hk_ (h_ : k_ = p) => (show (k_ = q1 ∨ k_ = q2) ∨ k_ = p by omega))).step hb154 (fun k_ hk_ (h_ : k_ = q1) => (show (k_ = q1 ∨ k_ = q2) ∨ k_ = p by omega))).step hchg163 (fun k_ hk_ (h_ : False) => h_.elim)).step hchg (fun k_ hk_ (h_ : k_ = p) => (show (k_ = q1 ∨ k_ = q2) ∨ k_ = p by omega))), _, _, _, _, _, _, hcur⟩
                  intro big_ first_ h2_
                  have F_ := hdr_facts h2_
                  have e0_ := NumOk.eq hnum16 F_.n0
                  have e1_ := NumOk.eq hnum21 F_.n2
                  cases big_ with
                  | true =>
                    have hl_ := F_.len
                    have hp_ := F_.pl
                    have hb_ := F_.lenb rfl
                    simp only [if_true, if_false, Bool.false_eq_true] at e1_
                    first | omega | exact hno.not (F_.n4 rfl)
                  | false =>
                    have hl_ := F_.len
                    have hp_ := F_.pl
                    simp only [if_true, if_false, Bool.false_eq_true] at e1_
                    first | omega | exact hno.not (F_.m4 rfl)
            · have hk159 := decide_eq_false hc158
              have hs221 : w152.heap[q1]? = some (.cells #[.bool false] 4 (0, 0)) := by have h_ := hc156; rw [hk159] at h_; exact h_
              refine t_no rfl hk159 ?_
              refine t_skip ?_
              refine fun a_ ha_ => hK149 _ _ _ (T.sub (L' := [(0, .pointer (some ⟨p, 0, none⟩)), (1, .pointer (some ⟨q1, 0, none⟩)), (2, .pointer (some ⟨q2, 0, none⟩)), (4, .int .i64 (m16 : Int)), (5, .int .i64 (m21 : Int)), (6, .int .i64 4), (9, .bool (decide (((l.length : Int) - (0 : Int)) < 8))), (25, .bool false), (30, .bool (decide ((m21 : Int) = 43)))]) ?_ (sub_cons rfl (sub_cons rfl (sub_cons rfl (sub_cons rfl (sub_cons rfl (sub_cons rfl (sub_cons rfl (sub_cons rfl (sub_cons rfl sub_nil)))))))))) a_ ha_
              refine t_seq (fun K222 hK222 => ?_)
              refine t_region ?_
              refine tl_val (w' := w152) rfl (do_move rfl) (by decide) ?_
              refine tl_val (w' := w152) rfl (do_move rfl) (by decide) ?_
              have h223 := (Cur.chg hcur21 hb154 (show ¬ p = q1 by omega) (fun a_ h1_ h2_ => Rd.ne (cs := [.bool x1]) (hcur21).rd h151 (by rfl) a_ h1_ h2_))
              refine tl_call rfl (en_call (f := 32) (by kernel_rfl) rfl) rfl (number_e 4 h223 (by omega)) (fun v227 w225 hr226 => ?_) ?_ (fun _ h => h)
              · obtain ⟨m224, rfl, hnum224, hcur224, hchg224⟩ := hr226
                have hz228 := hchg224.size
                have hle224 := hnum224.2.1
                have hlm224 := hnum224.2.2.2
                have h229 := (hchg224.obj (show ¬ q2 = p by omega) (hb154.obj (show ¬ q2 = q1 by omega) (hchg21.obj (show ¬ q2 = p by omega) (hchg16.obj (show ¬ q2 = p by omega) (hchg3.obj (fun x => x) h2)))))
                refine tl_unit rfl (do_store (u := .int .i64 x2) rfl rfl rfl (by kernel_rfl) (by rw [obj_cell h229]; rfl) (obj_frozen h229 _)) ?_
                refine tl_gen (fun w230 e231 => ?_)
                have hb232 : Chg (fun k => k = q2) w225 w230 := e231 ▸ Chg.setCell _ _ _ _
                have hz233 : w230.heap.size = w225.heap.size := by rw [e231]; simp
                have hc234 : w230.heap[q2]? = some (.cells #[.int .i64 (m224 : Int)] 3 (0, 0)) := by rw [e231]; exact obj_setCell h229
                clear e231
                refine tl_end ?_
                refine fun a_ ha_ => hK222 _ _ _ (T.sub (L' := [(0, .pointer (some ⟨p, 0, none⟩)), (1, .pointer (some ⟨q1, 0, none⟩)), (2, .pointer (some ⟨q2, 0, none⟩)), (4, .int .i64 (m16 : Int)), (5, .int .i64 (m21 : Int)), (6, .int .i64 4), (9, .bool (decide (((l.length : Int) - (0 : Int)) < 8))), (25, .bool false), (30, .bool (decide ((m21 : Int) = 43)))]) ?_ (sub_cons rfl (sub_cons rfl (sub_cons rfl (sub_cons rfl (sub_cons rfl (sub_cons rfl (sub_cons rfl (sub_cons rfl (sub_cons rfl sub_nil)))))))))) a_ ha_
                refine t_seq (fun K235 hK235 => ?_)
                refine t_region ?_
                refine tl_val (w' := w230) rfl (do_load (v := .int .i64 (m224 : Int)) rfl (by kernel_rfl) (by rw [obj_cell hc234]; rfl)) (by decide) ?_
                refine tl_val (w' := w230) rfl (do_neq rfl rfl) (by decide) ?_
                refine tl_val (w' := w230) rfl (do_move rfl) (by decide) ?_
                by_cases hc236 : (m224 : Int) ≠ 0
                · have hk237 := decide_eq_true hc236
                  refine tl_val (w' := w230) ⟨46, _, rfl, rfl, (by rw [hk237]; rfl)⟩ (do_load (v := .int .i64 (m224 : Int)) rfl (by kernel_rfl) (by rw [obj_cell hc234]; rfl)) (by decide) ?_
                  have h238 := (hb232.obj (show ¬ q1 = q2 by omega) (hchg224.obj (show ¬ q1 = p by omega) hs221))
                  refine tl_val (w' := w230) ⟨46, _, rfl, rfl, (by rw [hk237]; rfl)⟩ (do_load (v := .bool false) rfl (by kernel_rfl) (by rw [obj_cell h238]; rfl)) (by decide) ?_
                  refine tl_call ⟨46, _, rfl, rfl, (by rw [hk237]; rfl)⟩ (en_call (f := 38) (by kernel_rfl) rfl) rfl (place_e (m224 : Int) false _) (fun v240 _ hr239 => ?_) (fun _ _ h => h.elim) (fun _ h => h)
                  obtain ⟨rfl, rfl⟩ := hr239
                  refine tl_val (w' := w230) ⟨46, _, rfl, rfl, (by rw [hk237]; rfl)⟩ (do_not rfl (not_dec _)) (by decide) ?_
                  refine tl_val (w' := w230) rfl (do_pick_t rfl hk237 rfl) (by decide) ?_
                  refine tl_end ?_
                  refine fun a_ ha_ => hK235 _ _ _ (T.sub (L' := [(0, .pointer (some ⟨p, 0, none⟩)), (1, .pointer (some ⟨q1, 0, none⟩)), (2, .pointer (some ⟨q2, 0, none⟩)), (4, .int .i64 (m16 : Int)), (5, .int .i64 (m21 : Int)), (6, .int .i64 4), (9, .bool (decide (((l.length : Int) - (0 : Int)) < 8))), (25, .bool false), (30, .bool (decide ((m21 : Int) = 43))), (51, .bool (decide (¬ (PlaceP (m224 : Int) false))))]) ?_ (sub_cons rfl (sub_cons rfl (sub_cons rfl (sub_cons rfl (sub_cons rfl (sub_cons rfl (sub_cons rfl (sub_cons rfl (sub_cons rfl (sub_cons rfl sub_nil))))))))))) a_ ha_
                  by_cases hc241 : ¬ (PlaceP (m224 : Int) false)
                  · have hk242 := decide_eq_true hc241
                    refine t_yes rfl hk242 ?_
                    refine t_region ?_
                    refine tl_val (w' := w230) rfl (do_move rfl) (by decide) ?_
                    have h243 := (Cur.chg hcur224 hb232 (show ¬ p = q2 by omega) (fun a_ h1_ h2_ => Rd.ne (cs := [.int .i64 x2]) (hcur224).rd h229 (by rfl) a_ h1_ h2_))
                    refine tl_call rfl (en_call (f := 44) (by kernel_rfl) rfl) rfl (fails_e 2 (by decide) h243.c3) (fun _ _ h => h.elim) ?_ (fun _ h => h)
                    intro ch_ w_ h_
                    refine fun a_ ha_ => hQ0 _ _ _ (body_panic ha_ ?_)
                    obtain ⟨rfl, rfl⟩ := h_
                    refine ⟨2, by decide, rfl, ⟨_, _, h238, hc234, .inl ⟨_, by decide, rfl, ?_⟩⟩, (((((((Chg.refl (fun k_ => (k_ = q1 ∨ k_ = q2) ∨ k_ = p) w).step hchg3 (fun k_ hk_ (h_ : False) => h_.elim)).step hchg16 (fun k_ hk_ (h_ : k_ = p) => (show (k_ = q1 ∨ k_ = q2) ∨ k_ = p by omega))).step hchg21 (fun k_ hk_ (h_ : k_ = p) => (show (k_ = q1 ∨ k_ = q2) ∨ k_ = p by omega))).step hb154 (fun k_ hk_ (h_ : k_ = q1) => (show (k_ = q1 ∨ k_ = q2) ∨ k_ = p by omega))).step hchg224 (fun k_ hk_ (h_ : k_ = p) => (show (k_ = q1 ∨ k_ = q2) ∨ k_ = p by omega))).step hb232 (fun k_ hk_ (h_ : k_ = q2) => (show (k_ = q1 ∨ k_ = q2) ∨ k_ = p by omega))), _, _, _, _, _, _, h243⟩
                    intro big_ first_ h2_
                    have F_ := hdr_facts h2_
                    have e0_ := NumOk.eq hnum16 F_.n0
                    have e1_ := NumOk.eq hnum21 F_.n2
                    cases big_ with
                    | true =>
                      have hl_ := F_.len
                      have hp_ := F_.pl
                      have hb_ := F_.lenb rfl
                      simp only [if_true, if_false, Bool.false_eq_true] at e1_
                      have e2_ := NumOk.eq hnum224 (F_.n4 rfl)
                      first | omega | (rcases hp_ with h0_ | h0_ <;> first | omega | exact absurd h0_ (by rw [← e2_]; assumption) | (rw [← e2_] at h0_; contradiction))
                    | false =>
                      have hl_ := F_.len
                      have hp_ := F_.pl
                      simp only [if_true, if_false, Bool.false_eq_true] at e1_
                      have e2_ := NumOk.eq hnum224 (F_.m4 rfl)
                      first | omega | (rcases hp_ with h0_ | h0_ <;> first | omega | exact absurd h0_ (by rw [← e2_]; assumption) | (rw [← e2_] at h0_; contradiction))
                  · have hk242 := decide_eq_false hc241
                    refine t_no rfl hk242 ?_
                    refine t_skip ?_
                    refine fun a_ ha_ => hQ0 _ _ _ (body_end (rs := []) (vs := []) ha_ (by kernel_rfl) rfl ?_)
                    have h247 := (Cur.chg hcur224 hb232 (show ¬ p = q2 by omega) (fun a_ h1_ h2_ => Rd.ne (cs := [.int .i64 x2]) (hcur224).rd h229 (by rfl) a_ h1_ h2_))
                    refine ⟨rfl, ⟨_, _, h238, hc234, .inr ⟨rfl, ⟨by omega, by omega⟩, ?_⟩⟩, (((((((Chg.refl (fun k_ => (k_ = q1 ∨ k_ = q2) ∨ k_ = p) w).step hchg3 (fun k_ hk_ (h_ : False) => h_.elim)).step hchg16 (fun k_ hk_ (h_ : k_ = p) => (show (k_ = q1 ∨ k_ = q2) ∨ k_ = p by omega))).step hchg21 (fun k_ hk_ (h_ : k_ = p) => (show (k_ = q1 ∨ k_ = q2) ∨ k_ = p by omega))).step hb154 (fun k_ hk_ (h_ : k_ = q1) => (show (k_ = q1 ∨ k_ = q2) ∨ k_ = p by omega))).step hchg224 (fun k_ hk_ (h_ : k_ = p) => (show (k_ = q1 ∨ k_ = q2) ∨ k_ = p by omega))).step hb232 (fun k_ hk_ (h_ : k_ = q2) => (show (k_ = q1 ∨ k_ = q2) ∨ k_ = p by omega))), _, _, _, _, _, _, h247⟩
                    intro big_ first_ h2_
                    have F_ := hdr_facts h2_
                    have e0_ := NumOk.eq hnum16 F_.n0
                    have e1_ := NumOk.eq hnum21 F_.n2
                    cases big_ with
                    | true =>
                      simp only [if_true, if_false, Bool.false_eq_true] at e1_
                      omega
                    | false =>
                      simp only [if_true, if_false, Bool.false_eq_true] at e1_
                      exact ⟨rfl, NumOk.eq hnum224 (F_.m4 rfl)⟩
                · have hk237 := decide_eq_false hc236
                  refine tl_skipU ⟨46, _, rfl, rfl, (by rw [hk237]; rfl)⟩ (by decide) ?_
                  refine tl_skipU ⟨46, _, rfl, rfl, (by rw [hk237]; rfl)⟩ (by decide) ?_
                  refine tl_skipU ⟨46, _, rfl, rfl, (by rw [hk237]; rfl)⟩ (by decide) ?_
                  refine tl_skipU ⟨46, _, rfl, rfl, (by rw [hk237]; rfl)⟩ (by decide) ?_
                  refine tl_val (w' := w230) rfl (do_pick_f rfl hk237 rfl) (by decide) ?_
                  refine tl_end ?_
                  refine fun a_ ha_ => hK235 _ _ _ (T.sub (L' := [(0, .pointer (some ⟨p, 0, none⟩)), (1, .pointer (some ⟨q1, 0, none⟩)), (2, .pointer (some ⟨q2, 0, none⟩)), (4, .int .i64 (m16 : Int)), (5, .int .i64 (m21 : Int)), (6, .int .i64 4), (9, .bool (decide (((l.length : Int) - (0 : Int)) < 8))), (25, .bool false), (30, .bool (decide ((m21 : Int) = 43))), (51, .bool false)]) ?_ (sub_cons rfl (sub_cons rfl (sub_cons rfl (sub_cons rfl (sub_cons rfl (sub_cons rfl (sub_cons rfl (sub_cons rfl (sub_cons rfl (sub_cons rfl sub_nil))))))))))) a_ ha_
                  refine t_no rfl rfl ?_
                  refine t_skip ?_
                  refine fun a_ ha_ => hQ0 _ _ _ (body_end (rs := []) (vs := []) ha_ (by kernel_rfl) rfl ?_)
                  have h248 := (hb232.obj (show ¬ q1 = q2 by omega) (hchg224.obj (show ¬ q1 = p by omega) hs221))
                  have h249 := (Cur.chg hcur224 hb232 (show ¬ p = q2 by omega) (fun a_ h1_ h2_ => Rd.ne (cs := [.int .i64 x2]) (hcur224).rd h229 (by rfl) a_ h1_ h2_))
                  refine ⟨rfl, ⟨_, _, h248, hc234, .inr ⟨rfl, ⟨by omega, by omega⟩, ?_⟩⟩, (((((((Chg.refl (fun k_ => (k_ = q1 ∨ k_ = q2) ∨ k_ = p) w).step hchg3 (fun k_ hk_ (h_ : False) => h_.elim)).step hchg16 (fun k_ hk_ (h_ : k_ = p) => (show (k_ = q1 ∨ k_ = q2) ∨ k_ = p by omega))).step hchg21 (fun k_ hk_ (h_ : k_ = p) => (show (k_ = q1 ∨ k_ = q2) ∨ k_ = p by omega))).step hb154 (fun k_ hk_ (h_ : k_ = q1) => (show (k_ = q1 ∨ k_ = q2) ∨ k_ = p by omega))).step hchg224 (fun k_ hk_ (h_ : k_ = p) => (show (k_ = q1 ∨ k_ = q2) ∨ k_ = p by omega))).step hb232 (fun k_ hk_ (h_ : k_ = q2) => (show (k_ = q1 ∨ k_ = q2) ∨ k_ = p by omega))), _, _, _, _, _, _, h249⟩
                  intro big_ first_ h2_
                  have F_ := hdr_facts h2_
                  have e0_ := NumOk.eq hnum16 F_.n0
                  have e1_ := NumOk.eq hnum21 F_.n2
                  cases big_ with
                  | true =>
                    simp only [if_true, if_false, Bool.false_eq_true] at e1_
                    omega
                  | false =>
                    simp only [if_true, if_false, Bool.false_eq_true] at e1_
                    exact ⟨rfl, NumOk.eq hnum224 (F_.m4 rfl)⟩
              · intro ch_ w_ h_
                refine fun a_ ha_ => hQ0 _ _ _ (body_panic ha_ ?_)
                obtain ⟨k_, rfl, hno, hcur, hchg⟩ := h_
                have h250 := (hchg.obj (show ¬ q1 = p by omega) hs221)
                have h251 := (hchg.obj (show ¬ q2 = p by omega) (hb154.obj (show ¬ q2 = q1 by omega) (hchg21.obj (show ¬ q2 = p by omega) (hchg16.obj (show ¬ q2 = p by omega) (hchg3.obj (fun x => x) h2)))))
                refine ⟨(k_ : Int), by exact_mod_cast hno.2, rfl, ⟨_, _, h250, h251, .inl ⟨_, by exact_mod_cast hno.2, rfl, ?_⟩⟩, ((((((Chg.refl (fun k_ => (k_ = q1 ∨ k_ = q2) ∨ k_ = p) w).step hchg3 (fun k_ hk_ (h_ : False) => h_.elim)).step hchg16 (fun k_ hk_ (h_ : k_ = p) => (show (k_ = q1 ∨ k_ = q2) ∨ k_ = p by omega))).step hchg21 (fun k_ hk_ (h_ : k_ = p) => (show (k_ = q1 ∨ k_ = q2) ∨ k_ = p by omega))).step hb154 (fun k_ hk_ (h_ : k_ = q1) => (show (k_ = q1 ∨ k_ = q2) ∨ k_ = p by omega))).step hchg (fun k_ hk_ (h_ : k_ = p) => (show (k_ = q1 ∨ k_ = q2) ∨ k_ = p by omega))), _, _, _, _, _, _, hcur⟩
                intro big_ first_ h2_
                have F_ := hdr_facts h2_
                have e0_ := NumOk.eq hnum16 F_.n0
                have e1_ := NumOk.eq hnum21 F_.n2
                cases big_ with
                | true =>
                  have hl_ := F_.len
                  have hp_ := F_.pl
                  have hb_ := F_.lenb rfl
                  simp only [if_true, if_false, Bool.false_eq_true] at e1_
                  first | omega | exact hno.not (F_.n4 rfl)
                | false =>
                  have hl_ := F_.len
                  have hp_ := F_.pl
                  simp only [if_true, if_false, Bool.false_eq_true] at e1_
                  first | omega | exact hno.not (F_.m4 rfl)
      · intro ch_ w_ h_
        refine fun a_ ha_ => hQ0 _ _ _ (body_panic ha_ ?_)
        obtain ⟨k_, rfl, hno, hcur, hchg⟩ := h_
        have h252 := (hchg.obj (show ¬ q1 = p by omega) (hchg16.obj (show ¬ q1 = p by omega) (hchg3.obj (fun x => x) h1)))
        have h253 := (hchg.obj (show ¬ q2 = p by omega) (hchg16.obj (show ¬ q2 = p by omega) (hchg3.obj (fun x => x) h2)))
        refine ⟨(k_ : Int), by exact_mod_cast hno.2, rfl, ⟨_, _, h252, h253, .inl ⟨_, by exact_mod_cast hno.2, rfl, ?_⟩⟩, ((((Chg.refl (fun k_ => (k_ = q1 ∨ k_ = q2) ∨ k_ = p) w).step hchg3 (fun k_ hk_ (h_ : False) => h_.elim)).step hchg16 (fun k_ hk_ (h_ : k_ = p) => (show (k_ = q1 ∨ k_ = q2) ∨ k_ = p by omega))).step hchg (fun k_ hk_ (h_ : k_ = p) => (show (k_ = q1 ∨ k_ = q2) ∨ k_ = p by omega))), _, _, _, _, _, _, hcur⟩
        intro big_ first_ h2_
        have F_ := hdr_facts h2_
        have e0_ := NumOk.eq hnum16 F_.n0
        cases big_ with
        | true =>
          have hl_ := F_.len
          have hp_ := F_.pl
          have hb_ := F_.lenb rfl
          first | omega | exact hno.not F_.n2
        | false =>
          have hl_ := F_.len
          have hp_ := F_.pl
          first | omega | exact hno.not F_.n2
    · intro ch_ w_ h_
      refine fun a_ ha_ => hQ0 _ _ _ (body_panic ha_ ?_)
      obtain ⟨k_, rfl, hno, hcur, hchg⟩ := h_
      have h254 := (hchg.obj (show ¬ q1 = p by omega) (hchg3.obj (fun x => x) h1))
      have h255 := (hchg.obj (show ¬ q2 = p by omega) (hchg3.obj (fun x => x) h2))
      refine ⟨(k_ : Int), by exact_mod_cast hno.2, rfl, ⟨_, _, h254, h255, .inl ⟨_, by exact_mod_cast hno.2, rfl, ?_⟩⟩, (((Chg.refl (fun k_ => (k_ = q1 ∨ k_ = q2) ∨ k_ = p) w).step hchg3 (fun k_ hk_ (h_ : False) => h_.elim)).step hchg (fun k_ hk_ (h_ : k_ = p) => (show (k_ = q1 ∨ k_ = q2) ∨ k_ = p by omega))), _, _, _, _, _, _, hcur⟩
      intro big_ first_ h2_
      have F_ := hdr_facts h2_
      cases big_ with
      | true =>
        have hl_ := F_.len
        have hp_ := F_.pl
        have hb_ := F_.lenb rfl
        first | omega | exact hno.not F_.n0
      | false =>
        have hl_ := F_.len
        have hp_ := F_.pl
        first | omega | exact hno.not F_.n0
end Go.Proofs.YtfmpbbeacpdalaaDoor
