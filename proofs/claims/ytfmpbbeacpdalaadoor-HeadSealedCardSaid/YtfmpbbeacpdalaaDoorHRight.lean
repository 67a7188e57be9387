/-
  What heads and places may be.
-/
import Derived.Test.YtfmpbbeacpdalaaDoorAppB
import Derived.Test.YtfmpbbeacpdalaaDoorCPure
import Derived.OpenShut
set_option linter.unusedVariables false
set_option linter.unusedSimpArgs false
set_option maxRecDepth 100000
namespace Go.Proofs.YtfmpbbeacpdalaaDoor
open Go.RowKit

/-- May a head be? -/
def RightP (gen first last : Int) : Prop := last % 128 = 0 ∧ first % 128 = 0 ∧ 1 ≤ gen ∧ gen ≤ 1099511627776 ∧ 128 ≤ last ∧ last ≤ 524288 ∧ (first = 0 ∨ 128 ≤ first ∧ first < last)
instance (gen first last : Int) : Decidable (RightP gen first last) := inferInstanceAs (Decidable (_ ∧ _))
/-- May a directory lie there? -/
def farOf (big : Bool) : Int := if big then 1099511627776 else 4294967296
def PlaceP (at_ : Int) (big : Bool) : Prop := 8 ≤ at_ ∧ at_ % 2 = 0 ∧ at_ < farOf big
instance (at_ : Int) (big : Bool) : Decidable (PlaceP at_ big) := inferInstanceAs (Decidable (_ ∧ _))
theorem tmod0 (a b : Int) (hb : 0 < b) : a.tmod b = 0 ↔ a % b = 0 := by
  rw [← Int.dvd_iff_tmod_eq_zero, ← Int.dvd_iff_emod_eq_zero]
theorem vt {p : Prop} [Decidable p] (h : p) : Value.bool true = .bool (decide p) := by rw [decide_eq_true h]
theorem vf {p : Prop} [Decidable p] (h : ¬p) : Value.bool false = .bool (decide p) := by rw [decide_eq_false h]

theorem right_e (big : Bool) (gen first last : Int) (w : World) : Calls Tryd.prog 13 [.agg #[.bool big, .int .i64 gen, .int .i64 first, .int .i64 last]].toArray w (Ret fun v w' => v = .bool (decide (RightP gen first last)) ∧ Chg (fun _ => False) w w') := by
  refine enter (n := 52) (L := [(0, .agg #[.bool big, .int .i64 gen, .int .i64 first, .int .i64 last])]) (args := [.agg #[.bool big, .int .i64 gen, .int .i64 first, .int .i64 last]]) Tryd.func13 rfl rfl (Nat.le_of_ble_eq_true rfl) (by intro t v h; exact look_args h) ?_
  refine t_body (fun Q0 hB0 hQ0 => ?_)
  refine t_seq (fun K1 hK1 => ?_)
  refine t_region ?_
  refine tl_val rfl (do_box (v := .pointer (some ⟨w.heap.size, 0, none⟩)) (w' := w.alloc (.cells #[.bool big, .int .i64 gen, .int .i64 first, .int .i64 last] 23)) rfl (by kernel_rfl)) (by decide) ?_
  refine tl_gen (fun w2 e3 => ?_)
  have hb4 : Chg (fun _ => False) w w2 := e3 ▸ Chg.alloc _ _
  have hz5 : w2.heap.size = w.heap.size + 1 := by rw [e3]; exact size_alloc _ _
  have hc6 : w2.heap[w.heap.size]? = some (.cells #[.bool big, .int .i64 gen, .int .i64 first, .int .i64 last] 23 (0, 0)) := by rw [e3]; exact obj_new _ _
  clear e3
  refine tl_val (w' := w2) rfl (do_assign rfl) (by decide) ?_
  refine tl_end ?_
  refine fun a_ ha_ => hK1 _ _ _ (T.sub (L' := [(0, .agg #[.bool big, .int .i64 gen, .int .i64 first, .int .i64 last]), (1, .pointer (some ⟨w.heap.size, 0, none⟩)), (2, .bool false)]) ?_ (sub_cons rfl (sub_cons rfl (sub_cons rfl sub_nil)))) a_ ha_
  refine t_seq (fun K7 hK7 => ?_)
  refine t_region ?_
  refine tl_val (w' := w2) rfl (do_fieldAddr (v := .pointer (some ⟨w.heap.size, 3, none⟩)) rfl (by kernel_rfl)) (by decide) ?_
  refine tl_val (w' := w2) rfl (do_load (v := .int .i64 last) rfl (by kernel_rfl) (by rw [obj_cell hc6]; rfl)) (by decide) ?_
  have ht8 := tmod0 last 128 (by decide)
  refine tl_val (w' := w2) rfl (do_rem (c := Int.tmod last 128) rfl rfl (by decide) rfl) (by decide) ?_
  refine tl_val (w' := w2) rfl (do_eql rfl rfl) (by decide) ?_
  refine tl_val (w' := w2) rfl (do_move rfl) (by decide) ?_
  by_cases hc9 : (Int.tmod last 128) = 0
  · have hk10 := decide_eq_true hc9
    refine tl_val (w' := w2) ⟨8, _, rfl, rfl, (by rw [hk10]; rfl)⟩ (do_fieldAddr (v := .pointer (some ⟨w.heap.size, 2, none⟩)) rfl (by kernel_rfl)) (by decide) ?_
    refine tl_val (w' := w2) ⟨8, _, rfl, rfl, (by rw [hk10]; rfl)⟩ (do_load (v := .int .i64 first) rfl (by kernel_rfl) (by rw [obj_cell hc6]; rfl)) (by decide) ?_
    have ht11 := tmod0 first 128 (by decide)
    refine tl_val (w' := w2) ⟨8, _, rfl, rfl, (by rw [hk10]; rfl)⟩ (do_rem (c := Int.tmod first 128) rfl rfl (by decide) rfl) (by decide) ?_
    refine tl_val (w' := w2) ⟨8, _, rfl, rfl, (by rw [hk10]; rfl)⟩ (do_eql rfl rfl) (by decide) ?_
    refine tl_val (w' := w2) rfl (do_pick_t rfl hk10 rfl) (by decide) ?_
    refine tl_val (w' := w2) rfl (do_assign rfl) (by decide) ?_
    refine tl_end ?_
    refine fun a_ ha_ => hK7 _ _ _ (T.sub (L' := [(0, .agg #[.bool big, .int .i64 gen, .int .i64 first, .int .i64 last]), (1, .pointer (some ⟨w.heap.size, 0, none⟩)), (2, .bool false), (3, .bool (decide ((Int.tmod first 128) = 0)))]) ?_ (sub_cons rfl (sub_cons rfl (sub_cons rfl (sub_cons rfl sub_nil))))) a_ ha_
    refine t_seq (fun K12 hK12 => ?_)
    refine t_region ?_
    refine tl_val (w' := w2) rfl (do_move rfl) (by decide) ?_
    refine tl_val (w' := w2) rfl (do_move rfl) (by decide) ?_
    by_cases hc13 : (Int.tmod first 128) = 0
    · have hk14 := decide_eq_true hc13
      refine tl_val (w' := w2) ⟨15, _, rfl, rfl, (by rw [hk14]; rfl)⟩ (do_fieldAddr (v := .pointer (some ⟨w.heap.size, 1, none⟩)) rfl (by kernel_rfl)) (by decide) ?_
      refine tl_val (w' := w2) ⟨15, _, rfl, rfl, (by rw [hk14]; rfl)⟩ (do_load (v := .int .i64 gen) rfl (by kernel_rfl) (by rw [obj_cell hc6]; rfl)) (by decide) ?_
      refine tl_val (w' := w2) ⟨15, _, rfl, rfl, (by rw [hk14]; rfl)⟩ (do_geq rfl rfl) (by decide) ?_
      refine tl_val (w' := w2) rfl (do_pick_t rfl hk14 rfl) (by decide) ?_
      refine tl_val (w' := w2) rfl (do_move rfl) (by decide) ?_
      by_cases hc15 : gen ≥ 1
      · have hk16 := decide_eq_true hc15
        refine tl_val (w' := w2) ⟨20, _, rfl, rfl, (by rw [hk16]; rfl)⟩ (do_fieldAddr (v := .pointer (some ⟨w.heap.size, 1, none⟩)) rfl (by kernel_rfl)) (by decide) ?_
        refine tl_val (w' := w2) ⟨20, _, rfl, rfl, (by rw [hk16]; rfl)⟩ (do_load (v := .int .i64 gen) rfl (by kernel_rfl) (by rw [obj_cell hc6]; rfl)) (by decide) ?_
        refine tl_val (w' := w2) ⟨20, _, rfl, rfl, (by rw [hk16]; rfl)⟩ (do_leq rfl rfl) (by decide) ?_
        refine tl_val (w' := w2) rfl (do_pick_t rfl hk16 rfl) (by decide) ?_
        refine tl_val (w' := w2) rfl (do_move rfl) (by decide) ?_
        by_cases hc17 : gen ≤ 1099511627776
        · have hk18 := decide_eq_true hc17
          refine tl_val (w' := w2) ⟨25, _, rfl, rfl, (by rw [hk18]; rfl)⟩ (do_fieldAddr (v := .pointer (some ⟨w.heap.size, 3, none⟩)) rfl (by kernel_rfl)) (by decide) ?_
          refine tl_val (w' := w2) ⟨25, _, rfl, rfl, (by rw [hk18]; rfl)⟩ (do_load (v := .int .i64 last) rfl (by kernel_rfl) (by rw [obj_cell hc6]; rfl)) (by decide) ?_
          refine tl_val (w' := w2) ⟨25, _, rfl, rfl, (by rw [hk18]; rfl)⟩ (do_geq rfl rfl) (by decide) ?_
          refine tl_val (w' := w2) rfl (do_pick_t rfl hk18 rfl) (by decide) ?_
          refine tl_val (w' := w2) rfl (do_move rfl) (by decide) ?_
          by_cases hc19 : last ≥ 128
          · have hk20 := decide_eq_true hc19
            refine tl_val (w' := w2) ⟨30, _, rfl, rfl, (by rw [hk20]; rfl)⟩ (do_fieldAddr (v := .pointer (some ⟨w.heap.size, 3, none⟩)) rfl (by kernel_rfl)) (by decide) ?_
            refine tl_val (w' := w2) ⟨30, _, rfl, rfl, (by rw [hk20]; rfl)⟩ (do_load (v := .int .i64 last) rfl (by kernel_rfl) (by rw [obj_cell hc6]; rfl)) (by decide) ?_
            refine tl_val (w' := w2) ⟨30, _, rfl, rfl, (by rw [hk20]; rfl)⟩ (do_leq rfl rfl) (by decide) ?_
            refine tl_val (w' := w2) rfl (do_pick_t rfl hk20 rfl) (by decide) ?_
            refine tl_val (w' := w2) rfl (do_move rfl) (by decide) ?_
            by_cases hc21 : last ≤ 524288
            · have hk22 := decide_eq_true hc21
              refine tl_val (w' := w2) ⟨35, _, rfl, rfl, (by rw [hk22]; rfl)⟩ (do_fieldAddr (v := .pointer (some ⟨w.heap.size, 2, none⟩)) rfl (by kernel_rfl)) (by decide) ?_
              refine tl_val (w' := w2) ⟨35, _, rfl, rfl, (by rw [hk22]; rfl)⟩ (do_load (v := .int .i64 first) rfl (by kernel_rfl) (by rw [obj_cell hc6]; rfl)) (by decide) ?_
              refine tl_val (w' := w2) ⟨35, _, rfl, rfl, (by rw [hk22]; rfl)⟩ (do_eql rfl rfl) (by decide) ?_
              refine tl_val (w' := w2) ⟨35, _, rfl, rfl, (by rw [hk22]; rfl)⟩ (do_move rfl) (by decide) ?_
              by_cases hc23 : first = 0
              · have hk24 := decide_eq_true hc23
                refine tl_skipU ⟨39, _, rfl, rfl, (by rw [hk24]; rfl)⟩ (by decide) ?_
                refine tl_skipU ⟨39, _, rfl, rfl, (by rw [hk24]; rfl)⟩ (by decide) ?_
                refine tl_skipU ⟨39, _, rfl, rfl, (by rw [hk24]; rfl)⟩ (by decide) ?_
                refine tl_skipU ⟨39, _, rfl, rfl, (by rw [hk24]; rfl)⟩ (by decide) ?_
                refine tl_skipU ⟨43, _, rfl, rfl, rfl⟩ (by decide) ?_
                refine tl_skipU ⟨43, _, rfl, rfl, rfl⟩ (by decide) ?_
                refine tl_skipU ⟨43, _, rfl, rfl, rfl⟩ (by decide) ?_
                refine tl_skipU ⟨43, _, rfl, rfl, rfl⟩ (by decide) ?_
                refine tl_skipU ⟨43, _, rfl, rfl, rfl⟩ (by decide) ?_
                refine tl_skipU ⟨39, _, rfl, rfl, (by rw [hk24]; rfl)⟩ (by decide) ?_
                refine tl_val (w' := w2) ⟨35, _, rfl, rfl, (by rw [hk22]; rfl)⟩ (do_pick_t rfl hk24 rfl) (by decide) ?_
                refine tl_val (w' := w2) rfl (do_pick_t rfl hk22 rfl) (by decide) ?_
                refine tl_val (w' := w2) rfl (do_assign rfl) (by decide) ?_
                refine tl_end ?_
                refine fun a_ ha_ => hK12 _ _ _ (T.sub (L' := [(0, .agg #[.bool big, .int .i64 gen, .int .i64 first, .int .i64 last]), (1, .pointer (some ⟨w.heap.size, 0, none⟩)), (2, .bool true), (3, .bool (decide ((Int.tmod first 128) = 0)))]) ?_ (sub_cons rfl (sub_cons rfl (sub_cons rfl (sub_cons rfl sub_nil))))) a_ ha_
                refine t_ret ?_
                refine fun a_ ha_ => hQ0 _ _ _ (body_ret (rs := [.tmp 2]) (vs := [.bool true]) ha_ (by kernel_rfl) ⟨_, _, rfl, rfl, rfl⟩ ?_)
                exact ⟨vt (by unfold RightP; omega), ((Chg.refl (fun k_ => False) w).step hb4 (fun k_ hk_ (h_ : False) => h_.elim))⟩
              · have hk24 := decide_eq_false hc23
                refine tl_val (w' := w2) ⟨39, _, rfl, rfl, (by rw [hk24]; rfl)⟩ (do_fieldAddr (v := .pointer (some ⟨w.heap.size, 2, none⟩)) rfl (by kernel_rfl)) (by decide) ?_
                refine tl_val (w' := w2) ⟨39, _, rfl, rfl, (by rw [hk24]; rfl)⟩ (do_load (v := .int .i64 first) rfl (by kernel_rfl) (by rw [obj_cell hc6]; rfl)) (by decide) ?_
                refine tl_val (w' := w2) ⟨39, _, rfl, rfl, (by rw [hk24]; rfl)⟩ (do_geq rfl rfl) (by decide) ?_
                refine tl_val (w' := w2) ⟨39, _, rfl, rfl, (by rw [hk24]; rfl)⟩ (do_move rfl) (by decide) ?_
                by_cases hc25 : first ≥ 128
                · have hk26 := decide_eq_true hc25
                  refine tl_val (w' := w2) ⟨43, _, rfl, rfl, (by rw [hk26]; rfl)⟩ (do_fieldAddr (v := .pointer (some ⟨w.heap.size, 2, none⟩)) rfl (by kernel_rfl)) (by decide) ?_
                  refine tl_val (w' := w2) ⟨43, _, rfl, rfl, (by rw [hk26]; rfl)⟩ (do_load (v := .int .i64 first) rfl (by kernel_rfl) (by rw [obj_cell hc6]; rfl)) (by decide) ?_
                  refine tl_val (w' := w2) ⟨43, _, rfl, rfl, (by rw [hk26]; rfl)⟩ (do_fieldAddr (v := .pointer (some ⟨w.heap.size, 3, none⟩)) rfl (by kernel_rfl)) (by decide) ?_
                  refine tl_val (w' := w2) ⟨43, _, rfl, rfl, (by rw [hk26]; rfl)⟩ (do_load (v := .int .i64 last) rfl (by kernel_rfl) (by rw [obj_cell hc6]; rfl)) (by decide) ?_
                  refine tl_val (w' := w2) ⟨43, _, rfl, rfl, (by rw [hk26]; rfl)⟩ (do_lss rfl rfl) (by decide) ?_
                  refine tl_val (w' := w2) ⟨39, _, rfl, rfl, (by rw [hk24]; rfl)⟩ (do_pick_t rfl hk26 rfl) (by decide) ?_
                  refine tl_val (w' := w2) ⟨35, _, rfl, rfl, (by rw [hk22]; rfl)⟩ (do_pick_f rfl hk24 rfl) (by decide) ?_
                  refine tl_val (w' := w2) rfl (do_pick_t rfl hk22 rfl) (by decide) ?_
                  refine tl_val (w' := w2) rfl (do_assign rfl) (by decide) ?_
                  refine tl_end ?_
                  refine fun a_ ha_ => hK12 _ _ _ (T.sub (L' := [(0, .agg #[.bool big, .int .i64 gen, .int .i64 first, .int .i64 last]), (1, .pointer (some ⟨w.heap.size, 0, none⟩)), (2, .bool (decide (first < last))), (3, .bool (decide ((Int.tmod first 128) = 0)))]) ?_ (sub_cons rfl (sub_cons rfl (sub_cons rfl (sub_cons rfl sub_nil))))) a_ ha_
                  refine t_ret ?_
                  refine fun a_ ha_ => hQ0 _ _ _ (body_ret (rs := [.tmp 2]) (vs := [.bool (decide (first < last))]) ha_ (by kernel_rfl) ⟨_, _, rfl, rfl, rfl⟩ ?_)
                  by_cases hq_ : first < last
                  · exact ⟨by rw [decide_eq_true hq_]; exact vt (by unfold RightP; omega), ((Chg.refl (fun k_ => False) w).step hb4 (fun k_ hk_ (h_ : False) => h_.elim))⟩
                  · exact ⟨by rw [decide_eq_false hq_]; exact vf (by unfold RightP; omega), ((Chg.refl (fun k_ => False) w).step hb4 (fun k_ hk_ (h_ : False) => h_.elim))⟩
                · have hk26 := decide_eq_false hc25
                  refine tl_skipU ⟨43, _, rfl, rfl, (by rw [hk26]; rfl)⟩ (by decide) ?_
                  refine tl_skipU ⟨43, _, rfl, rfl, (by rw [hk26]; rfl)⟩ (by decide) ?_
                  refine tl_skipU ⟨43, _, rfl, rfl, (by rw [hk26]; rfl)⟩ (by decide) ?_
                  refine tl_skipU ⟨43, _, rfl, rfl, (by rw [hk26]; rfl)⟩ (by decide) ?_
                  refine tl_skipU ⟨43, _, rfl, rfl, (by rw [hk26]; rfl)⟩ (by decide) ?_
                  refine tl_val (w' := w2) ⟨39, _, rfl, rfl, (by rw [hk24]; rfl)⟩ (do_pick_f rfl hk26 rfl) (by decide) ?_
                  refine tl_val (w' := w2) ⟨35, _, rfl, rfl, (by rw [hk22]; rfl)⟩ (do_pick_f rfl hk24 rfl) (by decide) ?_
                  refine tl_val (w' := w2) rfl (do_pick_t rfl hk22 rfl) (by decide) ?_
                  refine tl_val (w' := w2) rfl (do_assign rfl) (by decide) ?_
                  refine tl_end ?_
                  refine fun a_ ha_ => hK12 _ _ _ (T.sub (L' := [(0, .agg #[.bool big, .int .i64 gen, .int .i64 first, .int .i64 last]), (1, .pointer (some ⟨w.heap.size, 0, none⟩)), (2, .bool false), (3, .bool (decide ((Int.tmod first 128) = 0)))]) ?_ (sub_cons rfl (sub_cons rfl (sub_cons rfl (sub_cons rfl sub_nil))))) a_ ha_
                  refine t_ret ?_
                  refine fun a_ ha_ => hQ0 _ _ _ (body_ret (rs := [.tmp 2]) (vs := [.bool false]) ha_ (by kernel_rfl) ⟨_, _, rfl, rfl, rfl⟩ ?_)
                  exact ⟨vf (by unfold RightP; omega), ((Chg.refl (fun k_ => False) w).step hb4 (fun k_ hk_ (h_ : False) => h_.elim))⟩
            · have hk22 := decide_eq_false hc21
              refine tl_skipU ⟨35, _, rfl, rfl, (by rw [hk22]; rfl)⟩ (by decide) ?_
              refine tl_skipU ⟨35, _, rfl, rfl, (by rw [hk22]; rfl)⟩ (by decide) ?_
              refine tl_skipU ⟨35, _, rfl, rfl, (by rw [hk22]; rfl)⟩ (by decide) ?_
              refine tl_skipU ⟨35, _, rfl, rfl, (by rw [hk22]; rfl)⟩ (by decide) ?_
              refine tl_skipU ⟨39, _, rfl, rfl, rfl⟩ (by decide) ?_
              refine tl_skipU ⟨39, _, rfl, rfl, rfl⟩ (by decide) ?_
              refine tl_skipU ⟨39, _, rfl, rfl, rfl⟩ (by decide) ?_
              refine tl_skipU ⟨39, _, rfl, rfl, rfl⟩ (by decide) ?_
              refine tl_skipU ⟨43, _, rfl, rfl, rfl⟩ (by decide) ?_
              refine tl_skipU ⟨43, _, rfl, rfl, rfl⟩ (by decide) ?_
              refine tl_skipU ⟨43, _, rfl, rfl, rfl⟩ (by decide) ?_
              refine tl_skipU ⟨43, _, rfl, rfl, rfl⟩ (by decide) ?_
              refine tl_skipU ⟨43, _, rfl, rfl, rfl⟩ (by decide) ?_
              refine tl_skipU ⟨39, _, rfl, rfl, rfl⟩ (by decide) ?_
              refine tl_skipU ⟨35, _, rfl, rfl, (by rw [hk22]; rfl)⟩ (by decide) ?_
              refine tl_val (w' := w2) rfl (do_pick_f rfl hk22 rfl) (by decide) ?_
              refine tl_val (w' := w2) rfl (do_assign rfl) (by decide) ?_
              refine tl_end ?_
              refine fun a_ ha_ => hK12 _ _ _ (T.sub (L' := [(0, .agg #[.bool big, .int .i64 gen, .int .i64 first, .int .i64 last]), (1, .pointer (some ⟨w.heap.size, 0, none⟩)), (2, .bool false), (3, .bool (decide ((Int.tmod first 128) = 0)))]) ?_ (sub_cons rfl (sub_cons rfl (sub_cons rfl (sub_cons rfl sub_nil))))) a_ ha_
              refine t_ret ?_
              refine fun a_ ha_ => hQ0 _ _ _ (body_ret (rs := [.tmp 2]) (vs := [.bool false]) ha_ (by kernel_rfl) ⟨_, _, rfl, rfl, rfl⟩ ?_)
              exact ⟨vf (by unfold RightP; omega), ((Chg.refl (fun k_ => False) w).step hb4 (fun k_ hk_ (h_ : False) => h_.elim))⟩
          · have hk20 := decide_eq_false hc19
            refine tl_skipU ⟨30, _, rfl, rfl, (by rw [hk20]; rfl)⟩ (by decide) ?_
            refine tl_skipU ⟨30, _, rfl, rfl, (by rw [hk20]; rfl)⟩ (by decide) ?_
            refine tl_skipU ⟨30, _, rfl, rfl, (by rw [hk20]; rfl)⟩ (by decide) ?_
            refine tl_val (w' := w2) rfl (do_pick_f rfl hk20 rfl) (by decide) ?_
            refine tl_val (w' := w2) rfl (do_move rfl) (by decide) ?_
            refine tl_skipU ⟨35, _, rfl, rfl, rfl⟩ (by decide) ?_
            refine tl_skipU ⟨35, _, rfl, rfl, rfl⟩ (by decide) ?_
            refine tl_skipU ⟨35, _, rfl, rfl, rfl⟩ (by decide) ?_
            refine tl_skipU ⟨35, _, rfl, rfl, rfl⟩ (by decide) ?_
            refine tl_skipU ⟨39, _, rfl, rfl, rfl⟩ (by decide) ?_
            refine tl_skipU ⟨39, _, rfl, rfl, rfl⟩ (by decide) ?_
            refine tl_skipU ⟨39, _, rfl, rfl, rfl⟩ (by decide) ?_
            refine tl_skipU ⟨39, _, rfl, rfl, rfl⟩ (by decide) ?_
            refine tl_skipU ⟨43, _, rfl, rfl, rfl⟩ (by decide) ?_
            refine tl_skipU ⟨43, _, rfl, rfl, rfl⟩ (by decide) ?_
            refine tl_skipU ⟨43, _, rfl, rfl, rfl⟩ (by decide) ?_
            refine tl_skipU ⟨43, _, rfl, rfl, rfl⟩ (by decide) ?_
            refine tl_skipU ⟨43, _, rfl, rfl, rfl⟩ (by decide) ?_
            refine tl_skipU ⟨39, _, rfl, rfl, rfl⟩ (by decide) ?_
            refine tl_skipU ⟨35, _, rfl, rfl, rfl⟩ (by decide) ?_
            refine tl_val (w' := w2) rfl (do_pick_f rfl rfl rfl) (by decide) ?_
            refine tl_val (w' := w2) rfl (do_assign rfl) (by decide) ?_
            refine tl_end ?_
            refine fun a_ ha_ => hK12 _ _ _ (T.sub (L' := [(0, .agg #[.bool big, .int .i64 gen, .int .i64 first, .int .i64 last]), (1, .pointer (some ⟨w.heap.size, 0, none⟩)), (2, .bool false), (3, .bool (decide ((Int.tmod first 128) = 0)))]) ?_ (sub_cons rfl (sub_cons rfl (sub_cons rfl (sub_cons rfl sub_nil))))) a_ ha_
            refine t_ret ?_
            refine fun a_ ha_ => hQ0 _ _ _ (body_ret (rs := [.tmp 2]) (vs := [.bool false]) ha_ (by kernel_rfl) ⟨_, _, rfl, rfl, rfl⟩ ?_)
            exact ⟨vf (by unfold RightP; omega), ((Chg.refl (fun k_ => False) w).step hb4 (fun k_ hk_ (h_ : False) => h_.elim))⟩
        · have hk18 := decide_eq_false hc17
          refine tl_skipU ⟨25, _, rfl, rfl, (by rw [hk18]; rfl)⟩ (by decide) ?_
          refine tl_skipU ⟨25, _, rfl, rfl, (by rw [hk18]; rfl)⟩ (by decide) ?_
          refine tl_skipU ⟨25, _, rfl, rfl, (by rw [hk18]; rfl)⟩ (by decide) ?_
          refine tl_val (w' := w2) rfl (do_pick_f rfl hk18 rfl) (by decide) ?_
          refine tl_val (w' := w2) rfl (do_move rfl) (by decide) ?_
          refine tl_skipU ⟨30, _, rfl, rfl, rfl⟩ (by decide) ?_
          refine tl_skipU ⟨30, _, rfl, rfl, rfl⟩ (by decide) ?_
          refine tl_skipU ⟨30, _, rfl, rfl, rfl⟩ (by decide) ?_
          refine tl_val (w' := w2) rfl (do_pick_f rfl rfl rfl) (by decide) ?_
          refine tl_val (w' := w2) rfl (do_move rfl) (by decide) ?_
          refine tl_skipU ⟨35, _, rfl, rfl, rfl⟩ (by decide) ?_
          refine tl_skipU ⟨35, _, rfl, rfl, rfl⟩ (by decide) ?_
          refine tl_skipU ⟨35, _, rfl, rfl, rfl⟩ (by decide) ?_
          refine tl_skipU ⟨35, _, rfl, rfl, rfl⟩ (by decide) ?_
          refine tl_skipU ⟨39, _, rfl, rfl, rfl⟩ (by decide) ?_
          refine tl_skipU ⟨39, _, rfl, rfl, rfl⟩ (by decide) ?_
          refine tl_skipU ⟨39, _, rfl, rfl, rfl⟩ (by decide) ?_
          refine tl_skipU ⟨39, _, rfl, rfl, rfl⟩ (by decide) ?_
          refine tl_skipU ⟨43, _, rfl, rfl, rfl⟩ (by decide) ?_
          refine tl_skipU ⟨43, _, rfl, rfl, rfl⟩ (by decide) ?_
          refine tl_skipU ⟨43, _, rfl, rfl, rfl⟩ (by decide) ?_
          refine tl_skipU ⟨43, _, rfl, rfl, rfl⟩ (by decide) ?_
          refine tl_skipU ⟨43, _, rfl, rfl, rfl⟩ (by decide) ?_
          refine tl_skipU ⟨39, _, rfl, rfl, rfl⟩ (by decide) ?_
          refine tl_skipU ⟨35, _, rfl, rfl, rfl⟩ (by decide) ?_
          refine tl_val (w' := w2) rfl (do_pick_f rfl rfl rfl) (by decide) ?_
          refine tl_val (w' := w2) rfl (do_assign rfl) (by decide) ?_
          refine tl_end ?_
          refine fun a_ ha_ => hK12 _ _ _ (T.sub (L' := [(0, .agg #[.bool big, .int .i64 gen, .int .i64 first, .int .i64 last]), (1, .pointer (some ⟨w.heap.size, 0, none⟩)), (2, .bool false), (3, .bool (decide ((Int.tmod first 128) = 0)))]) ?_ (sub_cons rfl (sub_cons rfl (sub_cons rfl (sub_cons rfl sub_nil))))) a_ ha_
          refine t_ret ?_
          refine fun a_ ha_ => hQ0 _ _ _ (body_ret (rs := [.tmp 2]) (vs := [.bool false]) ha_ (by kernel_rfl) ⟨_, _, rfl, rfl, rfl⟩ ?_)
          exact ⟨vf (by unfold RightP; omega), ((Chg.refl (fun k_ => False) w).step hb4 (fun k_ hk_ (h_ : False) => h_.elim))⟩
      · have hk16 := decide_eq_false hc15
        refine tl_skipU ⟨20, _, rfl, rfl, (by rw [hk16]; rfl)⟩ (by decide) ?_
        refine tl_skipU ⟨20, _, rfl, rfl, (by rw [hk16]; rfl)⟩ (by decide) ?_
        refine tl_skipU ⟨20, _, rfl, rfl, (by rw [hk16]; rfl)⟩ (by decide) ?_
        refine tl_val (w' := w2) rfl (do_pick_f rfl hk16 rfl) (by decide) ?_
        refine tl_val (w' := w2) rfl (do_move rfl) (by decide) ?_
        refine tl_skipU ⟨25, _, rfl, rfl, rfl⟩ (by decide) ?_
        refine tl_skipU ⟨25, _, rfl, rfl, rfl⟩ (by decide) ?_
        refine tl_skipU ⟨25, _, rfl, rfl, rfl⟩ (by decide) ?_
        refine tl_val (w' := w2) rfl (do_pick_f rfl rfl rfl) (by decide) ?_
        refine tl_val (w' := w2) rfl (do_move rfl) (by decide) ?_
        refine tl_skipU ⟨30, _, rfl, rfl, rfl⟩ (by decide) ?_
        refine tl_skipU ⟨30, _, rfl, rfl, rfl⟩ (by decide) ?_
        refine tl_skipU ⟨30, _, rfl, rfl, rfl⟩ (by decide) ?_
        refine tl_val (w' := w2) rfl (do_pick_f rfl rfl rfl) (by decide) ?_
        refine tl_val (w' := w2) rfl (do_move rfl) (by decide) ?_
        refine tl_skipU ⟨35, _, rfl, rfl, rfl⟩ (by decide) ?_
        refine tl_skipU ⟨35, _, rfl, rfl, rfl⟩ (by decide) ?_
        refine tl_skipU ⟨35, _, rfl, rfl, rfl⟩ (by decide) ?_
        refine tl_skipU ⟨35, _, rfl, rfl, rfl⟩ (by decide) ?_
        refine tl_skipU ⟨39, _, rfl, rfl, rfl⟩ (by decide) ?_
        refine tl_skipU ⟨39, _, rfl, rfl, rfl⟩ (by decide) ?_
        refine tl_skipU ⟨39, _, rfl, rfl, rfl⟩ (by decide) ?_
        refine tl_skipU ⟨39, _, rfl, rfl, rfl⟩ (by decide) ?_
        refine tl_skipU ⟨43, _, rfl, rfl, rfl⟩ (by decide) ?_
        refine tl_skipU ⟨43, _, rfl, rfl, rfl⟩ (by decide) ?_
        refine tl_skipU ⟨43, _, rfl, rfl, rfl⟩ (by decide) ?_
        refine tl_skipU ⟨43, _, rfl, rfl, rfl⟩ (by decide) ?_
        refine tl_skipU ⟨43, _, rfl, rfl, rfl⟩ (by decide) ?_
        refine tl_skipU ⟨39, _, rfl, rfl, rfl⟩ (by decide) ?_
        refine tl_skipU ⟨35, _, rfl, rfl, rfl⟩ (by decide) ?_
        refine tl_val (w' := w2) rfl (do_pick_f rfl rfl rfl) (by decide) ?_
        refine tl_val (w' := w2) rfl (do_assign rfl) (by decide) ?_
        refine tl_end ?_
        refine fun a_ ha_ => hK12 _ _ _ (T.sub (L' := [(0, .agg #[.bool big, .int .i64 gen, .int .i64 first, .int .i64 last]), (1, .pointer (some ⟨w.heap.size, 0, none⟩)), (2, .bool false), (3, .bool (decide ((Int.tmod first 128) = 0)))]) ?_ (sub_cons rfl (sub_cons rfl (sub_cons rfl (sub_cons rfl sub_nil))))) a_ ha_
        refine t_ret ?_
        refine fun a_ ha_ => hQ0 _ _ _ (body_ret (rs := [.tmp 2]) (vs := [.bool false]) ha_ (by kernel_rfl) ⟨_, _, rfl, rfl, rfl⟩ ?_)
        exact ⟨vf (by unfold RightP; omega), ((Chg.refl (fun k_ => False) w).step hb4 (fun k_ hk_ (h_ : False) => h_.elim))⟩
    · have hk14 := decide_eq_false hc13
      refine tl_skipU ⟨15, _, rfl, rfl, (by rw [hk14]; rfl)⟩ (by decide) ?_
      refine tl_skipU ⟨15, _, rfl, rfl, (by rw [hk14]; rfl)⟩ (by decide) ?_
      refine tl_skipU ⟨15, _, rfl, rfl, (by rw [hk14]; rfl)⟩ (by decide) ?_
      refine tl_val (w' := w2) rfl (do_pick_f rfl hk14 rfl) (by decide) ?_
      refine tl_val (w' := w2) rfl (do_move rfl) (by decide) ?_
      refine tl_skipU ⟨20, _, rfl, rfl, rfl⟩ (by decide) ?_
      refine tl_skipU ⟨20, _, rfl, rfl, rfl⟩ (by decide) ?_
      refine tl_skipU ⟨20, _, rfl, rfl, rfl⟩ (by decide) ?_
      refine tl_val (w' := w2) rfl (do_pick_f rfl rfl rfl) (by decide) ?_
      refine tl_val (w' := w2) rfl (do_move rfl) (by decide) ?_
      refine tl_skipU ⟨25, _, rfl, rfl, rfl⟩ (by decide) ?_
      refine tl_skipU ⟨25, _, rfl, rfl, rfl⟩ (by decide) ?_
      refine tl_skipU ⟨25, _, rfl, rfl, rfl⟩ (by decide) ?_
      refine tl_val (w' := w2) rfl (do_pick_f rfl rfl rfl) (by decide) ?_
      refine tl_val (w' := w2) rfl (do_move rfl) (by decide) ?_
      refine tl_skipU ⟨30, _, rfl, rfl, rfl⟩ (by decide) ?_
      refine tl_skipU ⟨30, _, rfl, rfl, rfl⟩ (by decide) ?_
      refine tl_skipU ⟨30, _, rfl, rfl, rfl⟩ (by decide) ?_
      refine tl_val (w' := w2) rfl (do_pick_f rfl rfl rfl) (by decide) ?_
      refine tl_val (w' := w2) rfl (do_move rfl) (by decide) ?_
      refine tl_skipU ⟨35, _, rfl, rfl, rfl⟩ (by decide) ?_
      refine tl_skipU ⟨35, _, rfl, rfl, rfl⟩ (by decide) ?_
      refine tl_skipU ⟨35, _, rfl, rfl, rfl⟩ (by decide) ?_
      refine tl_skipU ⟨35, _, rfl, rfl, rfl⟩ (by decide) ?_
      refine tl_skipU ⟨39, _, rfl, rfl, rfl⟩ (by decide) ?_
      refine tl_skipU ⟨39, _, rfl, rfl, rfl⟩ (by decide) ?_
      refine tl_skipU ⟨39, _, rfl, rfl, rfl⟩ (by decide) ?_
      refine tl_skipU ⟨39, _, rfl, rfl, rfl⟩ (by decide) ?_
      refine tl_skipU ⟨43, _, rfl, rfl, rfl⟩ (by decide) ?_
      refine tl_skipU ⟨43, _, rfl, rfl, rfl⟩ (by decide) ?_
      refine tl_skipU ⟨43, _, rfl, rfl, rfl⟩ (by decide) ?_
      refine tl_skipU ⟨43, _, rfl, rfl, rfl⟩ (by decide) ?_
      refine tl_skipU ⟨43, _, rfl, rfl, rfl⟩ (by decide) ?_
      refine tl_skipU ⟨39, _, rfl, rfl, rfl⟩ (by decide) ?_
      refine tl_skipU ⟨35, _, rfl, rfl, rfl⟩ (by decide) ?_
      refine tl_val (w' := w2) rfl (do_pick_f rfl rfl rfl) (by decide) ?_
      refine tl_val (w' := w2) rfl (do_assign rfl) (by decide) ?_
      refine tl_end ?_
      refine fun a_ ha_ => hK12 _ _ _ (T.sub (L' := [(0, .agg #[.bool big, .int .i64 gen, .int .i64 first, .int .i64 last]), (1, .pointer (some ⟨w.heap.size, 0, none⟩)), (2, .bool false), (3, .bool (decide ((Int.tmod first 128) = 0)))]) ?_ (sub_cons rfl (sub_cons rfl (sub_cons rfl (sub_cons rfl sub_nil))))) a_ ha_
      refine t_ret ?_
      refine fun a_ ha_ => hQ0 _ _ _ (body_ret (rs := [.tmp 2]) (vs := [.bool false]) ha_ (by kernel_rfl) ⟨_, _, rfl, rfl, rfl⟩ ?_)
      exact ⟨vf (by unfold RightP; omega), ((Chg.refl (fun k_ => False) w).step hb4 (fun k_ hk_ (h_ : False) => h_.elim))⟩
  · have hk10 := decide_eq_false hc9
    refine tl_skipU ⟨8, _, rfl, rfl, (by rw [hk10]; rfl)⟩ (by decide) ?_
    refine tl_skipU ⟨8, _, rfl, rfl, (by rw [hk10]; rfl)⟩ (by decide) ?_
    refine tl_skipU ⟨8, _, rfl, rfl, (by rw [hk10]; rfl)⟩ (by decide) ?_
    refine tl_skipU ⟨8, _, rfl, rfl, (by rw [hk10]; rfl)⟩ (by decide) ?_
    refine tl_val (w' := w2) rfl (do_pick_f rfl hk10 rfl) (by decide) ?_
    refine tl_val (w' := w2) rfl (do_assign rfl) (by decide) ?_
    refine tl_end ?_
    refine fun a_ ha_ => hK7 _ _ _ (T.sub (L' := [(0, .agg #[.bool big, .int .i64 gen, .int .i64 first, .int .i64 last]), (1, .pointer (some ⟨w.heap.size, 0, none⟩)), (2, .bool false), (3, .bool false)]) ?_ (sub_cons rfl (sub_cons rfl (sub_cons rfl (sub_cons rfl sub_nil))))) a_ ha_
    refine t_seq (fun K27 hK27 => ?_)
    refine t_region ?_
    refine tl_val (w' := w2) rfl (do_move rfl) (by decide) ?_
    refine tl_val (w' := w2) rfl (do_move rfl) (by decide) ?_
    refine tl_skipU ⟨15, _, rfl, rfl, rfl⟩ (by decide) ?_
    refine tl_skipU ⟨15, _, rfl, rfl, rfl⟩ (by decide) ?_
    refine tl_skipU ⟨15, _, rfl, rfl, rfl⟩ (by decide) ?_
    refine tl_val (w' := w2) rfl (do_pick_f rfl rfl rfl) (by decide) ?_
    refine tl_val (w' := w2) rfl (do_move rfl) (by decide) ?_
    refine tl_skipU ⟨20, _, rfl, rfl, rfl⟩ (by decide) ?_
    refine tl_skipU ⟨20, _, rfl, rfl, rfl⟩ (by decide) ?_
    refine tl_skipU ⟨20, _, rfl, rfl, rfl⟩ (by decide) ?_
    refine tl_val (w' := w2) rfl (do_pick_f rfl rfl rfl) (by decide) ?_
    refine tl_val (w' := w2) rfl (do_move rfl) (by decide) ?_
    refine tl_skipU ⟨25, _, rfl, rfl, rfl⟩ (by decide) ?_
    refine tl_skipU ⟨25, _, rfl, rfl, rfl⟩ (by decide) ?_
    refine tl_skipU ⟨25, _, rfl, rfl, rfl⟩ (by decide) ?_
    refine tl_val (w' := w2) rfl (do_pick_f rfl rfl rfl) (by decide) ?_
    refine tl_val (w' := w2) rfl (do_move rfl) (by decide) ?_
    refine tl_skipU ⟨30, _, rfl, rfl, rfl⟩ (by decide) ?_
    refine tl_skipU ⟨30, _, rfl, rfl, rfl⟩ (by decide) ?_
    refine tl_skipU ⟨30, _, rfl, rfl, rfl⟩ (by decide) ?_
    refine tl_val (w' := w2) rfl (do_pick_f rfl rfl rfl) (by decide) ?_
    refine tl_val (w' := w2) rfl (do_move rfl) (by decide) ?_
    refine tl_skipU ⟨35, _, rfl, rfl, rfl⟩ (by decide) ?_
    refine tl_skipU ⟨35, _, rfl, rfl, rfl⟩ (by decide) ?_
    refine tl_skipU ⟨35, _, rfl, rfl, rfl⟩ (by decide) ?_
    refine tl_skipU ⟨35, _, rfl, rfl, rfl⟩ (by decide) ?_
    refine tl_skipU ⟨39, _, rfl, rfl, rfl⟩ (by decide) ?_
    refine tl_skipU ⟨39, _, rfl, rfl, rfl⟩ (by decide) ?_
    refine tl_skipU ⟨39, _, rfl, rfl, rfl⟩ (by decide) ?_
    refine tl_skipU ⟨39, _, rfl, rfl, rfl⟩ (by decide) ?_
    refine tl_skipU ⟨43, _, rfl, rfl, rfl⟩ (by decide) ?_
    refine tl_skipU ⟨43, _, rfl, rfl, rfl⟩ (by decide) ?_
    refine tl_skipU ⟨43, _, rfl, rfl, rfl⟩ (by decide) ?_
    refine tl_skipU ⟨43, _, rfl, rfl, rfl⟩ (by decide) ?_
    refine tl_skipU ⟨43, _, rfl, rfl, rfl⟩ (by decide) ?_
    refine tl_skipU ⟨39, _, rfl, rfl, rfl⟩ (by decide) ?_
    refine tl_skipU ⟨35, _, rfl, rfl, rfl⟩ (by decide) ?_
    refine tl_val (w' := w2) rfl (do_pick_f rfl rfl rfl) (by decide) ?_
    refine tl_val (w' := w2) rfl (do_assign rfl) (by decide) ?_
    refine tl_end ?_
    refine fun a_ ha_ => hK27 _ _ _ (T.sub (L' := [(0, .agg #[.bool big, .int .i64 gen, .int .i64 first, .int .i64 last]), (1, .pointer (some ⟨w.heap.size, 0, none⟩)), (2, .bool false), (3, .bool false)]) ?_ (sub_cons rfl (sub_cons rfl (sub_cons rfl (sub_cons rfl sub_nil))))) a_ ha_
    refine t_ret ?_
    refine fun a_ ha_ => hQ0 _ _ _ (body_ret (rs := [.tmp 2]) (vs := [.bool false]) ha_ (by kernel_rfl) ⟨_, _, rfl, rfl, rfl⟩ ?_)
    exact ⟨vf (by unfold RightP; omega), ((Chg.refl (fun k_ => False) w).step hb4 (fun k_ hk_ (h_ : False) => h_.elim))⟩
theorem rright_e (big : Bool) (gen first last : Int) (w : World) : Calls Tryd.prog 14 [.agg #[.bool big, .int .i64 gen, .int .i64 first, .int .i64 last]].toArray w (Ret fun v w' => v = .bool (decide (RightP gen first last)) ∧ Chg (fun _ => False) w w') := by
  refine enter (n := 46) (L := [(0, .agg #[.bool big, .int .i64 gen, .int .i64 first, .int .i64 last])]) (args := [.agg #[.bool big, .int .i64 gen, .int .i64 first, .int .i64 last]]) Tryd.func14 rfl rfl (Nat.le_of_ble_eq_true rfl) (by intro t v h; exact look_args h) ?_
  refine t_body (fun Q0 hB0 hQ0 => ?_)
  refine t_seq (fun K1 hK1 => ?_)
  refine t_region ?_
  refine tl_val rfl (do_box (v := .pointer (some ⟨w.heap.size, 0, none⟩)) (w' := w.alloc (.cells #[.bool big, .int .i64 gen, .int .i64 first, .int .i64 last] 23)) rfl (by kernel_rfl)) (by decide) ?_
  refine tl_gen (fun w2 e3 => ?_)
  have hb4 : Chg (fun _ => False) w w2 := e3 ▸ Chg.alloc _ _
  have hz5 : w2.heap.size = w.heap.size + 1 := by rw [e3]; exact size_alloc _ _
  have hc6 : w2.heap[w.heap.size]? = some (.cells #[.bool big, .int .i64 gen, .int .i64 first, .int .i64 last] 23 (0, 0)) := by rw [e3]; exact obj_new _ _
  clear e3
  refine tl_val (w' := w2) rfl (do_assign rfl) (by decide) ?_
  refine tl_end ?_
  refine fun a_ ha_ => hK1 _ _ _ (T.sub (L' := [(0, .agg #[.bool big, .int .i64 gen, .int .i64 first, .int .i64 last]), (1, .pointer (some ⟨w.heap.size, 0, none⟩)), (2, .bool false)]) ?_ (sub_cons rfl (sub_cons rfl (sub_cons rfl sub_nil)))) a_ ha_
  refine t_seq (fun K7 hK7 => ?_)
  refine t_seq (fun K8 hK8 => ?_)
  refine t_region ?_
  refine tl_val (w' := w2) rfl (do_fieldAddr (v := .pointer (some ⟨w.heap.size, 1, none⟩)) rfl (by kernel_rfl)) (by decide) ?_
  refine tl_val (w' := w2) rfl (do_load (v := .int .i64 gen) rfl (by kernel_rfl) (by rw [obj_cell hc6]; rfl)) (by decide) ?_
  refine tl_val (w' := w2) rfl (do_lss rfl rfl) (by decide) ?_
  refine tl_val (w' := w2) rfl (do_move rfl) (by decide) ?_
  by_cases hc9 : gen < 1
  · have hk10 := decide_eq_true hc9
    refine tl_skipU ⟨6, _, rfl, rfl, (by rw [hk10]; rfl)⟩ (by decide) ?_
    refine tl_skipU ⟨6, _, rfl, rfl, (by rw [hk10]; rfl)⟩ (by decide) ?_
    refine tl_skipU ⟨6, _, rfl, rfl, (by rw [hk10]; rfl)⟩ (by decide) ?_
    refine tl_val (w' := w2) rfl (do_pick_t rfl hk10 rfl) (by decide) ?_
    refine tl_end ?_
    refine fun a_ ha_ => hK8 _ _ _ (T.sub (L' := [(0, .agg #[.bool big, .int .i64 gen, .int .i64 first, .int .i64 last]), (1, .pointer (some ⟨w.heap.size, 0, none⟩)), (2, .bool false), (10, .bool true)]) ?_ (sub_cons rfl (sub_cons rfl (sub_cons rfl (sub_cons rfl sub_nil))))) a_ ha_
    refine t_yes rfl rfl ?_
    refine t_seq (fun K11 hK11 => ?_)
    refine t_region ?_
    refine tl_val (w' := w2) rfl (do_assign rfl) (by decide) ?_
    refine tl_end ?_
    refine fun a_ ha_ => hK11 _ _ _ (T.sub (L' := [(0, .agg #[.bool big, .int .i64 gen, .int .i64 first, .int .i64 last]), (1, .pointer (some ⟨w.heap.size, 0, none⟩)), (2, .bool false), (10, .bool true)]) ?_ (sub_cons rfl (sub_cons rfl (sub_cons rfl (sub_cons rfl sub_nil))))) a_ ha_
    refine t_ret ?_
    refine fun a_ ha_ => hQ0 _ _ _ (body_ret (rs := [.tmp 2]) (vs := [.bool false]) ha_ (by kernel_rfl) ⟨_, _, rfl, rfl, rfl⟩ ?_)
    exact ⟨vf (by unfold RightP; omega), ((Chg.refl (fun k_ => False) w).step hb4 (fun k_ hk_ (h_ : False) => h_.elim))⟩
  · have hk10 := decide_eq_false hc9
    refine tl_val (w' := w2) ⟨6, _, rfl, rfl, (by rw [hk10]; rfl)⟩ (do_fieldAddr (v := .pointer (some ⟨w.heap.size, 1, none⟩)) rfl (by kernel_rfl)) (by decide) ?_
    refine tl_val (w' := w2) ⟨6, _, rfl, rfl, (by rw [hk10]; rfl)⟩ (do_load (v := .int .i64 gen) rfl (by kernel_rfl) (by rw [obj_cell hc6]; rfl)) (by decide) ?_
    refine tl_val (w' := w2) ⟨6, _, rfl, rfl, (by rw [hk10]; rfl)⟩ (do_gtr rfl rfl) (by decide) ?_
    refine tl_val (w' := w2) rfl (do_pick_f rfl hk10 rfl) (by decide) ?_
    refine tl_end ?_
    refine fun a_ ha_ => hK8 _ _ _ (T.sub (L' := [(0, .agg #[.bool big, .int .i64 gen, .int .i64 first, .int .i64 last]), (1, .pointer (some ⟨w.heap.size, 0, none⟩)), (2, .bool false), (10, .bool (decide (gen > 1099511627776)))]) ?_ (sub_cons rfl (sub_cons rfl (sub_cons rfl (sub_cons rfl sub_nil))))) a_ ha_
    by_cases hc12 : gen > 1099511627776
    · have hk13 := decide_eq_true hc12
      refine t_yes rfl hk13 ?_
      refine t_seq (fun K14 hK14 => ?_)
      refine t_region ?_
      refine tl_val (w' := w2) rfl (do_assign rfl) (by decide) ?_
      refine tl_end ?_
      refine fun a_ ha_ => hK14 _ _ _ (T.sub (L' := [(0, .agg #[.bool big, .int .i64 gen, .int .i64 first, .int .i64 last]), (1, .pointer (some ⟨w.heap.size, 0, none⟩)), (2, .bool false), (10, .bool (decide (gen > 1099511627776)))]) ?_ (sub_cons rfl (sub_cons rfl (sub_cons rfl (sub_cons rfl sub_nil))))) a_ ha_
      refine t_ret ?_
      refine fun a_ ha_ => hQ0 _ _ _ (body_ret (rs := [.tmp 2]) (vs := [.bool false]) ha_ (by kernel_rfl) ⟨_, _, rfl, rfl, rfl⟩ ?_)
      exact ⟨vf (by unfold RightP; omega), ((Chg.refl (fun k_ => False) w).step hb4 (fun k_ hk_ (h_ : False) => h_.elim))⟩
    · have hk13 := decide_eq_false hc12
      refine t_no rfl hk13 ?_
      refine t_skip ?_
      refine fun a_ ha_ => hK7 _ _ _ (T.sub (L' := [(0, .agg #[.bool big, .int .i64 gen, .int .i64 first, .int .i64 last]), (1, .pointer (some ⟨w.heap.size, 0, none⟩)), (2, .bool false), (10, .bool (decide (gen > 1099511627776)))]) ?_ (sub_cons rfl (sub_cons rfl (sub_cons rfl (sub_cons rfl sub_nil))))) a_ ha_
      refine t_seq (fun K15 hK15 => ?_)
      refine t_seq (fun K16 hK16 => ?_)
      refine t_region ?_
      refine tl_val (w' := w2) rfl (do_fieldAddr (v := .pointer (some ⟨w.heap.size, 3, none⟩)) rfl (by kernel_rfl)) (by decide) ?_
      refine tl_val (w' := w2) rfl (do_load (v := .int .i64 last) rfl (by kernel_rfl) (by rw [obj_cell hc6]; rfl)) (by decide) ?_
      refine tl_val (w' := w2) rfl (do_lss rfl rfl) (by decide) ?_
      refine tl_val (w' := w2) rfl (do_move rfl) (by decide) ?_
      by_cases hc17 : last < 128
      · have hk18 := decide_eq_true hc17
        refine tl_skipU ⟨14, _, rfl, rfl, (by rw [hk18]; rfl)⟩ (by decide) ?_
        refine tl_skipU ⟨14, _, rfl, rfl, (by rw [hk18]; rfl)⟩ (by decide) ?_
        refine tl_skipU ⟨14, _, rfl, rfl, (by rw [hk18]; rfl)⟩ (by decide) ?_
        refine tl_val (w' := w2) rfl (do_pick_t rfl hk18 rfl) (by decide) ?_
        refine tl_val (w' := w2) rfl (do_move rfl) (by decide) ?_
        refine tl_skipU ⟨19, _, rfl, rfl, rfl⟩ (by decide) ?_
        refine tl_skipU ⟨19, _, rfl, rfl, rfl⟩ (by decide) ?_
        refine tl_skipU ⟨19, _, rfl, rfl, rfl⟩ (by decide) ?_
        refine tl_skipU ⟨19, _, rfl, rfl, rfl⟩ (by decide) ?_
        refine tl_val (w' := w2) rfl (do_pick_t rfl rfl rfl) (by decide) ?_
        refine tl_end ?_
        refine fun a_ ha_ => hK16 _ _ _ (T.sub (L' := [(0, .agg #[.bool big, .int .i64 gen, .int .i64 first, .int .i64 last]), (1, .pointer (some ⟨w.heap.size, 0, none⟩)), (2, .bool false), (10, .bool (decide (gen > 1099511627776))), (24, .bool true)]) ?_ (sub_cons rfl (sub_cons rfl (sub_cons rfl (sub_cons rfl (sub_cons rfl sub_nil)))))) a_ ha_
        refine t_yes rfl rfl ?_
        refine t_seq (fun K19 hK19 => ?_)
        refine t_region ?_
        refine tl_val (w' := w2) rfl (do_assign rfl) (by decide) ?_
        refine tl_end ?_
        refine fun a_ ha_ => hK19 _ _ _ (T.sub (L' := [(0, .agg #[.bool big, .int .i64 gen, .int .i64 first, .int .i64 last]), (1, .pointer (some ⟨w.heap.size, 0, none⟩)), (2, .bool false), (10, .bool (decide (gen > 1099511627776))), (24, .bool true)]) ?_ (sub_cons rfl (sub_cons rfl (sub_cons rfl (sub_cons rfl (sub_cons rfl sub_nil)))))) a_ ha_
        refine t_ret ?_
        refine fun a_ ha_ => hQ0 _ _ _ (body_ret (rs := [.tmp 2]) (vs := [.bool false]) ha_ (by kernel_rfl) ⟨_, _, rfl, rfl, rfl⟩ ?_)
        exact ⟨vf (by unfold RightP; omega), ((Chg.refl (fun k_ => False) w).step hb4 (fun k_ hk_ (h_ : False) => h_.elim))⟩
      · have hk18 := decide_eq_false hc17
        refine tl_val (w' := w2) ⟨14, _, rfl, rfl, (by rw [hk18]; rfl)⟩ (do_fieldAddr (v := .pointer (some ⟨w.heap.size, 3, none⟩)) rfl (by kernel_rfl)) (by decide) ?_
        refine tl_val (w' := w2) ⟨14, _, rfl, rfl, (by rw [hk18]; rfl)⟩ (do_load (v := .int .i64 last) rfl (by kernel_rfl) (by rw [obj_cell hc6]; rfl)) (by decide) ?_
        refine tl_val (w' := w2) ⟨14, _, rfl, rfl, (by rw [hk18]; rfl)⟩ (do_gtr rfl rfl) (by decide) ?_
        refine tl_val (w' := w2) rfl (do_pick_f rfl hk18 rfl) (by decide) ?_
        refine tl_val (w' := w2) rfl (do_move rfl) (by decide) ?_
        by_cases hc20 : last > 524288
        · have hk21 := decide_eq_true hc20
          refine tl_skipU ⟨19, _, rfl, rfl, (by rw [hk21]; rfl)⟩ (by decide) ?_
          refine tl_skipU ⟨19, _, rfl, rfl, (by rw [hk21]; rfl)⟩ (by decide) ?_
          refine tl_skipU ⟨19, _, rfl, rfl, (by rw [hk21]; rfl)⟩ (by decide) ?_
          refine tl_skipU ⟨19, _, rfl, rfl, (by rw [hk21]; rfl)⟩ (by decide) ?_
          refine tl_val (w' := w2) rfl (do_pick_t rfl hk21 rfl) (by decide) ?_
          refine tl_end ?_
          refine fun a_ ha_ => hK16 _ _ _ (T.sub (L' := [(0, .agg #[.bool big, .int .i64 gen, .int .i64 first, .int .i64 last]), (1, .pointer (some ⟨w.heap.size, 0, none⟩)), (2, .bool false), (10, .bool (decide (gen > 1099511627776))), (24, .bool true)]) ?_ (sub_cons rfl (sub_cons rfl (sub_cons rfl (sub_cons rfl (sub_cons rfl sub_nil)))))) a_ ha_
          refine t_yes rfl rfl ?_
          refine t_seq (fun K22 hK22 => ?_)
          refine t_region ?_
          refine tl_val (w' := w2) rfl (do_assign rfl) (by decide) ?_
          refine tl_end ?_
          refine fun a_ ha_ => hK22 _ _ _ (T.sub (L' := [(0, .agg #[.bool big, .int .i64 gen, .int .i64 first, .int .i64 last]), (1, .pointer (some ⟨w.heap.size, 0, none⟩)), (2, .bool false), (10, .bool (decide (gen > 1099511627776))), (24, .bool true)]) ?_ (sub_cons rfl (sub_cons rfl (sub_cons rfl (sub_cons rfl (sub_cons rfl sub_nil)))))) a_ ha_
          refine t_ret ?_
          refine fun a_ ha_ => hQ0 _ _ _ (body_ret (rs := [.tmp 2]) (vs := [.bool false]) ha_ (by kernel_rfl) ⟨_, _, rfl, rfl, rfl⟩ ?_)
          exact ⟨vf (by unfold RightP; omega), ((Chg.refl (fun k_ => False) w).step hb4 (fun k_ hk_ (h_ : False) => h_.elim))⟩
        · have hk21 := decide_eq_false hc20
          refine tl_val (w' := w2) ⟨19, _, rfl, rfl, (by rw [hk21]; rfl)⟩ (do_fieldAddr (v := .pointer (some ⟨w.heap.size, 3, none⟩)) rfl (by kernel_rfl)) (by decide) ?_
          refine tl_val (w' := w2) ⟨19, _, rfl, rfl, (by rw [hk21]; rfl)⟩ (do_load (v := .int .i64 last) rfl (by kernel_rfl) (by rw [obj_cell hc6]; rfl)) (by decide) ?_
          have ht23 := tmod0 last 128 (by decide)
          refine tl_val (w' := w2) ⟨19, _, rfl, rfl, (by rw [hk21]; rfl)⟩ (do_rem (c := Int.tmod last 128) rfl rfl (by decide) rfl) (by decide) ?_
          refine tl_val (w' := w2) ⟨19, _, rfl, rfl, (by rw [hk21]; rfl)⟩ (do_neq rfl rfl) (by decide) ?_
          refine tl_val (w' := w2) rfl (do_pick_f rfl hk21 rfl) (by decide) ?_
          refine tl_end ?_
          refine fun a_ ha_ => hK16 _ _ _ (T.sub (L' := [(0, .agg #[.bool big, .int .i64 gen, .int .i64 first, .int .i64 last]), (1, .pointer (some ⟨w.heap.size, 0, none⟩)), (2, .bool false), (10, .bool (decide (gen > 1099511627776))), (24, .bool (decide ((Int.tmod last 128) ≠ 0)))]) ?_ (sub_cons rfl (sub_cons rfl (sub_cons rfl (sub_cons rfl (sub_cons rfl sub_nil)))))) a_ ha_
          by_cases hc24 : (Int.tmod last 128) ≠ 0
          · have hk25 := decide_eq_true hc24
            refine t_yes rfl hk25 ?_
            refine t_seq (fun K26 hK26 => ?_)
            refine t_region ?_
            refine tl_val (w' := w2) rfl (do_assign rfl) (by decide) ?_
            refine tl_end ?_
            refine fun a_ ha_ => hK26 _ _ _ (T.sub (L' := [(0, .agg #[.bool big, .int .i64 gen, .int .i64 first, .int .i64 last]), (1, .pointer (some ⟨w.heap.size, 0, none⟩)), (2, .bool false), (10, .bool (decide (gen > 1099511627776))), (24, .bool (decide ((Int.tmod last 128) ≠ 0)))]) ?_ (sub_cons rfl (sub_cons rfl (sub_cons rfl (sub_cons rfl (sub_cons rfl sub_nil)))))) a_ ha_
            refine t_ret ?_
            refine fun a_ ha_ => hQ0 _ _ _ (body_ret (rs := [.tmp 2]) (vs := [.bool false]) ha_ (by kernel_rfl) ⟨_, _, rfl, rfl, rfl⟩ ?_)
            exact ⟨vf (by unfold RightP; omega), ((Chg.refl (fun k_ => False) w).step hb4 (fun k_ hk_ (h_ : False) => h_.elim))⟩
          · have hk25 := decide_eq_false hc24
            refine t_no rfl hk25 ?_
            refine t_skip ?_
            refine fun a_ ha_ => hK15 _ _ _ (T.sub (L' := [(0, .agg #[.bool big, .int .i64 gen, .int .i64 first, .int .i64 last]), (1, .pointer (some ⟨w.heap.size, 0, none⟩)), (2, .bool false), (10, .bool (decide (gen > 1099511627776))), (24, .bool (decide ((Int.tmod last 128) ≠ 0)))]) ?_ (sub_cons rfl (sub_cons rfl (sub_cons rfl (sub_cons rfl (sub_cons rfl sub_nil)))))) a_ ha_
            refine t_seq (fun K27 hK27 => ?_)
            refine t_region ?_
            refine tl_val (w' := w2) rfl (do_fieldAddr (v := .pointer (some ⟨w.heap.size, 2, none⟩)) rfl (by kernel_rfl)) (by decide) ?_
            refine tl_val (w' := w2) rfl (do_load (v := .int .i64 first) rfl (by kernel_rfl) (by rw [obj_cell hc6]; rfl)) (by decide) ?_
            refine tl_val (w' := w2) rfl (do_eql rfl rfl) (by decide) ?_
            refine tl_val (w' := w2) rfl (do_move rfl) (by decide) ?_
            by_cases hc28 : first = 0
            · have hk29 := decide_eq_true hc28
              refine tl_skipU ⟨28, _, rfl, rfl, (by rw [hk29]; rfl)⟩ (by decide) ?_
              refine tl_skipU ⟨28, _, rfl, rfl, (by rw [hk29]; rfl)⟩ (by decide) ?_
              refine tl_skipU ⟨28, _, rfl, rfl, (by rw [hk29]; rfl)⟩ (by decide) ?_
              refine tl_skipU ⟨28, _, rfl, rfl, (by rw [hk29]; rfl)⟩ (by decide) ?_
              refine tl_skipU ⟨32, _, rfl, rfl, rfl⟩ (by decide) ?_
              refine tl_skipU ⟨32, _, rfl, rfl, rfl⟩ (by decide) ?_
              refine tl_skipU ⟨32, _, rfl, rfl, rfl⟩ (by decide) ?_
              refine tl_skipU ⟨32, _, rfl, rfl, rfl⟩ (by decide) ?_
              refine tl_skipU ⟨32, _, rfl, rfl, rfl⟩ (by decide) ?_
              refine tl_skipU ⟨28, _, rfl, rfl, (by rw [hk29]; rfl)⟩ (by decide) ?_
              refine tl_skipU ⟨28, _, rfl, rfl, (by rw [hk29]; rfl)⟩ (by decide) ?_
              refine tl_skipU ⟨39, _, rfl, rfl, rfl⟩ (by decide) ?_
              refine tl_skipU ⟨39, _, rfl, rfl, rfl⟩ (by decide) ?_
              refine tl_skipU ⟨39, _, rfl, rfl, rfl⟩ (by decide) ?_
              refine tl_skipU ⟨39, _, rfl, rfl, rfl⟩ (by decide) ?_
              refine tl_skipU ⟨28, _, rfl, rfl, (by rw [hk29]; rfl)⟩ (by decide) ?_
              refine tl_val (w' := w2) rfl (do_pick_t rfl hk29 rfl) (by decide) ?_
              refine tl_val (w' := w2) rfl (do_assign rfl) (by decide) ?_
              refine tl_end ?_
              refine fun a_ ha_ => hK27 _ _ _ (T.sub (L' := [(0, .agg #[.bool big, .int .i64 gen, .int .i64 first, .int .i64 last]), (1, .pointer (some ⟨w.heap.size, 0, none⟩)), (2, .bool true), (10, .bool (decide (gen > 1099511627776))), (24, .bool (decide ((Int.tmod last 128) ≠ 0)))]) ?_ (sub_cons rfl (sub_cons rfl (sub_cons rfl (sub_cons rfl (sub_cons rfl sub_nil)))))) a_ ha_
              refine t_ret ?_
              refine fun a_ ha_ => hQ0 _ _ _ (body_ret (rs := [.tmp 2]) (vs := [.bool true]) ha_ (by kernel_rfl) ⟨_, _, rfl, rfl, rfl⟩ ?_)
              exact ⟨vt (by unfold RightP; omega), ((Chg.refl (fun k_ => False) w).step hb4 (fun k_ hk_ (h_ : False) => h_.elim))⟩
            · have hk29 := decide_eq_false hc28
              refine tl_val (w' := w2) ⟨28, _, rfl, rfl, (by rw [hk29]; rfl)⟩ (do_fieldAddr (v := .pointer (some ⟨w.heap.size, 2, none⟩)) rfl (by kernel_rfl)) (by decide) ?_
              refine tl_val (w' := w2) ⟨28, _, rfl, rfl, (by rw [hk29]; rfl)⟩ (do_load (v := .int .i64 first) rfl (by kernel_rfl) (by rw [obj_cell hc6]; rfl)) (by decide) ?_
              refine tl_val (w' := w2) ⟨28, _, rfl, rfl, (by rw [hk29]; rfl)⟩ (do_geq rfl rfl) (by decide) ?_
              refine tl_val (w' := w2) ⟨28, _, rfl, rfl, (by rw [hk29]; rfl)⟩ (do_move rfl) (by decide) ?_
              by_cases hc30 : first ≥ 128
              · have hk31 := decide_eq_true hc30
                refine tl_val (w' := w2) ⟨32, _, rfl, rfl, (by rw [hk31]; rfl)⟩ (do_fieldAddr (v := .pointer (some ⟨w.heap.size, 2, none⟩)) rfl (by kernel_rfl)) (by decide) ?_
                refine tl_val (w' := w2) ⟨32, _, rfl, rfl, (by rw [hk31]; rfl)⟩ (do_load (v := .int .i64 first) rfl (by kernel_rfl) (by rw [obj_cell hc6]; rfl)) (by decide) ?_
                refine tl_val (w' := w2) ⟨32, _, rfl, rfl, (by rw [hk31]; rfl)⟩ (do_fieldAddr (v := .pointer (some ⟨w.heap.size, 3, none⟩)) rfl (by kernel_rfl)) (by decide) ?_
                refine tl_val (w' := w2) ⟨32, _, rfl, rfl, (by rw [hk31]; rfl)⟩ (do_load (v := .int .i64 last) rfl (by kernel_rfl) (by rw [obj_cell hc6]; rfl)) (by decide) ?_
                refine tl_val (w' := w2) ⟨32, _, rfl, rfl, (by rw [hk31]; rfl)⟩ (do_lss rfl rfl) (by decide) ?_
                refine tl_val (w' := w2) ⟨28, _, rfl, rfl, (by rw [hk29]; rfl)⟩ (do_pick_t rfl hk31 rfl) (by decide) ?_
                refine tl_val (w' := w2) ⟨28, _, rfl, rfl, (by rw [hk29]; rfl)⟩ (do_move rfl) (by decide) ?_
                by_cases hc32 : first < last
                · have hk33 := decide_eq_true hc32
                  refine tl_val (w' := w2) ⟨39, _, rfl, rfl, (by rw [hk33]; rfl)⟩ (do_fieldAddr (v := .pointer (some ⟨w.heap.size, 2, none⟩)) rfl (by kernel_rfl)) (by decide) ?_
                  refine tl_val (w' := w2) ⟨39, _, rfl, rfl, (by rw [hk33]; rfl)⟩ (do_load (v := .int .i64 first) rfl (by kernel_rfl) (by rw [obj_cell hc6]; rfl)) (by decide) ?_
                  have ht34 := tmod0 first 128 (by decide)
                  refine tl_val (w' := w2) ⟨39, _, rfl, rfl, (by rw [hk33]; rfl)⟩ (do_rem (c := Int.tmod first 128) rfl rfl (by decide) rfl) (by decide) ?_
                  refine tl_val (w' := w2) ⟨39, _, rfl, rfl, (by rw [hk33]; rfl)⟩ (do_eql rfl rfl) (by decide) ?_
                  refine tl_val (w' := w2) ⟨28, _, rfl, rfl, (by rw [hk29]; rfl)⟩ (do_pick_t rfl hk33 rfl) (by decide) ?_
                  refine tl_val (w' := w2) rfl (do_pick_f rfl hk29 rfl) (by decide) ?_
                  refine tl_val (w' := w2) rfl (do_assign rfl) (by decide) ?_
                  refine tl_end ?_
                  refine fun a_ ha_ => hK27 _ _ _ (T.sub (L' := [(0, .agg #[.bool big, .int .i64 gen, .int .i64 first, .int .i64 last]), (1, .pointer (some ⟨w.heap.size, 0, none⟩)), (2, .bool (decide ((Int.tmod first 128) = 0))), (10, .bool (decide (gen > 1099511627776))), (24, .bool (decide ((Int.tmod last 128) ≠ 0)))]) ?_ (sub_cons rfl (sub_cons rfl (sub_cons rfl (sub_cons rfl (sub_cons rfl sub_nil)))))) a_ ha_
                  refine t_ret ?_
                  refine fun a_ ha_ => hQ0 _ _ _ (body_ret (rs := [.tmp 2]) (vs := [.bool (decide ((Int.tmod first 128) = 0))]) ha_ (by kernel_rfl) ⟨_, _, rfl, rfl, rfl⟩ ?_)
                  by_cases hq_ : (Int.tmod first 128) = 0
                  · exact ⟨by rw [decide_eq_true hq_]; exact vt (by unfold RightP; omega), ((Chg.refl (fun k_ => False) w).step hb4 (fun k_ hk_ (h_ : False) => h_.elim))⟩
                  · exact ⟨by rw [decide_eq_false hq_]; exact vf (by unfold RightP; omega), ((Chg.refl (fun k_ => False) w).step hb4 (fun k_ hk_ (h_ : False) => h_.elim))⟩
                · have hk33 := decide_eq_false hc32
                  refine tl_skipU ⟨39, _, rfl, rfl, (by rw [hk33]; rfl)⟩ (by decide) ?_
                  refine tl_skipU ⟨39, _, rfl, rfl, (by rw [hk33]; rfl)⟩ (by decide) ?_
                  refine tl_skipU ⟨39, _, rfl, rfl, (by rw [hk33]; rfl)⟩ (by decide) ?_
                  refine tl_skipU ⟨39, _, rfl, rfl, (by rw [hk33]; rfl)⟩ (by decide) ?_
                  refine tl_val (w' := w2) ⟨28, _, rfl, rfl, (by rw [hk29]; rfl)⟩ (do_pick_f rfl hk33 rfl) (by decide) ?_
                  refine tl_val (w' := w2) rfl (do_pick_f rfl hk29 rfl) (by decide) ?_
                  refine tl_val (w' := w2) rfl (do_assign rfl) (by decide) ?_
                  refine tl_end ?_
                  refine fun a_ ha_ => hK27 _ _ _ (T.sub (L' := [(0, .agg #[.bool big, .int .i64 gen, .int .i64 first, .int .i64 last]), (1, .pointer (some ⟨w.heap.size, 0, none⟩)), (2, .bool false), (10, .bool (decide (gen > 1099511627776))), (24, .bool (decide ((Int.tmod last 128) ≠ 0)))]) ?_ (sub_cons rfl (sub_cons rfl (sub_cons rfl (sub_cons rfl (sub_cons rfl sub_nil)))))) a_ ha_
                  refine t_ret ?_
                  refine fun a_ ha_ => hQ0 _ _ _ (body_ret (rs := [.tmp 2]) (vs := [.bool false]) ha_ (by kernel_rfl) ⟨_, _, rfl, rfl, rfl⟩ ?_)
                  exact ⟨vf (by unfold RightP; omega), ((Chg.refl (fun k_ => False) w).step hb4 (fun k_ hk_ (h_ : False) => h_.elim))⟩
              · have hk31 := decide_eq_false hc30
                refine tl_skipU ⟨32, _, rfl, rfl, (by rw [hk31]; rfl)⟩ (by decide) ?_
                refine tl_skipU ⟨32, _, rfl, rfl, (by rw [hk31]; rfl)⟩ (by decide) ?_
                refine tl_skipU ⟨32, _, rfl, rfl, (by rw [hk31]; rfl)⟩ (by decide) ?_
                refine tl_skipU ⟨32, _, rfl, rfl, (by rw [hk31]; rfl)⟩ (by decide) ?_
                refine tl_skipU ⟨32, _, rfl, rfl, (by rw [hk31]; rfl)⟩ (by decide) ?_
                refine tl_val (w' := w2) ⟨28, _, rfl, rfl, (by rw [hk29]; rfl)⟩ (do_pick_f rfl hk31 rfl) (by decide) ?_
                refine tl_val (w' := w2) ⟨28, _, rfl, rfl, (by rw [hk29]; rfl)⟩ (do_move rfl) (by decide) ?_
                refine tl_skipU ⟨39, _, rfl, rfl, rfl⟩ (by decide) ?_
                refine tl_skipU ⟨39, _, rfl, rfl, rfl⟩ (by decide) ?_
                refine tl_skipU ⟨39, _, rfl, rfl, rfl⟩ (by decide) ?_
                refine tl_skipU ⟨39, _, rfl, rfl, rfl⟩ (by decide) ?_
                refine tl_val (w' := w2) ⟨28, _, rfl, rfl, (by rw [hk29]; rfl)⟩ (do_pick_f rfl rfl rfl) (by decide) ?_
                refine tl_val (w' := w2) rfl (do_pick_f rfl hk29 rfl) (by decide) ?_
                refine tl_val (w' := w2) rfl (do_assign rfl) (by decide) ?_
                refine tl_end ?_
                refine fun a_ ha_ => hK27 _ _ _ (T.sub (L' := [(0, .agg #[.bool big, .int .i64 gen, .int .i64 first, .int .i64 last]), (1, .pointer (some ⟨w.heap.size, 0, none⟩)), (2, .bool false), (10, .bool (decide (gen > 1099511627776))), (24, .bool (decide ((Int.tmod last 128) ≠ 0)))]) ?_ (sub_cons rfl (sub_cons rfl (sub_cons rfl (sub_cons rfl (sub_cons rfl sub_nil)))))) a_ ha_
                refine t_ret ?_
                refine fun a_ ha_ => hQ0 _ _ _ (body_ret (rs := [.tmp 2]) (vs := [.bool false]) ha_ (by kernel_rfl) ⟨_, _, rfl, rfl, rfl⟩ ?_)
                exact ⟨vf (by unfold RightP; omega), ((Chg.refl (fun k_ => False) w).step hb4 (fun k_ hk_ (h_ : False) => h_.elim))⟩
theorem far_e (big : Bool) (w : World) : Calls Tryd.prog 50 [.bool big].toArray w (Ret fun v w' => v = .int .i64 (farOf big) ∧ w = w') := by
  refine enter (n := 4) (L := [(0, .bool big)]) (args := [.bool big]) Tryd.func50 rfl rfl (Nat.le_of_ble_eq_true rfl) (by intro t v h; exact look_args h) ?_
  refine t_body (fun Q0 hB0 hQ0 => ?_)
  refine t_seq (fun K1 hK1 => ?_)
  refine t_region ?_
  refine tl_val (w' := w) rfl (do_assign rfl) (by decide) ?_
  refine tl_end ?_
  refine fun a_ ha_ => hK1 _ _ _ (T.sub (L' := [(0, .bool big), (2, .int .i64 0)]) ?_ (sub_cons rfl (sub_cons rfl sub_nil))) a_ ha_
  refine t_seq (fun K2 hK2 => ?_)
  refine t_seq (fun K3 hK3 => ?_)
  refine t_region ?_
  refine tl_val (w' := w) rfl (do_move rfl) (by decide) ?_
  refine tl_end ?_
  refine fun a_ ha_ => hK3 _ _ _ (T.sub (L' := [(0, .bool big), (2, .int .i64 0), (3, .bool big)]) ?_ (sub_cons rfl (sub_cons rfl (sub_cons rfl sub_nil)))) a_ ha_
  by_cases hc4 : big = true
  · have hk5 := hc4
    refine t_yes rfl hk5 ?_
    refine t_seq (fun K6 hK6 => ?_)
    refine t_region ?_
    refine tl_val (w' := w) rfl (do_assign rfl) (by decide) ?_
    refine tl_end ?_
    refine fun a_ ha_ => hK6 _ _ _ (T.sub (L' := [(0, .bool big), (2, .int .i64 1099511627776), (3, .bool big)]) ?_ (sub_cons rfl (sub_cons rfl (sub_cons rfl sub_nil)))) a_ ha_
    refine t_ret ?_
    refine fun a_ ha_ => hQ0 _ _ _ (body_ret (rs := [.tmp 2]) (vs := [.int .i64 1099511627776]) ha_ (by kernel_rfl) ⟨_, _, rfl, rfl, rfl⟩ ?_)
    exact ⟨by rw [hk5]; rfl, rfl⟩
  · have hk5 := Bool.eq_false_iff.2 hc4
    refine t_no rfl hk5 ?_
    refine t_skip ?_
    refine fun a_ ha_ => hK2 _ _ _ (T.sub (L' := [(0, .bool big), (2, .int .i64 0), (3, .bool big)]) ?_ (sub_cons rfl (sub_cons rfl (sub_cons rfl sub_nil)))) a_ ha_
    refine t_seq (fun K7 hK7 => ?_)
    refine t_region ?_
    refine tl_val (w' := w) rfl (do_assign rfl) (by decide) ?_
    refine tl_end ?_
    refine fun a_ ha_ => hK7 _ _ _ (T.sub (L' := [(0, .bool big), (2, .int .i64 4294967296), (3, .bool big)]) ?_ (sub_cons rfl (sub_cons rfl (sub_cons rfl sub_nil)))) a_ ha_
    refine t_ret ?_
    refine fun a_ ha_ => hQ0 _ _ _ (body_ret (rs := [.tmp 2]) (vs := [.int .i64 4294967296]) ha_ (by kernel_rfl) ⟨_, _, rfl, rfl, rfl⟩ ?_)
    exact ⟨by rw [hk5]; rfl, rfl⟩
theorem place_e (at_ : Int) (big : Bool) (w : World) : Calls Tryd.prog 38 [.int .i64 at_, .bool big].toArray w (Ret fun v w' => v = .bool (decide (PlaceP at_ big)) ∧ w = w') := by
  refine enter (n := 18) (L := [(0, .int .i64 at_), (1, .bool big)]) (args := [.int .i64 at_, .bool big]) Tryd.func38 rfl rfl (Nat.le_of_ble_eq_true rfl) (by intro t v h; exact look_args h) ?_
  refine t_body (fun Q0 hB0 hQ0 => ?_)
  refine t_seq (fun K1 hK1 => ?_)
  refine t_region ?_
  refine tl_val (w' := w) rfl (do_assign rfl) (by decide) ?_
  refine tl_end ?_
  refine fun a_ ha_ => hK1 _ _ _ (T.sub (L' := [(0, .int .i64 at_), (1, .bool big), (4, .bool false)]) ?_ (sub_cons rfl (sub_cons rfl (sub_cons rfl sub_nil)))) a_ ha_
  refine t_seq (fun K2 hK2 => ?_)
  refine t_region ?_
  refine tl_val (w' := w) rfl (do_move rfl) (by decide) ?_
  refine tl_val (w' := w) rfl (do_geq rfl rfl) (by decide) ?_
  refine tl_val (w' := w) rfl (do_move rfl) (by decide) ?_
  by_cases hc3 : at_ ≥ 8
  · have hk4 := decide_eq_true hc3
    refine tl_val (w' := w) ⟨7, _, rfl, rfl, (by rw [hk4]; rfl)⟩ (do_move rfl) (by decide) ?_
    have ht5 := tmod0 at_ 2 (by decide)
    refine tl_val (w' := w) ⟨7, _, rfl, rfl, (by rw [hk4]; rfl)⟩ (do_rem (c := Int.tmod at_ 2) rfl rfl (by decide) rfl) (by decide) ?_
    refine tl_val (w' := w) ⟨7, _, rfl, rfl, (by rw [hk4]; rfl)⟩ (do_eql rfl rfl) (by decide) ?_
    refine tl_val (w' := w) rfl (do_pick_t rfl hk4 rfl) (by decide) ?_
    refine tl_val (w' := w) rfl (do_move rfl) (by decide) ?_
    by_cases hc6 : (Int.tmod at_ 2) = 0
    · have hk7 := decide_eq_true hc6
      refine tl_val (w' := w) ⟨12, _, rfl, rfl, (by rw [hk7]; rfl)⟩ (do_move rfl) (by decide) ?_
      refine tl_val (w' := w) ⟨12, _, rfl, rfl, (by rw [hk7]; rfl)⟩ (do_move rfl) (by decide) ?_
      refine tl_call ⟨12, _, rfl, rfl, (by rw [hk7]; rfl)⟩ (en_call (f := 50) (by kernel_rfl) rfl) rfl (far_e big _) (fun v9 _ hr8 => ?_) (fun _ _ h => h.elim) (fun _ h => h)
      obtain ⟨rfl, rfl⟩ := hr8
      refine tl_val (w' := w) ⟨12, _, rfl, rfl, (by rw [hk7]; rfl)⟩ (do_lss rfl rfl) (by decide) ?_
      refine tl_val (w' := w) rfl (do_pick_t rfl hk7 rfl) (by decide) ?_
      refine tl_val (w' := w) rfl (do_assign rfl) (by decide) ?_
      refine tl_end ?_
      refine fun a_ ha_ => hK2 _ _ _ (T.sub (L' := [(0, .int .i64 at_), (1, .bool big), (4, .bool (decide (at_ < (farOf big))))]) ?_ (sub_cons rfl (sub_cons rfl (sub_cons rfl sub_nil)))) a_ ha_
      refine t_ret ?_
      refine fun a_ ha_ => hQ0 _ _ _ (body_ret (rs := [.tmp 4]) (vs := [.bool (decide (at_ < (farOf big)))]) ha_ (by kernel_rfl) ⟨_, _, rfl, rfl, rfl⟩ ?_)
      by_cases hq_ : at_ < (farOf big)
      · exact ⟨by rw [decide_eq_true hq_]; exact vt (by unfold PlaceP; omega), rfl⟩
      · exact ⟨by rw [decide_eq_false hq_]; exact vf (by unfold PlaceP; omega), rfl⟩
    · have hk7 := decide_eq_false hc6
      refine tl_skipU ⟨12, _, rfl, rfl, (by rw [hk7]; rfl)⟩ (by decide) ?_
      refine tl_skipU ⟨12, _, rfl, rfl, (by rw [hk7]; rfl)⟩ (by decide) ?_
      refine tl_skipU ⟨12, _, rfl, rfl, (by rw [hk7]; rfl)⟩ (by decide) ?_
      refine tl_skipU ⟨12, _, rfl, rfl, (by rw [hk7]; rfl)⟩ (by decide) ?_
      refine tl_val (w' := w) rfl (do_pick_f rfl hk7 rfl) (by decide) ?_
      refine tl_val (w' := w) rfl (do_assign rfl) (by decide) ?_
      refine tl_end ?_
      refine fun a_ ha_ => hK2 _ _ _ (T.sub (L' := [(0, .int .i64 at_), (1, .bool big), (4, .bool false)]) ?_ (sub_cons rfl (sub_cons rfl (sub_cons rfl sub_nil)))) a_ ha_
      refine t_ret ?_
      refine fun a_ ha_ => hQ0 _ _ _ (body_ret (rs := [.tmp 4]) (vs := [.bool false]) ha_ (by kernel_rfl) ⟨_, _, rfl, rfl, rfl⟩ ?_)
      exact ⟨vf (by unfold PlaceP; omega), rfl⟩
  · have hk4 := decide_eq_false hc3
    refine tl_skipU ⟨7, _, rfl, rfl, (by rw [hk4]; rfl)⟩ (by decide) ?_
    refine tl_skipU ⟨7, _, rfl, rfl, (by rw [hk4]; rfl)⟩ (by decide) ?_
    refine tl_skipU ⟨7, _, rfl, rfl, (by rw [hk4]; rfl)⟩ (by decide) ?_
    refine tl_val (w' := w) rfl (do_pick_f rfl hk4 rfl) (by decide) ?_
    refine tl_val (w' := w) rfl (do_move rfl) (by decide) ?_
    refine tl_skipU ⟨12, _, rfl, rfl, rfl⟩ (by decide) ?_
    refine tl_skipU ⟨12, _, rfl, rfl, rfl⟩ (by decide) ?_
    refine tl_skipU ⟨12, _, rfl, rfl, rfl⟩ (by decide) ?_
    refine tl_skipU ⟨12, _, rfl, rfl, rfl⟩ (by decide) ?_
    refine tl_val (w' := w) rfl (do_pick_f rfl rfl rfl) (by decide) ?_
    refine tl_val (w' := w) rfl (do_assign rfl) (by decide) ?_
    refine tl_end ?_
    refine fun a_ ha_ => hK2 _ _ _ (T.sub (L' := [(0, .int .i64 at_), (1, .bool big), (4, .bool false)]) ?_ (sub_cons rfl (sub_cons rfl (sub_cons rfl sub_nil)))) a_ ha_
    refine t_ret ?_
    refine fun a_ ha_ => hQ0 _ _ _ (body_ret (rs := [.tmp 4]) (vs := [.bool false]) ha_ (by kernel_rfl) ⟨_, _, rfl, rfl, rfl⟩ ?_)
    exact ⟨vf (by unfold PlaceP; omega), rfl⟩
theorem rplace_e (at_ : Int) (big : Bool) (w : World) : Calls Tryd.prog 37 [.int .i64 at_, .bool big].toArray w (Ret fun v w' => v = .bool (decide (PlaceP at_ big)) ∧ w = w') := by
  refine enter (n := 17) (L := [(0, .int .i64 at_), (1, .bool big)]) (args := [.int .i64 at_, .bool big]) Tryd.func37 rfl rfl (Nat.le_of_ble_eq_true rfl) (by intro t v h; exact look_args h) ?_
  refine t_body (fun Q0 hB0 hQ0 => ?_)
  refine t_seq (fun K1 hK1 => ?_)
  refine t_region ?_
  refine tl_val (w' := w) rfl (do_assign rfl) (by decide) ?_
  refine tl_end ?_
  refine fun a_ ha_ => hK1 _ _ _ (T.sub (L' := [(0, .int .i64 at_), (1, .bool big), (4, .bool false)]) ?_ (sub_cons rfl (sub_cons rfl (sub_cons rfl sub_nil)))) a_ ha_
  refine t_seq (fun K2 hK2 => ?_)
  refine t_seq (fun K3 hK3 => ?_)
  refine t_region ?_
  refine tl_val (w' := w) rfl (do_move rfl) (by decide) ?_
  refine tl_val (w' := w) rfl (do_lss rfl rfl) (by decide) ?_
  refine tl_val (w' := w) rfl (do_move rfl) (by decide) ?_
  by_cases hc4 : at_ < 8
  · have hk5 := decide_eq_true hc4
    refine tl_skipU ⟨7, _, rfl, rfl, (by rw [hk5]; rfl)⟩ (by decide) ?_
    refine tl_skipU ⟨7, _, rfl, rfl, (by rw [hk5]; rfl)⟩ (by decide) ?_
    refine tl_skipU ⟨7, _, rfl, rfl, (by rw [hk5]; rfl)⟩ (by decide) ?_
    refine tl_val (w' := w) rfl (do_pick_t rfl hk5 rfl) (by decide) ?_
    refine tl_end ?_
    refine fun a_ ha_ => hK3 _ _ _ (T.sub (L' := [(0, .int .i64 at_), (1, .bool big), (4, .bool false), (11, .bool true)]) ?_ (sub_cons rfl (sub_cons rfl (sub_cons rfl (sub_cons rfl sub_nil))))) a_ ha_
    refine t_yes rfl rfl ?_
    refine t_seq (fun K6 hK6 => ?_)
    refine t_region ?_
    refine tl_val (w' := w) rfl (do_assign rfl) (by decide) ?_
    refine tl_end ?_
    refine fun a_ ha_ => hK6 _ _ _ (T.sub (L' := [(0, .int .i64 at_), (1, .bool big), (4, .bool false), (11, .bool true)]) ?_ (sub_cons rfl (sub_cons rfl (sub_cons rfl (sub_cons rfl sub_nil))))) a_ ha_
    refine t_ret ?_
    refine fun a_ ha_ => hQ0 _ _ _ (body_ret (rs := [.tmp 4]) (vs := [.bool false]) ha_ (by kernel_rfl) ⟨_, _, rfl, rfl, rfl⟩ ?_)
    exact ⟨vf (by unfold PlaceP; omega), rfl⟩
  · have hk5 := decide_eq_false hc4
    refine tl_val (w' := w) ⟨7, _, rfl, rfl, (by rw [hk5]; rfl)⟩ (do_move rfl) (by decide) ?_
    have ht7 := tmod0 at_ 2 (by decide)
    refine tl_val (w' := w) ⟨7, _, rfl, rfl, (by rw [hk5]; rfl)⟩ (do_rem (c := Int.tmod at_ 2) rfl rfl (by decide) rfl) (by decide) ?_
    refine tl_val (w' := w) ⟨7, _, rfl, rfl, (by rw [hk5]; rfl)⟩ (do_neq rfl rfl) (by decide) ?_
    refine tl_val (w' := w) rfl (do_pick_f rfl hk5 rfl) (by decide) ?_
    refine tl_end ?_
    refine fun a_ ha_ => hK3 _ _ _ (T.sub (L' := [(0, .int .i64 at_), (1, .bool big), (4, .bool false), (11, .bool (decide ((Int.tmod at_ 2) ≠ 0)))]) ?_ (sub_cons rfl (sub_cons rfl (sub_cons rfl (sub_cons rfl sub_nil))))) a_ ha_
    by_cases hc8 : (Int.tmod at_ 2) ≠ 0
    · have hk9 := decide_eq_true hc8
      refine t_yes rfl hk9 ?_
      refine t_seq (fun K10 hK10 => ?_)
      refine t_region ?_
      refine tl_val (w' := w) rfl (do_assign rfl) (by decide) ?_
      refine tl_end ?_
      refine fun a_ ha_ => hK10 _ _ _ (T.sub (L' := [(0, .int .i64 at_), (1, .bool big), (4, .bool false), (11, .bool (decide ((Int.tmod at_ 2) ≠ 0)))]) ?_ (sub_cons rfl (sub_cons rfl (sub_cons rfl (sub_cons rfl sub_nil))))) a_ ha_
      refine t_ret ?_
      refine fun a_ ha_ => hQ0 _ _ _ (body_ret (rs := [.tmp 4]) (vs := [.bool false]) ha_ (by kernel_rfl) ⟨_, _, rfl, rfl, rfl⟩ ?_)
      exact ⟨vf (by unfold PlaceP; omega), rfl⟩
    · have hk9 := decide_eq_false hc8
      refine t_no rfl hk9 ?_
      refine t_skip ?_
      refine fun a_ ha_ => hK2 _ _ _ (T.sub (L' := [(0, .int .i64 at_), (1, .bool big), (4, .bool false), (11, .bool (decide ((Int.tmod at_ 2) ≠ 0)))]) ?_ (sub_cons rfl (sub_cons rfl (sub_cons rfl (sub_cons rfl sub_nil))))) a_ ha_
      refine t_seq (fun K11 hK11 => ?_)
      refine t_seq (fun K12 hK12 => ?_)
      refine t_region ?_
      refine tl_val (w' := w) rfl (do_move rfl) (by decide) ?_
      refine tl_end ?_
      refine fun a_ ha_ => hK12 _ _ _ (T.sub (L' := [(0, .int .i64 at_), (1, .bool big), (4, .bool false), (11, .bool (decide ((Int.tmod at_ 2) ≠ 0))), (12, .bool big)]) ?_ (sub_cons rfl (sub_cons rfl (sub_cons rfl (sub_cons rfl (sub_cons rfl sub_nil)))))) a_ ha_
      by_cases hc13 : big = true
      · have hk14 := hc13
        have hf2_ : farOf big = 1099511627776 := by rw [hk14]; rfl
        refine t_yes rfl hk14 ?_
        refine t_seq (fun K15 hK15 => ?_)
        refine t_region ?_
        refine tl_val (w' := w) rfl (do_move rfl) (by decide) ?_
        refine tl_val (w' := w) rfl (do_lss rfl rfl) (by decide) ?_
        refine tl_val (w' := w) rfl (do_assign rfl) (by decide) ?_
        refine tl_end ?_
        refine fun a_ ha_ => hK15 _ _ _ (T.sub (L' := [(0, .int .i64 at_), (1, .bool big), (4, .bool (decide (at_ < 1099511627776))), (11, .bool (decide ((Int.tmod at_ 2) ≠ 0))), (12, .bool big)]) ?_ (sub_cons rfl (sub_cons rfl (sub_cons rfl (sub_cons rfl (sub_cons rfl sub_nil)))))) a_ ha_
        refine t_ret ?_
        refine fun a_ ha_ => hQ0 _ _ _ (body_ret (rs := [.tmp 4]) (vs := [.bool (decide (at_ < 1099511627776))]) ha_ (by kernel_rfl) ⟨_, _, rfl, rfl, rfl⟩ ?_)
        by_cases hq_ : at_ < 1099511627776
        · exact ⟨by rw [decide_eq_true hq_]; exact vt (by unfold PlaceP; omega), rfl⟩
        · exact ⟨by rw [decide_eq_false hq_]; exact vf (by unfold PlaceP; omega), rfl⟩
      · have hk14 := Bool.eq_false_iff.2 hc13
        have hf2_ : farOf big = 4294967296 := by rw [hk14]; rfl
        refine t_no rfl hk14 ?_
        refine t_skip ?_
        refine fun a_ ha_ => hK11 _ _ _ (T.sub (L' := [(0, .int .i64 at_), (1, .bool big), (4, .bool false), (11, .bool (decide ((Int.tmod at_ 2) ≠ 0))), (12, .bool big)]) ?_ (sub_cons rfl (sub_cons rfl (sub_cons rfl (sub_cons rfl (sub_cons rfl sub_nil)))))) a_ ha_
        refine t_seq (fun K16 hK16 => ?_)
        refine t_region ?_
        refine tl_val (w' := w) rfl (do_move rfl) (by decide) ?_
        refine tl_val (w' := w) rfl (do_lss rfl rfl) (by decide) ?_
        refine tl_val (w' := w) rfl (do_assign rfl) (by decide) ?_
        refine tl_end ?_
        refine fun a_ ha_ => hK16 _ _ _ (T.sub (L' := [(0, .int .i64 at_), (1, .bool big), (4, .bool (decide (at_ < 4294967296))), (11, .bool (decide ((Int.tmod at_ 2) ≠ 0))), (12, .bool big)]) ?_ (sub_cons rfl (sub_cons rfl (sub_cons rfl (sub_cons rfl (sub_cons rfl sub_nil)))))) a_ ha_
        refine t_ret ?_
        refine fun a_ ha_ => hQ0 _ _ _ (body_ret (rs := [.tmp 4]) (vs := [.bool (decide (at_ < 4294967296))]) ha_ (by kernel_rfl) ⟨_, _, rfl, rfl, rfl⟩ ?_)
        by_cases hq_ : at_ < 4294967296
        · exact ⟨by rw [decide_eq_true hq_]; exact vt (by unfold PlaceP; omega), rfl⟩
        · exact ⟨by rw [decide_eq_false hq_]; exact vf (by unfold PlaceP; omega), rfl⟩
end Go.Proofs.YtfmpbbeacpdalaaDoor
