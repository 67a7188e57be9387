/-
  The next head; awake.
-/
import Derived.Test.YtfmpbbeacpdalaaDoorHRGet
import Derived.Test.YtfmpbbeacpdalaaDoorEqs
import Derived.OpenShut
set_option linter.unusedVariables false
set_option linter.unusedSimpArgs false
set_option maxRecDepth 100000
namespace Go.Proofs.YtfmpbbeacpdalaaDoor
open Go.RowKit

def NextR (w : World) (big : Bool) (gen first last f2 e2 : Int) : Ending → World → Prop := Ret fun v w' => Chg (fun _ => False) w w' ∧
  ((¬ RightP gen first last ∧ v = .tuple #[.agg #[.bool false, .int .i64 0, .int .i64 0, .int .i64 0], .int .i64 1]) ∨
   (RightP gen first last ∧ ¬ RightP (gen + 1) f2 e2 ∧ v = .tuple #[.agg #[.bool false, .int .i64 0, .int .i64 0, .int .i64 0], .int .i64 2]) ∨
   (RightP gen first last ∧ RightP (gen + 1) f2 e2 ∧ v = .tuple #[.agg #[.bool big, .int .i64 (gen + 1), .int .i64 f2, .int .i64 e2], .int .i64 0]))
theorem next_e (big : Bool) (gen first last f2 e2 : Int) (w : World) (hg : -9223372036854775808 ≤ gen ∧ gen ≤ 9223372036854775807) : Calls Tryd.prog 20 [.agg #[.bool big, .int .i64 gen, .int .i64 first, .int .i64 last], .int .i64 f2, .int .i64 e2].toArray w (NextR w big gen first last f2 e2) := by
  refine enter (n := 31) (L := [(0, .agg #[.bool big, .int .i64 gen, .int .i64 first, .int .i64 last]), (1, .int .i64 f2), (2, .int .i64 e2)]) (args := [.agg #[.bool big, .int .i64 gen, .int .i64 first, .int .i64 last], .int .i64 f2, .int .i64 e2]) Tryd.func20 rfl rfl (Nat.le_of_ble_eq_true rfl) (by intro t v h; exact look_args h) ?_
  refine t_body (fun Q0 hB0 hQ0 => ?_)
  refine t_seq (fun K1 hK1 => ?_)
  refine t_region ?_
  refine tl_val rfl (do_box (v := .pointer (some ⟨w.heap.size, 0, none⟩)) (w' := w.alloc (.cells #[.bool big, .int .i64 gen, .int .i64 first, .int .i64 last] 23)) rfl (by kernel_rfl)) (by decide) ?_
  refine tl_gen (fun w2 e3 => ?_)
  have hb4 : Chg (fun _ => False) w w2 := e3 ▸ Chg.alloc _ _
  have hz5 : w2.heap.size = w.heap.size + 1 := by rw [e3]; exact size_alloc _ _
  have hc6 : w2.heap[w.heap.size]? = some (.cells #[.bool big, .int .i64 gen, .int .i64 first, .int .i64 last] 23 (0, 0)) := by rw [e3]; exact obj_new _ _
  clear e3
  refine tl_val rfl (do_alloc (v := .pointer (some ⟨w2.heap.size, 0, none⟩)) (w' := w2.alloc (.cells #[.bool false, .int .i64 0, .int .i64 0, .int .i64 0] 23)) (by kernel_rfl)) (by decide) ?_
  refine tl_gen (fun w7 e8 => ?_)
  have hb9 : Chg (fun _ => False) w2 w7 := e8 ▸ Chg.alloc _ _
  have hz10 : w7.heap.size = w2.heap.size + 1 := by rw [e8]; exact size_alloc _ _
  have hc11 : w7.heap[w2.heap.size]? = some (.cells #[.bool false, .int .i64 0, .int .i64 0, .int .i64 0] 23 (0, 0)) := by rw [e8]; exact obj_new _ _
  clear e8
  refine tl_val (w' := w7) rfl (do_assign rfl) (by decide) ?_
  refine tl_end ?_
  refine fun a_ ha_ => hK1 _ _ _ (T.sub (L' := [(0, .agg #[.bool big, .int .i64 gen, .int .i64 first, .int .i64 last]), (1, .int .i64 f2), (2, .int .i64 e2), (3, .pointer (some ⟨w.heap.size, 0, none⟩)), (6, .pointer (some ⟨w2.heap.size, 0, none⟩)), (7, .int .i64 0)]) ?_ (sub_cons rfl (sub_cons rfl (sub_cons rfl (sub_cons rfl (sub_cons rfl (sub_cons rfl sub_nil))))))) a_ ha_
  refine t_seq (fun K12 hK12 => ?_)
  refine t_seq (fun K13 hK13 => ?_)
  refine t_region ?_
  have h14 := (hb9.obj (fun x => x) hc6)
  refine tl_val (w' := w7) rfl (do_loads (cs := [.bool big, .int .i64 gen, .int .i64 first, .int .i64 last]) rfl (by kernel_rfl) (obj_range h14)) (by decide) ?_
  refine tl_call rfl (en_call (f := 13) (by kernel_rfl) rfl) rfl (right_e big gen first last _) (fun v18 w16 hr17 => ?_) (fun _ _ h => h.elim) (fun _ h => h)
  obtain ⟨rfl, hchg15⟩ := hr17
  have hz19 := hchg15.size
  refine tl_val (w' := w16) rfl (do_not rfl (not_dec _)) (by decide) ?_
  refine tl_end ?_
  refine fun a_ ha_ => hK13 _ _ _ (T.sub (L' := [(0, .agg #[.bool big, .int .i64 gen, .int .i64 first, .int .i64 last]), (1, .int .i64 f2), (2, .int .i64 e2), (3, .pointer (some ⟨w.heap.size, 0, none⟩)), (6, .pointer (some ⟨w2.heap.size, 0, none⟩)), (7, .int .i64 0), (11, .bool (decide (¬ (RightP gen first last))))]) ?_ (sub_cons rfl (sub_cons rfl (sub_cons rfl (sub_cons rfl (sub_cons rfl (sub_cons rfl (sub_cons rfl sub_nil)))))))) a_ ha_
  by_cases hc20 : ¬ (RightP gen first last)
  · have hk21 := decide_eq_true hc20
    have hR1_ : ¬ RightP gen first last := hc20
    refine t_yes rfl hk21 ?_
    refine t_seq (fun K22 hK22 => ?_)
    refine t_region ?_
    refine tl_val (w' := w16) rfl (do_build (vs := []) (v := .agg #[.bool false, .int .i64 0, .int .i64 0, .int .i64 0]) rfl (by kernel_rfl)) (by decide) ?_
    have h23 := (hchg15.obj (fun x => x) hc11)
    refine tl_unit rfl (do_storesB (cs := [.bool false, .int .i64 0, .int .i64 0, .int .i64 0]) rfl rfl (by rfl) (by kernel_rfl) h23 (Nat.le_of_ble_eq_true rfl)) ?_
    refine tl_gen (fun w24 e25 => ?_)
    have hb26 : Chg (fun k => k = w2.heap.size) w16 w24 := e25 ▸ Chg.setCells _ _ 0 [.bool false, .int .i64 0, .int .i64 0, .int .i64 0]
    have hz27 : w24.heap.size = w16.heap.size := by rw [e25]; exact sc_size _ _ _ _
    have hc28 : w24.heap[w2.heap.size]? = some (.cells #[.bool false, .int .i64 0, .int .i64 0, .int .i64 0] 23 (0, 0)) := by rw [e25]; exact obj_setCells [.bool false, .int .i64 0, .int .i64 0, .int .i64 0] 0 h23
    clear e25
    refine tl_val (w' := w24) rfl (do_assign rfl) (by decide) ?_
    refine tl_end ?_
    refine fun a_ ha_ => hK22 _ _ _ (T.sub (L' := [(0, .agg #[.bool big, .int .i64 gen, .int .i64 first, .int .i64 last]), (1, .int .i64 f2), (2, .int .i64 e2), (3, .pointer (some ⟨w.heap.size, 0, none⟩)), (6, .pointer (some ⟨w2.heap.size, 0, none⟩)), (7, .int .i64 1), (11, .bool (decide (¬ (RightP gen first last))))]) ?_ (sub_cons rfl (sub_cons rfl (sub_cons rfl (sub_cons rfl (sub_cons rfl (sub_cons rfl (sub_cons rfl sub_nil)))))))) a_ ha_
    refine t_ret ?_
    refine fun a_ ha_ => hQ0 _ _ _ (body_ret (rs := [.cell 6 23, .tmp 7]) (vs := [.agg #[.bool false, .int .i64 0, .int .i64 0, .int .i64 0], .int .i64 1]) ha_ (by kernel_rfl) ⟨_, _, _, rfl, rfl, (load_whole (cs := [.bool false, .int .i64 0, .int .i64 0, .int .i64 0]) (by kernel_rfl) (obj_range hc28)), ⟨_, _, rfl, rfl, rfl⟩⟩ ?_)
    exact ⟨(((((Chg.refl (fun k_ => False) w).step hb4 (fun k_ hk_ (h_ : False) => h_.elim)).step hb9 (fun k_ hk_ (h_ : False) => h_.elim)).step hchg15 (fun k_ hk_ (h_ : False) => h_.elim)).step hb26 (fun k_ hk_ (h_ : k_ = w2.heap.size) => (show False by omega))), .inl ⟨hR1_, rfl⟩⟩
  · have hk21 := decide_eq_false hc20
    have hR1_ : RightP gen first last := Classical.not_not.1 hc20
    have hRb_ := right_bounds hR1_
    refine t_no rfl hk21 ?_
    refine t_skip ?_
    refine fun a_ ha_ => hK12 _ _ _ (T.sub (L' := [(0, .agg #[.bool big, .int .i64 gen, .int .i64 first, .int .i64 last]), (1, .int .i64 f2), (2, .int .i64 e2), (3, .pointer (some ⟨w.heap.size, 0, none⟩)), (6, .pointer (some ⟨w2.heap.size, 0, none⟩)), (7, .int .i64 0), (11, .bool (decide (¬ (RightP gen first last))))]) ?_ (sub_cons rfl (sub_cons rfl (sub_cons rfl (sub_cons rfl (sub_cons rfl (sub_cons rfl (sub_cons rfl sub_nil)))))))) a_ ha_
    refine t_seq (fun K29 hK29 => ?_)
    refine t_region ?_
    refine tl_val (w' := w16) rfl (do_fieldAddr (v := .pointer (some ⟨w.heap.size, 0, none⟩)) rfl (by kernel_rfl)) (by decide) ?_
    have h30 := (hchg15.obj (fun x => x) h14)
    refine tl_val (w' := w16) rfl (do_load (v := .bool big) rfl (by kernel_rfl) (by rw [obj_cell h30]; rfl)) (by decide) ?_
    refine tl_val (w' := w16) rfl (do_fieldAddr (v := .pointer (some ⟨w.heap.size, 1, none⟩)) rfl (by kernel_rfl)) (by decide) ?_
    refine tl_val (w' := w16) rfl (do_load (v := .int .i64 gen) rfl (by kernel_rfl) (by rw [obj_cell h30]; rfl)) (by decide) ?_
    refine tl_val (w' := w16) rfl (do_add (c := gen + 1) rfl rfl (wrap_i64 (by omega) (by omega))) (by decide) ?_
    refine tl_val (w' := w16) rfl (do_move rfl) (by decide) ?_
    refine tl_val (w' := w16) rfl (do_move rfl) (by decide) ?_
    refine tl_val (w' := w16) rfl (do_build (vs := [.bool big, .int .i64 (gen + 1), .int .i64 f2, .int .i64 e2]) (v := .agg #[.bool big, .int .i64 (gen + 1), .int .i64 f2, .int .i64 e2]) rfl (by kernel_rfl)) (by decide) ?_
    refine tl_val rfl (do_alloc (v := .pointer (some ⟨w16.heap.size, 0, none⟩)) (w' := w16.alloc (.cells #[.bool false, .int .i64 0, .int .i64 0, .int .i64 0] 23)) (by kernel_rfl)) (by decide) ?_
    refine tl_gen (fun w31 e32 => ?_)
    have hb33 : Chg (fun _ => False) w16 w31 := e32 ▸ Chg.alloc _ _
    have hz34 : w31.heap.size = w16.heap.size + 1 := by rw [e32]; exact size_alloc _ _
    have hc35 : w31.heap[w16.heap.size]? = some (.cells #[.bool false, .int .i64 0, .int .i64 0, .int .i64 0] 23 (0, 0)) := by rw [e32]; exact obj_new _ _
    clear e32
    refine tl_unit rfl (do_storesB (cs := [.bool big, .int .i64 (gen + 1), .int .i64 f2, .int .i64 e2]) rfl rfl (by rfl) (by kernel_rfl) hc35 (Nat.le_of_ble_eq_true rfl)) ?_
    refine tl_gen (fun w36 e37 => ?_)
    have hb38 : Chg (fun k => k = w16.heap.size) w31 w36 := e37 ▸ Chg.setCells _ _ 0 [.bool big, .int .i64 (gen + 1), .int .i64 f2, .int .i64 e2]
    have hz39 : w36.heap.size = w31.heap.size := by rw [e37]; exact sc_size _ _ _ _
    have hc40 : w36.heap[w16.heap.size]? = some (.cells #[.bool big, .int .i64 (gen + 1), .int .i64 f2, .int .i64 e2] 23 (0, 0)) := by rw [e37]; exact obj_setCells [.bool big, .int .i64 (gen + 1), .int .i64 f2, .int .i64 e2] 0 hc35
    clear e37
    refine tl_end ?_
    refine fun a_ ha_ => hK29 _ _ _ (T.sub (L' := [(0, .agg #[.bool big, .int .i64 gen, .int .i64 first, .int .i64 last]), (1, .int .i64 f2), (2, .int .i64 e2), (3, .pointer (some ⟨w.heap.size, 0, none⟩)), (6, .pointer (some ⟨w2.heap.size, 0, none⟩)), (7, .int .i64 0), (8, .pointer (some ⟨w16.heap.size, 0, none⟩)), (11, .bool (decide (¬ (RightP gen first last))))]) ?_ (sub_cons rfl (sub_cons rfl (sub_cons rfl (sub_cons rfl (sub_cons rfl (sub_cons rfl (sub_cons rfl (sub_cons rfl sub_nil))))))))) a_ ha_
    refine t_seq (fun K41 hK41 => ?_)
    refine t_seq (fun K42 hK42 => ?_)
    refine t_region ?_
    refine tl_val (w' := w36) rfl (do_loads (cs := [.bool big, .int .i64 (gen + 1), .int .i64 f2, .int .i64 e2]) rfl (by kernel_rfl) (obj_range hc40)) (by decide) ?_
    have h43 := (hb38.obj (show ¬ w.heap.size = w16.heap.size by omega) (hb33.obj (fun x => x) h30))
    refine tl_val (w' := w36) rfl (do_loads (cs := [.bool big, .int .i64 gen, .int .i64 first, .int .i64 last]) rfl (by kernel_rfl) (obj_range h43)) (by decide) ?_
    refine tl_val (w' := w36) rfl (do_eqst (p := big = big ∧ (gen + 1) = gen ∧ f2 = first ∧ e2 = last) (xs := [.b big, .i .i64 (gen + 1), .i .i64 f2, .i .i64 e2]) (ys := [.b big, .i .i64 gen, .i .i64 first, .i .i64 last]) rfl rfl (by kernel_rfl) rfl (by simp [all2, Sc.same])) (by decide) ?_
    refine tl_val (w' := w36) rfl (do_move rfl) (by decide) ?_
    have hk44 : (decide (big = big ∧ (gen + 1) = gen ∧ f2 = first ∧ e2 = last)) = false := (decide_eq_false (show ¬ (big = big ∧ (gen + 1) = gen ∧ f2 = first ∧ e2 = last) from (by omega)))
    refine tl_val (w' := w36) ⟨24, _, rfl, rfl, (by rw [hk44]; rfl)⟩ (do_loads (cs := [.bool big, .int .i64 (gen + 1), .int .i64 f2, .int .i64 e2]) rfl (by kernel_rfl) (obj_range hc40)) (by decide) ?_
    refine tl_call ⟨24, _, rfl, rfl, (by rw [hk44]; rfl)⟩ (en_call (f := 13) (by kernel_rfl) rfl) rfl (right_e big (gen + 1) f2 e2 _) (fun v48 w46 hr47 => ?_) (fun _ _ h => h.elim) (fun _ h => h)
    obtain ⟨rfl, hchg45⟩ := hr47
    have hz49 := hchg45.size
    refine tl_val (w' := w46) ⟨24, _, rfl, rfl, (by rw [hk44]; rfl)⟩ (do_not rfl (not_dec _)) (by decide) ?_
    refine tl_val (w' := w46) rfl (do_pick_f rfl hk44 rfl) (by decide) ?_
    refine tl_end ?_
    refine fun a_ ha_ => hK42 _ _ _ (T.sub (L' := [(0, .agg #[.bool big, .int .i64 gen, .int .i64 first, .int .i64 last]), (1, .int .i64 f2), (2, .int .i64 e2), (3, .pointer (some ⟨w.heap.size, 0, none⟩)), (6, .pointer (some ⟨w2.heap.size, 0, none⟩)), (7, .int .i64 0), (8, .pointer (some ⟨w16.heap.size, 0, none⟩)), (11, .bool (decide (¬ (RightP gen first last)))), (28, .bool (decide (¬ (RightP (gen + 1) f2 e2))))]) ?_ (sub_cons rfl (sub_cons rfl (sub_cons rfl (sub_cons rfl (sub_cons rfl (sub_cons rfl (sub_cons rfl (sub_cons rfl (sub_cons rfl sub_nil)))))))))) a_ ha_
    by_cases hc50 : ¬ (RightP (gen + 1) f2 e2)
    · have hk51 := decide_eq_true hc50
      have hR2_ := hc50
      refine t_yes rfl hk51 ?_
      refine t_seq (fun K52 hK52 => ?_)
      refine t_region ?_
      refine tl_val (w' := w46) rfl (do_build (vs := []) (v := .agg #[.bool false, .int .i64 0, .int .i64 0, .int .i64 0]) rfl (by kernel_rfl)) (by decide) ?_
      have h53 := (hchg45.obj (fun x => x) (hb38.obj (show ¬ w2.heap.size = w16.heap.size by omega) (hb33.obj (fun x => x) (hchg15.obj (fun x => x) hc11))))
      refine tl_unit rfl (do_storesB (cs := [.bool false, .int .i64 0, .int .i64 0, .int .i64 0]) rfl rfl (by rfl) (by kernel_rfl) h53 (Nat.le_of_ble_eq_true rfl)) ?_
      refine tl_gen (fun w54 e55 => ?_)
      have hb56 : Chg (fun k => k = w2.heap.size) w46 w54 := e55 ▸ Chg.setCells _ _ 0 [.bool false, .int .i64 0, .int .i64 0, .int .i64 0]
      have hz57 : w54.heap.size = w46.heap.size := by rw [e55]; exact sc_size _ _ _ _
      have hc58 : w54.heap[w2.heap.size]? = some (.cells #[.bool false, .int .i64 0, .int .i64 0, .int .i64 0] 23 (0, 0)) := by rw [e55]; exact obj_setCells [.bool false, .int .i64 0, .int .i64 0, .int .i64 0] 0 h53
      clear e55
      refine tl_val (w' := w54) rfl (do_assign rfl) (by decide) ?_
      refine tl_end ?_
      refine fun a_ ha_ => hK52 _ _ _ (T.sub (L' := [(0, .agg #[.bool big, .int .i64 gen, .int .i64 first, .int .i64 last]), (1, .int .i64 f2), (2, .int .i64 e2), (3, .pointer (some ⟨w.heap.size, 0, none⟩)), (6, .pointer (some ⟨w2.heap.size, 0, none⟩)), (7, .int .i64 2), (8, .pointer (some ⟨w16.heap.size, 0, none⟩)), (11, .bool (decide (¬ (RightP gen first last)))), (28, .bool (decide (¬ (RightP (gen + 1) f2 e2))))]) ?_ (sub_cons rfl (sub_cons rfl (sub_cons rfl (sub_cons rfl (sub_cons rfl (sub_cons rfl (sub_cons rfl (sub_cons rfl (sub_cons rfl sub_nil)))))))))) a_ ha_
      refine t_ret ?_
      refine fun a_ ha_ => hQ0 _ _ _ (body_ret (rs := [.cell 6 23, .tmp 7]) (vs := [.agg #[.bool false, .int .i64 0, .int .i64 0, .int .i64 0], .int .i64 2]) ha_ (by kernel_rfl) ⟨_, _, _, rfl, rfl, (load_whole (cs := [.bool false, .int .i64 0, .int .i64 0, .int .i64 0]) (by kernel_rfl) (obj_range hc58)), ⟨_, _, rfl, rfl, rfl⟩⟩ ?_)
      first | exact ⟨((((((((Chg.refl (fun k_ => False) w).step hb4 (fun k_ hk_ (h_ : False) => h_.elim)).step hb9 (fun k_ hk_ (h_ : False) => h_.elim)).step hchg15 (fun k_ hk_ (h_ : False) => h_.elim)).step hb33 (fun k_ hk_ (h_ : False) => h_.elim)).step hb38 (fun k_ hk_ (h_ : k_ = w16.heap.size) => (show False by omega))).step hchg45 (fun k_ hk_ (h_ : False) => h_.elim)).step hb56 (fun k_ hk_ (h_ : k_ = w2.heap.size) => (show False by omega))), .inr (.inl ⟨hR1_, hR2_, rfl⟩)⟩ | (exfalso; omega)
    · have hk51 := decide_eq_false hc50
      have hR2_ := Classical.not_not.1 hc50
      refine t_no rfl hk51 ?_
      refine t_skip ?_
      refine fun a_ ha_ => hK41 _ _ _ (T.sub (L' := [(0, .agg #[.bool big, .int .i64 gen, .int .i64 first, .int .i64 last]), (1, .int .i64 f2), (2, .int .i64 e2), (3, .pointer (some ⟨w.heap.size, 0, none⟩)), (6, .pointer (some ⟨w2.heap.size, 0, none⟩)), (7, .int .i64 0), (8, .pointer (some ⟨w16.heap.size, 0, none⟩)), (11, .bool (decide (¬ (RightP gen first last)))), (28, .bool (decide (¬ (RightP (gen + 1) f2 e2))))]) ?_ (sub_cons rfl (sub_cons rfl (sub_cons rfl (sub_cons rfl (sub_cons rfl (sub_cons rfl (sub_cons rfl (sub_cons rfl (sub_cons rfl sub_nil)))))))))) a_ ha_
      refine t_seq (fun K59 hK59 => ?_)
      refine t_region ?_
      have h60 := (hchg45.obj (fun x => x) hc40)
      refine tl_val (w' := w46) rfl (do_loads (cs := [.bool big, .int .i64 (gen + 1), .int .i64 f2, .int .i64 e2]) rfl (by kernel_rfl) (obj_range h60)) (by decide) ?_
      have h61 := (hchg45.obj (fun x => x) (hb38.obj (show ¬ w2.heap.size = w16.heap.size by omega) (hb33.obj (fun x => x) (hchg15.obj (fun x => x) hc11))))
      refine tl_unit rfl (do_storesB (cs := [.bool big, .int .i64 (gen + 1), .int .i64 f2, .int .i64 e2]) rfl rfl (by rfl) (by kernel_rfl) h61 (Nat.le_of_ble_eq_true rfl)) ?_
      refine tl_gen (fun w62 e63 => ?_)
      have hb64 : Chg (fun k => k = w2.heap.size) w46 w62 := e63 ▸ Chg.setCells _ _ 0 [.bool big, .int .i64 (gen + 1), .int .i64 f2, .int .i64 e2]
      have hz65 : w62.heap.size = w46.heap.size := by rw [e63]; exact sc_size _ _ _ _
      have hc66 : w62.heap[w2.heap.size]? = some (.cells #[.bool big, .int .i64 (gen + 1), .int .i64 f2, .int .i64 e2] 23 (0, 0)) := by rw [e63]; exact obj_setCells [.bool big, .int .i64 (gen + 1), .int .i64 f2, .int .i64 e2] 0 h61
      clear e63
      refine tl_val (w' := w62) rfl (do_assign rfl) (by decide) ?_
      refine tl_end ?_
      refine fun a_ ha_ => hK59 _ _ _ (T.sub (L' := [(0, .agg #[.bool big, .int .i64 gen, .int .i64 first, .int .i64 last]), (1, .int .i64 f2), (2, .int .i64 e2), (3, .pointer (some ⟨w.heap.size, 0, none⟩)), (6, .pointer (some ⟨w2.heap.size, 0, none⟩)), (7, .int .i64 0), (8, .pointer (some ⟨w16.heap.size, 0, none⟩)), (11, .bool (decide (¬ (RightP gen first last)))), (28, .bool (decide (¬ (RightP (gen + 1) f2 e2))))]) ?_ (sub_cons rfl (sub_cons rfl (sub_cons rfl (sub_cons rfl (sub_cons rfl (sub_cons rfl (sub_cons rfl (sub_cons rfl (sub_cons rfl sub_nil)))))))))) a_ ha_
      refine t_ret ?_
      refine fun a_ ha_ => hQ0 _ _ _ (body_ret (rs := [.cell 6 23, .tmp 7]) (vs := [.agg #[.bool big, .int .i64 (gen + 1), .int .i64 f2, .int .i64 e2], .int .i64 0]) ha_ (by kernel_rfl) ⟨_, _, _, rfl, rfl, (load_whole (cs := [.bool big, .int .i64 (gen + 1), .int .i64 f2, .int .i64 e2]) (by kernel_rfl) (obj_range hc66)), ⟨_, _, rfl, rfl, rfl⟩⟩ ?_)
      exact ⟨((((((((Chg.refl (fun k_ => False) w).step hb4 (fun k_ hk_ (h_ : False) => h_.elim)).step hb9 (fun k_ hk_ (h_ : False) => h_.elim)).step hchg15 (fun k_ hk_ (h_ : False) => h_.elim)).step hb33 (fun k_ hk_ (h_ : False) => h_.elim)).step hb38 (fun k_ hk_ (h_ : k_ = w16.heap.size) => (show False by omega))).step hchg45 (fun k_ hk_ (h_ : False) => h_.elim)).step hb64 (fun k_ hk_ (h_ : k_ = w2.heap.size) => (show False by omega))), .inr (.inr ⟨hR1_, hR2_, rfl⟩)⟩
theorem rnext_e (big : Bool) (gen first last f2 e2 : Int) (w : World) (hg : -9223372036854775808 ≤ gen ∧ gen ≤ 9223372036854775807) : Calls Tryd.prog 21 [.agg #[.bool big, .int .i64 gen, .int .i64 first, .int .i64 last], .int .i64 f2, .int .i64 e2].toArray w (NextR w big gen first last f2 e2) := by
  refine enter (n := 26) (L := [(0, .agg #[.bool big, .int .i64 gen, .int .i64 first, .int .i64 last]), (1, .int .i64 f2), (2, .int .i64 e2)]) (args := [.agg #[.bool big, .int .i64 gen, .int .i64 first, .int .i64 last], .int .i64 f2, .int .i64 e2]) Tryd.func21 rfl rfl (Nat.le_of_ble_eq_true rfl) (by intro t v h; exact look_args h) ?_
  refine t_body (fun Q0 hB0 hQ0 => ?_)
  refine t_seq (fun K1 hK1 => ?_)
  refine t_region ?_
  refine tl_val rfl (do_box (v := .pointer (some ⟨w.heap.size, 0, none⟩)) (w' := w.alloc (.cells #[.bool big, .int .i64 gen, .int .i64 first, .int .i64 last] 23)) rfl (by kernel_rfl)) (by decide) ?_
  refine tl_gen (fun w2 e3 => ?_)
  have hb4 : Chg (fun _ => False) w w2 := e3 ▸ Chg.alloc _ _
  have hz5 : w2.heap.size = w.heap.size + 1 := by rw [e3]; exact size_alloc _ _
  have hc6 : w2.heap[w.heap.size]? = some (.cells #[.bool big, .int .i64 gen, .int .i64 first, .int .i64 last] 23 (0, 0)) := by rw [e3]; exact obj_new _ _
  clear e3
  refine tl_val rfl (do_alloc (v := .pointer (some ⟨w2.heap.size, 0, none⟩)) (w' := w2.alloc (.cells #[.bool false, .int .i64 0, .int .i64 0, .int .i64 0] 23)) (by kernel_rfl)) (by decide) ?_
  refine tl_gen (fun w7 e8 => ?_)
  have hb9 : Chg (fun _ => False) w2 w7 := e8 ▸ Chg.alloc _ _
  have hz10 : w7.heap.size = w2.heap.size + 1 := by rw [e8]; exact size_alloc _ _
  have hc11 : w7.heap[w2.heap.size]? = some (.cells #[.bool false, .int .i64 0, .int .i64 0, .int .i64 0] 23 (0, 0)) := by rw [e8]; exact obj_new _ _
  clear e8
  refine tl_val (w' := w7) rfl (do_assign rfl) (by decide) ?_
  refine tl_end ?_
  refine fun a_ ha_ => hK1 _ _ _ (T.sub (L' := [(0, .agg #[.bool big, .int .i64 gen, .int .i64 first, .int .i64 last]), (1, .int .i64 f2), (2, .int .i64 e2), (3, .pointer (some ⟨w.heap.size, 0, none⟩)), (6, .pointer (some ⟨w2.heap.size, 0, none⟩)), (7, .int .i64 0)]) ?_ (sub_cons rfl (sub_cons rfl (sub_cons rfl (sub_cons rfl (sub_cons rfl (sub_cons rfl sub_nil))))))) a_ ha_
  refine t_seq (fun K12 hK12 => ?_)
  refine t_seq (fun K13 hK13 => ?_)
  refine t_region ?_
  have h14 := (hb9.obj (fun x => x) hc6)
  refine tl_val (w' := w7) rfl (do_loads (cs := [.bool big, .int .i64 gen, .int .i64 first, .int .i64 last]) rfl (by kernel_rfl) (obj_range h14)) (by decide) ?_
  refine tl_call rfl (en_call (f := 14) (by kernel_rfl) rfl) rfl (rright_e big gen first last _) (fun v18 w16 hr17 => ?_) (fun _ _ h => h.elim) (fun _ h => h)
  obtain ⟨rfl, hchg15⟩ := hr17
  have hz19 := hchg15.size
  refine tl_val (w' := w16) rfl (do_not rfl (not_dec _)) (by decide) ?_
  refine tl_end ?_
  refine fun a_ ha_ => hK13 _ _ _ (T.sub (L' := [(0, .agg #[.bool big, .int .i64 gen, .int .i64 first, .int .i64 last]), (1, .int .i64 f2), (2, .int .i64 e2), (3, .pointer (some ⟨w.heap.size, 0, none⟩)), (6, .pointer (some ⟨w2.heap.size, 0, none⟩)), (7, .int .i64 0), (11, .bool (decide (¬ (RightP gen first last))))]) ?_ (sub_cons rfl (sub_cons rfl (sub_cons rfl (sub_cons rfl (sub_cons rfl (sub_cons rfl (sub_cons rfl sub_nil)))))))) a_ ha_
  by_cases hc20 : ¬ (RightP gen first last)
  · have hk21 := decide_eq_true hc20
    have hR1_ : ¬ RightP gen first last := hc20
    refine t_yes rfl hk21 ?_
    refine t_seq (fun K22 hK22 => ?_)
    refine t_region ?_
    refine tl_val (w' := w16) rfl (do_build (vs := []) (v := .agg #[.bool false, .int .i64 0, .int .i64 0, .int .i64 0]) rfl (by kernel_rfl)) (by decide) ?_
    have h23 := (hchg15.obj (fun x => x) hc11)
    refine tl_unit rfl (do_storesB (cs := [.bool false, .int .i64 0, .int .i64 0, .int .i64 0]) rfl rfl (by rfl) (by kernel_rfl) h23 (Nat.le_of_ble_eq_true rfl)) ?_
    refine tl_gen (fun w24 e25 => ?_)
    have hb26 : Chg (fun k => k = w2.heap.size) w16 w24 := e25 ▸ Chg.setCells _ _ 0 [.bool false, .int .i64 0, .int .i64 0, .int .i64 0]
    have hz27 : w24.heap.size = w16.heap.size := by rw [e25]; exact sc_size _ _ _ _
    have hc28 : w24.heap[w2.heap.size]? = some (.cells #[.bool false, .int .i64 0, .int .i64 0, .int .i64 0] 23 (0, 0)) := by rw [e25]; exact obj_setCells [.bool false, .int .i64 0, .int .i64 0, .int .i64 0] 0 h23
    clear e25
    refine tl_val (w' := w24) rfl (do_assign rfl) (by decide) ?_
    refine tl_end ?_
    refine fun a_ ha_ => hK22 _ _ _ (T.sub (L' := [(0, .agg #[.bool big, .int .i64 gen, .int .i64 first, .int .i64 last]), (1, .int .i64 f2), (2, .int .i64 e2), (3, .pointer (some ⟨w.heap.size, 0, none⟩)), (6, .pointer (some ⟨w2.heap.size, 0, none⟩)), (7, .int .i64 1), (11, .bool (decide (¬ (RightP gen first last))))]) ?_ (sub_cons rfl (sub_cons rfl (sub_cons rfl (sub_cons rfl (sub_cons rfl (sub_cons rfl (sub_cons rfl sub_nil)))))))) a_ ha_
    refine t_ret ?_
    refine fun a_ ha_ => hQ0 _ _ _ (body_ret (rs := [.cell 6 23, .tmp 7]) (vs := [.agg #[.bool false, .int .i64 0, .int .i64 0, .int .i64 0], .int .i64 1]) ha_ (by kernel_rfl) ⟨_, _, _, rfl, rfl, (load_whole (cs := [.bool false, .int .i64 0, .int .i64 0, .int .i64 0]) (by kernel_rfl) (obj_range hc28)), ⟨_, _, rfl, rfl, rfl⟩⟩ ?_)
    exact ⟨(((((Chg.refl (fun k_ => False) w).step hb4 (fun k_ hk_ (h_ : False) => h_.elim)).step hb9 (fun k_ hk_ (h_ : False) => h_.elim)).step hchg15 (fun k_ hk_ (h_ : False) => h_.elim)).step hb26 (fun k_ hk_ (h_ : k_ = w2.heap.size) => (show False by omega))), .inl ⟨hR1_, rfl⟩⟩
  · have hk21 := decide_eq_false hc20
    have hR1_ : RightP gen first last := Classical.not_not.1 hc20
    have hRb_ := right_bounds hR1_
    refine t_no rfl hk21 ?_
    refine t_skip ?_
    refine fun a_ ha_ => hK12 _ _ _ (T.sub (L' := [(0, .agg #[.bool big, .int .i64 gen, .int .i64 first, .int .i64 last]), (1, .int .i64 f2), (2, .int .i64 e2), (3, .pointer (some ⟨w.heap.size, 0, none⟩)), (6, .pointer (some ⟨w2.heap.size, 0, none⟩)), (7, .int .i64 0), (11, .bool (decide (¬ (RightP gen first last))))]) ?_ (sub_cons rfl (sub_cons rfl (sub_cons rfl (sub_cons rfl (sub_cons rfl (sub_cons rfl (sub_cons rfl sub_nil)))))))) a_ ha_
    refine t_seq (fun K29 hK29 => ?_)
    refine t_region ?_
    refine tl_val (w' := w16) rfl (do_fieldAddr (v := .pointer (some ⟨w.heap.size, 0, none⟩)) rfl (by kernel_rfl)) (by decide) ?_
    have h30 := (hchg15.obj (fun x => x) h14)
    refine tl_val (w' := w16) rfl (do_load (v := .bool big) rfl (by kernel_rfl) (by rw [obj_cell h30]; rfl)) (by decide) ?_
    refine tl_val (w' := w16) rfl (do_fieldAddr (v := .pointer (some ⟨w.heap.size, 1, none⟩)) rfl (by kernel_rfl)) (by decide) ?_
    refine tl_val (w' := w16) rfl (do_load (v := .int .i64 gen) rfl (by kernel_rfl) (by rw [obj_cell h30]; rfl)) (by decide) ?_
    refine tl_val (w' := w16) rfl (do_add (c := gen + 1) rfl rfl (wrap_i64 (by omega) (by omega))) (by decide) ?_
    refine tl_val (w' := w16) rfl (do_move rfl) (by decide) ?_
    refine tl_val (w' := w16) rfl (do_move rfl) (by decide) ?_
    refine tl_val (w' := w16) rfl (do_build (vs := [.bool big, .int .i64 (gen + 1), .int .i64 f2, .int .i64 e2]) (v := .agg #[.bool big, .int .i64 (gen + 1), .int .i64 f2, .int .i64 e2]) rfl (by kernel_rfl)) (by decide) ?_
    refine tl_val rfl (do_alloc (v := .pointer (some ⟨w16.heap.size, 0, none⟩)) (w' := w16.alloc (.cells #[.bool false, .int .i64 0, .int .i64 0, .int .i64 0] 23)) (by kernel_rfl)) (by decide) ?_
    refine tl_gen (fun w31 e32 => ?_)
    have hb33 : Chg (fun _ => False) w16 w31 := e32 ▸ Chg.alloc _ _
    have hz34 : w31.heap.size = w16.heap.size + 1 := by rw [e32]; exact size_alloc _ _
    have hc35 : w31.heap[w16.heap.size]? = some (.cells #[.bool false, .int .i64 0, .int .i64 0, .int .i64 0] 23 (0, 0)) := by rw [e32]; exact obj_new _ _
    clear e32
    refine tl_unit rfl (do_storesB (cs := [.bool big, .int .i64 (gen + 1), .int .i64 f2, .int .i64 e2]) rfl rfl (by rfl) (by kernel_rfl) hc35 (Nat.le_of_ble_eq_true rfl)) ?_
    refine tl_gen (fun w36 e37 => ?_)
    have hb38 : Chg (fun k => k = w16.heap.size) w31 w36 := e37 ▸ Chg.setCells _ _ 0 [.bool big, .int .i64 (gen + 1), .int .i64 f2, .int .i64 e2]
    have hz39 : w36.heap.size = w31.heap.size := by rw [e37]; exact sc_size _ _ _ _
    have hc40 : w36.heap[w16.heap.size]? = some (.cells #[.bool big, .int .i64 (gen + 1), .int .i64 f2, .int .i64 e2] 23 (0, 0)) := by rw [e37]; exact obj_setCells [.bool big, .int .i64 (gen + 1), .int .i64 f2, .int .i64 e2] 0 hc35
    clear e37
    refine tl_end ?_
    refine fun a_ ha_ => hK29 _ _ _ (T.sub (L' := [(0, .agg #[.bool big, .int .i64 gen, .int .i64 first, .int .i64 last]), (1, .int .i64 f2), (2, .int .i64 e2), (3, .pointer (some ⟨w.heap.size, 0, none⟩)), (6, .pointer (some ⟨w2.heap.size, 0, none⟩)), (7, .int .i64 0), (8, .pointer (some ⟨w16.heap.size, 0, none⟩)), (11, .bool (decide (¬ (RightP gen first last))))]) ?_ (sub_cons rfl (sub_cons rfl (sub_cons rfl (sub_cons rfl (sub_cons rfl (sub_cons rfl (sub_cons rfl (sub_cons rfl sub_nil))))))))) a_ ha_
    refine t_seq (fun K41 hK41 => ?_)
    refine t_seq (fun K42 hK42 => ?_)
    refine t_region ?_
    refine tl_val (w' := w36) rfl (do_loads (cs := [.bool big, .int .i64 (gen + 1), .int .i64 f2, .int .i64 e2]) rfl (by kernel_rfl) (obj_range hc40)) (by decide) ?_
    refine tl_call rfl (en_call (f := 14) (by kernel_rfl) rfl) rfl (rright_e big (gen + 1) f2 e2 _) (fun v46 w44 hr45 => ?_) (fun _ _ h => h.elim) (fun _ h => h)
    obtain ⟨rfl, hchg43⟩ := hr45
    have hz47 := hchg43.size
    refine tl_val (w' := w44) rfl (do_not rfl (not_dec _)) (by decide) ?_
    refine tl_end ?_
    refine fun a_ ha_ => hK42 _ _ _ (T.sub (L' := [(0, .agg #[.bool big, .int .i64 gen, .int .i64 first, .int .i64 last]), (1, .int .i64 f2), (2, .int .i64 e2), (3, .pointer (some ⟨w.heap.size, 0, none⟩)), (6, .pointer (some ⟨w2.heap.size, 0, none⟩)), (7, .int .i64 0), (8, .pointer (some ⟨w16.heap.size, 0, none⟩)), (11, .bool (decide (¬ (RightP gen first last)))), (23, .bool (decide (¬ (RightP (gen + 1) f2 e2))))]) ?_ (sub_cons rfl (sub_cons rfl (sub_cons rfl (sub_cons rfl (sub_cons rfl (sub_cons rfl (sub_cons rfl (sub_cons rfl (sub_cons rfl sub_nil)))))))))) a_ ha_
    by_cases hc48 : ¬ (RightP (gen + 1) f2 e2)
    · have hk49 := decide_eq_true hc48
      have hR2_ := hc48
      refine t_yes rfl hk49 ?_
      refine t_seq (fun K50 hK50 => ?_)
      refine t_region ?_
      refine tl_val (w' := w44) rfl (do_build (vs := []) (v := .agg #[.bool false, .int .i64 0, .int .i64 0, .int .i64 0]) rfl (by kernel_rfl)) (by decide) ?_
      have h51 := (hchg43.obj (fun x => x) (hb38.obj (show ¬ w2.heap.size = w16.heap.size by omega) (hb33.obj (fun x => x) (hchg15.obj (fun x => x) hc11))))
      refine tl_unit rfl (do_storesB (cs := [.bool false, .int .i64 0, .int .i64 0, .int .i64 0]) rfl rfl (by rfl) (by kernel_rfl) h51 (Nat.le_of_ble_eq_true rfl)) ?_
      refine tl_gen (fun w52 e53 => ?_)
      have hb54 : Chg (fun k => k = w2.heap.size) w44 w52 := e53 ▸ Chg.setCells _ _ 0 [.bool false, .int .i64 0, .int .i64 0, .int .i64 0]
      have hz55 : w52.heap.size = w44.heap.size := by rw [e53]; exact sc_size _ _ _ _
      have hc56 : w52.heap[w2.heap.size]? = some (.cells #[.bool false, .int .i64 0, .int .i64 0, .int .i64 0] 23 (0, 0)) := by rw [e53]; exact obj_setCells [.bool false, .int .i64 0, .int .i64 0, .int .i64 0] 0 h51
      clear e53
      refine tl_val (w' := w52) rfl (do_assign rfl) (by decide) ?_
      refine tl_end ?_
      refine fun a_ ha_ => hK50 _ _ _ (T.sub (L' := [(0, .agg #[.bool big, .int .i64 gen, .int .i64 first, .int .i64 last]), (1, .int .i64 f2), (2, .int .i64 e2), (3, .pointer (some ⟨w.heap.size, 0, none⟩)), (6, .pointer (some ⟨w2.heap.size, 0, none⟩)), (7, .int .i64 2), (8, .pointer (some ⟨w16.heap.size, 0, none⟩)), (11, .bool (decide (¬ (RightP gen first last)))), (23, .bool (decide (¬ (RightP (gen + 1) f2 e2))))]) ?_ (sub_cons rfl (sub_cons rfl (sub_cons rfl (sub_cons rfl (sub_cons rfl (sub_cons rfl (sub_cons rfl (sub_cons rfl (sub_cons rfl sub_nil)))))))))) a_ ha_
      refine t_ret ?_
      refine fun a_ ha_ => hQ0 _ _ _ (body_ret (rs := [.cell 6 23, .tmp 7]) (vs := [.agg #[.bool false, .int .i64 0, .int .i64 0, .int .i64 0], .int .i64 2]) ha_ (by kernel_rfl) ⟨_, _, _, rfl, rfl, (load_whole (cs := [.bool false, .int .i64 0, .int .i64 0, .int .i64 0]) (by kernel_rfl) (obj_range hc56)), ⟨_, _, rfl, rfl, rfl⟩⟩ ?_)
      first | exact ⟨((((((((Chg.refl (fun k_ => False) w).step hb4 (fun k_ hk_ (h_ : False) => h_.elim)).step hb9 (fun k_ hk_ (h_ : False) => h_.elim)).step hchg15 (fun k_ hk_ (h_ : False) => h_.elim)).step hb33 (fun k_ hk_ (h_ : False) => h_.elim)).step hb38 (fun k_ hk_ (h_ : k_ = w16.heap.size) => (show False by omega))).step hchg43 (fun k_ hk_ (h_ : False) => h_.elim)).step hb54 (fun k_ hk_ (h_ : k_ = w2.heap.size) => (show False by omega))), .inr (.inl ⟨hR1_, hR2_, rfl⟩)⟩ | (exfalso; omega)
    · have hk49 := decide_eq_false hc48
      have hR2_ := Classical.not_not.1 hc48
      refine t_no rfl hk49 ?_
      refine t_skip ?_
      refine fun a_ ha_ => hK41 _ _ _ (T.sub (L' := [(0, .agg #[.bool big, .int .i64 gen, .int .i64 first, .int .i64 last]), (1, .int .i64 f2), (2, .int .i64 e2), (3, .pointer (some ⟨w.heap.size, 0, none⟩)), (6, .pointer (some ⟨w2.heap.size, 0, none⟩)), (7, .int .i64 0), (8, .pointer (some ⟨w16.heap.size, 0, none⟩)), (11, .bool (decide (¬ (RightP gen first last)))), (23, .bool (decide (¬ (RightP (gen + 1) f2 e2))))]) ?_ (sub_cons rfl (sub_cons rfl (sub_cons rfl (sub_cons rfl (sub_cons rfl (sub_cons rfl (sub_cons rfl (sub_cons rfl (sub_cons rfl sub_nil)))))))))) a_ ha_
      refine t_seq (fun K57 hK57 => ?_)
      refine t_region ?_
      have h58 := (hchg43.obj (fun x => x) hc40)
      refine tl_val (w' := w44) rfl (do_loads (cs := [.bool big, .int .i64 (gen + 1), .int .i64 f2, .int .i64 e2]) rfl (by kernel_rfl) (obj_range h58)) (by decide) ?_
      have h59 := (hchg43.obj (fun x => x) (hb38.obj (show ¬ w2.heap.size = w16.heap.size by omega) (hb33.obj (fun x => x) (hchg15.obj (fun x => x) hc11))))
      refine tl_unit rfl (do_storesB (cs := [.bool big, .int .i64 (gen + 1), .int .i64 f2, .int .i64 e2]) rfl rfl (by rfl) (by kernel_rfl) h59 (Nat.le_of_ble_eq_true rfl)) ?_
      refine tl_gen (fun w60 e61 => ?_)
      have hb62 : Chg (fun k => k = w2.heap.size) w44 w60 := e61 ▸ Chg.setCells _ _ 0 [.bool big, .int .i64 (gen + 1), .int .i64 f2, .int .i64 e2]
      have hz63 : w60.heap.size = w44.heap.size := by rw [e61]; exact sc_size _ _ _ _
      have hc64 : w60.heap[w2.heap.size]? = some (.cells #[.bool big, .int .i64 (gen + 1), .int .i64 f2, .int .i64 e2] 23 (0, 0)) := by rw [e61]; exact obj_setCells [.bool big, .int .i64 (gen + 1), .int .i64 f2, .int .i64 e2] 0 h59
      clear e61
      refine tl_val (w' := w60) rfl (do_assign rfl) (by decide) ?_
      refine tl_end ?_
      refine fun a_ ha_ => hK57 _ _ _ (T.sub (L' := [(0, .agg #[.bool big, .int .i64 gen, .int .i64 first, .int .i64 last]), (1, .int .i64 f2), (2, .int .i64 e2), (3, .pointer (some ⟨w.heap.size, 0, none⟩)), (6, .pointer (some ⟨w2.heap.size, 0, none⟩)), (7, .int .i64 0), (8, .pointer (some ⟨w16.heap.size, 0, none⟩)), (11, .bool (decide (¬ (RightP gen first last)))), (23, .bool (decide (¬ (RightP (gen + 1) f2 e2))))]) ?_ (sub_cons rfl (sub_cons rfl (sub_cons rfl (sub_cons rfl (sub_cons rfl (sub_cons rfl (sub_cons rfl (sub_cons rfl (sub_cons rfl sub_nil)))))))))) a_ ha_
      refine t_ret ?_
      refine fun a_ ha_ => hQ0 _ _ _ (body_ret (rs := [.cell 6 23, .tmp 7]) (vs := [.agg #[.bool big, .int .i64 (gen + 1), .int .i64 f2, .int .i64 e2], .int .i64 0]) ha_ (by kernel_rfl) ⟨_, _, _, rfl, rfl, (load_whole (cs := [.bool big, .int .i64 (gen + 1), .int .i64 f2, .int .i64 e2]) (by kernel_rfl) (obj_range hc64)), ⟨_, _, rfl, rfl, rfl⟩⟩ ?_)
      exact ⟨((((((((Chg.refl (fun k_ => False) w).step hb4 (fun k_ hk_ (h_ : False) => h_.elim)).step hb9 (fun k_ hk_ (h_ : False) => h_.elim)).step hchg15 (fun k_ hk_ (h_ : False) => h_.elim)).step hb33 (fun k_ hk_ (h_ : False) => h_.elim)).step hb38 (fun k_ hk_ (h_ : k_ = w16.heap.size) => (show False by omega))).step hchg43 (fun k_ hk_ (h_ : False) => h_.elim)).step hb62 (fun k_ hk_ (h_ : k_ = w2.heap.size) => (show False by omega))), .inr (.inr ⟨hR1_, hR2_, rfl⟩)⟩
theorem get_known {w : World} {b : List UInt8} {x : Hd} {k : Nat} {F : FuncId} {args : Array Value} (h : Calls Tryd.prog F args w (GetR w b)) (hg : got b = (x, k)) : Calls Tryd.prog F args w (Ret fun v w' => v = .tuple #[x.val, .int .i64 (k : Int)] ∧ Chg (fun _ => False) w w') := by
  unfold GetR at h
  rw [hg] at h
  exact h
theorem sector_get (big : Bool) (gen first last : Int) (j : Nat) (hj : j < 124) : (sector big gen first last).getD j 0 = (fill (body1 big gen first last) 124).getD j 0 := by
  unfold sector sealed
  rw [List.getD_eq_getElem?_getD, List.getD_eq_getElem?_getD, List.getElem?_append_left (by rw [fill124]; exact hj)]
theorem hr1 : RightP 1 0 128 := by decide
theorem awake18_e {w : World} (hT : TabW w) : Calls Tryd.prog 15 (([] : List Value).toArray) w (Ret fun v w' => v = .bool true ∧ Chg (fun _ => False) w w') := by
  refine enter (n := 43) (L := []) (args := []) Tryd.func15 rfl rfl (Nat.le_of_ble_eq_true rfl) (by intro t v h; exact look_args h) ?_
  refine t_body (fun Q0 hB0 hQ0 => ?_)
  have hgt := TabW.lt hT
  refine t_seq (fun K1 hK1 => ?_)
  refine t_region ?_
  refine tl_val (w' := w) rfl (do_assign rfl) (by decide) ?_
  refine tl_end ?_
  refine fun a_ ha_ => hK1 _ _ _ (T.sub (L' := [(0, .bool false)]) ?_ (sub_cons rfl sub_nil)) a_ ha_
  refine t_seq (fun K2 hK2 => ?_)
  refine t_region ?_
  refine tl_val (w' := w) rfl (do_build (vs := [.int .i64 1, .int .i64 128]) (v := .agg #[.bool false, .int .i64 1, .int .i64 0, .int .i64 128]) rfl (by kernel_rfl)) (by decide) ?_
  refine tl_call rfl (en_call (f := 11) (by kernel_rfl) rfl) rfl (hput_e false 1 0 128 _ hT (by omega) (by omega) (by omega)) (fun v6 w4 hr5 => ?_) (fun _ _ h => h.elim) (fun _ h => h)
  obtain ⟨hchg3, hp3⟩ := hr5
  have hz7 := hchg3.size
  rcases hp3.resolve_right (fun h_ => h_.1 hr1) with ⟨hright3, A3, c3, rfl, hrd3, ho3⟩
  · have hsl3 := sector_length false 1 0 128
    refine tl_val (w' := w4) rfl (do_move rfl) (by decide) ?_
    refine tl_val (w' := w4) rfl (do_extract (v := .slice A3 ((sector false 1 0 128).length) c3) rfl rfl) (by decide) ?_
    refine tl_val (w' := w4) rfl (do_extract (v := .int .i64 0) rfl rfl) (by decide) ?_
    refine tl_val (w' := w4) rfl (do_assign rfl) (by decide) ?_
    refine tl_val (w' := w4) rfl (do_assign rfl) (by decide) ?_
    refine tl_end ?_
    refine fun a_ ha_ => hK2 _ _ _ (T.sub (L' := [(0, .bool false), (1, .slice A3 ((sector false 1 0 128).length) c3), (2, .int .i64 0)]) ?_ (sub_cons rfl (sub_cons rfl (sub_cons rfl sub_nil)))) a_ ha_
    refine t_seq (fun K8 hK8 => ?_)
    refine t_region ?_
    refine tl_val (w' := w4) rfl (do_move rfl) (by decide) ?_
    have h10 := (TabW.chg hT hchg3 (fun x => x))
    refine tl_call rfl (en_call (f := 16) (by kernel_rfl) rfl) rfl (get_known (get_e h10 hrd3) (got_yes (x := (false, 1, 0, 128)) hr1 rfl)) (fun v13 w11 hr12 => ?_) (fun _ _ h => h.elim) (fun _ h => h)
    obtain ⟨rfl, hchg9⟩ := hr12
    have hz14 := hchg9.size
    refine tl_val (w' := w11) rfl (do_move rfl) (by decide) ?_
    refine tl_val (w' := w11) rfl (do_extract (v := .agg #[.bool false, .int .i64 1, .int .i64 0, .int .i64 128]) rfl rfl) (by decide) ?_
    refine tl_val (w' := w11) rfl (do_extract (v := .int .i64 0) rfl rfl) (by decide) ?_
    refine tl_val rfl (do_alloc (v := .pointer (some ⟨w11.heap.size, 0, none⟩)) (w' := w11.alloc (.cells #[.bool false, .int .i64 0, .int .i64 0, .int .i64 0] 23)) (by kernel_rfl)) (by decide) ?_
    refine tl_gen (fun w15 e16 => ?_)
    have hb17 : Chg (fun _ => False) w11 w15 := e16 ▸ Chg.alloc _ _
    have hz18 : w15.heap.size = w11.heap.size + 1 := by rw [e16]; exact size_alloc _ _
    have hc19 : w15.heap[w11.heap.size]? = some (.cells #[.bool false, .int .i64 0, .int .i64 0, .int .i64 0] 23 (0, 0)) := by rw [e16]; exact obj_new _ _
    clear e16
    refine tl_unit rfl (do_storesB (cs := [.bool false, .int .i64 1, .int .i64 0, .int .i64 128]) rfl rfl (by rfl) (by kernel_rfl) hc19 (Nat.le_of_ble_eq_true rfl)) ?_
    refine tl_gen (fun w20 e21 => ?_)
    have hb22 : Chg (fun k => k = w11.heap.size) w15 w20 := e21 ▸ Chg.setCells _ _ 0 [.bool false, .int .i64 1, .int .i64 0, .int .i64 128]
    have hz23 : w20.heap.size = w15.heap.size := by rw [e21]; exact sc_size _ _ _ _
    have hc24 : w20.heap[w11.heap.size]? = some (.cells #[.bool false, .int .i64 1, .int .i64 0, .int .i64 128] 23 (0, 0)) := by rw [e21]; exact obj_setCells [.bool false, .int .i64 1, .int .i64 0, .int .i64 128] 0 hc19
    clear e21
    refine tl_val (w' := w20) rfl (do_assign rfl) (by decide) ?_
    refine tl_end ?_
    refine fun a_ ha_ => hK8 _ _ _ (T.sub (L' := [(0, .bool false), (1, .slice A3 ((sector false 1 0 128).length) c3), (2, .int .i64 0), (3, .pointer (some ⟨w11.heap.size, 0, none⟩)), (4, .int .i64 0)]) ?_ (sub_cons rfl (sub_cons rfl (sub_cons rfl (sub_cons rfl (sub_cons rfl sub_nil)))))) a_ ha_
    refine t_seq (fun K25 hK25 => ?_)
    refine t_region ?_
    refine tl_val (w' := w20) rfl (do_move rfl) (by decide) ?_
    refine tl_val (w' := w20) rfl (do_eql rfl rfl) (by decide) ?_
    have hk26 : (decide ((0 : Int) = 0)) = true := by decide
    refine tl_val (w' := w20) rfl (do_move rfl) (by decide) ?_
    refine tl_val (w' := w20) ⟨17, _, rfl, rfl, (by rw [hk26]; rfl)⟩ (do_move rfl) (by decide) ?_
    refine tl_val (w' := w20) ⟨17, _, rfl, rfl, (by rw [hk26]; rfl)⟩ (do_builtin (v := .int .i64 ((sector false 1 0 128).length : Int)) rfl (fun _ _ => by kernel_rfl)) (by decide) ?_
    refine tl_val (w' := w20) ⟨17, _, rfl, rfl, (by rw [hk26]; rfl)⟩ (do_eql rfl rfl) (by decide) ?_
    refine tl_val (w' := w20) rfl (do_pick_t rfl hk26 rfl) (by decide) ?_
    refine tl_val (w' := w20) rfl (do_move rfl) (by decide) ?_
    have hk27 : (decide (((sector false 1 0 128).length : Int) = 128)) = true := (decide_eq_true (show ((sector false 1 0 128).length : Int) = 128 from (by rw [sector_length]; rfl)))
    refine tl_val (w' := w20) ⟨22, _, rfl, rfl, (by rw [hk27]; rfl)⟩ (do_move rfl) (by decide) ?_
    have h28 := (Rd.chgNe (Rd.chg hrd3 (Rd.chg hrd3 hrd3 hchg9 (fun _ _ x => x)) hb17 (fun _ _ x => x)) hb22 (fun a_ h1_ h2_ => Rd.ne (cs := [.bool false, .int .i64 0, .int .i64 0, .int .i64 0]) (Rd.chg hrd3 (Rd.chg hrd3 hrd3 hchg9 (fun _ _ x => x)) hb17 (fun _ _ x => x)) hc19 (by rfl) a_ h1_ h2_))
    refine tl_val (w' := w20) ⟨22, _, rfl, rfl, (by rw [hk27]; rfl)⟩ (do_indexAddr rfl rfl (idx_rd' (j := 0) h28 (by kernel_rfl) rfl (by omega) _)) (by decide) ?_
    refine tl_val (w' := w20) ⟨22, _, rfl, rfl, (by rw [hk27]; rfl)⟩ (do_load_rd rfl (by kernel_rfl) h28 (by omega)) (by decide) ?_
    refine tl_val (w' := w20) ⟨22, _, rfl, rfl, (by rw [hk27]; rfl)⟩ (do_eql rfl rfl) (by decide) ?_
    refine tl_val (w' := w20) rfl (do_pick_t rfl hk27 rfl) (by decide) ?_
    refine tl_val (w' := w20) rfl (do_move rfl) (by decide) ?_
    have hk29 : (decide ((((sector false 1 0 128).getD 0 0).toNat : Int) = 73)) = true := (decide_eq_true (show (((sector false 1 0 128).getD 0 0).toNat : Int) = 73 from (by rw [sector_get _ _ _ _ _ (by decide)]; decide)))
    refine tl_val (w' := w20) ⟨28, _, rfl, rfl, (by rw [hk29]; rfl)⟩ (do_move rfl) (by decide) ?_
    refine tl_val (w' := w20) ⟨28, _, rfl, rfl, (by rw [hk29]; rfl)⟩ (do_indexAddr rfl rfl (idx_rd' (j := 68) h28 (by kernel_rfl) rfl (by omega) _)) (by decide) ?_
    refine tl_val (w' := w20) ⟨28, _, rfl, rfl, (by rw [hk29]; rfl)⟩ (do_load_rd rfl (by kernel_rfl) h28 (by omega)) (by decide) ?_
    refine tl_val (w' := w20) ⟨28, _, rfl, rfl, (by rw [hk29]; rfl)⟩ (do_eql rfl rfl) (by decide) ?_
    refine tl_val (w' := w20) rfl (do_pick_t rfl hk29 rfl) (by decide) ?_
    refine tl_val (w' := w20) rfl (do_move rfl) (by decide) ?_
    have hk30 : (decide ((((sector false 1 0 128).getD 68 0).toNat : Int) = 1)) = true := (decide_eq_true (show (((sector false 1 0 128).getD 68 0).toNat : Int) = 1 from (by rw [sector_get _ _ _ _ _ (by decide)]; decide)))
    refine tl_val (w' := w20) ⟨34, _, rfl, rfl, (by rw [hk30]; rfl)⟩ (do_move rfl) (by decide) ?_
    refine tl_val (w' := w20) ⟨34, _, rfl, rfl, (by rw [hk30]; rfl)⟩ (do_eql rfl rfl) (by decide) ?_
    have hk31 : (decide ((0 : Int) = 0)) = true := by decide
    refine tl_val (w' := w20) rfl (do_pick_t rfl hk30 rfl) (by decide) ?_
    refine tl_val (w' := w20) rfl (do_move rfl) (by decide) ?_
    refine tl_val (w' := w20) ⟨38, _, rfl, rfl, (by rw [hk31]; rfl)⟩ (do_loads (cs := [.bool false, .int .i64 1, .int .i64 0, .int .i64 128]) rfl (by kernel_rfl) (obj_range hc24)) (by decide) ?_
    refine tl_val (w' := w20) ⟨38, _, rfl, rfl, (by rw [hk31]; rfl)⟩ (do_build (vs := [.int .i64 1, .int .i64 128]) (v := .agg #[.bool false, .int .i64 1, .int .i64 0, .int .i64 128]) rfl (by kernel_rfl)) (by decide) ?_
    refine tl_val (w' := w20) ⟨38, _, rfl, rfl, (by rw [hk31]; rfl)⟩ (do_eqst (p := false = false ∧ (1 : Int) = 1 ∧ (0 : Int) = 0 ∧ (128 : Int) = 128) (xs := [.b false, .i .i64 1, .i .i64 0, .i .i64 128]) (ys := [.b false, .i .i64 1, .i .i64 0, .i .i64 128]) rfl rfl (by kernel_rfl) rfl (by simp [all2, Sc.same])) (by decide) ?_
    refine tl_val (w' := w20) rfl (do_pick_t rfl hk31 rfl) (by decide) ?_
    refine tl_val (w' := w20) rfl (do_assign rfl) (by decide) ?_
    refine tl_end ?_
    refine fun a_ ha_ => hK25 _ _ _ (T.sub (L' := [(0, .bool (decide (false = false ∧ (1 : Int) = 1 ∧ (0 : Int) = 0 ∧ (128 : Int) = 128))), (1, .slice A3 ((sector false 1 0 128).length) c3), (2, .int .i64 0), (3, .pointer (some ⟨w11.heap.size, 0, none⟩)), (4, .int .i64 0)]) ?_ (sub_cons rfl (sub_cons rfl (sub_cons rfl (sub_cons rfl (sub_cons rfl sub_nil)))))) a_ ha_
    refine t_ret ?_
    refine fun a_ ha_ => hQ0 _ _ _ (body_ret (rs := [.tmp 0]) (vs := [.bool (decide (false = false ∧ (1 : Int) = 1 ∧ (0 : Int) = 0 ∧ (128 : Int) = 128))]) ha_ (by kernel_rfl) ⟨_, _, rfl, rfl, rfl⟩ ?_)
    exact ⟨(congrArg Value.bool (decide_eq_true (by decide))), (((((Chg.refl (fun k_ => False) w).step hchg3 (fun k_ hk_ (h_ : False) => h_.elim)).step hchg9 (fun k_ hk_ (h_ : False) => h_.elim)).step hb17 (fun k_ hk_ (h_ : False) => h_.elim)).step hb22 (fun k_ hk_ (h_ : k_ = w11.heap.size) => (show False by omega)))⟩
end Go.Proofs.YtfmpbbeacpdalaaDoor
