/-
  The walks of HeadFiles, HeadNewer.
-/
import Derived.Test.YtfmpbbeacpdalaaDoorHNext
import Derived.OpenShut
set_option linter.unusedVariables false
set_option linter.unusedSimpArgs false
set_option maxRecDepth 100000
namespace Go.Proofs.YtfmpbbeacpdalaaDoor
open Go.RowKit

theorem sec_hdr_all {big : Bool} {gen first last : Int} (h : RightP gen first last) : HdrOf (sector big gen first last) big first := by
  obtain ⟨h1, h2, h3, rest, he⟩ := sec_hdr (big := big) h
  refine ⟨h1, h2, h3, rest ++ (sector big gen first last).drop 64, ?_⟩
  rw [List.take_take] at he
  rw [← List.append_assoc, ← he]
  exact (List.take_append_drop 64 _).symm
theorem head_o {big : Bool} {gen first last e f : Int} {bg : Bool} (h : RightP gen first last) (ho : HeadO (sector big gen first last) e bg f) : 0 = e ∧ big = bg ∧ first = f := by
  rcases ho with ⟨_, _, _, hn⟩ | ⟨h0, _, hn⟩
  · exact absurd (sec_hdr_all h) (hn _ _)
  · obtain ⟨h1, h2⟩ := hn _ _ (sec_hdr_all h)
    exact ⟨h0.symm, h1.symm, h2.symm⟩
theorem newer_ne {big : Bool} {gen first last f2 e2 : Int} (h1 : RightP gen first last) (h2 : RightP (gen + 1) f2 e2) : sector big gen first last ≠ sector big (gen + 1) f2 e2 := fun h => by
  have := two_sec (x := (big, gen, first, last)) (y := (big, gen + 1, f2, e2)) h1 h2 h
  simp only [Prod.mk.injEq] at this
  omega
set_option maxHeartbeats 1600000 in
theorem headFiles_walk (big : Bool) (gen first last : Int) (w : World) (hT : TabW w) (hg : -9223372036854775808 ≤ gen ∧ gen ≤ 9223372036854775807) (hf : -9223372036854775808 ≤ first ∧ first ≤ 9223372036854775807) (hl : -9223372036854775808 ≤ last ∧ last ≤ 9223372036854775807) :
    Calls Tryd.prog 8 #[.agg #[.bool big, .int .i64 gen, .int .i64 first, .int .i64 last]] w (RetTrue w) := by
  suffices h : Calls Tryd.prog 8 [.agg #[.bool big, .int .i64 gen, .int .i64 first, .int .i64 last]].toArray w (Ret fun v w' => v = .bool true ∧ Chg (fun _ => False) w w') from h.mono fun e w' h => ret_true h
  refine enter (n := 39) (L := [(0, .agg #[.bool big, .int .i64 gen, .int .i64 first, .int .i64 last])]) (args := [.agg #[.bool big, .int .i64 gen, .int .i64 first, .int .i64 last]]) Tryd.func8 rfl rfl (Nat.le_of_ble_eq_true rfl) (by intro t v h; exact look_args h) ?_
  refine t_body (fun Q0 hB0 hQ0 => ?_)
  have hgt := TabW.lt hT
  refine t_seq (fun K1 hK1 => ?_)
  refine t_region ?_
  refine tl_val rfl (do_box (v := .pointer (some ⟨w.heap.size, 0, none⟩)) (w' := w.alloc (.cells #[.bool big, .int .i64 gen, .int .i64 first, .int .i64 last] 23)) rfl (by kernel_rfl)) (by decide) ?_
  refine tl_gen (fun w2 e3 => ?_)
  have hb4 : Chg (fun _ => False) w w2 := e3 ▸ Chg.alloc _ _
  have hz5 : w2.heap.size = w.heap.size + 1 := by rw [e3]; exact size_alloc _ _
  have hc6 : w2.heap[w.heap.size]? = some (.cells #[.bool big, .int .i64 gen, .int .i64 first, .int .i64 last] 23 (0, 0)) := by rw [e3]; exact obj_new _ _
  clear e3
  refine tl_val (w' := w2) rfl (do_assign rfl) (by decide) ?_
  refine tl_end ?_
  refine fun a_ ha_ => hK1 _ _ _ (T.sub (L' := [(0, .agg #[.bool big, .int .i64 gen, .int .i64 first, .int .i64 last]), (1, .pointer (some ⟨w.heap.size, 0, none⟩)), (2, .bool false)]) ?_ (sub_cons rfl (sub_cons rfl (sub_cons rfl sub_nil)))) a_ ha_
  refine t_seq (fun K7 hK7 => ?_)
  refine t_region ?_
  refine tl_val (w' := w2) rfl (do_loads (cs := [.bool big, .int .i64 gen, .int .i64 first, .int .i64 last]) rfl (by kernel_rfl) (obj_range hc6)) (by decide) ?_
  have h9 := (TabW.chg hT hb4 (fun x => x))
  refine tl_call rfl (en_call (f := 11) (by kernel_rfl) rfl) rfl (hput_e big gen first last _ h9 (by omega) (by omega) (by omega)) (fun v12 w10 hr11 => ?_) (fun _ _ h => h.elim) (fun _ h => h)
  obtain ⟨hchg8, hp8⟩ := hr11
  have hz13 := hchg8.size
  rcases hp8 with ⟨hright8, A8, c8, rfl, hrd8, ho8⟩ | ⟨hright8, rfl⟩
  · have hsl8 := sector_length big gen first last
    refine tl_val (w' := w10) rfl (do_move rfl) (by decide) ?_
    refine tl_val (w' := w10) rfl (do_extract (v := .slice A8 ((sector big gen first last).length) c8) rfl rfl) (by decide) ?_
    refine tl_val (w' := w10) rfl (do_extract (v := .int .i64 0) rfl rfl) (by decide) ?_
    refine tl_val (w' := w10) rfl (do_assign rfl) (by decide) ?_
    refine tl_val (w' := w10) rfl (do_assign rfl) (by decide) ?_
    refine tl_end ?_
    refine fun a_ ha_ => hK7 _ _ _ (T.sub (L' := [(0, .agg #[.bool big, .int .i64 gen, .int .i64 first, .int .i64 last]), (1, .pointer (some ⟨w.heap.size, 0, none⟩)), (2, .bool false), (3, .slice A8 ((sector big gen first last).length) c8), (4, .int .i64 0)]) ?_ (sub_cons rfl (sub_cons rfl (sub_cons rfl (sub_cons rfl (sub_cons rfl sub_nil)))))) a_ ha_
    refine t_seq (fun K14 hK14 => ?_)
    refine t_seq (fun K15 hK15 => ?_)
    refine t_region ?_
    refine tl_val (w' := w10) rfl (do_move rfl) (by decide) ?_
    refine tl_val (w' := w10) rfl (do_neq rfl rfl) (by decide) ?_
    have hk16 : (decide ((0 : Int) ≠ 0)) = false := by decide
    refine tl_end ?_
    refine fun a_ ha_ => hK15 _ _ _ (T.sub (L' := [(0, .agg #[.bool big, .int .i64 gen, .int .i64 first, .int .i64 last]), (1, .pointer (some ⟨w.heap.size, 0, none⟩)), (2, .bool false), (3, .slice A8 ((sector big gen first last).length) c8), (4, .int .i64 0), (14, .bool (decide ((0 : Int) ≠ 0)))]) ?_ (sub_cons rfl (sub_cons rfl (sub_cons rfl (sub_cons rfl (sub_cons rfl (sub_cons rfl sub_nil))))))) a_ ha_
    refine t_no rfl hk16 ?_
    refine t_skip ?_
    refine fun a_ ha_ => hK14 _ _ _ (T.sub (L' := [(0, .agg #[.bool big, .int .i64 gen, .int .i64 first, .int .i64 last]), (1, .pointer (some ⟨w.heap.size, 0, none⟩)), (2, .bool false), (3, .slice A8 ((sector big gen first last).length) c8), (4, .int .i64 0), (14, .bool (decide ((0 : Int) ≠ 0)))]) ?_ (sub_cons rfl (sub_cons rfl (sub_cons rfl (sub_cons rfl (sub_cons rfl (sub_cons rfl sub_nil))))))) a_ ha_
    refine t_seq (fun K17 hK17 => ?_)
    refine t_region ?_
    refine tl_val (w' := w10) rfl (do_move rfl) (by decide) ?_
    refine tl_call rfl (en_call (f := 19) (by kernel_rfl) rfl) rfl (ropen_e hrd8 (by omega)) (fun v21 w19 hr20 => ?_) (fun _ _ h => h.elim) (fun _ h => h)
    obtain ⟨e_, bg, f, rfl, hop_, hchg18⟩ := hr20
    have hz22 := hchg18.size
    obtain ⟨rfl, rfl, rfl⟩ := head_o hright8 hop_
    refine tl_val (w' := w19) rfl (do_move rfl) (by decide) ?_
    refine tl_val (w' := w19) rfl (do_extract (v := .bool big) rfl rfl) (by decide) ?_
    refine tl_val (w' := w19) rfl (do_extract (v := .int .i64 first) rfl rfl) (by decide) ?_
    refine tl_val (w' := w19) rfl (do_extract (v := .int .i64 0) rfl rfl) (by decide) ?_
    refine tl_val (w' := w19) rfl (do_assign rfl) (by decide) ?_
    refine tl_val (w' := w19) rfl (do_assign rfl) (by decide) ?_
    refine tl_val (w' := w19) rfl (do_assign rfl) (by decide) ?_
    refine tl_end ?_
    refine fun a_ ha_ => hK17 _ _ _ (T.sub (L' := [(0, .agg #[.bool big, .int .i64 gen, .int .i64 first, .int .i64 last]), (1, .pointer (some ⟨w.heap.size, 0, none⟩)), (2, .bool false), (3, .slice A8 ((sector big gen first last).length) c8), (4, .int .i64 0), (5, .bool big), (6, .int .i64 first), (7, .int .i64 0), (14, .bool (decide ((0 : Int) ≠ 0)))]) ?_ (sub_cons rfl (sub_cons rfl (sub_cons rfl (sub_cons rfl (sub_cons rfl (sub_cons rfl (sub_cons rfl (sub_cons rfl (sub_cons rfl sub_nil)))))))))) a_ ha_
    refine t_seq (fun K23 hK23 => ?_)
    refine t_region ?_
    refine tl_val (w' := w19) rfl (do_move rfl) (by decide) ?_
    refine tl_val (w' := w19) rfl (do_fieldAddr (v := .pointer (some ⟨w.heap.size, 0, none⟩)) rfl (by kernel_rfl)) (by decide) ?_
    have h24 := (hchg18.obj (fun x => x) (hchg8.obj (fun x => x) hc6))
    refine tl_val (w' := w19) rfl (do_load (v := .bool big) rfl (by kernel_rfl) (by rw [obj_cell h24]; rfl)) (by decide) ?_
    refine tl_val (w' := w19) rfl (do_binop (r := .bool (big == big)) rfl rfl (fun _ => rfl) (run_eql_bool _ _ _ _ (by kernel_rfl))) (by decide) ?_
    refine tl_val (w' := w19) rfl (do_move rfl) (by decide) ?_
    have hk25 : (big == big) = true := (beq_self_eq_true _)
    refine tl_val (w' := w19) ⟨26, _, rfl, rfl, (by rw [hk25]; rfl)⟩ (do_move rfl) (by decide) ?_
    refine tl_val (w' := w19) ⟨26, _, rfl, rfl, (by rw [hk25]; rfl)⟩ (do_fieldAddr (v := .pointer (some ⟨w.heap.size, 2, none⟩)) rfl (by kernel_rfl)) (by decide) ?_
    refine tl_val (w' := w19) ⟨26, _, rfl, rfl, (by rw [hk25]; rfl)⟩ (do_load (v := .int .i64 first) rfl (by kernel_rfl) (by rw [obj_cell h24]; rfl)) (by decide) ?_
    refine tl_val (w' := w19) ⟨26, _, rfl, rfl, (by rw [hk25]; rfl)⟩ (do_eql rfl rfl) (by decide) ?_
    refine tl_val (w' := w19) rfl (do_pick_t rfl hk25 rfl) (by decide) ?_
    refine tl_val (w' := w19) rfl (do_move rfl) (by decide) ?_
    have hk26 : (decide (first = first)) = true := (decide_eq_true (show first = first from rfl))
    refine tl_val (w' := w19) ⟨32, _, rfl, rfl, (by rw [hk26]; rfl)⟩ (do_move rfl) (by decide) ?_
    refine tl_val (w' := w19) ⟨32, _, rfl, rfl, (by rw [hk26]; rfl)⟩ (do_eql rfl rfl) (by decide) ?_
    have hk27 : (decide ((0 : Int) = 0)) = true := by decide
    refine tl_val (w' := w19) rfl (do_pick_t rfl hk26 rfl) (by decide) ?_
    refine tl_val (w' := w19) rfl (do_move rfl) (by decide) ?_
    have h29 := (TabW.chg (TabW.chg h9 hchg8 (fun x => x)) hchg18 (fun x => x))
    refine tl_call ⟨36, _, rfl, rfl, (by rw [hk27]; rfl)⟩ (en_call (f := 15) (by kernel_rfl) rfl) rfl (awake18_e h29) (fun v32 w30 hr31 => ?_) (fun _ _ h => h.elim) (fun _ h => h)
    obtain ⟨rfl, hchg28⟩ := hr31
    have hz33 := hchg28.size
    refine tl_val (w' := w30) rfl (do_pick_t rfl hk27 rfl) (by decide) ?_
    refine tl_val (w' := w30) rfl (do_assign rfl) (by decide) ?_
    refine tl_end ?_
    refine fun a_ ha_ => hK23 _ _ _ (T.sub (L' := [(0, .agg #[.bool big, .int .i64 gen, .int .i64 first, .int .i64 last]), (1, .pointer (some ⟨w.heap.size, 0, none⟩)), (2, .bool true), (3, .slice A8 ((sector big gen first last).length) c8), (4, .int .i64 0), (5, .bool big), (6, .int .i64 first), (7, .int .i64 0), (14, .bool (decide ((0 : Int) ≠ 0)))]) ?_ (sub_cons rfl (sub_cons rfl (sub_cons rfl (sub_cons rfl (sub_cons rfl (sub_cons rfl (sub_cons rfl (sub_cons rfl (sub_cons rfl sub_nil)))))))))) a_ ha_
    refine t_ret ?_
    refine fun a_ ha_ => hQ0 _ _ _ (body_ret (rs := [.tmp 2]) (vs := [.bool true]) ha_ (by kernel_rfl) ⟨_, _, rfl, rfl, rfl⟩ ?_)
    exact ⟨rfl, (((((Chg.refl (fun k_ => False) w).step hb4 (fun k_ hk_ (h_ : False) => h_.elim)).step hchg8 (fun k_ hk_ (h_ : False) => h_.elim)).step hchg18 (fun k_ hk_ (h_ : False) => h_.elim)).step hchg28 (fun k_ hk_ (h_ : False) => h_.elim))⟩
  · refine tl_val (w' := w10) rfl (do_move rfl) (by decide) ?_
    refine tl_val (w' := w10) rfl (do_extract (v := .slice none 0 0) rfl rfl) (by decide) ?_
    refine tl_val (w' := w10) rfl (do_extract (v := .int .i64 1) rfl rfl) (by decide) ?_
    refine tl_val (w' := w10) rfl (do_assign rfl) (by decide) ?_
    refine tl_val (w' := w10) rfl (do_assign rfl) (by decide) ?_
    refine tl_end ?_
    refine fun a_ ha_ => hK7 _ _ _ (T.sub (L' := [(0, .agg #[.bool big, .int .i64 gen, .int .i64 first, .int .i64 last]), (1, .pointer (some ⟨w.heap.size, 0, none⟩)), (2, .bool false), (3, .slice none 0 0), (4, .int .i64 1)]) ?_ (sub_cons rfl (sub_cons rfl (sub_cons rfl (sub_cons rfl (sub_cons rfl sub_nil)))))) a_ ha_
    refine t_seq (fun K34 hK34 => ?_)
    refine t_seq (fun K35 hK35 => ?_)
    refine t_region ?_
    refine tl_val (w' := w10) rfl (do_move rfl) (by decide) ?_
    refine tl_val (w' := w10) rfl (do_neq rfl rfl) (by decide) ?_
    have hk36 : (decide ((1 : Int) ≠ 0)) = true := by decide
    refine tl_end ?_
    refine fun a_ ha_ => hK35 _ _ _ (T.sub (L' := [(0, .agg #[.bool big, .int .i64 gen, .int .i64 first, .int .i64 last]), (1, .pointer (some ⟨w.heap.size, 0, none⟩)), (2, .bool false), (3, .slice none 0 0), (4, .int .i64 1), (14, .bool (decide ((1 : Int) ≠ 0)))]) ?_ (sub_cons rfl (sub_cons rfl (sub_cons rfl (sub_cons rfl (sub_cons rfl (sub_cons rfl sub_nil))))))) a_ ha_
    refine t_yes rfl hk36 ?_
    refine t_seq (fun K37 hK37 => ?_)
    refine t_region ?_
    have h39 := (TabW.chg h9 hchg8 (fun x => x))
    refine tl_call rfl (en_call (f := 15) (by kernel_rfl) rfl) rfl (awake18_e h39) (fun v42 w40 hr41 => ?_) (fun _ _ h => h.elim) (fun _ h => h)
    obtain ⟨rfl, hchg38⟩ := hr41
    have hz43 := hchg38.size
    refine tl_val (w' := w40) rfl (do_assign rfl) (by decide) ?_
    refine tl_end ?_
    refine fun a_ ha_ => hK37 _ _ _ (T.sub (L' := [(0, .agg #[.bool big, .int .i64 gen, .int .i64 first, .int .i64 last]), (1, .pointer (some ⟨w.heap.size, 0, none⟩)), (2, .bool true), (3, .slice none 0 0), (4, .int .i64 1), (14, .bool (decide ((1 : Int) ≠ 0)))]) ?_ (sub_cons rfl (sub_cons rfl (sub_cons rfl (sub_cons rfl (sub_cons rfl (sub_cons rfl sub_nil))))))) a_ ha_
    refine t_ret ?_
    refine fun a_ ha_ => hQ0 _ _ _ (body_ret (rs := [.tmp 2]) (vs := [.bool true]) ha_ (by kernel_rfl) ⟨_, _, rfl, rfl, rfl⟩ ?_)
    exact ⟨rfl, ((((Chg.refl (fun k_ => False) w).step hb4 (fun k_ hk_ (h_ : False) => h_.elim)).step hchg8 (fun k_ hk_ (h_ : False) => h_.elim)).step hchg38 (fun k_ hk_ (h_ : False) => h_.elim))⟩
set_option maxHeartbeats 1600000 in
theorem headNewer_walk (big : Bool) (gen first last : Int) (f2 e2 : Int) (w : World) (hT : TabW w) (hg : -9223372036854775808 ≤ gen ∧ gen ≤ 9223372036854775807) (hf : -9223372036854775808 ≤ first ∧ first ≤ 9223372036854775807) (hl : -9223372036854775808 ≤ last ∧ last ≤ 9223372036854775807) (hf2 : (Lit.int .i64 f2).wf = true) (he2 : (Lit.int .i64 e2).wf = true) :
    Calls Tryd.prog 10 #[.agg #[.bool big, .int .i64 gen, .int .i64 first, .int .i64 last], .int .i64 f2, .int .i64 e2] w (RetTrue w) := by
  suffices h : Calls Tryd.prog 10 [.agg #[.bool big, .int .i64 gen, .int .i64 first, .int .i64 last], .int .i64 f2, .int .i64 e2].toArray w (Ret fun v w' => v = .bool true ∧ Chg (fun _ => False) w w') from h.mono fun e w' h => ret_true h
  refine enter (n := 69) (L := [(0, .agg #[.bool big, .int .i64 gen, .int .i64 first, .int .i64 last]), (1, .int .i64 f2), (2, .int .i64 e2)]) (args := [.agg #[.bool big, .int .i64 gen, .int .i64 first, .int .i64 last], .int .i64 f2, .int .i64 e2]) Tryd.func10 rfl rfl (Nat.le_of_ble_eq_true rfl) (by intro t v h; exact look_args h) ?_
  refine t_body (fun Q0 hB0 hQ0 => ?_)
  have hgt := TabW.lt hT
  refine t_seq (fun K1 hK1 => ?_)
  refine t_region ?_
  refine tl_val rfl (do_box (v := .pointer (some ⟨w.heap.size, 0, none⟩)) (w' := w.alloc (.cells #[.bool big, .int .i64 gen, .int .i64 first, .int .i64 last] 23)) rfl (by kernel_rfl)) (by decide) ?_
  refine tl_gen (fun w2 e3 => ?_)
  have hb4 : Chg (fun _ => False) w w2 := e3 ▸ Chg.alloc _ _
  have hz5 : w2.heap.size = w.heap.size + 1 := by rw [e3]; exact size_alloc _ _
  have hc6 : w2.heap[w.heap.size]? = some (.cells #[.bool big, .int .i64 gen, .int .i64 first, .int .i64 last] 23 (0, 0)) := by rw [e3]; exact obj_new _ _
  clear e3
  refine tl_val (w' := w2) rfl (do_assign rfl) (by decide) ?_
  refine tl_end ?_
  refine fun a_ ha_ => hK1 _ _ _ (T.sub (L' := [(0, .agg #[.bool big, .int .i64 gen, .int .i64 first, .int .i64 last]), (1, .int .i64 f2), (2, .int .i64 e2), (3, .pointer (some ⟨w.heap.size, 0, none⟩)), (6, .bool false)]) ?_ (sub_cons rfl (sub_cons rfl (sub_cons rfl (sub_cons rfl (sub_cons rfl sub_nil)))))) a_ ha_
  refine t_seq (fun K7 hK7 => ?_)
  refine t_region ?_
  refine tl_val (w' := w2) rfl (do_loads (cs := [.bool big, .int .i64 gen, .int .i64 first, .int .i64 last]) rfl (by kernel_rfl) (obj_range hc6)) (by decide) ?_
  refine tl_val (w' := w2) rfl (do_move rfl) (by decide) ?_
  refine tl_val (w' := w2) rfl (do_move rfl) (by decide) ?_
  refine tl_call rfl (en_call (f := 20) (by kernel_rfl) rfl) rfl (next_e big gen first last f2 e2 _ (by omega)) (fun v11 w9 hr10 => ?_) (fun _ _ h => h.elim) (fun _ h => h)
  obtain ⟨hchg8, hx8⟩ := hr10
  have hz12 := hchg8.size
  rcases hx8 with ⟨hn8, rfl⟩ | ⟨hn8, hm8, rfl⟩ | ⟨hn8, hm8, rfl⟩
  · refine tl_val (w' := w9) rfl (do_move rfl) (by decide) ?_
    refine tl_val (w' := w9) rfl (do_extract (v := .agg #[.bool false, .int .i64 0, .int .i64 0, .int .i64 0]) rfl rfl) (by decide) ?_
    refine tl_val (w' := w9) rfl (do_extract (v := .int .i64 1) rfl rfl) (by decide) ?_
    refine tl_val rfl (do_alloc (v := .pointer (some ⟨w9.heap.size, 0, none⟩)) (w' := w9.alloc (.cells #[.bool false, .int .i64 0, .int .i64 0, .int .i64 0] 23)) (by kernel_rfl)) (by decide) ?_
    refine tl_gen (fun w13 e14 => ?_)
    have hb15 : Chg (fun _ => False) w9 w13 := e14 ▸ Chg.alloc _ _
    have hz16 : w13.heap.size = w9.heap.size + 1 := by rw [e14]; exact size_alloc _ _
    have hc17 : w13.heap[w9.heap.size]? = some (.cells #[.bool false, .int .i64 0, .int .i64 0, .int .i64 0] 23 (0, 0)) := by rw [e14]; exact obj_new _ _
    clear e14
    refine tl_unit rfl (do_storesB (cs := [.bool false, .int .i64 0, .int .i64 0, .int .i64 0]) rfl rfl (by rfl) (by kernel_rfl) hc17 (Nat.le_of_ble_eq_true rfl)) ?_
    refine tl_gen (fun w18 e19 => ?_)
    have hb20 : Chg (fun k => k = w9.heap.size) w13 w18 := e19 ▸ Chg.setCells _ _ 0 [.bool false, .int .i64 0, .int .i64 0, .int .i64 0]
    have hz21 : w18.heap.size = w13.heap.size := by rw [e19]; exact sc_size _ _ _ _
    have hc22 : w18.heap[w9.heap.size]? = some (.cells #[.bool false, .int .i64 0, .int .i64 0, .int .i64 0] 23 (0, 0)) := by rw [e19]; exact obj_setCells [.bool false, .int .i64 0, .int .i64 0, .int .i64 0] 0 hc17
    clear e19
    refine tl_val (w' := w18) rfl (do_assign rfl) (by decide) ?_
    refine tl_end ?_
    refine fun a_ ha_ => hK7 _ _ _ (T.sub (L' := [(0, .agg #[.bool big, .int .i64 gen, .int .i64 first, .int .i64 last]), (1, .int .i64 f2), (2, .int .i64 e2), (3, .pointer (some ⟨w.heap.size, 0, none⟩)), (6, .bool false), (7, .pointer (some ⟨w9.heap.size, 0, none⟩)), (8, .int .i64 1)]) ?_ (sub_cons rfl (sub_cons rfl (sub_cons rfl (sub_cons rfl (sub_cons rfl (sub_cons rfl (sub_cons rfl sub_nil)))))))) a_ ha_
    refine t_seq (fun K23 hK23 => ?_)
    refine t_seq (fun K24 hK24 => ?_)
    refine t_region ?_
    refine tl_val (w' := w18) rfl (do_move rfl) (by decide) ?_
    refine tl_val (w' := w18) rfl (do_neq rfl rfl) (by decide) ?_
    have hk25 : (decide ((1 : Int) ≠ 0)) = true := by decide
    refine tl_end ?_
    refine fun a_ ha_ => hK24 _ _ _ (T.sub (L' := [(0, .agg #[.bool big, .int .i64 gen, .int .i64 first, .int .i64 last]), (1, .int .i64 f2), (2, .int .i64 e2), (3, .pointer (some ⟨w.heap.size, 0, none⟩)), (6, .bool false), (7, .pointer (some ⟨w9.heap.size, 0, none⟩)), (8, .int .i64 1), (21, .bool (decide ((1 : Int) ≠ 0)))]) ?_ (sub_cons rfl (sub_cons rfl (sub_cons rfl (sub_cons rfl (sub_cons rfl (sub_cons rfl (sub_cons rfl (sub_cons rfl sub_nil))))))))) a_ ha_
    refine t_yes rfl hk25 ?_
    refine t_seq (fun K26 hK26 => ?_)
    refine t_region ?_
    refine tl_val (w' := w18) rfl (do_loads (cs := [.bool false, .int .i64 0, .int .i64 0, .int .i64 0]) rfl (by kernel_rfl) (obj_range hc22)) (by decide) ?_
    refine tl_val (w' := w18) rfl (do_build (vs := []) (v := .agg #[.bool false, .int .i64 0, .int .i64 0, .int .i64 0]) rfl (by kernel_rfl)) (by decide) ?_
    refine tl_val (w' := w18) rfl (do_eqst (p := false = false ∧ (0 : Int) = 0 ∧ (0 : Int) = 0 ∧ (0 : Int) = 0) (xs := [.b false, .i .i64 0, .i .i64 0, .i .i64 0]) (ys := [.b false, .i .i64 0, .i .i64 0, .i .i64 0]) rfl rfl (by kernel_rfl) rfl (by simp [all2, Sc.same])) (by decide) ?_
    refine tl_val (w' := w18) rfl (do_move rfl) (by decide) ?_
    have hk27 : (decide (false = false ∧ (0 : Int) = 0 ∧ (0 : Int) = 0 ∧ (0 : Int) = 0)) = true := (decide_eq_true (show false = false ∧ (0 : Int) = 0 ∧ (0 : Int) = 0 ∧ (0 : Int) = 0 from ⟨rfl, rfl, rfl, rfl⟩))
    have h29 := (TabW.chg (TabW.chg (TabW.chg (TabW.chg hT hb4 (fun x => x)) hchg8 (fun x => x)) hb15 (fun x => x)) hb20 (show ¬ 0 = w9.heap.size by omega))
    refine tl_call ⟨25, _, rfl, rfl, (by rw [hk27]; rfl)⟩ (en_call (f := 15) (by kernel_rfl) rfl) rfl (awake18_e h29) (fun v32 w30 hr31 => ?_) (fun _ _ h => h.elim) (fun _ h => h)
    obtain ⟨rfl, hchg28⟩ := hr31
    have hz33 := hchg28.size
    refine tl_val (w' := w30) rfl (do_pick_t rfl hk27 rfl) (by decide) ?_
    refine tl_val (w' := w30) rfl (do_assign rfl) (by decide) ?_
    refine tl_end ?_
    refine fun a_ ha_ => hK26 _ _ _ (T.sub (L' := [(0, .agg #[.bool big, .int .i64 gen, .int .i64 first, .int .i64 last]), (1, .int .i64 f2), (2, .int .i64 e2), (3, .pointer (some ⟨w.heap.size, 0, none⟩)), (6, .bool true), (7, .pointer (some ⟨w9.heap.size, 0, none⟩)), (8, .int .i64 1), (21, .bool (decide ((1 : Int) ≠ 0)))]) ?_ (sub_cons rfl (sub_cons rfl (sub_cons rfl (sub_cons rfl (sub_cons rfl (sub_cons rfl (sub_cons rfl (sub_cons rfl sub_nil))))))))) a_ ha_
    refine t_ret ?_
    refine fun a_ ha_ => hQ0 _ _ _ (body_ret (rs := [.tmp 6]) (vs := [.bool true]) ha_ (by kernel_rfl) ⟨_, _, rfl, rfl, rfl⟩ ?_)
    exact ⟨rfl, ((((((Chg.refl (fun k_ => False) w).step hb4 (fun k_ hk_ (h_ : False) => h_.elim)).step hchg8 (fun k_ hk_ (h_ : False) => h_.elim)).step hb15 (fun k_ hk_ (h_ : False) => h_.elim)).step hb20 (fun k_ hk_ (h_ : k_ = w9.heap.size) => (show False by omega))).step hchg28 (fun k_ hk_ (h_ : False) => h_.elim))⟩
  · refine tl_val (w' := w9) rfl (do_move rfl) (by decide) ?_
    refine tl_val (w' := w9) rfl (do_extract (v := .agg #[.bool false, .int .i64 0, .int .i64 0, .int .i64 0]) rfl rfl) (by decide) ?_
    refine tl_val (w' := w9) rfl (do_extract (v := .int .i64 2) rfl rfl) (by decide) ?_
    refine tl_val rfl (do_alloc (v := .pointer (some ⟨w9.heap.size, 0, none⟩)) (w' := w9.alloc (.cells #[.bool false, .int .i64 0, .int .i64 0, .int .i64 0] 23)) (by kernel_rfl)) (by decide) ?_
    refine tl_gen (fun w34 e35 => ?_)
    have hb36 : Chg (fun _ => False) w9 w34 := e35 ▸ Chg.alloc _ _
    have hz37 : w34.heap.size = w9.heap.size + 1 := by rw [e35]; exact size_alloc _ _
    have hc38 : w34.heap[w9.heap.size]? = some (.cells #[.bool false, .int .i64 0, .int .i64 0, .int .i64 0] 23 (0, 0)) := by rw [e35]; exact obj_new _ _
    clear e35
    refine tl_unit rfl (do_storesB (cs := [.bool false, .int .i64 0, .int .i64 0, .int .i64 0]) rfl rfl (by rfl) (by kernel_rfl) hc38 (Nat.le_of_ble_eq_true rfl)) ?_
    refine tl_gen (fun w39 e40 => ?_)
    have hb41 : Chg (fun k => k = w9.heap.size) w34 w39 := e40 ▸ Chg.setCells _ _ 0 [.bool false, .int .i64 0, .int .i64 0, .int .i64 0]
    have hz42 : w39.heap.size = w34.heap.size := by rw [e40]; exact sc_size _ _ _ _
    have hc43 : w39.heap[w9.heap.size]? = some (.cells #[.bool false, .int .i64 0, .int .i64 0, .int .i64 0] 23 (0, 0)) := by rw [e40]; exact obj_setCells [.bool false, .int .i64 0, .int .i64 0, .int .i64 0] 0 hc38
    clear e40
    refine tl_val (w' := w39) rfl (do_assign rfl) (by decide) ?_
    refine tl_end ?_
    refine fun a_ ha_ => hK7 _ _ _ (T.sub (L' := [(0, .agg #[.bool big, .int .i64 gen, .int .i64 first, .int .i64 last]), (1, .int .i64 f2), (2, .int .i64 e2), (3, .pointer (some ⟨w.heap.size, 0, none⟩)), (6, .bool false), (7, .pointer (some ⟨w9.heap.size, 0, none⟩)), (8, .int .i64 2)]) ?_ (sub_cons rfl (sub_cons rfl (sub_cons rfl (sub_cons rfl (sub_cons rfl (sub_cons rfl (sub_cons rfl sub_nil)))))))) a_ ha_
    refine t_seq (fun K44 hK44 => ?_)
    refine t_seq (fun K45 hK45 => ?_)
    refine t_region ?_
    refine tl_val (w' := w39) rfl (do_move rfl) (by decide) ?_
    refine tl_val (w' := w39) rfl (do_neq rfl rfl) (by decide) ?_
    have hk46 : (decide ((2 : Int) ≠ 0)) = true := by decide
    refine tl_end ?_
    refine fun a_ ha_ => hK45 _ _ _ (T.sub (L' := [(0, .agg #[.bool big, .int .i64 gen, .int .i64 first, .int .i64 last]), (1, .int .i64 f2), (2, .int .i64 e2), (3, .pointer (some ⟨w.heap.size, 0, none⟩)), (6, .bool false), (7, .pointer (some ⟨w9.heap.size, 0, none⟩)), (8, .int .i64 2), (21, .bool (decide ((2 : Int) ≠ 0)))]) ?_ (sub_cons rfl (sub_cons rfl (sub_cons rfl (sub_cons rfl (sub_cons rfl (sub_cons rfl (sub_cons rfl (sub_cons rfl sub_nil))))))))) a_ ha_
    refine t_yes rfl hk46 ?_
    refine t_seq (fun K47 hK47 => ?_)
    refine t_region ?_
    refine tl_val (w' := w39) rfl (do_loads (cs := [.bool false, .int .i64 0, .int .i64 0, .int .i64 0]) rfl (by kernel_rfl) (obj_range hc43)) (by decide) ?_
    refine tl_val (w' := w39) rfl (do_build (vs := []) (v := .agg #[.bool false, .int .i64 0, .int .i64 0, .int .i64 0]) rfl (by kernel_rfl)) (by decide) ?_
    refine tl_val (w' := w39) rfl (do_eqst (p := false = false ∧ (0 : Int) = 0 ∧ (0 : Int) = 0 ∧ (0 : Int) = 0) (xs := [.b false, .i .i64 0, .i .i64 0, .i .i64 0]) (ys := [.b false, .i .i64 0, .i .i64 0, .i .i64 0]) rfl rfl (by kernel_rfl) rfl (by simp [all2, Sc.same])) (by decide) ?_
    refine tl_val (w' := w39) rfl (do_move rfl) (by decide) ?_
    have hk48 : (decide (false = false ∧ (0 : Int) = 0 ∧ (0 : Int) = 0 ∧ (0 : Int) = 0)) = true := (decide_eq_true (show false = false ∧ (0 : Int) = 0 ∧ (0 : Int) = 0 ∧ (0 : Int) = 0 from ⟨rfl, rfl, rfl, rfl⟩))
    have h50 := (TabW.chg (TabW.chg (TabW.chg (TabW.chg hT hb4 (fun x => x)) hchg8 (fun x => x)) hb36 (fun x => x)) hb41 (show ¬ 0 = w9.heap.size by omega))
    refine tl_call ⟨25, _, rfl, rfl, (by rw [hk48]; rfl)⟩ (en_call (f := 15) (by kernel_rfl) rfl) rfl (awake18_e h50) (fun v53 w51 hr52 => ?_) (fun _ _ h => h.elim) (fun _ h => h)
    obtain ⟨rfl, hchg49⟩ := hr52
    have hz54 := hchg49.size
    refine tl_val (w' := w51) rfl (do_pick_t rfl hk48 rfl) (by decide) ?_
    refine tl_val (w' := w51) rfl (do_assign rfl) (by decide) ?_
    refine tl_end ?_
    refine fun a_ ha_ => hK47 _ _ _ (T.sub (L' := [(0, .agg #[.bool big, .int .i64 gen, .int .i64 first, .int .i64 last]), (1, .int .i64 f2), (2, .int .i64 e2), (3, .pointer (some ⟨w.heap.size, 0, none⟩)), (6, .bool true), (7, .pointer (some ⟨w9.heap.size, 0, none⟩)), (8, .int .i64 2), (21, .bool (decide ((2 : Int) ≠ 0)))]) ?_ (sub_cons rfl (sub_cons rfl (sub_cons rfl (sub_cons rfl (sub_cons rfl (sub_cons rfl (sub_cons rfl (sub_cons rfl sub_nil))))))))) a_ ha_
    refine t_ret ?_
    refine fun a_ ha_ => hQ0 _ _ _ (body_ret (rs := [.tmp 6]) (vs := [.bool true]) ha_ (by kernel_rfl) ⟨_, _, rfl, rfl, rfl⟩ ?_)
    exact ⟨rfl, ((((((Chg.refl (fun k_ => False) w).step hb4 (fun k_ hk_ (h_ : False) => h_.elim)).step hchg8 (fun k_ hk_ (h_ : False) => h_.elim)).step hb36 (fun k_ hk_ (h_ : False) => h_.elim)).step hb41 (fun k_ hk_ (h_ : k_ = w9.heap.size) => (show False by omega))).step hchg49 (fun k_ hk_ (h_ : False) => h_.elim))⟩
  · have hb1_ := right_bounds hn8
    have hb2_ := right_bounds hm8
    refine tl_val (w' := w9) rfl (do_move rfl) (by decide) ?_
    refine tl_val (w' := w9) rfl (do_extract (v := .agg #[.bool big, .int .i64 (gen + 1), .int .i64 f2, .int .i64 e2]) rfl rfl) (by decide) ?_
    refine tl_val (w' := w9) rfl (do_extract (v := .int .i64 0) rfl rfl) (by decide) ?_
    refine tl_val rfl (do_alloc (v := .pointer (some ⟨w9.heap.size, 0, none⟩)) (w' := w9.alloc (.cells #[.bool false, .int .i64 0, .int .i64 0, .int .i64 0] 23)) (by kernel_rfl)) (by decide) ?_
    refine tl_gen (fun w55 e56 => ?_)
    have hb57 : Chg (fun _ => False) w9 w55 := e56 ▸ Chg.alloc _ _
    have hz58 : w55.heap.size = w9.heap.size + 1 := by rw [e56]; exact size_alloc _ _
    have hc59 : w55.heap[w9.heap.size]? = some (.cells #[.bool false, .int .i64 0, .int .i64 0, .int .i64 0] 23 (0, 0)) := by rw [e56]; exact obj_new _ _
    clear e56
    refine tl_unit rfl (do_storesB (cs := [.bool big, .int .i64 (gen + 1), .int .i64 f2, .int .i64 e2]) rfl rfl (by rfl) (by kernel_rfl) hc59 (Nat.le_of_ble_eq_true rfl)) ?_
    refine tl_gen (fun w60 e61 => ?_)
    have hb62 : Chg (fun k => k = w9.heap.size) w55 w60 := e61 ▸ Chg.setCells _ _ 0 [.bool big, .int .i64 (gen + 1), .int .i64 f2, .int .i64 e2]
    have hz63 : w60.heap.size = w55.heap.size := by rw [e61]; exact sc_size _ _ _ _
    have hc64 : w60.heap[w9.heap.size]? = some (.cells #[.bool big, .int .i64 (gen + 1), .int .i64 f2, .int .i64 e2] 23 (0, 0)) := by rw [e61]; exact obj_setCells [.bool big, .int .i64 (gen + 1), .int .i64 f2, .int .i64 e2] 0 hc59
    clear e61
    refine tl_val (w' := w60) rfl (do_assign rfl) (by decide) ?_
    refine tl_end ?_
    refine fun a_ ha_ => hK7 _ _ _ (T.sub (L' := [(0, .agg #[.bool big, .int .i64 gen, .int .i64 first, .int .i64 last]), (1, .int .i64 f2), (2, .int .i64 e2), (3, .pointer (some ⟨w.heap.size, 0, none⟩)), (6, .bool false), (7, .pointer (some ⟨w9.heap.size, 0, none⟩)), (8, .int .i64 0)]) ?_ (sub_cons rfl (sub_cons rfl (sub_cons rfl (sub_cons rfl (sub_cons rfl (sub_cons rfl (sub_cons rfl sub_nil)))))))) a_ ha_
    refine t_seq (fun K65 hK65 => ?_)
    refine t_seq (fun K66 hK66 => ?_)
    refine t_region ?_
    refine tl_val (w' := w60) rfl (do_move rfl) (by decide) ?_
    refine tl_val (w' := w60) rfl (do_neq rfl rfl) (by decide) ?_
    have hk67 : (decide ((0 : Int) ≠ 0)) = false := by decide
    refine tl_end ?_
    refine fun a_ ha_ => hK66 _ _ _ (T.sub (L' := [(0, .agg #[.bool big, .int .i64 gen, .int .i64 first, .int .i64 last]), (1, .int .i64 f2), (2, .int .i64 e2), (3, .pointer (some ⟨w.heap.size, 0, none⟩)), (6, .bool false), (7, .pointer (some ⟨w9.heap.size, 0, none⟩)), (8, .int .i64 0), (21, .bool (decide ((0 : Int) ≠ 0)))]) ?_ (sub_cons rfl (sub_cons rfl (sub_cons rfl (sub_cons rfl (sub_cons rfl (sub_cons rfl (sub_cons rfl (sub_cons rfl sub_nil))))))))) a_ ha_
    refine t_no rfl hk67 ?_
    refine t_skip ?_
    refine fun a_ ha_ => hK65 _ _ _ (T.sub (L' := [(0, .agg #[.bool big, .int .i64 gen, .int .i64 first, .int .i64 last]), (1, .int .i64 f2), (2, .int .i64 e2), (3, .pointer (some ⟨w.heap.size, 0, none⟩)), (6, .bool false), (7, .pointer (some ⟨w9.heap.size, 0, none⟩)), (8, .int .i64 0), (21, .bool (decide ((0 : Int) ≠ 0)))]) ?_ (sub_cons rfl (sub_cons rfl (sub_cons rfl (sub_cons rfl (sub_cons rfl (sub_cons rfl (sub_cons rfl (sub_cons rfl sub_nil))))))))) a_ ha_
    refine t_seq (fun K68 hK68 => ?_)
    refine t_region ?_
    have h69 := (hb62.obj (show ¬ w.heap.size = w9.heap.size by omega) (hb57.obj (fun x => x) (hchg8.obj (fun x => x) hc6)))
    refine tl_val (w' := w60) rfl (do_loads (cs := [.bool big, .int .i64 gen, .int .i64 first, .int .i64 last]) rfl (by kernel_rfl) (obj_range h69)) (by decide) ?_
    have h71 := (TabW.chg (TabW.chg (TabW.chg (TabW.chg hT hb4 (fun x => x)) hchg8 (fun x => x)) hb57 (fun x => x)) hb62 (show ¬ 0 = w9.heap.size by omega))
    refine tl_call rfl (en_call (f := 11) (by kernel_rfl) rfl) rfl (hput_e big gen first last _ h71 (by omega) (by omega) (by omega)) (fun v74 w72 hr73 => ?_) (fun _ _ h => h.elim) (fun _ h => h)
    obtain ⟨hchg70, hp70⟩ := hr73
    have hz75 := hchg70.size
    rcases hp70.resolve_right (fun h_ => h_.1 hn8) with ⟨hright70, A70, c70, rfl, hrd70, ho70⟩
    · have hsl70 := sector_length big gen first last
      refine tl_val (w' := w72) rfl (do_move rfl) (by decide) ?_
      refine tl_val (w' := w72) rfl (do_extract (v := .slice A70 ((sector big gen first last).length) c70) rfl rfl) (by decide) ?_
      refine tl_val (w' := w72) rfl (do_extract (v := .int .i64 0) rfl rfl) (by decide) ?_
      refine tl_val (w' := w72) rfl (do_assign rfl) (by decide) ?_
      refine tl_val (w' := w72) rfl (do_assign rfl) (by decide) ?_
      refine tl_end ?_
      refine fun a_ ha_ => hK68 _ _ _ (T.sub (L' := [(0, .agg #[.bool big, .int .i64 gen, .int .i64 first, .int .i64 last]), (1, .int .i64 f2), (2, .int .i64 e2), (3, .pointer (some ⟨w.heap.size, 0, none⟩)), (6, .bool false), (7, .pointer (some ⟨w9.heap.size, 0, none⟩)), (8, .int .i64 0), (9, .slice A70 ((sector big gen first last).length) c70), (10, .int .i64 0), (21, .bool (decide ((0 : Int) ≠ 0)))]) ?_ (sub_cons rfl (sub_cons rfl (sub_cons rfl (sub_cons rfl (sub_cons rfl (sub_cons rfl (sub_cons rfl (sub_cons rfl (sub_cons rfl (sub_cons rfl sub_nil))))))))))) a_ ha_
      refine t_seq (fun K76 hK76 => ?_)
      refine t_region ?_
      have h77 := (hchg70.obj (fun x => x) hc64)
      refine tl_val (w' := w72) rfl (do_loads (cs := [.bool big, .int .i64 (gen + 1), .int .i64 f2, .int .i64 e2]) rfl (by kernel_rfl) (obj_range h77)) (by decide) ?_
      have h79 := (TabW.chg h71 hchg70 (fun x => x))
      refine tl_call rfl (en_call (f := 11) (by kernel_rfl) rfl) rfl (hput_e big (gen + 1) f2 e2 _ h79 (by omega) (by omega) (by omega)) (fun v82 w80 hr81 => ?_) (fun _ _ h => h.elim) (fun _ h => h)
      obtain ⟨hchg78, hp78⟩ := hr81
      have hz83 := hchg78.size
      rcases hp78.resolve_right (fun h_ => h_.1 hm8) with ⟨hright78, A78, c78, rfl, hrd78, ho78⟩
      · have hsl78 := sector_length big (gen + 1) f2 e2
        refine tl_val (w' := w80) rfl (do_move rfl) (by decide) ?_
        refine tl_val (w' := w80) rfl (do_extract (v := .slice A78 ((sector big (gen + 1) f2 e2).length) c78) rfl rfl) (by decide) ?_
        refine tl_val (w' := w80) rfl (do_extract (v := .int .i64 0) rfl rfl) (by decide) ?_
        refine tl_val (w' := w80) rfl (do_assign rfl) (by decide) ?_
        refine tl_val (w' := w80) rfl (do_assign rfl) (by decide) ?_
        refine tl_end ?_
        refine fun a_ ha_ => hK76 _ _ _ (T.sub (L' := [(0, .agg #[.bool big, .int .i64 gen, .int .i64 first, .int .i64 last]), (1, .int .i64 f2), (2, .int .i64 e2), (3, .pointer (some ⟨w.heap.size, 0, none⟩)), (6, .bool false), (7, .pointer (some ⟨w9.heap.size, 0, none⟩)), (8, .int .i64 0), (9, .slice A70 ((sector big gen first last).length) c70), (10, .int .i64 0), (11, .slice A78 ((sector big (gen + 1) f2 e2).length) c78), (12, .int .i64 0), (21, .bool (decide ((0 : Int) ≠ 0)))]) ?_ (sub_cons rfl (sub_cons rfl (sub_cons rfl (sub_cons rfl (sub_cons rfl (sub_cons rfl (sub_cons rfl (sub_cons rfl (sub_cons rfl (sub_cons rfl (sub_cons rfl (sub_cons rfl sub_nil))))))))))))) a_ ha_
        refine t_seq (fun K84 hK84 => ?_)
        refine t_region ?_
        refine tl_val (w' := w80) rfl (do_fieldAddr (v := .pointer (some ⟨w9.heap.size, 1, none⟩)) rfl (by kernel_rfl)) (by decide) ?_
        have h85 := (hchg78.obj (fun x => x) h77)
        refine tl_val (w' := w80) rfl (do_load (v := .int .i64 (gen + 1)) rfl (by kernel_rfl) (by rw [obj_cell h85]; rfl)) (by decide) ?_
        refine tl_val (w' := w80) rfl (do_fieldAddr (v := .pointer (some ⟨w.heap.size, 1, none⟩)) rfl (by kernel_rfl)) (by decide) ?_
        have h86 := (hchg78.obj (fun x => x) (hchg70.obj (fun x => x) h69))
        refine tl_val (w' := w80) rfl (do_load (v := .int .i64 gen) rfl (by kernel_rfl) (by rw [obj_cell h86]; rfl)) (by decide) ?_
        refine tl_val (w' := w80) rfl (do_add (c := gen + 1) rfl rfl (wrap_i64 (by omega) (by omega))) (by decide) ?_
        refine tl_val (w' := w80) rfl (do_eql rfl rfl) (by decide) ?_
        refine tl_val (w' := w80) rfl (do_move rfl) (by decide) ?_
        have hk87 : (decide ((gen + 1) = (gen + 1))) = true := (decide_eq_true (show (gen + 1) = (gen + 1) from rfl))
        refine tl_val (w' := w80) ⟨44, _, rfl, rfl, (by rw [hk87]; rfl)⟩ (do_fieldAddr (v := .pointer (some ⟨w9.heap.size, 0, none⟩)) rfl (by kernel_rfl)) (by decide) ?_
        refine tl_val (w' := w80) ⟨44, _, rfl, rfl, (by rw [hk87]; rfl)⟩ (do_load (v := .bool big) rfl (by kernel_rfl) (by rw [obj_cell h85]; rfl)) (by decide) ?_
        refine tl_val (w' := w80) ⟨44, _, rfl, rfl, (by rw [hk87]; rfl)⟩ (do_fieldAddr (v := .pointer (some ⟨w.heap.size, 0, none⟩)) rfl (by kernel_rfl)) (by decide) ?_
        refine tl_val (w' := w80) ⟨44, _, rfl, rfl, (by rw [hk87]; rfl)⟩ (do_load (v := .bool big) rfl (by kernel_rfl) (by rw [obj_cell h86]; rfl)) (by decide) ?_
        refine tl_val (w' := w80) ⟨44, _, rfl, rfl, (by rw [hk87]; rfl)⟩ (do_binop (r := .bool (big == big)) rfl rfl (fun _ => rfl) (run_eql_bool _ _ _ _ (by kernel_rfl))) (by decide) ?_
        refine tl_val (w' := w80) rfl (do_pick_t rfl hk87 rfl) (by decide) ?_
        refine tl_val (w' := w80) rfl (do_move rfl) (by decide) ?_
        have hk88 : (big == big) = true := (beq_self_eq_true _)
        refine tl_val (w' := w80) ⟨51, _, rfl, rfl, (by rw [hk88]; rfl)⟩ (do_move rfl) (by decide) ?_
        refine tl_val (w' := w80) ⟨51, _, rfl, rfl, (by rw [hk88]; rfl)⟩ (do_eql rfl rfl) (by decide) ?_
        have hk89 : (decide ((0 : Int) = 0)) = true := by decide
        refine tl_val (w' := w80) rfl (do_pick_t rfl hk88 rfl) (by decide) ?_
        refine tl_val (w' := w80) rfl (do_move rfl) (by decide) ?_
        refine tl_val (w' := w80) ⟨55, _, rfl, rfl, (by rw [hk89]; rfl)⟩ (do_move rfl) (by decide) ?_
        refine tl_val (w' := w80) ⟨55, _, rfl, rfl, (by rw [hk89]; rfl)⟩ (do_eql rfl rfl) (by decide) ?_
        have hk90 : (decide ((0 : Int) = 0)) = true := by decide
        refine tl_val (w' := w80) rfl (do_pick_t rfl hk90 rfl) (by decide) ?_
        refine tl_val (w' := w80) rfl (do_move rfl) (by decide) ?_
        refine tl_val (w' := w80) ⟨59, _, rfl, rfl, (by rw [hk90]; rfl)⟩ (do_move rfl) (by decide) ?_
        have h91 := (Rd.chg hrd70 hrd70 hchg78 (fun _ _ x => x))
        refine tl_val (w' := w80) ⟨59, _, rfl, rfl, (by rw [hk90]; rfl)⟩ (do_convert (u := .slice A70 ((sector big gen first last).length) c70) rfl (run_str h91)) (by decide) ?_
        refine tl_val (w' := w80) ⟨59, _, rfl, rfl, (by rw [hk90]; rfl)⟩ (do_move rfl) (by decide) ?_
        refine tl_val (w' := w80) ⟨59, _, rfl, rfl, (by rw [hk90]; rfl)⟩ (do_convert (u := .slice A78 ((sector big (gen + 1) f2 e2).length) c78) rfl (run_str hrd78)) (by decide) ?_
        refine tl_val (w' := w80) ⟨59, _, rfl, rfl, (by rw [hk90]; rfl)⟩ (do_nes rfl rfl) (by decide) ?_
        refine tl_val (w' := w80) rfl (do_pick_t rfl hk90 rfl) (by decide) ?_
        refine tl_val (w' := w80) rfl (do_move rfl) (by decide) ?_
        have hk92 : (decide ((sector big gen first last) ≠ (sector big (gen + 1) f2 e2))) = true := (decide_eq_true (show (sector big gen first last) ≠ (sector big (gen + 1) f2 e2) from (newer_ne hright70 hright78)))
        have h94 := (TabW.chg h79 hchg78 (fun x => x))
        refine tl_call ⟨66, _, rfl, rfl, (by rw [hk92]; rfl)⟩ (en_call (f := 15) (by kernel_rfl) rfl) rfl (awake18_e h94) (fun v97 w95 hr96 => ?_) (fun _ _ h => h.elim) (fun _ h => h)
        obtain ⟨rfl, hchg93⟩ := hr96
        have hz98 := hchg93.size
        refine tl_val (w' := w95) rfl (do_pick_t rfl hk92 rfl) (by decide) ?_
        refine tl_val (w' := w95) rfl (do_assign rfl) (by decide) ?_
        refine tl_end ?_
        refine fun a_ ha_ => hK84 _ _ _ (T.sub (L' := [(0, .agg #[.bool big, .int .i64 gen, .int .i64 first, .int .i64 last]), (1, .int .i64 f2), (2, .int .i64 e2), (3, .pointer (some ⟨w.heap.size, 0, none⟩)), (6, .bool true), (7, .pointer (some ⟨w9.heap.size, 0, none⟩)), (8, .int .i64 0), (9, .slice A70 ((sector big gen first last).length) c70), (10, .int .i64 0), (11, .slice A78 ((sector big (gen + 1) f2 e2).length) c78), (12, .int .i64 0), (21, .bool (decide ((0 : Int) ≠ 0)))]) ?_ (sub_cons rfl (sub_cons rfl (sub_cons rfl (sub_cons rfl (sub_cons rfl (sub_cons rfl (sub_cons rfl (sub_cons rfl (sub_cons rfl (sub_cons rfl (sub_cons rfl (sub_cons rfl sub_nil))))))))))))) a_ ha_
        refine t_ret ?_
        refine fun a_ ha_ => hQ0 _ _ _ (body_ret (rs := [.tmp 6]) (vs := [.bool true]) ha_ (by kernel_rfl) ⟨_, _, rfl, rfl, rfl⟩ ?_)
        exact ⟨rfl, ((((((((Chg.refl (fun k_ => False) w).step hb4 (fun k_ hk_ (h_ : False) => h_.elim)).step hchg8 (fun k_ hk_ (h_ : False) => h_.elim)).step hb57 (fun k_ hk_ (h_ : False) => h_.elim)).step hb62 (fun k_ hk_ (h_ : k_ = w9.heap.size) => (show False by omega))).step hchg70 (fun k_ hk_ (h_ : False) => h_.elim)).step hchg78 (fun k_ hk_ (h_ : False) => h_.elim)).step hchg93 (fun k_ hk_ (h_ : False) => h_.elim))⟩
end Go.Proofs.YtfmpbbeacpdalaaDoor
