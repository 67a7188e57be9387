/-
  The walk of HeadBack.
-/
import Derived.Test.YtfmpbbeacpdalaaDoorHNext
import Derived.Test.YtfmpbbeacpdalaaDoorOwS
import Derived.OpenShut
set_option linter.unusedVariables false
set_option linter.unusedSimpArgs false
set_option maxRecDepth 100000
namespace Go.Proofs.YtfmpbbeacpdalaaDoor
open Go.RowKit

theorem got_turned {big : Bool} {gen first last : Int} (h : RightP gen first last) {k : Nat} (hk : k < 128) (x : UInt8) :
    (decide (((got ((sector big gen first last).set k ((sector big gen first last).getD k 0 ^^^ x))).2 : Int) = 0) == decide ((x.toNat : Int) = 0)) = true := by
  have hl := sector_length big gen first last
  have hkl : k < (sector big gen first last).length := by omega
  have e : (sector big gen first last).getD k 0 = (sector big gen first last)[k] := by simp [List.getD, hkl]
  rw [e]
  by_cases hx : x = 0
  · subst hx
    have hy : got (sector big gen first last) = ((big, gen, first, last), 0) := got_yes (x := (big, gen, first, last)) h rfl
    rw [UInt8.xor_zero, List.set_getElem_self, hy]
    rfl
  · have hc := chk_turned (fill (body1 big gen first last) 124) k hkl x
    rw [if_neg hx] at hc
    have hg := got_chk (b := (sector big gen first last).set k ((sector big gen first last)[k] ^^^ x)) (by rw [List.length_set]; exact hl) (by
      unfold sector
      rw [hc]
      decide)
    rw [hg.1]
    have : x.toNat ≠ 0 := fun h0 => hx (UInt8.toNat_inj.1 h0)
    simp only [beq_iff_eq]
    rw [decide_eq_false (by omega), decide_eq_false (by omega)]
theorem run_xor_u8 {P : Program} {w : World} {t : TypeId} (a b : UInt8) : (binOp .xor t (.int .u8 (a.toNat : Int)) (.int .u8 (b.toNat : Int))).run P w = .ok (.int .u8 ((a ^^^ b).toNat : Int)) w := by
  have h := bits_xor_u8 a b
  have e : Op.intBits .xor .u8 (a.toNat : Int) (b.toNat : Int) = pure (.int .u8 (bits .xor .u8 (a.toNat : Int) (b.toNat : Int))) := rfl
  rw [binOp_xor, e, h]
  rfl
set_option maxHeartbeats 1600000 in
theorem headBack_nat (big : Bool) (gen first last : Int) (k1 : Nat) (x : UInt8) (w : World) (hT : TabW w) (hg : -9223372036854775808 ≤ gen ∧ gen ≤ 9223372036854775807) (hf : -9223372036854775808 ≤ first ∧ first ≤ 9223372036854775807) (hl : -9223372036854775808 ≤ last ∧ last ≤ 9223372036854775807) (hk1 : k1 < 256) :
    Calls Tryd.prog 6 #[.agg #[.bool big, .int .i64 gen, .int .i64 first, .int .i64 last], .int .u8 (k1 : Int), .int .u8 (x.toNat : Int)] w (RetTrue w) := by
  suffices h : Calls Tryd.prog 6 [.agg #[.bool big, .int .i64 gen, .int .i64 first, .int .i64 last], .int .u8 (k1 : Int), .int .u8 (x.toNat : Int)].toArray w (Ret fun v w' => v = .bool true ∧ Chg (fun _ => False) w w') from h.mono fun e w' h => ret_true h
  refine enter (n := 74) (L := [(0, .agg #[.bool big, .int .i64 gen, .int .i64 first, .int .i64 last]), (1, .int .u8 (k1 : Int)), (2, .int .u8 (x.toNat : Int))]) (args := [.agg #[.bool big, .int .i64 gen, .int .i64 first, .int .i64 last], .int .u8 (k1 : Int), .int .u8 (x.toNat : Int)]) Tryd.func6 rfl rfl (Nat.le_of_ble_eq_true rfl) (by intro t v h; exact look_args h) ?_
  refine t_body (fun Q0 hB0 hQ0 => ?_)
  have hgt := TabW.lt hT
  refine t_seq (fun K1 hK1 => ?_)
  refine t_region ?_
  refine tl_val rfl (do_box (v := .pointer (some ⟨w.heap.size, 0, none⟩)) (w' := w.alloc (.cells #[.bool big, .int .i64 gen, .int .i64 first, .int .i64 last] 23)) rfl (by kernel_rfl)) (by decide) ?_
  refine tl_gen (fun w2 e3 => ?_)
  have hb4 : Chg (fun _ => False) w w2 := e3 ▸ Chg.alloc _ _
  have hz5 : w2.heap.size = w.heap.size + 1 := by rw [e3]; exact size_alloc _ _
  have hc6 : w2.heap[w.heap.size]? = some (.cells #[.bool big, .int .i64 gen, .int .i64 first, .int .i64 last] 23 (0, 0)) := by rw [e3]; exact obj_new _ _
  clear e3
  refine tl_val (w' := w2) rfl (do_assign rfl) (by decide) ?_
  refine tl_end ?_
  refine fun a_ ha_ => hK1 _ _ _ (T.sub (L' := [(0, .agg #[.bool big, .int .i64 gen, .int .i64 first, .int .i64 last]), (1, .int .u8 (k1 : Int)), (2, .int .u8 (x.toNat : Int)), (3, .pointer (some ⟨w.heap.size, 0, none⟩)), (6, .bool false)]) ?_ (sub_cons rfl (sub_cons rfl (sub_cons rfl (sub_cons rfl (sub_cons rfl sub_nil)))))) a_ ha_
  refine t_seq (fun K7 hK7 => ?_)
  refine t_region ?_
  refine tl_val (w' := w2) rfl (do_loads (cs := [.bool big, .int .i64 gen, .int .i64 first, .int .i64 last]) rfl (by kernel_rfl) (obj_range hc6)) (by decide) ?_
  have h9 := (TabW.chg hT hb4 (fun x => x))
  refine tl_call rfl (en_call (f := 11) (by kernel_rfl) rfl) rfl (hput_e big gen first last _ h9 (by omega) (by omega) (by omega)) (fun v12 w10 hr11 => ?_) (fun _ _ h => h.elim) (fun _ h => h)
  obtain ⟨hchg8, hp8⟩ := hr11
  have hz13 := hchg8.size
  rcases hp8 with ⟨hright8, A8, c8, rfl, hrd8, ho8⟩ | ⟨hright8, rfl⟩
  · have hsl8 := sector_length big gen first last
    refine tl_val (w' := w10) rfl (do_move rfl) (by decide) ?_
    refine tl_val (w' := w10) rfl (do_extract (v := .slice A8 ((sector big gen first last).length) c8) rfl rfl) (by decide) ?_
    refine tl_val (w' := w10) rfl (do_extract (v := .int .i64 0) rfl rfl) (by decide) ?_
    refine tl_val (w' := w10) rfl (do_assign rfl) (by decide) ?_
    refine tl_val (w' := w10) rfl (do_assign rfl) (by decide) ?_
    refine tl_end ?_
    refine fun a_ ha_ => hK7 _ _ _ (T.sub (L' := [(0, .agg #[.bool big, .int .i64 gen, .int .i64 first, .int .i64 last]), (1, .int .u8 (k1 : Int)), (2, .int .u8 (x.toNat : Int)), (3, .pointer (some ⟨w.heap.size, 0, none⟩)), (6, .bool false), (7, .slice A8 ((sector big gen first last).length) c8), (8, .int .i64 0)]) ?_ (sub_cons rfl (sub_cons rfl (sub_cons rfl (sub_cons rfl (sub_cons rfl (sub_cons rfl (sub_cons rfl sub_nil)))))))) a_ ha_
    refine t_seq (fun K14 hK14 => ?_)
    refine t_seq (fun K15 hK15 => ?_)
    refine t_region ?_
    refine tl_val (w' := w10) rfl (do_move rfl) (by decide) ?_
    refine tl_val (w' := w10) rfl (do_neq rfl rfl) (by decide) ?_
    have hk16 : (decide ((0 : Int) ≠ 0)) = false := by decide
    refine tl_end ?_
    refine fun a_ ha_ => hK15 _ _ _ (T.sub (L' := [(0, .agg #[.bool big, .int .i64 gen, .int .i64 first, .int .i64 last]), (1, .int .u8 (k1 : Int)), (2, .int .u8 (x.toNat : Int)), (3, .pointer (some ⟨w.heap.size, 0, none⟩)), (6, .bool false), (7, .slice A8 ((sector big gen first last).length) c8), (8, .int .i64 0), (19, .bool (decide ((0 : Int) ≠ 0)))]) ?_ (sub_cons rfl (sub_cons rfl (sub_cons rfl (sub_cons rfl (sub_cons rfl (sub_cons rfl (sub_cons rfl (sub_cons rfl sub_nil))))))))) a_ ha_
    refine t_no rfl hk16 ?_
    refine t_skip ?_
    refine fun a_ ha_ => hK14 _ _ _ (T.sub (L' := [(0, .agg #[.bool big, .int .i64 gen, .int .i64 first, .int .i64 last]), (1, .int .u8 (k1 : Int)), (2, .int .u8 (x.toNat : Int)), (3, .pointer (some ⟨w.heap.size, 0, none⟩)), (6, .bool false), (7, .slice A8 ((sector big gen first last).length) c8), (8, .int .i64 0), (19, .bool (decide ((0 : Int) ≠ 0)))]) ?_ (sub_cons rfl (sub_cons rfl (sub_cons rfl (sub_cons rfl (sub_cons rfl (sub_cons rfl (sub_cons rfl (sub_cons rfl sub_nil))))))))) a_ ha_
    refine t_seq (fun K17 hK17 => ?_)
    refine t_region ?_
    refine tl_val rfl (do_buildSlice (vs := []) (v := .slice (some ⟨w10.heap.size, 0, none⟩) 0 0) (w' := w10.alloc (.cells #[] 5)) rfl (by kernel_rfl)) (by decide) ?_
    refine tl_gen (fun w18 e19 => ?_)
    have hb20 : Chg (fun _ => False) w10 w18 := e19 ▸ Chg.alloc _ _
    have hz21 : w18.heap.size = w10.heap.size + 1 := by rw [e19]; exact size_alloc _ _
    have hc22 : w18.heap[w10.heap.size]? = some (.cells #[] 5 (0, 0)) := by rw [e19]; exact obj_new _ _
    clear e19
    refine tl_val (w' := w18) rfl (do_move rfl) (by decide) ?_
    have ho23 : OwB w18 w10.heap.size (.slice (some ⟨w10.heap.size, 0, none⟩) 0 0) ([] : List UInt8) := OwB.of_obj (l := ([] : List UInt8)) (cs := []) hc22 (by rfl) (Nat.le_refl _) (by decide)
    have h25 := (Rd.chg hrd8 hrd8 hb20 (fun _ _ x => x))
    obtain ⟨v24, w26, hr24, ho24, hg24⟩ := app_run ho23 h25 (by omega) (by first | omega | (simp only [List.length_append, List.length_replicate, List.length_cons, List.length_nil]; omega))
    obtain ⟨A24, c24, rfl, hrd24⟩ := OwB.rd ho24
    have hz27 := hg24.size
    refine tl_val rfl (do_builtin rfl (fun ty_ cs_ => hr24 ty_ cs_)) (by decide) ?_
    have h29 := (TabW.chg (TabW.chg (TabW.chg h9 hchg8 (fun x => x)) hb20 (fun x => x)) hg24 (fun e_ => by have := OwB.block ho23 _ e_.symm; omega))
    refine tl_call rfl (en_call (f := 16) (by kernel_rfl) rfl) rfl (get_known (get_e h29 hrd24) (got_yes (x := (big, gen, first, last)) hright8 rfl)) (fun v32 w30 hr31 => ?_) (fun _ _ h => h.elim) (fun _ h => h)
    obtain ⟨rfl, hchg28⟩ := hr31
    have hz33 := hchg28.size
    refine tl_val (w' := w30) rfl (do_move rfl) (by decide) ?_
    refine tl_val (w' := w30) rfl (do_extract (v := .agg #[.bool big, .int .i64 gen, .int .i64 first, .int .i64 last]) rfl rfl) (by decide) ?_
    refine tl_val (w' := w30) rfl (do_extract (v := .int .i64 0) rfl rfl) (by decide) ?_
    refine tl_val rfl (do_alloc (v := .pointer (some ⟨w30.heap.size, 0, none⟩)) (w' := w30.alloc (.cells #[.bool false, .int .i64 0, .int .i64 0, .int .i64 0] 23)) (by kernel_rfl)) (by decide) ?_
    refine tl_gen (fun w34 e35 => ?_)
    have hb36 : Chg (fun _ => False) w30 w34 := e35 ▸ Chg.alloc _ _
    have hz37 : w34.heap.size = w30.heap.size + 1 := by rw [e35]; exact size_alloc _ _
    have hc38 : w34.heap[w30.heap.size]? = some (.cells #[.bool false, .int .i64 0, .int .i64 0, .int .i64 0] 23 (0, 0)) := by rw [e35]; exact obj_new _ _
    clear e35
    refine tl_unit rfl (do_storesB (cs := [.bool big, .int .i64 gen, .int .i64 first, .int .i64 last]) rfl rfl (by rfl) (by kernel_rfl) hc38 (Nat.le_of_ble_eq_true rfl)) ?_
    refine tl_gen (fun w39 e40 => ?_)
    have hb41 : Chg (fun k => k = w30.heap.size) w34 w39 := e40 ▸ Chg.setCells _ _ 0 [.bool big, .int .i64 gen, .int .i64 first, .int .i64 last]
    have hz42 : w39.heap.size = w34.heap.size := by rw [e40]; exact sc_size _ _ _ _
    have hc43 : w39.heap[w30.heap.size]? = some (.cells #[.bool big, .int .i64 gen, .int .i64 first, .int .i64 last] 23 (0, 0)) := by rw [e40]; exact obj_setCells [.bool big, .int .i64 gen, .int .i64 first, .int .i64 last] 0 hc38
    clear e40
    refine tl_val (w' := w39) rfl (do_assign rfl) (by decide) ?_
    refine tl_end ?_
    refine fun a_ ha_ => hK17 _ _ _ (T.sub (L' := [(0, .agg #[.bool big, .int .i64 gen, .int .i64 first, .int .i64 last]), (1, .int .u8 (k1 : Int)), (2, .int .u8 (x.toNat : Int)), (3, .pointer (some ⟨w.heap.size, 0, none⟩)), (6, .bool false), (7, .slice A8 ((sector big gen first last).length) c8), (8, .int .i64 0), (9, .pointer (some ⟨w30.heap.size, 0, none⟩)), (10, .int .i64 0), (19, .bool (decide ((0 : Int) ≠ 0)))]) ?_ (sub_cons rfl (sub_cons rfl (sub_cons rfl (sub_cons rfl (sub_cons rfl (sub_cons rfl (sub_cons rfl (sub_cons rfl (sub_cons rfl (sub_cons rfl sub_nil))))))))))) a_ ha_
    refine t_seq (fun K44 hK44 => ?_)
    refine t_seq (fun K45 hK45 => ?_)
    refine t_region ?_
    refine tl_val (w' := w39) rfl (do_loads (cs := [.bool big, .int .i64 gen, .int .i64 first, .int .i64 last]) rfl (by kernel_rfl) (obj_range hc43)) (by decide) ?_
    have h46 := (hb41.obj (show ¬ w.heap.size = w30.heap.size by omega) (hb36.obj (fun x => x) (hchg28.obj (fun x => x) (hg24.obj (fun e_ => by have := OwB.block ho23 _ e_.symm; omega) (hb20.obj (fun x => x) (hchg8.obj (fun x => x) hc6))))))
    refine tl_val (w' := w39) rfl (do_loads (cs := [.bool big, .int .i64 gen, .int .i64 first, .int .i64 last]) rfl (by kernel_rfl) (obj_range h46)) (by decide) ?_
    refine tl_val (w' := w39) rfl (do_nest (p := big = big ∧ gen = gen ∧ first = first ∧ last = last) (xs := [.b big, .i .i64 gen, .i .i64 first, .i .i64 last]) (ys := [.b big, .i .i64 gen, .i .i64 first, .i .i64 last]) rfl rfl (by kernel_rfl) rfl (by simp [all2, Sc.same])) (by decide) ?_
    refine tl_val (w' := w39) rfl (do_move rfl) (by decide) ?_
    have hk47 : (decide (¬ (big = big ∧ gen = gen ∧ first = first ∧ last = last))) = false := (decide_eq_false (show ¬ (¬ (big = big ∧ gen = gen ∧ first = first ∧ last = last)) from (fun h_ => h_ ⟨rfl, rfl, rfl, rfl⟩)))
    refine tl_val (w' := w39) ⟨41, _, rfl, rfl, (by rw [hk47]; rfl)⟩ (do_move rfl) (by decide) ?_
    refine tl_val (w' := w39) ⟨41, _, rfl, rfl, (by rw [hk47]; rfl)⟩ (do_neq rfl rfl) (by decide) ?_
    have hk48 : (decide ((0 : Int) ≠ 0)) = false := by decide
    refine tl_val (w' := w39) rfl (do_pick_f rfl hk47 rfl) (by decide) ?_
    refine tl_val (w' := w39) rfl (do_move rfl) (by decide) ?_
    refine tl_val (w' := w39) ⟨45, _, rfl, rfl, (by rw [hk48]; rfl)⟩ (do_move rfl) (by decide) ?_
    refine tl_val (w' := w39) ⟨45, _, rfl, rfl, (by rw [hk48]; rfl)⟩ (do_builtin (v := .int .i64 ((sector big gen first last).length : Int)) rfl (fun _ _ => by kernel_rfl)) (by decide) ?_
    refine tl_val (w' := w39) ⟨45, _, rfl, rfl, (by rw [hk48]; rfl)⟩ (do_neq rfl rfl) (by decide) ?_
    refine tl_val (w' := w39) rfl (do_pick_f rfl hk48 rfl) (by decide) ?_
    refine tl_end ?_
    refine fun a_ ha_ => hK45 _ _ _ (T.sub (L' := [(0, .agg #[.bool big, .int .i64 gen, .int .i64 first, .int .i64 last]), (1, .int .u8 (k1 : Int)), (2, .int .u8 (x.toNat : Int)), (3, .pointer (some ⟨w.heap.size, 0, none⟩)), (6, .bool false), (7, .slice A8 ((sector big gen first last).length) c8), (8, .int .i64 0), (9, .pointer (some ⟨w30.heap.size, 0, none⟩)), (10, .int .i64 0), (19, .bool (decide ((0 : Int) ≠ 0))), (49, .bool (decide (((sector big gen first last).length : Int) ≠ 128)))]) ?_ (sub_cons rfl (sub_cons rfl (sub_cons rfl (sub_cons rfl (sub_cons rfl (sub_cons rfl (sub_cons rfl (sub_cons rfl (sub_cons rfl (sub_cons rfl (sub_cons rfl sub_nil)))))))))))) a_ ha_
    have hk49 : (decide (((sector big gen first last).length : Int) ≠ 128)) = false := (decide_eq_false (show ¬ (((sector big gen first last).length : Int) ≠ 128) from (by omega)))
    refine t_no rfl hk49 ?_
    refine t_skip ?_
    refine fun a_ ha_ => hK44 _ _ _ (T.sub (L' := [(0, .agg #[.bool big, .int .i64 gen, .int .i64 first, .int .i64 last]), (1, .int .u8 (k1 : Int)), (2, .int .u8 (x.toNat : Int)), (3, .pointer (some ⟨w.heap.size, 0, none⟩)), (6, .bool false), (7, .slice A8 ((sector big gen first last).length) c8), (8, .int .i64 0), (9, .pointer (some ⟨w30.heap.size, 0, none⟩)), (10, .int .i64 0), (19, .bool (decide ((0 : Int) ≠ 0))), (49, .bool (decide (((sector big gen first last).length : Int) ≠ 128)))]) ?_ (sub_cons rfl (sub_cons rfl (sub_cons rfl (sub_cons rfl (sub_cons rfl (sub_cons rfl (sub_cons rfl (sub_cons rfl (sub_cons rfl (sub_cons rfl (sub_cons rfl sub_nil)))))))))))) a_ ha_
    refine t_seq (fun K50 hK50 => ?_)
    refine t_region ?_
    refine tl_val (w' := w39) rfl (do_move rfl) (by decide) ?_
    refine tl_val (w' := w39) rfl (do_move rfl) (by decide) ?_
    refine tl_val (w' := w39) rfl (do_convert (v := .int .i64 (k1 : Int)) rfl (conv_int (by kernel_rfl) (wrap_i64 (by omega) (by omega)))) (by decide) ?_
    refine tl_val (w' := w39) rfl (do_move rfl) (by decide) ?_
    refine tl_val (w' := w39) rfl (do_builtin (v := .int .i64 ((sector big gen first last).length : Int)) rfl (fun _ _ => by kernel_rfl)) (by decide) ?_
    refine tl_val (w' := w39) rfl (do_rem (c := ((k1 % 128 : Nat) : Int)) rfl rfl (by omega) (by rw [show (sector big gen first last).length = 128 from sector_length _ _ _ _, rem_nn (by omega)]; omega)) (by decide) ?_
    have h51 := (Rd.chgNe (Rd.chg hrd8 (Rd.chg hrd8 (Rd.chg hrd8 h25 hg24 (fun k_ hk_ e_ => by have := OwB.block ho23 _ e_.symm; omega)) hchg28 (fun _ _ x => x)) hb36 (fun _ _ x => x)) hb41 (fun a_ h1_ h2_ => Rd.ne (cs := [.bool false, .int .i64 0, .int .i64 0, .int .i64 0]) (Rd.chg hrd8 (Rd.chg hrd8 (Rd.chg hrd8 h25 hg24 (fun k_ hk_ e_ => by have := OwB.block ho23 _ e_.symm; omega)) hchg28 (fun _ _ x => x)) hb36 (fun _ _ x => x)) hc38 (by rfl) a_ h1_ h2_))
    refine tl_val (w' := w39) rfl (do_indexAddr rfl rfl (idx_rd' (j := (k1 % 128)) h51 (by kernel_rfl) rfl (by omega) _)) (by decide) ?_
    refine tl_val (w' := w39) rfl (do_load_rd rfl (by kernel_rfl) h51 (by omega)) (by decide) ?_
    refine tl_val (w' := w39) rfl (do_move rfl) (by decide) ?_
    refine tl_val (w' := w39) rfl (do_binop (r := .int .u8 (((sector big gen first last).getD (k1 % 128) 0 ^^^ x).toNat : Int)) rfl rfl (fun _ => rfl) (run_xor_u8 _ x)) (by decide) ?_
    refine tl_val (w' := w39) rfl (do_indexAddr rfl rfl (idx_rd' (j := (k1 % 128)) h51 (by kernel_rfl) rfl (by omega) _)) (by decide) ?_
    have h52 := (OwB.chg (OwB.chg (OwB.chg (OwB.chg (OwB.chg ho8 hb20 (fun _ _ x => x)) hg24 (fun k_ hk_ e_ => by have h1_ := World.ownsRow.lt ho8 _ hk_; have h2_ := World.ownsRow.lt ho23 _ e_.symm; omega)) hchg28 (fun _ _ x => x)) hb36 (fun _ _ x => x)) hb41 (fun k_ hk_ => by have h2_ := World.ownsRow.lt ho8 _ hk_; show ¬ (k_ = w30.heap.size); omega))
    obtain ⟨w54, hst53, ho53, hr53, hg53, hz53⟩ := own_store h52 (j := (k1 % 128)) (by omega) ((sector big gen first last).getD (k1 % 128) 0 ^^^ x)
    refine tl_unit rfl (hst53 _ _ _ rfl rfl) ?_
    rw [show (sector big gen first last).length = ((sector big gen first last).set (k1 % 128) ((sector big gen first last).getD (k1 % 128) 0 ^^^ x)).length from (List.length_set).symm]
    refine tl_end ?_
    refine fun a_ ha_ => hK50 _ _ _ (T.sub (L' := [(0, .agg #[.bool big, .int .i64 gen, .int .i64 first, .int .i64 last]), (1, .int .u8 (k1 : Int)), (2, .int .u8 (x.toNat : Int)), (3, .pointer (some ⟨w.heap.size, 0, none⟩)), (6, .bool false), (7, .slice A8 (((sector big gen first last).set (k1 % 128) ((sector big gen first last).getD (k1 % 128) 0 ^^^ x)).length) c8), (8, .int .i64 0), (9, .pointer (some ⟨w30.heap.size, 0, none⟩)), (10, .int .i64 0), (19, .bool (decide ((0 : Int) ≠ 0))), (49, .bool (decide ((((sector big gen first last).set (k1 % 128) ((sector big gen first last).getD (k1 % 128) 0 ^^^ x)).length : Int) ≠ 128)))]) ?_ (sub_cons rfl (sub_cons rfl (sub_cons rfl (sub_cons rfl (sub_cons rfl (sub_cons rfl (sub_cons rfl (sub_cons rfl (sub_cons rfl (sub_cons rfl (sub_cons rfl sub_nil)))))))))))) a_ ha_
    refine t_seq (fun K55 hK55 => ?_)
    refine t_region ?_
    refine tl_val (w' := w54) rfl (do_move rfl) (by decide) ?_
    have h57 := (TabW.chg (TabW.chg (TabW.chg (TabW.chg h29 hchg28 (fun x => x)) hb36 (fun x => x)) hb41 (show ¬ 0 = w30.heap.size by omega)) hg53 (fun e_ => by have := OwB.block ho53 _ e_.symm; omega))
    refine tl_call rfl (en_call (f := 16) (by kernel_rfl) rfl) rfl (get_e h57 hr53) (fun v60 w58 hr59 => ?_) (fun _ _ h => h.elim) (fun _ h => h)
    obtain ⟨rfl, hchg56⟩ := hr59
    have hz61 := hchg56.size
    refine tl_val (w' := w58) rfl (do_move rfl) (by decide) ?_
    refine tl_val (w' := w58) rfl (do_extract (v := .agg #[.bool ((got ((sector big gen first last).set (k1 % 128) ((sector big gen first last).getD (k1 % 128) 0 ^^^ x))).1.1), .int .i64 ((got ((sector big gen first last).set (k1 % 128) ((sector big gen first last).getD (k1 % 128) 0 ^^^ x))).1.2.1), .int .i64 ((got ((sector big gen first last).set (k1 % 128) ((sector big gen first last).getD (k1 % 128) 0 ^^^ x))).1.2.2.1), .int .i64 ((got ((sector big gen first last).set (k1 % 128) ((sector big gen first last).getD (k1 % 128) 0 ^^^ x))).1.2.2.2)]) rfl rfl) (by decide) ?_
    refine tl_val (w' := w58) rfl (do_extract (v := .int .i64 (((got ((sector big gen first last).set (k1 % 128) ((sector big gen first last).getD (k1 % 128) 0 ^^^ x))).2 : Nat) : Int)) rfl rfl) (by decide) ?_
    refine tl_val rfl (do_alloc (v := .pointer (some ⟨w58.heap.size, 0, none⟩)) (w' := w58.alloc (.cells #[.bool false, .int .i64 0, .int .i64 0, .int .i64 0] 23)) (by kernel_rfl)) (by decide) ?_
    refine tl_gen (fun w62 e63 => ?_)
    have hb64 : Chg (fun _ => False) w58 w62 := e63 ▸ Chg.alloc _ _
    have hz65 : w62.heap.size = w58.heap.size + 1 := by rw [e63]; exact size_alloc _ _
    have hc66 : w62.heap[w58.heap.size]? = some (.cells #[.bool false, .int .i64 0, .int .i64 0, .int .i64 0] 23 (0, 0)) := by rw [e63]; exact obj_new _ _
    clear e63
    refine tl_unit rfl (do_storesB (cs := [.bool ((got ((sector big gen first last).set (k1 % 128) ((sector big gen first last).getD (k1 % 128) 0 ^^^ x))).1.1), .int .i64 ((got ((sector big gen first last).set (k1 % 128) ((sector big gen first last).getD (k1 % 128) 0 ^^^ x))).1.2.1), .int .i64 ((got ((sector big gen first last).set (k1 % 128) ((sector big gen first last).getD (k1 % 128) 0 ^^^ x))).1.2.2.1), .int .i64 ((got ((sector big gen first last).set (k1 % 128) ((sector big gen first last).getD (k1 % 128) 0 ^^^ x))).1.2.2.2)]) rfl rfl (by rfl) (by kernel_rfl) hc66 (Nat.le_of_ble_eq_true rfl)) ?_
    refine tl_gen (fun w67 e68 => ?_)
    have hb69 : Chg (fun k => k = w58.heap.size) w62 w67 := e68 ▸ Chg.setCells _ _ 0 [.bool ((got ((sector big gen first last).set (k1 % 128) ((sector big gen first last).getD (k1 % 128) 0 ^^^ x))).1.1), .int .i64 ((got ((sector big gen first last).set (k1 % 128) ((sector big gen first last).getD (k1 % 128) 0 ^^^ x))).1.2.1), .int .i64 ((got ((sector big gen first last).set (k1 % 128) ((sector big gen first last).getD (k1 % 128) 0 ^^^ x))).1.2.2.1), .int .i64 ((got ((sector big gen first last).set (k1 % 128) ((sector big gen first last).getD (k1 % 128) 0 ^^^ x))).1.2.2.2)]
    have hz70 : w67.heap.size = w62.heap.size := by rw [e68]; exact sc_size _ _ _ _
    have hc71 : w67.heap[w58.heap.size]? = some (.cells #[.bool ((got ((sector big gen first last).set (k1 % 128) ((sector big gen first last).getD (k1 % 128) 0 ^^^ x))).1.1), .int .i64 ((got ((sector big gen first last).set (k1 % 128) ((sector big gen first last).getD (k1 % 128) 0 ^^^ x))).1.2.1), .int .i64 ((got ((sector big gen first last).set (k1 % 128) ((sector big gen first last).getD (k1 % 128) 0 ^^^ x))).1.2.2.1), .int .i64 ((got ((sector big gen first last).set (k1 % 128) ((sector big gen first last).getD (k1 % 128) 0 ^^^ x))).1.2.2.2)] 23 (0, 0)) := by rw [e68]; exact obj_setCells [.bool ((got ((sector big gen first last).set (k1 % 128) ((sector big gen first last).getD (k1 % 128) 0 ^^^ x))).1.1), .int .i64 ((got ((sector big gen first last).set (k1 % 128) ((sector big gen first last).getD (k1 % 128) 0 ^^^ x))).1.2.1), .int .i64 ((got ((sector big gen first last).set (k1 % 128) ((sector big gen first last).getD (k1 % 128) 0 ^^^ x))).1.2.2.1), .int .i64 ((got ((sector big gen first last).set (k1 % 128) ((sector big gen first last).getD (k1 % 128) 0 ^^^ x))).1.2.2.2)] 0 hc66
    clear e68
    refine tl_val (w' := w67) rfl (do_assign rfl) (by decide) ?_
    refine tl_end ?_
    refine fun a_ ha_ => hK55 _ _ _ (T.sub (L' := [(0, .agg #[.bool big, .int .i64 gen, .int .i64 first, .int .i64 last]), (1, .int .u8 (k1 : Int)), (2, .int .u8 (x.toNat : Int)), (3, .pointer (some ⟨w.heap.size, 0, none⟩)), (6, .bool false), (7, .slice A8 (((sector big gen first last).set (k1 % 128) ((sector big gen first last).getD (k1 % 128) 0 ^^^ x)).length) c8), (8, .int .i64 0), (9, .pointer (some ⟨w30.heap.size, 0, none⟩)), (10, .int .i64 0), (12, .int .i64 (((got ((sector big gen first last).set (k1 % 128) ((sector big gen first last).getD (k1 % 128) 0 ^^^ x))).2 : Nat) : Int)), (19, .bool (decide ((0 : Int) ≠ 0))), (49, .bool (decide ((((sector big gen first last).set (k1 % 128) ((sector big gen first last).getD (k1 % 128) 0 ^^^ x)).length : Int) ≠ 128)))]) ?_ (sub_cons rfl (sub_cons rfl (sub_cons rfl (sub_cons rfl (sub_cons rfl (sub_cons rfl (sub_cons rfl (sub_cons rfl (sub_cons rfl (sub_cons rfl (sub_cons rfl (sub_cons rfl sub_nil))))))))))))) a_ ha_
    refine t_seq (fun K72 hK72 => ?_)
    refine t_region ?_
    refine tl_val (w' := w67) rfl (do_move rfl) (by decide) ?_
    refine tl_val (w' := w67) rfl (do_eql rfl rfl) (by decide) ?_
    refine tl_val (w' := w67) rfl (do_move rfl) (by decide) ?_
    refine tl_val (w' := w67) rfl (do_eql rfl rfl) (by decide) ?_
    refine tl_val (w' := w67) rfl (do_binop (r := .bool (decide ((((got ((sector big gen first last).set (k1 % 128) ((sector big gen first last).getD (k1 % 128) 0 ^^^ x))).2 : Nat) : Int) = 0) == decide ((x.toNat : Int) = 0))) rfl rfl (fun _ => rfl) (run_eql_bool _ _ _ _ (by kernel_rfl))) (by decide) ?_
    refine tl_val (w' := w67) rfl (do_move rfl) (by decide) ?_
    have hk73 : (decide ((((got ((sector big gen first last).set (k1 % 128) ((sector big gen first last).getD (k1 % 128) 0 ^^^ x))).2 : Nat) : Int) = 0) == decide ((x.toNat : Int) = 0)) = true := (got_turned hright8 (Nat.mod_lt _ (by decide)) x)
    have h75 := (TabW.chg (TabW.chg (TabW.chg h57 hchg56 (fun x => x)) hb64 (fun x => x)) hb69 (show ¬ 0 = w58.heap.size by omega))
    refine tl_call ⟨71, _, rfl, rfl, (by rw [hk73]; rfl)⟩ (en_call (f := 15) (by kernel_rfl) rfl) rfl (awake18_e h75) (fun v78 w76 hr77 => ?_) (fun _ _ h => h.elim) (fun _ h => h)
    obtain ⟨rfl, hchg74⟩ := hr77
    have hz79 := hchg74.size
    refine tl_val (w' := w76) rfl (do_pick_t rfl hk73 rfl) (by decide) ?_
    refine tl_val (w' := w76) rfl (do_assign rfl) (by decide) ?_
    refine tl_end ?_
    refine fun a_ ha_ => hK72 _ _ _ (T.sub (L' := [(0, .agg #[.bool big, .int .i64 gen, .int .i64 first, .int .i64 last]), (1, .int .u8 (k1 : Int)), (2, .int .u8 (x.toNat : Int)), (3, .pointer (some ⟨w.heap.size, 0, none⟩)), (6, .bool true), (7, .slice A8 (((sector big gen first last).set (k1 % 128) ((sector big gen first last).getD (k1 % 128) 0 ^^^ x)).length) c8), (8, .int .i64 0), (9, .pointer (some ⟨w30.heap.size, 0, none⟩)), (10, .int .i64 0), (12, .int .i64 (((got ((sector big gen first last).set (k1 % 128) ((sector big gen first last).getD (k1 % 128) 0 ^^^ x))).2 : Nat) : Int)), (19, .bool (decide ((0 : Int) ≠ 0))), (49, .bool (decide ((((sector big gen first last).set (k1 % 128) ((sector big gen first last).getD (k1 % 128) 0 ^^^ x)).length : Int) ≠ 128)))]) ?_ (sub_cons rfl (sub_cons rfl (sub_cons rfl (sub_cons rfl (sub_cons rfl (sub_cons rfl (sub_cons rfl (sub_cons rfl (sub_cons rfl (sub_cons rfl (sub_cons rfl (sub_cons rfl sub_nil))))))))))))) a_ ha_
    refine t_ret ?_
    refine fun a_ ha_ => hQ0 _ _ _ (body_ret (rs := [.tmp 6]) (vs := [.bool true]) ha_ (by kernel_rfl) ⟨_, _, rfl, rfl, rfl⟩ ?_)
    exact ⟨rfl, (((((((((((((Chg.refl (fun k_ => False) w).step hb4 (fun k_ hk_ (h_ : False) => h_.elim)).step hchg8 (fun k_ hk_ (h_ : False) => h_.elim)).step hb20 (fun k_ hk_ (h_ : False) => h_.elim)).step hg24 (fun k_ hk_ (h_ : some k_ = Value.ownBlock (.slice (some ⟨w10.heap.size, 0, none⟩) 0 0)) => (show False by have := OwB.block ho23 _ h_.symm; omega))).step hchg28 (fun k_ hk_ (h_ : False) => h_.elim)).step hb36 (fun k_ hk_ (h_ : False) => h_.elim)).step hb41 (fun k_ hk_ (h_ : k_ = w30.heap.size) => (show False by omega))).step hg53 (fun k_ hk_ (h_ : some k_ = Value.ownBlock (.slice A8 (((sector big gen first last).set (k1 % 128) ((sector big gen first last).getD (k1 % 128) 0 ^^^ x)).length) c8)) => (show False by have := OwB.block ho53 _ h_.symm; omega))).step hchg56 (fun k_ hk_ (h_ : False) => h_.elim)).step hb64 (fun k_ hk_ (h_ : False) => h_.elim)).step hb69 (fun k_ hk_ (h_ : k_ = w58.heap.size) => (show False by omega))).step hchg74 (fun k_ hk_ (h_ : False) => h_.elim))⟩
  · refine tl_val (w' := w10) rfl (do_move rfl) (by decide) ?_
    refine tl_val (w' := w10) rfl (do_extract (v := .slice none 0 0) rfl rfl) (by decide) ?_
    refine tl_val (w' := w10) rfl (do_extract (v := .int .i64 1) rfl rfl) (by decide) ?_
    refine tl_val (w' := w10) rfl (do_assign rfl) (by decide) ?_
    refine tl_val (w' := w10) rfl (do_assign rfl) (by decide) ?_
    refine tl_end ?_
    refine fun a_ ha_ => hK7 _ _ _ (T.sub (L' := [(0, .agg #[.bool big, .int .i64 gen, .int .i64 first, .int .i64 last]), (1, .int .u8 (k1 : Int)), (2, .int .u8 (x.toNat : Int)), (3, .pointer (some ⟨w.heap.size, 0, none⟩)), (6, .bool false), (7, .slice none 0 0), (8, .int .i64 1)]) ?_ (sub_cons rfl (sub_cons rfl (sub_cons rfl (sub_cons rfl (sub_cons rfl (sub_cons rfl (sub_cons rfl sub_nil)))))))) a_ ha_
    refine t_seq (fun K80 hK80 => ?_)
    refine t_seq (fun K81 hK81 => ?_)
    refine t_region ?_
    refine tl_val (w' := w10) rfl (do_move rfl) (by decide) ?_
    refine tl_val (w' := w10) rfl (do_neq rfl rfl) (by decide) ?_
    have hk82 : (decide ((1 : Int) ≠ 0)) = true := by decide
    refine tl_end ?_
    refine fun a_ ha_ => hK81 _ _ _ (T.sub (L' := [(0, .agg #[.bool big, .int .i64 gen, .int .i64 first, .int .i64 last]), (1, .int .u8 (k1 : Int)), (2, .int .u8 (x.toNat : Int)), (3, .pointer (some ⟨w.heap.size, 0, none⟩)), (6, .bool false), (7, .slice none 0 0), (8, .int .i64 1), (19, .bool (decide ((1 : Int) ≠ 0)))]) ?_ (sub_cons rfl (sub_cons rfl (sub_cons rfl (sub_cons rfl (sub_cons rfl (sub_cons rfl (sub_cons rfl (sub_cons rfl sub_nil))))))))) a_ ha_
    refine t_yes rfl hk82 ?_
    refine t_seq (fun K83 hK83 => ?_)
    refine t_region ?_
    refine tl_val (w' := w10) rfl (do_move rfl) (by decide) ?_
    refine tl_val (w' := w10) rfl (do_builtin (v := .int .i64 0) rfl (fun _ _ => by kernel_rfl)) (by decide) ?_
    refine tl_val (w' := w10) rfl (do_eql rfl rfl) (by decide) ?_
    have hk84 : (decide ((0 : Int) = 0)) = true := by decide
    refine tl_val (w' := w10) rfl (do_move rfl) (by decide) ?_
    have h85 := (hchg8.obj (fun x => x) hc6)
    refine tl_val (w' := w10) ⟨23, _, rfl, rfl, (by rw [hk84]; rfl)⟩ (do_loads (cs := [.bool big, .int .i64 gen, .int .i64 first, .int .i64 last]) rfl (by kernel_rfl) (obj_range h85)) (by decide) ?_
    refine tl_call ⟨23, _, rfl, rfl, (by rw [hk84]; rfl)⟩ (en_call (f := 14) (by kernel_rfl) rfl) rfl (rright_e big gen first last _) (fun v89 w87 hr88 => ?_) (fun _ _ h => h.elim) (fun _ h => h)
    obtain ⟨rfl, hchg86⟩ := hr88
    have hz90 := hchg86.size
    refine tl_val (w' := w87) ⟨23, _, rfl, rfl, (by rw [hk84]; rfl)⟩ (do_not rfl (not_dec _)) (by decide) ?_
    refine tl_val (w' := w87) rfl (do_pick_t rfl hk84 rfl) (by decide) ?_
    refine tl_val (w' := w87) rfl (do_move rfl) (by decide) ?_
    have hk91 : (decide (¬ (RightP gen first last))) = true := (decide_eq_true (show ¬ (RightP gen first last) from hright8))
    have h93 := (TabW.chg (TabW.chg h9 hchg8 (fun x => x)) hchg86 (fun x => x))
    refine tl_call ⟨28, _, rfl, rfl, (by rw [hk91]; rfl)⟩ (en_call (f := 15) (by kernel_rfl) rfl) rfl (awake18_e h93) (fun v96 w94 hr95 => ?_) (fun _ _ h => h.elim) (fun _ h => h)
    obtain ⟨rfl, hchg92⟩ := hr95
    have hz97 := hchg92.size
    refine tl_val (w' := w94) rfl (do_pick_t rfl hk91 rfl) (by decide) ?_
    refine tl_val (w' := w94) rfl (do_assign rfl) (by decide) ?_
    refine tl_end ?_
    refine fun a_ ha_ => hK83 _ _ _ (T.sub (L' := [(0, .agg #[.bool big, .int .i64 gen, .int .i64 first, .int .i64 last]), (1, .int .u8 (k1 : Int)), (2, .int .u8 (x.toNat : Int)), (3, .pointer (some ⟨w.heap.size, 0, none⟩)), (6, .bool true), (7, .slice none 0 0), (8, .int .i64 1), (19, .bool (decide ((1 : Int) ≠ 0)))]) ?_ (sub_cons rfl (sub_cons rfl (sub_cons rfl (sub_cons rfl (sub_cons rfl (sub_cons rfl (sub_cons rfl (sub_cons rfl sub_nil))))))))) a_ ha_
    refine t_ret ?_
    refine fun a_ ha_ => hQ0 _ _ _ (body_ret (rs := [.tmp 6]) (vs := [.bool true]) ha_ (by kernel_rfl) ⟨_, _, rfl, rfl, rfl⟩ ?_)
    exact ⟨rfl, (((((Chg.refl (fun k_ => False) w).step hb4 (fun k_ hk_ (h_ : False) => h_.elim)).step hchg8 (fun k_ hk_ (h_ : False) => h_.elim)).step hchg86 (fun k_ hk_ (h_ : False) => h_.elim)).step hchg92 (fun k_ hk_ (h_ : False) => h_.elim))⟩
theorem headBack_walk (big : Bool) (gen first last : Int) (a y : Int) (w : World) (hT : TabW w) (hg : -9223372036854775808 ≤ gen ∧ gen ≤ 9223372036854775807) (hf : -9223372036854775808 ≤ first ∧ first ≤ 9223372036854775807) (hl : -9223372036854775808 ≤ last ∧ last ≤ 9223372036854775807) (ha : (Lit.int .u8 a).wf = true) (hy : (Lit.int .u8 y).wf = true) :
    Calls Tryd.prog 6 #[.agg #[.bool big, .int .i64 gen, .int .i64 first, .int .i64 last], .int .u8 a, .int .u8 y] w (RetTrue w) := by
  have h1 : 0 ≤ a ∧ a ≤ 255 := bounds_u8 ha
  have h2 : 0 ≤ y ∧ y ≤ 255 := bounds_u8 hy
  obtain ⟨k, rfl⟩ : ∃ k : Nat, a = (k : Int) := ⟨a.toNat, by omega⟩
  obtain ⟨x, rfl⟩ : ∃ x : UInt8, y = (x.toNat : Int) := ⟨UInt8.ofNat y.toNat, by rw [UInt8.toNat_ofNat']; omega⟩
  exact headBack_nat big gen first last k x w hT hg hf hl (by omega)
end Go.Proofs.YtfmpbbeacpdalaaDoor
