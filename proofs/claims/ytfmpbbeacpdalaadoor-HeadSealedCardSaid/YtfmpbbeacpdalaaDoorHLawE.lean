/-
  The walk of HeadSealed.
-/
import Derived.Test.YtfmpbbeacpdalaaDoorHNext
import Derived.Test.YtfmpbbeacpdalaaDoorOwS
import Derived.OpenShut
set_option linter.unusedVariables false
set_option linter.unusedSimpArgs false
set_option maxRecDepth 100000
namespace Go.Proofs.YtfmpbbeacpdalaaDoor
open Go.RowKit

theorem Rd.of_bs {w : World} {p : Nat} {l : List UInt8} {t : TypeId} {fr : Nat × Nat} (h : w.heap[p]? = some (.cells (bs l).toArray t fr)) (hl : l.length ≤ 9223372036854775807) : Rd w (some ⟨p, 0, none⟩) l.length l := Rd.of_obj h rfl hl
set_option maxHeartbeats 1600000 in
theorem headSealed_walk (lb : List UInt8) (w : World) (hT : TabW w) (hlb : lb.length = 124) :
    Calls Tryd.prog 5 #[.agg (bs lb).toArray] w (RetTrue w) := by
  suffices h : Calls Tryd.prog 5 [.agg (bs lb).toArray].toArray w (Ret fun v w' => v = .bool true ∧ Chg (fun _ => False) w w') from h.mono fun e w' h => ret_true h
  refine enter (n := 33) (L := [(0, .agg (bs lb).toArray)]) (args := [.agg (bs lb).toArray]) Tryd.func5 rfl rfl (Nat.le_of_ble_eq_true rfl) (by intro t v h; exact look_args h) ?_
  refine t_body (fun Q0 hB0 hQ0 => ?_)
  have hgt := TabW.lt hT
  refine t_seq (fun K1 hK1 => ?_)
  refine t_region ?_
  refine tl_val rfl (do_box (v := .pointer (some ⟨w.heap.size, 0, none⟩)) (w' := w.alloc (.cells (bs lb).toArray 33)) rfl (by kernel_rfl)) (by decide) ?_
  refine tl_gen (fun w2 e3 => ?_)
  have hb4 : Chg (fun _ => False) w w2 := e3 ▸ Chg.alloc _ _
  have hz5 : w2.heap.size = w.heap.size + 1 := by rw [e3]; exact size_alloc _ _
  have hc6 : Rd w2 (some ⟨w.heap.size, 0, none⟩) lb.length lb := Rd.of_bs (t := 33) (fr := (0, 0)) (by rw [e3]; exact obj_new _ _) (by omega)
  clear e3
  refine tl_val (w' := w2) rfl (do_assign rfl) (by decide) ?_
  refine tl_end ?_
  refine fun a_ ha_ => hK1 _ _ _ (T.sub (L' := [(0, .agg (bs lb).toArray), (1, .pointer (some ⟨w.heap.size, 0, none⟩)), (2, .bool false)]) ?_ (sub_cons rfl (sub_cons rfl (sub_cons rfl sub_nil)))) a_ ha_
  refine t_seq (fun K7 hK7 => ?_)
  refine t_region ?_
  refine tl_val (w' := w2) rfl (do_slice (v := .slice (some ⟨w.heap.size, 0, none⟩) lb.length lb.length) rfl rfl rfl rfl (by rw [hlb]; kernel_rfl)) (by decide) ?_
  refine tl_call rfl (en_call (f := 18) (by kernel_rfl) rfl) rfl (rseal_e hc6 (by omega)) (fun v11 w9 hr10 => ?_) (fun _ _ h => h.elim) (fun _ h => h)
  obtain ⟨A8, c8, rfl, hrd8, ho8, hchg8⟩ := hr10
  have hz12 := hchg8.size
  have hsl_ : (sealed lb).length = 128 := by rw [sealed_length, hlb]
  refine tl_val (w' := w9) rfl (do_assign rfl) (by decide) ?_
  refine tl_end ?_
  refine fun a_ ha_ => hK7 _ _ _ (T.sub (L' := [(0, .agg (bs lb).toArray), (1, .pointer (some ⟨w.heap.size, 0, none⟩)), (2, .bool false), (3, .slice A8 ((sealed lb).length) c8)]) ?_ (sub_cons rfl (sub_cons rfl (sub_cons rfl (sub_cons rfl sub_nil))))) a_ ha_
  refine t_seq (fun K13 hK13 => ?_)
  refine t_region ?_
  refine tl_val rfl (do_buildSlice (vs := []) (v := .slice (some ⟨w9.heap.size, 0, none⟩) 0 0) (w' := w9.alloc (.cells #[] 5)) rfl (by kernel_rfl)) (by decide) ?_
  refine tl_gen (fun w14 e15 => ?_)
  have hb16 : Chg (fun _ => False) w9 w14 := e15 ▸ Chg.alloc _ _
  have hz17 : w14.heap.size = w9.heap.size + 1 := by rw [e15]; exact size_alloc _ _
  have hc18 : w14.heap[w9.heap.size]? = some (.cells #[] 5 (0, 0)) := by rw [e15]; exact obj_new _ _
  clear e15
  refine tl_val (w' := w14) rfl (do_move rfl) (by decide) ?_
  have ho19 : OwB w14 w9.heap.size (.slice (some ⟨w9.heap.size, 0, none⟩) 0 0) ([] : List UInt8) := OwB.of_obj (l := ([] : List UInt8)) (cs := []) hc18 (by rfl) (Nat.le_refl _) (by decide)
  have h21 := (Rd.chg hrd8 hrd8 hb16 (fun _ _ x => x))
  obtain ⟨v20, w22, hr20, ho20, hg20⟩ := app_run ho19 h21 (by omega) (by first | omega | (simp only [List.length_append, List.length_replicate, List.length_cons, List.length_nil]; omega))
  obtain ⟨A20, c20, rfl, hrd20⟩ := OwB.rd ho20
  have hz23 := hg20.size
  refine tl_val rfl (do_builtin rfl (fun ty_ cs_ => hr20 ty_ cs_)) (by decide) ?_
  have h25 := (TabW.chg (TabW.chg (TabW.chg (TabW.chg hT hb4 (fun x => x)) hchg8 (fun x => x)) hb16 (fun x => x)) hg20 (fun e_ => by have := OwB.block ho19 _ e_.symm; omega))
  refine tl_call rfl (en_call (f := 16) (by kernel_rfl) rfl) rfl (get_e h25 hrd20) (fun v28 w26 hr27 => ?_) (fun _ _ h => h.elim) (fun _ h => h)
  obtain ⟨rfl, hchg24⟩ := hr27
  have hz29 := hchg24.size
  refine tl_val (w' := w26) rfl (do_move rfl) (by decide) ?_
  refine tl_val (w' := w26) rfl (do_extract (v := .agg #[.bool ((got (([] : List UInt8) ++ (sealed lb))).1.1), .int .i64 ((got (([] : List UInt8) ++ (sealed lb))).1.2.1), .int .i64 ((got (([] : List UInt8) ++ (sealed lb))).1.2.2.1), .int .i64 ((got (([] : List UInt8) ++ (sealed lb))).1.2.2.2)]) rfl rfl) (by decide) ?_
  refine tl_val (w' := w26) rfl (do_extract (v := .int .i64 (((got (([] : List UInt8) ++ (sealed lb))).2 : Nat) : Int)) rfl rfl) (by decide) ?_
  refine tl_val rfl (do_alloc (v := .pointer (some ⟨w26.heap.size, 0, none⟩)) (w' := w26.alloc (.cells #[.bool false, .int .i64 0, .int .i64 0, .int .i64 0] 23)) (by kernel_rfl)) (by decide) ?_
  refine tl_gen (fun w30 e31 => ?_)
  have hb32 : Chg (fun _ => False) w26 w30 := e31 ▸ Chg.alloc _ _
  have hz33 : w30.heap.size = w26.heap.size + 1 := by rw [e31]; exact size_alloc _ _
  have hc34 : w30.heap[w26.heap.size]? = some (.cells #[.bool false, .int .i64 0, .int .i64 0, .int .i64 0] 23 (0, 0)) := by rw [e31]; exact obj_new _ _
  clear e31
  refine tl_unit rfl (do_storesB (cs := [.bool ((got (([] : List UInt8) ++ (sealed lb))).1.1), .int .i64 ((got (([] : List UInt8) ++ (sealed lb))).1.2.1), .int .i64 ((got (([] : List UInt8) ++ (sealed lb))).1.2.2.1), .int .i64 ((got (([] : List UInt8) ++ (sealed lb))).1.2.2.2)]) rfl rfl (by rfl) (by kernel_rfl) hc34 (Nat.le_of_ble_eq_true rfl)) ?_
  refine tl_gen (fun w35 e36 => ?_)
  have hb37 : Chg (fun k => k = w26.heap.size) w30 w35 := e36 ▸ Chg.setCells _ _ 0 [.bool ((got (([] : List UInt8) ++ (sealed lb))).1.1), .int .i64 ((got (([] : List UInt8) ++ (sealed lb))).1.2.1), .int .i64 ((got (([] : List UInt8) ++ (sealed lb))).1.2.2.1), .int .i64 ((got (([] : List UInt8) ++ (sealed lb))).1.2.2.2)]
  have hz38 : w35.heap.size = w30.heap.size := by rw [e36]; exact sc_size _ _ _ _
  have hc39 : w35.heap[w26.heap.size]? = some (.cells #[.bool ((got (([] : List UInt8) ++ (sealed lb))).1.1), .int .i64 ((got (([] : List UInt8) ++ (sealed lb))).1.2.1), .int .i64 ((got (([] : List UInt8) ++ (sealed lb))).1.2.2.1), .int .i64 ((got (([] : List UInt8) ++ (sealed lb))).1.2.2.2)] 23 (0, 0)) := by rw [e36]; exact obj_setCells [.bool ((got (([] : List UInt8) ++ (sealed lb))).1.1), .int .i64 ((got (([] : List UInt8) ++ (sealed lb))).1.2.1), .int .i64 ((got (([] : List UInt8) ++ (sealed lb))).1.2.2.1), .int .i64 ((got (([] : List UInt8) ++ (sealed lb))).1.2.2.2)] 0 hc34
  clear e36
  refine tl_val (w' := w35) rfl (do_assign rfl) (by decide) ?_
  refine tl_end ?_
  refine fun a_ ha_ => hK13 _ _ _ (T.sub (L' := [(0, .agg (bs lb).toArray), (1, .pointer (some ⟨w.heap.size, 0, none⟩)), (2, .bool false), (3, .slice A8 ((sealed lb).length) c8), (4, .pointer (some ⟨w26.heap.size, 0, none⟩)), (5, .int .i64 (((got (([] : List UInt8) ++ (sealed lb))).2 : Nat) : Int))]) ?_ (sub_cons rfl (sub_cons rfl (sub_cons rfl (sub_cons rfl (sub_cons rfl (sub_cons rfl sub_nil))))))) a_ ha_
  refine t_seq (fun K40 hK40 => ?_)
  refine t_region ?_
  refine tl_val (w' := w35) rfl (do_move rfl) (by decide) ?_
  have h42 := (Rd.chgNe (Rd.chg hrd8 (Rd.chg hrd8 (Rd.chg hrd8 h21 hg20 (fun k_ hk_ e_ => by have := OwB.block ho19 _ e_.symm; omega)) hchg24 (fun _ _ x => x)) hb32 (fun _ _ x => x)) hb37 (fun a_ h1_ h2_ => Rd.ne (cs := [.bool false, .int .i64 0, .int .i64 0, .int .i64 0]) (Rd.chg hrd8 (Rd.chg hrd8 (Rd.chg hrd8 h21 hg20 (fun k_ hk_ e_ => by have := OwB.block ho19 _ e_.symm; omega)) hchg24 (fun _ _ x => x)) hb32 (fun _ _ x => x)) hc34 (by rfl) a_ h1_ h2_))
  refine tl_call rfl (en_call (f := 17) (by kernel_rfl) rfl) rfl (rget_e h42) (fun v45 w43 hr44 => ?_) (fun _ _ h => h.elim) (fun _ h => h)
  obtain ⟨rfl, hchg41⟩ := hr44
  have hz46 := hchg41.size
  refine tl_val (w' := w43) rfl (do_move rfl) (by decide) ?_
  refine tl_val (w' := w43) rfl (do_extract (v := .agg #[.bool ((got (sealed lb)).1.1), .int .i64 ((got (sealed lb)).1.2.1), .int .i64 ((got (sealed lb)).1.2.2.1), .int .i64 ((got (sealed lb)).1.2.2.2)]) rfl rfl) (by decide) ?_
  refine tl_val (w' := w43) rfl (do_extract (v := .int .i64 (((got (sealed lb)).2 : Nat) : Int)) rfl rfl) (by decide) ?_
  refine tl_val rfl (do_alloc (v := .pointer (some ⟨w43.heap.size, 0, none⟩)) (w' := w43.alloc (.cells #[.bool false, .int .i64 0, .int .i64 0, .int .i64 0] 23)) (by kernel_rfl)) (by decide) ?_
  refine tl_gen (fun w47 e48 => ?_)
  have hb49 : Chg (fun _ => False) w43 w47 := e48 ▸ Chg.alloc _ _
  have hz50 : w47.heap.size = w43.heap.size + 1 := by rw [e48]; exact size_alloc _ _
  have hc51 : w47.heap[w43.heap.size]? = some (.cells #[.bool false, .int .i64 0, .int .i64 0, .int .i64 0] 23 (0, 0)) := by rw [e48]; exact obj_new _ _
  clear e48
  refine tl_unit rfl (do_storesB (cs := [.bool ((got (sealed lb)).1.1), .int .i64 ((got (sealed lb)).1.2.1), .int .i64 ((got (sealed lb)).1.2.2.1), .int .i64 ((got (sealed lb)).1.2.2.2)]) rfl rfl (by rfl) (by kernel_rfl) hc51 (Nat.le_of_ble_eq_true rfl)) ?_
  refine tl_gen (fun w52 e53 => ?_)
  have hb54 : Chg (fun k => k = w43.heap.size) w47 w52 := e53 ▸ Chg.setCells _ _ 0 [.bool ((got (sealed lb)).1.1), .int .i64 ((got (sealed lb)).1.2.1), .int .i64 ((got (sealed lb)).1.2.2.1), .int .i64 ((got (sealed lb)).1.2.2.2)]
  have hz55 : w52.heap.size = w47.heap.size := by rw [e53]; exact sc_size _ _ _ _
  have hc56 : w52.heap[w43.heap.size]? = some (.cells #[.bool ((got (sealed lb)).1.1), .int .i64 ((got (sealed lb)).1.2.1), .int .i64 ((got (sealed lb)).1.2.2.1), .int .i64 ((got (sealed lb)).1.2.2.2)] 23 (0, 0)) := by rw [e53]; exact obj_setCells [.bool ((got (sealed lb)).1.1), .int .i64 ((got (sealed lb)).1.2.1), .int .i64 ((got (sealed lb)).1.2.2.1), .int .i64 ((got (sealed lb)).1.2.2.2)] 0 hc51
  clear e53
  refine tl_val (w' := w52) rfl (do_assign rfl) (by decide) ?_
  refine tl_end ?_
  refine fun a_ ha_ => hK40 _ _ _ (T.sub (L' := [(0, .agg (bs lb).toArray), (1, .pointer (some ⟨w.heap.size, 0, none⟩)), (2, .bool false), (3, .slice A8 ((sealed lb).length) c8), (4, .pointer (some ⟨w26.heap.size, 0, none⟩)), (5, .int .i64 (((got (([] : List UInt8) ++ (sealed lb))).2 : Nat) : Int)), (6, .pointer (some ⟨w43.heap.size, 0, none⟩)), (7, .int .i64 (((got (sealed lb)).2 : Nat) : Int))]) ?_ (sub_cons rfl (sub_cons rfl (sub_cons rfl (sub_cons rfl (sub_cons rfl (sub_cons rfl (sub_cons rfl (sub_cons rfl sub_nil))))))))) a_ ha_
  refine t_seq (fun K57 hK57 => ?_)
  refine t_region ?_
  have h58 := (hb54.obj (show ¬ w26.heap.size = w43.heap.size by omega) (hb49.obj (fun x => x) (hchg41.obj (fun x => x) hc39)))
  refine tl_val (w' := w52) rfl (do_loads (cs := [.bool ((got (([] : List UInt8) ++ (sealed lb))).1.1), .int .i64 ((got (([] : List UInt8) ++ (sealed lb))).1.2.1), .int .i64 ((got (([] : List UInt8) ++ (sealed lb))).1.2.2.1), .int .i64 ((got (([] : List UInt8) ++ (sealed lb))).1.2.2.2)]) rfl (by kernel_rfl) (obj_range h58)) (by decide) ?_
  refine tl_val (w' := w52) rfl (do_loads (cs := [.bool ((got (sealed lb)).1.1), .int .i64 ((got (sealed lb)).1.2.1), .int .i64 ((got (sealed lb)).1.2.2.1), .int .i64 ((got (sealed lb)).1.2.2.2)]) rfl (by kernel_rfl) (obj_range hc56)) (by decide) ?_
  refine tl_val (w' := w52) rfl (do_eqst (p := ((got (([] : List UInt8) ++ (sealed lb))).1.1) = ((got (sealed lb)).1.1) ∧ ((got (([] : List UInt8) ++ (sealed lb))).1.2.1) = ((got (sealed lb)).1.2.1) ∧ ((got (([] : List UInt8) ++ (sealed lb))).1.2.2.1) = ((got (sealed lb)).1.2.2.1) ∧ ((got (([] : List UInt8) ++ (sealed lb))).1.2.2.2) = ((got (sealed lb)).1.2.2.2)) (xs := [.b ((got (([] : List UInt8) ++ (sealed lb))).1.1), .i .i64 ((got (([] : List UInt8) ++ (sealed lb))).1.2.1), .i .i64 ((got (([] : List UInt8) ++ (sealed lb))).1.2.2.1), .i .i64 ((got (([] : List UInt8) ++ (sealed lb))).1.2.2.2)]) (ys := [.b ((got (sealed lb)).1.1), .i .i64 ((got (sealed lb)).1.2.1), .i .i64 ((got (sealed lb)).1.2.2.1), .i .i64 ((got (sealed lb)).1.2.2.2)]) rfl rfl (by kernel_rfl) rfl (by simp [all2, Sc.same])) (by decide) ?_
  refine tl_val (w' := w52) rfl (do_move rfl) (by decide) ?_
  have hk59 : (decide (((got (([] : List UInt8) ++ (sealed lb))).1.1) = ((got (sealed lb)).1.1) ∧ ((got (([] : List UInt8) ++ (sealed lb))).1.2.1) = ((got (sealed lb)).1.2.1) ∧ ((got (([] : List UInt8) ++ (sealed lb))).1.2.2.1) = ((got (sealed lb)).1.2.2.1) ∧ ((got (([] : List UInt8) ++ (sealed lb))).1.2.2.2) = ((got (sealed lb)).1.2.2.2))) = true := (decide_eq_true (show ((got (([] : List UInt8) ++ (sealed lb))).1.1) = ((got (sealed lb)).1.1) ∧ ((got (([] : List UInt8) ++ (sealed lb))).1.2.1) = ((got (sealed lb)).1.2.1) ∧ ((got (([] : List UInt8) ++ (sealed lb))).1.2.2.1) = ((got (sealed lb)).1.2.2.1) ∧ ((got (([] : List UInt8) ++ (sealed lb))).1.2.2.2) = ((got (sealed lb)).1.2.2.2) from ⟨rfl, rfl, rfl, rfl⟩))
  refine tl_val (w' := w52) ⟨25, _, rfl, rfl, (by rw [hk59]; rfl)⟩ (do_move rfl) (by decide) ?_
  refine tl_val (w' := w52) ⟨25, _, rfl, rfl, (by rw [hk59]; rfl)⟩ (do_move rfl) (by decide) ?_
  refine tl_val (w' := w52) ⟨25, _, rfl, rfl, (by rw [hk59]; rfl)⟩ (do_eql rfl rfl) (by decide) ?_
  refine tl_val (w' := w52) rfl (do_pick_t rfl hk59 rfl) (by decide) ?_
  refine tl_val (w' := w52) rfl (do_move rfl) (by decide) ?_
  have hk60 : (decide ((((got (([] : List UInt8) ++ (sealed lb))).2 : Nat) : Int) = (((got (sealed lb)).2 : Nat) : Int))) = true := (decide_eq_true (show (((got (([] : List UInt8) ++ (sealed lb))).2 : Nat) : Int) = (((got (sealed lb)).2 : Nat) : Int) from rfl))
  have h62 := (TabW.chg (TabW.chg (TabW.chg (TabW.chg (TabW.chg (TabW.chg h25 hchg24 (fun x => x)) hb32 (fun x => x)) hb37 (show ¬ 0 = w26.heap.size by omega)) hchg41 (fun x => x)) hb49 (fun x => x)) hb54 (show ¬ 0 = w43.heap.size by omega))
  refine tl_call ⟨30, _, rfl, rfl, (by rw [hk60]; rfl)⟩ (en_call (f := 15) (by kernel_rfl) rfl) rfl (awake18_e h62) (fun v65 w63 hr64 => ?_) (fun _ _ h => h.elim) (fun _ h => h)
  obtain ⟨rfl, hchg61⟩ := hr64
  have hz66 := hchg61.size
  refine tl_val (w' := w63) rfl (do_pick_t rfl hk60 rfl) (by decide) ?_
  refine tl_val (w' := w63) rfl (do_assign rfl) (by decide) ?_
  refine tl_end ?_
  refine fun a_ ha_ => hK57 _ _ _ (T.sub (L' := [(0, .agg (bs lb).toArray), (1, .pointer (some ⟨w.heap.size, 0, none⟩)), (2, .bool true), (3, .slice A8 ((sealed lb).length) c8), (4, .pointer (some ⟨w26.heap.size, 0, none⟩)), (5, .int .i64 (((got (([] : List UInt8) ++ (sealed lb))).2 : Nat) : Int)), (6, .pointer (some ⟨w43.heap.size, 0, none⟩)), (7, .int .i64 (((got (sealed lb)).2 : Nat) : Int))]) ?_ (sub_cons rfl (sub_cons rfl (sub_cons rfl (sub_cons rfl (sub_cons rfl (sub_cons rfl (sub_cons rfl (sub_cons rfl sub_nil))))))))) a_ ha_
  refine t_ret ?_
  refine fun a_ ha_ => hQ0 _ _ _ (body_ret (rs := [.tmp 2]) (vs := [.bool true]) ha_ (by kernel_rfl) ⟨_, _, rfl, rfl, rfl⟩ ?_)
  exact ⟨rfl, ((((((((((((Chg.refl (fun k_ => False) w).step hb4 (fun k_ hk_ (h_ : False) => h_.elim)).step hchg8 (fun k_ hk_ (h_ : False) => h_.elim)).step hb16 (fun k_ hk_ (h_ : False) => h_.elim)).step hg20 (fun k_ hk_ (h_ : some k_ = Value.ownBlock (.slice (some ⟨w9.heap.size, 0, none⟩) 0 0)) => (show False by have := OwB.block ho19 _ h_.symm; omega))).step hchg24 (fun k_ hk_ (h_ : False) => h_.elim)).step hb32 (fun k_ hk_ (h_ : False) => h_.elim)).step hb37 (fun k_ hk_ (h_ : k_ = w26.heap.size) => (show False by omega))).step hchg41 (fun k_ hk_ (h_ : False) => h_.elim)).step hb49 (fun k_ hk_ (h_ : False) => h_.elim)).step hb54 (fun k_ hk_ (h_ : k_ = w43.heap.size) => (show False by omega))).step hchg61 (fun k_ hk_ (h_ : False) => h_.elim))⟩
end Go.Proofs.YtfmpbbeacpdalaaDoor
