/-
  The reference's Get.
-/
import Derived.Test.YtfmpbbeacpdalaaDoorHROpen
import Derived.Test.YtfmpbbeacpdalaaDoorHGet
import Derived.OpenShut
set_option linter.unusedVariables false
set_option linter.unusedSimpArgs false
set_option maxRecDepth 100000
namespace Go.Proofs.YtfmpbbeacpdalaaDoor
open Go.RowKit

theorem rnum2_e {A : Option Addr} {c : Nat} {l : List UInt8} {w : World} (ha : Rd w A c l) (hll : l.length ≤ 1000000) : Calls Tryd.prog 34 [.slice A l.length c].toArray w
    (Ret fun v w' => ∃ m : Int, v = .int .i64 m ∧ (-1 ≤ m ∧ m ≤ 9223372036854775807) ∧ (∀ x, numA l 0 8 false = .ok (.int .i64 x) → m = x) ∧ Chg (fun _ => False) w w') := (rnum_e ha hll).mono fun e w' h => by
  cases e with
  | returned v =>
    obtain ⟨h, hc⟩ := h
    rcases h with ⟨n, rfl, hn⟩ | ⟨rfl, k, hk⟩
    · have := hn.2.2.2
      exact ⟨_, rfl, by omega, fun x hx => hn.eq hx, hc⟩
    · exact ⟨_, rfl, by omega, fun x hx => (hk.not hx).elim, hc⟩
  | panicked ch => exact h
  | outgrown => exact h
theorem two_one {l : List UInt8} {g la : Int} (h : TwoOf l g la) : numA ((l.drop 0).take 8) 0 8 false = .ok (.int .i64 g) ∧ numA ((l.drop 8).take 8) 0 8 false = .ok (.int .i64 la) := by
  obtain ⟨hg, hl, rest, rfl⟩ := h
  have h1 := num_told [] [] g 8 false (by simp) hg.2
  have h2 := num_told [] [] la 8 false (by simp) hl.2
  rw [mod8 hg.1 hg.2] at h1
  rw [mod8 hl.1 hl.2] at h2
  have e1 : ((told g 8 false ++ told la 8 false ++ rest).drop 0).take 8 = told g 8 false := by
    rw [List.drop_zero, List.append_assoc, List.take_append_of_le_length (by rw [told_length]; exact Nat.le_refl _), List.take_of_length_le (by rw [told_length]; exact Nat.le_refl _)]
  have e2 : ((told g 8 false ++ told la 8 false ++ rest).drop 8).take 8 = told la 8 false := by
    rw [List.append_assoc, List.drop_append_of_le_length (by rw [told_length]; exact Nat.le_refl _), List.drop_of_length_le (by rw [told_length]; exact Nat.le_refl _), List.nil_append, List.take_append_of_le_length (by rw [told_length]; exact Nat.le_refl _), List.take_of_length_le (by rw [told_length]; exact Nat.le_refl _)]
  rw [e1, e2]
  simp only [List.nil_append, List.append_nil, List.length_nil] at h1 h2
  exact ⟨h1, h2⟩
theorem part_part {l : List UInt8} {a n b m : Nat} (h : b + m ≤ n) : ((l.drop a).take n |>.drop b).take m = (l.drop (a + b)).take m := by
  rw [List.drop_take, List.take_take, List.drop_drop, Nat.min_eq_left (by omega)]
theorem rsec_is {b : List UInt8} {bg : Bool} {g f la : Int} (hl : b.length = 128) (hO : ∀ big first, HdrOf ((b.drop 0).take (64 - 0)) big first → bg = big ∧ f = first)
    (h1 : ∀ x, numA ((b.drop 68).take (76 - 68)) 0 8 false = .ok (.int .i64 x) → g = x) (h2 : ∀ x, numA ((b.drop 76).take (84 - 76)) 0 8 false = .ok (.int .i64 x) → la = x) {x : Hd} (hx : x.right) (h : b = x.sec) : x = (bg, g, f, la) := by
  subst h
  have q1 := sec_hdr (big := x.1) hx
  have q2 := two_one (sec_two (big := x.1) hx 16 (by decide))
  have hl' : (x.sec).length = 128 := hl
  rw [List.take_take] at q1
  rw [part_part (by decide), part_part (by decide), List.drop_take, List.take_take, List.drop_take, List.take_take] at q2
  obtain ⟨rfl, rfl⟩ := hO _ _ q1
  obtain rfl := h1 _ q2.1
  obtain rfl := h2 _ q2.2
  rfl
theorem rsec_hdr {b : List UInt8} {x : Hd} (hx : x.right) (h : b = x.sec) : HdrOf ((b.drop 0).take (64 - 0)) x.1 x.2.2.1 := by
  subst h
  have q1 := sec_hdr (big := x.1) hx
  rw [List.take_take] at q1
  exact q1
set_option maxHeartbeats 1600000 in
theorem rget_e {w : World} {A : Option Addr} {c : Nat} {lb : List UInt8} (ha : Rd w A c lb) : Calls Tryd.prog 17 [.slice A lb.length c].toArray w (GetR w lb) := by
  have hla := ha.len
  refine enter (n := 58) (L := [(0, .slice A lb.length c)]) (args := [.slice A lb.length c]) Tryd.func17 rfl rfl (Nat.le_of_ble_eq_true rfl) (by intro t v h; exact look_args h) ?_
  refine t_body (fun Q0 hB0 hQ0 => ?_)
  refine t_seq (fun K1 hK1 => ?_)
  refine t_region ?_
  refine tl_val rfl (do_alloc (v := .pointer (some ⟨w.heap.size, 0, none⟩)) (w' := w.alloc (.cells #[.bool false, .int .i64 0, .int .i64 0, .int .i64 0] 23)) (by kernel_rfl)) (by decide) ?_
  refine tl_gen (fun w2 e3 => ?_)
  have hb4 : Chg (fun _ => False) w w2 := e3 ▸ Chg.alloc _ _
  have hz5 : w2.heap.size = w.heap.size + 1 := by rw [e3]; exact size_alloc _ _
  have hc6 : w2.heap[w.heap.size]? = some (.cells #[.bool false, .int .i64 0, .int .i64 0, .int .i64 0] 23 (0, 0)) := by rw [e3]; exact obj_new _ _
  clear e3
  refine tl_val (w' := w2) rfl (do_assign rfl) (by decide) ?_
  refine tl_end ?_
  refine fun a_ ha_ => hK1 _ _ _ (T.sub (L' := [(0, .slice A lb.length c), (2, .pointer (some ⟨w.heap.size, 0, none⟩)), (3, .int .i64 0)]) ?_ (sub_cons rfl (sub_cons rfl (sub_cons rfl sub_nil)))) a_ ha_
  refine t_seq (fun K7 hK7 => ?_)
  refine t_seq (fun K8 hK8 => ?_)
  refine t_region ?_
  refine tl_val (w' := w2) rfl (do_move rfl) (by decide) ?_
  refine tl_val (w' := w2) rfl (do_builtin (v := .int .i64 (lb.length : Int)) rfl (fun _ _ => by kernel_rfl)) (by decide) ?_
  refine tl_val (w' := w2) rfl (do_neq rfl rfl) (by decide) ?_
  refine tl_end ?_
  refine fun a_ ha_ => hK8 _ _ _ (T.sub (L' := [(0, .slice A lb.length c), (2, .pointer (some ⟨w.heap.size, 0, none⟩)), (3, .int .i64 0), (13, .bool (decide ((lb.length : Int) ≠ 128)))]) ?_ (sub_cons rfl (sub_cons rfl (sub_cons rfl (sub_cons rfl sub_nil))))) a_ ha_
  by_cases hc9 : (lb.length : Int) ≠ 128
  · have hk10 := decide_eq_true hc9
    refine t_yes rfl hk10 ?_
    refine t_seq (fun K11 hK11 => ?_)
    refine t_region ?_
    refine tl_val (w' := w2) rfl (do_build (vs := []) (v := .agg #[.bool false, .int .i64 0, .int .i64 0, .int .i64 0]) rfl (by kernel_rfl)) (by decide) ?_
    refine tl_unit rfl (do_storesB (cs := [.bool false, .int .i64 0, .int .i64 0, .int .i64 0]) rfl rfl (by rfl) (by kernel_rfl) hc6 (Nat.le_of_ble_eq_true rfl)) ?_
    refine tl_gen (fun w12 e13 => ?_)
    have hb14 : Chg (fun k => k = w.heap.size) w2 w12 := e13 ▸ Chg.setCells _ _ 0 [.bool false, .int .i64 0, .int .i64 0, .int .i64 0]
    have hz15 : w12.heap.size = w2.heap.size := by rw [e13]; exact sc_size _ _ _ _
    have hc16 : w12.heap[w.heap.size]? = some (.cells #[.bool false, .int .i64 0, .int .i64 0, .int .i64 0] 23 (0, 0)) := by rw [e13]; exact obj_setCells [.bool false, .int .i64 0, .int .i64 0, .int .i64 0] 0 hc6
    clear e13
    refine tl_val (w' := w12) rfl (do_assign rfl) (by decide) ?_
    refine tl_end ?_
    refine fun a_ ha_ => hK11 _ _ _ (T.sub (L' := [(0, .slice A lb.length c), (2, .pointer (some ⟨w.heap.size, 0, none⟩)), (3, .int .i64 1), (13, .bool (decide ((lb.length : Int) ≠ 128)))]) ?_ (sub_cons rfl (sub_cons rfl (sub_cons rfl (sub_cons rfl sub_nil))))) a_ ha_
    refine t_ret ?_
    refine fun a_ ha_ => hQ0 _ _ _ (body_ret (rs := [.cell 2 23, .tmp 3]) (vs := [.agg #[.bool false, .int .i64 0, .int .i64 0, .int .i64 0], .int .i64 1]) ha_ (by kernel_rfl) ⟨_, _, _, rfl, rfl, (load_whole (cs := [.bool false, .int .i64 0, .int .i64 0, .int .i64 0]) (by kernel_rfl) (obj_range hc16)), ⟨_, _, rfl, rfl, rfl⟩⟩ ?_)
    exact ⟨by rw [got_len (by omega)]; rfl, (((Chg.refl (fun k_ => False) w).step hb4 (fun k_ hk_ (h_ : False) => h_.elim)).step hb14 (fun k_ hk_ (h_ : k_ = w.heap.size) => (show False by omega)))⟩
  · have hk10 := decide_eq_false hc9
    refine t_no rfl hk10 ?_
    refine t_skip ?_
    refine fun a_ ha_ => hK7 _ _ _ (T.sub (L' := [(0, .slice A lb.length c), (2, .pointer (some ⟨w.heap.size, 0, none⟩)), (3, .int .i64 0), (13, .bool (decide ((lb.length : Int) ≠ 128)))]) ?_ (sub_cons rfl (sub_cons rfl (sub_cons rfl (sub_cons rfl sub_nil))))) a_ ha_
    refine t_seq (fun K17 hK17 => ?_)
    refine t_seq (fun K18 hK18 => ?_)
    refine t_region ?_
    refine tl_val (w' := w2) rfl (do_move rfl) (by decide) ?_
    have h20 := (Rd.chg ha ha hb4 (fun _ _ x => x))
    refine tl_call rfl (en_call (f := 33) (by kernel_rfl) rfl) rfl (rcheck_e h20 (by omega)) (fun v23 w21 hr22 => ?_) (fun _ _ h => h.elim) (fun _ h => h)
    obtain ⟨A19, c19, rfl, hrd19, hchg19⟩ := hr22
    have hz24 := hchg19.size
    refine tl_val (w' := w21) rfl (do_move rfl) (by decide) ?_
    refine tl_val (w' := w21) rfl (do_extract (v := .slice A19 ((chk lb).1.length) c19) rfl rfl) (by decide) ?_
    refine tl_val (w' := w21) rfl (do_extract (v := .int .i64 (((chk lb).2 : Nat) : Int)) rfl rfl) (by decide) ?_
    refine tl_val (w' := w21) rfl (do_assign rfl) (by decide) ?_
    refine tl_val (w' := w21) rfl (do_assign rfl) (by decide) ?_
    refine tl_end ?_
    refine fun a_ ha_ => hK18 _ _ _ (T.sub (L' := [(0, .slice A lb.length c), (2, .pointer (some ⟨w.heap.size, 0, none⟩)), (3, .int .i64 0), (5, .int .i64 (((chk lb).2 : Nat) : Int)), (13, .bool (decide ((lb.length : Int) ≠ 128)))]) ?_ (sub_cons rfl (sub_cons rfl (sub_cons rfl (sub_cons rfl (sub_cons rfl sub_nil)))))) a_ ha_
    refine t_seq (fun K25 hK25 => ?_)
    refine t_region ?_
    refine tl_val (w' := w21) rfl (do_move rfl) (by decide) ?_
    refine tl_val (w' := w21) rfl (do_neq rfl rfl) (by decide) ?_
    refine tl_end ?_
    refine fun a_ ha_ => hK25 _ _ _ (T.sub (L' := [(0, .slice A lb.length c), (2, .pointer (some ⟨w.heap.size, 0, none⟩)), (3, .int .i64 0), (5, .int .i64 (((chk lb).2 : Nat) : Int)), (13, .bool (decide ((lb.length : Int) ≠ 128))), (21, .bool (decide ((((chk lb).2 : Nat) : Int) ≠ 0)))]) ?_ (sub_cons rfl (sub_cons rfl (sub_cons rfl (sub_cons rfl (sub_cons rfl (sub_cons rfl sub_nil))))))) a_ ha_
    by_cases hc26 : (((chk lb).2 : Nat) : Int) ≠ 0
    · have hk27 := decide_eq_true hc26
      refine t_yes rfl hk27 ?_
      refine t_seq (fun K28 hK28 => ?_)
      refine t_region ?_
      refine tl_val (w' := w21) rfl (do_build (vs := []) (v := .agg #[.bool false, .int .i64 0, .int .i64 0, .int .i64 0]) rfl (by kernel_rfl)) (by decide) ?_
      have h29 := (hchg19.obj (fun x => x) hc6)
      refine tl_unit rfl (do_storesB (cs := [.bool false, .int .i64 0, .int .i64 0, .int .i64 0]) rfl rfl (by rfl) (by kernel_rfl) h29 (Nat.le_of_ble_eq_true rfl)) ?_
      refine tl_gen (fun w30 e31 => ?_)
      have hb32 : Chg (fun k => k = w.heap.size) w21 w30 := e31 ▸ Chg.setCells _ _ 0 [.bool false, .int .i64 0, .int .i64 0, .int .i64 0]
      have hz33 : w30.heap.size = w21.heap.size := by rw [e31]; exact sc_size _ _ _ _
      have hc34 : w30.heap[w.heap.size]? = some (.cells #[.bool false, .int .i64 0, .int .i64 0, .int .i64 0] 23 (0, 0)) := by rw [e31]; exact obj_setCells [.bool false, .int .i64 0, .int .i64 0, .int .i64 0] 0 h29
      clear e31
      refine tl_val (w' := w30) rfl (do_assign rfl) (by decide) ?_
      refine tl_end ?_
      refine fun a_ ha_ => hK28 _ _ _ (T.sub (L' := [(0, .slice A lb.length c), (2, .pointer (some ⟨w.heap.size, 0, none⟩)), (3, .int .i64 8), (5, .int .i64 (((chk lb).2 : Nat) : Int)), (13, .bool (decide ((lb.length : Int) ≠ 128))), (21, .bool (decide ((((chk lb).2 : Nat) : Int) ≠ 0)))]) ?_ (sub_cons rfl (sub_cons rfl (sub_cons rfl (sub_cons rfl (sub_cons rfl (sub_cons rfl sub_nil))))))) a_ ha_
      refine t_ret ?_
      refine fun a_ ha_ => hQ0 _ _ _ (body_ret (rs := [.cell 2 23, .tmp 3]) (vs := [.agg #[.bool false, .int .i64 0, .int .i64 0, .int .i64 0], .int .i64 8]) ha_ (by kernel_rfl) ⟨_, _, _, rfl, rfl, (load_whole (cs := [.bool false, .int .i64 0, .int .i64 0, .int .i64 0]) (by kernel_rfl) (obj_range hc34)), ⟨_, _, rfl, rfl, rfl⟩⟩ ?_)
      have hck2_ := got_chk (b := lb) (by omega) (by omega)
      exact ⟨by rw [hck2_.1]; rfl, ((((Chg.refl (fun k_ => False) w).step hb4 (fun k_ hk_ (h_ : False) => h_.elim)).step hchg19 (fun k_ hk_ (h_ : False) => h_.elim)).step hb32 (fun k_ hk_ (h_ : k_ = w.heap.size) => (show False by omega)))⟩
    · have hk27 := decide_eq_false hc26
      have hck_ : (chk lb).2 = 0 := by omega
      have hlb_ : lb.length = 128 := by omega
      refine t_no rfl hk27 ?_
      refine t_skip ?_
      refine fun a_ ha_ => hK17 _ _ _ (T.sub (L' := [(0, .slice A lb.length c), (2, .pointer (some ⟨w.heap.size, 0, none⟩)), (3, .int .i64 0), (5, .int .i64 (((chk lb).2 : Nat) : Int)), (13, .bool (decide ((lb.length : Int) ≠ 128))), (21, .bool (decide ((((chk lb).2 : Nat) : Int) ≠ 0)))]) ?_ (sub_cons rfl (sub_cons rfl (sub_cons rfl (sub_cons rfl (sub_cons rfl (sub_cons rfl sub_nil))))))) a_ ha_
      refine t_seq (fun K35 hK35 => ?_)
      refine t_region ?_
      refine tl_val (w' := w21) rfl (do_move rfl) (by decide) ?_
      have h36 := (Rd.chg ha h20 hchg19 (fun _ _ x => x))
      have hs37 := fun W => slice_rd (P := Tryd.prog) (t := 24) (lo := 0) (hi := 64) (l' := none) (h' := (some (.int .i64 64))) h36 (by kernel_rfl) (by omega) (by omega) (by omega) (.inl ⟨rfl, rfl⟩) (.inr ⟨_, rfl⟩) W
      refine tl_val (w' := w21) rfl (do_slice (v := .slice (sub A c 0 1) (((lb.drop 0).take (64 - 0)).length) (c - 0)) rfl rfl rfl rfl (hs37 _).1) (by decide) ?_
      refine tl_call rfl (en_call (f := 19) (by kernel_rfl) rfl) rfl (ropen_e (hs37 w21).2 (by have := (hs37 w21).2.len; simp; omega)) (fun v41 w39 hr40 => ?_) (fun _ _ h => h.elim) (fun _ h => h)
      obtain ⟨e_, bg, f, rfl, hop_, hchg38⟩ := hr40
      have hz42 := hchg38.size
      refine tl_val (w' := w39) rfl (do_move rfl) (by decide) ?_
      refine tl_val (w' := w39) rfl (do_extract (v := .bool bg) rfl rfl) (by decide) ?_
      refine tl_val (w' := w39) rfl (do_extract (v := .int .i64 f) rfl rfl) (by decide) ?_
      refine tl_val (w' := w39) rfl (do_extract (v := .int .i64 e_) rfl rfl) (by decide) ?_
      refine tl_val (w' := w39) rfl (do_assign rfl) (by decide) ?_
      refine tl_val (w' := w39) rfl (do_assign rfl) (by decide) ?_
      refine tl_val (w' := w39) rfl (do_assign rfl) (by decide) ?_
      refine tl_end ?_
      refine fun a_ ha_ => hK35 _ _ _ (T.sub (L' := [(0, .slice A lb.length c), (2, .pointer (some ⟨w.heap.size, 0, none⟩)), (3, .int .i64 0), (5, .int .i64 (((chk lb).2 : Nat) : Int)), (6, .bool bg), (7, .int .i64 f), (8, .int .i64 e_), (13, .bool (decide ((lb.length : Int) ≠ 128))), (21, .bool (decide ((((chk lb).2 : Nat) : Int) ≠ 0)))]) ?_ (sub_cons rfl (sub_cons rfl (sub_cons rfl (sub_cons rfl (sub_cons rfl (sub_cons rfl (sub_cons rfl (sub_cons rfl (sub_cons rfl sub_nil)))))))))) a_ ha_
      refine t_seq (fun K43 hK43 => ?_)
      refine t_seq (fun K44 hK44 => ?_)
      refine t_region ?_
      refine tl_val (w' := w39) rfl (do_move rfl) (by decide) ?_
      refine tl_val (w' := w39) rfl (do_neq rfl rfl) (by decide) ?_
      refine tl_end ?_
      refine fun a_ ha_ => hK44 _ _ _ (T.sub (L' := [(0, .slice A lb.length c), (2, .pointer (some ⟨w.heap.size, 0, none⟩)), (3, .int .i64 0), (5, .int .i64 (((chk lb).2 : Nat) : Int)), (6, .bool bg), (7, .int .i64 f), (8, .int .i64 e_), (13, .bool (decide ((lb.length : Int) ≠ 128))), (21, .bool (decide ((((chk lb).2 : Nat) : Int) ≠ 0))), (31, .bool (decide (e_ ≠ 0)))]) ?_ (sub_cons rfl (sub_cons rfl (sub_cons rfl (sub_cons rfl (sub_cons rfl (sub_cons rfl (sub_cons rfl (sub_cons rfl (sub_cons rfl (sub_cons rfl sub_nil))))))))))) a_ ha_
      by_cases hc45 : e_ ≠ 0
      · have hk46 := decide_eq_true hc45
        have hno_ := got_bad hlb_ hck_ (fun x_ hx_ hb_ => (hop_.resolve_right (fun h_ => absurd h_.1 (by omega))).2.2.2 _ _ (rsec_hdr hx_ hb_))
        refine t_yes rfl hk46 ?_
        refine t_seq (fun K47 hK47 => ?_)
        refine t_region ?_
        refine tl_val (w' := w39) rfl (do_build (vs := []) (v := .agg #[.bool false, .int .i64 0, .int .i64 0, .int .i64 0]) rfl (by kernel_rfl)) (by decide) ?_
        have h48 := (hchg38.obj (fun x => x) (hchg19.obj (fun x => x) hc6))
        refine tl_unit rfl (do_storesB (cs := [.bool false, .int .i64 0, .int .i64 0, .int .i64 0]) rfl rfl (by rfl) (by kernel_rfl) h48 (Nat.le_of_ble_eq_true rfl)) ?_
        refine tl_gen (fun w49 e50 => ?_)
        have hb51 : Chg (fun k => k = w.heap.size) w39 w49 := e50 ▸ Chg.setCells _ _ 0 [.bool false, .int .i64 0, .int .i64 0, .int .i64 0]
        have hz52 : w49.heap.size = w39.heap.size := by rw [e50]; exact sc_size _ _ _ _
        have hc53 : w49.heap[w.heap.size]? = some (.cells #[.bool false, .int .i64 0, .int .i64 0, .int .i64 0] 23 (0, 0)) := by rw [e50]; exact obj_setCells [.bool false, .int .i64 0, .int .i64 0, .int .i64 0] 0 h48
        clear e50
        refine tl_val (w' := w49) rfl (do_assign rfl) (by decide) ?_
        refine tl_end ?_
        refine fun a_ ha_ => hK47 _ _ _ (T.sub (L' := [(0, .slice A lb.length c), (2, .pointer (some ⟨w.heap.size, 0, none⟩)), (3, .int .i64 4), (5, .int .i64 (((chk lb).2 : Nat) : Int)), (6, .bool bg), (7, .int .i64 f), (8, .int .i64 e_), (13, .bool (decide ((lb.length : Int) ≠ 128))), (21, .bool (decide ((((chk lb).2 : Nat) : Int) ≠ 0))), (31, .bool (decide (e_ ≠ 0)))]) ?_ (sub_cons rfl (sub_cons rfl (sub_cons rfl (sub_cons rfl (sub_cons rfl (sub_cons rfl (sub_cons rfl (sub_cons rfl (sub_cons rfl (sub_cons rfl sub_nil))))))))))) a_ ha_
        refine t_ret ?_
        refine fun a_ ha_ => hQ0 _ _ _ (body_ret (rs := [.cell 2 23, .tmp 3]) (vs := [.agg #[.bool false, .int .i64 0, .int .i64 0, .int .i64 0], .int .i64 4]) ha_ (by kernel_rfl) ⟨_, _, _, rfl, rfl, (load_whole (cs := [.bool false, .int .i64 0, .int .i64 0, .int .i64 0]) (by kernel_rfl) (obj_range hc53)), ⟨_, _, rfl, rfl, rfl⟩⟩ ?_)
        exact ⟨by rw [hno_]; rfl, (((((Chg.refl (fun k_ => False) w).step hb4 (fun k_ hk_ (h_ : False) => h_.elim)).step hchg19 (fun k_ hk_ (h_ : False) => h_.elim)).step hchg38 (fun k_ hk_ (h_ : False) => h_.elim)).step hb51 (fun k_ hk_ (h_ : k_ = w.heap.size) => (show False by omega)))⟩
      · have hk46 := decide_eq_false hc45
        obtain ⟨_, hfb_, hO_⟩ := hop_.resolve_left (fun h_ => h_.1 (by omega))
        refine t_no rfl hk46 ?_
        refine t_skip ?_
        refine fun a_ ha_ => hK43 _ _ _ (T.sub (L' := [(0, .slice A lb.length c), (2, .pointer (some ⟨w.heap.size, 0, none⟩)), (3, .int .i64 0), (5, .int .i64 (((chk lb).2 : Nat) : Int)), (6, .bool bg), (7, .int .i64 f), (8, .int .i64 e_), (13, .bool (decide ((lb.length : Int) ≠ 128))), (21, .bool (decide ((((chk lb).2 : Nat) : Int) ≠ 0))), (31, .bool (decide (e_ ≠ 0)))]) ?_ (sub_cons rfl (sub_cons rfl (sub_cons rfl (sub_cons rfl (sub_cons rfl (sub_cons rfl (sub_cons rfl (sub_cons rfl (sub_cons rfl (sub_cons rfl sub_nil))))))))))) a_ ha_
        refine t_seq (fun K54 hK54 => ?_)
        refine t_drawnC (fun _ => False) 10 (.take 0 { dst := (some 33), op := (Go.Op.move (Go.Operand.tmp 6)), type := 4, pos := "ref.go:61", after := #[], guard := none } (.take 1 { dst := (some 34), op := (Go.Op.move (Go.Operand.tmp 0)), type := 24, pos := "ref.go:61", after := #[], guard := none } (.take 2 { dst := (some 35), op := (Go.Op.slice 24 (Go.Operand.tmp 34) (some (Go.Operand.const (Go.Value.int Go.IntKind.i64 68))) (some (Go.Operand.const (Go.Value.int Go.IntKind.i64 76))) none), type := 24, pos := "ref.go:61", after := #[{ on := 1, ground := Go.Ground.data }], guard := none } (.take 4 { dst := (some 37), op := (Go.Op.move (Go.Operand.tmp 7)), type := 3, pos := "ref.go:61", after := #[], guard := none } (.take 5 { dst := (some 38), op := (Go.Op.move (Go.Operand.tmp 0)), type := 24, pos := "ref.go:61", after := #[], guard := none } (.take 6 { dst := (some 39), op := (Go.Op.slice 24 (Go.Operand.tmp 38) (some (Go.Operand.const (Go.Value.int Go.IntKind.i64 76))) (some (Go.Operand.const (Go.Value.int Go.IntKind.i64 84))) none), type := 24, pos := "ref.go:61", after := #[{ on := 5, ground := Go.Ground.data }], guard := none } (.two 3 { dst := (some 36), op := (Go.Op.call { callee := (Go.Callee.value (Go.Operand.func 34)), args := #[(Go.Operand.tmp 35)], argTypes := #[24] }), type := 3, pos := "ref.go:61", after := #[{ on := 2, ground := Go.Ground.data }], guard := none } (.two 7 { dst := (some 40), op := (Go.Op.call { callee := (Go.Callee.value (Go.Operand.func 34)), args := #[(Go.Operand.tmp 39)], argTypes := #[24] }), type := 3, pos := "ref.go:61", after := #[{ on := 6, ground := Go.Ground.data }, { on := 3, ground := Go.Ground.chain }], guard := none } (.take 8 { dst := (some 41), op := (Go.Op.build 23 #[(0, (Go.Operand.tmp 33)), (1, (Go.Operand.tmp 36)), (2, (Go.Operand.tmp 37)), (3, (Go.Operand.tmp 40))]), type := 23, pos := "ref.go:61", after := #[{ on := 0, ground := Go.Ground.data }, { on := 3, ground := Go.Ground.data }, { on := 4, ground := Go.Ground.data }, { on := 7, ground := Go.Ground.data }], guard := none } (.one 9 { dst := (some 9), op := (Go.Op.alloc 23), type := 0, pos := "ref.go:61", after := #[], guard := none } (.one 10 { dst := none, op := (Go.Op.store 23 (Go.Operand.tmp 9) (Go.Operand.tmp 41)), type := 0, pos := "ref.go:61", after := #[{ on := 9, ground := Go.Ground.data }, { on := 8, ground := Go.Ground.data }, { on := 7, ground := Go.Ground.chain }, { on := 0, ground := Go.Ground.phase }, { on := 1, ground := Go.Ground.phase }, { on := 2, ground := Go.Ground.phase }, { on := 3, ground := Go.Ground.phase }, { on := 4, ground := Go.Ground.phase }, { on := 5, ground := Go.Ground.phase }, { on := 6, ground := Go.Ground.phase }, { on := 7, ground := Go.Ground.phase }, { on := 8, ground := Go.Ground.phase }, { on := 9, ground := Go.Ground.phase }], guard := none } .done))) 9 { dst := (some 9), op := (Go.Op.alloc 23), type := 0, pos := "ref.go:61", after := #[], guard := none } (.one 7 { dst := (some 40), op := (Go.Op.call { callee := (Go.Callee.value (Go.Operand.func 34)), args := #[(Go.Operand.tmp 39)], argTypes := #[24] }), type := 3, pos := "ref.go:61", after := #[{ on := 6, ground := Go.Ground.data }, { on := 3, ground := Go.Ground.chain }], guard := none } (.take 8 { dst := (some 41), op := (Go.Op.build 23 #[(0, (Go.Operand.tmp 33)), (1, (Go.Operand.tmp 36)), (2, (Go.Operand.tmp 37)), (3, (Go.Operand.tmp 40))]), type := 23, pos := "ref.go:61", after := #[{ on := 0, ground := Go.Ground.data }, { on := 3, ground := Go.Ground.data }, { on := 4, ground := Go.Ground.data }, { on := 7, ground := Go.Ground.data }], guard := none } (.one 10 { dst := none, op := (Go.Op.store 23 (Go.Operand.tmp 9) (Go.Operand.tmp 41)), type := 0, pos := "ref.go:61", after := #[{ on := 9, ground := Go.Ground.data }, { on := 8, ground := Go.Ground.data }, { on := 7, ground := Go.Ground.chain }, { on := 0, ground := Go.Ground.phase }, { on := 1, ground := Go.Ground.phase }, { on := 2, ground := Go.Ground.phase }, { on := 3, ground := Go.Ground.phase }, { on := 4, ground := Go.Ground.phase }, { on := 5, ground := Go.Ground.phase }, { on := 6, ground := Go.Ground.phase }, { on := 7, ground := Go.Ground.phase }, { on := 8, ground := Go.Ground.phase }, { on := 9, ground := Go.Ground.phase }], guard := none } .done)))) 9 { dst := (some 9), op := (Go.Op.alloc 23), type := 0, pos := "ref.go:61", after := #[], guard := none } (.one 3 { dst := (some 36), op := (Go.Op.call { callee := (Go.Callee.value (Go.Operand.func 34)), args := #[(Go.Operand.tmp 35)], argTypes := #[24] }), type := 3, pos := "ref.go:61", after := #[{ on := 2, ground := Go.Ground.data }], guard := none } (.one 7 { dst := (some 40), op := (Go.Op.call { callee := (Go.Callee.value (Go.Operand.func 34)), args := #[(Go.Operand.tmp 39)], argTypes := #[24] }), type := 3, pos := "ref.go:61", after := #[{ on := 6, ground := Go.Ground.data }, { on := 3, ground := Go.Ground.chain }], guard := none } (.take 8 { dst := (some 41), op := (Go.Op.build 23 #[(0, (Go.Operand.tmp 33)), (1, (Go.Operand.tmp 36)), (2, (Go.Operand.tmp 37)), (3, (Go.Operand.tmp 40))]), type := 23, pos := "ref.go:61", after := #[{ on := 0, ground := Go.Ground.data }, { on := 3, ground := Go.Ground.data }, { on := 4, ground := Go.Ground.data }, { on := 7, ground := Go.Ground.data }], guard := none } (.one 10 { dst := none, op := (Go.Op.store 23 (Go.Operand.tmp 9) (Go.Operand.tmp 41)), type := 0, pos := "ref.go:61", after := #[{ on := 9, ground := Go.Ground.data }, { on := 8, ground := Go.Ground.data }, { on := 7, ground := Go.Ground.chain }, { on := 0, ground := Go.Ground.phase }, { on := 1, ground := Go.Ground.phase }, { on := 2, ground := Go.Ground.phase }, { on := 3, ground := Go.Ground.phase }, { on := 4, ground := Go.Ground.phase }, { on := 5, ground := Go.Ground.phase }, { on := 6, ground := Go.Ground.phase }, { on := 7, ground := Go.Ground.phase }, { on := 8, ground := Go.Ground.phase }, { on := 9, ground := Go.Ground.phase }], guard := none } .done))))))))))) rfl (by kernel_rfl) (by repeat (first | exact hB0 | apply blind_then | apply blind_in)) (by kernel_rfl) (by kernel_rfl) rfl (fun w55 hb56 hz57 => ?_)
        refine td_takeC rfl (by decide) (fun w_ h_ => (do_move rfl)) ?_
        refine td_takeC rfl (by decide) (fun w_ h_ => (do_move rfl)) ?_
        have h58 := (Rd.chg ha (Rd.chg ha h36 hchg38 (fun _ _ x => x)) hb56 (fun _ _ x => x))
        have hs59 := fun W => slice_rd (P := Tryd.prog) (t := 24) (lo := 68) (hi := 76) (l' := (some (.int .i64 68))) (h' := (some (.int .i64 76))) h58 (by kernel_rfl) (by omega) (by omega) (by omega) (.inr ⟨_, rfl⟩) (.inr ⟨_, rfl⟩) W
        refine td_takeC rfl (by decide) (fun w_ h_ => (do_slice (v := .slice (sub A c 68 1) (((lb.drop 68).take (76 - 68)).length) (c - 68)) rfl rfl rfl rfl (hs59 _).1)) ?_
        refine td_takeC rfl (by decide) (fun w_ h_ => (do_move rfl)) ?_
        refine td_takeC rfl (by decide) (fun w_ h_ => (do_move rfl)) ?_
        have hs60 := fun W => slice_rd (P := Tryd.prog) (t := 24) (lo := 76) (hi := 84) (l' := (some (.int .i64 76))) (h' := (some (.int .i64 84))) h58 (by kernel_rfl) (by omega) (by omega) (by omega) (.inr ⟨_, rfl⟩) (.inr ⟨_, rfl⟩) W
        refine td_takeC rfl (by decide) (fun w_ h_ => (do_slice (v := .slice (sub A c 76 1) (((lb.drop 76).take (84 - 76)).length) (c - 76)) rfl rfl rfl rfl (hs60 _).1)) ?_
        refine td_two ?_ ?_
        · refine td_callC rfl rfl (en_call (f := 34) (by kernel_rfl) rfl) (rnum2_e (hs59 w55).2 (by simp; omega)) (fun v64 w62 hr63 => ?_) (fun _ _ h => h.elim) (fun _ h => h)
          obtain ⟨m61, rfl, hmb61, hmx61, hchg61⟩ := hr63
          refine ⟨hchg61.mono (fun _ _ x => x.elim), ?_⟩
          have hz65 := hchg61.size
          refine td_two ?_ ?_
          · have h67 := (Rd.chg (hs60 w55).2 (hs60 w55).2 hchg61 (fun _ _ x => x))
            refine td_callC rfl rfl (en_call (f := 34) (by kernel_rfl) rfl) (rnum2_e h67 (by simp; omega)) (fun v70 w68 hr69 => ?_) (fun _ _ h => h.elim) (fun _ h => h)
            obtain ⟨m66, rfl, hmb66, hmx66, hchg66⟩ := hr69
            refine ⟨hchg66.mono (fun _ _ x => x.elim), ?_⟩
            have hz71 := hchg66.size
            refine td_takeC rfl (by decide) (fun w_ h_ => (do_build (vs := [.bool bg, .int .i64 m61, .int .i64 f, .int .i64 m66]) (v := .agg #[.bool bg, .int .i64 m61, .int .i64 f, .int .i64 m66]) rfl (by kernel_rfl))) ?_
            refine td_one ?_
            refine td_doesC rfl (by decide) (do_alloc (v := .pointer (some ⟨w68.heap.size, 0, none⟩)) (w' := w68.alloc (.cells #[.bool false, .int .i64 0, .int .i64 0, .int .i64 0] 23)) (by kernel_rfl)) ((Chg.alloc _ _).mono (fun _ _ x => x.elim)) ?_
            refine td_gen (fun w72 e73 => ?_)
            have hb74 : Chg (fun _ => False) w68 w72 := e73 ▸ Chg.alloc _ _
            have hz75 : w72.heap.size = w68.heap.size + 1 := by rw [e73]; exact size_alloc _ _
            have hc76 : w72.heap[w68.heap.size]? = some (.cells #[.bool false, .int .i64 0, .int .i64 0, .int .i64 0] 23 (0, 0)) := by rw [e73]; exact obj_new _ _
            clear e73
            refine td_one ?_
            refine td_lastC rfl (do_storesB (cs := [.bool bg, .int .i64 m61, .int .i64 f, .int .i64 m66]) rfl rfl (by rfl) (by kernel_rfl) hc76 (Nat.le_of_ble_eq_true rfl)) ?_
            refine tx_gen (fun w77 e78 => ?_)
            have hb79 : Chg (fun k => k = w68.heap.size) w72 w77 := e78 ▸ Chg.setCells _ _ 0 [.bool bg, .int .i64 m61, .int .i64 f, .int .i64 m66]
            have hz80 : w77.heap.size = w72.heap.size := by rw [e78]; exact sc_size _ _ _ _
            have hc81 : w77.heap[w68.heap.size]? = some (.cells #[.bool bg, .int .i64 m61, .int .i64 f, .int .i64 m66] 23 (0, 0)) := by rw [e78]; exact obj_setCells [.bool bg, .int .i64 m61, .int .i64 f, .int .i64 m66] 0 hc76
            clear e78
            refine fun a_ ha_ => hK54 _ _ _ (T.sub (L' := [(0, .slice A lb.length c), (2, .pointer (some ⟨w.heap.size, 0, none⟩)), (3, .int .i64 0), (5, .int .i64 (((chk lb).2 : Nat) : Int)), (6, .bool bg), (7, .int .i64 f), (8, .int .i64 e_), (9, .pointer (some ⟨w68.heap.size, 0, none⟩)), (13, .bool (decide ((lb.length : Int) ≠ 128))), (21, .bool (decide ((((chk lb).2 : Nat) : Int) ≠ 0))), (31, .bool (decide (e_ ≠ 0)))]) ?_ (sub_cons rfl (sub_cons rfl (sub_cons rfl (sub_cons rfl (sub_cons rfl (sub_cons rfl (sub_cons rfl (sub_cons rfl (sub_cons rfl (sub_cons rfl (sub_cons rfl sub_nil)))))))))))) a_ ha_
            refine t_seq (fun K82 hK82 => ?_)
            refine t_region ?_
            refine tl_val (w' := w77) rfl (do_loads (cs := [.bool bg, .int .i64 m61, .int .i64 f, .int .i64 m66]) rfl (by kernel_rfl) (obj_range hc81)) (by decide) ?_
            refine tl_call rfl (en_call (f := 12) (by kernel_rfl) rfl) rfl (rhput_e bg m61 f m66 _ (by omega) (by omega) (by omega)) (fun v86 w84 hr85 => ?_) (fun _ _ h => h.elim) (fun _ h => h)
            obtain ⟨hchg83, hp83⟩ := hr85
            have hz87 := hchg83.size
            rcases hp83 with ⟨hright_, A83, c83, rfl, hrd83, ho83⟩ | ⟨hright_, rfl⟩
            · refine tl_val (w' := w84) rfl (do_move rfl) (by decide) ?_
              refine tl_val (w' := w84) rfl (do_extract (v := .slice A83 ((sector bg m61 f m66).length) c83) rfl rfl) (by decide) ?_
              refine tl_val (w' := w84) rfl (do_extract (v := .int .i64 0) rfl rfl) (by decide) ?_
              refine tl_val (w' := w84) rfl (do_assign rfl) (by decide) ?_
              refine tl_val (w' := w84) rfl (do_assign rfl) (by decide) ?_
              refine tl_end ?_
              refine fun a_ ha_ => hK82 _ _ _ (T.sub (L' := [(0, .slice A lb.length c), (2, .pointer (some ⟨w.heap.size, 0, none⟩)), (3, .int .i64 0), (5, .int .i64 (((chk lb).2 : Nat) : Int)), (6, .bool bg), (7, .int .i64 f), (8, .int .i64 0), (9, .pointer (some ⟨w68.heap.size, 0, none⟩)), (10, .slice A83 ((sector bg m61 f m66).length) c83), (13, .bool (decide ((lb.length : Int) ≠ 128))), (21, .bool (decide ((((chk lb).2 : Nat) : Int) ≠ 0))), (31, .bool (decide (e_ ≠ 0)))]) ?_ (sub_cons rfl (sub_cons rfl (sub_cons rfl (sub_cons rfl (sub_cons rfl (sub_cons rfl (sub_cons rfl (sub_cons rfl (sub_cons rfl (sub_cons rfl (sub_cons rfl (sub_cons rfl sub_nil))))))))))))) a_ ha_
              refine t_seq (fun K88 hK88 => ?_)
              refine t_seq (fun K89 hK89 => ?_)
              refine t_region ?_
              refine tl_val (w' := w84) rfl (do_move rfl) (by decide) ?_
              refine tl_val (w' := w84) rfl (do_neq rfl rfl) (by decide) ?_
              have hk90 : (decide ((0 : Int) ≠ 0)) = false := by decide
              refine tl_val (w' := w84) rfl (do_move rfl) (by decide) ?_
              refine tl_val (w' := w84) ⟨49, _, rfl, rfl, (by rw [hk90]; rfl)⟩ (do_move rfl) (by decide) ?_
              refine tl_val (w' := w84) ⟨49, _, rfl, rfl, (by rw [hk90]; rfl)⟩ (do_convert (u := .slice A83 ((sector bg m61 f m66).length) c83) rfl (run_str hrd83)) (by decide) ?_
              refine tl_val (w' := w84) ⟨49, _, rfl, rfl, (by rw [hk90]; rfl)⟩ (do_move rfl) (by decide) ?_
              have h91 := (Rd.chg ha (Rd.chgNe (Rd.chg ha (Rd.chg ha (Rd.chg ha h58 hchg61 (fun _ _ x => x)) hchg66 (fun _ _ x => x)) hb74 (fun _ _ x => x)) hb79 (fun a_ h1_ h2_ => Rd.ne (cs := [.bool false, .int .i64 0, .int .i64 0, .int .i64 0]) (Rd.chg ha (Rd.chg ha (Rd.chg ha h58 hchg61 (fun _ _ x => x)) hchg66 (fun _ _ x => x)) hb74 (fun _ _ x => x)) hc76 (by rfl) a_ h1_ h2_)) hchg83 (fun _ _ x => x))
              refine tl_val (w' := w84) ⟨49, _, rfl, rfl, (by rw [hk90]; rfl)⟩ (do_convert (u := .slice A lb.length c) rfl (run_str h91)) (by decide) ?_
              refine tl_val (w' := w84) ⟨49, _, rfl, rfl, (by rw [hk90]; rfl)⟩ (do_nes rfl rfl) (by decide) ?_
              refine tl_val (w' := w84) rfl (do_pick_f rfl hk90 rfl) (by decide) ?_
              refine tl_end ?_
              refine fun a_ ha_ => hK89 _ _ _ (T.sub (L' := [(0, .slice A lb.length c), (2, .pointer (some ⟨w.heap.size, 0, none⟩)), (3, .int .i64 0), (5, .int .i64 (((chk lb).2 : Nat) : Int)), (6, .bool bg), (7, .int .i64 f), (8, .int .i64 0), (9, .pointer (some ⟨w68.heap.size, 0, none⟩)), (10, .slice A83 ((sector bg m61 f m66).length) c83), (13, .bool (decide ((lb.length : Int) ≠ 128))), (21, .bool (decide ((((chk lb).2 : Nat) : Int) ≠ 0))), (31, .bool (decide (e_ ≠ 0))), (55, .bool (decide ((sector bg m61 f m66) ≠ lb)))]) ?_ (sub_cons rfl (sub_cons rfl (sub_cons rfl (sub_cons rfl (sub_cons rfl (sub_cons rfl (sub_cons rfl (sub_cons rfl (sub_cons rfl (sub_cons rfl (sub_cons rfl (sub_cons rfl (sub_cons rfl sub_nil)))))))))))))) a_ ha_
              by_cases hc92 : (sector bg m61 f m66) ≠ lb
              · have hk93 := decide_eq_true hc92
                refine t_yes rfl hk93 ?_
                refine t_seq (fun K94 hK94 => ?_)
                refine t_region ?_
                refine tl_val (w' := w84) rfl (do_build (vs := []) (v := .agg #[.bool false, .int .i64 0, .int .i64 0, .int .i64 0]) rfl (by kernel_rfl)) (by decide) ?_
                have h95 := (hchg83.obj (fun x => x) (hb79.obj (show ¬ w.heap.size = w68.heap.size by omega) (hb74.obj (fun x => x) (hchg66.obj (fun x => x) (hchg61.obj (fun x => x) (hb56.obj (fun x => x) (hchg38.obj (fun x => x) (hchg19.obj (fun x => x) hc6))))))))
                refine tl_unit rfl (do_storesB (cs := [.bool false, .int .i64 0, .int .i64 0, .int .i64 0]) rfl rfl (by rfl) (by kernel_rfl) h95 (Nat.le_of_ble_eq_true rfl)) ?_
                refine tl_gen (fun w96 e97 => ?_)
                have hb98 : Chg (fun k => k = w.heap.size) w84 w96 := e97 ▸ Chg.setCells _ _ 0 [.bool false, .int .i64 0, .int .i64 0, .int .i64 0]
                have hz99 : w96.heap.size = w84.heap.size := by rw [e97]; exact sc_size _ _ _ _
                have hc100 : w96.heap[w.heap.size]? = some (.cells #[.bool false, .int .i64 0, .int .i64 0, .int .i64 0] 23 (0, 0)) := by rw [e97]; exact obj_setCells [.bool false, .int .i64 0, .int .i64 0, .int .i64 0] 0 h95
                clear e97
                refine tl_val (w' := w96) rfl (do_assign rfl) (by decide) ?_
                refine tl_end ?_
                refine fun a_ ha_ => hK94 _ _ _ (T.sub (L' := [(0, .slice A lb.length c), (2, .pointer (some ⟨w.heap.size, 0, none⟩)), (3, .int .i64 4), (5, .int .i64 (((chk lb).2 : Nat) : Int)), (6, .bool bg), (7, .int .i64 f), (8, .int .i64 0), (9, .pointer (some ⟨w68.heap.size, 0, none⟩)), (10, .slice A83 ((sector bg m61 f m66).length) c83), (13, .bool (decide ((lb.length : Int) ≠ 128))), (21, .bool (decide ((((chk lb).2 : Nat) : Int) ≠ 0))), (31, .bool (decide (e_ ≠ 0))), (55, .bool (decide ((sector bg m61 f m66) ≠ lb)))]) ?_ (sub_cons rfl (sub_cons rfl (sub_cons rfl (sub_cons rfl (sub_cons rfl (sub_cons rfl (sub_cons rfl (sub_cons rfl (sub_cons rfl (sub_cons rfl (sub_cons rfl (sub_cons rfl (sub_cons rfl sub_nil)))))))))))))) a_ ha_
                refine t_ret ?_
                refine fun a_ ha_ => hQ0 _ _ _ (body_ret (rs := [.cell 2 23, .tmp 3]) (vs := [.agg #[.bool false, .int .i64 0, .int .i64 0, .int .i64 0], .int .i64 4]) ha_ (by kernel_rfl) ⟨_, _, _, rfl, rfl, (load_whole (cs := [.bool false, .int .i64 0, .int .i64 0, .int .i64 0]) (by kernel_rfl) (obj_range hc100)), ⟨_, _, rfl, rfl, rfl⟩⟩ ?_)
                have hI_ := fun (x_ : Hd) => rsec_is (x := x_) hlb_ hO_ hmx61 hmx66
                have hno_ := got_bad hlb_ hck_ (sec_no (y := (bg, m61, f, m66)) hI_ (.inr hc92))
                exact ⟨by rw [hno_]; rfl, (((((((((((Chg.refl (fun k_ => False) w).step hb4 (fun k_ hk_ (h_ : False) => h_.elim)).step hchg19 (fun k_ hk_ (h_ : False) => h_.elim)).step hchg38 (fun k_ hk_ (h_ : False) => h_.elim)).step hb56 (fun k_ hk_ (h_ : False) => h_.elim)).step hchg61 (fun k_ hk_ (h_ : False) => h_.elim)).step hchg66 (fun k_ hk_ (h_ : False) => h_.elim)).step hb74 (fun k_ hk_ (h_ : False) => h_.elim)).step hb79 (fun k_ hk_ (h_ : k_ = w68.heap.size) => (show False by omega))).step hchg83 (fun k_ hk_ (h_ : False) => h_.elim)).step hb98 (fun k_ hk_ (h_ : k_ = w.heap.size) => (show False by omega)))⟩
              · have hk93 := decide_eq_false hc92
                refine t_no rfl hk93 ?_
                refine t_skip ?_
                refine fun a_ ha_ => hK88 _ _ _ (T.sub (L' := [(0, .slice A lb.length c), (2, .pointer (some ⟨w.heap.size, 0, none⟩)), (3, .int .i64 0), (5, .int .i64 (((chk lb).2 : Nat) : Int)), (6, .bool bg), (7, .int .i64 f), (8, .int .i64 0), (9, .pointer (some ⟨w68.heap.size, 0, none⟩)), (10, .slice A83 ((sector bg m61 f m66).length) c83), (13, .bool (decide ((lb.length : Int) ≠ 128))), (21, .bool (decide ((((chk lb).2 : Nat) : Int) ≠ 0))), (31, .bool (decide (e_ ≠ 0))), (55, .bool (decide ((sector bg m61 f m66) ≠ lb)))]) ?_ (sub_cons rfl (sub_cons rfl (sub_cons rfl (sub_cons rfl (sub_cons rfl (sub_cons rfl (sub_cons rfl (sub_cons rfl (sub_cons rfl (sub_cons rfl (sub_cons rfl (sub_cons rfl (sub_cons rfl sub_nil)))))))))))))) a_ ha_
                refine t_seq (fun K101 hK101 => ?_)
                refine t_region ?_
                have h102 := (hchg83.obj (fun x => x) hc81)
                refine tl_val (w' := w84) rfl (do_loads (cs := [.bool bg, .int .i64 m61, .int .i64 f, .int .i64 m66]) rfl (by kernel_rfl) (obj_range h102)) (by decide) ?_
                have h103 := (hchg83.obj (fun x => x) (hb79.obj (show ¬ w.heap.size = w68.heap.size by omega) (hb74.obj (fun x => x) (hchg66.obj (fun x => x) (hchg61.obj (fun x => x) (hb56.obj (fun x => x) (hchg38.obj (fun x => x) (hchg19.obj (fun x => x) hc6))))))))
                refine tl_unit rfl (do_storesB (cs := [.bool bg, .int .i64 m61, .int .i64 f, .int .i64 m66]) rfl rfl (by rfl) (by kernel_rfl) h103 (Nat.le_of_ble_eq_true rfl)) ?_
                refine tl_gen (fun w104 e105 => ?_)
                have hb106 : Chg (fun k => k = w.heap.size) w84 w104 := e105 ▸ Chg.setCells _ _ 0 [.bool bg, .int .i64 m61, .int .i64 f, .int .i64 m66]
                have hz107 : w104.heap.size = w84.heap.size := by rw [e105]; exact sc_size _ _ _ _
                have hc108 : w104.heap[w.heap.size]? = some (.cells #[.bool bg, .int .i64 m61, .int .i64 f, .int .i64 m66] 23 (0, 0)) := by rw [e105]; exact obj_setCells [.bool bg, .int .i64 m61, .int .i64 f, .int .i64 m66] 0 h103
                clear e105
                refine tl_val (w' := w104) rfl (do_assign rfl) (by decide) ?_
                refine tl_end ?_
                refine fun a_ ha_ => hK101 _ _ _ (T.sub (L' := [(0, .slice A lb.length c), (2, .pointer (some ⟨w.heap.size, 0, none⟩)), (3, .int .i64 0), (5, .int .i64 (((chk lb).2 : Nat) : Int)), (6, .bool bg), (7, .int .i64 f), (8, .int .i64 0), (9, .pointer (some ⟨w68.heap.size, 0, none⟩)), (10, .slice A83 ((sector bg m61 f m66).length) c83), (13, .bool (decide ((lb.length : Int) ≠ 128))), (21, .bool (decide ((((chk lb).2 : Nat) : Int) ≠ 0))), (31, .bool (decide (e_ ≠ 0))), (55, .bool (decide ((sector bg m61 f m66) ≠ lb)))]) ?_ (sub_cons rfl (sub_cons rfl (sub_cons rfl (sub_cons rfl (sub_cons rfl (sub_cons rfl (sub_cons rfl (sub_cons rfl (sub_cons rfl (sub_cons rfl (sub_cons rfl (sub_cons rfl (sub_cons rfl sub_nil)))))))))))))) a_ ha_
                refine t_ret ?_
                refine fun a_ ha_ => hQ0 _ _ _ (body_ret (rs := [.cell 2 23, .tmp 3]) (vs := [.agg #[.bool bg, .int .i64 m61, .int .i64 f, .int .i64 m66], .int .i64 0]) ha_ (by kernel_rfl) ⟨_, _, _, rfl, rfl, (load_whole (cs := [.bool bg, .int .i64 m61, .int .i64 f, .int .i64 m66]) (by kernel_rfl) (obj_range hc108)), ⟨_, _, rfl, rfl, rfl⟩⟩ ?_)
                have hI_ := fun (x_ : Hd) => rsec_is (x := x_) hlb_ hO_ hmx61 hmx66
                exact ⟨by rw [got_yes (x := (bg, m61, f, m66)) hright_ (Classical.not_not.1 hc92).symm]; rfl, (((((((((((Chg.refl (fun k_ => False) w).step hb4 (fun k_ hk_ (h_ : False) => h_.elim)).step hchg19 (fun k_ hk_ (h_ : False) => h_.elim)).step hchg38 (fun k_ hk_ (h_ : False) => h_.elim)).step hb56 (fun k_ hk_ (h_ : False) => h_.elim)).step hchg61 (fun k_ hk_ (h_ : False) => h_.elim)).step hchg66 (fun k_ hk_ (h_ : False) => h_.elim)).step hb74 (fun k_ hk_ (h_ : False) => h_.elim)).step hb79 (fun k_ hk_ (h_ : k_ = w68.heap.size) => (show False by omega))).step hchg83 (fun k_ hk_ (h_ : False) => h_.elim)).step hb106 (fun k_ hk_ (h_ : k_ = w.heap.size) => (show False by omega)))⟩
            · refine tl_val (w' := w84) rfl (do_move rfl) (by decide) ?_
              refine tl_val (w' := w84) rfl (do_extract (v := .slice none 0 0) rfl rfl) (by decide) ?_
              refine tl_val (w' := w84) rfl (do_extract (v := .int .i64 1) rfl rfl) (by decide) ?_
              refine tl_val (w' := w84) rfl (do_assign rfl) (by decide) ?_
              refine tl_val (w' := w84) rfl (do_assign rfl) (by decide) ?_
              refine tl_end ?_
              refine fun a_ ha_ => hK82 _ _ _ (T.sub (L' := [(0, .slice A lb.length c), (2, .pointer (some ⟨w.heap.size, 0, none⟩)), (3, .int .i64 0), (5, .int .i64 (((chk lb).2 : Nat) : Int)), (6, .bool bg), (7, .int .i64 f), (8, .int .i64 1), (9, .pointer (some ⟨w68.heap.size, 0, none⟩)), (10, .slice none 0 0), (13, .bool (decide ((lb.length : Int) ≠ 128))), (21, .bool (decide ((((chk lb).2 : Nat) : Int) ≠ 0))), (31, .bool (decide (e_ ≠ 0)))]) ?_ (sub_cons rfl (sub_cons rfl (sub_cons rfl (sub_cons rfl (sub_cons rfl (sub_cons rfl (sub_cons rfl (sub_cons rfl (sub_cons rfl (sub_cons rfl (sub_cons rfl (sub_cons rfl sub_nil))))))))))))) a_ ha_
              refine t_seq (fun K109 hK109 => ?_)
              refine t_seq (fun K110 hK110 => ?_)
              refine t_region ?_
              refine tl_val (w' := w84) rfl (do_move rfl) (by decide) ?_
              refine tl_val (w' := w84) rfl (do_neq rfl rfl) (by decide) ?_
              have hk111 : (decide ((1 : Int) ≠ 0)) = true := by decide
              refine tl_val (w' := w84) rfl (do_move rfl) (by decide) ?_
              refine tl_skipU ⟨49, _, rfl, rfl, (by rw [hk111]; rfl)⟩ (by decide) ?_
              refine tl_skipU ⟨49, _, rfl, rfl, (by rw [hk111]; rfl)⟩ (by decide) ?_
              refine tl_skipU ⟨49, _, rfl, rfl, (by rw [hk111]; rfl)⟩ (by decide) ?_
              refine tl_skipU ⟨49, _, rfl, rfl, (by rw [hk111]; rfl)⟩ (by decide) ?_
              refine tl_skipU ⟨49, _, rfl, rfl, (by rw [hk111]; rfl)⟩ (by decide) ?_
              refine tl_val (w' := w84) rfl (do_pick_t rfl hk111 rfl) (by decide) ?_
              refine tl_end ?_
              refine fun a_ ha_ => hK110 _ _ _ (T.sub (L' := [(0, .slice A lb.length c), (2, .pointer (some ⟨w.heap.size, 0, none⟩)), (3, .int .i64 0), (5, .int .i64 (((chk lb).2 : Nat) : Int)), (6, .bool bg), (7, .int .i64 f), (8, .int .i64 1), (9, .pointer (some ⟨w68.heap.size, 0, none⟩)), (10, .slice none 0 0), (13, .bool (decide ((lb.length : Int) ≠ 128))), (21, .bool (decide ((((chk lb).2 : Nat) : Int) ≠ 0))), (31, .bool (decide (e_ ≠ 0))), (55, .bool true)]) ?_ (sub_cons rfl (sub_cons rfl (sub_cons rfl (sub_cons rfl (sub_cons rfl (sub_cons rfl (sub_cons rfl (sub_cons rfl (sub_cons rfl (sub_cons rfl (sub_cons rfl (sub_cons rfl (sub_cons rfl sub_nil)))))))))))))) a_ ha_
              refine t_yes rfl rfl ?_
              refine t_seq (fun K112 hK112 => ?_)
              refine t_region ?_
              refine tl_val (w' := w84) rfl (do_build (vs := []) (v := .agg #[.bool false, .int .i64 0, .int .i64 0, .int .i64 0]) rfl (by kernel_rfl)) (by decide) ?_
              have h113 := (hchg83.obj (fun x => x) (hb79.obj (show ¬ w.heap.size = w68.heap.size by omega) (hb74.obj (fun x => x) (hchg66.obj (fun x => x) (hchg61.obj (fun x => x) (hb56.obj (fun x => x) (hchg38.obj (fun x => x) (hchg19.obj (fun x => x) hc6))))))))
              refine tl_unit rfl (do_storesB (cs := [.bool false, .int .i64 0, .int .i64 0, .int .i64 0]) rfl rfl (by rfl) (by kernel_rfl) h113 (Nat.le_of_ble_eq_true rfl)) ?_
              refine tl_gen (fun w114 e115 => ?_)
              have hb116 : Chg (fun k => k = w.heap.size) w84 w114 := e115 ▸ Chg.setCells _ _ 0 [.bool false, .int .i64 0, .int .i64 0, .int .i64 0]
              have hz117 : w114.heap.size = w84.heap.size := by rw [e115]; exact sc_size _ _ _ _
              have hc118 : w114.heap[w.heap.size]? = some (.cells #[.bool false, .int .i64 0, .int .i64 0, .int .i64 0] 23 (0, 0)) := by rw [e115]; exact obj_setCells [.bool false, .int .i64 0, .int .i64 0, .int .i64 0] 0 h113
              clear e115
              refine tl_val (w' := w114) rfl (do_assign rfl) (by decide) ?_
              refine tl_end ?_
              refine fun a_ ha_ => hK112 _ _ _ (T.sub (L' := [(0, .slice A lb.length c), (2, .pointer (some ⟨w.heap.size, 0, none⟩)), (3, .int .i64 4), (5, .int .i64 (((chk lb).2 : Nat) : Int)), (6, .bool bg), (7, .int .i64 f), (8, .int .i64 1), (9, .pointer (some ⟨w68.heap.size, 0, none⟩)), (10, .slice none 0 0), (13, .bool (decide ((lb.length : Int) ≠ 128))), (21, .bool (decide ((((chk lb).2 : Nat) : Int) ≠ 0))), (31, .bool (decide (e_ ≠ 0))), (55, .bool true)]) ?_ (sub_cons rfl (sub_cons rfl (sub_cons rfl (sub_cons rfl (sub_cons rfl (sub_cons rfl (sub_cons rfl (sub_cons rfl (sub_cons rfl (sub_cons rfl (sub_cons rfl (sub_cons rfl (sub_cons rfl sub_nil)))))))))))))) a_ ha_
              refine t_ret ?_
              refine fun a_ ha_ => hQ0 _ _ _ (body_ret (rs := [.cell 2 23, .tmp 3]) (vs := [.agg #[.bool false, .int .i64 0, .int .i64 0, .int .i64 0], .int .i64 4]) ha_ (by kernel_rfl) ⟨_, _, _, rfl, rfl, (load_whole (cs := [.bool false, .int .i64 0, .int .i64 0, .int .i64 0]) (by kernel_rfl) (obj_range hc118)), ⟨_, _, rfl, rfl, rfl⟩⟩ ?_)
              have hI_ := fun (x_ : Hd) => rsec_is (x := x_) hlb_ hO_ hmx61 hmx66
              have hno_ := got_bad hlb_ hck_ (sec_no (y := (bg, m61, f, m66)) hI_ (.inl hright_))
              exact ⟨by rw [hno_]; rfl, (((((((((((Chg.refl (fun k_ => False) w).step hb4 (fun k_ hk_ (h_ : False) => h_.elim)).step hchg19 (fun k_ hk_ (h_ : False) => h_.elim)).step hchg38 (fun k_ hk_ (h_ : False) => h_.elim)).step hb56 (fun k_ hk_ (h_ : False) => h_.elim)).step hchg61 (fun k_ hk_ (h_ : False) => h_.elim)).step hchg66 (fun k_ hk_ (h_ : False) => h_.elim)).step hb74 (fun k_ hk_ (h_ : False) => h_.elim)).step hb79 (fun k_ hk_ (h_ : k_ = w68.heap.size) => (show False by omega))).step hchg83 (fun k_ hk_ (h_ : False) => h_.elim)).step hb116 (fun k_ hk_ (h_ : k_ = w.heap.size) => (show False by omega)))⟩
          · refine td_doesC rfl (by decide) (do_alloc (v := .pointer (some ⟨w62.heap.size, 0, none⟩)) (w' := w62.alloc (.cells #[.bool false, .int .i64 0, .int .i64 0, .int .i64 0] 23)) (by kernel_rfl)) ((Chg.alloc _ _).mono (fun _ _ x => x.elim)) ?_
            refine td_gen (fun w119 e120 => ?_)
            have hb121 : Chg (fun _ => False) w62 w119 := e120 ▸ Chg.alloc _ _
            have hz122 : w119.heap.size = w62.heap.size + 1 := by rw [e120]; exact size_alloc _ _
            have hc123 : w119.heap[w62.heap.size]? = some (.cells #[.bool false, .int .i64 0, .int .i64 0, .int .i64 0] 23 (0, 0)) := by rw [e120]; exact obj_new _ _
            clear e120
            refine td_one ?_
            have h125 := (Rd.chg (hs60 w55).2 (Rd.chg (hs60 w55).2 (hs60 w55).2 hchg61 (fun _ _ x => x)) hb121 (fun _ _ x => x))
            refine td_callC rfl rfl (en_call (f := 34) (by kernel_rfl) rfl) (rnum2_e h125 (by simp; omega)) (fun v128 w126 hr127 => ?_) (fun _ _ h => h.elim) (fun _ h => h)
            obtain ⟨m124, rfl, hmb124, hmx124, hchg124⟩ := hr127
            refine ⟨hchg124.mono (fun _ _ x => x.elim), ?_⟩
            have hz129 := hchg124.size
            refine td_takeC rfl (by decide) (fun w_ h_ => (do_build (vs := [.bool bg, .int .i64 m61, .int .i64 f, .int .i64 m124]) (v := .agg #[.bool bg, .int .i64 m61, .int .i64 f, .int .i64 m124]) rfl (by kernel_rfl))) ?_
            refine td_one ?_
            have h130 := (hchg124.obj (fun x => x) hc123)
            refine td_lastC rfl (do_storesB (cs := [.bool bg, .int .i64 m61, .int .i64 f, .int .i64 m124]) rfl rfl (by rfl) (by kernel_rfl) h130 (Nat.le_of_ble_eq_true rfl)) ?_
            refine tx_gen (fun w131 e132 => ?_)
            have hb133 : Chg (fun k => k = w62.heap.size) w126 w131 := e132 ▸ Chg.setCells _ _ 0 [.bool bg, .int .i64 m61, .int .i64 f, .int .i64 m124]
            have hz134 : w131.heap.size = w126.heap.size := by rw [e132]; exact sc_size _ _ _ _
            have hc135 : w131.heap[w62.heap.size]? = some (.cells #[.bool bg, .int .i64 m61, .int .i64 f, .int .i64 m124] 23 (0, 0)) := by rw [e132]; exact obj_setCells [.bool bg, .int .i64 m61, .int .i64 f, .int .i64 m124] 0 h130
            clear e132
            refine fun a_ ha_ => hK54 _ _ _ (T.sub (L' := [(0, .slice A lb.length c), (2, .pointer (some ⟨w.heap.size, 0, none⟩)), (3, .int .i64 0), (5, .int .i64 (((chk lb).2 : Nat) : Int)), (6, .bool bg), (7, .int .i64 f), (8, .int .i64 e_), (9, .pointer (some ⟨w62.heap.size, 0, none⟩)), (13, .bool (decide ((lb.length : Int) ≠ 128))), (21, .bool (decide ((((chk lb).2 : Nat) : Int) ≠ 0))), (31, .bool (decide (e_ ≠ 0)))]) ?_ (sub_cons rfl (sub_cons rfl (sub_cons rfl (sub_cons rfl (sub_cons rfl (sub_cons rfl (sub_cons rfl (sub_cons rfl (sub_cons rfl (sub_cons rfl (sub_cons rfl sub_nil)))))))))))) a_ ha_
            refine t_seq (fun K136 hK136 => ?_)
            refine t_region ?_
            refine tl_val (w' := w131) rfl (do_loads (cs := [.bool bg, .int .i64 m61, .int .i64 f, .int .i64 m124]) rfl (by kernel_rfl) (obj_range hc135)) (by decide) ?_
            refine tl_call rfl (en_call (f := 12) (by kernel_rfl) rfl) rfl (rhput_e bg m61 f m124 _ (by omega) (by omega) (by omega)) (fun v140 w138 hr139 => ?_) (fun _ _ h => h.elim) (fun _ h => h)
            obtain ⟨hchg137, hp137⟩ := hr139
            have hz141 := hchg137.size
            rcases hp137 with ⟨hright_, A137, c137, rfl, hrd137, ho137⟩ | ⟨hright_, rfl⟩
            · refine tl_val (w' := w138) rfl (do_move rfl) (by decide) ?_
              refine tl_val (w' := w138) rfl (do_extract (v := .slice A137 ((sector bg m61 f m124).length) c137) rfl rfl) (by decide) ?_
              refine tl_val (w' := w138) rfl (do_extract (v := .int .i64 0) rfl rfl) (by decide) ?_
              refine tl_val (w' := w138) rfl (do_assign rfl) (by decide) ?_
              refine tl_val (w' := w138) rfl (do_assign rfl) (by decide) ?_
              refine tl_end ?_
              refine fun a_ ha_ => hK136 _ _ _ (T.sub (L' := [(0, .slice A lb.length c), (2, .pointer (some ⟨w.heap.size, 0, none⟩)), (3, .int .i64 0), (5, .int .i64 (((chk lb).2 : Nat) : Int)), (6, .bool bg), (7, .int .i64 f), (8, .int .i64 0), (9, .pointer (some ⟨w62.heap.size, 0, none⟩)), (10, .slice A137 ((sector bg m61 f m124).length) c137), (13, .bool (decide ((lb.length : Int) ≠ 128))), (21, .bool (decide ((((chk lb).2 : Nat) : Int) ≠ 0))), (31, .bool (decide (e_ ≠ 0)))]) ?_ (sub_cons rfl (sub_cons rfl (sub_cons rfl (sub_cons rfl (sub_cons rfl (sub_cons rfl (sub_cons rfl (sub_cons rfl (sub_cons rfl (sub_cons rfl (sub_cons rfl (sub_cons rfl sub_nil))))))))))))) a_ ha_
              refine t_seq (fun K142 hK142 => ?_)
              refine t_seq (fun K143 hK143 => ?_)
              refine t_region ?_
              refine tl_val (w' := w138) rfl (do_move rfl) (by decide) ?_
              refine tl_val (w' := w138) rfl (do_neq rfl rfl) (by decide) ?_
              have hk144 : (decide ((0 : Int) ≠ 0)) = false := by decide
              refine tl_val (w' := w138) rfl (do_move rfl) (by decide) ?_
              refine tl_val (w' := w138) ⟨49, _, rfl, rfl, (by rw [hk144]; rfl)⟩ (do_move rfl) (by decide) ?_
              refine tl_val (w' := w138) ⟨49, _, rfl, rfl, (by rw [hk144]; rfl)⟩ (do_convert (u := .slice A137 ((sector bg m61 f m124).length) c137) rfl (run_str hrd137)) (by decide) ?_
              refine tl_val (w' := w138) ⟨49, _, rfl, rfl, (by rw [hk144]; rfl)⟩ (do_move rfl) (by decide) ?_
              have h145 := (Rd.chg ha (Rd.chgNe (Rd.chg ha (Rd.chg ha (Rd.chg ha h58 hchg61 (fun _ _ x => x)) hb121 (fun _ _ x => x)) hchg124 (fun _ _ x => x)) hb133 (fun a_ h1_ h2_ => Rd.ne (cs := [.bool false, .int .i64 0, .int .i64 0, .int .i64 0]) (Rd.chg ha (Rd.chg ha (Rd.chg ha h58 hchg61 (fun _ _ x => x)) hb121 (fun _ _ x => x)) hchg124 (fun _ _ x => x)) h130 (by rfl) a_ h1_ h2_)) hchg137 (fun _ _ x => x))
              refine tl_val (w' := w138) ⟨49, _, rfl, rfl, (by rw [hk144]; rfl)⟩ (do_convert (u := .slice A lb.length c) rfl (run_str h145)) (by decide) ?_
              refine tl_val (w' := w138) ⟨49, _, rfl, rfl, (by rw [hk144]; rfl)⟩ (do_nes rfl rfl) (by decide) ?_
              refine tl_val (w' := w138) rfl (do_pick_f rfl hk144 rfl) (by decide) ?_
              refine tl_end ?_
              refine fun a_ ha_ => hK143 _ _ _ (T.sub (L' := [(0, .slice A lb.length c), (2, .pointer (some ⟨w.heap.size, 0, none⟩)), (3, .int .i64 0), (5, .int .i64 (((chk lb).2 : Nat) : Int)), (6, .bool bg), (7, .int .i64 f), (8, .int .i64 0), (9, .pointer (some ⟨w62.heap.size, 0, none⟩)), (10, .slice A137 ((sector bg m61 f m124).length) c137), (13, .bool (decide ((lb.length : Int) ≠ 128))), (21, .bool (decide ((((chk lb).2 : Nat) : Int) ≠ 0))), (31, .bool (decide (e_ ≠ 0))), (55, .bool (decide ((sector bg m61 f m124) ≠ lb)))]) ?_ (sub_cons rfl (sub_cons rfl (sub_cons rfl (sub_cons rfl (sub_cons rfl (sub_cons rfl (sub_cons rfl (sub_cons rfl (sub_cons rfl (sub_cons rfl (sub_cons rfl (sub_cons rfl (sub_cons rfl sub_nil)))))))))))))) a_ ha_
              by_cases hc146 : (sector bg m61 f m124) ≠ lb
              · have hk147 := decide_eq_true hc146
                refine t_yes rfl hk147 ?_
                refine t_seq (fun K148 hK148 => ?_)
                refine t_region ?_
                refine tl_val (w' := w138) rfl (do_build (vs := []) (v := .agg #[.bool false, .int .i64 0, .int .i64 0, .int .i64 0]) rfl (by kernel_rfl)) (by decide) ?_
                have h149 := (hchg137.obj (fun x => x) (hb133.obj (show ¬ w.heap.size = w62.heap.size by omega) (hchg124.obj (fun x => x) (hb121.obj (fun x => x) (hchg61.obj (fun x => x) (hb56.obj (fun x => x) (hchg38.obj (fun x => x) (hchg19.obj (fun x => x) hc6))))))))
                refine tl_unit rfl (do_storesB (cs := [.bool false, .int .i64 0, .int .i64 0, .int .i64 0]) rfl rfl (by rfl) (by kernel_rfl) h149 (Nat.le_of_ble_eq_true rfl)) ?_
                refine tl_gen (fun w150 e151 => ?_)
                have hb152 : Chg (fun k => k = w.heap.size) w138 w150 := e151 ▸ Chg.setCells _ _ 0 [.bool false, .int .i64 0, .int .i64 0, .int .i64 0]
                have hz153 : w150.heap.size = w138.heap.size := by rw [e151]; exact sc_size _ _ _ _
                have hc154 : w150.heap[w.heap.size]? = some (.cells #[.bool false, .int .i64 0, .int .i64 0, .int .i64 0] 23 (0, 0)) := by rw [e151]; exact obj_setCells [.bool false, .int .i64 0, .int .i64 0, .int .i64 0] 0 h149
                clear e151
                refine tl_val (w' := w150) rfl (do_assign rfl) (by decide) ?_
                refine tl_end ?_
                refine fun a_ ha_ => hK148 _ _ _ (T.sub (L' := [(0, .slice A lb.length c), (2, .pointer (some ⟨w.heap.size, 0, none⟩)), (3, .int .i64 4), (5, .int .i64 (((chk lb).2 : Nat) : Int)), (6, .bool bg), (7, .int .i64 f), (8, .int .i64 0), (9, .pointer (some ⟨w62.heap.size, 0, none⟩)), (10, .slice A137 ((sector bg m61 f m124).length) c137), (13, .bool (decide ((lb.length : Int) ≠ 128))), (21, .bool (decide ((((chk lb).2 : Nat) : Int) ≠ 0))), (31, .bool (decide (e_ ≠ 0))), (55, .bool (decide ((sector bg m61 f m124) ≠ lb)))]) ?_ (sub_cons rfl (sub_cons rfl (sub_cons rfl (sub_cons rfl (sub_cons rfl (sub_cons rfl (sub_cons rfl (sub_cons rfl (sub_cons rfl (sub_cons rfl (sub_cons rfl (sub_cons rfl (sub_cons rfl sub_nil)))))))))))))) a_ ha_
                refine t_ret ?_
                refine fun a_ ha_ => hQ0 _ _ _ (body_ret (rs := [.cell 2 23, .tmp 3]) (vs := [.agg #[.bool false, .int .i64 0, .int .i64 0, .int .i64 0], .int .i64 4]) ha_ (by kernel_rfl) ⟨_, _, _, rfl, rfl, (load_whole (cs := [.bool false, .int .i64 0, .int .i64 0, .int .i64 0]) (by kernel_rfl) (obj_range hc154)), ⟨_, _, rfl, rfl, rfl⟩⟩ ?_)
                have hI_ := fun (x_ : Hd) => rsec_is (x := x_) hlb_ hO_ hmx61 hmx124
                have hno_ := got_bad hlb_ hck_ (sec_no (y := (bg, m61, f, m124)) hI_ (.inr hc146))
                exact ⟨by rw [hno_]; rfl, (((((((((((Chg.refl (fun k_ => False) w).step hb4 (fun k_ hk_ (h_ : False) => h_.elim)).step hchg19 (fun k_ hk_ (h_ : False) => h_.elim)).step hchg38 (fun k_ hk_ (h_ : False) => h_.elim)).step hb56 (fun k_ hk_ (h_ : False) => h_.elim)).step hchg61 (fun k_ hk_ (h_ : False) => h_.elim)).step hb121 (fun k_ hk_ (h_ : False) => h_.elim)).step hchg124 (fun k_ hk_ (h_ : False) => h_.elim)).step hb133 (fun k_ hk_ (h_ : k_ = w62.heap.size) => (show False by omega))).step hchg137 (fun k_ hk_ (h_ : False) => h_.elim)).step hb152 (fun k_ hk_ (h_ : k_ = w.heap.size) => (show False by omega)))⟩
              · have hk147 := decide_eq_false hc146
                refine t_no rfl hk147 ?_
                refine t_skip ?_
                refine fun a_ ha_ => hK142 _ _ _ (T.sub (L' := [(0, .slice A lb.length c), (2, .pointer (some ⟨w.heap.size, 0, none⟩)), (3, .int .i64 0), (5, .int .i64 (((chk lb).2 : Nat) : Int)), (6, .bool bg), (7, .int .i64 f), (8, .int .i64 0), (9, .pointer (some ⟨w62.heap.size, 0, none⟩)), (10, .slice A137 ((sector bg m61 f m124).length) c137), (13, .bool (decide ((lb.length : Int) ≠ 128))), (21, .bool (decide ((((chk lb).2 : Nat) : Int) ≠ 0))), (31, .bool (decide (e_ ≠ 0))), (55, .bool (decide ((sector bg m61 f m124) ≠ lb)))]) ?_ (sub_cons rfl (sub_cons rfl (sub_cons rfl (sub_cons rfl (sub_cons rfl (sub_cons rfl (sub_cons rfl (sub_cons rfl (sub_cons rfl (sub_cons rfl (sub_cons rfl (sub_cons rfl (sub_cons rfl sub_nil)))))))))))))) a_ ha_
                refine t_seq (fun K155 hK155 => ?_)
                refine t_region ?_
                have h156 := (hchg137.obj (fun x => x) hc135)
                refine tl_val (w' := w138) rfl (do_loads (cs := [.bool bg, .int .i64 m61, .int .i64 f, .int .i64 m124]) rfl (by kernel_rfl) (obj_range h156)) (by decide) ?_
                have h157 := (hchg137.obj (fun x => x) (hb133.obj (show ¬ w.heap.size = w62.heap.size by omega) (hchg124.obj (fun x => x) (hb121.obj (fun x => x) (hchg61.obj (fun x => x) (hb56.obj (fun x => x) (hchg38.obj (fun x => x) (hchg19.obj (fun x => x) hc6))))))))
                refine tl_unit rfl (do_storesB (cs := [.bool bg, .int .i64 m61, .int .i64 f, .int .i64 m124]) rfl rfl (by rfl) (by kernel_rfl) h157 (Nat.le_of_ble_eq_true rfl)) ?_
                refine tl_gen (fun w158 e159 => ?_)
                have hb160 : Chg (fun k => k = w.heap.size) w138 w158 := e159 ▸ Chg.setCells _ _ 0 [.bool bg, .int .i64 m61, .int .i64 f, .int .i64 m124]
                have hz161 : w158.heap.size = w138.heap.size := by rw [e159]; exact sc_size _ _ _ _
                have hc162 : w158.heap[w.heap.size]? = some (.cells #[.bool bg, .int .i64 m61, .int .i64 f, .int .i64 m124] 23 (0, 0)) := by rw [e159]; exact obj_setCells [.bool bg, .int .i64 m61, .int .i64 f, .int .i64 m124] 0 h157
                clear e159
                refine tl_val (w' := w158) rfl (do_assign rfl) (by decide) ?_
                refine tl_end ?_
                refine fun a_ ha_ => hK155 _ _ _ (T.sub (L' := [(0, .slice A lb.length c), (2, .pointer (some ⟨w.heap.size, 0, none⟩)), (3, .int .i64 0), (5, .int .i64 (((chk lb).2 : Nat) : Int)), (6, .bool bg), (7, .int .i64 f), (8, .int .i64 0), (9, .pointer (some ⟨w62.heap.size, 0, none⟩)), (10, .slice A137 ((sector bg m61 f m124).length) c137), (13, .bool (decide ((lb.length : Int) ≠ 128))), (21, .bool (decide ((((chk lb).2 : Nat) : Int) ≠ 0))), (31, .bool (decide (e_ ≠ 0))), (55, .bool (decide ((sector bg m61 f m124) ≠ lb)))]) ?_ (sub_cons rfl (sub_cons rfl (sub_cons rfl (sub_cons rfl (sub_cons rfl (sub_cons rfl (sub_cons rfl (sub_cons rfl (sub_cons rfl (sub_cons rfl (sub_cons rfl (sub_cons rfl (sub_cons rfl sub_nil)))))))))))))) a_ ha_
                refine t_ret ?_
                refine fun a_ ha_ => hQ0 _ _ _ (body_ret (rs := [.cell 2 23, .tmp 3]) (vs := [.agg #[.bool bg, .int .i64 m61, .int .i64 f, .int .i64 m124], .int .i64 0]) ha_ (by kernel_rfl) ⟨_, _, _, rfl, rfl, (load_whole (cs := [.bool bg, .int .i64 m61, .int .i64 f, .int .i64 m124]) (by kernel_rfl) (obj_range hc162)), ⟨_, _, rfl, rfl, rfl⟩⟩ ?_)
                have hI_ := fun (x_ : Hd) => rsec_is (x := x_) hlb_ hO_ hmx61 hmx124
                exact ⟨by rw [got_yes (x := (bg, m61, f, m124)) hright_ (Classical.not_not.1 hc146).symm]; rfl, (((((((((((Chg.refl (fun k_ => False) w).step hb4 (fun k_ hk_ (h_ : False) => h_.elim)).step hchg19 (fun k_ hk_ (h_ : False) => h_.elim)).step hchg38 (fun k_ hk_ (h_ : False) => h_.elim)).step hb56 (fun k_ hk_ (h_ : False) => h_.elim)).step hchg61 (fun k_ hk_ (h_ : False) => h_.elim)).step hb121 (fun k_ hk_ (h_ : False) => h_.elim)).step hchg124 (fun k_ hk_ (h_ : False) => h_.elim)).step hb133 (fun k_ hk_ (h_ : k_ = w62.heap.size) => (show False by omega))).step hchg137 (fun k_ hk_ (h_ : False) => h_.elim)).step hb160 (fun k_ hk_ (h_ : k_ = w.heap.size) => (show False by omega)))⟩
            · refine tl_val (w' := w138) rfl (do_move rfl) (by decide) ?_
              refine tl_val (w' := w138) rfl (do_extract (v := .slice none 0 0) rfl rfl) (by decide) ?_
              refine tl_val (w' := w138) rfl (do_extract (v := .int .i64 1) rfl rfl) (by decide) ?_
              refine tl_val (w' := w138) rfl (do_assign rfl) (by decide) ?_
              refine tl_val (w' := w138) rfl (do_assign rfl) (by decide) ?_
              refine tl_end ?_
              refine fun a_ ha_ => hK136 _ _ _ (T.sub (L' := [(0, .slice A lb.length c), (2, .pointer (some ⟨w.heap.size, 0, none⟩)), (3, .int .i64 0), (5, .int .i64 (((chk lb).2 : Nat) : Int)), (6, .bool bg), (7, .int .i64 f), (8, .int .i64 1), (9, .pointer (some ⟨w62.heap.size, 0, none⟩)), (10, .slice none 0 0), (13, .bool (decide ((lb.length : Int) ≠ 128))), (21, .bool (decide ((((chk lb).2 : Nat) : Int) ≠ 0))), (31, .bool (decide (e_ ≠ 0)))]) ?_ (sub_cons rfl (sub_cons rfl (sub_cons rfl (sub_cons rfl (sub_cons rfl (sub_cons rfl (sub_cons rfl (sub_cons rfl (sub_cons rfl (sub_cons rfl (sub_cons rfl (sub_cons rfl sub_nil))))))))))))) a_ ha_
              refine t_seq (fun K163 hK163 => ?_)
              refine t_seq (fun K164 hK164 => ?_)
              refine t_region ?_
              refine tl_val (w' := w138) rfl (do_move rfl) (by decide) ?_
              refine tl_val (w' := w138) rfl (do_neq rfl rfl) (by decide) ?_
              have hk165 : (decide ((1 : Int) ≠ 0)) = true := by decide
              refine tl_val (w' := w138) rfl (do_move rfl) (by decide) ?_
              refine tl_skipU ⟨49, _, rfl, rfl, (by rw [hk165]; rfl)⟩ (by decide) ?_
              refine tl_skipU ⟨49, _, rfl, rfl, (by rw [hk165]; rfl)⟩ (by decide) ?_
              refine tl_skipU ⟨49, _, rfl, rfl, (by rw [hk165]; rfl)⟩ (by decide) ?_
              refine tl_skipU ⟨49, _, rfl, rfl, (by rw [hk165]; rfl)⟩ (by decide) ?_
              refine tl_skipU ⟨49, _, rfl, rfl, (by rw [hk165]; rfl)⟩ (by decide) ?_
              refine tl_val (w' := w138) rfl (do_pick_t rfl hk165 rfl) (by decide) ?_
              refine tl_end ?_
              refine fun a_ ha_ => hK164 _ _ _ (T.sub (L' := [(0, .slice A lb.length c), (2, .pointer (some ⟨w.heap.size, 0, none⟩)), (3, .int .i64 0), (5, .int .i64 (((chk lb).2 : Nat) : Int)), (6, .bool bg), (7, .int .i64 f), (8, .int .i64 1), (9, .pointer (some ⟨w62.heap.size, 0, none⟩)), (10, .slice none 0 0), (13, .bool (decide ((lb.length : Int) ≠ 128))), (21, .bool (decide ((((chk lb).2 : Nat) : Int) ≠ 0))), (31, .bool (decide (e_ ≠ 0))), (55, .bool true)]) ?_ (sub_cons rfl (sub_cons rfl (sub_cons rfl (sub_cons rfl (sub_cons rfl (sub_cons rfl (sub_cons rfl (sub_cons rfl (sub_cons rfl (sub_cons rfl (sub_cons rfl (sub_cons rfl (sub_cons rfl sub_nil)))))))))))))) a_ ha_
              refine t_yes rfl rfl ?_
              refine t_seq (fun K166 hK166 => ?_)
              refine t_region ?_
              refine tl_val (w' := w138) rfl (do_build (vs := []) (v := .agg #[.bool false, .int .i64 0, .int .i64 0, .int .i64 0]) rfl (by kernel_rfl)) (by decide) ?_
              have h167 := (hchg137.obj (fun x => x) (hb133.obj (show ¬ w.heap.size = w62.heap.size by omega) (hchg124.obj (fun x => x) (hb121.obj (fun x => x) (hchg61.obj (fun x => x) (hb56.obj (fun x => x) (hchg38.obj (fun x => x) (hchg19.obj (fun x => x) hc6))))))))
              refine tl_unit rfl (do_storesB (cs := [.bool false, .int .i64 0, .int .i64 0, .int .i64 0]) rfl rfl (by rfl) (by kernel_rfl) h167 (Nat.le_of_ble_eq_true rfl)) ?_
              refine tl_gen (fun w168 e169 => ?_)
              have hb170 : Chg (fun k => k = w.heap.size) w138 w168 := e169 ▸ Chg.setCells _ _ 0 [.bool false, .int .i64 0, .int .i64 0, .int .i64 0]
              have hz171 : w168.heap.size = w138.heap.size := by rw [e169]; exact sc_size _ _ _ _
              have hc172 : w168.heap[w.heap.size]? = some (.cells #[.bool false, .int .i64 0, .int .i64 0, .int .i64 0] 23 (0, 0)) := by rw [e169]; exact obj_setCells [.bool false, .int .i64 0, .int .i64 0, .int .i64 0] 0 h167
              clear e169
              refine tl_val (w' := w168) rfl (do_assign rfl) (by decide) ?_
              refine tl_end ?_
              refine fun a_ ha_ => hK166 _ _ _ (T.sub (L' := [(0, .slice A lb.length c), (2, .pointer (some ⟨w.heap.size, 0, none⟩)), (3, .int .i64 4), (5, .int .i64 (((chk lb).2 : Nat) : Int)), (6, .bool bg), (7, .int .i64 f), (8, .int .i64 1), (9, .pointer (some ⟨w62.heap.size, 0, none⟩)), (10, .slice none 0 0), (13, .bool (decide ((lb.length : Int) ≠ 128))), (21, .bool (decide ((((chk lb).2 : Nat) : Int) ≠ 0))), (31, .bool (decide (e_ ≠ 0))), (55, .bool true)]) ?_ (sub_cons rfl (sub_cons rfl (sub_cons rfl (sub_cons rfl (sub_cons rfl (sub_cons rfl (sub_cons rfl (sub_cons rfl (sub_cons rfl (sub_cons rfl (sub_cons rfl (sub_cons rfl (sub_cons rfl sub_nil)))))))))))))) a_ ha_
              refine t_ret ?_
              refine fun a_ ha_ => hQ0 _ _ _ (body_ret (rs := [.cell 2 23, .tmp 3]) (vs := [.agg #[.bool false, .int .i64 0, .int .i64 0, .int .i64 0], .int .i64 4]) ha_ (by kernel_rfl) ⟨_, _, _, rfl, rfl, (load_whole (cs := [.bool false, .int .i64 0, .int .i64 0, .int .i64 0]) (by kernel_rfl) (obj_range hc172)), ⟨_, _, rfl, rfl, rfl⟩⟩ ?_)
              have hI_ := fun (x_ : Hd) => rsec_is (x := x_) hlb_ hO_ hmx61 hmx124
              have hno_ := got_bad hlb_ hck_ (sec_no (y := (bg, m61, f, m124)) hI_ (.inl hright_))
              exact ⟨by rw [hno_]; rfl, (((((((((((Chg.refl (fun k_ => False) w).step hb4 (fun k_ hk_ (h_ : False) => h_.elim)).step hchg19 (fun k_ hk_ (h_ : False) => h_.elim)).step hchg38 (fun k_ hk_ (h_ : False) => h_.elim)).step hb56 (fun k_ hk_ (h_ : False) => h_.elim)).step hchg61 (fun k_ hk_ (h_ : False) => h_.elim)).step hb121 (fun k_ hk_ (h_ : False) => h_.elim)).step hchg124 (fun k_ hk_ (h_ : False) => h_.elim)).step hb133 (fun k_ hk_ (h_ : k_ = w62.heap.size) => (show False by omega))).step hchg137 (fun k_ hk_ (h_ : False) => h_.elim)).step hb170 (fun k_ hk_ (h_ : k_ = w.heap.size) => (show False by omega)))⟩
        · refine td_doesC rfl (by decide) (do_alloc (v := .pointer (some ⟨w55.heap.size, 0, none⟩)) (w' := w55.alloc (.cells #[.bool false, .int .i64 0, .int .i64 0, .int .i64 0] 23)) (by kernel_rfl)) ((Chg.alloc _ _).mono (fun _ _ x => x.elim)) ?_
          refine td_gen (fun w173 e174 => ?_)
          have hb175 : Chg (fun _ => False) w55 w173 := e174 ▸ Chg.alloc _ _
          have hz176 : w173.heap.size = w55.heap.size + 1 := by rw [e174]; exact size_alloc _ _
          have hc177 : w173.heap[w55.heap.size]? = some (.cells #[.bool false, .int .i64 0, .int .i64 0, .int .i64 0] 23 (0, 0)) := by rw [e174]; exact obj_new _ _
          clear e174
          refine td_one ?_
          have h179 := (Rd.chg (hs59 w55).2 (hs59 w55).2 hb175 (fun _ _ x => x))
          refine td_callC rfl rfl (en_call (f := 34) (by kernel_rfl) rfl) (rnum2_e h179 (by simp; omega)) (fun v182 w180 hr181 => ?_) (fun _ _ h => h.elim) (fun _ h => h)
          obtain ⟨m178, rfl, hmb178, hmx178, hchg178⟩ := hr181
          refine ⟨hchg178.mono (fun _ _ x => x.elim), ?_⟩
          have hz183 := hchg178.size
          refine td_one ?_
          have h185 := (Rd.chg (hs60 w55).2 (Rd.chg (hs60 w55).2 (hs60 w55).2 hb175 (fun _ _ x => x)) hchg178 (fun _ _ x => x))
          refine td_callC rfl rfl (en_call (f := 34) (by kernel_rfl) rfl) (rnum2_e h185 (by simp; omega)) (fun v188 w186 hr187 => ?_) (fun _ _ h => h.elim) (fun _ h => h)
          obtain ⟨m184, rfl, hmb184, hmx184, hchg184⟩ := hr187
          refine ⟨hchg184.mono (fun _ _ x => x.elim), ?_⟩
          have hz189 := hchg184.size
          refine td_takeC rfl (by decide) (fun w_ h_ => (do_build (vs := [.bool bg, .int .i64 m178, .int .i64 f, .int .i64 m184]) (v := .agg #[.bool bg, .int .i64 m178, .int .i64 f, .int .i64 m184]) rfl (by kernel_rfl))) ?_
          refine td_one ?_
          have h190 := (hchg184.obj (fun x => x) (hchg178.obj (fun x => x) hc177))
          refine td_lastC rfl (do_storesB (cs := [.bool bg, .int .i64 m178, .int .i64 f, .int .i64 m184]) rfl rfl (by rfl) (by kernel_rfl) h190 (Nat.le_of_ble_eq_true rfl)) ?_
          refine tx_gen (fun w191 e192 => ?_)
          have hb193 : Chg (fun k => k = w55.heap.size) w186 w191 := e192 ▸ Chg.setCells _ _ 0 [.bool bg, .int .i64 m178, .int .i64 f, .int .i64 m184]
          have hz194 : w191.heap.size = w186.heap.size := by rw [e192]; exact sc_size _ _ _ _
          have hc195 : w191.heap[w55.heap.size]? = some (.cells #[.bool bg, .int .i64 m178, .int .i64 f, .int .i64 m184] 23 (0, 0)) := by rw [e192]; exact obj_setCells [.bool bg, .int .i64 m178, .int .i64 f, .int .i64 m184] 0 h190
          clear e192
          refine fun a_ ha_ => hK54 _ _ _ (T.sub (L' := [(0, .slice A lb.length c), (2, .pointer (some ⟨w.heap.size, 0, none⟩)), (3, .int .i64 0), (5, .int .i64 (((chk lb).2 : Nat) : Int)), (6, .bool bg), (7, .int .i64 f), (8, .int .i64 e_), (9, .pointer (some ⟨w55.heap.size, 0, none⟩)), (13, .bool (decide ((lb.length : Int) ≠ 128))), (21, .bool (decide ((((chk lb).2 : Nat) : Int) ≠ 0))), (31, .bool (decide (e_ ≠ 0)))]) ?_ (sub_cons rfl (sub_cons rfl (sub_cons rfl (sub_cons rfl (sub_cons rfl (sub_cons rfl (sub_cons rfl (sub_cons rfl (sub_cons rfl (sub_cons rfl (sub_cons rfl sub_nil)))))))))))) a_ ha_
          refine t_seq (fun K196 hK196 => ?_)
          refine t_region ?_
          refine tl_val (w' := w191) rfl (do_loads (cs := [.bool bg, .int .i64 m178, .int .i64 f, .int .i64 m184]) rfl (by kernel_rfl) (obj_range hc195)) (by decide) ?_
          refine tl_call rfl (en_call (f := 12) (by kernel_rfl) rfl) rfl (rhput_e bg m178 f m184 _ (by omega) (by omega) (by omega)) (fun v200 w198 hr199 => ?_) (fun _ _ h => h.elim) (fun _ h => h)
          obtain ⟨hchg197, hp197⟩ := hr199
          have hz201 := hchg197.size
          rcases hp197 with ⟨hright_, A197, c197, rfl, hrd197, ho197⟩ | ⟨hright_, rfl⟩
          · refine tl_val (w' := w198) rfl (do_move rfl) (by decide) ?_
            refine tl_val (w' := w198) rfl (do_extract (v := .slice A197 ((sector bg m178 f m184).length) c197) rfl rfl) (by decide) ?_
            refine tl_val (w' := w198) rfl (do_extract (v := .int .i64 0) rfl rfl) (by decide) ?_
            refine tl_val (w' := w198) rfl (do_assign rfl) (by decide) ?_
            refine tl_val (w' := w198) rfl (do_assign rfl) (by decide) ?_
            refine tl_end ?_
            refine fun a_ ha_ => hK196 _ _ _ (T.sub (L' := [(0, .slice A lb.length c), (2, .pointer (some ⟨w.heap.size, 0, none⟩)), (3, .int .i64 0), (5, .int .i64 (((chk lb).2 : Nat) : Int)), (6, .bool bg), (7, .int .i64 f), (8, .int .i64 0), (9, .pointer (some ⟨w55.heap.size, 0, none⟩)), (10, .slice A197 ((sector bg m178 f m184).length) c197), (13, .bool (decide ((lb.length : Int) ≠ 128))), (21, .bool (decide ((((chk lb).2 : Nat) : Int) ≠ 0))), (31, .bool (decide (e_ ≠ 0)))]) ?_ (sub_cons rfl (sub_cons rfl (sub_cons rfl (sub_cons rfl (sub_cons rfl (sub_cons rfl (sub_cons rfl (sub_cons rfl (sub_cons rfl (sub_cons rfl (sub_cons rfl (sub_cons rfl sub_nil))))))))))))) a_ ha_
            refine t_seq (fun K202 hK202 => ?_)
            refine t_seq (fun K203 hK203 => ?_)
            refine t_region ?_
            refine tl_val (w' := w198) rfl (do_move rfl) (by decide) ?_
            refine tl_val (w' := w198) rfl (do_neq rfl rfl) (by decide) ?_
            have hk204 : (decide ((0 : Int) ≠ 0)) = false := by decide
            refine tl_val (w' := w198) rfl (do_move rfl) (by decide) ?_
            refine tl_val (w' := w198) ⟨49, _, rfl, rfl, (by rw [hk204]; rfl)⟩ (do_move rfl) (by decide) ?_
            refine tl_val (w' := w198) ⟨49, _, rfl, rfl, (by rw [hk204]; rfl)⟩ (do_convert (u := .slice A197 ((sector bg m178 f m184).length) c197) rfl (run_str hrd197)) (by decide) ?_
            refine tl_val (w' := w198) ⟨49, _, rfl, rfl, (by rw [hk204]; rfl)⟩ (do_move rfl) (by decide) ?_
            have h205 := (Rd.chg ha (Rd.chgNe (Rd.chg ha (Rd.chg ha (Rd.chg ha h58 hb175 (fun _ _ x => x)) hchg178 (fun _ _ x => x)) hchg184 (fun _ _ x => x)) hb193 (fun a_ h1_ h2_ => Rd.ne (cs := [.bool false, .int .i64 0, .int .i64 0, .int .i64 0]) (Rd.chg ha (Rd.chg ha (Rd.chg ha h58 hb175 (fun _ _ x => x)) hchg178 (fun _ _ x => x)) hchg184 (fun _ _ x => x)) h190 (by rfl) a_ h1_ h2_)) hchg197 (fun _ _ x => x))
            refine tl_val (w' := w198) ⟨49, _, rfl, rfl, (by rw [hk204]; rfl)⟩ (do_convert (u := .slice A lb.length c) rfl (run_str h205)) (by decide) ?_
            refine tl_val (w' := w198) ⟨49, _, rfl, rfl, (by rw [hk204]; rfl)⟩ (do_nes rfl rfl) (by decide) ?_
            refine tl_val (w' := w198) rfl (do_pick_f rfl hk204 rfl) (by decide) ?_
            refine tl_end ?_
            refine fun a_ ha_ => hK203 _ _ _ (T.sub (L' := [(0, .slice A lb.length c), (2, .pointer (some ⟨w.heap.size, 0, none⟩)), (3, .int .i64 0), (5, .int .i64 (((chk lb).2 : Nat) : Int)), (6, .bool bg), (7, .int .i64 f), (8, .int .i64 0), (9, .pointer (some ⟨w55.heap.size, 0, none⟩)), (10, .slice A197 ((sector bg m178 f m184).length) c197), (13, .bool (decide ((lb.length : Int) ≠ 128))), (21, .bool (decide ((((chk lb).2 : Nat) : Int) ≠ 0))), (31, .bool (decide (e_ ≠ 0))), (55, .bool (decide ((sector bg m178 f m184) ≠ lb)))]) ?_ (sub_cons rfl (sub_cons rfl (sub_cons rfl (sub_cons rfl (sub_cons rfl (sub_cons rfl (sub_cons rfl (sub_cons rfl (sub_cons rfl (sub_cons rfl (sub_cons rfl (sub_cons rfl (sub_cons rfl sub_nil)))))))))))))) a_ ha_
            by_cases hc206 : (sector bg m178 f m184) ≠ lb
            · have hk207 := decide_eq_true hc206
              refine t_yes rfl hk207 ?_
              refine t_seq (fun K208 hK208 => ?_)
              refine t_region ?_
              refine tl_val (w' := w198) rfl (do_build (vs := []) (v := .agg #[.bool false, .int .i64 0, .int .i64 0, .int .i64 0]) rfl (by kernel_rfl)) (by decide) ?_
              have h209 := (hchg197.obj (fun x => x) (hb193.obj (show ¬ w.heap.size = w55.heap.size by omega) (hchg184.obj (fun x => x) (hchg178.obj (fun x => x) (hb175.obj (fun x => x) (hb56.obj (fun x => x) (hchg38.obj (fun x => x) (hchg19.obj (fun x => x) hc6))))))))
              refine tl_unit rfl (do_storesB (cs := [.bool false, .int .i64 0, .int .i64 0, .int .i64 0]) rfl rfl (by rfl) (by kernel_rfl) h209 (Nat.le_of_ble_eq_true rfl)) ?_
              refine tl_gen (fun w210 e211 => ?_)
              have hb212 : Chg (fun k => k = w.heap.size) w198 w210 := e211 ▸ Chg.setCells _ _ 0 [.bool false, .int .i64 0, .int .i64 0, .int .i64 0]
              have hz213 : w210.heap.size = w198.heap.size := by rw [e211]; exact sc_size _ _ _ _
              have hc214 : w210.heap[w.heap.size]? = some (.cells #[.bool false, .int .i64 0, .int .i64 0, .int .i64 0] 23 (0, 0)) := by rw [e211]; exact obj_setCells [.bool false, .int .i64 0, .int .i64 0, .int .i64 0] 0 h209
              clear e211
              refine tl_val (w' := w210) rfl (do_assign rfl) (by decide) ?_
              refine tl_end ?_
              refine fun a_ ha_ => hK208 _ _ _ (T.sub (L' := [(0, .slice A lb.length c), (2, .pointer (some ⟨w.heap.size, 0, none⟩)), (3, .int .i64 4), (5, .int .i64 (((chk lb).2 : Nat) : Int)), (6, .bool bg), (7, .int .i64 f), (8, .int .i64 0), (9, .pointer (some ⟨w55.heap.size, 0, none⟩)), (10, .slice A197 ((sector bg m178 f m184).length) c197), (13, .bool (decide ((lb.length : Int) ≠ 128))), (21, .bool (decide ((((chk lb).2 : Nat) : Int) ≠ 0))), (31, .bool (decide (e_ ≠ 0))), (55, .bool (decide ((sector bg m178 f m184) ≠ lb)))]) ?_ (sub_cons rfl (sub_cons rfl (sub_cons rfl (sub_cons rfl (sub_cons rfl (sub_cons rfl (sub_cons rfl (sub_cons rfl (sub_cons rfl (sub_cons rfl (sub_cons rfl (sub_cons rfl (sub_cons rfl sub_nil)))))))))))))) a_ ha_
              refine t_ret ?_
              refine fun a_ ha_ => hQ0 _ _ _ (body_ret (rs := [.cell 2 23, .tmp 3]) (vs := [.agg #[.bool false, .int .i64 0, .int .i64 0, .int .i64 0], .int .i64 4]) ha_ (by kernel_rfl) ⟨_, _, _, rfl, rfl, (load_whole (cs := [.bool false, .int .i64 0, .int .i64 0, .int .i64 0]) (by kernel_rfl) (obj_range hc214)), ⟨_, _, rfl, rfl, rfl⟩⟩ ?_)
              have hI_ := fun (x_ : Hd) => rsec_is (x := x_) hlb_ hO_ hmx178 hmx184
              have hno_ := got_bad hlb_ hck_ (sec_no (y := (bg, m178, f, m184)) hI_ (.inr hc206))
              exact ⟨by rw [hno_]; rfl, (((((((((((Chg.refl (fun k_ => False) w).step hb4 (fun k_ hk_ (h_ : False) => h_.elim)).step hchg19 (fun k_ hk_ (h_ : False) => h_.elim)).step hchg38 (fun k_ hk_ (h_ : False) => h_.elim)).step hb56 (fun k_ hk_ (h_ : False) => h_.elim)).step hb175 (fun k_ hk_ (h_ : False) => h_.elim)).step hchg178 (fun k_ hk_ (h_ : False) => h_.elim)).step hchg184 (fun k_ hk_ (h_ : False) => h_.elim)).step hb193 (fun k_ hk_ (h_ : k_ = w55.heap.size) => (show False by omega))).step hchg197 (fun k_ hk_ (h_ : False) => h_.elim)).step hb212 (fun k_ hk_ (h_ : k_ = w.heap.size) => (show False by omega)))⟩
            · have hk207 := decide_eq_false hc206
              refine t_no rfl hk207 ?_
              refine t_skip ?_
              refine fun a_ ha_ => hK202 _ _ _ (T.sub (L' := [(0, .slice A lb.length c), (2, .pointer (some ⟨w.heap.size, 0, none⟩)), (3, .int .i64 0), (5, .int .i64 (((chk lb).2 : Nat) : Int)), (6, .bool bg), (7, .int .i64 f), (8, .int .i64 0), (9, .pointer (some ⟨w55.heap.size, 0, none⟩)), (10, .slice A197 ((sector bg m178 f m184).length) c197), (13, .bool (decide ((lb.length : Int) ≠ 128))), (21, .bool (decide ((((chk lb).2 : Nat) : Int) ≠ 0))), (31, .bool (decide (e_ ≠ 0))), (55, .bool (decide ((sector bg m178 f m184) ≠ lb)))]) ?_ (sub_cons rfl (sub_cons rfl (sub_cons rfl (sub_cons rfl (sub_cons rfl (sub_cons rfl (sub_cons rfl (sub_cons rfl (sub_cons rfl (sub_cons rfl (sub_cons rfl (sub_cons rfl (sub_cons rfl sub_nil)))))))))))))) a_ ha_
              refine t_seq (fun K215 hK215 => ?_)
              refine t_region ?_
              have h216 := (hchg197.obj (fun x => x) hc195)
              refine tl_val (w' := w198) rfl (do_loads (cs := [.bool bg, .int .i64 m178, .int .i64 f, .int .i64 m184]) rfl (by kernel_rfl) (obj_range h216)) (by decide) ?_
              have h217 := (hchg197.obj (fun x => x) (hb193.obj (show ¬ w.heap.size = w55.heap.size by omega) (hchg184.obj (fun x => x) (hchg178.obj (fun x => x) (hb175.obj (fun x => x) (hb56.obj (fun x => x) (hchg38.obj (fun x => x) (hchg19.obj (fun x => x) hc6))))))))
              refine tl_unit rfl (do_storesB (cs := [.bool bg, .int .i64 m178, .int .i64 f, .int .i64 m184]) rfl rfl (by rfl) (by kernel_rfl) h217 (Nat.le_of_ble_eq_true rfl)) ?_
              refine tl_gen (fun w218 e219 => ?_)
              have hb220 : Chg (fun k => k = w.heap.size) w198 w218 := e219 ▸ Chg.setCells _ _ 0 [.bool bg, .int .i64 m178, .int .i64 f, .int .i64 m184]
              have hz221 : w218.heap.size = w198.heap.size := by rw [e219]; exact sc_size _ _ _ _
              have hc222 : w218.heap[w.heap.size]? = some (.cells #[.bool bg, .int .i64 m178, .int .i64 f, .int .i64 m184] 23 (0, 0)) := by rw [e219]; exact obj_setCells [.bool bg, .int .i64 m178, .int .i64 f, .int .i64 m184] 0 h217
              clear e219
              refine tl_val (w' := w218) rfl (do_assign rfl) (by decide) ?_
              refine tl_end ?_
              refine fun a_ ha_ => hK215 _ _ _ (T.sub (L' := [(0, .slice A lb.length c), (2, .pointer (some ⟨w.heap.size, 0, none⟩)), (3, .int .i64 0), (5, .int .i64 (((chk lb).2 : Nat) : Int)), (6, .bool bg), (7, .int .i64 f), (8, .int .i64 0), (9, .pointer (some ⟨w55.heap.size, 0, none⟩)), (10, .slice A197 ((sector bg m178 f m184).length) c197), (13, .bool (decide ((lb.length : Int) ≠ 128))), (21, .bool (decide ((((chk lb).2 : Nat) : Int) ≠ 0))), (31, .bool (decide (e_ ≠ 0))), (55, .bool (decide ((sector bg m178 f m184) ≠ lb)))]) ?_ (sub_cons rfl (sub_cons rfl (sub_cons rfl (sub_cons rfl (sub_cons rfl (sub_cons rfl (sub_cons rfl (sub_cons rfl (sub_cons rfl (sub_cons rfl (sub_cons rfl (sub_cons rfl (sub_cons rfl sub_nil)))))))))))))) a_ ha_
              refine t_ret ?_
              refine fun a_ ha_ => hQ0 _ _ _ (body_ret (rs := [.cell 2 23, .tmp 3]) (vs := [.agg #[.bool bg, .int .i64 m178, .int .i64 f, .int .i64 m184], .int .i64 0]) ha_ (by kernel_rfl) ⟨_, _, _, rfl, rfl, (load_whole (cs := [.bool bg, .int .i64 m178, .int .i64 f, .int .i64 m184]) (by kernel_rfl) (obj_range hc222)), ⟨_, _, rfl, rfl, rfl⟩⟩ ?_)
              have hI_ := fun (x_ : Hd) => rsec_is (x := x_) hlb_ hO_ hmx178 hmx184
              exact ⟨by rw [got_yes (x := (bg, m178, f, m184)) hright_ (Classical.not_not.1 hc206).symm]; rfl, (((((((((((Chg.refl (fun k_ => False) w).step hb4 (fun k_ hk_ (h_ : False) => h_.elim)).step hchg19 (fun k_ hk_ (h_ : False) => h_.elim)).step hchg38 (fun k_ hk_ (h_ : False) => h_.elim)).step hb56 (fun k_ hk_ (h_ : False) => h_.elim)).step hb175 (fun k_ hk_ (h_ : False) => h_.elim)).step hchg178 (fun k_ hk_ (h_ : False) => h_.elim)).step hchg184 (fun k_ hk_ (h_ : False) => h_.elim)).step hb193 (fun k_ hk_ (h_ : k_ = w55.heap.size) => (show False by omega))).step hchg197 (fun k_ hk_ (h_ : False) => h_.elim)).step hb220 (fun k_ hk_ (h_ : k_ = w.heap.size) => (show False by omega)))⟩
          · refine tl_val (w' := w198) rfl (do_move rfl) (by decide) ?_
            refine tl_val (w' := w198) rfl (do_extract (v := .slice none 0 0) rfl rfl) (by decide) ?_
            refine tl_val (w' := w198) rfl (do_extract (v := .int .i64 1) rfl rfl) (by decide) ?_
            refine tl_val (w' := w198) rfl (do_assign rfl) (by decide) ?_
            refine tl_val (w' := w198) rfl (do_assign rfl) (by decide) ?_
            refine tl_end ?_
            refine fun a_ ha_ => hK196 _ _ _ (T.sub (L' := [(0, .slice A lb.length c), (2, .pointer (some ⟨w.heap.size, 0, none⟩)), (3, .int .i64 0), (5, .int .i64 (((chk lb).2 : Nat) : Int)), (6, .bool bg), (7, .int .i64 f), (8, .int .i64 1), (9, .pointer (some ⟨w55.heap.size, 0, none⟩)), (10, .slice none 0 0), (13, .bool (decide ((lb.length : Int) ≠ 128))), (21, .bool (decide ((((chk lb).2 : Nat) : Int) ≠ 0))), (31, .bool (decide (e_ ≠ 0)))]) ?_ (sub_cons rfl (sub_cons rfl (sub_cons rfl (sub_cons rfl (sub_cons rfl (sub_cons rfl (sub_cons rfl (sub_cons rfl (sub_cons rfl (sub_cons rfl (sub_cons rfl (sub_cons rfl sub_nil))))))))))))) a_ ha_
            refine t_seq (fun K223 hK223 => ?_)
            refine t_seq (fun K224 hK224 => ?_)
            refine t_region ?_
            refine tl_val (w' := w198) rfl (do_move rfl) (by decide) ?_
            refine tl_val (w' := w198) rfl (do_neq rfl rfl) (by decide) ?_
            have hk225 : (decide ((1 : Int) ≠ 0)) = true := by decide
            refine tl_val (w' := w198) rfl (do_move rfl) (by decide) ?_
            refine tl_skipU ⟨49, _, rfl, rfl, (by rw [hk225]; rfl)⟩ (by decide) ?_
            refine tl_skipU ⟨49, _, rfl, rfl, (by rw [hk225]; rfl)⟩ (by decide) ?_
            refine tl_skipU ⟨49, _, rfl, rfl, (by rw [hk225]; rfl)⟩ (by decide) ?_
            refine tl_skipU ⟨49, _, rfl, rfl, (by rw [hk225]; rfl)⟩ (by decide) ?_
            refine tl_skipU ⟨49, _, rfl, rfl, (by rw [hk225]; rfl)⟩ (by decide) ?_
            refine tl_val (w' := w198) rfl (do_pick_t rfl hk225 rfl) (by decide) ?_
            refine tl_end ?_
            refine fun a_ ha_ => hK224 _ _ _ (T.sub (L' := [(0, .slice A lb.length c), (2, .pointer (some ⟨w.heap.size, 0, none⟩)), (3, .int .i64 0), (5, .int .i64 (((chk lb).2 : Nat) : Int)), (6, .bool bg), (7, .int .i64 f), (8, .int .i64 1), (9, .pointer (some ⟨w55.heap.size, 0, none⟩)), (10, .slice none 0 0), (13, .bool (decide ((lb.length : Int) ≠ 128))), (21, .bool (decide ((((chk lb).2 : Nat) : Int) ≠ 0))), (31, .bool (decide (e_ ≠ 0))), (55, .bool true)]) ?_ (sub_cons rfl (sub_cons rfl (sub_cons rfl (sub_cons rfl (sub_cons rfl (sub_cons rfl (sub_cons rfl (sub_cons rfl (sub_cons rfl (sub_cons rfl (sub_cons rfl (sub_cons rfl (sub_cons rfl sub_nil)))))))))))))) a_ ha_
            refine t_yes rfl rfl ?_
            refine t_seq (fun K226 hK226 => ?_)
            refine t_region ?_
            refine tl_val (w' := w198) rfl (do_build (vs := []) (v := .agg #[.bool false, .int .i64 0, .int .i64 0, .int .i64 0]) rfl (by kernel_rfl)) (by decide) ?_
            have h227 := (hchg197.obj (fun x => x) (hb193.obj (show ¬ w.heap.size = w55.heap.size by omega) (hchg184.obj (fun x => x) (hchg178.obj (fun x => x) (hb175.obj (fun x => x) (hb56.obj (fun x => x) (hchg38.obj (fun x => x) (hchg19.obj (fun x => x) hc6))))))))
            refine tl_unit rfl (do_storesB (cs := [.bool false, .int .i64 0, .int .i64 0, .int .i64 0]) rfl rfl (by rfl) (by kernel_rfl) h227 (Nat.le_of_ble_eq_true rfl)) ?_
            refine tl_gen (fun w228 e229 => ?_)
            have hb230 : Chg (fun k => k = w.heap.size) w198 w228 := e229 ▸ Chg.setCells _ _ 0 [.bool false, .int .i64 0, .int .i64 0, .int .i64 0]
            have hz231 : w228.heap.size = w198.heap.size := by rw [e229]; exact sc_size _ _ _ _
            have hc232 : w228.heap[w.heap.size]? = some (.cells #[.bool false, .int .i64 0, .int .i64 0, .int .i64 0] 23 (0, 0)) := by rw [e229]; exact obj_setCells [.bool false, .int .i64 0, .int .i64 0, .int .i64 0] 0 h227
            clear e229
            refine tl_val (w' := w228) rfl (do_assign rfl) (by decide) ?_
            refine tl_end ?_
            refine fun a_ ha_ => hK226 _ _ _ (T.sub (L' := [(0, .slice A lb.length c), (2, .pointer (some ⟨w.heap.size, 0, none⟩)), (3, .int .i64 4), (5, .int .i64 (((chk lb).2 : Nat) : Int)), (6, .bool bg), (7, .int .i64 f), (8, .int .i64 1), (9, .pointer (some ⟨w55.heap.size, 0, none⟩)), (10, .slice none 0 0), (13, .bool (decide ((lb.length : Int) ≠ 128))), (21, .bool (decide ((((chk lb).2 : Nat) : Int) ≠ 0))), (31, .bool (decide (e_ ≠ 0))), (55, .bool true)]) ?_ (sub_cons rfl (sub_cons rfl (sub_cons rfl (sub_cons rfl (sub_cons rfl (sub_cons rfl (sub_cons rfl (sub_cons rfl (sub_cons rfl (sub_cons rfl (sub_cons rfl (sub_cons rfl (sub_cons rfl sub_nil)))))))))))))) a_ ha_
            refine t_ret ?_
            refine fun a_ ha_ => hQ0 _ _ _ (body_ret (rs := [.cell 2 23, .tmp 3]) (vs := [.agg #[.bool false, .int .i64 0, .int .i64 0, .int .i64 0], .int .i64 4]) ha_ (by kernel_rfl) ⟨_, _, _, rfl, rfl, (load_whole (cs := [.bool false, .int .i64 0, .int .i64 0, .int .i64 0]) (by kernel_rfl) (obj_range hc232)), ⟨_, _, rfl, rfl, rfl⟩⟩ ?_)
            have hI_ := fun (x_ : Hd) => rsec_is (x := x_) hlb_ hO_ hmx178 hmx184
            have hno_ := got_bad hlb_ hck_ (sec_no (y := (bg, m178, f, m184)) hI_ (.inl hright_))
            exact ⟨by rw [hno_]; rfl, (((((((((((Chg.refl (fun k_ => False) w).step hb4 (fun k_ hk_ (h_ : False) => h_.elim)).step hchg19 (fun k_ hk_ (h_ : False) => h_.elim)).step hchg38 (fun k_ hk_ (h_ : False) => h_.elim)).step hb56 (fun k_ hk_ (h_ : False) => h_.elim)).step hb175 (fun k_ hk_ (h_ : False) => h_.elim)).step hchg178 (fun k_ hk_ (h_ : False) => h_.elim)).step hchg184 (fun k_ hk_ (h_ : False) => h_.elim)).step hb193 (fun k_ hk_ (h_ : k_ = w55.heap.size) => (show False by omega))).step hchg197 (fun k_ hk_ (h_ : False) => h_.elim)).step hb230 (fun k_ hk_ (h_ : k_ = w.heap.size) => (show False by omega)))⟩
end Go.Proofs.YtfmpbbeacpdalaaDoor
