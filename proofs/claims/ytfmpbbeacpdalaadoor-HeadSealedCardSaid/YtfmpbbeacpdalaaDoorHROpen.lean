/-
  The reference's header, opened.
-/
import Derived.Test.YtfmpbbeacpdalaaDoorRCur
import Derived.Test.YtfmpbbeacpdalaaDoorHIOpen
import Derived.OpenShut
set_option linter.unusedVariables false
set_option linter.unusedSimpArgs false
set_option maxRecDepth 100000
namespace Go.Proofs.YtfmpbbeacpdalaaDoor
open Go.RowKit

theorem hdr_heads {l : List UInt8} {big : Bool} {first : Int} (h : HdrOf l big first) : (l.drop 0).take (4 - 0) = (if big then [73, 73, 43, 0] else [73, 73, 42, 0]) ∧ (big = true → (l.drop 4).take (8 - 4) = [8, 0, 0, 0]) := by
  obtain ⟨_, _, _, rest, rfl⟩ := h
  cases big <;> simp [hdr]
theorem ropen_e {A : Option Addr} {c : Nat} {l : List UInt8} {w : World} (ha : Rd w A c l) (hll : l.length ≤ 1000000) : Calls Tryd.prog 19 [.slice A l.length c].toArray w
    (Ret fun v w' => ∃ e bg f, v = .tuple #[.bool bg, .int .i64 f, .int .i64 e] ∧ HeadO l e bg f ∧ Chg (fun _ => False) w w') := by
  refine enter (n := 60) (L := [(0, .slice A l.length c)]) (args := [.slice A l.length c]) Tryd.func19 rfl rfl (Nat.le_of_ble_eq_true rfl) (by intro t v h; exact look_args h) ?_
  refine t_body (fun Q0 hB0 hQ0 => ?_)
  refine t_seq (fun K1 hK1 => ?_)
  refine t_region ?_
  refine tl_val (w' := w) rfl (do_assign rfl) (by decide) ?_
  refine tl_val (w' := w) rfl (do_assign rfl) (by decide) ?_
  refine tl_val (w' := w) rfl (do_assign rfl) (by decide) ?_
  refine tl_end ?_
  refine fun a_ ha_ => hK1 _ _ _ (T.sub (L' := [(0, .slice A l.length c), (2, .bool false), (3, .int .i64 0), (4, .int .i64 0)]) ?_ (sub_cons rfl (sub_cons rfl (sub_cons rfl (sub_cons rfl sub_nil))))) a_ ha_
  refine t_seq (fun K2 hK2 => ?_)
  refine t_seq (fun K3 hK3 => ?_)
  refine t_region ?_
  refine tl_val (w' := w) rfl (do_move rfl) (by decide) ?_
  refine tl_val (w' := w) rfl (do_builtin (v := .int .i64 (l.length : Int)) rfl (fun _ _ => by kernel_rfl)) (by decide) ?_
  refine tl_val (w' := w) rfl (do_lss rfl rfl) (by decide) ?_
  refine tl_end ?_
  refine fun a_ ha_ => hK3 _ _ _ (T.sub (L' := [(0, .slice A l.length c), (2, .bool false), (3, .int .i64 0), (4, .int .i64 0), (11, .bool (decide ((l.length : Int) < 8)))]) ?_ (sub_cons rfl (sub_cons rfl (sub_cons rfl (sub_cons rfl (sub_cons rfl sub_nil)))))) a_ ha_
  by_cases hc4 : (l.length : Int) < 8
  · have hk5 := decide_eq_true hc4
    refine t_yes rfl hk5 ?_
    refine t_seq (fun K6 hK6 => ?_)
    refine t_region ?_
    refine tl_val (w' := w) rfl (do_assign rfl) (by decide) ?_
    refine tl_val (w' := w) rfl (do_assign rfl) (by decide) ?_
    refine tl_val (w' := w) rfl (do_assign rfl) (by decide) ?_
    refine tl_end ?_
    refine fun a_ ha_ => hK6 _ _ _ (T.sub (L' := [(0, .slice A l.length c), (2, .bool false), (3, .int .i64 0), (4, .int .i64 3), (11, .bool (decide ((l.length : Int) < 8)))]) ?_ (sub_cons rfl (sub_cons rfl (sub_cons rfl (sub_cons rfl (sub_cons rfl sub_nil)))))) a_ ha_
    refine t_ret ?_
    refine fun a_ ha_ => hQ0 _ _ _ (body_ret (rs := [.tmp 2, .tmp 3, .tmp 4]) (vs := [.bool false, .int .i64 0, .int .i64 3]) ha_ (by kernel_rfl) ⟨_, _, rfl, rfl, ⟨_, _, rfl, rfl, ⟨_, _, rfl, rfl, rfl⟩⟩⟩ ?_)
    refine ⟨_, _, _, rfl, .inl ⟨by decide, rfl, rfl, ?_⟩, (Chg.refl (fun k_ => False) w)⟩
    intro big_ first_ h2_
    have F_ := hdr_facts h2_
    have G_ := hdr_heads h2_
    have hl_ := F_.len
    have hp_ := F_.pl
    obtain ⟨g1_, g2_⟩ := G_
    cases big_ with
    | true =>
      simp only [if_true, if_false, Bool.false_eq_true] at g1_
      have hb_ := F_.lenb rfl
      have g3_ := g2_ rfl
      first | omega | exact absurd g1_ (by assumption) | (simp_all; done) | exact absurd ((by assumption : _ = _).symm.trans g1_) (by decide) | exact absurd g3_ (by assumption)
    | false =>
      simp only [if_true, if_false, Bool.false_eq_true] at g1_
      first | omega | exact absurd g1_ (by assumption) | (simp_all; done) | exact absurd ((by assumption : _ = _).symm.trans g1_) (by decide)
  · have hk5 := decide_eq_false hc4
    refine t_no rfl hk5 ?_
    refine t_skip ?_
    refine fun a_ ha_ => hK2 _ _ _ (T.sub (L' := [(0, .slice A l.length c), (2, .bool false), (3, .int .i64 0), (4, .int .i64 0), (11, .bool (decide ((l.length : Int) < 8)))]) ?_ (sub_cons rfl (sub_cons rfl (sub_cons rfl (sub_cons rfl (sub_cons rfl sub_nil)))))) a_ ha_
    refine t_seq (fun K7 hK7 => ?_)
    refine t_seq (fun K8 hK8 => ?_)
    refine t_region ?_
    refine tl_val (w' := w) rfl (do_move rfl) (by decide) ?_
    have hs9 := fun W => slice_rd (P := Tryd.prog) (t := 24) (lo := 0) (hi := 4) (l' := none) (h' := (some (.int .i64 4))) ha (by kernel_rfl) (by omega) (by omega) (by omega) (.inl ⟨rfl, rfl⟩) (.inr ⟨_, rfl⟩) W
    refine tl_val (w' := w) rfl (do_slice (v := .slice (sub A c 0 1) (((l.drop 0).take (4 - 0)).length) (c - 0)) rfl rfl rfl rfl (hs9 _).1) (by decide) ?_
    refine tl_val (w' := w) rfl (do_convert (u := .slice (sub A c 0 1) (((l.drop 0).take (4 - 0)).length) (c - 0)) rfl (run_str (hs9 w).2)) (by decide) ?_
    refine tl_val (w' := w) rfl (do_eqs rfl rfl) (by decide) ?_
    refine tl_end ?_
    refine fun a_ ha_ => hK8 _ _ _ (T.sub (L' := [(0, .slice A l.length c), (2, .bool false), (3, .int .i64 0), (4, .int .i64 0), (11, .bool (decide ((l.length : Int) < 8))), (15, .bool (decide (((l.drop 0).take (4 - 0)) = ([73, 73, 42, 0] : List UInt8))))]) ?_ (sub_cons rfl (sub_cons rfl (sub_cons rfl (sub_cons rfl (sub_cons rfl (sub_cons rfl sub_nil))))))) a_ ha_
    by_cases hc10 : ((l.drop 0).take (4 - 0)) = ([73, 73, 42, 0] : List UInt8)
    · have hk11 := decide_eq_true hc10
      have hsm_ := hc10
      refine t_yes rfl hk11 ?_
      refine t_seq (fun K12 hK12 => ?_)
      refine t_region ?_
      refine tl_val (w' := w) rfl (do_move rfl) (by decide) ?_
      refine tl_val (w' := w) rfl (do_build (vs := [.slice A l.length c, .int .i64 4]) (v := .agg #[.slice A l.length c, .int .i64 4, .bool false, .int .i64 0]) rfl (by kernel_rfl)) (by decide) ?_
      refine tl_call rfl (en_call (f := 36) (by kernel_rfl) rfl) rfl (rnumber0_e (at_ := 4) 4 false ha (by omega) (by omega)) (fun v16 w14 hr15 => ?_) (fun _ _ h => h.elim) (fun _ h => h)
      obtain ⟨hr13_, hchg13⟩ := hr15
      have hz17 := hchg13.size
      rcases hr13_ with ⟨m13, rfl, hnum13⟩ | ⟨m13, rfl, hnum13⟩
      · have hlm13 := hnum13.2.2.2
        have hle13 := hnum13.2.1
        refine tl_val (w' := w14) rfl (do_move rfl) (by decide) ?_
        refine tl_val (w' := w14) rfl (do_extract (v := .int .i64 (m13 : Int)) rfl rfl) (by decide) ?_
        refine tl_val (w' := w14) rfl (do_extract (v := .agg #[.slice A l.length c, .int .i64 ((4 + Int.toNat 4 : Nat) : Int), .bool false, .int .i64 0]) rfl rfl) (by decide) ?_
        refine tl_val rfl (do_alloc (v := .pointer (some ⟨w14.heap.size, 0, none⟩)) (w' := w14.alloc (.cells #[.slice none 0 0, .int .i64 0, .bool false, .int .i64 0] 55)) (by kernel_rfl)) (by decide) ?_
        refine tl_gen (fun w18 e19 => ?_)
        have hb20 : Chg (fun _ => False) w14 w18 := e19 ▸ Chg.alloc _ _
        have hz21 : w18.heap.size = w14.heap.size + 1 := by rw [e19]; exact size_alloc _ _
        have hc22 : w18.heap[w14.heap.size]? = some (.cells #[.slice none 0 0, .int .i64 0, .bool false, .int .i64 0] 55 (0, 0)) := by rw [e19]; exact obj_new _ _
        clear e19
        refine tl_val (w' := w18) rfl (do_assign rfl) (by decide) ?_
        refine tl_unit rfl (do_storesB (cs := [.slice A l.length c, .int .i64 ((4 + Int.toNat 4 : Nat) : Int), .bool false, .int .i64 0]) rfl rfl (by rfl) (by kernel_rfl) hc22 (Nat.le_of_ble_eq_true rfl)) ?_
        refine tl_gen (fun w23 e24 => ?_)
        have hb25 : Chg (fun k => k = w14.heap.size) w18 w23 := e24 ▸ Chg.setCells _ _ 0 [.slice A l.length c, .int .i64 ((4 + Int.toNat 4 : Nat) : Int), .bool false, .int .i64 0]
        have hz26 : w23.heap.size = w18.heap.size := by rw [e24]; exact sc_size _ _ _ _
        have hc27 : w23.heap[w14.heap.size]? = some (.cells #[.slice A l.length c, .int .i64 ((4 + Int.toNat 4 : Nat) : Int), .bool false, .int .i64 0] 55 (0, 0)) := by rw [e24]; exact obj_setCells [.slice A l.length c, .int .i64 ((4 + Int.toNat 4 : Nat) : Int), .bool false, .int .i64 0] 0 hc22
        clear e24
        refine tl_end ?_
        refine fun a_ ha_ => hK12 _ _ _ (T.sub (L' := [(0, .slice A l.length c), (2, .bool false), (3, .int .i64 0), (4, .int .i64 0), (5, .int .i64 (m13 : Int)), (11, .bool (decide ((l.length : Int) < 8))), (15, .bool (decide (((l.drop 0).take (4 - 0)) = ([73, 73, 42, 0] : List UInt8))))]) ?_ (sub_cons rfl (sub_cons rfl (sub_cons rfl (sub_cons rfl (sub_cons rfl (sub_cons rfl (sub_cons rfl sub_nil)))))))) a_ ha_
        refine t_seq (fun K28 hK28 => ?_)
        refine t_seq (fun K29 hK29 => ?_)
        refine t_region ?_
        refine tl_val (w' := w23) rfl (do_move rfl) (by decide) ?_
        refine tl_val (w' := w23) rfl (do_neq rfl rfl) (by decide) ?_
        refine tl_val (w' := w23) rfl (do_move rfl) (by decide) ?_
        by_cases hc30 : (m13 : Int) ≠ 0
        · have hk31 := decide_eq_true hc30
          refine tl_val (w' := w23) ⟨24, _, rfl, rfl, (by rw [hk31]; rfl)⟩ (do_move rfl) (by decide) ?_
          refine tl_call ⟨24, _, rfl, rfl, (by rw [hk31]; rfl)⟩ (en_call (f := 37) (by kernel_rfl) rfl) rfl (rplace_e (m13 : Int) false _) (fun v33 _ hr32 => ?_) (fun _ _ h => h.elim) (fun _ h => h)
          obtain ⟨rfl, rfl⟩ := hr32
          refine tl_val (w' := w23) ⟨24, _, rfl, rfl, (by rw [hk31]; rfl)⟩ (do_not rfl (not_dec _)) (by decide) ?_
          refine tl_val (w' := w23) rfl (do_pick_t rfl hk31 rfl) (by decide) ?_
          refine tl_end ?_
          refine fun a_ ha_ => hK29 _ _ _ (T.sub (L' := [(0, .slice A l.length c), (2, .bool false), (3, .int .i64 0), (4, .int .i64 0), (5, .int .i64 (m13 : Int)), (11, .bool (decide ((l.length : Int) < 8))), (15, .bool (decide (((l.drop 0).take (4 - 0)) = ([73, 73, 42, 0] : List UInt8)))), (28, .bool (decide (¬ (PlaceP (m13 : Int) false))))]) ?_ (sub_cons rfl (sub_cons rfl (sub_cons rfl (sub_cons rfl (sub_cons rfl (sub_cons rfl (sub_cons rfl (sub_cons rfl sub_nil))))))))) a_ ha_
          by_cases hc34 : ¬ (PlaceP (m13 : Int) false)
          · have hk35 := decide_eq_true hc34
            refine t_yes rfl hk35 ?_
            refine t_seq (fun K36 hK36 => ?_)
            refine t_region ?_
            refine tl_val (w' := w23) rfl (do_assign rfl) (by decide) ?_
            refine tl_val (w' := w23) rfl (do_assign rfl) (by decide) ?_
            refine tl_val (w' := w23) rfl (do_assign rfl) (by decide) ?_
            refine tl_end ?_
            refine fun a_ ha_ => hK36 _ _ _ (T.sub (L' := [(0, .slice A l.length c), (2, .bool false), (3, .int .i64 0), (4, .int .i64 2), (5, .int .i64 (m13 : Int)), (11, .bool (decide ((l.length : Int) < 8))), (15, .bool (decide (((l.drop 0).take (4 - 0)) = ([73, 73, 42, 0] : List UInt8)))), (28, .bool (decide (¬ (PlaceP (m13 : Int) false))))]) ?_ (sub_cons rfl (sub_cons rfl (sub_cons rfl (sub_cons rfl (sub_cons rfl (sub_cons rfl (sub_cons rfl (sub_cons rfl sub_nil))))))))) a_ ha_
            refine t_ret ?_
            refine fun a_ ha_ => hQ0 _ _ _ (body_ret (rs := [.tmp 2, .tmp 3, .tmp 4]) (vs := [.bool false, .int .i64 0, .int .i64 2]) ha_ (by kernel_rfl) ⟨_, _, rfl, rfl, ⟨_, _, rfl, rfl, ⟨_, _, rfl, rfl, rfl⟩⟩⟩ ?_)
            refine ⟨_, _, _, rfl, .inl ⟨by decide, rfl, rfl, ?_⟩, ((((Chg.refl (fun k_ => False) w).step hchg13 (fun k_ hk_ (h_ : False) => h_.elim)).step hb20 (fun k_ hk_ (h_ : False) => h_.elim)).step hb25 (fun k_ hk_ (h_ : k_ = w14.heap.size) => (show False by omega)))⟩
            intro big_ first_ h2_
            have F_ := hdr_facts h2_
            have G_ := hdr_heads h2_
            have hl_ := F_.len
            have hp_ := F_.pl
            obtain ⟨g1_, g2_⟩ := G_
            cases big_ with
            | true =>
              simp only [if_true, if_false, Bool.false_eq_true] at g1_
              have hb_ := F_.lenb rfl
              have g3_ := g2_ rfl
              first | exact absurd (hsm_.symm.trans g1_) (by decide)
            | false =>
              simp only [if_true, if_false, Bool.false_eq_true] at g1_
              have e_ := hnum13.eq (F_.m4 rfl)
              first | (rcases hp_ with h0_ | h0_ <;> first | omega | (rw [← e_] at h0_; contradiction))
          · have hk35 := decide_eq_false hc34
            refine t_no rfl hk35 ?_
            refine t_skip ?_
            refine fun a_ ha_ => hK28 _ _ _ (T.sub (L' := [(0, .slice A l.length c), (2, .bool false), (3, .int .i64 0), (4, .int .i64 0), (5, .int .i64 (m13 : Int)), (11, .bool (decide ((l.length : Int) < 8))), (15, .bool (decide (((l.drop 0).take (4 - 0)) = ([73, 73, 42, 0] : List UInt8)))), (28, .bool (decide (¬ (PlaceP (m13 : Int) false))))]) ?_ (sub_cons rfl (sub_cons rfl (sub_cons rfl (sub_cons rfl (sub_cons rfl (sub_cons rfl (sub_cons rfl (sub_cons rfl sub_nil))))))))) a_ ha_
            refine t_seq (fun K37 hK37 => ?_)
            refine t_region ?_
            refine tl_val (w' := w23) rfl (do_move rfl) (by decide) ?_
            refine tl_val (w' := w23) rfl (do_assign rfl) (by decide) ?_
            refine tl_val (w' := w23) rfl (do_assign rfl) (by decide) ?_
            refine tl_val (w' := w23) rfl (do_assign rfl) (by decide) ?_
            refine tl_end ?_
            refine fun a_ ha_ => hK37 _ _ _ (T.sub (L' := [(0, .slice A l.length c), (2, .bool false), (3, .int .i64 (m13 : Int)), (4, .int .i64 0), (5, .int .i64 (m13 : Int)), (11, .bool (decide ((l.length : Int) < 8))), (15, .bool (decide (((l.drop 0).take (4 - 0)) = ([73, 73, 42, 0] : List UInt8)))), (28, .bool (decide (¬ (PlaceP (m13 : Int) false))))]) ?_ (sub_cons rfl (sub_cons rfl (sub_cons rfl (sub_cons rfl (sub_cons rfl (sub_cons rfl (sub_cons rfl (sub_cons rfl sub_nil))))))))) a_ ha_
            refine t_ret ?_
            refine fun a_ ha_ => hQ0 _ _ _ (body_ret (rs := [.tmp 2, .tmp 3, .tmp 4]) (vs := [.bool false, .int .i64 (m13 : Int), .int .i64 0]) ha_ (by kernel_rfl) ⟨_, _, rfl, rfl, ⟨_, _, rfl, rfl, ⟨_, _, rfl, rfl, rfl⟩⟩⟩ ?_)
            refine ⟨_, _, _, rfl, .inr ⟨rfl, by omega, ?_⟩, ((((Chg.refl (fun k_ => False) w).step hchg13 (fun k_ hk_ (h_ : False) => h_.elim)).step hb20 (fun k_ hk_ (h_ : False) => h_.elim)).step hb25 (fun k_ hk_ (h_ : k_ = w14.heap.size) => (show False by omega)))⟩
            intro big_ first_ h2_
            have F_ := hdr_facts h2_
            have G_ := hdr_heads h2_
            have hl_ := F_.len
            have hp_ := F_.pl
            obtain ⟨g1_, g2_⟩ := G_
            cases big_ with
            | true =>
              simp only [if_true, if_false, Bool.false_eq_true] at g1_
              have hb_ := F_.lenb rfl
              have g3_ := g2_ rfl
              first | exact absurd (hsm_.symm.trans g1_) (by decide)
            | false =>
              simp only [if_true, if_false, Bool.false_eq_true] at g1_
              first | exact ⟨rfl, hnum13.eq (F_.m4 rfl)⟩
        · have hk31 := decide_eq_false hc30
          refine tl_skipU ⟨24, _, rfl, rfl, (by rw [hk31]; rfl)⟩ (by decide) ?_
          refine tl_skipU ⟨24, _, rfl, rfl, (by rw [hk31]; rfl)⟩ (by decide) ?_
          refine tl_skipU ⟨24, _, rfl, rfl, (by rw [hk31]; rfl)⟩ (by decide) ?_
          refine tl_val (w' := w23) rfl (do_pick_f rfl hk31 rfl) (by decide) ?_
          refine tl_end ?_
          refine fun a_ ha_ => hK29 _ _ _ (T.sub (L' := [(0, .slice A l.length c), (2, .bool false), (3, .int .i64 0), (4, .int .i64 0), (5, .int .i64 (m13 : Int)), (11, .bool (decide ((l.length : Int) < 8))), (15, .bool (decide (((l.drop 0).take (4 - 0)) = ([73, 73, 42, 0] : List UInt8)))), (28, .bool false)]) ?_ (sub_cons rfl (sub_cons rfl (sub_cons rfl (sub_cons rfl (sub_cons rfl (sub_cons rfl (sub_cons rfl (sub_cons rfl sub_nil))))))))) a_ ha_
          refine t_no rfl rfl ?_
          refine t_skip ?_
          refine fun a_ ha_ => hK28 _ _ _ (T.sub (L' := [(0, .slice A l.length c), (2, .bool false), (3, .int .i64 0), (4, .int .i64 0), (5, .int .i64 (m13 : Int)), (11, .bool (decide ((l.length : Int) < 8))), (15, .bool (decide (((l.drop 0).take (4 - 0)) = ([73, 73, 42, 0] : List UInt8)))), (28, .bool false)]) ?_ (sub_cons rfl (sub_cons rfl (sub_cons rfl (sub_cons rfl (sub_cons rfl (sub_cons rfl (sub_cons rfl (sub_cons rfl sub_nil))))))))) a_ ha_
          refine t_seq (fun K38 hK38 => ?_)
          refine t_region ?_
          refine tl_val (w' := w23) rfl (do_move rfl) (by decide) ?_
          refine tl_val (w' := w23) rfl (do_assign rfl) (by decide) ?_
          refine tl_val (w' := w23) rfl (do_assign rfl) (by decide) ?_
          refine tl_val (w' := w23) rfl (do_assign rfl) (by decide) ?_
          refine tl_end ?_
          refine fun a_ ha_ => hK38 _ _ _ (T.sub (L' := [(0, .slice A l.length c), (2, .bool false), (3, .int .i64 (m13 : Int)), (4, .int .i64 0), (5, .int .i64 (m13 : Int)), (11, .bool (decide ((l.length : Int) < 8))), (15, .bool (decide (((l.drop 0).take (4 - 0)) = ([73, 73, 42, 0] : List UInt8)))), (28, .bool false)]) ?_ (sub_cons rfl (sub_cons rfl (sub_cons rfl (sub_cons rfl (sub_cons rfl (sub_cons rfl (sub_cons rfl (sub_cons rfl sub_nil))))))))) a_ ha_
          refine t_ret ?_
          refine fun a_ ha_ => hQ0 _ _ _ (body_ret (rs := [.tmp 2, .tmp 3, .tmp 4]) (vs := [.bool false, .int .i64 (m13 : Int), .int .i64 0]) ha_ (by kernel_rfl) ⟨_, _, rfl, rfl, ⟨_, _, rfl, rfl, ⟨_, _, rfl, rfl, rfl⟩⟩⟩ ?_)
          refine ⟨_, _, _, rfl, .inr ⟨rfl, by omega, ?_⟩, ((((Chg.refl (fun k_ => False) w).step hchg13 (fun k_ hk_ (h_ : False) => h_.elim)).step hb20 (fun k_ hk_ (h_ : False) => h_.elim)).step hb25 (fun k_ hk_ (h_ : k_ = w14.heap.size) => (show False by omega)))⟩
          intro big_ first_ h2_
          have F_ := hdr_facts h2_
          have G_ := hdr_heads h2_
          have hl_ := F_.len
          have hp_ := F_.pl
          obtain ⟨g1_, g2_⟩ := G_
          cases big_ with
          | true =>
            simp only [if_true, if_false, Bool.false_eq_true] at g1_
            have hb_ := F_.lenb rfl
            have g3_ := g2_ rfl
            first | exact absurd (hsm_.symm.trans g1_) (by decide)
          | false =>
            simp only [if_true, if_false, Bool.false_eq_true] at g1_
            first | exact ⟨rfl, hnum13.eq (F_.m4 rfl)⟩
      · have hlm13 := hnum13.2
        refine tl_val (w' := w14) rfl (do_move rfl) (by decide) ?_
        refine tl_val (w' := w14) rfl (do_extract (v := .int .i64 0) rfl rfl) (by decide) ?_
        refine tl_val (w' := w14) rfl (do_extract (v := .agg #[.slice A l.length c, .int .i64 4, .bool false, .int .i64 (m13 : Int)]) rfl rfl) (by decide) ?_
        refine tl_val rfl (do_alloc (v := .pointer (some ⟨w14.heap.size, 0, none⟩)) (w' := w14.alloc (.cells #[.slice none 0 0, .int .i64 0, .bool false, .int .i64 0] 55)) (by kernel_rfl)) (by decide) ?_
        refine tl_gen (fun w39 e40 => ?_)
        have hb41 : Chg (fun _ => False) w14 w39 := e40 ▸ Chg.alloc _ _
        have hz42 : w39.heap.size = w14.heap.size + 1 := by rw [e40]; exact size_alloc _ _
        have hc43 : w39.heap[w14.heap.size]? = some (.cells #[.slice none 0 0, .int .i64 0, .bool false, .int .i64 0] 55 (0, 0)) := by rw [e40]; exact obj_new _ _
        clear e40
        refine tl_val (w' := w39) rfl (do_assign rfl) (by decide) ?_
        refine tl_unit rfl (do_storesB (cs := [.slice A l.length c, .int .i64 4, .bool false, .int .i64 (m13 : Int)]) rfl rfl (by rfl) (by kernel_rfl) hc43 (Nat.le_of_ble_eq_true rfl)) ?_
        refine tl_gen (fun w44 e45 => ?_)
        have hb46 : Chg (fun k => k = w14.heap.size) w39 w44 := e45 ▸ Chg.setCells _ _ 0 [.slice A l.length c, .int .i64 4, .bool false, .int .i64 (m13 : Int)]
        have hz47 : w44.heap.size = w39.heap.size := by rw [e45]; exact sc_size _ _ _ _
        have hc48 : w44.heap[w14.heap.size]? = some (.cells #[.slice A l.length c, .int .i64 4, .bool false, .int .i64 (m13 : Int)] 55 (0, 0)) := by rw [e45]; exact obj_setCells [.slice A l.length c, .int .i64 4, .bool false, .int .i64 (m13 : Int)] 0 hc43
        clear e45
        refine tl_end ?_
        refine fun a_ ha_ => hK12 _ _ _ (T.sub (L' := [(0, .slice A l.length c), (2, .bool false), (3, .int .i64 0), (4, .int .i64 0), (5, .int .i64 0), (11, .bool (decide ((l.length : Int) < 8))), (15, .bool (decide (((l.drop 0).take (4 - 0)) = ([73, 73, 42, 0] : List UInt8))))]) ?_ (sub_cons rfl (sub_cons rfl (sub_cons rfl (sub_cons rfl (sub_cons rfl (sub_cons rfl (sub_cons rfl sub_nil)))))))) a_ ha_
        refine t_seq (fun K49 hK49 => ?_)
        refine t_seq (fun K50 hK50 => ?_)
        refine t_region ?_
        refine tl_val (w' := w44) rfl (do_move rfl) (by decide) ?_
        refine tl_val (w' := w44) rfl (do_neq rfl rfl) (by decide) ?_
        have hk51 : (decide ((0 : Int) ≠ 0)) = false := by decide
        refine tl_val (w' := w44) rfl (do_move rfl) (by decide) ?_
        refine tl_skipU ⟨24, _, rfl, rfl, (by rw [hk51]; rfl)⟩ (by decide) ?_
        refine tl_skipU ⟨24, _, rfl, rfl, (by rw [hk51]; rfl)⟩ (by decide) ?_
        refine tl_skipU ⟨24, _, rfl, rfl, (by rw [hk51]; rfl)⟩ (by decide) ?_
        refine tl_val (w' := w44) rfl (do_pick_f rfl hk51 rfl) (by decide) ?_
        refine tl_end ?_
        refine fun a_ ha_ => hK50 _ _ _ (T.sub (L' := [(0, .slice A l.length c), (2, .bool false), (3, .int .i64 0), (4, .int .i64 0), (5, .int .i64 0), (11, .bool (decide ((l.length : Int) < 8))), (15, .bool (decide (((l.drop 0).take (4 - 0)) = ([73, 73, 42, 0] : List UInt8)))), (28, .bool false)]) ?_ (sub_cons rfl (sub_cons rfl (sub_cons rfl (sub_cons rfl (sub_cons rfl (sub_cons rfl (sub_cons rfl (sub_cons rfl sub_nil))))))))) a_ ha_
        refine t_no rfl rfl ?_
        refine t_skip ?_
        refine fun a_ ha_ => hK49 _ _ _ (T.sub (L' := [(0, .slice A l.length c), (2, .bool false), (3, .int .i64 0), (4, .int .i64 0), (5, .int .i64 0), (11, .bool (decide ((l.length : Int) < 8))), (15, .bool (decide (((l.drop 0).take (4 - 0)) = ([73, 73, 42, 0] : List UInt8)))), (28, .bool false)]) ?_ (sub_cons rfl (sub_cons rfl (sub_cons rfl (sub_cons rfl (sub_cons rfl (sub_cons rfl (sub_cons rfl (sub_cons rfl sub_nil))))))))) a_ ha_
        refine t_seq (fun K52 hK52 => ?_)
        refine t_region ?_
        refine tl_val (w' := w44) rfl (do_move rfl) (by decide) ?_
        refine tl_val (w' := w44) rfl (do_assign rfl) (by decide) ?_
        refine tl_val (w' := w44) rfl (do_assign rfl) (by decide) ?_
        refine tl_val (w' := w44) rfl (do_assign rfl) (by decide) ?_
        refine tl_end ?_
        refine fun a_ ha_ => hK52 _ _ _ (T.sub (L' := [(0, .slice A l.length c), (2, .bool false), (3, .int .i64 0), (4, .int .i64 0), (5, .int .i64 0), (11, .bool (decide ((l.length : Int) < 8))), (15, .bool (decide (((l.drop 0).take (4 - 0)) = ([73, 73, 42, 0] : List UInt8)))), (28, .bool false)]) ?_ (sub_cons rfl (sub_cons rfl (sub_cons rfl (sub_cons rfl (sub_cons rfl (sub_cons rfl (sub_cons rfl (sub_cons rfl sub_nil))))))))) a_ ha_
        refine t_ret ?_
        refine fun a_ ha_ => hQ0 _ _ _ (body_ret (rs := [.tmp 2, .tmp 3, .tmp 4]) (vs := [.bool false, .int .i64 0, .int .i64 0]) ha_ (by kernel_rfl) ⟨_, _, rfl, rfl, ⟨_, _, rfl, rfl, ⟨_, _, rfl, rfl, rfl⟩⟩⟩ ?_)
        refine ⟨_, _, _, rfl, .inr ⟨rfl, by omega, ?_⟩, ((((Chg.refl (fun k_ => False) w).step hchg13 (fun k_ hk_ (h_ : False) => h_.elim)).step hb41 (fun k_ hk_ (h_ : False) => h_.elim)).step hb46 (fun k_ hk_ (h_ : k_ = w14.heap.size) => (show False by omega)))⟩
        intro big_ first_ h2_
        have F_ := hdr_facts h2_
        have G_ := hdr_heads h2_
        have hl_ := F_.len
        have hp_ := F_.pl
        obtain ⟨g1_, g2_⟩ := G_
        cases big_ with
        | true =>
          simp only [if_true, if_false, Bool.false_eq_true] at g1_
          have hb_ := F_.lenb rfl
          have g3_ := g2_ rfl
          first | exact absurd (hsm_.symm.trans g1_) (by decide)
        | false =>
          simp only [if_true, if_false, Bool.false_eq_true] at g1_
          first | exact (hnum13.not (F_.m4 rfl)).elim
    · have hk11 := decide_eq_false hc10
      have hsm_ := hc10
      refine t_no rfl hk11 ?_
      refine t_skip ?_
      refine fun a_ ha_ => hK7 _ _ _ (T.sub (L' := [(0, .slice A l.length c), (2, .bool false), (3, .int .i64 0), (4, .int .i64 0), (11, .bool (decide ((l.length : Int) < 8))), (15, .bool (decide (((l.drop 0).take (4 - 0)) = ([73, 73, 42, 0] : List UInt8))))]) ?_ (sub_cons rfl (sub_cons rfl (sub_cons rfl (sub_cons rfl (sub_cons rfl (sub_cons rfl sub_nil))))))) a_ ha_
      refine t_seq (fun K53 hK53 => ?_)
      refine t_seq (fun K54 hK54 => ?_)
      refine t_region ?_
      refine tl_val (w' := w) rfl (do_move rfl) (by decide) ?_
      have hs55 := fun W => slice_rd (P := Tryd.prog) (t := 24) (lo := 0) (hi := 4) (l' := none) (h' := (some (.int .i64 4))) ha (by kernel_rfl) (by omega) (by omega) (by omega) (.inl ⟨rfl, rfl⟩) (.inr ⟨_, rfl⟩) W
      refine tl_val (w' := w) rfl (do_slice (v := .slice (sub A c 0 1) (((l.drop 0).take (4 - 0)).length) (c - 0)) rfl rfl rfl rfl (hs55 _).1) (by decide) ?_
      refine tl_val (w' := w) rfl (do_convert (u := .slice (sub A c 0 1) (((l.drop 0).take (4 - 0)).length) (c - 0)) rfl (run_str (hs55 w).2)) (by decide) ?_
      refine tl_val (w' := w) rfl (do_nes rfl rfl) (by decide) ?_
      refine tl_end ?_
      refine fun a_ ha_ => hK54 _ _ _ (T.sub (L' := [(0, .slice A l.length c), (2, .bool false), (3, .int .i64 0), (4, .int .i64 0), (11, .bool (decide ((l.length : Int) < 8))), (15, .bool (decide (((l.drop 0).take (4 - 0)) = ([73, 73, 42, 0] : List UInt8)))), (33, .bool (decide (((l.drop 0).take (4 - 0)) ≠ ([73, 73, 43, 0] : List UInt8))))]) ?_ (sub_cons rfl (sub_cons rfl (sub_cons rfl (sub_cons rfl (sub_cons rfl (sub_cons rfl (sub_cons rfl sub_nil)))))))) a_ ha_
      by_cases hc56 : ((l.drop 0).take (4 - 0)) ≠ ([73, 73, 43, 0] : List UInt8)
      · have hk57 := decide_eq_true hc56
        refine t_yes rfl hk57 ?_
        refine t_seq (fun K58 hK58 => ?_)
        refine t_region ?_
        refine tl_val (w' := w) rfl (do_assign rfl) (by decide) ?_
        refine tl_val (w' := w) rfl (do_assign rfl) (by decide) ?_
        refine tl_val (w' := w) rfl (do_assign rfl) (by decide) ?_
        refine tl_end ?_
        refine fun a_ ha_ => hK58 _ _ _ (T.sub (L' := [(0, .slice A l.length c), (2, .bool false), (3, .int .i64 0), (4, .int .i64 4), (11, .bool (decide ((l.length : Int) < 8))), (15, .bool (decide (((l.drop 0).take (4 - 0)) = ([73, 73, 42, 0] : List UInt8)))), (33, .bool (decide (((l.drop 0).take (4 - 0)) ≠ ([73, 73, 43, 0] : List UInt8))))]) ?_ (sub_cons rfl (sub_cons rfl (sub_cons rfl (sub_cons rfl (sub_cons rfl (sub_cons rfl (sub_cons rfl sub_nil)))))))) a_ ha_
        refine t_ret ?_
        refine fun a_ ha_ => hQ0 _ _ _ (body_ret (rs := [.tmp 2, .tmp 3, .tmp 4]) (vs := [.bool false, .int .i64 0, .int .i64 4]) ha_ (by kernel_rfl) ⟨_, _, rfl, rfl, ⟨_, _, rfl, rfl, ⟨_, _, rfl, rfl, rfl⟩⟩⟩ ?_)
        refine ⟨_, _, _, rfl, .inl ⟨by decide, rfl, rfl, ?_⟩, (Chg.refl (fun k_ => False) w)⟩
        intro big_ first_ h2_
        have F_ := hdr_facts h2_
        have G_ := hdr_heads h2_
        have hl_ := F_.len
        have hp_ := F_.pl
        obtain ⟨g1_, g2_⟩ := G_
        cases big_ with
        | true =>
          simp only [if_true, if_false, Bool.false_eq_true] at g1_
          have hb_ := F_.lenb rfl
          have g3_ := g2_ rfl
          first | omega | exact absurd g1_ (by assumption) | (simp_all; done) | exact absurd ((by assumption : _ = _).symm.trans g1_) (by decide) | exact absurd g3_ (by assumption)
        | false =>
          simp only [if_true, if_false, Bool.false_eq_true] at g1_
          first | omega | exact absurd g1_ (by assumption) | (simp_all; done) | exact absurd ((by assumption : _ = _).symm.trans g1_) (by decide)
      · have hk57 := decide_eq_false hc56
        refine t_no rfl hk57 ?_
        refine t_skip ?_
        refine fun a_ ha_ => hK53 _ _ _ (T.sub (L' := [(0, .slice A l.length c), (2, .bool false), (3, .int .i64 0), (4, .int .i64 0), (11, .bool (decide ((l.length : Int) < 8))), (15, .bool (decide (((l.drop 0).take (4 - 0)) = ([73, 73, 42, 0] : List UInt8)))), (33, .bool (decide (((l.drop 0).take (4 - 0)) ≠ ([73, 73, 43, 0] : List UInt8))))]) ?_ (sub_cons rfl (sub_cons rfl (sub_cons rfl (sub_cons rfl (sub_cons rfl (sub_cons rfl (sub_cons rfl sub_nil)))))))) a_ ha_
        refine t_seq (fun K59 hK59 => ?_)
        refine t_seq (fun K60 hK60 => ?_)
        refine t_region ?_
        refine tl_val (w' := w) rfl (do_move rfl) (by decide) ?_
        refine tl_val (w' := w) rfl (do_builtin (v := .int .i64 (l.length : Int)) rfl (fun _ _ => by kernel_rfl)) (by decide) ?_
        refine tl_val (w' := w) rfl (do_lss rfl rfl) (by decide) ?_
        refine tl_end ?_
        refine fun a_ ha_ => hK60 _ _ _ (T.sub (L' := [(0, .slice A l.length c), (2, .bool false), (3, .int .i64 0), (4, .int .i64 0), (11, .bool (decide ((l.length : Int) < 8))), (15, .bool (decide (((l.drop 0).take (4 - 0)) = ([73, 73, 42, 0] : List UInt8)))), (33, .bool (decide (((l.drop 0).take (4 - 0)) ≠ ([73, 73, 43, 0] : List UInt8)))), (36, .bool (decide ((l.length : Int) < 16)))]) ?_ (sub_cons rfl (sub_cons rfl (sub_cons rfl (sub_cons rfl (sub_cons rfl (sub_cons rfl (sub_cons rfl (sub_cons rfl sub_nil))))))))) a_ ha_
        by_cases hc61 : (l.length : Int) < 16
        · have hk62 := decide_eq_true hc61
          refine t_yes rfl hk62 ?_
          refine t_seq (fun K63 hK63 => ?_)
          refine t_region ?_
          refine tl_val (w' := w) rfl (do_assign rfl) (by decide) ?_
          refine tl_val (w' := w) rfl (do_assign rfl) (by decide) ?_
          refine tl_val (w' := w) rfl (do_assign rfl) (by decide) ?_
          refine tl_end ?_
          refine fun a_ ha_ => hK63 _ _ _ (T.sub (L' := [(0, .slice A l.length c), (2, .bool false), (3, .int .i64 0), (4, .int .i64 3), (11, .bool (decide ((l.length : Int) < 8))), (15, .bool (decide (((l.drop 0).take (4 - 0)) = ([73, 73, 42, 0] : List UInt8)))), (33, .bool (decide (((l.drop 0).take (4 - 0)) ≠ ([73, 73, 43, 0] : List UInt8)))), (36, .bool (decide ((l.length : Int) < 16)))]) ?_ (sub_cons rfl (sub_cons rfl (sub_cons rfl (sub_cons rfl (sub_cons rfl (sub_cons rfl (sub_cons rfl (sub_cons rfl sub_nil))))))))) a_ ha_
          refine t_ret ?_
          refine fun a_ ha_ => hQ0 _ _ _ (body_ret (rs := [.tmp 2, .tmp 3, .tmp 4]) (vs := [.bool false, .int .i64 0, .int .i64 3]) ha_ (by kernel_rfl) ⟨_, _, rfl, rfl, ⟨_, _, rfl, rfl, ⟨_, _, rfl, rfl, rfl⟩⟩⟩ ?_)
          refine ⟨_, _, _, rfl, .inl ⟨by decide, rfl, rfl, ?_⟩, (Chg.refl (fun k_ => False) w)⟩
          intro big_ first_ h2_
          have F_ := hdr_facts h2_
          have G_ := hdr_heads h2_
          have hl_ := F_.len
          have hp_ := F_.pl
          obtain ⟨g1_, g2_⟩ := G_
          cases big_ with
          | true =>
            simp only [if_true, if_false, Bool.false_eq_true] at g1_
            have hb_ := F_.lenb rfl
            have g3_ := g2_ rfl
            first | omega | exact absurd g1_ (by assumption) | (simp_all; done) | exact absurd ((by assumption : _ = _).symm.trans g1_) (by decide) | exact absurd g3_ (by assumption)
          | false =>
            simp only [if_true, if_false, Bool.false_eq_true] at g1_
            first | omega | exact absurd g1_ (by assumption) | (simp_all; done) | exact absurd ((by assumption : _ = _).symm.trans g1_) (by decide)
        · have hk62 := decide_eq_false hc61
          refine t_no rfl hk62 ?_
          refine t_skip ?_
          refine fun a_ ha_ => hK59 _ _ _ (T.sub (L' := [(0, .slice A l.length c), (2, .bool false), (3, .int .i64 0), (4, .int .i64 0), (11, .bool (decide ((l.length : Int) < 8))), (15, .bool (decide (((l.drop 0).take (4 - 0)) = ([73, 73, 42, 0] : List UInt8)))), (33, .bool (decide (((l.drop 0).take (4 - 0)) ≠ ([73, 73, 43, 0] : List UInt8)))), (36, .bool (decide ((l.length : Int) < 16)))]) ?_ (sub_cons rfl (sub_cons rfl (sub_cons rfl (sub_cons rfl (sub_cons rfl (sub_cons rfl (sub_cons rfl (sub_cons rfl sub_nil))))))))) a_ ha_
          refine t_seq (fun K64 hK64 => ?_)
          refine t_seq (fun K65 hK65 => ?_)
          refine t_region ?_
          refine tl_val (w' := w) rfl (do_move rfl) (by decide) ?_
          have hs66 := fun W => slice_rd (P := Tryd.prog) (t := 24) (lo := 4) (hi := 8) (l' := (some (.int .i64 4))) (h' := (some (.int .i64 8))) ha (by kernel_rfl) (by omega) (by omega) (by omega) (.inr ⟨_, rfl⟩) (.inr ⟨_, rfl⟩) W
          refine tl_val (w' := w) rfl (do_slice (v := .slice (sub A c 4 1) (((l.drop 4).take (8 - 4)).length) (c - 4)) rfl rfl rfl rfl (hs66 _).1) (by decide) ?_
          refine tl_val (w' := w) rfl (do_convert (u := .slice (sub A c 4 1) (((l.drop 4).take (8 - 4)).length) (c - 4)) rfl (run_str (hs66 w).2)) (by decide) ?_
          refine tl_val (w' := w) rfl (do_nes rfl rfl) (by decide) ?_
          refine tl_end ?_
          refine fun a_ ha_ => hK65 _ _ _ (T.sub (L' := [(0, .slice A l.length c), (2, .bool false), (3, .int .i64 0), (4, .int .i64 0), (11, .bool (decide ((l.length : Int) < 8))), (15, .bool (decide (((l.drop 0).take (4 - 0)) = ([73, 73, 42, 0] : List UInt8)))), (33, .bool (decide (((l.drop 0).take (4 - 0)) ≠ ([73, 73, 43, 0] : List UInt8)))), (36, .bool (decide ((l.length : Int) < 16))), (40, .bool (decide (((l.drop 4).take (8 - 4)) ≠ ([8, 0, 0, 0] : List UInt8))))]) ?_ (sub_cons rfl (sub_cons rfl (sub_cons rfl (sub_cons rfl (sub_cons rfl (sub_cons rfl (sub_cons rfl (sub_cons rfl (sub_cons rfl sub_nil)))))))))) a_ ha_
          by_cases hc67 : ((l.drop 4).take (8 - 4)) ≠ ([8, 0, 0, 0] : List UInt8)
          · have hk68 := decide_eq_true hc67
            refine t_yes rfl hk68 ?_
            refine t_seq (fun K69 hK69 => ?_)
            refine t_region ?_
            refine tl_val (w' := w) rfl (do_assign rfl) (by decide) ?_
            refine tl_val (w' := w) rfl (do_assign rfl) (by decide) ?_
            refine tl_val (w' := w) rfl (do_assign rfl) (by decide) ?_
            refine tl_end ?_
            refine fun a_ ha_ => hK69 _ _ _ (T.sub (L' := [(0, .slice A l.length c), (2, .bool false), (3, .int .i64 0), (4, .int .i64 4), (11, .bool (decide ((l.length : Int) < 8))), (15, .bool (decide (((l.drop 0).take (4 - 0)) = ([73, 73, 42, 0] : List UInt8)))), (33, .bool (decide (((l.drop 0).take (4 - 0)) ≠ ([73, 73, 43, 0] : List UInt8)))), (36, .bool (decide ((l.length : Int) < 16))), (40, .bool (decide (((l.drop 4).take (8 - 4)) ≠ ([8, 0, 0, 0] : List UInt8))))]) ?_ (sub_cons rfl (sub_cons rfl (sub_cons rfl (sub_cons rfl (sub_cons rfl (sub_cons rfl (sub_cons rfl (sub_cons rfl (sub_cons rfl sub_nil)))))))))) a_ ha_
            refine t_ret ?_
            refine fun a_ ha_ => hQ0 _ _ _ (body_ret (rs := [.tmp 2, .tmp 3, .tmp 4]) (vs := [.bool false, .int .i64 0, .int .i64 4]) ha_ (by kernel_rfl) ⟨_, _, rfl, rfl, ⟨_, _, rfl, rfl, ⟨_, _, rfl, rfl, rfl⟩⟩⟩ ?_)
            refine ⟨_, _, _, rfl, .inl ⟨by decide, rfl, rfl, ?_⟩, (Chg.refl (fun k_ => False) w)⟩
            intro big_ first_ h2_
            have F_ := hdr_facts h2_
            have G_ := hdr_heads h2_
            have hl_ := F_.len
            have hp_ := F_.pl
            obtain ⟨g1_, g2_⟩ := G_
            cases big_ with
            | true =>
              simp only [if_true, if_false, Bool.false_eq_true] at g1_
              have hb_ := F_.lenb rfl
              have g3_ := g2_ rfl
              first | omega | exact absurd g1_ (by assumption) | (simp_all; done) | exact absurd ((by assumption : _ = _).symm.trans g1_) (by decide) | exact absurd g3_ (by assumption)
            | false =>
              simp only [if_true, if_false, Bool.false_eq_true] at g1_
              first | omega | exact absurd g1_ (by assumption) | (simp_all; done) | exact absurd ((by assumption : _ = _).symm.trans g1_) (by decide)
          · have hk68 := decide_eq_false hc67
            refine t_no rfl hk68 ?_
            refine t_skip ?_
            refine fun a_ ha_ => hK64 _ _ _ (T.sub (L' := [(0, .slice A l.length c), (2, .bool false), (3, .int .i64 0), (4, .int .i64 0), (11, .bool (decide ((l.length : Int) < 8))), (15, .bool (decide (((l.drop 0).take (4 - 0)) = ([73, 73, 42, 0] : List UInt8)))), (33, .bool (decide (((l.drop 0).take (4 - 0)) ≠ ([73, 73, 43, 0] : List UInt8)))), (36, .bool (decide ((l.length : Int) < 16))), (40, .bool (decide (((l.drop 4).take (8 - 4)) ≠ ([8, 0, 0, 0] : List UInt8))))]) ?_ (sub_cons rfl (sub_cons rfl (sub_cons rfl (sub_cons rfl (sub_cons rfl (sub_cons rfl (sub_cons rfl (sub_cons rfl (sub_cons rfl sub_nil)))))))))) a_ ha_
            refine t_seq (fun K70 hK70 => ?_)
            refine t_region ?_
            refine tl_val (w' := w) rfl (do_move rfl) (by decide) ?_
            refine tl_val (w' := w) rfl (do_build (vs := [.slice A l.length c, .int .i64 8]) (v := .agg #[.slice A l.length c, .int .i64 8, .bool false, .int .i64 0]) rfl (by kernel_rfl)) (by decide) ?_
            refine tl_call rfl (en_call (f := 36) (by kernel_rfl) rfl) rfl (rnumber0_e (at_ := 8) 8 false ha (by omega) (by omega)) (fun v74 w72 hr73 => ?_) (fun _ _ h => h.elim) (fun _ h => h)
            obtain ⟨hr71_, hchg71⟩ := hr73
            have hz75 := hchg71.size
            rcases hr71_ with ⟨m71, rfl, hnum71⟩ | ⟨m71, rfl, hnum71⟩
            · have hlm71 := hnum71.2.2.2
              have hle71 := hnum71.2.1
              refine tl_val (w' := w72) rfl (do_move rfl) (by decide) ?_
              refine tl_val (w' := w72) rfl (do_extract (v := .int .i64 (m71 : Int)) rfl rfl) (by decide) ?_
              refine tl_val (w' := w72) rfl (do_extract (v := .agg #[.slice A l.length c, .int .i64 ((8 + Int.toNat 8 : Nat) : Int), .bool false, .int .i64 0]) rfl rfl) (by decide) ?_
              refine tl_val rfl (do_alloc (v := .pointer (some ⟨w72.heap.size, 0, none⟩)) (w' := w72.alloc (.cells #[.slice none 0 0, .int .i64 0, .bool false, .int .i64 0] 55)) (by kernel_rfl)) (by decide) ?_
              refine tl_gen (fun w76 e77 => ?_)
              have hb78 : Chg (fun _ => False) w72 w76 := e77 ▸ Chg.alloc _ _
              have hz79 : w76.heap.size = w72.heap.size + 1 := by rw [e77]; exact size_alloc _ _
              have hc80 : w76.heap[w72.heap.size]? = some (.cells #[.slice none 0 0, .int .i64 0, .bool false, .int .i64 0] 55 (0, 0)) := by rw [e77]; exact obj_new _ _
              clear e77
              refine tl_val (w' := w76) rfl (do_assign rfl) (by decide) ?_
              refine tl_unit rfl (do_storesB (cs := [.slice A l.length c, .int .i64 ((8 + Int.toNat 8 : Nat) : Int), .bool false, .int .i64 0]) rfl rfl (by rfl) (by kernel_rfl) hc80 (Nat.le_of_ble_eq_true rfl)) ?_
              refine tl_gen (fun w81 e82 => ?_)
              have hb83 : Chg (fun k => k = w72.heap.size) w76 w81 := e82 ▸ Chg.setCells _ _ 0 [.slice A l.length c, .int .i64 ((8 + Int.toNat 8 : Nat) : Int), .bool false, .int .i64 0]
              have hz84 : w81.heap.size = w76.heap.size := by rw [e82]; exact sc_size _ _ _ _
              have hc85 : w81.heap[w72.heap.size]? = some (.cells #[.slice A l.length c, .int .i64 ((8 + Int.toNat 8 : Nat) : Int), .bool false, .int .i64 0] 55 (0, 0)) := by rw [e82]; exact obj_setCells [.slice A l.length c, .int .i64 ((8 + Int.toNat 8 : Nat) : Int), .bool false, .int .i64 0] 0 hc80
              clear e82
              refine tl_end ?_
              refine fun a_ ha_ => hK70 _ _ _ (T.sub (L' := [(0, .slice A l.length c), (2, .bool false), (3, .int .i64 0), (4, .int .i64 0), (7, .int .i64 (m71 : Int)), (8, .pointer (some ⟨w72.heap.size, 0, none⟩)), (11, .bool (decide ((l.length : Int) < 8))), (15, .bool (decide (((l.drop 0).take (4 - 0)) = ([73, 73, 42, 0] : List UInt8)))), (33, .bool (decide (((l.drop 0).take (4 - 0)) ≠ ([73, 73, 43, 0] : List UInt8)))), (36, .bool (decide ((l.length : Int) < 16))), (40, .bool (decide (((l.drop 4).take (8 - 4)) ≠ ([8, 0, 0, 0] : List UInt8))))]) ?_ (sub_cons rfl (sub_cons rfl (sub_cons rfl (sub_cons rfl (sub_cons rfl (sub_cons rfl (sub_cons rfl (sub_cons rfl (sub_cons rfl (sub_cons rfl (sub_cons rfl sub_nil)))))))))))) a_ ha_
              refine t_seq (fun K86 hK86 => ?_)
              refine t_seq (fun K87 hK87 => ?_)
              refine t_region ?_
              refine tl_val (w' := w81) rfl (do_fieldAddr (v := .pointer (some ⟨w72.heap.size, 3, none⟩)) rfl (by kernel_rfl)) (by decide) ?_
              refine tl_val (w' := w81) rfl (do_load (v := .int .i64 0) rfl (by kernel_rfl) (by rw [obj_cell hc85]; rfl)) (by decide) ?_
              refine tl_val (w' := w81) rfl (do_neq rfl rfl) (by decide) ?_
              have hk88 : (decide ((0 : Int) ≠ 0)) = false := by decide
              refine tl_val (w' := w81) rfl (do_move rfl) (by decide) ?_
              refine tl_val (w' := w81) ⟨50, _, rfl, rfl, (by rw [hk88]; rfl)⟩ (do_move rfl) (by decide) ?_
              refine tl_val (w' := w81) ⟨50, _, rfl, rfl, (by rw [hk88]; rfl)⟩ (do_neq rfl rfl) (by decide) ?_
              refine tl_val (w' := w81) ⟨50, _, rfl, rfl, (by rw [hk88]; rfl)⟩ (do_move rfl) (by decide) ?_
              by_cases hc89 : (m71 : Int) ≠ 0
              · have hk90 := decide_eq_true hc89
                refine tl_val (w' := w81) ⟨53, _, rfl, rfl, (by rw [hk90]; rfl)⟩ (do_move rfl) (by decide) ?_
                refine tl_call ⟨53, _, rfl, rfl, (by rw [hk90]; rfl)⟩ (en_call (f := 37) (by kernel_rfl) rfl) rfl (rplace_e (m71 : Int) true _) (fun v92 _ hr91 => ?_) (fun _ _ h => h.elim) (fun _ h => h)
                obtain ⟨rfl, rfl⟩ := hr91
                refine tl_val (w' := w81) ⟨53, _, rfl, rfl, (by rw [hk90]; rfl)⟩ (do_not rfl (not_dec _)) (by decide) ?_
                refine tl_val (w' := w81) ⟨50, _, rfl, rfl, (by rw [hk88]; rfl)⟩ (do_pick_t rfl hk90 rfl) (by decide) ?_
                refine tl_val (w' := w81) rfl (do_pick_f rfl hk88 rfl) (by decide) ?_
                refine tl_end ?_
                refine fun a_ ha_ => hK87 _ _ _ (T.sub (L' := [(0, .slice A l.length c), (2, .bool false), (3, .int .i64 0), (4, .int .i64 0), (7, .int .i64 (m71 : Int)), (8, .pointer (some ⟨w72.heap.size, 0, none⟩)), (11, .bool (decide ((l.length : Int) < 8))), (15, .bool (decide (((l.drop 0).take (4 - 0)) = ([73, 73, 42, 0] : List UInt8)))), (33, .bool (decide (((l.drop 0).take (4 - 0)) ≠ ([73, 73, 43, 0] : List UInt8)))), (36, .bool (decide ((l.length : Int) < 16))), (40, .bool (decide (((l.drop 4).take (8 - 4)) ≠ ([8, 0, 0, 0] : List UInt8)))), (58, .bool (decide (¬ (PlaceP (m71 : Int) true))))]) ?_ (sub_cons rfl (sub_cons rfl (sub_cons rfl (sub_cons rfl (sub_cons rfl (sub_cons rfl (sub_cons rfl (sub_cons rfl (sub_cons rfl (sub_cons rfl (sub_cons rfl (sub_cons rfl sub_nil))))))))))))) a_ ha_
                by_cases hc93 : ¬ (PlaceP (m71 : Int) true)
                · have hk94 := decide_eq_true hc93
                  refine t_yes rfl hk94 ?_
                  refine t_seq (fun K95 hK95 => ?_)
                  refine t_region ?_
                  refine tl_val (w' := w81) rfl (do_assign rfl) (by decide) ?_
                  refine tl_val (w' := w81) rfl (do_assign rfl) (by decide) ?_
                  refine tl_val (w' := w81) rfl (do_assign rfl) (by decide) ?_
                  refine tl_end ?_
                  refine fun a_ ha_ => hK95 _ _ _ (T.sub (L' := [(0, .slice A l.length c), (2, .bool false), (3, .int .i64 0), (4, .int .i64 2), (7, .int .i64 (m71 : Int)), (8, .pointer (some ⟨w72.heap.size, 0, none⟩)), (11, .bool (decide ((l.length : Int) < 8))), (15, .bool (decide (((l.drop 0).take (4 - 0)) = ([73, 73, 42, 0] : List UInt8)))), (33, .bool (decide (((l.drop 0).take (4 - 0)) ≠ ([73, 73, 43, 0] : List UInt8)))), (36, .bool (decide ((l.length : Int) < 16))), (40, .bool (decide (((l.drop 4).take (8 - 4)) ≠ ([8, 0, 0, 0] : List UInt8)))), (58, .bool (decide (¬ (PlaceP (m71 : Int) true))))]) ?_ (sub_cons rfl (sub_cons rfl (sub_cons rfl (sub_cons rfl (sub_cons rfl (sub_cons rfl (sub_cons rfl (sub_cons rfl (sub_cons rfl (sub_cons rfl (sub_cons rfl (sub_cons rfl sub_nil))))))))))))) a_ ha_
                  refine t_ret ?_
                  refine fun a_ ha_ => hQ0 _ _ _ (body_ret (rs := [.tmp 2, .tmp 3, .tmp 4]) (vs := [.bool false, .int .i64 0, .int .i64 2]) ha_ (by kernel_rfl) ⟨_, _, rfl, rfl, ⟨_, _, rfl, rfl, ⟨_, _, rfl, rfl, rfl⟩⟩⟩ ?_)
                  refine ⟨_, _, _, rfl, .inl ⟨by decide, rfl, rfl, ?_⟩, ((((Chg.refl (fun k_ => False) w).step hchg71 (fun k_ hk_ (h_ : False) => h_.elim)).step hb78 (fun k_ hk_ (h_ : False) => h_.elim)).step hb83 (fun k_ hk_ (h_ : k_ = w72.heap.size) => (show False by omega)))⟩
                  intro big_ first_ h2_
                  have F_ := hdr_facts h2_
                  have G_ := hdr_heads h2_
                  have hl_ := F_.len
                  have hp_ := F_.pl
                  obtain ⟨g1_, g2_⟩ := G_
                  cases big_ with
                  | true =>
                    simp only [if_true, if_false, Bool.false_eq_true] at g1_
                    have hb_ := F_.lenb rfl
                    have g3_ := g2_ rfl
                    have e_ := hnum71.eq (F_.n8 rfl)
                    first | (rcases hp_ with h0_ | h0_ <;> first | omega | (rw [← e_] at h0_; contradiction))
                  | false =>
                    simp only [if_true, if_false, Bool.false_eq_true] at g1_
                    first | exact absurd g1_ hsm_
                · have hk94 := decide_eq_false hc93
                  refine t_no rfl hk94 ?_
                  refine t_skip ?_
                  refine fun a_ ha_ => hK86 _ _ _ (T.sub (L' := [(0, .slice A l.length c), (2, .bool false), (3, .int .i64 0), (4, .int .i64 0), (7, .int .i64 (m71 : Int)), (8, .pointer (some ⟨w72.heap.size, 0, none⟩)), (11, .bool (decide ((l.length : Int) < 8))), (15, .bool (decide (((l.drop 0).take (4 - 0)) = ([73, 73, 42, 0] : List UInt8)))), (33, .bool (decide (((l.drop 0).take (4 - 0)) ≠ ([73, 73, 43, 0] : List UInt8)))), (36, .bool (decide ((l.length : Int) < 16))), (40, .bool (decide (((l.drop 4).take (8 - 4)) ≠ ([8, 0, 0, 0] : List UInt8)))), (58, .bool (decide (¬ (PlaceP (m71 : Int) true))))]) ?_ (sub_cons rfl (sub_cons rfl (sub_cons rfl (sub_cons rfl (sub_cons rfl (sub_cons rfl (sub_cons rfl (sub_cons rfl (sub_cons rfl (sub_cons rfl (sub_cons rfl (sub_cons rfl sub_nil))))))))))))) a_ ha_
                  refine t_seq (fun K96 hK96 => ?_)
                  refine t_region ?_
                  refine tl_val (w' := w81) rfl (do_move rfl) (by decide) ?_
                  refine tl_val (w' := w81) rfl (do_assign rfl) (by decide) ?_
                  refine tl_val (w' := w81) rfl (do_assign rfl) (by decide) ?_
                  refine tl_val (w' := w81) rfl (do_assign rfl) (by decide) ?_
                  refine tl_end ?_
                  refine fun a_ ha_ => hK96 _ _ _ (T.sub (L' := [(0, .slice A l.length c), (2, .bool true), (3, .int .i64 (m71 : Int)), (4, .int .i64 0), (7, .int .i64 (m71 : Int)), (8, .pointer (some ⟨w72.heap.size, 0, none⟩)), (11, .bool (decide ((l.length : Int) < 8))), (15, .bool (decide (((l.drop 0).take (4 - 0)) = ([73, 73, 42, 0] : List UInt8)))), (33, .bool (decide (((l.drop 0).take (4 - 0)) ≠ ([73, 73, 43, 0] : List UInt8)))), (36, .bool (decide ((l.length : Int) < 16))), (40, .bool (decide (((l.drop 4).take (8 - 4)) ≠ ([8, 0, 0, 0] : List UInt8)))), (58, .bool (decide (¬ (PlaceP (m71 : Int) true))))]) ?_ (sub_cons rfl (sub_cons rfl (sub_cons rfl (sub_cons rfl (sub_cons rfl (sub_cons rfl (sub_cons rfl (sub_cons rfl (sub_cons rfl (sub_cons rfl (sub_cons rfl (sub_cons rfl sub_nil))))))))))))) a_ ha_
                  refine t_ret ?_
                  refine fun a_ ha_ => hQ0 _ _ _ (body_ret (rs := [.tmp 2, .tmp 3, .tmp 4]) (vs := [.bool true, .int .i64 (m71 : Int), .int .i64 0]) ha_ (by kernel_rfl) ⟨_, _, rfl, rfl, ⟨_, _, rfl, rfl, ⟨_, _, rfl, rfl, rfl⟩⟩⟩ ?_)
                  refine ⟨_, _, _, rfl, .inr ⟨rfl, by omega, ?_⟩, ((((Chg.refl (fun k_ => False) w).step hchg71 (fun k_ hk_ (h_ : False) => h_.elim)).step hb78 (fun k_ hk_ (h_ : False) => h_.elim)).step hb83 (fun k_ hk_ (h_ : k_ = w72.heap.size) => (show False by omega)))⟩
                  intro big_ first_ h2_
                  have F_ := hdr_facts h2_
                  have G_ := hdr_heads h2_
                  have hl_ := F_.len
                  have hp_ := F_.pl
                  obtain ⟨g1_, g2_⟩ := G_
                  cases big_ with
                  | true =>
                    simp only [if_true, if_false, Bool.false_eq_true] at g1_
                    have hb_ := F_.lenb rfl
                    have g3_ := g2_ rfl
                    first | exact ⟨rfl, hnum71.eq (F_.n8 rfl)⟩
                  | false =>
                    simp only [if_true, if_false, Bool.false_eq_true] at g1_
                    first | exact absurd g1_ hsm_
              · have hk90 := decide_eq_false hc89
                refine tl_skipU ⟨53, _, rfl, rfl, (by rw [hk90]; rfl)⟩ (by decide) ?_
                refine tl_skipU ⟨53, _, rfl, rfl, (by rw [hk90]; rfl)⟩ (by decide) ?_
                refine tl_skipU ⟨53, _, rfl, rfl, (by rw [hk90]; rfl)⟩ (by decide) ?_
                refine tl_val (w' := w81) ⟨50, _, rfl, rfl, (by rw [hk88]; rfl)⟩ (do_pick_f rfl hk90 rfl) (by decide) ?_
                refine tl_val (w' := w81) rfl (do_pick_f rfl hk88 rfl) (by decide) ?_
                refine tl_end ?_
                refine fun a_ ha_ => hK87 _ _ _ (T.sub (L' := [(0, .slice A l.length c), (2, .bool false), (3, .int .i64 0), (4, .int .i64 0), (7, .int .i64 (m71 : Int)), (8, .pointer (some ⟨w72.heap.size, 0, none⟩)), (11, .bool (decide ((l.length : Int) < 8))), (15, .bool (decide (((l.drop 0).take (4 - 0)) = ([73, 73, 42, 0] : List UInt8)))), (33, .bool (decide (((l.drop 0).take (4 - 0)) ≠ ([73, 73, 43, 0] : List UInt8)))), (36, .bool (decide ((l.length : Int) < 16))), (40, .bool (decide (((l.drop 4).take (8 - 4)) ≠ ([8, 0, 0, 0] : List UInt8)))), (58, .bool false)]) ?_ (sub_cons rfl (sub_cons rfl (sub_cons rfl (sub_cons rfl (sub_cons rfl (sub_cons rfl (sub_cons rfl (sub_cons rfl (sub_cons rfl (sub_cons rfl (sub_cons rfl (sub_cons rfl sub_nil))))))))))))) a_ ha_
                refine t_no rfl rfl ?_
                refine t_skip ?_
                refine fun a_ ha_ => hK86 _ _ _ (T.sub (L' := [(0, .slice A l.length c), (2, .bool false), (3, .int .i64 0), (4, .int .i64 0), (7, .int .i64 (m71 : Int)), (8, .pointer (some ⟨w72.heap.size, 0, none⟩)), (11, .bool (decide ((l.length : Int) < 8))), (15, .bool (decide (((l.drop 0).take (4 - 0)) = ([73, 73, 42, 0] : List UInt8)))), (33, .bool (decide (((l.drop 0).take (4 - 0)) ≠ ([73, 73, 43, 0] : List UInt8)))), (36, .bool (decide ((l.length : Int) < 16))), (40, .bool (decide (((l.drop 4).take (8 - 4)) ≠ ([8, 0, 0, 0] : List UInt8)))), (58, .bool false)]) ?_ (sub_cons rfl (sub_cons rfl (sub_cons rfl (sub_cons rfl (sub_cons rfl (sub_cons rfl (sub_cons rfl (sub_cons rfl (sub_cons rfl (sub_cons rfl (sub_cons rfl (sub_cons rfl sub_nil))))))))))))) a_ ha_
                refine t_seq (fun K97 hK97 => ?_)
                refine t_region ?_
                refine tl_val (w' := w81) rfl (do_move rfl) (by decide) ?_
                refine tl_val (w' := w81) rfl (do_assign rfl) (by decide) ?_
                refine tl_val (w' := w81) rfl (do_assign rfl) (by decide) ?_
                refine tl_val (w' := w81) rfl (do_assign rfl) (by decide) ?_
                refine tl_end ?_
                refine fun a_ ha_ => hK97 _ _ _ (T.sub (L' := [(0, .slice A l.length c), (2, .bool true), (3, .int .i64 (m71 : Int)), (4, .int .i64 0), (7, .int .i64 (m71 : Int)), (8, .pointer (some ⟨w72.heap.size, 0, none⟩)), (11, .bool (decide ((l.length : Int) < 8))), (15, .bool (decide (((l.drop 0).take (4 - 0)) = ([73, 73, 42, 0] : List UInt8)))), (33, .bool (decide (((l.drop 0).take (4 - 0)) ≠ ([73, 73, 43, 0] : List UInt8)))), (36, .bool (decide ((l.length : Int) < 16))), (40, .bool (decide (((l.drop 4).take (8 - 4)) ≠ ([8, 0, 0, 0] : List UInt8)))), (58, .bool false)]) ?_ (sub_cons rfl (sub_cons rfl (sub_cons rfl (sub_cons rfl (sub_cons rfl (sub_cons rfl (sub_cons rfl (sub_cons rfl (sub_cons rfl (sub_cons rfl (sub_cons rfl (sub_cons rfl sub_nil))))))))))))) a_ ha_
                refine t_ret ?_
                refine fun a_ ha_ => hQ0 _ _ _ (body_ret (rs := [.tmp 2, .tmp 3, .tmp 4]) (vs := [.bool true, .int .i64 (m71 : Int), .int .i64 0]) ha_ (by kernel_rfl) ⟨_, _, rfl, rfl, ⟨_, _, rfl, rfl, ⟨_, _, rfl, rfl, rfl⟩⟩⟩ ?_)
                refine ⟨_, _, _, rfl, .inr ⟨rfl, by omega, ?_⟩, ((((Chg.refl (fun k_ => False) w).step hchg71 (fun k_ hk_ (h_ : False) => h_.elim)).step hb78 (fun k_ hk_ (h_ : False) => h_.elim)).step hb83 (fun k_ hk_ (h_ : k_ = w72.heap.size) => (show False by omega)))⟩
                intro big_ first_ h2_
                have F_ := hdr_facts h2_
                have G_ := hdr_heads h2_
                have hl_ := F_.len
                have hp_ := F_.pl
                obtain ⟨g1_, g2_⟩ := G_
                cases big_ with
                | true =>
                  simp only [if_true, if_false, Bool.false_eq_true] at g1_
                  have hb_ := F_.lenb rfl
                  have g3_ := g2_ rfl
                  first | exact ⟨rfl, hnum71.eq (F_.n8 rfl)⟩
                | false =>
                  simp only [if_true, if_false, Bool.false_eq_true] at g1_
                  first | exact absurd g1_ hsm_
            · have hlm71 := hnum71.2
              refine tl_val (w' := w72) rfl (do_move rfl) (by decide) ?_
              refine tl_val (w' := w72) rfl (do_extract (v := .int .i64 0) rfl rfl) (by decide) ?_
              refine tl_val (w' := w72) rfl (do_extract (v := .agg #[.slice A l.length c, .int .i64 8, .bool false, .int .i64 (m71 : Int)]) rfl rfl) (by decide) ?_
              refine tl_val rfl (do_alloc (v := .pointer (some ⟨w72.heap.size, 0, none⟩)) (w' := w72.alloc (.cells #[.slice none 0 0, .int .i64 0, .bool false, .int .i64 0] 55)) (by kernel_rfl)) (by decide) ?_
              refine tl_gen (fun w98 e99 => ?_)
              have hb100 : Chg (fun _ => False) w72 w98 := e99 ▸ Chg.alloc _ _
              have hz101 : w98.heap.size = w72.heap.size + 1 := by rw [e99]; exact size_alloc _ _
              have hc102 : w98.heap[w72.heap.size]? = some (.cells #[.slice none 0 0, .int .i64 0, .bool false, .int .i64 0] 55 (0, 0)) := by rw [e99]; exact obj_new _ _
              clear e99
              refine tl_val (w' := w98) rfl (do_assign rfl) (by decide) ?_
              refine tl_unit rfl (do_storesB (cs := [.slice A l.length c, .int .i64 8, .bool false, .int .i64 (m71 : Int)]) rfl rfl (by rfl) (by kernel_rfl) hc102 (Nat.le_of_ble_eq_true rfl)) ?_
              refine tl_gen (fun w103 e104 => ?_)
              have hb105 : Chg (fun k => k = w72.heap.size) w98 w103 := e104 ▸ Chg.setCells _ _ 0 [.slice A l.length c, .int .i64 8, .bool false, .int .i64 (m71 : Int)]
              have hz106 : w103.heap.size = w98.heap.size := by rw [e104]; exact sc_size _ _ _ _
              have hc107 : w103.heap[w72.heap.size]? = some (.cells #[.slice A l.length c, .int .i64 8, .bool false, .int .i64 (m71 : Int)] 55 (0, 0)) := by rw [e104]; exact obj_setCells [.slice A l.length c, .int .i64 8, .bool false, .int .i64 (m71 : Int)] 0 hc102
              clear e104
              refine tl_end ?_
              refine fun a_ ha_ => hK70 _ _ _ (T.sub (L' := [(0, .slice A l.length c), (2, .bool false), (3, .int .i64 0), (4, .int .i64 0), (7, .int .i64 0), (8, .pointer (some ⟨w72.heap.size, 0, none⟩)), (11, .bool (decide ((l.length : Int) < 8))), (15, .bool (decide (((l.drop 0).take (4 - 0)) = ([73, 73, 42, 0] : List UInt8)))), (33, .bool (decide (((l.drop 0).take (4 - 0)) ≠ ([73, 73, 43, 0] : List UInt8)))), (36, .bool (decide ((l.length : Int) < 16))), (40, .bool (decide (((l.drop 4).take (8 - 4)) ≠ ([8, 0, 0, 0] : List UInt8))))]) ?_ (sub_cons rfl (sub_cons rfl (sub_cons rfl (sub_cons rfl (sub_cons rfl (sub_cons rfl (sub_cons rfl (sub_cons rfl (sub_cons rfl (sub_cons rfl (sub_cons rfl sub_nil)))))))))))) a_ ha_
              refine t_seq (fun K108 hK108 => ?_)
              refine t_seq (fun K109 hK109 => ?_)
              refine t_region ?_
              refine tl_val (w' := w103) rfl (do_fieldAddr (v := .pointer (some ⟨w72.heap.size, 3, none⟩)) rfl (by kernel_rfl)) (by decide) ?_
              refine tl_val (w' := w103) rfl (do_load (v := .int .i64 (m71 : Int)) rfl (by kernel_rfl) (by rw [obj_cell hc107]; rfl)) (by decide) ?_
              refine tl_val (w' := w103) rfl (do_neq rfl rfl) (by decide) ?_
              refine tl_val (w' := w103) rfl (do_move rfl) (by decide) ?_
              by_cases hc110 : (m71 : Int) ≠ 0
              · have hk111 := decide_eq_true hc110
                refine tl_skipU ⟨50, _, rfl, rfl, (by rw [hk111]; rfl)⟩ (by decide) ?_
                refine tl_skipU ⟨50, _, rfl, rfl, (by rw [hk111]; rfl)⟩ (by decide) ?_
                refine tl_skipU ⟨50, _, rfl, rfl, (by rw [hk111]; rfl)⟩ (by decide) ?_
                refine tl_skipU ⟨53, _, rfl, rfl, rfl⟩ (by decide) ?_
                refine tl_skipU ⟨53, _, rfl, rfl, rfl⟩ (by decide) ?_
                refine tl_skipU ⟨53, _, rfl, rfl, rfl⟩ (by decide) ?_
                refine tl_skipU ⟨50, _, rfl, rfl, (by rw [hk111]; rfl)⟩ (by decide) ?_
                refine tl_val (w' := w103) rfl (do_pick_t rfl hk111 rfl) (by decide) ?_
                refine tl_end ?_
                refine fun a_ ha_ => hK109 _ _ _ (T.sub (L' := [(0, .slice A l.length c), (2, .bool false), (3, .int .i64 0), (4, .int .i64 0), (7, .int .i64 0), (8, .pointer (some ⟨w72.heap.size, 0, none⟩)), (11, .bool (decide ((l.length : Int) < 8))), (15, .bool (decide (((l.drop 0).take (4 - 0)) = ([73, 73, 42, 0] : List UInt8)))), (33, .bool (decide (((l.drop 0).take (4 - 0)) ≠ ([73, 73, 43, 0] : List UInt8)))), (36, .bool (decide ((l.length : Int) < 16))), (40, .bool (decide (((l.drop 4).take (8 - 4)) ≠ ([8, 0, 0, 0] : List UInt8)))), (58, .bool true)]) ?_ (sub_cons rfl (sub_cons rfl (sub_cons rfl (sub_cons rfl (sub_cons rfl (sub_cons rfl (sub_cons rfl (sub_cons rfl (sub_cons rfl (sub_cons rfl (sub_cons rfl (sub_cons rfl sub_nil))))))))))))) a_ ha_
                refine t_yes rfl rfl ?_
                refine t_seq (fun K112 hK112 => ?_)
                refine t_region ?_
                refine tl_val (w' := w103) rfl (do_assign rfl) (by decide) ?_
                refine tl_val (w' := w103) rfl (do_assign rfl) (by decide) ?_
                refine tl_val (w' := w103) rfl (do_assign rfl) (by decide) ?_
                refine tl_end ?_
                refine fun a_ ha_ => hK112 _ _ _ (T.sub (L' := [(0, .slice A l.length c), (2, .bool false), (3, .int .i64 0), (4, .int .i64 2), (7, .int .i64 0), (8, .pointer (some ⟨w72.heap.size, 0, none⟩)), (11, .bool (decide ((l.length : Int) < 8))), (15, .bool (decide (((l.drop 0).take (4 - 0)) = ([73, 73, 42, 0] : List UInt8)))), (33, .bool (decide (((l.drop 0).take (4 - 0)) ≠ ([73, 73, 43, 0] : List UInt8)))), (36, .bool (decide ((l.length : Int) < 16))), (40, .bool (decide (((l.drop 4).take (8 - 4)) ≠ ([8, 0, 0, 0] : List UInt8)))), (58, .bool true)]) ?_ (sub_cons rfl (sub_cons rfl (sub_cons rfl (sub_cons rfl (sub_cons rfl (sub_cons rfl (sub_cons rfl (sub_cons rfl (sub_cons rfl (sub_cons rfl (sub_cons rfl (sub_cons rfl sub_nil))))))))))))) a_ ha_
                refine t_ret ?_
                refine fun a_ ha_ => hQ0 _ _ _ (body_ret (rs := [.tmp 2, .tmp 3, .tmp 4]) (vs := [.bool false, .int .i64 0, .int .i64 2]) ha_ (by kernel_rfl) ⟨_, _, rfl, rfl, ⟨_, _, rfl, rfl, ⟨_, _, rfl, rfl, rfl⟩⟩⟩ ?_)
                refine ⟨_, _, _, rfl, .inl ⟨by decide, rfl, rfl, ?_⟩, ((((Chg.refl (fun k_ => False) w).step hchg71 (fun k_ hk_ (h_ : False) => h_.elim)).step hb100 (fun k_ hk_ (h_ : False) => h_.elim)).step hb105 (fun k_ hk_ (h_ : k_ = w72.heap.size) => (show False by omega)))⟩
                intro big_ first_ h2_
                have F_ := hdr_facts h2_
                have G_ := hdr_heads h2_
                have hl_ := F_.len
                have hp_ := F_.pl
                obtain ⟨g1_, g2_⟩ := G_
                cases big_ with
                | true =>
                  simp only [if_true, if_false, Bool.false_eq_true] at g1_
                  have hb_ := F_.lenb rfl
                  have g3_ := g2_ rfl
                  first | exact (hnum71.not (F_.n8 rfl)).elim
                | false =>
                  simp only [if_true, if_false, Bool.false_eq_true] at g1_
                  first | exact absurd g1_ hsm_
              · have hk111 := decide_eq_false hc110
                refine tl_val (w' := w103) ⟨50, _, rfl, rfl, (by rw [hk111]; rfl)⟩ (do_move rfl) (by decide) ?_
                refine tl_val (w' := w103) ⟨50, _, rfl, rfl, (by rw [hk111]; rfl)⟩ (do_neq rfl rfl) (by decide) ?_
                have hk113 : (decide ((0 : Int) ≠ 0)) = false := by decide
                refine tl_val (w' := w103) ⟨50, _, rfl, rfl, (by rw [hk111]; rfl)⟩ (do_move rfl) (by decide) ?_
                refine tl_skipU ⟨53, _, rfl, rfl, (by rw [hk113]; rfl)⟩ (by decide) ?_
                refine tl_skipU ⟨53, _, rfl, rfl, (by rw [hk113]; rfl)⟩ (by decide) ?_
                refine tl_skipU ⟨53, _, rfl, rfl, (by rw [hk113]; rfl)⟩ (by decide) ?_
                refine tl_val (w' := w103) ⟨50, _, rfl, rfl, (by rw [hk111]; rfl)⟩ (do_pick_f rfl hk113 rfl) (by decide) ?_
                refine tl_val (w' := w103) rfl (do_pick_f rfl hk111 rfl) (by decide) ?_
                refine tl_end ?_
                refine fun a_ ha_ => hK109 _ _ _ (T.sub (L' := [(0, .slice A l.length c), (2, .bool false), (3, .int .i64 0), (4, .int .i64 0), (7, .int .i64 0), (8, .pointer (some ⟨w72.heap.size, 0, none⟩)), (11, .bool (decide ((l.length : Int) < 8))), (15, .bool (decide (((l.drop 0).take (4 - 0)) = ([73, 73, 42, 0] : List UInt8)))), (33, .bool (decide (((l.drop 0).take (4 - 0)) ≠ ([73, 73, 43, 0] : List UInt8)))), (36, .bool (decide ((l.length : Int) < 16))), (40, .bool (decide (((l.drop 4).take (8 - 4)) ≠ ([8, 0, 0, 0] : List UInt8)))), (58, .bool false)]) ?_ (sub_cons rfl (sub_cons rfl (sub_cons rfl (sub_cons rfl (sub_cons rfl (sub_cons rfl (sub_cons rfl (sub_cons rfl (sub_cons rfl (sub_cons rfl (sub_cons rfl (sub_cons rfl sub_nil))))))))))))) a_ ha_
                refine t_no rfl rfl ?_
                refine t_skip ?_
                refine fun a_ ha_ => hK108 _ _ _ (T.sub (L' := [(0, .slice A l.length c), (2, .bool false), (3, .int .i64 0), (4, .int .i64 0), (7, .int .i64 0), (8, .pointer (some ⟨w72.heap.size, 0, none⟩)), (11, .bool (decide ((l.length : Int) < 8))), (15, .bool (decide (((l.drop 0).take (4 - 0)) = ([73, 73, 42, 0] : List UInt8)))), (33, .bool (decide (((l.drop 0).take (4 - 0)) ≠ ([73, 73, 43, 0] : List UInt8)))), (36, .bool (decide ((l.length : Int) < 16))), (40, .bool (decide (((l.drop 4).take (8 - 4)) ≠ ([8, 0, 0, 0] : List UInt8)))), (58, .bool false)]) ?_ (sub_cons rfl (sub_cons rfl (sub_cons rfl (sub_cons rfl (sub_cons rfl (sub_cons rfl (sub_cons rfl (sub_cons rfl (sub_cons rfl (sub_cons rfl (sub_cons rfl (sub_cons rfl sub_nil))))))))))))) a_ ha_
                refine t_seq (fun K114 hK114 => ?_)
                refine t_region ?_
                refine tl_val (w' := w103) rfl (do_move rfl) (by decide) ?_
                refine tl_val (w' := w103) rfl (do_assign rfl) (by decide) ?_
                refine tl_val (w' := w103) rfl (do_assign rfl) (by decide) ?_
                refine tl_val (w' := w103) rfl (do_assign rfl) (by decide) ?_
                refine tl_end ?_
                refine fun a_ ha_ => hK114 _ _ _ (T.sub (L' := [(0, .slice A l.length c), (2, .bool true), (3, .int .i64 0), (4, .int .i64 0), (7, .int .i64 0), (8, .pointer (some ⟨w72.heap.size, 0, none⟩)), (11, .bool (decide ((l.length : Int) < 8))), (15, .bool (decide (((l.drop 0).take (4 - 0)) = ([73, 73, 42, 0] : List UInt8)))), (33, .bool (decide (((l.drop 0).take (4 - 0)) ≠ ([73, 73, 43, 0] : List UInt8)))), (36, .bool (decide ((l.length : Int) < 16))), (40, .bool (decide (((l.drop 4).take (8 - 4)) ≠ ([8, 0, 0, 0] : List UInt8)))), (58, .bool false)]) ?_ (sub_cons rfl (sub_cons rfl (sub_cons rfl (sub_cons rfl (sub_cons rfl (sub_cons rfl (sub_cons rfl (sub_cons rfl (sub_cons rfl (sub_cons rfl (sub_cons rfl (sub_cons rfl sub_nil))))))))))))) a_ ha_
                refine t_ret ?_
                refine fun a_ ha_ => hQ0 _ _ _ (body_ret (rs := [.tmp 2, .tmp 3, .tmp 4]) (vs := [.bool true, .int .i64 0, .int .i64 0]) ha_ (by kernel_rfl) ⟨_, _, rfl, rfl, ⟨_, _, rfl, rfl, ⟨_, _, rfl, rfl, rfl⟩⟩⟩ ?_)
                refine ⟨_, _, _, rfl, .inr ⟨rfl, by omega, ?_⟩, ((((Chg.refl (fun k_ => False) w).step hchg71 (fun k_ hk_ (h_ : False) => h_.elim)).step hb100 (fun k_ hk_ (h_ : False) => h_.elim)).step hb105 (fun k_ hk_ (h_ : k_ = w72.heap.size) => (show False by omega)))⟩
                intro big_ first_ h2_
                have F_ := hdr_facts h2_
                have G_ := hdr_heads h2_
                have hl_ := F_.len
                have hp_ := F_.pl
                obtain ⟨g1_, g2_⟩ := G_
                cases big_ with
                | true =>
                  simp only [if_true, if_false, Bool.false_eq_true] at g1_
                  have hb_ := F_.lenb rfl
                  have g3_ := g2_ rfl
                  first | exact (hnum71.not (F_.n8 rfl)).elim
                | false =>
                  simp only [if_true, if_false, Bool.false_eq_true] at g1_
                  first | exact absurd g1_ hsm_
theorem rnum_e {A : Option Addr} {c : Nat} {l : List UInt8} {w : World} (ha : Rd w A c l) (hll : l.length ≤ 1000000) : Calls Tryd.prog 34 [.slice A l.length c].toArray w
    (Ret fun v w' => ((∃ n : Nat, v = .int .i64 (n : Int) ∧ NumOk l 0 8 false n) ∨ (v = .int .i64 (-1) ∧ ∃ k, NumNo l 0 8 false k)) ∧ Chg (fun _ => False) w w') := by
  refine enter (n := 15) (L := [(0, .slice A l.length c)]) (args := [.slice A l.length c]) Tryd.func34 rfl rfl (Nat.le_of_ble_eq_true rfl) (by intro t v h; exact look_args h) ?_
  refine t_body (fun Q0 hB0 hQ0 => ?_)
  refine t_seq (fun K1 hK1 => ?_)
  refine t_region ?_
  refine tl_val (w' := w) rfl (do_assign rfl) (by decide) ?_
  refine tl_end ?_
  refine fun a_ ha_ => hK1 _ _ _ (T.sub (L' := [(0, .slice A l.length c), (2, .int .i64 0)]) ?_ (sub_cons rfl (sub_cons rfl sub_nil))) a_ ha_
  refine t_seq (fun K2 hK2 => ?_)
  refine t_region ?_
  refine tl_val (w' := w) rfl (do_move rfl) (by decide) ?_
  refine tl_val (w' := w) rfl (do_build (vs := [.slice A l.length c]) (v := .agg #[.slice A l.length c, .int .i64 0, .bool false, .int .i64 0]) rfl (by kernel_rfl)) (by decide) ?_
  refine tl_call rfl (en_call (f := 36) (by kernel_rfl) rfl) rfl (rnumber0_e (at_ := 0) 8 false ha (by omega) (by omega)) (fun v6 w4 hr5 => ?_) (fun _ _ h => h.elim) (fun _ h => h)
  obtain ⟨hr3_, hchg3⟩ := hr5
  have hz7 := hchg3.size
  rcases hr3_ with ⟨m3, rfl, hnum3⟩ | ⟨m3, rfl, hnum3⟩
  · have hlm3 := hnum3.2.2.2
    have hle3 := hnum3.2.1
    refine tl_val (w' := w4) rfl (do_move rfl) (by decide) ?_
    refine tl_val (w' := w4) rfl (do_extract (v := .int .i64 (m3 : Int)) rfl rfl) (by decide) ?_
    refine tl_val (w' := w4) rfl (do_extract (v := .agg #[.slice A l.length c, .int .i64 ((0 + Int.toNat 8 : Nat) : Int), .bool false, .int .i64 0]) rfl rfl) (by decide) ?_
    refine tl_val rfl (do_alloc (v := .pointer (some ⟨w4.heap.size, 0, none⟩)) (w' := w4.alloc (.cells #[.slice none 0 0, .int .i64 0, .bool false, .int .i64 0] 55)) (by kernel_rfl)) (by decide) ?_
    refine tl_gen (fun w8 e9 => ?_)
    have hb10 : Chg (fun _ => False) w4 w8 := e9 ▸ Chg.alloc _ _
    have hz11 : w8.heap.size = w4.heap.size + 1 := by rw [e9]; exact size_alloc _ _
    have hc12 : w8.heap[w4.heap.size]? = some (.cells #[.slice none 0 0, .int .i64 0, .bool false, .int .i64 0] 55 (0, 0)) := by rw [e9]; exact obj_new _ _
    clear e9
    refine tl_val (w' := w8) rfl (do_assign rfl) (by decide) ?_
    refine tl_unit rfl (do_storesB (cs := [.slice A l.length c, .int .i64 ((0 + Int.toNat 8 : Nat) : Int), .bool false, .int .i64 0]) rfl rfl (by rfl) (by kernel_rfl) hc12 (Nat.le_of_ble_eq_true rfl)) ?_
    refine tl_gen (fun w13 e14 => ?_)
    have hb15 : Chg (fun k => k = w4.heap.size) w8 w13 := e14 ▸ Chg.setCells _ _ 0 [.slice A l.length c, .int .i64 ((0 + Int.toNat 8 : Nat) : Int), .bool false, .int .i64 0]
    have hz16 : w13.heap.size = w8.heap.size := by rw [e14]; exact sc_size _ _ _ _
    have hc17 : w13.heap[w4.heap.size]? = some (.cells #[.slice A l.length c, .int .i64 ((0 + Int.toNat 8 : Nat) : Int), .bool false, .int .i64 0] 55 (0, 0)) := by rw [e14]; exact obj_setCells [.slice A l.length c, .int .i64 ((0 + Int.toNat 8 : Nat) : Int), .bool false, .int .i64 0] 0 hc12
    clear e14
    refine tl_end ?_
    refine fun a_ ha_ => hK2 _ _ _ (T.sub (L' := [(0, .slice A l.length c), (2, .int .i64 0), (3, .int .i64 (m3 : Int)), (4, .pointer (some ⟨w4.heap.size, 0, none⟩))]) ?_ (sub_cons rfl (sub_cons rfl (sub_cons rfl (sub_cons rfl sub_nil))))) a_ ha_
    refine t_seq (fun K18 hK18 => ?_)
    refine t_seq (fun K19 hK19 => ?_)
    refine t_region ?_
    refine tl_val (w' := w13) rfl (do_fieldAddr (v := .pointer (some ⟨w4.heap.size, 3, none⟩)) rfl (by kernel_rfl)) (by decide) ?_
    refine tl_val (w' := w13) rfl (do_load (v := .int .i64 0) rfl (by kernel_rfl) (by rw [obj_cell hc17]; rfl)) (by decide) ?_
    refine tl_val (w' := w13) rfl (do_neq rfl rfl) (by decide) ?_
    have hk20 : (decide ((0 : Int) ≠ 0)) = false := by decide
    refine tl_end ?_
    refine fun a_ ha_ => hK19 _ _ _ (T.sub (L' := [(0, .slice A l.length c), (2, .int .i64 0), (3, .int .i64 (m3 : Int)), (4, .pointer (some ⟨w4.heap.size, 0, none⟩)), (13, .bool (decide ((0 : Int) ≠ 0)))]) ?_ (sub_cons rfl (sub_cons rfl (sub_cons rfl (sub_cons rfl (sub_cons rfl sub_nil)))))) a_ ha_
    refine t_no rfl hk20 ?_
    refine t_skip ?_
    refine fun a_ ha_ => hK18 _ _ _ (T.sub (L' := [(0, .slice A l.length c), (2, .int .i64 0), (3, .int .i64 (m3 : Int)), (4, .pointer (some ⟨w4.heap.size, 0, none⟩)), (13, .bool (decide ((0 : Int) ≠ 0)))]) ?_ (sub_cons rfl (sub_cons rfl (sub_cons rfl (sub_cons rfl (sub_cons rfl sub_nil)))))) a_ ha_
    refine t_seq (fun K21 hK21 => ?_)
    refine t_region ?_
    refine tl_val (w' := w13) rfl (do_move rfl) (by decide) ?_
    refine tl_val (w' := w13) rfl (do_assign rfl) (by decide) ?_
    refine tl_end ?_
    refine fun a_ ha_ => hK21 _ _ _ (T.sub (L' := [(0, .slice A l.length c), (2, .int .i64 (m3 : Int)), (3, .int .i64 (m3 : Int)), (4, .pointer (some ⟨w4.heap.size, 0, none⟩)), (13, .bool (decide ((0 : Int) ≠ 0)))]) ?_ (sub_cons rfl (sub_cons rfl (sub_cons rfl (sub_cons rfl (sub_cons rfl sub_nil)))))) a_ ha_
    refine t_ret ?_
    refine fun a_ ha_ => hQ0 _ _ _ (body_ret (rs := [.tmp 2]) (vs := [.int .i64 (m3 : Int)]) ha_ (by kernel_rfl) ⟨_, _, rfl, rfl, rfl⟩ ?_)
    exact ⟨.inl ⟨_, rfl, hnum3⟩, ((((Chg.refl (fun k_ => False) w).step hchg3 (fun k_ hk_ (h_ : False) => h_.elim)).step hb10 (fun k_ hk_ (h_ : False) => h_.elim)).step hb15 (fun k_ hk_ (h_ : k_ = w4.heap.size) => (show False by omega)))⟩
  · have hlm3 := hnum3.2
    refine tl_val (w' := w4) rfl (do_move rfl) (by decide) ?_
    refine tl_val (w' := w4) rfl (do_extract (v := .int .i64 0) rfl rfl) (by decide) ?_
    refine tl_val (w' := w4) rfl (do_extract (v := .agg #[.slice A l.length c, .int .i64 0, .bool false, .int .i64 (m3 : Int)]) rfl rfl) (by decide) ?_
    refine tl_val rfl (do_alloc (v := .pointer (some ⟨w4.heap.size, 0, none⟩)) (w' := w4.alloc (.cells #[.slice none 0 0, .int .i64 0, .bool false, .int .i64 0] 55)) (by kernel_rfl)) (by decide) ?_
    refine tl_gen (fun w22 e23 => ?_)
    have hb24 : Chg (fun _ => False) w4 w22 := e23 ▸ Chg.alloc _ _
    have hz25 : w22.heap.size = w4.heap.size + 1 := by rw [e23]; exact size_alloc _ _
    have hc26 : w22.heap[w4.heap.size]? = some (.cells #[.slice none 0 0, .int .i64 0, .bool false, .int .i64 0] 55 (0, 0)) := by rw [e23]; exact obj_new _ _
    clear e23
    refine tl_val (w' := w22) rfl (do_assign rfl) (by decide) ?_
    refine tl_unit rfl (do_storesB (cs := [.slice A l.length c, .int .i64 0, .bool false, .int .i64 (m3 : Int)]) rfl rfl (by rfl) (by kernel_rfl) hc26 (Nat.le_of_ble_eq_true rfl)) ?_
    refine tl_gen (fun w27 e28 => ?_)
    have hb29 : Chg (fun k => k = w4.heap.size) w22 w27 := e28 ▸ Chg.setCells _ _ 0 [.slice A l.length c, .int .i64 0, .bool false, .int .i64 (m3 : Int)]
    have hz30 : w27.heap.size = w22.heap.size := by rw [e28]; exact sc_size _ _ _ _
    have hc31 : w27.heap[w4.heap.size]? = some (.cells #[.slice A l.length c, .int .i64 0, .bool false, .int .i64 (m3 : Int)] 55 (0, 0)) := by rw [e28]; exact obj_setCells [.slice A l.length c, .int .i64 0, .bool false, .int .i64 (m3 : Int)] 0 hc26
    clear e28
    refine tl_end ?_
    refine fun a_ ha_ => hK2 _ _ _ (T.sub (L' := [(0, .slice A l.length c), (2, .int .i64 0), (3, .int .i64 0), (4, .pointer (some ⟨w4.heap.size, 0, none⟩))]) ?_ (sub_cons rfl (sub_cons rfl (sub_cons rfl (sub_cons rfl sub_nil))))) a_ ha_
    refine t_seq (fun K32 hK32 => ?_)
    refine t_seq (fun K33 hK33 => ?_)
    refine t_region ?_
    refine tl_val (w' := w27) rfl (do_fieldAddr (v := .pointer (some ⟨w4.heap.size, 3, none⟩)) rfl (by kernel_rfl)) (by decide) ?_
    refine tl_val (w' := w27) rfl (do_load (v := .int .i64 (m3 : Int)) rfl (by kernel_rfl) (by rw [obj_cell hc31]; rfl)) (by decide) ?_
    refine tl_val (w' := w27) rfl (do_neq rfl rfl) (by decide) ?_
    refine tl_end ?_
    refine fun a_ ha_ => hK33 _ _ _ (T.sub (L' := [(0, .slice A l.length c), (2, .int .i64 0), (3, .int .i64 0), (4, .pointer (some ⟨w4.heap.size, 0, none⟩)), (13, .bool (decide ((m3 : Int) ≠ 0)))]) ?_ (sub_cons rfl (sub_cons rfl (sub_cons rfl (sub_cons rfl (sub_cons rfl sub_nil)))))) a_ ha_
    by_cases hc34 : (m3 : Int) ≠ 0
    · have hk35 := decide_eq_true hc34
      refine t_yes rfl hk35 ?_
      refine t_seq (fun K36 hK36 => ?_)
      refine t_region ?_
      refine tl_val (w' := w27) rfl (do_assign rfl) (by decide) ?_
      refine tl_end ?_
      refine fun a_ ha_ => hK36 _ _ _ (T.sub (L' := [(0, .slice A l.length c), (2, .int .i64 (-1)), (3, .int .i64 0), (4, .pointer (some ⟨w4.heap.size, 0, none⟩)), (13, .bool (decide ((m3 : Int) ≠ 0)))]) ?_ (sub_cons rfl (sub_cons rfl (sub_cons rfl (sub_cons rfl (sub_cons rfl sub_nil)))))) a_ ha_
      refine t_ret ?_
      refine fun a_ ha_ => hQ0 _ _ _ (body_ret (rs := [.tmp 2]) (vs := [.int .i64 (-1)]) ha_ (by kernel_rfl) ⟨_, _, rfl, rfl, rfl⟩ ?_)
      exact ⟨.inr ⟨rfl, _, hnum3⟩, ((((Chg.refl (fun k_ => False) w).step hchg3 (fun k_ hk_ (h_ : False) => h_.elim)).step hb24 (fun k_ hk_ (h_ : False) => h_.elim)).step hb29 (fun k_ hk_ (h_ : k_ = w4.heap.size) => (show False by omega)))⟩
    · have hk35 := decide_eq_false hc34
      refine t_no rfl hk35 ?_
      refine t_skip ?_
      refine fun a_ ha_ => hK32 _ _ _ (T.sub (L' := [(0, .slice A l.length c), (2, .int .i64 0), (3, .int .i64 0), (4, .pointer (some ⟨w4.heap.size, 0, none⟩)), (13, .bool (decide ((m3 : Int) ≠ 0)))]) ?_ (sub_cons rfl (sub_cons rfl (sub_cons rfl (sub_cons rfl (sub_cons rfl sub_nil)))))) a_ ha_
      refine t_seq (fun K37 hK37 => ?_)
      refine t_region ?_
      refine tl_val (w' := w27) rfl (do_move rfl) (by decide) ?_
      refine tl_val (w' := w27) rfl (do_assign rfl) (by decide) ?_
      refine tl_end ?_
      refine fun a_ ha_ => hK37 _ _ _ (T.sub (L' := [(0, .slice A l.length c), (2, .int .i64 0), (3, .int .i64 0), (4, .pointer (some ⟨w4.heap.size, 0, none⟩)), (13, .bool (decide ((m3 : Int) ≠ 0)))]) ?_ (sub_cons rfl (sub_cons rfl (sub_cons rfl (sub_cons rfl (sub_cons rfl sub_nil)))))) a_ ha_
      refine t_ret ?_
      refine fun a_ ha_ => hQ0 _ _ _ (body_ret (rs := [.tmp 2]) (vs := [.int .i64 0]) ha_ (by kernel_rfl) ⟨_, _, rfl, rfl, rfl⟩ ?_)
      exfalso; omega
end Go.Proofs.YtfmpbbeacpdalaaDoor
