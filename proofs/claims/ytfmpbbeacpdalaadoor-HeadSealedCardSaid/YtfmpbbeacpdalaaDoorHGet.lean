/-
  A sector, read.
-/
import Derived.Test.YtfmpbbeacpdalaaDoorHGetP
import Derived.Test.YtfmpbbeacpdalaaDoorFS
import Derived.OpenShut
set_option linter.unusedVariables false
set_option linter.unusedSimpArgs false
set_option maxRecDepth 100000
namespace Go.Proofs.YtfmpbbeacpdalaaDoor
open Go.RowKit

theorem get1_e (p q : Nat) (A : Option Addr) (c : Nat) (l : List UInt8) (x1 : Bool) (x2 x3 x4 : Int) (w : World) (hc : Cur w p A c l 0 false true) (h1 : w.heap[q]? = some (.cells #[.bool x1, .int .i64 x2, .int .i64 x3, .int .i64 x4] 23 (0, 0))) (hq : q < p) (hll : l.length ≤ 1000000) :
    Calls Tryd.prog 31 [.pointer (some ⟨p, 0, none⟩), .pointer (some ⟨q, 0, none⟩)].toArray w
      (Rdr p (fun k => k = q) (fun o w' => ∃ g la, w'.heap[q]? = some (.cells #[.bool x1, .int .i64 g, .int .i64 x3, .int .i64 la] 23 (0, 0)) ∧ TwoS l o g la) w) := by
  refine enter (n := 9) (L := [(0, .pointer (some ⟨p, 0, none⟩)), (1, .pointer (some ⟨q, 0, none⟩))]) (args := [.pointer (some ⟨p, 0, none⟩), .pointer (some ⟨q, 0, none⟩)]) Tryd.func31 rfl rfl (Nat.le_of_ble_eq_true rfl) (by intro t v h; exact look_args h) ?_
  refine t_body (fun Q0 hB0 hQ0 => ?_)
  refine t_region ?_
  refine tl_val (w' := w) rfl (do_move rfl) (by decide) ?_
  refine tl_call rfl (en_call (f := 32) (by kernel_rfl) rfl) rfl (number_e 8 hc (by omega)) (fun v4 w2 hr3 => ?_) ?_ (fun _ h => h)
  · obtain ⟨m1, rfl, hnum1, hcur1, hchg1⟩ := hr3
    have hz5 := hchg1.size
    have hlm1 := hnum1.2.2.2
    have hle1 := hnum1.2.1
    refine tl_val (w' := w2) rfl (do_move rfl) (by decide) ?_
    refine tl_call rfl (en_call (f := 32) (by kernel_rfl) rfl) rfl (number_e 8 hcur1 (by omega)) (fun v9 w7 hr8 => ?_) ?_ (fun _ h => h)
    · obtain ⟨m6, rfl, hnum6, hcur6, hchg6⟩ := hr8
      have hz10 := hchg6.size
      have hlm6 := hnum6.2.2.2
      have hle6 := hnum6.2.1
      refine tl_val (w' := w7) rfl (do_fieldAddr (v := .pointer (some ⟨q, 1, none⟩)) rfl (by kernel_rfl)) (by decide) ?_
      have h11 := (hchg6.obj (show ¬ q = p by omega) (hchg1.obj (show ¬ q = p by omega) h1))
      refine tl_unit rfl (do_store (u := .int .i64 x2) rfl rfl rfl (by kernel_rfl) (by rw [obj_cell h11]; rfl) (obj_frozen h11 _)) ?_
      refine tl_gen (fun w12 e13 => ?_)
      have hb14 : Chg (fun k => k = q) w7 w12 := e13 ▸ Chg.setCell _ _ _ _
      have hz15 : w12.heap.size = w7.heap.size := by rw [e13]; simp
      have hc16 : w12.heap[q]? = some (.cells #[.bool x1, .int .i64 (m1 : Int), .int .i64 x3, .int .i64 x4] 23 (0, 0)) := by rw [e13]; exact obj_setCell h11
      clear e13
      refine tl_val (w' := w12) rfl (do_fieldAddr (v := .pointer (some ⟨q, 3, none⟩)) rfl (by kernel_rfl)) (by decide) ?_
      refine tl_unit rfl (do_store (u := .int .i64 x4) rfl rfl rfl (by kernel_rfl) (by rw [obj_cell hc16]; rfl) (obj_frozen hc16 _)) ?_
      refine tl_gen (fun w17 e18 => ?_)
      have hb19 : Chg (fun k => k = q) w12 w17 := e18 ▸ Chg.setCell _ _ _ _
      have hz20 : w17.heap.size = w12.heap.size := by rw [e18]; simp
      have hc21 : w17.heap[q]? = some (.cells #[.bool x1, .int .i64 (m1 : Int), .int .i64 x3, .int .i64 (m6 : Int)] 23 (0, 0)) := by rw [e18]; exact obj_setCell hc16
      clear e18
      refine tl_end ?_
      refine fun a_ ha_ => hQ0 _ _ _ (body_end (rs := []) (vs := []) ha_ (by kernel_rfl) rfl ?_)
      have h22 := (Cur.chg (Cur.chg hcur6 hb14 (show ¬ p = q by omega) (fun a_ h1_ h2_ => Rd.ne (cs := [.bool x1, .int .i64 x2, .int .i64 x3, .int .i64 x4]) (hcur6).rd h11 (by rfl) a_ h1_ h2_)) hb19 (show ¬ p = q by omega) (fun a_ h1_ h2_ => Rd.ne (cs := [.bool x1, .int .i64 (m1 : Int), .int .i64 x3, .int .i64 x4]) ((Cur.chg hcur6 hb14 (show ¬ p = q by omega) (fun a_ h1_ h2_ => Rd.ne (cs := [.bool x1, .int .i64 x2, .int .i64 x3, .int .i64 x4]) (hcur6).rd h11 (by rfl) a_ h1_ h2_))).rd hc16 (by rfl) a_ h1_ h2_))
      exact ⟨rfl, ⟨_, _, hc21, .inr ⟨rfl, by omega, by omega, fun x_ y_ h_ => ⟨NumOk.eq hnum1 (two_facts h_).1, NumOk.eq hnum6 (two_facts h_).2⟩⟩⟩, (((((Chg.refl (fun k_ => k_ = q ∨ k_ = p) w).step hchg1 (fun k_ hk_ (h_ : k_ = p) => (show k_ = q ∨ k_ = p by omega))).step hchg6 (fun k_ hk_ (h_ : k_ = p) => (show k_ = q ∨ k_ = p by omega))).step hb14 (fun k_ hk_ (h_ : k_ = q) => (show k_ = q ∨ k_ = p by omega))).step hb19 (fun k_ hk_ (h_ : k_ = q) => (show k_ = q ∨ k_ = p by omega))), _, _, _, _, _, _, h22⟩
    · intro ch_ w_ h_
      refine fun a_ ha_ => hQ0 _ _ _ (body_panic ha_ ?_)
      obtain ⟨k_, rfl, hno, hcur, hchg⟩ := h_
      have h23 := (hchg.obj (show ¬ q = p by omega) (hchg1.obj (show ¬ q = p by omega) h1))
      exact ⟨(k_ : Int), by exact_mod_cast hno.2, rfl, ⟨_, _, h23, .inl ⟨_, by exact_mod_cast hno.2, rfl, fun x_ y_ h_ => hno.not (two_facts h_).2⟩⟩, (((Chg.refl (fun k_ => k_ = q ∨ k_ = p) w).step hchg1 (fun k_ hk_ (h_ : k_ = p) => (show k_ = q ∨ k_ = p by omega))).step hchg (fun k_ hk_ (h_ : k_ = p) => (show k_ = q ∨ k_ = p by omega))), _, _, _, _, _, _, hcur⟩
  · intro ch_ w_ h_
    refine fun a_ ha_ => hQ0 _ _ _ (body_panic ha_ ?_)
    obtain ⟨k_, rfl, hno, hcur, hchg⟩ := h_
    have h24 := (hchg.obj (show ¬ q = p by omega) h1)
    exact ⟨(k_ : Int), by exact_mod_cast hno.2, rfl, ⟨_, _, h24, .inl ⟨_, by exact_mod_cast hno.2, rfl, fun x_ y_ h_ => hno.not (two_facts h_).1⟩⟩, ((Chg.refl (fun k_ => k_ = q ∨ k_ = p) w).step hchg (fun k_ hk_ (h_ : k_ = p) => (show k_ = q ∨ k_ = p by omega))), _, _, _, _, _, _, hcur⟩
theorem get_e {w : World} {A : Option Addr} {c : Nat} {lb : List UInt8} (hT : TabW w) (ha : Rd w A c lb) : Calls Tryd.prog 16 [.slice A lb.length c].toArray w (GetR w lb) := by
  have hla := ha.len
  refine enter (n := 57) (L := [(0, .slice A lb.length c)]) (args := [.slice A lb.length c]) Tryd.func16 rfl rfl (Nat.le_of_ble_eq_true rfl) (by intro t v h; exact look_args h) ?_
  refine t_body (fun Q0 hB0 hQ0 => ?_)
  have hgt := TabW.lt hT
  refine t_seq (fun K1 hK1 => ?_)
  refine t_region ?_
  refine tl_val rfl (do_alloc (v := .pointer (some ⟨w.heap.size, 0, none⟩)) (w' := w.alloc (.cells #[.bool false, .int .i64 0, .int .i64 0, .int .i64 0] 23)) (by kernel_rfl)) (by decide) ?_
  refine tl_gen (fun w2 e3 => ?_)
  have hb4 : Chg (fun _ => False) w w2 := e3 ▸ Chg.alloc _ _
  have hz5 : w2.heap.size = w.heap.size + 1 := by rw [e3]; exact size_alloc _ _
  have hc6 : w2.heap[w.heap.size]? = some (.cells #[.bool false, .int .i64 0, .int .i64 0, .int .i64 0] 23 (0, 0)) := by rw [e3]; exact obj_new _ _
  clear e3
  refine tl_val (w' := w2) rfl (do_assign rfl) (by decide) ?_
  refine tl_end ?_
  refine fun a_ ha_ => hK1 _ _ _ (T.sub (L' := [(0, .slice A lb.length c), (2, .pointer (some ⟨w.heap.size, 0, none⟩)), (3, .int .i64 0)]) ?_ (sub_cons rfl (sub_cons rfl (sub_cons rfl sub_nil)))) a_ ha_
  refine t_seq (fun K7 hK7 => ?_)
  refine t_seq (fun K8 hK8 => ?_)
  refine t_region ?_
  refine tl_val (w' := w2) rfl (do_move rfl) (by decide) ?_
  refine tl_val (w' := w2) rfl (do_builtin (v := .int .i64 (lb.length : Int)) rfl (fun _ _ => by kernel_rfl)) (by decide) ?_
  refine tl_val (w' := w2) rfl (do_neq rfl rfl) (by decide) ?_
  refine tl_end ?_
  refine fun a_ ha_ => hK8 _ _ _ (T.sub (L' := [(0, .slice A lb.length c), (2, .pointer (some ⟨w.heap.size, 0, none⟩)), (3, .int .i64 0), (11, .bool (decide ((lb.length : Int) ≠ 128)))]) ?_ (sub_cons rfl (sub_cons rfl (sub_cons rfl (sub_cons rfl sub_nil))))) a_ ha_
  by_cases hc9 : (lb.length : Int) ≠ 128
  · have hk10 := decide_eq_true hc9
    refine t_yes rfl hk10 ?_
    refine t_seq (fun K11 hK11 => ?_)
    refine t_region ?_
    refine tl_val (w' := w2) rfl (do_build (vs := []) (v := .agg #[.bool false, .int .i64 0, .int .i64 0, .int .i64 0]) rfl (by kernel_rfl)) (by decide) ?_
    refine tl_unit rfl (do_storesB (cs := [.bool false, .int .i64 0, .int .i64 0, .int .i64 0]) rfl rfl (by rfl) (by kernel_rfl) hc6 (Nat.le_of_ble_eq_true rfl)) ?_
    refine tl_gen (fun w12 e13 => ?_)
    have hb14 : Chg (fun k => k = w.heap.size) w2 w12 := e13 ▸ Chg.setCells _ _ 0 [.bool false, .int .i64 0, .int .i64 0, .int .i64 0]
    have hz15 : w12.heap.size = w2.heap.size := by rw [e13]; exact sc_size _ _ _ _
    have hc16 : w12.heap[w.heap.size]? = some (.cells #[.bool false, .int .i64 0, .int .i64 0, .int .i64 0] 23 (0, 0)) := by rw [e13]; exact obj_setCells [.bool false, .int .i64 0, .int .i64 0, .int .i64 0] 0 hc6
    clear e13
    refine tl_val (w' := w12) rfl (do_assign rfl) (by decide) ?_
    refine tl_end ?_
    refine fun a_ ha_ => hK11 _ _ _ (T.sub (L' := [(0, .slice A lb.length c), (2, .pointer (some ⟨w.heap.size, 0, none⟩)), (3, .int .i64 1), (11, .bool (decide ((lb.length : Int) ≠ 128)))]) ?_ (sub_cons rfl (sub_cons rfl (sub_cons rfl (sub_cons rfl sub_nil))))) a_ ha_
    refine t_ret ?_
    refine fun a_ ha_ => hQ0 _ _ _ (body_ret (rs := [.cell 2 23, .tmp 3]) (vs := [.agg #[.bool false, .int .i64 0, .int .i64 0, .int .i64 0], .int .i64 1]) ha_ (by kernel_rfl) ⟨_, _, _, rfl, rfl, (load_whole (cs := [.bool false, .int .i64 0, .int .i64 0, .int .i64 0]) (by kernel_rfl) (obj_range hc16)), ⟨_, _, rfl, rfl, rfl⟩⟩ ?_)
    skip
    exact ⟨by rw [got_len (by omega)]; rfl, (((Chg.refl (fun k_ => False) w).step hb4 (fun k_ hk_ (h_ : False) => h_.elim)).step hb14 (fun k_ hk_ (h_ : k_ = w.heap.size) => (show False by omega)))⟩
  · have hk10 := decide_eq_false hc9
    refine t_no rfl hk10 ?_
    refine t_skip ?_
    refine fun a_ ha_ => hK7 _ _ _ (T.sub (L' := [(0, .slice A lb.length c), (2, .pointer (some ⟨w.heap.size, 0, none⟩)), (3, .int .i64 0), (11, .bool (decide ((lb.length : Int) ≠ 128)))]) ?_ (sub_cons rfl (sub_cons rfl (sub_cons rfl (sub_cons rfl sub_nil))))) a_ ha_
    refine t_seq (fun K17 hK17 => ?_)
    refine t_region ?_
    refine tl_val (w' := w2) rfl (do_move rfl) (by decide) ?_
    have h19 := (Rd.chg ha ha hb4 (fun _ _ x => x))
    have h20 := (TabW.chg hT hb4 (fun x => x))
    refine tl_call rfl (en_call (f := 28) (by kernel_rfl) rfl) rfl (check_e h20 h19 (by omega) (by omega)) (fun v23 w21 hr22 => ?_) (fun _ _ h => h.elim) (fun _ h => h)
    obtain ⟨A18, c18, rfl, hrd18, hchg18⟩ := hr22
    have hz24 := hchg18.size
    refine tl_val (w' := w21) rfl (do_move rfl) (by decide) ?_
    refine tl_val (w' := w21) rfl (do_extract (v := .slice A18 ((chk lb).1.length) c18) rfl rfl) (by decide) ?_
    refine tl_val (w' := w21) rfl (do_extract (v := .int .i64 (((chk lb).2 : Nat) : Int)) rfl rfl) (by decide) ?_
    refine tl_val (w' := w21) rfl (do_assign rfl) (by decide) ?_
    refine tl_val (w' := w21) rfl (do_assign rfl) (by decide) ?_
    refine tl_end ?_
    refine fun a_ ha_ => hK17 _ _ _ (T.sub (L' := [(0, .slice A lb.length c), (2, .pointer (some ⟨w.heap.size, 0, none⟩)), (3, .int .i64 0), (4, .slice A18 ((chk lb).1.length) c18), (5, .int .i64 (((chk lb).2 : Nat) : Int)), (11, .bool (decide ((lb.length : Int) ≠ 128)))]) ?_ (sub_cons rfl (sub_cons rfl (sub_cons rfl (sub_cons rfl (sub_cons rfl (sub_cons rfl sub_nil))))))) a_ ha_
    refine t_seq (fun K25 hK25 => ?_)
    refine t_seq (fun K26 hK26 => ?_)
    refine t_region ?_
    refine tl_val (w' := w21) rfl (do_move rfl) (by decide) ?_
    refine tl_val (w' := w21) rfl (do_neq rfl rfl) (by decide) ?_
    refine tl_end ?_
    refine fun a_ ha_ => hK26 _ _ _ (T.sub (L' := [(0, .slice A lb.length c), (2, .pointer (some ⟨w.heap.size, 0, none⟩)), (3, .int .i64 0), (4, .slice A18 ((chk lb).1.length) c18), (5, .int .i64 (((chk lb).2 : Nat) : Int)), (11, .bool (decide ((lb.length : Int) ≠ 128))), (19, .bool (decide ((((chk lb).2 : Nat) : Int) ≠ 0)))]) ?_ (sub_cons rfl (sub_cons rfl (sub_cons rfl (sub_cons rfl (sub_cons rfl (sub_cons rfl (sub_cons rfl sub_nil)))))))) a_ ha_
    by_cases hc27 : (((chk lb).2 : Nat) : Int) ≠ 0
    · have hk28 := decide_eq_true hc27
      refine t_yes rfl hk28 ?_
      refine t_seq (fun K29 hK29 => ?_)
      refine t_region ?_
      refine tl_val (w' := w21) rfl (do_build (vs := []) (v := .agg #[.bool false, .int .i64 0, .int .i64 0, .int .i64 0]) rfl (by kernel_rfl)) (by decide) ?_
      refine tl_val (w' := w21) rfl (do_move rfl) (by decide) ?_
      have h30 := (hchg18.obj (fun x => x) hc6)
      refine tl_unit rfl (do_storesB (cs := [.bool false, .int .i64 0, .int .i64 0, .int .i64 0]) rfl rfl (by rfl) (by kernel_rfl) h30 (Nat.le_of_ble_eq_true rfl)) ?_
      refine tl_gen (fun w31 e32 => ?_)
      have hb33 : Chg (fun k => k = w.heap.size) w21 w31 := e32 ▸ Chg.setCells _ _ 0 [.bool false, .int .i64 0, .int .i64 0, .int .i64 0]
      have hz34 : w31.heap.size = w21.heap.size := by rw [e32]; exact sc_size _ _ _ _
      have hc35 : w31.heap[w.heap.size]? = some (.cells #[.bool false, .int .i64 0, .int .i64 0, .int .i64 0] 23 (0, 0)) := by rw [e32]; exact obj_setCells [.bool false, .int .i64 0, .int .i64 0, .int .i64 0] 0 h30
      clear e32
      refine tl_val (w' := w31) rfl (do_assign rfl) (by decide) ?_
      refine tl_end ?_
      refine fun a_ ha_ => hK29 _ _ _ (T.sub (L' := [(0, .slice A lb.length c), (2, .pointer (some ⟨w.heap.size, 0, none⟩)), (3, .int .i64 (((chk lb).2 : Nat) : Int)), (4, .slice A18 ((chk lb).1.length) c18), (5, .int .i64 (((chk lb).2 : Nat) : Int)), (11, .bool (decide ((lb.length : Int) ≠ 128))), (19, .bool (decide ((((chk lb).2 : Nat) : Int) ≠ 0)))]) ?_ (sub_cons rfl (sub_cons rfl (sub_cons rfl (sub_cons rfl (sub_cons rfl (sub_cons rfl (sub_cons rfl sub_nil)))))))) a_ ha_
      refine t_ret ?_
      refine fun a_ ha_ => hQ0 _ _ _ (body_ret (rs := [.cell 2 23, .tmp 3]) (vs := [.agg #[.bool false, .int .i64 0, .int .i64 0, .int .i64 0], .int .i64 (((chk lb).2 : Nat) : Int)]) ha_ (by kernel_rfl) ⟨_, _, _, rfl, rfl, (load_whole (cs := [.bool false, .int .i64 0, .int .i64 0, .int .i64 0]) (by kernel_rfl) (obj_range hc35)), ⟨_, _, rfl, rfl, rfl⟩⟩ ?_)
      skip
      have hck2_ := got_chk (b := lb) (by omega) (by omega)
      exact ⟨by rw [hck2_.1, hck2_.2]; rfl, ((((Chg.refl (fun k_ => False) w).step hb4 (fun k_ hk_ (h_ : False) => h_.elim)).step hchg18 (fun k_ hk_ (h_ : False) => h_.elim)).step hb33 (fun k_ hk_ (h_ : k_ = w.heap.size) => (show False by omega)))⟩
    · have hk28 := decide_eq_false hc27
      have hck_ : (chk lb).2 = 0 := by omega
      have htx_ : (chk lb).1.length = 124 := by rw [chk_text hck_ (by omega)]; simp; omega
      have hlb_ : lb.length = 128 := by omega
      refine t_no rfl hk28 ?_
      refine t_skip ?_
      refine fun a_ ha_ => hK25 _ _ _ (T.sub (L' := [(0, .slice A lb.length c), (2, .pointer (some ⟨w.heap.size, 0, none⟩)), (3, .int .i64 0), (4, .slice A18 ((chk lb).1.length) c18), (5, .int .i64 (((chk lb).2 : Nat) : Int)), (11, .bool (decide ((lb.length : Int) ≠ 128))), (19, .bool (decide ((((chk lb).2 : Nat) : Int) ≠ 0)))]) ?_ (sub_cons rfl (sub_cons rfl (sub_cons rfl (sub_cons rfl (sub_cons rfl (sub_cons rfl (sub_cons rfl sub_nil)))))))) a_ ha_
      refine t_seq (fun K36 hK36 => ?_)
      refine t_region ?_
      refine tl_val rfl (do_alloc (v := .pointer (some ⟨w21.heap.size, 0, none⟩)) (w' := w21.alloc (.cells #[.bool false, .int .i64 0, .int .i64 0, .int .i64 0] 23)) (by kernel_rfl)) (by decide) ?_
      refine tl_gen (fun w37 e38 => ?_)
      have hb39 : Chg (fun _ => False) w21 w37 := e38 ▸ Chg.alloc _ _
      have hz40 : w37.heap.size = w21.heap.size + 1 := by rw [e38]; exact size_alloc _ _
      have hc41 : w37.heap[w21.heap.size]? = some (.cells #[.bool false, .int .i64 0, .int .i64 0, .int .i64 0] 23 (0, 0)) := by rw [e38]; exact obj_new _ _
      clear e38
      refine tl_end ?_
      refine fun a_ ha_ => hK36 _ _ _ (T.sub (L' := [(0, .slice A lb.length c), (2, .pointer (some ⟨w.heap.size, 0, none⟩)), (3, .int .i64 0), (4, .slice A18 ((chk lb).1.length) c18), (5, .int .i64 (((chk lb).2 : Nat) : Int)), (6, .pointer (some ⟨w21.heap.size, 0, none⟩)), (11, .bool (decide ((lb.length : Int) ≠ 128))), (19, .bool (decide ((((chk lb).2 : Nat) : Int) ≠ 0)))]) ?_ (sub_cons rfl (sub_cons rfl (sub_cons rfl (sub_cons rfl (sub_cons rfl (sub_cons rfl (sub_cons rfl (sub_cons rfl sub_nil))))))))) a_ ha_
      refine t_seq (fun K42 hK42 => ?_)
      refine t_seq (fun K43 hK43 => ?_)
      refine t_region ?_
      refine tl_val (w' := w37) rfl (do_move rfl) (by decide) ?_
      have h44 := (Rd.chg hrd18 hrd18 hb39 (fun _ _ x => x))
      have hs45 := fun W => slice_max (P := Tryd.prog) (t := 24) (lo := 0) (m := 64) (l' := none) (h' := (some (.int .i64 64))) (m' := (some (.int .i64 64))) h44 (by kernel_rfl) (by omega) (by omega) (.inl ⟨rfl, rfl⟩) ⟨_, rfl⟩ ⟨_, rfl⟩ W
      refine tl_val (w' := w37) rfl (do_slice (v := .slice (sub A18 64 0 1) (((((chk lb).1).drop 0).take (64 - 0)).length) (64 - 0)) rfl rfl rfl rfl (hs45 _).1) (by decide) ?_
      refine tl_call rfl (en_call (f := 29) (by kernel_rfl) rfl) rfl (iopen_e (hs45 w37).2 (by have := (hs45 w37).2.len; simp; omega)) (fun v49 w47 hr48 => ?_) (fun _ _ h => h.elim) (fun _ h => h)
      obtain ⟨e_, bg, f, rfl, hop_, hchg46⟩ := hr48
      have hz50 := hchg46.size
      refine tl_val (w' := w47) rfl (do_move rfl) (by decide) ?_
      refine tl_val (w' := w47) rfl (do_extract (v := .bool bg) rfl rfl) (by decide) ?_
      refine tl_val (w' := w47) rfl (do_extract (v := .int .i64 f) rfl rfl) (by decide) ?_
      refine tl_val (w' := w47) rfl (do_extract (v := .int .i64 e_) rfl rfl) (by decide) ?_
      refine tl_val (w' := w47) rfl (do_fieldAddr (v := .pointer (some ⟨w21.heap.size, 0, none⟩)) rfl (by kernel_rfl)) (by decide) ?_
      have h51 := (hchg46.obj (fun x => x) hc41)
      refine tl_unit rfl (do_store (u := .bool false) rfl rfl rfl (by kernel_rfl) (by rw [obj_cell h51]; rfl) (obj_frozen h51 _)) ?_
      refine tl_gen (fun w52 e53 => ?_)
      have hb54 : Chg (fun k => k = w21.heap.size) w47 w52 := e53 ▸ Chg.setCell _ _ _ _
      have hz55 : w52.heap.size = w47.heap.size := by rw [e53]; simp
      have hc56 : w52.heap[w21.heap.size]? = some (.cells #[.bool bg, .int .i64 0, .int .i64 0, .int .i64 0] 23 (0, 0)) := by rw [e53]; exact obj_setCell h51
      clear e53
      refine tl_val (w' := w52) rfl (do_fieldAddr (v := .pointer (some ⟨w21.heap.size, 2, none⟩)) rfl (by kernel_rfl)) (by decide) ?_
      refine tl_unit rfl (do_store (u := .int .i64 0) rfl rfl rfl (by kernel_rfl) (by rw [obj_cell hc56]; rfl) (obj_frozen hc56 _)) ?_
      refine tl_gen (fun w57 e58 => ?_)
      have hb59 : Chg (fun k => k = w21.heap.size) w52 w57 := e58 ▸ Chg.setCell _ _ _ _
      have hz60 : w57.heap.size = w52.heap.size := by rw [e58]; simp
      have hc61 : w57.heap[w21.heap.size]? = some (.cells #[.bool bg, .int .i64 0, .int .i64 f, .int .i64 0] 23 (0, 0)) := by rw [e58]; exact obj_setCell hc56
      clear e58
      refine tl_val (w' := w57) rfl (do_assign rfl) (by decide) ?_
      refine tl_end ?_
      refine fun a_ ha_ => hK43 _ _ _ (T.sub (L' := [(0, .slice A lb.length c), (2, .pointer (some ⟨w.heap.size, 0, none⟩)), (3, .int .i64 0), (4, .slice A18 ((chk lb).1.length) c18), (5, .int .i64 e_), (6, .pointer (some ⟨w21.heap.size, 0, none⟩)), (11, .bool (decide ((lb.length : Int) ≠ 128))), (19, .bool (decide ((((chk lb).2 : Nat) : Int) ≠ 0)))]) ?_ (sub_cons rfl (sub_cons rfl (sub_cons rfl (sub_cons rfl (sub_cons rfl (sub_cons rfl (sub_cons rfl (sub_cons rfl sub_nil))))))))) a_ ha_
      refine t_seq (fun K62 hK62 => ?_)
      refine t_region ?_
      refine tl_val (w' := w57) rfl (do_move rfl) (by decide) ?_
      refine tl_val (w' := w57) rfl (do_neq rfl rfl) (by decide) ?_
      refine tl_end ?_
      refine fun a_ ha_ => hK62 _ _ _ (T.sub (L' := [(0, .slice A lb.length c), (2, .pointer (some ⟨w.heap.size, 0, none⟩)), (3, .int .i64 0), (4, .slice A18 ((chk lb).1.length) c18), (5, .int .i64 e_), (6, .pointer (some ⟨w21.heap.size, 0, none⟩)), (11, .bool (decide ((lb.length : Int) ≠ 128))), (19, .bool (decide ((((chk lb).2 : Nat) : Int) ≠ 0))), (32, .bool (decide (e_ ≠ 0)))]) ?_ (sub_cons rfl (sub_cons rfl (sub_cons rfl (sub_cons rfl (sub_cons rfl (sub_cons rfl (sub_cons rfl (sub_cons rfl (sub_cons rfl sub_nil)))))))))) a_ ha_
      by_cases hc63 : e_ ≠ 0
      · have hk64 := decide_eq_true hc63
        have hno_ := got_bad hlb_ hck_ (fun x_ hx_ hb_ => (hop_.resolve_right (fun h_ => absurd h_.1 (by omega))).2.2.2 _ _ (sec_use hlb_ hck_ hx_ hb_).1)
        refine t_yes rfl hk64 ?_
        refine t_seq (fun K65 hK65 => ?_)
        refine t_region ?_
        refine tl_val (w' := w57) rfl (do_build (vs := []) (v := .agg #[.bool false, .int .i64 0, .int .i64 0, .int .i64 0]) rfl (by kernel_rfl)) (by decide) ?_
        have h66 := (hb59.obj (show ¬ w.heap.size = w21.heap.size by omega) (hb54.obj (show ¬ w.heap.size = w21.heap.size by omega) (hchg46.obj (fun x => x) (hb39.obj (fun x => x) (hchg18.obj (fun x => x) hc6)))))
        refine tl_unit rfl (do_storesB (cs := [.bool false, .int .i64 0, .int .i64 0, .int .i64 0]) rfl rfl (by rfl) (by kernel_rfl) h66 (Nat.le_of_ble_eq_true rfl)) ?_
        refine tl_gen (fun w67 e68 => ?_)
        have hb69 : Chg (fun k => k = w.heap.size) w57 w67 := e68 ▸ Chg.setCells _ _ 0 [.bool false, .int .i64 0, .int .i64 0, .int .i64 0]
        have hz70 : w67.heap.size = w57.heap.size := by rw [e68]; exact sc_size _ _ _ _
        have hc71 : w67.heap[w.heap.size]? = some (.cells #[.bool false, .int .i64 0, .int .i64 0, .int .i64 0] 23 (0, 0)) := by rw [e68]; exact obj_setCells [.bool false, .int .i64 0, .int .i64 0, .int .i64 0] 0 h66
        clear e68
        refine tl_val (w' := w67) rfl (do_assign rfl) (by decide) ?_
        refine tl_end ?_
        refine fun a_ ha_ => hK65 _ _ _ (T.sub (L' := [(0, .slice A lb.length c), (2, .pointer (some ⟨w.heap.size, 0, none⟩)), (3, .int .i64 4), (4, .slice A18 ((chk lb).1.length) c18), (5, .int .i64 e_), (6, .pointer (some ⟨w21.heap.size, 0, none⟩)), (11, .bool (decide ((lb.length : Int) ≠ 128))), (19, .bool (decide ((((chk lb).2 : Nat) : Int) ≠ 0))), (32, .bool (decide (e_ ≠ 0)))]) ?_ (sub_cons rfl (sub_cons rfl (sub_cons rfl (sub_cons rfl (sub_cons rfl (sub_cons rfl (sub_cons rfl (sub_cons rfl (sub_cons rfl sub_nil)))))))))) a_ ha_
        refine t_ret ?_
        refine fun a_ ha_ => hQ0 _ _ _ (body_ret (rs := [.cell 2 23, .tmp 3]) (vs := [.agg #[.bool false, .int .i64 0, .int .i64 0, .int .i64 0], .int .i64 4]) ha_ (by kernel_rfl) ⟨_, _, _, rfl, rfl, (load_whole (cs := [.bool false, .int .i64 0, .int .i64 0, .int .i64 0]) (by kernel_rfl) (obj_range hc71)), ⟨_, _, rfl, rfl, rfl⟩⟩ ?_)
        skip
        exact ⟨by rw [hno_]; rfl, ((((((((Chg.refl (fun k_ => False) w).step hb4 (fun k_ hk_ (h_ : False) => h_.elim)).step hchg18 (fun k_ hk_ (h_ : False) => h_.elim)).step hb39 (fun k_ hk_ (h_ : False) => h_.elim)).step hchg46 (fun k_ hk_ (h_ : False) => h_.elim)).step hb54 (fun k_ hk_ (h_ : k_ = w21.heap.size) => (show False by omega))).step hb59 (fun k_ hk_ (h_ : k_ = w21.heap.size) => (show False by omega))).step hb69 (fun k_ hk_ (h_ : k_ = w.heap.size) => (show False by omega)))⟩
      · have hk64 := decide_eq_false hc63
        obtain ⟨_, hfb_, hO_⟩ := hop_.resolve_left (fun h_ => h_.1 (by omega))
        refine t_no rfl hk64 ?_
        refine t_skip ?_
        refine fun a_ ha_ => hK42 _ _ _ (T.sub (L' := [(0, .slice A lb.length c), (2, .pointer (some ⟨w.heap.size, 0, none⟩)), (3, .int .i64 0), (4, .slice A18 ((chk lb).1.length) c18), (5, .int .i64 e_), (6, .pointer (some ⟨w21.heap.size, 0, none⟩)), (11, .bool (decide ((lb.length : Int) ≠ 128))), (19, .bool (decide ((((chk lb).2 : Nat) : Int) ≠ 0))), (32, .bool (decide (e_ ≠ 0)))]) ?_ (sub_cons rfl (sub_cons rfl (sub_cons rfl (sub_cons rfl (sub_cons rfl (sub_cons rfl (sub_cons rfl (sub_cons rfl (sub_cons rfl sub_nil)))))))))) a_ ha_
        refine t_seq (fun K72 hK72 => ?_)
        refine t_region ?_
        refine tl_val (w' := w57) rfl (do_move rfl) (by decide) ?_
        have h73 := (Rd.chgNe (Rd.chgNe (Rd.chg hrd18 h44 hchg46 (fun _ _ x => x)) hb54 (fun a_ h1_ h2_ => Rd.ne (cs := [.bool false, .int .i64 0, .int .i64 0, .int .i64 0]) (Rd.chg hrd18 h44 hchg46 (fun _ _ x => x)) h51 (by rfl) a_ h1_ h2_)) hb59 (fun a_ h1_ h2_ => Rd.ne (cs := [.bool bg, .int .i64 0, .int .i64 0, .int .i64 0]) (Rd.chgNe (Rd.chg hrd18 h44 hchg46 (fun _ _ x => x)) hb54 (fun a_ h1_ h2_ => Rd.ne (cs := [.bool false, .int .i64 0, .int .i64 0, .int .i64 0]) (Rd.chg hrd18 h44 hchg46 (fun _ _ x => x)) h51 (by rfl) a_ h1_ h2_)) hc56 (by rfl) a_ h1_ h2_))
        have hs74 := fun W => slice_max (P := Tryd.prog) (t := 24) (lo := 68) (m := 124) (l' := (some (.int .i64 68))) (h' := (some (.int .i64 124))) (m' := (some (.int .i64 124))) h73 (by kernel_rfl) (by omega) (by omega) (.inr ⟨_, rfl⟩) ⟨_, rfl⟩ ⟨_, rfl⟩ W
        refine tl_val (w' := w57) rfl (do_slice (v := .slice (sub A18 124 68 1) (((((chk lb).1).drop 68).take (124 - 68)).length) (124 - 68)) rfl rfl rfl rfl (hs74 _).1) (by decide) ?_
        refine tl_val (w' := w57) rfl (do_makeFunc rfl) (by decide) ?_
        have hl1_ := lt_obj hc61
        refine tl_call rfl (en_call (f := 30) (by kernel_rfl) rfl) rfl (try_e 31 #[.pointer (some ⟨w21.heap.size, 0, none⟩)] (M := fun k_ => k_ = w21.heap.size) (fun o w' => ∃ g la, w'.heap[w21.heap.size]? = some (.cells #[.bool bg, .int .i64 g, .int .i64 f, .int .i64 la] 23 (0, 0)) ∧ TwoS ((((chk lb).1).drop 68).take (124 - 68)) o g la) (hs74 w57).2 (by intro k_ h_; have h2_ : k_ = w21.heap.size := h_; omega) (by kernel_rfl) (fun o w2 w3 ⟨g, la, x1, x3⟩ hC => ⟨g, la, hC.obj (by omega) x1, x3⟩) (fun W hW hz hc => get1_e _ w21.heap.size _ _ _ _ _ _ _ W hc (hW.obj (fun x => x) hc61) (by omega) (by simp; omega))) (fun v78 w76 hr77 => ?_) (fun _ _ h => h.elim) (fun _ h => h)
        obtain ⟨o75, rfl, ⟨g, la, hb1_, hto_⟩, hchg75⟩ := hr77
        have hz79 := hchg75.size
        have htt_ := hto_.code
        refine tl_val (w' := w76) rfl (do_assign rfl) (by decide) ?_
        refine tl_end ?_
        refine fun a_ ha_ => hK72 _ _ _ (T.sub (L' := [(0, .slice A lb.length c), (2, .pointer (some ⟨w.heap.size, 0, none⟩)), (3, .int .i64 0), (4, .slice A18 ((chk lb).1.length) c18), (5, .int .i64 (code o75)), (6, .pointer (some ⟨w21.heap.size, 0, none⟩)), (11, .bool (decide ((lb.length : Int) ≠ 128))), (19, .bool (decide ((((chk lb).2 : Nat) : Int) ≠ 0))), (32, .bool (decide (e_ ≠ 0)))]) ?_ (sub_cons rfl (sub_cons rfl (sub_cons rfl (sub_cons rfl (sub_cons rfl (sub_cons rfl (sub_cons rfl (sub_cons rfl (sub_cons rfl sub_nil)))))))))) a_ ha_
        refine t_seq (fun K80 hK80 => ?_)
        refine t_seq (fun K81 hK81 => ?_)
        refine t_region ?_
        refine tl_val (w' := w76) rfl (do_move rfl) (by decide) ?_
        refine tl_val (w' := w76) rfl (do_neq rfl rfl) (by decide) ?_
        refine tl_end ?_
        refine fun a_ ha_ => hK81 _ _ _ (T.sub (L' := [(0, .slice A lb.length c), (2, .pointer (some ⟨w.heap.size, 0, none⟩)), (3, .int .i64 0), (4, .slice A18 ((chk lb).1.length) c18), (5, .int .i64 (code o75)), (6, .pointer (some ⟨w21.heap.size, 0, none⟩)), (11, .bool (decide ((lb.length : Int) ≠ 128))), (19, .bool (decide ((((chk lb).2 : Nat) : Int) ≠ 0))), (32, .bool (decide (e_ ≠ 0))), (39, .bool (decide ((code o75) ≠ 0)))]) ?_ (sub_cons rfl (sub_cons rfl (sub_cons rfl (sub_cons rfl (sub_cons rfl (sub_cons rfl (sub_cons rfl (sub_cons rfl (sub_cons rfl (sub_cons rfl sub_nil))))))))))) a_ ha_
        by_cases hc82 : (code o75) ≠ 0
        · have hk83 := decide_eq_true hc82
          have hno_ := got_bad hlb_ hck_ (fun x_ hx_ hb_ => (htt_.resolve_right (fun h_ => absurd h_.1 (by omega))).2 _ _ (sec_use hlb_ hck_ hx_ hb_).2)
          refine t_yes rfl hk83 ?_
          refine t_seq (fun K84 hK84 => ?_)
          refine t_region ?_
          refine tl_val (w' := w76) rfl (do_build (vs := []) (v := .agg #[.bool false, .int .i64 0, .int .i64 0, .int .i64 0]) rfl (by kernel_rfl)) (by decide) ?_
          have h85 := (hchg75.obj (show ¬ (w.heap.size = w21.heap.size) by omega) (hb59.obj (show ¬ w.heap.size = w21.heap.size by omega) (hb54.obj (show ¬ w.heap.size = w21.heap.size by omega) (hchg46.obj (fun x => x) (hb39.obj (fun x => x) (hchg18.obj (fun x => x) hc6))))))
          refine tl_unit rfl (do_storesB (cs := [.bool false, .int .i64 0, .int .i64 0, .int .i64 0]) rfl rfl (by rfl) (by kernel_rfl) h85 (Nat.le_of_ble_eq_true rfl)) ?_
          refine tl_gen (fun w86 e87 => ?_)
          have hb88 : Chg (fun k => k = w.heap.size) w76 w86 := e87 ▸ Chg.setCells _ _ 0 [.bool false, .int .i64 0, .int .i64 0, .int .i64 0]
          have hz89 : w86.heap.size = w76.heap.size := by rw [e87]; exact sc_size _ _ _ _
          have hc90 : w86.heap[w.heap.size]? = some (.cells #[.bool false, .int .i64 0, .int .i64 0, .int .i64 0] 23 (0, 0)) := by rw [e87]; exact obj_setCells [.bool false, .int .i64 0, .int .i64 0, .int .i64 0] 0 h85
          clear e87
          refine tl_val (w' := w86) rfl (do_assign rfl) (by decide) ?_
          refine tl_end ?_
          refine fun a_ ha_ => hK84 _ _ _ (T.sub (L' := [(0, .slice A lb.length c), (2, .pointer (some ⟨w.heap.size, 0, none⟩)), (3, .int .i64 4), (4, .slice A18 ((chk lb).1.length) c18), (5, .int .i64 (code o75)), (6, .pointer (some ⟨w21.heap.size, 0, none⟩)), (11, .bool (decide ((lb.length : Int) ≠ 128))), (19, .bool (decide ((((chk lb).2 : Nat) : Int) ≠ 0))), (32, .bool (decide (e_ ≠ 0))), (39, .bool (decide ((code o75) ≠ 0)))]) ?_ (sub_cons rfl (sub_cons rfl (sub_cons rfl (sub_cons rfl (sub_cons rfl (sub_cons rfl (sub_cons rfl (sub_cons rfl (sub_cons rfl (sub_cons rfl sub_nil))))))))))) a_ ha_
          refine t_ret ?_
          refine fun a_ ha_ => hQ0 _ _ _ (body_ret (rs := [.cell 2 23, .tmp 3]) (vs := [.agg #[.bool false, .int .i64 0, .int .i64 0, .int .i64 0], .int .i64 4]) ha_ (by kernel_rfl) ⟨_, _, _, rfl, rfl, (load_whole (cs := [.bool false, .int .i64 0, .int .i64 0, .int .i64 0]) (by kernel_rfl) (obj_range hc90)), ⟨_, _, rfl, rfl, rfl⟩⟩ ?_)
          skip
          exact ⟨by rw [hno_]; rfl, (((((((((Chg.refl (fun k_ => False) w).step hb4 (fun k_ hk_ (h_ : False) => h_.elim)).step hchg18 (fun k_ hk_ (h_ : False) => h_.elim)).step hb39 (fun k_ hk_ (h_ : False) => h_.elim)).step hchg46 (fun k_ hk_ (h_ : False) => h_.elim)).step hb54 (fun k_ hk_ (h_ : k_ = w21.heap.size) => (show False by omega))).step hb59 (fun k_ hk_ (h_ : k_ = w21.heap.size) => (show False by omega))).step hchg75 (fun k_ hk_ (h_ : k_ = w21.heap.size) => (show False by omega))).step hb88 (fun k_ hk_ (h_ : k_ = w.heap.size) => (show False by omega)))⟩
        · have hk83 := decide_eq_false hc82
          obtain ⟨_, hgb_, hlab_, hT_⟩ := htt_.resolve_left (fun h_ => h_.1 (by omega))
          have hI_ := fun (x_ : Hd) => sec_is (x := x_) hlb_ hck_ hO_ hT_
          refine t_no rfl hk83 ?_
          refine t_skip ?_
          refine fun a_ ha_ => hK80 _ _ _ (T.sub (L' := [(0, .slice A lb.length c), (2, .pointer (some ⟨w.heap.size, 0, none⟩)), (3, .int .i64 0), (4, .slice A18 ((chk lb).1.length) c18), (5, .int .i64 (code o75)), (6, .pointer (some ⟨w21.heap.size, 0, none⟩)), (11, .bool (decide ((lb.length : Int) ≠ 128))), (19, .bool (decide ((((chk lb).2 : Nat) : Int) ≠ 0))), (32, .bool (decide (e_ ≠ 0))), (39, .bool (decide ((code o75) ≠ 0)))]) ?_ (sub_cons rfl (sub_cons rfl (sub_cons rfl (sub_cons rfl (sub_cons rfl (sub_cons rfl (sub_cons rfl (sub_cons rfl (sub_cons rfl (sub_cons rfl sub_nil))))))))))) a_ ha_
          refine t_seq (fun K91 hK91 => ?_)
          refine t_seq (fun K92 hK92 => ?_)
          refine t_region ?_
          refine tl_val (w' := w76) rfl (do_loads (cs := [.bool bg, .int .i64 g, .int .i64 f, .int .i64 la]) rfl (by kernel_rfl) (obj_range hb1_)) (by decide) ?_
          have h94 := (TabW.chg (TabW.chg (TabW.chg (TabW.chg (TabW.chg (TabW.chg h20 hchg18 (fun x => x)) hb39 (fun x => x)) hchg46 (fun x => x)) hb54 (show ¬ 0 = w21.heap.size by omega)) hb59 (show ¬ 0 = w21.heap.size by omega)) hchg75 (show ¬ (0 = w21.heap.size) by omega))
          refine tl_call rfl (en_call (f := 11) (by kernel_rfl) rfl) rfl (hput_e bg g f la _ h94 (by omega) (by omega) (by omega)) (fun v97 w95 hr96 => ?_) (fun _ _ h => h.elim) (fun _ h => h)
          obtain ⟨hchg93, hp93⟩ := hr96
          have hz98 := hchg93.size
          rcases hp93 with ⟨hright_, A93, c93, rfl, hrd93, ho93⟩ | ⟨hright_, rfl⟩
          · refine tl_val (w' := w95) rfl (do_move rfl) (by decide) ?_
            refine tl_val (w' := w95) rfl (do_extract (v := .slice A93 ((sector bg g f la).length) c93) rfl rfl) (by decide) ?_
            refine tl_val (w' := w95) rfl (do_extract (v := .int .i64 0) rfl rfl) (by decide) ?_
            refine tl_val (w' := w95) rfl (do_assign rfl) (by decide) ?_
            refine tl_val (w' := w95) rfl (do_assign rfl) (by decide) ?_
            refine tl_end ?_
            refine fun a_ ha_ => hK92 _ _ _ (T.sub (L' := [(0, .slice A lb.length c), (2, .pointer (some ⟨w.heap.size, 0, none⟩)), (3, .int .i64 0), (4, .slice A18 ((chk lb).1.length) c18), (5, .int .i64 (code o75)), (6, .pointer (some ⟨w21.heap.size, 0, none⟩)), (7, .slice A93 ((sector bg g f la).length) c93), (8, .int .i64 0), (11, .bool (decide ((lb.length : Int) ≠ 128))), (19, .bool (decide ((((chk lb).2 : Nat) : Int) ≠ 0))), (32, .bool (decide (e_ ≠ 0))), (39, .bool (decide ((code o75) ≠ 0)))]) ?_ (sub_cons rfl (sub_cons rfl (sub_cons rfl (sub_cons rfl (sub_cons rfl (sub_cons rfl (sub_cons rfl (sub_cons rfl (sub_cons rfl (sub_cons rfl (sub_cons rfl (sub_cons rfl sub_nil))))))))))))) a_ ha_
            refine t_seq (fun K99 hK99 => ?_)
            refine t_region ?_
            refine tl_val (w' := w95) rfl (do_move rfl) (by decide) ?_
            refine tl_val (w' := w95) rfl (do_neq rfl rfl) (by decide) ?_
            have hk100 : (decide ((0 : Int) ≠ 0)) = false := by decide
            refine tl_val (w' := w95) rfl (do_move rfl) (by decide) ?_
            refine tl_val (w' := w95) ⟨48, _, rfl, rfl, (by rw [hk100]; rfl)⟩ (do_move rfl) (by decide) ?_
            refine tl_val (w' := w95) ⟨48, _, rfl, rfl, (by rw [hk100]; rfl)⟩ (do_convert (u := .slice A93 ((sector bg g f la).length) c93) rfl (run_str hrd93)) (by decide) ?_
            refine tl_val (w' := w95) ⟨48, _, rfl, rfl, (by rw [hk100]; rfl)⟩ (do_move rfl) (by decide) ?_
            have h101 := (Rd.chg ha (Rd.chg ha (Rd.chgNe (Rd.chgNe (Rd.chg ha (Rd.chg ha (Rd.chg ha h19 hchg18 (fun _ _ x => x)) hb39 (fun _ _ x => x)) hchg46 (fun _ _ x => x)) hb54 (fun a_ h1_ h2_ => Rd.ne (cs := [.bool false, .int .i64 0, .int .i64 0, .int .i64 0]) (Rd.chg ha (Rd.chg ha (Rd.chg ha h19 hchg18 (fun _ _ x => x)) hb39 (fun _ _ x => x)) hchg46 (fun _ _ x => x)) h51 (by rfl) a_ h1_ h2_)) hb59 (fun a_ h1_ h2_ => Rd.ne (cs := [.bool bg, .int .i64 0, .int .i64 0, .int .i64 0]) (Rd.chgNe (Rd.chg ha (Rd.chg ha (Rd.chg ha h19 hchg18 (fun _ _ x => x)) hb39 (fun _ _ x => x)) hchg46 (fun _ _ x => x)) hb54 (fun a_ h1_ h2_ => Rd.ne (cs := [.bool false, .int .i64 0, .int .i64 0, .int .i64 0]) (Rd.chg ha (Rd.chg ha (Rd.chg ha h19 hchg18 (fun _ _ x => x)) hb39 (fun _ _ x => x)) hchg46 (fun _ _ x => x)) h51 (by rfl) a_ h1_ h2_)) hc56 (by rfl) a_ h1_ h2_)) hchg75 (fun k_ hk_ => show ¬ (k_ = w21.heap.size) by omega)) hchg93 (fun _ _ x => x))
            refine tl_val (w' := w95) ⟨48, _, rfl, rfl, (by rw [hk100]; rfl)⟩ (do_convert (u := .slice A lb.length c) rfl (run_str h101)) (by decide) ?_
            refine tl_val (w' := w95) ⟨48, _, rfl, rfl, (by rw [hk100]; rfl)⟩ (do_nes rfl rfl) (by decide) ?_
            refine tl_val (w' := w95) rfl (do_pick_f rfl hk100 rfl) (by decide) ?_
            refine tl_end ?_
            refine fun a_ ha_ => hK99 _ _ _ (T.sub (L' := [(0, .slice A lb.length c), (2, .pointer (some ⟨w.heap.size, 0, none⟩)), (3, .int .i64 0), (4, .slice A18 ((chk lb).1.length) c18), (5, .int .i64 (code o75)), (6, .pointer (some ⟨w21.heap.size, 0, none⟩)), (7, .slice A93 ((sector bg g f la).length) c93), (8, .int .i64 0), (11, .bool (decide ((lb.length : Int) ≠ 128))), (19, .bool (decide ((((chk lb).2 : Nat) : Int) ≠ 0))), (32, .bool (decide (e_ ≠ 0))), (39, .bool (decide ((code o75) ≠ 0))), (54, .bool (decide ((sector bg g f la) ≠ lb)))]) ?_ (sub_cons rfl (sub_cons rfl (sub_cons rfl (sub_cons rfl (sub_cons rfl (sub_cons rfl (sub_cons rfl (sub_cons rfl (sub_cons rfl (sub_cons rfl (sub_cons rfl (sub_cons rfl (sub_cons rfl sub_nil)))))))))))))) a_ ha_
            by_cases hc102 : (sector bg g f la) ≠ lb
            · have hk103 := decide_eq_true hc102
              refine t_yes rfl hk103 ?_
              refine t_seq (fun K104 hK104 => ?_)
              refine t_region ?_
              refine tl_val (w' := w95) rfl (do_build (vs := []) (v := .agg #[.bool false, .int .i64 0, .int .i64 0, .int .i64 0]) rfl (by kernel_rfl)) (by decide) ?_
              have h105 := (hchg93.obj (fun x => x) (hchg75.obj (show ¬ (w.heap.size = w21.heap.size) by omega) (hb59.obj (show ¬ w.heap.size = w21.heap.size by omega) (hb54.obj (show ¬ w.heap.size = w21.heap.size by omega) (hchg46.obj (fun x => x) (hb39.obj (fun x => x) (hchg18.obj (fun x => x) hc6)))))))
              refine tl_unit rfl (do_storesB (cs := [.bool false, .int .i64 0, .int .i64 0, .int .i64 0]) rfl rfl (by rfl) (by kernel_rfl) h105 (Nat.le_of_ble_eq_true rfl)) ?_
              refine tl_gen (fun w106 e107 => ?_)
              have hb108 : Chg (fun k => k = w.heap.size) w95 w106 := e107 ▸ Chg.setCells _ _ 0 [.bool false, .int .i64 0, .int .i64 0, .int .i64 0]
              have hz109 : w106.heap.size = w95.heap.size := by rw [e107]; exact sc_size _ _ _ _
              have hc110 : w106.heap[w.heap.size]? = some (.cells #[.bool false, .int .i64 0, .int .i64 0, .int .i64 0] 23 (0, 0)) := by rw [e107]; exact obj_setCells [.bool false, .int .i64 0, .int .i64 0, .int .i64 0] 0 h105
              clear e107
              refine tl_val (w' := w106) rfl (do_assign rfl) (by decide) ?_
              refine tl_end ?_
              refine fun a_ ha_ => hK104 _ _ _ (T.sub (L' := [(0, .slice A lb.length c), (2, .pointer (some ⟨w.heap.size, 0, none⟩)), (3, .int .i64 4), (4, .slice A18 ((chk lb).1.length) c18), (5, .int .i64 (code o75)), (6, .pointer (some ⟨w21.heap.size, 0, none⟩)), (7, .slice A93 ((sector bg g f la).length) c93), (8, .int .i64 0), (11, .bool (decide ((lb.length : Int) ≠ 128))), (19, .bool (decide ((((chk lb).2 : Nat) : Int) ≠ 0))), (32, .bool (decide (e_ ≠ 0))), (39, .bool (decide ((code o75) ≠ 0))), (54, .bool (decide ((sector bg g f la) ≠ lb)))]) ?_ (sub_cons rfl (sub_cons rfl (sub_cons rfl (sub_cons rfl (sub_cons rfl (sub_cons rfl (sub_cons rfl (sub_cons rfl (sub_cons rfl (sub_cons rfl (sub_cons rfl (sub_cons rfl (sub_cons rfl sub_nil)))))))))))))) a_ ha_
              refine t_ret ?_
              refine fun a_ ha_ => hQ0 _ _ _ (body_ret (rs := [.cell 2 23, .tmp 3]) (vs := [.agg #[.bool false, .int .i64 0, .int .i64 0, .int .i64 0], .int .i64 4]) ha_ (by kernel_rfl) ⟨_, _, _, rfl, rfl, (load_whole (cs := [.bool false, .int .i64 0, .int .i64 0, .int .i64 0]) (by kernel_rfl) (obj_range hc110)), ⟨_, _, rfl, rfl, rfl⟩⟩ ?_)
              skip
              have hno_ := got_bad hlb_ hck_ (sec_no (y := (bg, g, f, la)) hI_ (.inr hc102))
              exact ⟨by rw [hno_]; rfl, ((((((((((Chg.refl (fun k_ => False) w).step hb4 (fun k_ hk_ (h_ : False) => h_.elim)).step hchg18 (fun k_ hk_ (h_ : False) => h_.elim)).step hb39 (fun k_ hk_ (h_ : False) => h_.elim)).step hchg46 (fun k_ hk_ (h_ : False) => h_.elim)).step hb54 (fun k_ hk_ (h_ : k_ = w21.heap.size) => (show False by omega))).step hb59 (fun k_ hk_ (h_ : k_ = w21.heap.size) => (show False by omega))).step hchg75 (fun k_ hk_ (h_ : k_ = w21.heap.size) => (show False by omega))).step hchg93 (fun k_ hk_ (h_ : False) => h_.elim)).step hb108 (fun k_ hk_ (h_ : k_ = w.heap.size) => (show False by omega)))⟩
            · have hk103 := decide_eq_false hc102
              refine t_no rfl hk103 ?_
              refine t_skip ?_
              refine fun a_ ha_ => hK91 _ _ _ (T.sub (L' := [(0, .slice A lb.length c), (2, .pointer (some ⟨w.heap.size, 0, none⟩)), (3, .int .i64 0), (4, .slice A18 ((chk lb).1.length) c18), (5, .int .i64 (code o75)), (6, .pointer (some ⟨w21.heap.size, 0, none⟩)), (7, .slice A93 ((sector bg g f la).length) c93), (8, .int .i64 0), (11, .bool (decide ((lb.length : Int) ≠ 128))), (19, .bool (decide ((((chk lb).2 : Nat) : Int) ≠ 0))), (32, .bool (decide (e_ ≠ 0))), (39, .bool (decide ((code o75) ≠ 0))), (54, .bool (decide ((sector bg g f la) ≠ lb)))]) ?_ (sub_cons rfl (sub_cons rfl (sub_cons rfl (sub_cons rfl (sub_cons rfl (sub_cons rfl (sub_cons rfl (sub_cons rfl (sub_cons rfl (sub_cons rfl (sub_cons rfl (sub_cons rfl (sub_cons rfl sub_nil)))))))))))))) a_ ha_
              refine t_seq (fun K111 hK111 => ?_)
              refine t_region ?_
              have h112 := (hchg93.obj (fun x => x) hb1_)
              refine tl_val (w' := w95) rfl (do_loads (cs := [.bool bg, .int .i64 g, .int .i64 f, .int .i64 la]) rfl (by kernel_rfl) (obj_range h112)) (by decide) ?_
              have h113 := (hchg93.obj (fun x => x) (hchg75.obj (show ¬ (w.heap.size = w21.heap.size) by omega) (hb59.obj (show ¬ w.heap.size = w21.heap.size by omega) (hb54.obj (show ¬ w.heap.size = w21.heap.size by omega) (hchg46.obj (fun x => x) (hb39.obj (fun x => x) (hchg18.obj (fun x => x) hc6)))))))
              refine tl_unit rfl (do_storesB (cs := [.bool bg, .int .i64 g, .int .i64 f, .int .i64 la]) rfl rfl (by rfl) (by kernel_rfl) h113 (Nat.le_of_ble_eq_true rfl)) ?_
              refine tl_gen (fun w114 e115 => ?_)
              have hb116 : Chg (fun k => k = w.heap.size) w95 w114 := e115 ▸ Chg.setCells _ _ 0 [.bool bg, .int .i64 g, .int .i64 f, .int .i64 la]
              have hz117 : w114.heap.size = w95.heap.size := by rw [e115]; exact sc_size _ _ _ _
              have hc118 : w114.heap[w.heap.size]? = some (.cells #[.bool bg, .int .i64 g, .int .i64 f, .int .i64 la] 23 (0, 0)) := by rw [e115]; exact obj_setCells [.bool bg, .int .i64 g, .int .i64 f, .int .i64 la] 0 h113
              clear e115
              refine tl_val (w' := w114) rfl (do_assign rfl) (by decide) ?_
              refine tl_end ?_
              refine fun a_ ha_ => hK111 _ _ _ (T.sub (L' := [(0, .slice A lb.length c), (2, .pointer (some ⟨w.heap.size, 0, none⟩)), (3, .int .i64 0), (4, .slice A18 ((chk lb).1.length) c18), (5, .int .i64 (code o75)), (6, .pointer (some ⟨w21.heap.size, 0, none⟩)), (7, .slice A93 ((sector bg g f la).length) c93), (8, .int .i64 0), (11, .bool (decide ((lb.length : Int) ≠ 128))), (19, .bool (decide ((((chk lb).2 : Nat) : Int) ≠ 0))), (32, .bool (decide (e_ ≠ 0))), (39, .bool (decide ((code o75) ≠ 0))), (54, .bool (decide ((sector bg g f la) ≠ lb)))]) ?_ (sub_cons rfl (sub_cons rfl (sub_cons rfl (sub_cons rfl (sub_cons rfl (sub_cons rfl (sub_cons rfl (sub_cons rfl (sub_cons rfl (sub_cons rfl (sub_cons rfl (sub_cons rfl (sub_cons rfl sub_nil)))))))))))))) a_ ha_
              refine t_ret ?_
              refine fun a_ ha_ => hQ0 _ _ _ (body_ret (rs := [.cell 2 23, .tmp 3]) (vs := [.agg #[.bool bg, .int .i64 g, .int .i64 f, .int .i64 la], .int .i64 0]) ha_ (by kernel_rfl) ⟨_, _, _, rfl, rfl, (load_whole (cs := [.bool bg, .int .i64 g, .int .i64 f, .int .i64 la]) (by kernel_rfl) (obj_range hc118)), ⟨_, _, rfl, rfl, rfl⟩⟩ ?_)
              skip
              exact ⟨by rw [got_yes (x := (bg, g, f, la)) hright_ (Classical.not_not.1 hc102).symm]; rfl, ((((((((((Chg.refl (fun k_ => False) w).step hb4 (fun k_ hk_ (h_ : False) => h_.elim)).step hchg18 (fun k_ hk_ (h_ : False) => h_.elim)).step hb39 (fun k_ hk_ (h_ : False) => h_.elim)).step hchg46 (fun k_ hk_ (h_ : False) => h_.elim)).step hb54 (fun k_ hk_ (h_ : k_ = w21.heap.size) => (show False by omega))).step hb59 (fun k_ hk_ (h_ : k_ = w21.heap.size) => (show False by omega))).step hchg75 (fun k_ hk_ (h_ : k_ = w21.heap.size) => (show False by omega))).step hchg93 (fun k_ hk_ (h_ : False) => h_.elim)).step hb116 (fun k_ hk_ (h_ : k_ = w.heap.size) => (show False by omega)))⟩
          · refine tl_val (w' := w95) rfl (do_move rfl) (by decide) ?_
            refine tl_val (w' := w95) rfl (do_extract (v := .slice none 0 0) rfl rfl) (by decide) ?_
            refine tl_val (w' := w95) rfl (do_extract (v := .int .i64 1) rfl rfl) (by decide) ?_
            refine tl_val (w' := w95) rfl (do_assign rfl) (by decide) ?_
            refine tl_val (w' := w95) rfl (do_assign rfl) (by decide) ?_
            refine tl_end ?_
            refine fun a_ ha_ => hK92 _ _ _ (T.sub (L' := [(0, .slice A lb.length c), (2, .pointer (some ⟨w.heap.size, 0, none⟩)), (3, .int .i64 0), (4, .slice A18 ((chk lb).1.length) c18), (5, .int .i64 (code o75)), (6, .pointer (some ⟨w21.heap.size, 0, none⟩)), (7, .slice none 0 0), (8, .int .i64 1), (11, .bool (decide ((lb.length : Int) ≠ 128))), (19, .bool (decide ((((chk lb).2 : Nat) : Int) ≠ 0))), (32, .bool (decide (e_ ≠ 0))), (39, .bool (decide ((code o75) ≠ 0)))]) ?_ (sub_cons rfl (sub_cons rfl (sub_cons rfl (sub_cons rfl (sub_cons rfl (sub_cons rfl (sub_cons rfl (sub_cons rfl (sub_cons rfl (sub_cons rfl (sub_cons rfl (sub_cons rfl sub_nil))))))))))))) a_ ha_
            refine t_seq (fun K119 hK119 => ?_)
            refine t_region ?_
            refine tl_val (w' := w95) rfl (do_move rfl) (by decide) ?_
            refine tl_val (w' := w95) rfl (do_neq rfl rfl) (by decide) ?_
            have hk120 : (decide ((1 : Int) ≠ 0)) = true := by decide
            refine tl_val (w' := w95) rfl (do_move rfl) (by decide) ?_
            refine tl_skipU ⟨48, _, rfl, rfl, (by rw [hk120]; rfl)⟩ (by decide) ?_
            refine tl_skipU ⟨48, _, rfl, rfl, (by rw [hk120]; rfl)⟩ (by decide) ?_
            refine tl_skipU ⟨48, _, rfl, rfl, (by rw [hk120]; rfl)⟩ (by decide) ?_
            refine tl_skipU ⟨48, _, rfl, rfl, (by rw [hk120]; rfl)⟩ (by decide) ?_
            refine tl_skipU ⟨48, _, rfl, rfl, (by rw [hk120]; rfl)⟩ (by decide) ?_
            refine tl_val (w' := w95) rfl (do_pick_t rfl hk120 rfl) (by decide) ?_
            refine tl_end ?_
            refine fun a_ ha_ => hK119 _ _ _ (T.sub (L' := [(0, .slice A lb.length c), (2, .pointer (some ⟨w.heap.size, 0, none⟩)), (3, .int .i64 0), (4, .slice A18 ((chk lb).1.length) c18), (5, .int .i64 (code o75)), (6, .pointer (some ⟨w21.heap.size, 0, none⟩)), (7, .slice none 0 0), (8, .int .i64 1), (11, .bool (decide ((lb.length : Int) ≠ 128))), (19, .bool (decide ((((chk lb).2 : Nat) : Int) ≠ 0))), (32, .bool (decide (e_ ≠ 0))), (39, .bool (decide ((code o75) ≠ 0))), (54, .bool true)]) ?_ (sub_cons rfl (sub_cons rfl (sub_cons rfl (sub_cons rfl (sub_cons rfl (sub_cons rfl (sub_cons rfl (sub_cons rfl (sub_cons rfl (sub_cons rfl (sub_cons rfl (sub_cons rfl (sub_cons rfl sub_nil)))))))))))))) a_ ha_
            refine t_yes rfl rfl ?_
            refine t_seq (fun K121 hK121 => ?_)
            refine t_region ?_
            refine tl_val (w' := w95) rfl (do_build (vs := []) (v := .agg #[.bool false, .int .i64 0, .int .i64 0, .int .i64 0]) rfl (by kernel_rfl)) (by decide) ?_
            have h122 := (hchg93.obj (fun x => x) (hchg75.obj (show ¬ (w.heap.size = w21.heap.size) by omega) (hb59.obj (show ¬ w.heap.size = w21.heap.size by omega) (hb54.obj (show ¬ w.heap.size = w21.heap.size by omega) (hchg46.obj (fun x => x) (hb39.obj (fun x => x) (hchg18.obj (fun x => x) hc6)))))))
            refine tl_unit rfl (do_storesB (cs := [.bool false, .int .i64 0, .int .i64 0, .int .i64 0]) rfl rfl (by rfl) (by kernel_rfl) h122 (Nat.le_of_ble_eq_true rfl)) ?_
            refine tl_gen (fun w123 e124 => ?_)
            have hb125 : Chg (fun k => k = w.heap.size) w95 w123 := e124 ▸ Chg.setCells _ _ 0 [.bool false, .int .i64 0, .int .i64 0, .int .i64 0]
            have hz126 : w123.heap.size = w95.heap.size := by rw [e124]; exact sc_size _ _ _ _
            have hc127 : w123.heap[w.heap.size]? = some (.cells #[.bool false, .int .i64 0, .int .i64 0, .int .i64 0] 23 (0, 0)) := by rw [e124]; exact obj_setCells [.bool false, .int .i64 0, .int .i64 0, .int .i64 0] 0 h122
            clear e124
            refine tl_val (w' := w123) rfl (do_assign rfl) (by decide) ?_
            refine tl_end ?_
            refine fun a_ ha_ => hK121 _ _ _ (T.sub (L' := [(0, .slice A lb.length c), (2, .pointer (some ⟨w.heap.size, 0, none⟩)), (3, .int .i64 4), (4, .slice A18 ((chk lb).1.length) c18), (5, .int .i64 (code o75)), (6, .pointer (some ⟨w21.heap.size, 0, none⟩)), (7, .slice none 0 0), (8, .int .i64 1), (11, .bool (decide ((lb.length : Int) ≠ 128))), (19, .bool (decide ((((chk lb).2 : Nat) : Int) ≠ 0))), (32, .bool (decide (e_ ≠ 0))), (39, .bool (decide ((code o75) ≠ 0))), (54, .bool true)]) ?_ (sub_cons rfl (sub_cons rfl (sub_cons rfl (sub_cons rfl (sub_cons rfl (sub_cons rfl (sub_cons rfl (sub_cons rfl (sub_cons rfl (sub_cons rfl (sub_cons rfl (sub_cons rfl (sub_cons rfl sub_nil)))))))))))))) a_ ha_
            refine t_ret ?_
            refine fun a_ ha_ => hQ0 _ _ _ (body_ret (rs := [.cell 2 23, .tmp 3]) (vs := [.agg #[.bool false, .int .i64 0, .int .i64 0, .int .i64 0], .int .i64 4]) ha_ (by kernel_rfl) ⟨_, _, _, rfl, rfl, (load_whole (cs := [.bool false, .int .i64 0, .int .i64 0, .int .i64 0]) (by kernel_rfl) (obj_range hc127)), ⟨_, _, rfl, rfl, rfl⟩⟩ ?_)
            skip
            have hno_ := got_bad hlb_ hck_ (sec_no (y := (bg, g, f, la)) hI_ (.inl hright_))
            exact ⟨by rw [hno_]; rfl, ((((((((((Chg.refl (fun k_ => False) w).step hb4 (fun k_ hk_ (h_ : False) => h_.elim)).step hchg18 (fun k_ hk_ (h_ : False) => h_.elim)).step hb39 (fun k_ hk_ (h_ : False) => h_.elim)).step hchg46 (fun k_ hk_ (h_ : False) => h_.elim)).step hb54 (fun k_ hk_ (h_ : k_ = w21.heap.size) => (show False by omega))).step hb59 (fun k_ hk_ (h_ : k_ = w21.heap.size) => (show False by omega))).step hchg75 (fun k_ hk_ (h_ : k_ = w21.heap.size) => (show False by omega))).step hchg93 (fun k_ hk_ (h_ : False) => h_.elim)).step hb125 (fun k_ hk_ (h_ : k_ = w.heap.size) => (show False by omega)))⟩
end Go.Proofs.YtfmpbbeacpdalaaDoor
