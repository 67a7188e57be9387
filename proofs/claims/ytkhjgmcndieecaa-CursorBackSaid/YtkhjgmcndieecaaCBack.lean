/-
  The walk of CursorBack.
-/
import Derived.Test.YtkhjgmcndieecaaCPure
import Derived.OpenShut
set_option linter.unusedVariables false
set_option linter.unusedSimpArgs false
set_option maxRecDepth 100000
namespace Go.Proofs.Ytkhjgmcndieecaa
open Go.RowKit

def BackRel (l : List UInt8) (big : Bool) (s : Nat) (o : Except Int Unit) (x : Int) : Prop :=
  (∃ k : Nat, NumNo l 0 s big k ∧ o = .error (k : Int)) ∨ ∃ m : Nat, NumOk l 0 s big m ∧ x = m ∧ ((endA l (0 + Int.toNat s) = .ok (.tuple #[]) ∧ o = .ok ()) ∨ ∃ k : Nat, endA l (0 + Int.toNat s) = .error k ∧ o = .error (k : Int))
theorem end_no {l : List UInt8} {at_ k : Nat} (h : endA l at_ = .error k) : (k : Int) ≠ 0 := by
  unfold endA at h
  split at h <;> cases h
  decide
def BackRel2 (l : List UInt8) (big : Bool) (s : Nat) (o : Except Int Unit) (x : Int) : Prop :=
  (∃ k : Nat, k ≠ 0 ∧ o = .error (k : Int)) ∨ ∃ m : Nat, NumOk l 0 s big m ∧ x = m ∧ o = .ok ()

theorem back1_e (p q9 q10 : Nat) (A : Option Addr) (c : Nat) (l : List UInt8) (big : Bool) (s : Nat) (x : Int) (w : World) (hc : Cur w p A c l 0 big true) (h9 : w.heap[q9]? = some (.cells #[.int .i64 (s : Int)] 3 (0, 0))) (h10 : w.heap[q10]? = some (.cells #[.int .i64 x] 3 (0, 0))) (hq9 : q9 < p) (hq10 : q10 < p) :
    Calls Try.prog 16 [.pointer (some ⟨p, 0, none⟩), .pointer (some ⟨q9, 0, none⟩), .pointer (some ⟨q10, 0, none⟩)].toArray w (Rdr p (fun k => k = q10) (fun o w' => ∃ y : Int, w'.heap[q10]? = some (.cells #[.int .i64 y] 3 (0, 0)) ∧ BackRel l big s o y) w) := by
  refine enter (n := 9) (L := [(0, .pointer (some ⟨p, 0, none⟩)), (1, .pointer (some ⟨q9, 0, none⟩)), (2, .pointer (some ⟨q10, 0, none⟩))]) (args := [.pointer (some ⟨p, 0, none⟩), .pointer (some ⟨q9, 0, none⟩), .pointer (some ⟨q10, 0, none⟩)]) Try.func16 rfl rfl (Nat.le_of_ble_eq_true rfl) (by intro t v h; exact look_args h) ?_
  refine t_body (fun Q0 hB0 hQ0 => ?_)
  refine t_seq (fun K1 hK1 => ?_)
  refine t_region ?_
  refine tl_val (w' := w) rfl (do_move rfl) (by decide) ?_
  refine tl_val (w' := w) rfl (do_load (v := .int .i64 (s : Int)) rfl (by kernel_rfl) (by rw [obj_cell h9]; rfl)) (by decide) ?_
  refine tl_call rfl (en_call (f := 17) (vs := [.pointer (some ⟨p, 0, none⟩), .int .i64 (s : Int)]) (by kernel_rfl) rfl) rfl (number_e (s : Int) hc (by omega)) (fun v5 w3 hr4 => ?_) ?_ (fun _ h => h)
  · obtain ⟨m2, rfl, hnum2, hcur2, hchg2⟩ := hr4
    have hz6 := hchg2.size
    have hle2 := hnum2.2.1
    have h7 := (hchg2.obj (show ¬ q10 = p by omega) h10)
    refine tl_unit rfl (do_store (u := .int .i64 x) rfl rfl rfl (by kernel_rfl) (by rw [obj_cell h7]; rfl) (obj_frozen h7 _)) ?_
    refine tl_gen (fun w8 e9 => ?_)
    have hb10 : Chg (fun k => k = q10) w3 w8 := e9 ▸ Chg.setCell _ _ _ _
    have hz11 : w8.heap.size = w3.heap.size := by rw [e9]; simp
    have hc12 : w8.heap[q10]? = some (.cells #[.int .i64 (m2 : Int)] 3 (0, 0)) := by rw [e9]; exact obj_setCell h7
    clear e9
    refine tl_end ?_
    refine fun a_ ha_ => hK1 _ _ _ (T.sub (L' := [(0, .pointer (some ⟨p, 0, none⟩)), (1, .pointer (some ⟨q9, 0, none⟩)), (2, .pointer (some ⟨q10, 0, none⟩))]) ?_ (sub_cons rfl (sub_cons rfl (sub_cons rfl sub_nil)))) a_ ha_
    refine t_region ?_
    refine tl_val (w' := w8) rfl (do_move rfl) (by decide) ?_
    have h13 := (Cur.chg hcur2 hb10 (show ¬ p = q10 by omega) (fun a_ h1_ h2_ => Rd.ne (cs := [.int .i64 x]) (hcur2).rd h7 (by rfl) a_ h1_ h2_))
    refine tl_call rfl (en_call (f := 18) (vs := [.pointer (some ⟨p, 0, none⟩)]) (by kernel_rfl) rfl) rfl (end_e h13 (by omega)) (fun v17 w15 hr16 => ?_) ?_ (fun _ h => h)
    · obtain ⟨rfl, hend14, hcur14, hchg14⟩ := hr16
      have hz18 := hchg14.size
      refine tl_end ?_
      refine fun a_ ha_ => hQ0 _ _ _ (body_end (rs := []) (vs := []) ha_ (by kernel_rfl) rfl ?_)
      have h19 := (hchg14.obj (show ¬ q10 = p by omega) hc12)
      exact ⟨rfl, ⟨_, h19, .inr ⟨m2, hnum2, rfl, .inl ⟨hend14, rfl⟩⟩⟩, ((((Chg.refl (fun k_ => k_ = q10 ∨ k_ = p) w).step hchg2 (fun k_ hk_ (h_ : k_ = p) => (show k_ = q10 ∨ k_ = p by omega))).step hb10 (fun k_ hk_ (h_ : k_ = q10) => (show k_ = q10 ∨ k_ = p by omega))).step hchg14 (fun k_ hk_ (h_ : k_ = p) => (show k_ = q10 ∨ k_ = p by omega))), _, _, _, _, _, _, hcur14⟩
    · intro ch_ w_ h_
      refine fun a_ ha_ => hQ0 _ _ _ (body_panic ha_ ?_)
      obtain ⟨k_, rfl, hno, hcur, hchg⟩ := h_
      have h20 := (hchg.obj (show ¬ q10 = p by omega) hc12)
      exact ⟨k_, end_no hno, rfl, ⟨_, h20, .inr ⟨m2, hnum2, rfl, .inr ⟨k_, hno, rfl⟩⟩⟩, ((((Chg.refl (fun k_ => k_ = q10 ∨ k_ = p) w).step hchg2 (fun k_ hk_ (h_ : k_ = p) => (show k_ = q10 ∨ k_ = p by omega))).step hb10 (fun k_ hk_ (h_ : k_ = q10) => (show k_ = q10 ∨ k_ = p by omega))).step hchg (fun k_ hk_ (h_ : k_ = p) => (show k_ = q10 ∨ k_ = p by omega))), _, _, _, _, _, _, hcur⟩
  · intro ch_ w_ h_
    refine fun a_ ha_ => hQ0 _ _ _ (body_panic ha_ ?_)
    obtain ⟨k_, rfl, hno, hcur, hchg⟩ := h_
    have h21 := (hchg.obj (show ¬ q10 = p by omega) h10)
    exact ⟨k_, by exact_mod_cast hno.2, rfl, ⟨_, h21, .inl ⟨k_, hno, rfl⟩⟩, ((Chg.refl (fun k_ => k_ = q10 ∨ k_ = p) w).step hchg (fun k_ hk_ (h_ : k_ = p) => (show k_ = q10 ∨ k_ = p by omega))), _, _, _, _, _, _, hcur⟩
theorem back2_e (p q9 q10 : Nat) (A : Option Addr) (c : Nat) (l : List UInt8) (big : Bool) (s : Nat) (x : Int) (w : World) (hc : Cur w p A c l 0 big true) (h9 : w.heap[q9]? = some (.cells #[.int .i64 (s : Int)] 3 (0, 0))) (h10 : w.heap[q10]? = some (.cells #[.int .i64 x] 3 (0, 0))) (hq9 : q9 < p) (hq10 : q10 < p) :
    Calls Try.prog 19 [.pointer (some ⟨p, 0, none⟩), .pointer (some ⟨q9, 0, none⟩), .pointer (some ⟨q10, 0, none⟩)].toArray w (Rdr p (fun k => k = q10) (fun o w' => ∃ y : Int, w'.heap[q10]? = some (.cells #[.int .i64 y] 3 (0, 0)) ∧ BackRel2 l big s o y) w) := by
  refine enter (n := 7) (L := [(0, .pointer (some ⟨p, 0, none⟩)), (1, .pointer (some ⟨q9, 0, none⟩)), (2, .pointer (some ⟨q10, 0, none⟩))]) (args := [.pointer (some ⟨p, 0, none⟩), .pointer (some ⟨q9, 0, none⟩), .pointer (some ⟨q10, 0, none⟩)]) Try.func19 rfl rfl (Nat.le_of_ble_eq_true rfl) (by intro t v h; exact look_args h) ?_
  refine t_body (fun Q0 hB0 hQ0 => ?_)
  refine t_region ?_
  refine tl_val (w' := w) rfl (do_move rfl) (by decide) ?_
  refine tl_val (w' := w) rfl (do_load (v := .int .i64 (s : Int)) rfl (by kernel_rfl) (by rw [obj_cell h9]; rfl)) (by decide) ?_
  refine tl_call rfl (en_call (f := 17) (vs := [.pointer (some ⟨p, 0, none⟩), .int .i64 (s : Int)]) (by kernel_rfl) rfl) rfl (number_e (s : Int) hc (by omega)) (fun v4 w2 hr3 => ?_) ?_ (fun _ h => h)
  · obtain ⟨m1, rfl, hnum1, hcur1, hchg1⟩ := hr3
    have hz5 := hchg1.size
    have hle1 := hnum1.2.1
    have h6 := (hchg1.obj (show ¬ q10 = p by omega) h10)
    refine tl_unit rfl (do_store (u := .int .i64 x) rfl rfl rfl (by kernel_rfl) (by rw [obj_cell h6]; rfl) (obj_frozen h6 _)) ?_
    refine tl_gen (fun w7 e8 => ?_)
    have hb9 : Chg (fun k => k = q10) w2 w7 := e8 ▸ Chg.setCell _ _ _ _
    have hz10 : w7.heap.size = w2.heap.size := by rw [e8]; simp
    have hc11 : w7.heap[q10]? = some (.cells #[.int .i64 (m1 : Int)] 3 (0, 0)) := by rw [e8]; exact obj_setCell h6
    clear e8
    refine tl_end ?_
    refine fun a_ ha_ => hQ0 _ _ _ (body_end (rs := []) (vs := []) ha_ (by kernel_rfl) rfl ?_)
    have h12 := (Cur.chg hcur1 hb9 (show ¬ p = q10 by omega) (fun a_ h1_ h2_ => Rd.ne (cs := [.int .i64 x]) (hcur1).rd h6 (by rfl) a_ h1_ h2_))
    exact ⟨rfl, ⟨_, hc11, .inr ⟨m1, hnum1, rfl, rfl⟩⟩, (((Chg.refl (fun k_ => k_ = q10 ∨ k_ = p) w).step hchg1 (fun k_ hk_ (h_ : k_ = p) => (show k_ = q10 ∨ k_ = p by omega))).step hb9 (fun k_ hk_ (h_ : k_ = q10) => (show k_ = q10 ∨ k_ = p by omega))), _, _, _, _, _, _, h12⟩
  · intro ch_ w_ h_
    refine fun a_ ha_ => hQ0 _ _ _ (body_panic ha_ ?_)
    obtain ⟨k_, rfl, hno, hcur, hchg⟩ := h_
    have h13 := (hchg.obj (show ¬ q10 = p by omega) h10)
    exact ⟨k_, by exact_mod_cast hno.2, rfl, ⟨_, h13, .inl ⟨k_, hno.2, rfl⟩⟩, ((Chg.refl (fun k_ => k_ = q10 ∨ k_ = p) w).step hchg (fun k_ hk_ (h_ : k_ = p) => (show k_ = q10 ∨ k_ = p by omega))), _, _, _, _, _, _, hcur⟩
theorem back_first {n : Int} {s : Nat} {big : Bool} {o : Except Int Unit} {x : Int} (hs : s = 1 ∨ s = 2 ∨ s = 4 ∨ s = 8) (hn1 : n ≤ 9223372036854775807) (h : BackRel (put [] n s big) big s o x) : o = .ok () ∧ x = ((n.toNat % 256 ^ s : Nat) : Int) := by
  obtain ⟨h1, h2⟩ := told_all n s big hs hn1
  rcases h with ⟨k, hk, _⟩ | ⟨m, hm, rfl, h3⟩
  · exact (hk.not h1).elim
  · rcases h3 with ⟨_, rfl⟩ | ⟨k, hk, _⟩
    · exact ⟨rfl, hm.eq h1⟩
    · rw [h2] at hk
      cases hk
theorem back_8 {n : Int} {s : Nat} (hn1 : n ≤ 9223372036854775807) : s ≠ 8 ∨ n < 0 ∨ ((n.toNat % 256 ^ s : Nat) : Int) = n := by
  by_cases h : s = 8
  · subst h
    have : (256 : Nat) ^ 8 = 18446744073709551616 := by decide
    rw [this]
    omega
  · exact .inl h
theorem back_R {n R : Int} {s : Nat} (hs : s = 1 ∨ s = 2 ∨ s = 4 ∨ s = 8) (hR : (s = 1 ∧ R = 256) ∨ (s = 2 ∧ R = 65536) ∨ ((s = 4 ∨ s = 8) ∧ R = 4294967296)) : n < 0 ∨ R ≤ n ∨ ((n.toNat % 256 ^ s : Nat) : Int) = n := by
  have h1 : (256 : Nat) ^ 1 = 256 := by decide
  have h2 : (256 : Nat) ^ 2 = 65536 := by decide
  have h4 : (256 : Nat) ^ 4 = 4294967296 := by decide
  have h8 : (256 : Nat) ^ 8 = 18446744073709551616 := by decide
  rcases hs with rfl | rfl | rfl | rfl
  · rw [h1]
    omega
  · rw [h2]
    omega
  · rw [h4]
    omega
  · rw [h8]
    omega
theorem back_put {l : List UInt8} {s m : Nat} {big : Bool} (hs : s = 1 ∨ s = 2 ∨ s = 4 ∨ s = 8) (h : NumOk l 0 s big m) : put [] (m : Int) s big = (l.drop 0).take (s - 0) := by
  obtain ⟨_, h2, rfl, _⟩ := h
  rw [put_wide_eq _ _ _ _ (wide_of hs), List.nil_append]
  exact told_win l 0 s big (by simpa using h2)
theorem cursorBack_any (n z : Int) (big : Bool) (A0 : Option Addr) (c0 : Nat) (lb : List UInt8) (s : Nat) (R : Int) (w : World) (ha : Rd w A0 c0 lb) (hn0 : -9223372036854775808 ≤ n) (hn1 : n ≤ 9223372036854775807) (hz0 : 0 ≤ z) (hz1 : z ≤ 255)
    (hs : s = 1 ∨ s = 2 ∨ s = 4 ∨ s = 8) (hw4 : IntKind.i64.wrap (1 * 2 ^ min (z % 4).toNat IntKind.i64.bits) = (s : Int)) (hR : (s = 1 ∧ R = 256) ∨ (s = 2 ∧ R = 65536) ∨ ((s = 4 ∨ s = 8) ∧ R = 4294967296))
    (hwR : IntKind.i64.wrap (1 * 2 ^ min (8 * min (s : Int) 4).toNat IntKind.i64.bits) = R) :
    Calls Try.prog 5 [.int .i64 n, .int .u8 z, .bool big, .slice A0 lb.length c0].toArray w (Ret fun v w' => v = .bool true ∧ Chg (fun _ => False) w w') := by
  have hla := ha.len
  refine enter (n := 78) (L := [(0, .int .i64 n), (1, .int .u8 z), (2, .bool big), (3, .slice A0 lb.length c0)]) (args := [.int .i64 n, .int .u8 z, .bool big, .slice A0 lb.length c0]) Try.func5 rfl rfl (Nat.le_of_ble_eq_true rfl) (by intro t v h; exact look_args h) ?_
  refine t_body (fun Q0 hB0 hQ0 => ?_)
  refine t_seq (fun K1 hK1 => ?_)
  refine t_region ?_
  refine tl_val (w' := w) rfl (do_assign rfl) (by decide) ?_
  refine tl_end ?_
  refine fun a_ ha_ => hK1 _ _ _ (T.sub (L' := [(0, .int .i64 n), (1, .int .u8 z), (2, .bool big), (3, .slice A0 lb.length c0), (8, .bool false)]) ?_ (sub_cons rfl (sub_cons rfl (sub_cons rfl (sub_cons rfl (sub_cons rfl sub_nil)))))) a_ ha_
  refine t_seq (fun K2 hK2 => ?_)
  refine t_seq (fun K3 hK3 => ?_)
  refine t_region ?_
  refine tl_val (w' := w) rfl (do_move rfl) (by decide) ?_
  refine tl_val (w' := w) rfl (do_builtin (vs := [.slice A0 lb.length c0]) (v := .int .i64 (lb.length : Int)) rfl (fun _ _ => by kernel_rfl)) (by decide) ?_
  refine tl_val (w' := w) rfl (do_gtr rfl rfl) (by decide) ?_
  refine tl_end ?_
  refine fun a_ ha_ => hK3 _ _ _ (T.sub (L' := [(0, .int .i64 n), (1, .int .u8 z), (2, .bool big), (3, .slice A0 lb.length c0), (8, .bool false), (16, .bool (decide ((lb.length : Int) > 4000)))]) ?_ (sub_cons rfl (sub_cons rfl (sub_cons rfl (sub_cons rfl (sub_cons rfl (sub_cons rfl sub_nil))))))) a_ ha_
  by_cases hc4 : (lb.length : Int) > 4000
  · have hk5 := decide_eq_true hc4
    refine t_yes rfl hk5 ?_
    refine t_seq (fun K6 hK6 => ?_)
    refine t_region ?_
    refine tl_call rfl (en_call (f := 10) (vs := []) (by kernel_rfl) rfl) rfl (awake_e w) (fun v10 w8 hr9 => ?_) (fun _ _ h => h.elim) (fun _ h => h)
    obtain ⟨rfl, hchg7⟩ := hr9
    have hz11 := hchg7.size
    refine tl_val (w' := w8) rfl (do_assign rfl) (by decide) ?_
    refine tl_end ?_
    refine fun a_ ha_ => hK6 _ _ _ (T.sub (L' := [(0, .int .i64 n), (1, .int .u8 z), (2, .bool big), (3, .slice A0 lb.length c0), (8, .bool true), (16, .bool (decide ((lb.length : Int) > 4000)))]) ?_ (sub_cons rfl (sub_cons rfl (sub_cons rfl (sub_cons rfl (sub_cons rfl (sub_cons rfl sub_nil))))))) a_ ha_
    refine t_ret ?_
    refine fun a_ ha_ => hQ0 _ _ _ (body_ret (rs := [.tmp 8]) (vs := [.bool true]) ha_ (by kernel_rfl) ⟨_, _, rfl, rfl, rfl⟩ ?_)
    exact ⟨rfl, ((Chg.refl (fun k_ => False) w).step hchg7 (fun k_ hk_ (h_ : False) => h_.elim))⟩
  · have hk5 := decide_eq_false hc4
    refine t_no rfl hk5 ?_
    refine t_skip ?_
    refine fun a_ ha_ => hK2 _ _ _ (T.sub (L' := [(0, .int .i64 n), (1, .int .u8 z), (2, .bool big), (3, .slice A0 lb.length c0), (8, .bool false), (16, .bool (decide ((lb.length : Int) > 4000)))]) ?_ (sub_cons rfl (sub_cons rfl (sub_cons rfl (sub_cons rfl (sub_cons rfl (sub_cons rfl sub_nil))))))) a_ ha_
    refine t_seq (fun K12 hK12 => ?_)
    refine t_region ?_
    refine tl_val (w' := w) rfl (do_move rfl) (by decide) ?_
    refine tl_val (w' := w) rfl (do_rem (c := z % 4) rfl rfl (by omega) (rem_nn (by omega))) (by decide) ?_
    refine tl_val (w' := w) rfl (do_shl (c := (s : Int)) rfl rfl (by omega) hw4) (by decide) ?_
    refine tl_val rfl (do_alloc (v := .pointer (some ⟨w.heap.size, 0, none⟩)) (w' := w.alloc (.cells #[.int .i64 0] 3)) (by kernel_rfl)) (by decide) ?_
    refine tl_gen (fun w13 e14 => ?_)
    have hb15 : Chg (fun _ => False) w w13 := e14 ▸ Chg.alloc _ _
    have hz16 : w13.heap.size = w.heap.size + 1 := by rw [e14]; exact size_alloc _ _
    have hc17 : w13.heap[w.heap.size]? = some (.cells #[.int .i64 0] 3 (0, 0)) := by rw [e14]; exact obj_new _ _
    clear e14
    refine tl_unit rfl (do_store (u := .int .i64 0) rfl rfl rfl (by kernel_rfl) (by rw [obj_cell hc17]; rfl) (obj_frozen hc17 _)) ?_
    refine tl_gen (fun w18 e19 => ?_)
    have hb20 : Chg (fun k => k = w.heap.size) w13 w18 := e19 ▸ Chg.setCell _ _ _ _
    have hz21 : w18.heap.size = w13.heap.size := by rw [e19]; simp
    have hc22 : w18.heap[w.heap.size]? = some (.cells #[.int .i64 (s : Int)] 3 (0, 0)) := by rw [e19]; exact obj_setCell hc17
    clear e19
    refine tl_end ?_
    refine fun a_ ha_ => hK12 _ _ _ (T.sub (L' := [(0, .int .i64 n), (1, .int .u8 z), (2, .bool big), (3, .slice A0 lb.length c0), (8, .bool false), (9, .pointer (some ⟨w.heap.size, 0, none⟩)), (16, .bool (decide ((lb.length : Int) > 4000)))]) ?_ (sub_cons rfl (sub_cons rfl (sub_cons rfl (sub_cons rfl (sub_cons rfl (sub_cons rfl (sub_cons rfl sub_nil)))))))) a_ ha_
    refine t_seq (fun K23 hK23 => ?_)
    refine t_region ?_
    refine tl_val rfl (do_alloc (v := .pointer (some ⟨w18.heap.size, 0, none⟩)) (w' := w18.alloc (.cells #[.int .i64 0] 3)) (by kernel_rfl)) (by decide) ?_
    refine tl_gen (fun w24 e25 => ?_)
    have hb26 : Chg (fun _ => False) w18 w24 := e25 ▸ Chg.alloc _ _
    have hz27 : w24.heap.size = w18.heap.size + 1 := by rw [e25]; exact size_alloc _ _
    have hc28 : w24.heap[w18.heap.size]? = some (.cells #[.int .i64 0] 3 (0, 0)) := by rw [e25]; exact obj_new _ _
    clear e25
    refine tl_unit rfl (do_store (u := .int .i64 0) rfl rfl rfl (by kernel_rfl) (by rw [obj_cell hc28]; rfl) (obj_frozen hc28 _)) ?_
    refine tl_gen (fun w29 e30 => ?_)
    have hb31 : Chg (fun k => k = w18.heap.size) w24 w29 := e30 ▸ Chg.setCell _ _ _ _
    have hz32 : w29.heap.size = w24.heap.size := by rw [e30]; simp
    have hc33 : w29.heap[w18.heap.size]? = some (.cells #[.int .i64 0] 3 (0, 0)) := by rw [e30]; exact obj_setCell hc28
    clear e30
    refine tl_end ?_
    refine fun a_ ha_ => hK23 _ _ _ (T.sub (L' := [(0, .int .i64 n), (1, .int .u8 z), (2, .bool big), (3, .slice A0 lb.length c0), (8, .bool false), (9, .pointer (some ⟨w.heap.size, 0, none⟩)), (10, .pointer (some ⟨w18.heap.size, 0, none⟩)), (16, .bool (decide ((lb.length : Int) > 4000)))]) ?_ (sub_cons rfl (sub_cons rfl (sub_cons rfl (sub_cons rfl (sub_cons rfl (sub_cons rfl (sub_cons rfl (sub_cons rfl sub_nil))))))))) a_ ha_
    refine t_seq (fun K34 hK34 => ?_)
    refine t_region ?_
    refine tl_val (w' := w29) rfl (do_move rfl) (by decide) ?_
    have h35 := (hb31.obj (show ¬ w.heap.size = w18.heap.size by omega) (hb26.obj (fun x => x) hc22))
    refine tl_val (w' := w29) rfl (do_load (v := .int .i64 (s : Int)) rfl (by kernel_rfl) (by rw [obj_cell h35]; rfl)) (by decide) ?_
    refine tl_val (w' := w29) rfl (do_move rfl) (by decide) ?_
    refine tl_call rfl (en_call (f := 13) (vs := [.slice none 0 0, .int .i64 n, .int .i64 (s : Int), .bool big]) (by kernel_rfl) rfl) rfl (put_e n (s : Int) big (l := ([])) (Rd.nilAt _) (by first | omega | simp) (by omega) (by omega)) (fun v39 w37 hr38 => ?_) (fun _ _ h => h.elim) (fun _ h => h)
    obtain ⟨A36, c36, rfl, hrd36, hchg36⟩ := hr38
    have hz40 := hchg36.size
    refine tl_val (w' := w37) rfl (do_move rfl) (by decide) ?_
    refine tl_val (w' := w37) rfl (do_makeFunc rfl) (by decide) ?_
    have h42 := (hchg36.obj (fun x => x) h35)
    have h43 := (hchg36.obj (fun x => x) hc33)
    have hl9_41 := lt_obj h42
    have hl10_41 := lt_obj h43
    refine tl_call rfl (en_call (f := 15) (vs := [.slice A36 ((put ([]) n (s : Int) big).length) c36, .bool big, .func (.func 16) #[] #[.pointer (some ⟨w.heap.size, 0, none⟩), .pointer (some ⟨w18.heap.size, 0, none⟩)]]) (by kernel_rfl) rfl) rfl (try_e 16 #[.pointer (some ⟨w.heap.size, 0, none⟩), .pointer (some ⟨w18.heap.size, 0, none⟩)] (M := fun k_ => k_ = w18.heap.size) (fun o w' => ∃ y : Int, w'.heap[w18.heap.size]? = some (.cells #[.int .i64 y] 3 (0, 0)) ∧ BackRel (put ([]) n (s : Int) big) big s o y) hrd36 (by intro k_ h_; have h2_ : k_ = w18.heap.size := h_; omega) (by kernel_rfl) (fun o w2 w3 h_ hC => h_.imp fun y h_ => ⟨hC.obj (by omega) h_.1, h_.2⟩) (fun W hW hz hc => back1_e _ w.heap.size w18.heap.size _ _ (put ([]) n (s : Int) big) big s 0 W hc (hW.obj (fun x => x) h42) (hW.obj (fun x => x) h43) (by omega) (by omega))) (fun v46 w44 hr45 => ?_) (fun _ _ h => h.elim) (fun _ h => h)
    obtain ⟨o41, rfl, ⟨y41, hy41, hrel41⟩, hchg41⟩ := hr45
    have hz47 := hchg41.size
    obtain ⟨rfl, hv41⟩ := back_first hs hn1 hrel41
    have hv8 : s ≠ 8 ∨ n < 0 ∨ y41 = n := by rw [hv41]; exact back_8 hn1
    have hvR : n < 0 ∨ R ≤ n ∨ y41 = n := by rw [hv41]; exact back_R hs hR
    refine tl_val (w' := w44) rfl (do_assign rfl) (by decide) ?_
    refine tl_end ?_
    refine fun a_ ha_ => hK34 _ _ _ (T.sub (L' := [(0, .int .i64 n), (1, .int .u8 z), (2, .bool big), (3, .slice A0 lb.length c0), (8, .bool false), (9, .pointer (some ⟨w.heap.size, 0, none⟩)), (10, .pointer (some ⟨w18.heap.size, 0, none⟩)), (11, .int .i64 0), (16, .bool (decide ((lb.length : Int) > 4000)))]) ?_ (sub_cons rfl (sub_cons rfl (sub_cons rfl (sub_cons rfl (sub_cons rfl (sub_cons rfl (sub_cons rfl (sub_cons rfl (sub_cons rfl sub_nil)))))))))) a_ ha_
    refine t_seq (fun K48 hK48 => ?_)
    refine t_region ?_
    refine tl_val (w' := w44) rfl (do_move rfl) (by decide) ?_
    refine tl_val (w' := w44) rfl (do_geq rfl rfl) (by decide) ?_
    refine tl_val (w' := w44) rfl (do_move rfl) (by decide) ?_
    by_cases hc49 : n ≥ 0
    · have hk50 := decide_eq_true hc49
      have h51 := (hchg41.obj (show ¬ w.heap.size = w18.heap.size by omega) h42)
      refine tl_val (w' := w44) ⟨30, _, rfl, rfl, (by rw [hk50]; rfl)⟩ (do_load (v := .int .i64 (s : Int)) rfl (by kernel_rfl) (by rw [obj_cell h51]; rfl)) (by decide) ?_
      refine tl_val (w' := w44) ⟨30, _, rfl, rfl, (by rw [hk50]; rfl)⟩ (do_eql rfl rfl) (by decide) ?_
      refine tl_val (w' := w44) ⟨30, _, rfl, rfl, (by rw [hk50]; rfl)⟩ (do_move rfl) (by decide) ?_
      by_cases hc52 : (s : Int) = 8
      · have hk53 := decide_eq_true hc52
        refine tl_skipU ⟨33, _, rfl, rfl, (by rw [hk53]; rfl)⟩ (by decide) ?_
        refine tl_skipU ⟨33, _, rfl, rfl, (by rw [hk53]; rfl)⟩ (by decide) ?_
        refine tl_skipU ⟨33, _, rfl, rfl, (by rw [hk53]; rfl)⟩ (by decide) ?_
        refine tl_skipU ⟨33, _, rfl, rfl, (by rw [hk53]; rfl)⟩ (by decide) ?_
        refine tl_skipU ⟨33, _, rfl, rfl, (by rw [hk53]; rfl)⟩ (by decide) ?_
        refine tl_skipU ⟨33, _, rfl, rfl, (by rw [hk53]; rfl)⟩ (by decide) ?_
        refine tl_val (w' := w44) ⟨30, _, rfl, rfl, (by rw [hk50]; rfl)⟩ (do_pick_t rfl hk53 rfl) (by decide) ?_
        refine tl_val (w' := w44) rfl (do_pick_t rfl hk50 rfl) (by decide) ?_
        refine tl_val (w' := w44) rfl (do_assign rfl) (by decide) ?_
        refine tl_end ?_
        refine fun a_ ha_ => hK48 _ _ _ (T.sub (L' := [(0, .int .i64 n), (1, .int .u8 z), (2, .bool big), (3, .slice A0 lb.length c0), (8, .bool false), (9, .pointer (some ⟨w.heap.size, 0, none⟩)), (10, .pointer (some ⟨w18.heap.size, 0, none⟩)), (11, .int .i64 0), (12, .bool true), (16, .bool (decide ((lb.length : Int) > 4000)))]) ?_ (sub_cons rfl (sub_cons rfl (sub_cons rfl (sub_cons rfl (sub_cons rfl (sub_cons rfl (sub_cons rfl (sub_cons rfl (sub_cons rfl (sub_cons rfl sub_nil))))))))))) a_ ha_
        refine t_seq (fun K54 hK54 => ?_)
        refine t_seq (fun K55 hK55 => ?_)
        refine t_region ?_
        refine tl_val (w' := w44) rfl (do_move rfl) (by decide) ?_
        refine tl_val (w' := w44) rfl (do_neq rfl rfl) (by decide) ?_
        have hk56 : (decide ((0 : Int) ≠ 0)) = false := by decide
        refine tl_val (w' := w44) rfl (do_move rfl) (by decide) ?_
        refine tl_val (w' := w44) ⟨44, _, rfl, rfl, (by rw [hk56]; rfl)⟩ (do_move rfl) (by decide) ?_
        refine tl_val (w' := w44) ⟨44, _, rfl, rfl, (by rw [hk56]; rfl)⟩ (do_move rfl) (by decide) ?_
        refine tl_val (w' := w44) ⟨46, _, rfl, rfl, rfl⟩ (do_load (v := .int .i64 y41) rfl (by kernel_rfl) (by rw [obj_cell hy41]; rfl)) (by decide) ?_
        refine tl_val (w' := w44) ⟨46, _, rfl, rfl, rfl⟩ (do_move rfl) (by decide) ?_
        refine tl_val (w' := w44) ⟨46, _, rfl, rfl, rfl⟩ (do_neq rfl rfl) (by decide) ?_
        refine tl_val (w' := w44) ⟨44, _, rfl, rfl, (by rw [hk56]; rfl)⟩ (do_pick_t rfl rfl rfl) (by decide) ?_
        refine tl_val (w' := w44) rfl (do_pick_f rfl hk56 rfl) (by decide) ?_
        refine tl_end ?_
        refine fun a_ ha_ => hK55 _ _ _ (T.sub (L' := [(0, .int .i64 n), (1, .int .u8 z), (2, .bool big), (3, .slice A0 lb.length c0), (8, .bool false), (9, .pointer (some ⟨w.heap.size, 0, none⟩)), (10, .pointer (some ⟨w18.heap.size, 0, none⟩)), (11, .int .i64 0), (12, .bool true), (16, .bool (decide ((lb.length : Int) > 4000))), (51, .bool (decide (y41 ≠ n)))]) ?_ (sub_cons rfl (sub_cons rfl (sub_cons rfl (sub_cons rfl (sub_cons rfl (sub_cons rfl (sub_cons rfl (sub_cons rfl (sub_cons rfl (sub_cons rfl (sub_cons rfl sub_nil)))))))))))) a_ ha_
        have hk57 : (decide (y41 ≠ n)) = false := (decide_eq_false (show ¬ (y41 ≠ n) from (by omega)))
        refine t_no rfl hk57 ?_
        refine t_skip ?_
        refine fun a_ ha_ => hK54 _ _ _ (T.sub (L' := [(0, .int .i64 n), (1, .int .u8 z), (2, .bool big), (3, .slice A0 lb.length c0), (8, .bool false), (9, .pointer (some ⟨w.heap.size, 0, none⟩)), (10, .pointer (some ⟨w18.heap.size, 0, none⟩)), (11, .int .i64 0), (12, .bool true), (16, .bool (decide ((lb.length : Int) > 4000))), (51, .bool (decide (y41 ≠ n)))]) ?_ (sub_cons rfl (sub_cons rfl (sub_cons rfl (sub_cons rfl (sub_cons rfl (sub_cons rfl (sub_cons rfl (sub_cons rfl (sub_cons rfl (sub_cons rfl (sub_cons rfl sub_nil)))))))))))) a_ ha_
        refine t_seq (fun K58 hK58 => ?_)
        refine t_region ?_
        refine tl_val rfl (do_alloc (v := .pointer (some ⟨w44.heap.size, 0, none⟩)) (w' := w44.alloc (.cells #[.int .i64 0] 3)) (by kernel_rfl)) (by decide) ?_
        refine tl_gen (fun w59 e60 => ?_)
        have hb61 : Chg (fun _ => False) w44 w59 := e60 ▸ Chg.alloc _ _
        have hz62 : w59.heap.size = w44.heap.size + 1 := by rw [e60]; exact size_alloc _ _
        have hc63 : w59.heap[w44.heap.size]? = some (.cells #[.int .i64 0] 3 (0, 0)) := by rw [e60]; exact obj_new _ _
        clear e60
        refine tl_unit rfl (do_store (u := .int .i64 0) rfl rfl rfl (by kernel_rfl) (by rw [obj_cell hc63]; rfl) (obj_frozen hc63 _)) ?_
        refine tl_gen (fun w64 e65 => ?_)
        have hb66 : Chg (fun k => k = w44.heap.size) w59 w64 := e65 ▸ Chg.setCell _ _ _ _
        have hz67 : w64.heap.size = w59.heap.size := by rw [e65]; simp
        have hc68 : w64.heap[w44.heap.size]? = some (.cells #[.int .i64 0] 3 (0, 0)) := by rw [e65]; exact obj_setCell hc63
        clear e65
        refine tl_end ?_
        refine fun a_ ha_ => hK58 _ _ _ (T.sub (L' := [(0, .int .i64 n), (1, .int .u8 z), (2, .bool big), (3, .slice A0 lb.length c0), (8, .bool false), (9, .pointer (some ⟨w.heap.size, 0, none⟩)), (10, .pointer (some ⟨w18.heap.size, 0, none⟩)), (11, .int .i64 0), (12, .bool true), (13, .pointer (some ⟨w44.heap.size, 0, none⟩)), (16, .bool (decide ((lb.length : Int) > 4000))), (51, .bool (decide (y41 ≠ n)))]) ?_ (sub_cons rfl (sub_cons rfl (sub_cons rfl (sub_cons rfl (sub_cons rfl (sub_cons rfl (sub_cons rfl (sub_cons rfl (sub_cons rfl (sub_cons rfl (sub_cons rfl (sub_cons rfl sub_nil))))))))))))) a_ ha_
        refine t_seq (fun K69 hK69 => ?_)
        refine t_seq (fun K70 hK70 => ?_)
        refine t_region ?_
        refine tl_val (w' := w64) rfl (do_move rfl) (by decide) ?_
        have h72 := (Rd.chgNe (Rd.chg ha (Rd.chgNe (Rd.chg ha (Rd.chgNe (Rd.chg ha (Rd.chgNe (Rd.chg ha ha hb15 (fun _ _ x => x)) hb20 (fun a_ h1_ h2_ => Rd.ne (cs := [.int .i64 0]) (Rd.chg ha ha hb15 (fun _ _ x => x)) hc17 (by rfl) a_ h1_ h2_)) hb26 (fun _ _ x => x)) hb31 (fun a_ h1_ h2_ => Rd.ne (cs := [.int .i64 0]) (Rd.chg ha (Rd.chgNe (Rd.chg ha ha hb15 (fun _ _ x => x)) hb20 (fun a_ h1_ h2_ => Rd.ne (cs := [.int .i64 0]) (Rd.chg ha ha hb15 (fun _ _ x => x)) hc17 (by rfl) a_ h1_ h2_)) hb26 (fun _ _ x => x)) hc28 (by rfl) a_ h1_ h2_)) hchg36 (fun _ _ x => x)) hchg41 (fun a_ h1_ h2_ => Rd.ne (cs := [.int .i64 0]) (Rd.chg ha (Rd.chgNe (Rd.chg ha (Rd.chgNe (Rd.chg ha ha hb15 (fun _ _ x => x)) hb20 (fun a_ h1_ h2_ => Rd.ne (cs := [.int .i64 0]) (Rd.chg ha ha hb15 (fun _ _ x => x)) hc17 (by rfl) a_ h1_ h2_)) hb26 (fun _ _ x => x)) hb31 (fun a_ h1_ h2_ => Rd.ne (cs := [.int .i64 0]) (Rd.chg ha (Rd.chgNe (Rd.chg ha ha hb15 (fun _ _ x => x)) hb20 (fun a_ h1_ h2_ => Rd.ne (cs := [.int .i64 0]) (Rd.chg ha ha hb15 (fun _ _ x => x)) hc17 (by rfl) a_ h1_ h2_)) hb26 (fun _ _ x => x)) hc28 (by rfl) a_ h1_ h2_)) hchg36 (fun _ _ x => x)) h43 (by rfl) a_ h1_ h2_)) hb61 (fun _ _ x => x)) hb66 (fun a_ h1_ h2_ => Rd.ne (cs := [.int .i64 0]) (Rd.chg ha (Rd.chgNe (Rd.chg ha (Rd.chgNe (Rd.chg ha (Rd.chgNe (Rd.chg ha ha hb15 (fun _ _ x => x)) hb20 (fun a_ h1_ h2_ => Rd.ne (cs := [.int .i64 0]) (Rd.chg ha ha hb15 (fun _ _ x => x)) hc17 (by rfl) a_ h1_ h2_)) hb26 (fun _ _ x => x)) hb31 (fun a_ h1_ h2_ => Rd.ne (cs := [.int .i64 0]) (Rd.chg ha (Rd.chgNe (Rd.chg ha ha hb15 (fun _ _ x => x)) hb20 (fun a_ h1_ h2_ => Rd.ne (cs := [.int .i64 0]) (Rd.chg ha ha hb15 (fun _ _ x => x)) hc17 (by rfl) a_ h1_ h2_)) hb26 (fun _ _ x => x)) hc28 (by rfl) a_ h1_ h2_)) hchg36 (fun _ _ x => x)) hchg41 (fun a_ h1_ h2_ => Rd.ne (cs := [.int .i64 0]) (Rd.chg ha (Rd.chgNe (Rd.chg ha (Rd.chgNe (Rd.chg ha ha hb15 (fun _ _ x => x)) hb20 (fun a_ h1_ h2_ => Rd.ne (cs := [.int .i64 0]) (Rd.chg ha ha hb15 (fun _ _ x => x)) hc17 (by rfl) a_ h1_ h2_)) hb26 (fun _ _ x => x)) hb31 (fun a_ h1_ h2_ => Rd.ne (cs := [.int .i64 0]) (Rd.chg ha (Rd.chgNe (Rd.chg ha ha hb15 (fun _ _ x => x)) hb20 (fun a_ h1_ h2_ => Rd.ne (cs := [.int .i64 0]) (Rd.chg ha ha hb15 (fun _ _ x => x)) hc17 (by rfl) a_ h1_ h2_)) hb26 (fun _ _ x => x)) hc28 (by rfl) a_ h1_ h2_)) hchg36 (fun _ _ x => x)) h43 (by rfl) a_ h1_ h2_)) hb61 (fun _ _ x => x)) hc63 (by rfl) a_ h1_ h2_))
        refine tl_call rfl (en_call (f := 12) (vs := [.slice A0 lb.length c0]) (by kernel_rfl) rfl) rfl (own_e h72 (by omega)) (fun v75 w73 hr74 => ?_) (fun _ _ h => h.elim) (fun _ h => h)
        obtain ⟨A71, c71, rfl, hrd71, hchg71⟩ := hr74
        have hz76 := hchg71.size
        refine tl_val (w' := w73) rfl (do_move rfl) (by decide) ?_
        refine tl_val (w' := w73) rfl (do_makeFunc rfl) (by decide) ?_
        have h78 := (hchg71.obj (fun x => x) (hb66.obj (show ¬ w.heap.size = w44.heap.size by omega) (hb61.obj (fun x => x) h51)))
        have h79 := (hchg71.obj (fun x => x) hc68)
        have hl9_77 := lt_obj h78
        have hl10_77 := lt_obj h79
        refine tl_call rfl (en_call (f := 15) (vs := [.slice A71 lb.length c71, .bool big, .func (.func 19) #[] #[.pointer (some ⟨w.heap.size, 0, none⟩), .pointer (some ⟨w44.heap.size, 0, none⟩)]]) (by kernel_rfl) rfl) rfl (try_e 19 #[.pointer (some ⟨w.heap.size, 0, none⟩), .pointer (some ⟨w44.heap.size, 0, none⟩)] (M := fun k_ => k_ = w44.heap.size) (fun o w' => ∃ y : Int, w'.heap[w44.heap.size]? = some (.cells #[.int .i64 y] 3 (0, 0)) ∧ BackRel2 lb big s o y) hrd71 (by intro k_ h_; have h2_ : k_ = w44.heap.size := h_; omega) (by kernel_rfl) (fun o w2 w3 h_ hC => h_.imp fun y h_ => ⟨hC.obj (by omega) h_.1, h_.2⟩) (fun W hW hz hc => back2_e _ w.heap.size w44.heap.size _ _ lb big s 0 W hc (hW.obj (fun x => x) h78) (hW.obj (fun x => x) h79) (by omega) (by omega))) (fun v82 w80 hr81 => ?_) (fun _ _ h => h.elim) (fun _ h => h)
        obtain ⟨o77, rfl, ⟨y77, hy77, hrel77⟩, hchg77⟩ := hr81
        have hz83 := hchg77.size
        rcases hrel77 with ⟨k_, hk0_, rfl⟩ | ⟨m_, hnum_, rfl, rfl⟩
        · refine tl_val (w' := w80) rfl (do_eql rfl rfl) (by decide) ?_
          refine tl_end ?_
          refine fun a_ ha_ => hK70 _ _ _ (T.sub (L' := [(0, .int .i64 n), (1, .int .u8 z), (2, .bool big), (3, .slice A0 lb.length c0), (8, .bool false), (9, .pointer (some ⟨w.heap.size, 0, none⟩)), (10, .pointer (some ⟨w18.heap.size, 0, none⟩)), (11, .int .i64 0), (12, .bool true), (13, .pointer (some ⟨w44.heap.size, 0, none⟩)), (16, .bool (decide ((lb.length : Int) > 4000))), (51, .bool (decide (y41 ≠ n))), (57, .bool (decide ((k_ : Int) = 0)))]) ?_ (sub_cons rfl (sub_cons rfl (sub_cons rfl (sub_cons rfl (sub_cons rfl (sub_cons rfl (sub_cons rfl (sub_cons rfl (sub_cons rfl (sub_cons rfl (sub_cons rfl (sub_cons rfl (sub_cons rfl sub_nil)))))))))))))) a_ ha_
          have hk84 : (decide ((k_ : Int) = 0)) = false := (decide_eq_false (show ¬ ((k_ : Int) = 0) from (by omega)))
          refine t_no rfl hk84 ?_
          refine t_skip ?_
          refine fun a_ ha_ => hK69 _ _ _ (T.sub (L' := [(0, .int .i64 n), (1, .int .u8 z), (2, .bool big), (3, .slice A0 lb.length c0), (8, .bool false), (9, .pointer (some ⟨w.heap.size, 0, none⟩)), (10, .pointer (some ⟨w18.heap.size, 0, none⟩)), (11, .int .i64 0), (12, .bool true), (13, .pointer (some ⟨w44.heap.size, 0, none⟩)), (16, .bool (decide ((lb.length : Int) > 4000))), (51, .bool (decide (y41 ≠ n))), (57, .bool (decide ((k_ : Int) = 0)))]) ?_ (sub_cons rfl (sub_cons rfl (sub_cons rfl (sub_cons rfl (sub_cons rfl (sub_cons rfl (sub_cons rfl (sub_cons rfl (sub_cons rfl (sub_cons rfl (sub_cons rfl (sub_cons rfl (sub_cons rfl sub_nil)))))))))))))) a_ ha_
          refine t_seq (fun K85 hK85 => ?_)
          refine t_region ?_
          refine tl_call rfl (en_call (f := 10) (vs := []) (by kernel_rfl) rfl) rfl (awake_e w80) (fun v89 w87 hr88 => ?_) (fun _ _ h => h.elim) (fun _ h => h)
          obtain ⟨rfl, hchg86⟩ := hr88
          have hz90 := hchg86.size
          refine tl_val (w' := w87) rfl (do_assign rfl) (by decide) ?_
          refine tl_end ?_
          refine fun a_ ha_ => hK85 _ _ _ (T.sub (L' := [(0, .int .i64 n), (1, .int .u8 z), (2, .bool big), (3, .slice A0 lb.length c0), (8, .bool true), (9, .pointer (some ⟨w.heap.size, 0, none⟩)), (10, .pointer (some ⟨w18.heap.size, 0, none⟩)), (11, .int .i64 0), (12, .bool true), (13, .pointer (some ⟨w44.heap.size, 0, none⟩)), (16, .bool (decide ((lb.length : Int) > 4000))), (51, .bool (decide (y41 ≠ n))), (57, .bool (decide ((k_ : Int) = 0)))]) ?_ (sub_cons rfl (sub_cons rfl (sub_cons rfl (sub_cons rfl (sub_cons rfl (sub_cons rfl (sub_cons rfl (sub_cons rfl (sub_cons rfl (sub_cons rfl (sub_cons rfl (sub_cons rfl (sub_cons rfl sub_nil)))))))))))))) a_ ha_
          refine t_ret ?_
          refine fun a_ ha_ => hQ0 _ _ _ (body_ret (rs := [.tmp 8]) (vs := [.bool true]) ha_ (by kernel_rfl) ⟨_, _, rfl, rfl, rfl⟩ ?_)
          exact ⟨rfl, ((((((((((((Chg.refl (fun k_ => False) w).step hb15 (fun k_ hk_ (h_ : False) => h_.elim)).step hb20 (fun k_ hk_ (h_ : k_ = w.heap.size) => (show False by omega))).step hb26 (fun k_ hk_ (h_ : False) => h_.elim)).step hb31 (fun k_ hk_ (h_ : k_ = w18.heap.size) => (show False by omega))).step hchg36 (fun k_ hk_ (h_ : False) => h_.elim)).step hchg41 (fun k_ hk_ (h_ : k_ = w18.heap.size) => (show False by omega))).step hb61 (fun k_ hk_ (h_ : False) => h_.elim)).step hb66 (fun k_ hk_ (h_ : k_ = w44.heap.size) => (show False by omega))).step hchg71 (fun k_ hk_ (h_ : False) => h_.elim)).step hchg77 (fun k_ hk_ (h_ : k_ = w44.heap.size) => (show False by omega))).step hchg86 (fun k_ hk_ (h_ : False) => h_.elim))⟩
        · have hm1_ := hnum_.2.1
          have hm2_ := hnum_.2.2.2
          refine tl_val (w' := w80) rfl (do_eql rfl rfl) (by decide) ?_
          have hk91 : (decide ((0 : Int) = 0)) = true := by decide
          refine tl_end ?_
          refine fun a_ ha_ => hK70 _ _ _ (T.sub (L' := [(0, .int .i64 n), (1, .int .u8 z), (2, .bool big), (3, .slice A0 lb.length c0), (8, .bool false), (9, .pointer (some ⟨w.heap.size, 0, none⟩)), (10, .pointer (some ⟨w18.heap.size, 0, none⟩)), (11, .int .i64 0), (12, .bool true), (13, .pointer (some ⟨w44.heap.size, 0, none⟩)), (16, .bool (decide ((lb.length : Int) > 4000))), (51, .bool (decide (y41 ≠ n))), (57, .bool (decide ((0 : Int) = 0)))]) ?_ (sub_cons rfl (sub_cons rfl (sub_cons rfl (sub_cons rfl (sub_cons rfl (sub_cons rfl (sub_cons rfl (sub_cons rfl (sub_cons rfl (sub_cons rfl (sub_cons rfl (sub_cons rfl (sub_cons rfl sub_nil)))))))))))))) a_ ha_
          refine t_yes rfl hk91 ?_
          refine t_seq (fun K92 hK92 => ?_)
          refine t_drawnC (fun _ => False) [(true, 0, { dst := (some 58), op := (Go.Op.move (Go.Operand.tmp 3)), type := 22, pos := "law.go:152", after := #[], guard := none }), (true, 1, { dst := (some 59), op := (Go.Op.call { callee := (Go.Callee.builtin Go.Builtin.len), args := #[(Go.Operand.tmp 58)], argTypes := #[22] }), type := 3, pos := "law.go:152", after := #[{ on := 0, ground := Go.Ground.data }], guard := none }), (true, 2, { dst := (some 60), op := (Go.Op.load 3 (Go.Operand.tmp 9)), type := 3, pos := "law.go:152", after := #[], guard := none }), (true, 3, { dst := (some 61), op := (Go.Op.binOp Go.BinOp.geq 3 (Go.Operand.tmp 59) (Go.Operand.tmp 60) 3), type := 4, pos := "law.go:152", after := #[{ on := 1, ground := Go.Ground.data }, { on := 2, ground := Go.Ground.data }], guard := none }), (true, 4, { dst := (some 62), op := (Go.Op.move (Go.Operand.tmp 61)), type := 4, pos := "law.go:152", after := #[{ on := 3, ground := Go.Ground.data }], guard := none }), (true, 5, { dst := (some 63), op := (Go.Op.load 3 (Go.Operand.tmp 13)), type := 3, pos := "law.go:152", after := #[{ on := 4, ground := Go.Ground.guard }], guard := (some (4, true)) }), (true, 6, { dst := (some 64), op := (Go.Op.load 3 (Go.Operand.tmp 9)), type := 3, pos := "law.go:152", after := #[{ on := 4, ground := Go.Ground.guard }], guard := (some (4, true)) }), (true, 7, { dst := (some 65), op := (Go.Op.move (Go.Operand.tmp 2)), type := 4, pos := "law.go:152", after := #[{ on := 4, ground := Go.Ground.guard }], guard := (some (4, true)) }), (true, 10, { dst := (some 68), op := (Go.Op.move (Go.Operand.tmp 3)), type := 22, pos := "law.go:152", after := #[{ on := 4, ground := Go.Ground.guard }], guard := (some (4, true)) }), (true, 11, { dst := (some 69), op := (Go.Op.load 3 (Go.Operand.tmp 9)), type := 3, pos := "law.go:152", after := #[{ on := 4, ground := Go.Ground.guard }], guard := (some (4, true)) }), (true, 12, { dst := (some 70), op := (Go.Op.slice 22 (Go.Operand.tmp 68) none (some (Go.Operand.tmp 69)) none), type := 22, pos := "law.go:152", after := #[{ on := 10, ground := Go.Ground.data }, { on := 11, ground := Go.Ground.data }, { on := 4, ground := Go.Ground.guard }], guard := (some (4, true)) }), (true, 13, { dst := (some 71), op := (Go.Op.convert 22 9 (Go.Operand.tmp 70)), type := 9, pos := "law.go:152", after := #[{ on := 12, ground := Go.Ground.data }, { on := 4, ground := Go.Ground.guard }], guard := (some (4, true)) }), (false, 8, { dst := (some 66), op := (Go.Op.call { callee := (Go.Callee.value (Go.Operand.func 13)), args := #[(Go.Operand.const (Go.Value.slice none 0 0)), (Go.Operand.tmp 63), (Go.Operand.tmp 64), (Go.Operand.tmp 65)], argTypes := #[22, 3, 3, 4] }), type := 22, pos := "law.go:152", after := #[{ on := 5, ground := Go.Ground.data }, { on := 6, ground := Go.Ground.data }, { on := 7, ground := Go.Ground.data }, { on := 4, ground := Go.Ground.chain }, { on := 4, ground := Go.Ground.guard }], guard := (some (4, true)) }), (true, 9, { dst := (some 67), op := (Go.Op.convert 22 9 (Go.Operand.tmp 66)), type := 9, pos := "law.go:152", after := #[{ on := 8, ground := Go.Ground.data }, { on := 4, ground := Go.Ground.guard }], guard := (some (4, true)) }), (true, 14, { dst := (some 72), op := (Go.Op.binOp Go.BinOp.eql 9 (Go.Operand.tmp 67) (Go.Operand.tmp 71) 9), type := 4, pos := "law.go:152", after := #[{ on := 9, ground := Go.Ground.data }, { on := 13, ground := Go.Ground.data }, { on := 4, ground := Go.Ground.guard }], guard := (some (4, true)) }), (true, 15, { dst := (some 73), op := (Go.Op.pick (Go.Operand.tmp 62) (Go.Operand.tmp 72) (Go.Operand.const (Go.Value.bool false))), type := 4, pos := "law.go:152", after := #[{ on := 4, ground := Go.Ground.data }, { on := 14, ground := Go.Ground.data }], guard := none }), (true, 16, { dst := (some 74), op := (Go.Op.move (Go.Operand.tmp 73)), type := 4, pos := "law.go:152", after := #[{ on := 15, ground := Go.Ground.data }, { on := 8, ground := Go.Ground.chain }], guard := none }), (false, 17, { dst := (some 75), op := (Go.Op.call { callee := (Go.Callee.value (Go.Operand.func 10)), args := #[], argTypes := #[] }), type := 4, pos := "law.go:152", after := #[{ on := 16, ground := Go.Ground.chain }, { on := 16, ground := Go.Ground.guard }], guard := (some (16, true)) }), (true, 18, { dst := (some 76), op := (Go.Op.pick (Go.Operand.tmp 74) (Go.Operand.tmp 75) (Go.Operand.const (Go.Value.bool false))), type := 4, pos := "law.go:152", after := #[{ on := 16, ground := Go.Ground.data }, { on := 17, ground := Go.Ground.data }], guard := none }), (true, 19, { dst := (some 8), op := (Go.Op.assign (Go.Operand.tmp 76)), type := 4, pos := "law.go:152", after := #[{ on := 18, ground := Go.Ground.data }, { on := 17, ground := Go.Ground.chain }, { on := 0, ground := Go.Ground.phase }, { on := 1, ground := Go.Ground.phase }, { on := 2, ground := Go.Ground.phase }, { on := 3, ground := Go.Ground.phase }, { on := 4, ground := Go.Ground.phase }, { on := 5, ground := Go.Ground.phase }, { on := 6, ground := Go.Ground.phase }, { on := 7, ground := Go.Ground.phase }, { on := 8, ground := Go.Ground.phase }, { on := 9, ground := Go.Ground.phase }, { on := 10, ground := Go.Ground.phase }, { on := 11, ground := Go.Ground.phase }, { on := 12, ground := Go.Ground.phase }, { on := 13, ground := Go.Ground.phase }, { on := 14, ground := Go.Ground.phase }, { on := 15, ground := Go.Ground.phase }, { on := 16, ground := Go.Ground.phase }, { on := 17, ground := Go.Ground.phase }, { on := 18, ground := Go.Ground.phase }], guard := none })] rfl (by kernel_rfl) (by repeat (first | exact hB0 | apply blind_then | apply blind_in)) (by kernel_rfl) (by kernel_rfl) rfl (fun w93 hb94 hz95 => ?_)
          refine td_takeC rfl (by decide) (fun w_ h_ => (do_move rfl)) ?_
          refine td_takeC rfl (by decide) (fun w_ h_ => (do_builtin (vs := [.slice A0 lb.length c0]) (v := .int .i64 (lb.length : Int)) rfl (fun _ _ => by kernel_rfl))) ?_
          have h96 := (hb94.obj (fun x => x) (hchg77.obj (show ¬ w.heap.size = w44.heap.size by omega) h78))
          refine td_takeC rfl (by decide) (fun w_ h_ => (do_load (v := .int .i64 (s : Int)) rfl (by kernel_rfl) (by rw [obj_cell (h_.obj (fun x => x) h96)]; rfl))) ?_
          refine td_takeC rfl (by decide) (fun w_ h_ => (do_geq rfl rfl)) ?_
          refine td_takeC rfl (by decide) (fun w_ h_ => (do_move rfl)) ?_
          have hk97 : (decide ((lb.length : Int) ≥ (s : Int))) = true := (decide_eq_true (show (lb.length : Int) ≥ (s : Int) from (by omega)))
          have h98 := (hb94.obj (fun x => x) hy77)
          refine td_takeC ⟨62, _, rfl, rfl, (by rw [hk97]; rfl)⟩ (by decide) (fun w_ h_ => (do_load (v := .int .i64 (m_ : Int)) rfl (by kernel_rfl) (by rw [obj_cell (h_.obj (fun x => x) h98)]; rfl))) ?_
          refine td_takeC ⟨62, _, rfl, rfl, (by rw [hk97]; rfl)⟩ (by decide) (fun w_ h_ => (do_load (v := .int .i64 (s : Int)) rfl (by kernel_rfl) (by rw [obj_cell (h_.obj (fun x => x) h96)]; rfl))) ?_
          refine td_takeC ⟨62, _, rfl, rfl, (by rw [hk97]; rfl)⟩ (by decide) (fun w_ h_ => (do_move rfl)) ?_
          refine td_takeC ⟨62, _, rfl, rfl, (by rw [hk97]; rfl)⟩ (by decide) (fun w_ h_ => (do_move rfl)) ?_
          refine td_takeC ⟨62, _, rfl, rfl, (by rw [hk97]; rfl)⟩ (by decide) (fun w_ h_ => (do_load (v := .int .i64 (s : Int)) rfl (by kernel_rfl) (by rw [obj_cell (h_.obj (fun x => x) h96)]; rfl))) ?_
          have h99 := (Rd.chg ha (Rd.chgNe (Rd.chg ha h72 hchg71 (fun _ _ x => x)) hchg77 (fun a_ h1_ h2_ => Rd.ne (cs := [.int .i64 0]) (Rd.chg ha h72 hchg71 (fun _ _ x => x)) h79 (by rfl) a_ h1_ h2_)) hb94 (fun _ _ x => x))
          have hs100 := fun W => slice_rd (P := Try.prog) (t := 22) (lo := 0) (hi := s) (l' := none) (h' := (some (.int .i64 (s : Int)))) h99 (by kernel_rfl) (by omega) (by omega) (by omega) (.inl ⟨rfl, rfl⟩) (.inr ⟨_, rfl⟩) W
          refine td_takeC ⟨62, _, rfl, rfl, (by rw [hk97]; rfl)⟩ (by decide) (fun w_ h_ => (do_slice (v := .slice (sub A0 c0 0 1) (((lb.drop 0).take (s - 0)).length) (c0 - 0)) rfl rfl rfl rfl (hs100 _).1)) ?_
          refine td_takeC ⟨62, _, rfl, rfl, (by rw [hk97]; rfl)⟩ (by decide) (fun w_ h_ => (do_convert (u := .slice (sub A0 c0 0 1) (((lb.drop 0).take (s - 0)).length) (c0 - 0)) rfl (run_str (Rd.chg (hs100 w93).2 (hs100 w93).2 h_ (fun _ _ x => x))))) ?_
          refine td_callC ⟨62, _, rfl, rfl, (by rw [hk97]; rfl)⟩ rfl (en_call (f := 13) (vs := [.slice none 0 0, .int .i64 (m_ : Int), .int .i64 (s : Int), .bool big]) (by kernel_rfl) rfl) (put_e (m_ : Int) (s : Int) big (l := ([])) (Rd.nilAt _) (by first | omega | simp) (by omega) (by omega)) (fun v104 w102 hr103 => ?_) (fun _ _ h => h.elim) (fun _ h => h)
          obtain ⟨A101, c101, rfl, hrd101, hchg101⟩ := hr103
          refine ⟨hchg101.mono (fun _ _ x => x.elim), ?_⟩
          have hz105 := hchg101.size
          refine td_takeC ⟨62, _, rfl, rfl, (by rw [hk97]; rfl)⟩ (by decide) (fun w_ h_ => (do_convert (u := .slice A101 ((put ([]) (m_ : Int) (s : Int) big).length) c101) rfl (run_str (Rd.chg hrd101 hrd101 h_ (fun _ _ x => x))))) ?_
          refine td_takeC ⟨62, _, rfl, rfl, (by rw [hk97]; rfl)⟩ (by decide) (fun w_ h_ => (do_eqs rfl rfl)) ?_
          refine td_takeC rfl (by decide) (fun w_ h_ => (do_pick_t rfl hk97 rfl)) ?_
          refine td_takeC rfl (by decide) (fun w_ h_ => (do_move rfl)) ?_
          have hk106 : (decide ((put ([]) (m_ : Int) (s : Int) big) = ((lb.drop 0).take (s - 0)))) = true := (decide_eq_true (show (put ([]) (m_ : Int) (s : Int) big) = ((lb.drop 0).take (s - 0)) from (back_put hs hnum_)))
          refine td_callC ⟨74, _, rfl, rfl, (by rw [hk106]; rfl)⟩ rfl (en_call (f := 10) (vs := []) (by kernel_rfl) rfl) (awake_e w102) (fun v110 w108 hr109 => ?_) (fun _ _ h => h.elim) (fun _ h => h)
          obtain ⟨rfl, hchg107⟩ := hr109
          refine ⟨hchg107.mono (fun _ _ x => x.elim), ?_⟩
          have hz111 := hchg107.size
          refine td_takeC rfl (by decide) (fun w_ h_ => (do_pick_t rfl hk106 rfl)) ?_
          refine td_takeC rfl (by decide) (fun w_ h_ => (do_assign rfl)) ?_
          refine td_end ?_
          refine fun a_ ha_ => hK92 _ _ _ (T.sub (L' := [(0, .int .i64 n), (1, .int .u8 z), (2, .bool big), (3, .slice A0 lb.length c0), (8, .bool true), (9, .pointer (some ⟨w.heap.size, 0, none⟩)), (10, .pointer (some ⟨w18.heap.size, 0, none⟩)), (11, .int .i64 0), (12, .bool true), (13, .pointer (some ⟨w44.heap.size, 0, none⟩)), (16, .bool (decide ((lb.length : Int) > 4000))), (51, .bool (decide (y41 ≠ n))), (57, .bool (decide ((0 : Int) = 0)))]) ?_ (sub_cons rfl (sub_cons rfl (sub_cons rfl (sub_cons rfl (sub_cons rfl (sub_cons rfl (sub_cons rfl (sub_cons rfl (sub_cons rfl (sub_cons rfl (sub_cons rfl (sub_cons rfl (sub_cons rfl sub_nil)))))))))))))) a_ ha_
          refine t_ret ?_
          refine fun a_ ha_ => hQ0 _ _ _ (body_ret (rs := [.tmp 8]) (vs := [.bool true]) ha_ (by kernel_rfl) ⟨_, _, rfl, rfl, rfl⟩ ?_)
          exact ⟨rfl, ((((((((((((((Chg.refl (fun k_ => False) w).step hb15 (fun k_ hk_ (h_ : False) => h_.elim)).step hb20 (fun k_ hk_ (h_ : k_ = w.heap.size) => (show False by omega))).step hb26 (fun k_ hk_ (h_ : False) => h_.elim)).step hb31 (fun k_ hk_ (h_ : k_ = w18.heap.size) => (show False by omega))).step hchg36 (fun k_ hk_ (h_ : False) => h_.elim)).step hchg41 (fun k_ hk_ (h_ : k_ = w18.heap.size) => (show False by omega))).step hb61 (fun k_ hk_ (h_ : False) => h_.elim)).step hb66 (fun k_ hk_ (h_ : k_ = w44.heap.size) => (show False by omega))).step hchg71 (fun k_ hk_ (h_ : False) => h_.elim)).step hchg77 (fun k_ hk_ (h_ : k_ = w44.heap.size) => (show False by omega))).step hb94 (fun k_ hk_ (h_ : False) => h_.elim)).step hchg101 (fun k_ hk_ (h_ : False) => h_.elim)).step hchg107 (fun k_ hk_ (h_ : False) => h_.elim))⟩
      · have hk53 := decide_eq_false hc52
        refine tl_val (w' := w44) ⟨33, _, rfl, rfl, (by rw [hk53]; rfl)⟩ (do_move rfl) (by decide) ?_
        refine tl_val (w' := w44) ⟨33, _, rfl, rfl, (by rw [hk53]; rfl)⟩ (do_load (v := .int .i64 (s : Int)) rfl (by kernel_rfl) (by rw [obj_cell h51]; rfl)) (by decide) ?_
        refine tl_val (w' := w44) ⟨33, _, rfl, rfl, (by rw [hk53]; rfl)⟩ (do_builtin (vs := [.int .i64 (s : Int), .int .i64 4]) (v := .int .i64 (min (s : Int) 4)) rfl (fun _ _ => run_min _ _)) (by decide) ?_
        refine tl_val (w' := w44) ⟨33, _, rfl, rfl, (by rw [hk53]; rfl)⟩ (do_mul (c := 8 * (min (s : Int) 4)) rfl rfl (wrap_i64 (by omega) (by omega))) (by decide) ?_
        refine tl_val (w' := w44) ⟨33, _, rfl, rfl, (by rw [hk53]; rfl)⟩ (do_shl (c := R) rfl rfl (by omega) hwR) (by decide) ?_
        refine tl_val (w' := w44) ⟨33, _, rfl, rfl, (by rw [hk53]; rfl)⟩ (do_lss rfl rfl) (by decide) ?_
        refine tl_val (w' := w44) ⟨30, _, rfl, rfl, (by rw [hk50]; rfl)⟩ (do_pick_f rfl hk53 rfl) (by decide) ?_
        refine tl_val (w' := w44) rfl (do_pick_t rfl hk50 rfl) (by decide) ?_
        refine tl_val (w' := w44) rfl (do_assign rfl) (by decide) ?_
        refine tl_end ?_
        refine fun a_ ha_ => hK48 _ _ _ (T.sub (L' := [(0, .int .i64 n), (1, .int .u8 z), (2, .bool big), (3, .slice A0 lb.length c0), (8, .bool false), (9, .pointer (some ⟨w.heap.size, 0, none⟩)), (10, .pointer (some ⟨w18.heap.size, 0, none⟩)), (11, .int .i64 0), (12, .bool (decide (n < R))), (16, .bool (decide ((lb.length : Int) > 4000)))]) ?_ (sub_cons rfl (sub_cons rfl (sub_cons rfl (sub_cons rfl (sub_cons rfl (sub_cons rfl (sub_cons rfl (sub_cons rfl (sub_cons rfl (sub_cons rfl sub_nil))))))))))) a_ ha_
        refine t_seq (fun K112 hK112 => ?_)
        refine t_seq (fun K113 hK113 => ?_)
        refine t_region ?_
        refine tl_val (w' := w44) rfl (do_move rfl) (by decide) ?_
        refine tl_val (w' := w44) rfl (do_neq rfl rfl) (by decide) ?_
        have hk114 : (decide ((0 : Int) ≠ 0)) = false := by decide
        refine tl_val (w' := w44) rfl (do_move rfl) (by decide) ?_
        refine tl_val (w' := w44) ⟨44, _, rfl, rfl, (by rw [hk114]; rfl)⟩ (do_move rfl) (by decide) ?_
        refine tl_val (w' := w44) ⟨44, _, rfl, rfl, (by rw [hk114]; rfl)⟩ (do_move rfl) (by decide) ?_
        by_cases hc115 : n < R
        · have hk116 := decide_eq_true hc115
          refine tl_val (w' := w44) ⟨46, _, rfl, rfl, (by rw [hk116]; rfl)⟩ (do_load (v := .int .i64 y41) rfl (by kernel_rfl) (by rw [obj_cell hy41]; rfl)) (by decide) ?_
          refine tl_val (w' := w44) ⟨46, _, rfl, rfl, (by rw [hk116]; rfl)⟩ (do_move rfl) (by decide) ?_
          refine tl_val (w' := w44) ⟨46, _, rfl, rfl, (by rw [hk116]; rfl)⟩ (do_neq rfl rfl) (by decide) ?_
          refine tl_val (w' := w44) ⟨44, _, rfl, rfl, (by rw [hk114]; rfl)⟩ (do_pick_t rfl hk116 rfl) (by decide) ?_
          refine tl_val (w' := w44) rfl (do_pick_f rfl hk114 rfl) (by decide) ?_
          refine tl_end ?_
          refine fun a_ ha_ => hK113 _ _ _ (T.sub (L' := [(0, .int .i64 n), (1, .int .u8 z), (2, .bool big), (3, .slice A0 lb.length c0), (8, .bool false), (9, .pointer (some ⟨w.heap.size, 0, none⟩)), (10, .pointer (some ⟨w18.heap.size, 0, none⟩)), (11, .int .i64 0), (12, .bool (decide (n < R))), (16, .bool (decide ((lb.length : Int) > 4000))), (51, .bool (decide (y41 ≠ n)))]) ?_ (sub_cons rfl (sub_cons rfl (sub_cons rfl (sub_cons rfl (sub_cons rfl (sub_cons rfl (sub_cons rfl (sub_cons rfl (sub_cons rfl (sub_cons rfl (sub_cons rfl sub_nil)))))))))))) a_ ha_
          have hk117 : (decide (y41 ≠ n)) = false := (decide_eq_false (show ¬ (y41 ≠ n) from (by omega)))
          refine t_no rfl hk117 ?_
          refine t_skip ?_
          refine fun a_ ha_ => hK112 _ _ _ (T.sub (L' := [(0, .int .i64 n), (1, .int .u8 z), (2, .bool big), (3, .slice A0 lb.length c0), (8, .bool false), (9, .pointer (some ⟨w.heap.size, 0, none⟩)), (10, .pointer (some ⟨w18.heap.size, 0, none⟩)), (11, .int .i64 0), (12, .bool (decide (n < R))), (16, .bool (decide ((lb.length : Int) > 4000))), (51, .bool (decide (y41 ≠ n)))]) ?_ (sub_cons rfl (sub_cons rfl (sub_cons rfl (sub_cons rfl (sub_cons rfl (sub_cons rfl (sub_cons rfl (sub_cons rfl (sub_cons rfl (sub_cons rfl (sub_cons rfl sub_nil)))))))))))) a_ ha_
          refine t_seq (fun K118 hK118 => ?_)
          refine t_region ?_
          refine tl_val rfl (do_alloc (v := .pointer (some ⟨w44.heap.size, 0, none⟩)) (w' := w44.alloc (.cells #[.int .i64 0] 3)) (by kernel_rfl)) (by decide) ?_
          refine tl_gen (fun w119 e120 => ?_)
          have hb121 : Chg (fun _ => False) w44 w119 := e120 ▸ Chg.alloc _ _
          have hz122 : w119.heap.size = w44.heap.size + 1 := by rw [e120]; exact size_alloc _ _
          have hc123 : w119.heap[w44.heap.size]? = some (.cells #[.int .i64 0] 3 (0, 0)) := by rw [e120]; exact obj_new _ _
          clear e120
          refine tl_unit rfl (do_store (u := .int .i64 0) rfl rfl rfl (by kernel_rfl) (by rw [obj_cell hc123]; rfl) (obj_frozen hc123 _)) ?_
          refine tl_gen (fun w124 e125 => ?_)
          have hb126 : Chg (fun k => k = w44.heap.size) w119 w124 := e125 ▸ Chg.setCell _ _ _ _
          have hz127 : w124.heap.size = w119.heap.size := by rw [e125]; simp
          have hc128 : w124.heap[w44.heap.size]? = some (.cells #[.int .i64 0] 3 (0, 0)) := by rw [e125]; exact obj_setCell hc123
          clear e125
          refine tl_end ?_
          refine fun a_ ha_ => hK118 _ _ _ (T.sub (L' := [(0, .int .i64 n), (1, .int .u8 z), (2, .bool big), (3, .slice A0 lb.length c0), (8, .bool false), (9, .pointer (some ⟨w.heap.size, 0, none⟩)), (10, .pointer (some ⟨w18.heap.size, 0, none⟩)), (11, .int .i64 0), (12, .bool (decide (n < R))), (13, .pointer (some ⟨w44.heap.size, 0, none⟩)), (16, .bool (decide ((lb.length : Int) > 4000))), (51, .bool (decide (y41 ≠ n)))]) ?_ (sub_cons rfl (sub_cons rfl (sub_cons rfl (sub_cons rfl (sub_cons rfl (sub_cons rfl (sub_cons rfl (sub_cons rfl (sub_cons rfl (sub_cons rfl (sub_cons rfl (sub_cons rfl sub_nil))))))))))))) a_ ha_
          refine t_seq (fun K129 hK129 => ?_)
          refine t_seq (fun K130 hK130 => ?_)
          refine t_region ?_
          refine tl_val (w' := w124) rfl (do_move rfl) (by decide) ?_
          have h132 := (Rd.chgNe (Rd.chg ha (Rd.chgNe (Rd.chg ha (Rd.chgNe (Rd.chg ha (Rd.chgNe (Rd.chg ha ha hb15 (fun _ _ x => x)) hb20 (fun a_ h1_ h2_ => Rd.ne (cs := [.int .i64 0]) (Rd.chg ha ha hb15 (fun _ _ x => x)) hc17 (by rfl) a_ h1_ h2_)) hb26 (fun _ _ x => x)) hb31 (fun a_ h1_ h2_ => Rd.ne (cs := [.int .i64 0]) (Rd.chg ha (Rd.chgNe (Rd.chg ha ha hb15 (fun _ _ x => x)) hb20 (fun a_ h1_ h2_ => Rd.ne (cs := [.int .i64 0]) (Rd.chg ha ha hb15 (fun _ _ x => x)) hc17 (by rfl) a_ h1_ h2_)) hb26 (fun _ _ x => x)) hc28 (by rfl) a_ h1_ h2_)) hchg36 (fun _ _ x => x)) hchg41 (fun a_ h1_ h2_ => Rd.ne (cs := [.int .i64 0]) (Rd.chg ha (Rd.chgNe (Rd.chg ha (Rd.chgNe (Rd.chg ha ha hb15 (fun _ _ x => x)) hb20 (fun a_ h1_ h2_ => Rd.ne (cs := [.int .i64 0]) (Rd.chg ha ha hb15 (fun _ _ x => x)) hc17 (by rfl) a_ h1_ h2_)) hb26 (fun _ _ x => x)) hb31 (fun a_ h1_ h2_ => Rd.ne (cs := [.int .i64 0]) (Rd.chg ha (Rd.chgNe (Rd.chg ha ha hb15 (fun _ _ x => x)) hb20 (fun a_ h1_ h2_ => Rd.ne (cs := [.int .i64 0]) (Rd.chg ha ha hb15 (fun _ _ x => x)) hc17 (by rfl) a_ h1_ h2_)) hb26 (fun _ _ x => x)) hc28 (by rfl) a_ h1_ h2_)) hchg36 (fun _ _ x => x)) h43 (by rfl) a_ h1_ h2_)) hb121 (fun _ _ x => x)) hb126 (fun a_ h1_ h2_ => Rd.ne (cs := [.int .i64 0]) (Rd.chg ha (Rd.chgNe (Rd.chg ha (Rd.chgNe (Rd.chg ha (Rd.chgNe (Rd.chg ha ha hb15 (fun _ _ x => x)) hb20 (fun a_ h1_ h2_ => Rd.ne (cs := [.int .i64 0]) (Rd.chg ha ha hb15 (fun _ _ x => x)) hc17 (by rfl) a_ h1_ h2_)) hb26 (fun _ _ x => x)) hb31 (fun a_ h1_ h2_ => Rd.ne (cs := [.int .i64 0]) (Rd.chg ha (Rd.chgNe (Rd.chg ha ha hb15 (fun _ _ x => x)) hb20 (fun a_ h1_ h2_ => Rd.ne (cs := [.int .i64 0]) (Rd.chg ha ha hb15 (fun _ _ x => x)) hc17 (by rfl) a_ h1_ h2_)) hb26 (fun _ _ x => x)) hc28 (by rfl) a_ h1_ h2_)) hchg36 (fun _ _ x => x)) hchg41 (fun a_ h1_ h2_ => Rd.ne (cs := [.int .i64 0]) (Rd.chg ha (Rd.chgNe (Rd.chg ha (Rd.chgNe (Rd.chg ha ha hb15 (fun _ _ x => x)) hb20 (fun a_ h1_ h2_ => Rd.ne (cs := [.int .i64 0]) (Rd.chg ha ha hb15 (fun _ _ x => x)) hc17 (by rfl) a_ h1_ h2_)) hb26 (fun _ _ x => x)) hb31 (fun a_ h1_ h2_ => Rd.ne (cs := [.int .i64 0]) (Rd.chg ha (Rd.chgNe (Rd.chg ha ha hb15 (fun _ _ x => x)) hb20 (fun a_ h1_ h2_ => Rd.ne (cs := [.int .i64 0]) (Rd.chg ha ha hb15 (fun _ _ x => x)) hc17 (by rfl) a_ h1_ h2_)) hb26 (fun _ _ x => x)) hc28 (by rfl) a_ h1_ h2_)) hchg36 (fun _ _ x => x)) h43 (by rfl) a_ h1_ h2_)) hb121 (fun _ _ x => x)) hc123 (by rfl) a_ h1_ h2_))
          refine tl_call rfl (en_call (f := 12) (vs := [.slice A0 lb.length c0]) (by kernel_rfl) rfl) rfl (own_e h132 (by omega)) (fun v135 w133 hr134 => ?_) (fun _ _ h => h.elim) (fun _ h => h)
          obtain ⟨A131, c131, rfl, hrd131, hchg131⟩ := hr134
          have hz136 := hchg131.size
          refine tl_val (w' := w133) rfl (do_move rfl) (by decide) ?_
          refine tl_val (w' := w133) rfl (do_makeFunc rfl) (by decide) ?_
          have h138 := (hchg131.obj (fun x => x) (hb126.obj (show ¬ w.heap.size = w44.heap.size by omega) (hb121.obj (fun x => x) h51)))
          have h139 := (hchg131.obj (fun x => x) hc128)
          have hl9_137 := lt_obj h138
          have hl10_137 := lt_obj h139
          refine tl_call rfl (en_call (f := 15) (vs := [.slice A131 lb.length c131, .bool big, .func (.func 19) #[] #[.pointer (some ⟨w.heap.size, 0, none⟩), .pointer (some ⟨w44.heap.size, 0, none⟩)]]) (by kernel_rfl) rfl) rfl (try_e 19 #[.pointer (some ⟨w.heap.size, 0, none⟩), .pointer (some ⟨w44.heap.size, 0, none⟩)] (M := fun k_ => k_ = w44.heap.size) (fun o w' => ∃ y : Int, w'.heap[w44.heap.size]? = some (.cells #[.int .i64 y] 3 (0, 0)) ∧ BackRel2 lb big s o y) hrd131 (by intro k_ h_; have h2_ : k_ = w44.heap.size := h_; omega) (by kernel_rfl) (fun o w2 w3 h_ hC => h_.imp fun y h_ => ⟨hC.obj (by omega) h_.1, h_.2⟩) (fun W hW hz hc => back2_e _ w.heap.size w44.heap.size _ _ lb big s 0 W hc (hW.obj (fun x => x) h138) (hW.obj (fun x => x) h139) (by omega) (by omega))) (fun v142 w140 hr141 => ?_) (fun _ _ h => h.elim) (fun _ h => h)
          obtain ⟨o137, rfl, ⟨y137, hy137, hrel137⟩, hchg137⟩ := hr141
          have hz143 := hchg137.size
          rcases hrel137 with ⟨k_, hk0_, rfl⟩ | ⟨m_, hnum_, rfl, rfl⟩
          · refine tl_val (w' := w140) rfl (do_eql rfl rfl) (by decide) ?_
            refine tl_end ?_
            refine fun a_ ha_ => hK130 _ _ _ (T.sub (L' := [(0, .int .i64 n), (1, .int .u8 z), (2, .bool big), (3, .slice A0 lb.length c0), (8, .bool false), (9, .pointer (some ⟨w.heap.size, 0, none⟩)), (10, .pointer (some ⟨w18.heap.size, 0, none⟩)), (11, .int .i64 0), (12, .bool (decide (n < R))), (13, .pointer (some ⟨w44.heap.size, 0, none⟩)), (16, .bool (decide ((lb.length : Int) > 4000))), (51, .bool (decide (y41 ≠ n))), (57, .bool (decide ((k_ : Int) = 0)))]) ?_ (sub_cons rfl (sub_cons rfl (sub_cons rfl (sub_cons rfl (sub_cons rfl (sub_cons rfl (sub_cons rfl (sub_cons rfl (sub_cons rfl (sub_cons rfl (sub_cons rfl (sub_cons rfl (sub_cons rfl sub_nil)))))))))))))) a_ ha_
            have hk144 : (decide ((k_ : Int) = 0)) = false := (decide_eq_false (show ¬ ((k_ : Int) = 0) from (by omega)))
            refine t_no rfl hk144 ?_
            refine t_skip ?_
            refine fun a_ ha_ => hK129 _ _ _ (T.sub (L' := [(0, .int .i64 n), (1, .int .u8 z), (2, .bool big), (3, .slice A0 lb.length c0), (8, .bool false), (9, .pointer (some ⟨w.heap.size, 0, none⟩)), (10, .pointer (some ⟨w18.heap.size, 0, none⟩)), (11, .int .i64 0), (12, .bool (decide (n < R))), (13, .pointer (some ⟨w44.heap.size, 0, none⟩)), (16, .bool (decide ((lb.length : Int) > 4000))), (51, .bool (decide (y41 ≠ n))), (57, .bool (decide ((k_ : Int) = 0)))]) ?_ (sub_cons rfl (sub_cons rfl (sub_cons rfl (sub_cons rfl (sub_cons rfl (sub_cons rfl (sub_cons rfl (sub_cons rfl (sub_cons rfl (sub_cons rfl (sub_cons rfl (sub_cons rfl (sub_cons rfl sub_nil)))))))))))))) a_ ha_
            refine t_seq (fun K145 hK145 => ?_)
            refine t_region ?_
            refine tl_call rfl (en_call (f := 10) (vs := []) (by kernel_rfl) rfl) rfl (awake_e w140) (fun v149 w147 hr148 => ?_) (fun _ _ h => h.elim) (fun _ h => h)
            obtain ⟨rfl, hchg146⟩ := hr148
            have hz150 := hchg146.size
            refine tl_val (w' := w147) rfl (do_assign rfl) (by decide) ?_
            refine tl_end ?_
            refine fun a_ ha_ => hK145 _ _ _ (T.sub (L' := [(0, .int .i64 n), (1, .int .u8 z), (2, .bool big), (3, .slice A0 lb.length c0), (8, .bool true), (9, .pointer (some ⟨w.heap.size, 0, none⟩)), (10, .pointer (some ⟨w18.heap.size, 0, none⟩)), (11, .int .i64 0), (12, .bool (decide (n < R))), (13, .pointer (some ⟨w44.heap.size, 0, none⟩)), (16, .bool (decide ((lb.length : Int) > 4000))), (51, .bool (decide (y41 ≠ n))), (57, .bool (decide ((k_ : Int) = 0)))]) ?_ (sub_cons rfl (sub_cons rfl (sub_cons rfl (sub_cons rfl (sub_cons rfl (sub_cons rfl (sub_cons rfl (sub_cons rfl (sub_cons rfl (sub_cons rfl (sub_cons rfl (sub_cons rfl (sub_cons rfl sub_nil)))))))))))))) a_ ha_
            refine t_ret ?_
            refine fun a_ ha_ => hQ0 _ _ _ (body_ret (rs := [.tmp 8]) (vs := [.bool true]) ha_ (by kernel_rfl) ⟨_, _, rfl, rfl, rfl⟩ ?_)
            exact ⟨rfl, ((((((((((((Chg.refl (fun k_ => False) w).step hb15 (fun k_ hk_ (h_ : False) => h_.elim)).step hb20 (fun k_ hk_ (h_ : k_ = w.heap.size) => (show False by omega))).step hb26 (fun k_ hk_ (h_ : False) => h_.elim)).step hb31 (fun k_ hk_ (h_ : k_ = w18.heap.size) => (show False by omega))).step hchg36 (fun k_ hk_ (h_ : False) => h_.elim)).step hchg41 (fun k_ hk_ (h_ : k_ = w18.heap.size) => (show False by omega))).step hb121 (fun k_ hk_ (h_ : False) => h_.elim)).step hb126 (fun k_ hk_ (h_ : k_ = w44.heap.size) => (show False by omega))).step hchg131 (fun k_ hk_ (h_ : False) => h_.elim)).step hchg137 (fun k_ hk_ (h_ : k_ = w44.heap.size) => (show False by omega))).step hchg146 (fun k_ hk_ (h_ : False) => h_.elim))⟩
          · have hm1_ := hnum_.2.1
            have hm2_ := hnum_.2.2.2
            refine tl_val (w' := w140) rfl (do_eql rfl rfl) (by decide) ?_
            have hk151 : (decide ((0 : Int) = 0)) = true := by decide
            refine tl_end ?_
            refine fun a_ ha_ => hK130 _ _ _ (T.sub (L' := [(0, .int .i64 n), (1, .int .u8 z), (2, .bool big), (3, .slice A0 lb.length c0), (8, .bool false), (9, .pointer (some ⟨w.heap.size, 0, none⟩)), (10, .pointer (some ⟨w18.heap.size, 0, none⟩)), (11, .int .i64 0), (12, .bool (decide (n < R))), (13, .pointer (some ⟨w44.heap.size, 0, none⟩)), (16, .bool (decide ((lb.length : Int) > 4000))), (51, .bool (decide (y41 ≠ n))), (57, .bool (decide ((0 : Int) = 0)))]) ?_ (sub_cons rfl (sub_cons rfl (sub_cons rfl (sub_cons rfl (sub_cons rfl (sub_cons rfl (sub_cons rfl (sub_cons rfl (sub_cons rfl (sub_cons rfl (sub_cons rfl (sub_cons rfl (sub_cons rfl sub_nil)))))))))))))) a_ ha_
            refine t_yes rfl hk151 ?_
            refine t_seq (fun K152 hK152 => ?_)
            refine t_drawnC (fun _ => False) [(true, 0, { dst := (some 58), op := (Go.Op.move (Go.Operand.tmp 3)), type := 22, pos := "law.go:152", after := #[], guard := none }), (true, 1, { dst := (some 59), op := (Go.Op.call { callee := (Go.Callee.builtin Go.Builtin.len), args := #[(Go.Operand.tmp 58)], argTypes := #[22] }), type := 3, pos := "law.go:152", after := #[{ on := 0, ground := Go.Ground.data }], guard := none }), (true, 2, { dst := (some 60), op := (Go.Op.load 3 (Go.Operand.tmp 9)), type := 3, pos := "law.go:152", after := #[], guard := none }), (true, 3, { dst := (some 61), op := (Go.Op.binOp Go.BinOp.geq 3 (Go.Operand.tmp 59) (Go.Operand.tmp 60) 3), type := 4, pos := "law.go:152", after := #[{ on := 1, ground := Go.Ground.data }, { on := 2, ground := Go.Ground.data }], guard := none }), (true, 4, { dst := (some 62), op := (Go.Op.move (Go.Operand.tmp 61)), type := 4, pos := "law.go:152", after := #[{ on := 3, ground := Go.Ground.data }], guard := none }), (true, 5, { dst := (some 63), op := (Go.Op.load 3 (Go.Operand.tmp 13)), type := 3, pos := "law.go:152", after := #[{ on := 4, ground := Go.Ground.guard }], guard := (some (4, true)) }), (true, 6, { dst := (some 64), op := (Go.Op.load 3 (Go.Operand.tmp 9)), type := 3, pos := "law.go:152", after := #[{ on := 4, ground := Go.Ground.guard }], guard := (some (4, true)) }), (true, 7, { dst := (some 65), op := (Go.Op.move (Go.Operand.tmp 2)), type := 4, pos := "law.go:152", after := #[{ on := 4, ground := Go.Ground.guard }], guard := (some (4, true)) }), (true, 10, { dst := (some 68), op := (Go.Op.move (Go.Operand.tmp 3)), type := 22, pos := "law.go:152", after := #[{ on := 4, ground := Go.Ground.guard }], guard := (some (4, true)) }), (true, 11, { dst := (some 69), op := (Go.Op.load 3 (Go.Operand.tmp 9)), type := 3, pos := "law.go:152", after := #[{ on := 4, ground := Go.Ground.guard }], guard := (some (4, true)) }), (true, 12, { dst := (some 70), op := (Go.Op.slice 22 (Go.Operand.tmp 68) none (some (Go.Operand.tmp 69)) none), type := 22, pos := "law.go:152", after := #[{ on := 10, ground := Go.Ground.data }, { on := 11, ground := Go.Ground.data }, { on := 4, ground := Go.Ground.guard }], guard := (some (4, true)) }), (true, 13, { dst := (some 71), op := (Go.Op.convert 22 9 (Go.Operand.tmp 70)), type := 9, pos := "law.go:152", after := #[{ on := 12, ground := Go.Ground.data }, { on := 4, ground := Go.Ground.guard }], guard := (some (4, true)) }), (false, 8, { dst := (some 66), op := (Go.Op.call { callee := (Go.Callee.value (Go.Operand.func 13)), args := #[(Go.Operand.const (Go.Value.slice none 0 0)), (Go.Operand.tmp 63), (Go.Operand.tmp 64), (Go.Operand.tmp 65)], argTypes := #[22, 3, 3, 4] }), type := 22, pos := "law.go:152", after := #[{ on := 5, ground := Go.Ground.data }, { on := 6, ground := Go.Ground.data }, { on := 7, ground := Go.Ground.data }, { on := 4, ground := Go.Ground.chain }, { on := 4, ground := Go.Ground.guard }], guard := (some (4, true)) }), (true, 9, { dst := (some 67), op := (Go.Op.convert 22 9 (Go.Operand.tmp 66)), type := 9, pos := "law.go:152", after := #[{ on := 8, ground := Go.Ground.data }, { on := 4, ground := Go.Ground.guard }], guard := (some (4, true)) }), (true, 14, { dst := (some 72), op := (Go.Op.binOp Go.BinOp.eql 9 (Go.Operand.tmp 67) (Go.Operand.tmp 71) 9), type := 4, pos := "law.go:152", after := #[{ on := 9, ground := Go.Ground.data }, { on := 13, ground := Go.Ground.data }, { on := 4, ground := Go.Ground.guard }], guard := (some (4, true)) }), (true, 15, { dst := (some 73), op := (Go.Op.pick (Go.Operand.tmp 62) (Go.Operand.tmp 72) (Go.Operand.const (Go.Value.bool false))), type := 4, pos := "law.go:152", after := #[{ on := 4, ground := Go.Ground.data }, { on := 14, ground := Go.Ground.data }], guard := none }), (true, 16, { dst := (some 74), op := (Go.Op.move (Go.Operand.tmp 73)), type := 4, pos := "law.go:152", after := #[{ on := 15, ground := Go.Ground.data }, { on := 8, ground := Go.Ground.chain }], guard := none }), (false, 17, { dst := (some 75), op := (Go.Op.call { callee := (Go.Callee.value (Go.Operand.func 10)), args := #[], argTypes := #[] }), type := 4, pos := "law.go:152", after := #[{ on := 16, ground := Go.Ground.chain }, { on := 16, ground := Go.Ground.guard }], guard := (some (16, true)) }), (true, 18, { dst := (some 76), op := (Go.Op.pick (Go.Operand.tmp 74) (Go.Operand.tmp 75) (Go.Operand.const (Go.Value.bool false))), type := 4, pos := "law.go:152", after := #[{ on := 16, ground := Go.Ground.data }, { on := 17, ground := Go.Ground.data }], guard := none }), (true, 19, { dst := (some 8), op := (Go.Op.assign (Go.Operand.tmp 76)), type := 4, pos := "law.go:152", after := #[{ on := 18, ground := Go.Ground.data }, { on := 17, ground := Go.Ground.chain }, { on := 0, ground := Go.Ground.phase }, { on := 1, ground := Go.Ground.phase }, { on := 2, ground := Go.Ground.phase }, { on := 3, ground := Go.Ground.phase }, { on := 4, ground := Go.Ground.phase }, { on := 5, ground := Go.Ground.phase }, { on := 6, ground := Go.Ground.phase }, { on := 7, ground := Go.Ground.phase }, { on := 8, ground := Go.Ground.phase }, { on := 9, ground := Go.Ground.phase }, { on := 10, ground := Go.Ground.phase }, { on := 11, ground := Go.Ground.phase }, { on := 12, ground := Go.Ground.phase }, { on := 13, ground := Go.Ground.phase }, { on := 14, ground := Go.Ground.phase }, { on := 15, ground := Go.Ground.phase }, { on := 16, ground := Go.Ground.phase }, { on := 17, ground := Go.Ground.phase }, { on := 18, ground := Go.Ground.phase }], guard := none })] rfl (by kernel_rfl) (by repeat (first | exact hB0 | apply blind_then | apply blind_in)) (by kernel_rfl) (by kernel_rfl) rfl (fun w153 hb154 hz155 => ?_)
            refine td_takeC rfl (by decide) (fun w_ h_ => (do_move rfl)) ?_
            refine td_takeC rfl (by decide) (fun w_ h_ => (do_builtin (vs := [.slice A0 lb.length c0]) (v := .int .i64 (lb.length : Int)) rfl (fun _ _ => by kernel_rfl))) ?_
            have h156 := (hb154.obj (fun x => x) (hchg137.obj (show ¬ w.heap.size = w44.heap.size by omega) h138))
            refine td_takeC rfl (by decide) (fun w_ h_ => (do_load (v := .int .i64 (s : Int)) rfl (by kernel_rfl) (by rw [obj_cell (h_.obj (fun x => x) h156)]; rfl))) ?_
            refine td_takeC rfl (by decide) (fun w_ h_ => (do_geq rfl rfl)) ?_
            refine td_takeC rfl (by decide) (fun w_ h_ => (do_move rfl)) ?_
            have hk157 : (decide ((lb.length : Int) ≥ (s : Int))) = true := (decide_eq_true (show (lb.length : Int) ≥ (s : Int) from (by omega)))
            have h158 := (hb154.obj (fun x => x) hy137)
            refine td_takeC ⟨62, _, rfl, rfl, (by rw [hk157]; rfl)⟩ (by decide) (fun w_ h_ => (do_load (v := .int .i64 (m_ : Int)) rfl (by kernel_rfl) (by rw [obj_cell (h_.obj (fun x => x) h158)]; rfl))) ?_
            refine td_takeC ⟨62, _, rfl, rfl, (by rw [hk157]; rfl)⟩ (by decide) (fun w_ h_ => (do_load (v := .int .i64 (s : Int)) rfl (by kernel_rfl) (by rw [obj_cell (h_.obj (fun x => x) h156)]; rfl))) ?_
            refine td_takeC ⟨62, _, rfl, rfl, (by rw [hk157]; rfl)⟩ (by decide) (fun w_ h_ => (do_move rfl)) ?_
            refine td_takeC ⟨62, _, rfl, rfl, (by rw [hk157]; rfl)⟩ (by decide) (fun w_ h_ => (do_move rfl)) ?_
            refine td_takeC ⟨62, _, rfl, rfl, (by rw [hk157]; rfl)⟩ (by decide) (fun w_ h_ => (do_load (v := .int .i64 (s : Int)) rfl (by kernel_rfl) (by rw [obj_cell (h_.obj (fun x => x) h156)]; rfl))) ?_
            have h159 := (Rd.chg ha (Rd.chgNe (Rd.chg ha h132 hchg131 (fun _ _ x => x)) hchg137 (fun a_ h1_ h2_ => Rd.ne (cs := [.int .i64 0]) (Rd.chg ha h132 hchg131 (fun _ _ x => x)) h139 (by rfl) a_ h1_ h2_)) hb154 (fun _ _ x => x))
            have hs160 := fun W => slice_rd (P := Try.prog) (t := 22) (lo := 0) (hi := s) (l' := none) (h' := (some (.int .i64 (s : Int)))) h159 (by kernel_rfl) (by omega) (by omega) (by omega) (.inl ⟨rfl, rfl⟩) (.inr ⟨_, rfl⟩) W
            refine td_takeC ⟨62, _, rfl, rfl, (by rw [hk157]; rfl)⟩ (by decide) (fun w_ h_ => (do_slice (v := .slice (sub A0 c0 0 1) (((lb.drop 0).take (s - 0)).length) (c0 - 0)) rfl rfl rfl rfl (hs160 _).1)) ?_
            refine td_takeC ⟨62, _, rfl, rfl, (by rw [hk157]; rfl)⟩ (by decide) (fun w_ h_ => (do_convert (u := .slice (sub A0 c0 0 1) (((lb.drop 0).take (s - 0)).length) (c0 - 0)) rfl (run_str (Rd.chg (hs160 w153).2 (hs160 w153).2 h_ (fun _ _ x => x))))) ?_
            refine td_callC ⟨62, _, rfl, rfl, (by rw [hk157]; rfl)⟩ rfl (en_call (f := 13) (vs := [.slice none 0 0, .int .i64 (m_ : Int), .int .i64 (s : Int), .bool big]) (by kernel_rfl) rfl) (put_e (m_ : Int) (s : Int) big (l := ([])) (Rd.nilAt _) (by first | omega | simp) (by omega) (by omega)) (fun v164 w162 hr163 => ?_) (fun _ _ h => h.elim) (fun _ h => h)
            obtain ⟨A161, c161, rfl, hrd161, hchg161⟩ := hr163
            refine ⟨hchg161.mono (fun _ _ x => x.elim), ?_⟩
            have hz165 := hchg161.size
            refine td_takeC ⟨62, _, rfl, rfl, (by rw [hk157]; rfl)⟩ (by decide) (fun w_ h_ => (do_convert (u := .slice A161 ((put ([]) (m_ : Int) (s : Int) big).length) c161) rfl (run_str (Rd.chg hrd161 hrd161 h_ (fun _ _ x => x))))) ?_
            refine td_takeC ⟨62, _, rfl, rfl, (by rw [hk157]; rfl)⟩ (by decide) (fun w_ h_ => (do_eqs rfl rfl)) ?_
            refine td_takeC rfl (by decide) (fun w_ h_ => (do_pick_t rfl hk157 rfl)) ?_
            refine td_takeC rfl (by decide) (fun w_ h_ => (do_move rfl)) ?_
            have hk166 : (decide ((put ([]) (m_ : Int) (s : Int) big) = ((lb.drop 0).take (s - 0)))) = true := (decide_eq_true (show (put ([]) (m_ : Int) (s : Int) big) = ((lb.drop 0).take (s - 0)) from (back_put hs hnum_)))
            refine td_callC ⟨74, _, rfl, rfl, (by rw [hk166]; rfl)⟩ rfl (en_call (f := 10) (vs := []) (by kernel_rfl) rfl) (awake_e w162) (fun v170 w168 hr169 => ?_) (fun _ _ h => h.elim) (fun _ h => h)
            obtain ⟨rfl, hchg167⟩ := hr169
            refine ⟨hchg167.mono (fun _ _ x => x.elim), ?_⟩
            have hz171 := hchg167.size
            refine td_takeC rfl (by decide) (fun w_ h_ => (do_pick_t rfl hk166 rfl)) ?_
            refine td_takeC rfl (by decide) (fun w_ h_ => (do_assign rfl)) ?_
            refine td_end ?_
            refine fun a_ ha_ => hK152 _ _ _ (T.sub (L' := [(0, .int .i64 n), (1, .int .u8 z), (2, .bool big), (3, .slice A0 lb.length c0), (8, .bool true), (9, .pointer (some ⟨w.heap.size, 0, none⟩)), (10, .pointer (some ⟨w18.heap.size, 0, none⟩)), (11, .int .i64 0), (12, .bool (decide (n < R))), (13, .pointer (some ⟨w44.heap.size, 0, none⟩)), (16, .bool (decide ((lb.length : Int) > 4000))), (51, .bool (decide (y41 ≠ n))), (57, .bool (decide ((0 : Int) = 0)))]) ?_ (sub_cons rfl (sub_cons rfl (sub_cons rfl (sub_cons rfl (sub_cons rfl (sub_cons rfl (sub_cons rfl (sub_cons rfl (sub_cons rfl (sub_cons rfl (sub_cons rfl (sub_cons rfl (sub_cons rfl sub_nil)))))))))))))) a_ ha_
            refine t_ret ?_
            refine fun a_ ha_ => hQ0 _ _ _ (body_ret (rs := [.tmp 8]) (vs := [.bool true]) ha_ (by kernel_rfl) ⟨_, _, rfl, rfl, rfl⟩ ?_)
            exact ⟨rfl, ((((((((((((((Chg.refl (fun k_ => False) w).step hb15 (fun k_ hk_ (h_ : False) => h_.elim)).step hb20 (fun k_ hk_ (h_ : k_ = w.heap.size) => (show False by omega))).step hb26 (fun k_ hk_ (h_ : False) => h_.elim)).step hb31 (fun k_ hk_ (h_ : k_ = w18.heap.size) => (show False by omega))).step hchg36 (fun k_ hk_ (h_ : False) => h_.elim)).step hchg41 (fun k_ hk_ (h_ : k_ = w18.heap.size) => (show False by omega))).step hb121 (fun k_ hk_ (h_ : False) => h_.elim)).step hb126 (fun k_ hk_ (h_ : k_ = w44.heap.size) => (show False by omega))).step hchg131 (fun k_ hk_ (h_ : False) => h_.elim)).step hchg137 (fun k_ hk_ (h_ : k_ = w44.heap.size) => (show False by omega))).step hb154 (fun k_ hk_ (h_ : False) => h_.elim)).step hchg161 (fun k_ hk_ (h_ : False) => h_.elim)).step hchg167 (fun k_ hk_ (h_ : False) => h_.elim))⟩
        · have hk116 := decide_eq_false hc115
          refine tl_skipU ⟨46, _, rfl, rfl, (by rw [hk116]; rfl)⟩ (by decide) ?_
          refine tl_skipU ⟨46, _, rfl, rfl, (by rw [hk116]; rfl)⟩ (by decide) ?_
          refine tl_skipU ⟨46, _, rfl, rfl, (by rw [hk116]; rfl)⟩ (by decide) ?_
          refine tl_val (w' := w44) ⟨44, _, rfl, rfl, (by rw [hk114]; rfl)⟩ (do_pick_f rfl hk116 rfl) (by decide) ?_
          refine tl_val (w' := w44) rfl (do_pick_f rfl hk114 rfl) (by decide) ?_
          refine tl_end ?_
          refine fun a_ ha_ => hK113 _ _ _ (T.sub (L' := [(0, .int .i64 n), (1, .int .u8 z), (2, .bool big), (3, .slice A0 lb.length c0), (8, .bool false), (9, .pointer (some ⟨w.heap.size, 0, none⟩)), (10, .pointer (some ⟨w18.heap.size, 0, none⟩)), (11, .int .i64 0), (12, .bool (decide (n < R))), (16, .bool (decide ((lb.length : Int) > 4000))), (51, .bool false)]) ?_ (sub_cons rfl (sub_cons rfl (sub_cons rfl (sub_cons rfl (sub_cons rfl (sub_cons rfl (sub_cons rfl (sub_cons rfl (sub_cons rfl (sub_cons rfl (sub_cons rfl sub_nil)))))))))))) a_ ha_
          refine t_no rfl rfl ?_
          refine t_skip ?_
          refine fun a_ ha_ => hK112 _ _ _ (T.sub (L' := [(0, .int .i64 n), (1, .int .u8 z), (2, .bool big), (3, .slice A0 lb.length c0), (8, .bool false), (9, .pointer (some ⟨w.heap.size, 0, none⟩)), (10, .pointer (some ⟨w18.heap.size, 0, none⟩)), (11, .int .i64 0), (12, .bool (decide (n < R))), (16, .bool (decide ((lb.length : Int) > 4000))), (51, .bool false)]) ?_ (sub_cons rfl (sub_cons rfl (sub_cons rfl (sub_cons rfl (sub_cons rfl (sub_cons rfl (sub_cons rfl (sub_cons rfl (sub_cons rfl (sub_cons rfl (sub_cons rfl sub_nil)))))))))))) a_ ha_
          refine t_seq (fun K172 hK172 => ?_)
          refine t_region ?_
          refine tl_val rfl (do_alloc (v := .pointer (some ⟨w44.heap.size, 0, none⟩)) (w' := w44.alloc (.cells #[.int .i64 0] 3)) (by kernel_rfl)) (by decide) ?_
          refine tl_gen (fun w173 e174 => ?_)
          have hb175 : Chg (fun _ => False) w44 w173 := e174 ▸ Chg.alloc _ _
          have hz176 : w173.heap.size = w44.heap.size + 1 := by rw [e174]; exact size_alloc _ _
          have hc177 : w173.heap[w44.heap.size]? = some (.cells #[.int .i64 0] 3 (0, 0)) := by rw [e174]; exact obj_new _ _
          clear e174
          refine tl_unit rfl (do_store (u := .int .i64 0) rfl rfl rfl (by kernel_rfl) (by rw [obj_cell hc177]; rfl) (obj_frozen hc177 _)) ?_
          refine tl_gen (fun w178 e179 => ?_)
          have hb180 : Chg (fun k => k = w44.heap.size) w173 w178 := e179 ▸ Chg.setCell _ _ _ _
          have hz181 : w178.heap.size = w173.heap.size := by rw [e179]; simp
          have hc182 : w178.heap[w44.heap.size]? = some (.cells #[.int .i64 0] 3 (0, 0)) := by rw [e179]; exact obj_setCell hc177
          clear e179
          refine tl_end ?_
          refine fun a_ ha_ => hK172 _ _ _ (T.sub (L' := [(0, .int .i64 n), (1, .int .u8 z), (2, .bool big), (3, .slice A0 lb.length c0), (8, .bool false), (9, .pointer (some ⟨w.heap.size, 0, none⟩)), (10, .pointer (some ⟨w18.heap.size, 0, none⟩)), (11, .int .i64 0), (12, .bool (decide (n < R))), (13, .pointer (some ⟨w44.heap.size, 0, none⟩)), (16, .bool (decide ((lb.length : Int) > 4000))), (51, .bool false)]) ?_ (sub_cons rfl (sub_cons rfl (sub_cons rfl (sub_cons rfl (sub_cons rfl (sub_cons rfl (sub_cons rfl (sub_cons rfl (sub_cons rfl (sub_cons rfl (sub_cons rfl (sub_cons rfl sub_nil))))))))))))) a_ ha_
          refine t_seq (fun K183 hK183 => ?_)
          refine t_seq (fun K184 hK184 => ?_)
          refine t_region ?_
          refine tl_val (w' := w178) rfl (do_move rfl) (by decide) ?_
          have h186 := (Rd.chgNe (Rd.chg ha (Rd.chgNe (Rd.chg ha (Rd.chgNe (Rd.chg ha (Rd.chgNe (Rd.chg ha ha hb15 (fun _ _ x => x)) hb20 (fun a_ h1_ h2_ => Rd.ne (cs := [.int .i64 0]) (Rd.chg ha ha hb15 (fun _ _ x => x)) hc17 (by rfl) a_ h1_ h2_)) hb26 (fun _ _ x => x)) hb31 (fun a_ h1_ h2_ => Rd.ne (cs := [.int .i64 0]) (Rd.chg ha (Rd.chgNe (Rd.chg ha ha hb15 (fun _ _ x => x)) hb20 (fun a_ h1_ h2_ => Rd.ne (cs := [.int .i64 0]) (Rd.chg ha ha hb15 (fun _ _ x => x)) hc17 (by rfl) a_ h1_ h2_)) hb26 (fun _ _ x => x)) hc28 (by rfl) a_ h1_ h2_)) hchg36 (fun _ _ x => x)) hchg41 (fun a_ h1_ h2_ => Rd.ne (cs := [.int .i64 0]) (Rd.chg ha (Rd.chgNe (Rd.chg ha (Rd.chgNe (Rd.chg ha ha hb15 (fun _ _ x => x)) hb20 (fun a_ h1_ h2_ => Rd.ne (cs := [.int .i64 0]) (Rd.chg ha ha hb15 (fun _ _ x => x)) hc17 (by rfl) a_ h1_ h2_)) hb26 (fun _ _ x => x)) hb31 (fun a_ h1_ h2_ => Rd.ne (cs := [.int .i64 0]) (Rd.chg ha (Rd.chgNe (Rd.chg ha ha hb15 (fun _ _ x => x)) hb20 (fun a_ h1_ h2_ => Rd.ne (cs := [.int .i64 0]) (Rd.chg ha ha hb15 (fun _ _ x => x)) hc17 (by rfl) a_ h1_ h2_)) hb26 (fun _ _ x => x)) hc28 (by rfl) a_ h1_ h2_)) hchg36 (fun _ _ x => x)) h43 (by rfl) a_ h1_ h2_)) hb175 (fun _ _ x => x)) hb180 (fun a_ h1_ h2_ => Rd.ne (cs := [.int .i64 0]) (Rd.chg ha (Rd.chgNe (Rd.chg ha (Rd.chgNe (Rd.chg ha (Rd.chgNe (Rd.chg ha ha hb15 (fun _ _ x => x)) hb20 (fun a_ h1_ h2_ => Rd.ne (cs := [.int .i64 0]) (Rd.chg ha ha hb15 (fun _ _ x => x)) hc17 (by rfl) a_ h1_ h2_)) hb26 (fun _ _ x => x)) hb31 (fun a_ h1_ h2_ => Rd.ne (cs := [.int .i64 0]) (Rd.chg ha (Rd.chgNe (Rd.chg ha ha hb15 (fun _ _ x => x)) hb20 (fun a_ h1_ h2_ => Rd.ne (cs := [.int .i64 0]) (Rd.chg ha ha hb15 (fun _ _ x => x)) hc17 (by rfl) a_ h1_ h2_)) hb26 (fun _ _ x => x)) hc28 (by rfl) a_ h1_ h2_)) hchg36 (fun _ _ x => x)) hchg41 (fun a_ h1_ h2_ => Rd.ne (cs := [.int .i64 0]) (Rd.chg ha (Rd.chgNe (Rd.chg ha (Rd.chgNe (Rd.chg ha ha hb15 (fun _ _ x => x)) hb20 (fun a_ h1_ h2_ => Rd.ne (cs := [.int .i64 0]) (Rd.chg ha ha hb15 (fun _ _ x => x)) hc17 (by rfl) a_ h1_ h2_)) hb26 (fun _ _ x => x)) hb31 (fun a_ h1_ h2_ => Rd.ne (cs := [.int .i64 0]) (Rd.chg ha (Rd.chgNe (Rd.chg ha ha hb15 (fun _ _ x => x)) hb20 (fun a_ h1_ h2_ => Rd.ne (cs := [.int .i64 0]) (Rd.chg ha ha hb15 (fun _ _ x => x)) hc17 (by rfl) a_ h1_ h2_)) hb26 (fun _ _ x => x)) hc28 (by rfl) a_ h1_ h2_)) hchg36 (fun _ _ x => x)) h43 (by rfl) a_ h1_ h2_)) hb175 (fun _ _ x => x)) hc177 (by rfl) a_ h1_ h2_))
          refine tl_call rfl (en_call (f := 12) (vs := [.slice A0 lb.length c0]) (by kernel_rfl) rfl) rfl (own_e h186 (by omega)) (fun v189 w187 hr188 => ?_) (fun _ _ h => h.elim) (fun _ h => h)
          obtain ⟨A185, c185, rfl, hrd185, hchg185⟩ := hr188
          have hz190 := hchg185.size
          refine tl_val (w' := w187) rfl (do_move rfl) (by decide) ?_
          refine tl_val (w' := w187) rfl (do_makeFunc rfl) (by decide) ?_
          have h192 := (hchg185.obj (fun x => x) (hb180.obj (show ¬ w.heap.size = w44.heap.size by omega) (hb175.obj (fun x => x) h51)))
          have h193 := (hchg185.obj (fun x => x) hc182)
          have hl9_191 := lt_obj h192
          have hl10_191 := lt_obj h193
          refine tl_call rfl (en_call (f := 15) (vs := [.slice A185 lb.length c185, .bool big, .func (.func 19) #[] #[.pointer (some ⟨w.heap.size, 0, none⟩), .pointer (some ⟨w44.heap.size, 0, none⟩)]]) (by kernel_rfl) rfl) rfl (try_e 19 #[.pointer (some ⟨w.heap.size, 0, none⟩), .pointer (some ⟨w44.heap.size, 0, none⟩)] (M := fun k_ => k_ = w44.heap.size) (fun o w' => ∃ y : Int, w'.heap[w44.heap.size]? = some (.cells #[.int .i64 y] 3 (0, 0)) ∧ BackRel2 lb big s o y) hrd185 (by intro k_ h_; have h2_ : k_ = w44.heap.size := h_; omega) (by kernel_rfl) (fun o w2 w3 h_ hC => h_.imp fun y h_ => ⟨hC.obj (by omega) h_.1, h_.2⟩) (fun W hW hz hc => back2_e _ w.heap.size w44.heap.size _ _ lb big s 0 W hc (hW.obj (fun x => x) h192) (hW.obj (fun x => x) h193) (by omega) (by omega))) (fun v196 w194 hr195 => ?_) (fun _ _ h => h.elim) (fun _ h => h)
          obtain ⟨o191, rfl, ⟨y191, hy191, hrel191⟩, hchg191⟩ := hr195
          have hz197 := hchg191.size
          rcases hrel191 with ⟨k_, hk0_, rfl⟩ | ⟨m_, hnum_, rfl, rfl⟩
          · refine tl_val (w' := w194) rfl (do_eql rfl rfl) (by decide) ?_
            refine tl_end ?_
            refine fun a_ ha_ => hK184 _ _ _ (T.sub (L' := [(0, .int .i64 n), (1, .int .u8 z), (2, .bool big), (3, .slice A0 lb.length c0), (8, .bool false), (9, .pointer (some ⟨w.heap.size, 0, none⟩)), (10, .pointer (some ⟨w18.heap.size, 0, none⟩)), (11, .int .i64 0), (12, .bool (decide (n < R))), (13, .pointer (some ⟨w44.heap.size, 0, none⟩)), (16, .bool (decide ((lb.length : Int) > 4000))), (51, .bool false), (57, .bool (decide ((k_ : Int) = 0)))]) ?_ (sub_cons rfl (sub_cons rfl (sub_cons rfl (sub_cons rfl (sub_cons rfl (sub_cons rfl (sub_cons rfl (sub_cons rfl (sub_cons rfl (sub_cons rfl (sub_cons rfl (sub_cons rfl (sub_cons rfl sub_nil)))))))))))))) a_ ha_
            have hk198 : (decide ((k_ : Int) = 0)) = false := (decide_eq_false (show ¬ ((k_ : Int) = 0) from (by omega)))
            refine t_no rfl hk198 ?_
            refine t_skip ?_
            refine fun a_ ha_ => hK183 _ _ _ (T.sub (L' := [(0, .int .i64 n), (1, .int .u8 z), (2, .bool big), (3, .slice A0 lb.length c0), (8, .bool false), (9, .pointer (some ⟨w.heap.size, 0, none⟩)), (10, .pointer (some ⟨w18.heap.size, 0, none⟩)), (11, .int .i64 0), (12, .bool (decide (n < R))), (13, .pointer (some ⟨w44.heap.size, 0, none⟩)), (16, .bool (decide ((lb.length : Int) > 4000))), (51, .bool false), (57, .bool (decide ((k_ : Int) = 0)))]) ?_ (sub_cons rfl (sub_cons rfl (sub_cons rfl (sub_cons rfl (sub_cons rfl (sub_cons rfl (sub_cons rfl (sub_cons rfl (sub_cons rfl (sub_cons rfl (sub_cons rfl (sub_cons rfl (sub_cons rfl sub_nil)))))))))))))) a_ ha_
            refine t_seq (fun K199 hK199 => ?_)
            refine t_region ?_
            refine tl_call rfl (en_call (f := 10) (vs := []) (by kernel_rfl) rfl) rfl (awake_e w194) (fun v203 w201 hr202 => ?_) (fun _ _ h => h.elim) (fun _ h => h)
            obtain ⟨rfl, hchg200⟩ := hr202
            have hz204 := hchg200.size
            refine tl_val (w' := w201) rfl (do_assign rfl) (by decide) ?_
            refine tl_end ?_
            refine fun a_ ha_ => hK199 _ _ _ (T.sub (L' := [(0, .int .i64 n), (1, .int .u8 z), (2, .bool big), (3, .slice A0 lb.length c0), (8, .bool true), (9, .pointer (some ⟨w.heap.size, 0, none⟩)), (10, .pointer (some ⟨w18.heap.size, 0, none⟩)), (11, .int .i64 0), (12, .bool (decide (n < R))), (13, .pointer (some ⟨w44.heap.size, 0, none⟩)), (16, .bool (decide ((lb.length : Int) > 4000))), (51, .bool false), (57, .bool (decide ((k_ : Int) = 0)))]) ?_ (sub_cons rfl (sub_cons rfl (sub_cons rfl (sub_cons rfl (sub_cons rfl (sub_cons rfl (sub_cons rfl (sub_cons rfl (sub_cons rfl (sub_cons rfl (sub_cons rfl (sub_cons rfl (sub_cons rfl sub_nil)))))))))))))) a_ ha_
            refine t_ret ?_
            refine fun a_ ha_ => hQ0 _ _ _ (body_ret (rs := [.tmp 8]) (vs := [.bool true]) ha_ (by kernel_rfl) ⟨_, _, rfl, rfl, rfl⟩ ?_)
            exact ⟨rfl, ((((((((((((Chg.refl (fun k_ => False) w).step hb15 (fun k_ hk_ (h_ : False) => h_.elim)).step hb20 (fun k_ hk_ (h_ : k_ = w.heap.size) => (show False by omega))).step hb26 (fun k_ hk_ (h_ : False) => h_.elim)).step hb31 (fun k_ hk_ (h_ : k_ = w18.heap.size) => (show False by omega))).step hchg36 (fun k_ hk_ (h_ : False) => h_.elim)).step hchg41 (fun k_ hk_ (h_ : k_ = w18.heap.size) => (show False by omega))).step hb175 (fun k_ hk_ (h_ : False) => h_.elim)).step hb180 (fun k_ hk_ (h_ : k_ = w44.heap.size) => (show False by omega))).step hchg185 (fun k_ hk_ (h_ : False) => h_.elim)).step hchg191 (fun k_ hk_ (h_ : k_ = w44.heap.size) => (show False by omega))).step hchg200 (fun k_ hk_ (h_ : False) => h_.elim))⟩
          · have hm1_ := hnum_.2.1
            have hm2_ := hnum_.2.2.2
            refine tl_val (w' := w194) rfl (do_eql rfl rfl) (by decide) ?_
            have hk205 : (decide ((0 : Int) = 0)) = true := by decide
            refine tl_end ?_
            refine fun a_ ha_ => hK184 _ _ _ (T.sub (L' := [(0, .int .i64 n), (1, .int .u8 z), (2, .bool big), (3, .slice A0 lb.length c0), (8, .bool false), (9, .pointer (some ⟨w.heap.size, 0, none⟩)), (10, .pointer (some ⟨w18.heap.size, 0, none⟩)), (11, .int .i64 0), (12, .bool (decide (n < R))), (13, .pointer (some ⟨w44.heap.size, 0, none⟩)), (16, .bool (decide ((lb.length : Int) > 4000))), (51, .bool false), (57, .bool (decide ((0 : Int) = 0)))]) ?_ (sub_cons rfl (sub_cons rfl (sub_cons rfl (sub_cons rfl (sub_cons rfl (sub_cons rfl (sub_cons rfl (sub_cons rfl (sub_cons rfl (sub_cons rfl (sub_cons rfl (sub_cons rfl (sub_cons rfl sub_nil)))))))))))))) a_ ha_
            refine t_yes rfl hk205 ?_
            refine t_seq (fun K206 hK206 => ?_)
            refine t_drawnC (fun _ => False) [(true, 0, { dst := (some 58), op := (Go.Op.move (Go.Operand.tmp 3)), type := 22, pos := "law.go:152", after := #[], guard := none }), (true, 1, { dst := (some 59), op := (Go.Op.call { callee := (Go.Callee.builtin Go.Builtin.len), args := #[(Go.Operand.tmp 58)], argTypes := #[22] }), type := 3, pos := "law.go:152", after := #[{ on := 0, ground := Go.Ground.data }], guard := none }), (true, 2, { dst := (some 60), op := (Go.Op.load 3 (Go.Operand.tmp 9)), type := 3, pos := "law.go:152", after := #[], guard := none }), (true, 3, { dst := (some 61), op := (Go.Op.binOp Go.BinOp.geq 3 (Go.Operand.tmp 59) (Go.Operand.tmp 60) 3), type := 4, pos := "law.go:152", after := #[{ on := 1, ground := Go.Ground.data }, { on := 2, ground := Go.Ground.data }], guard := none }), (true, 4, { dst := (some 62), op := (Go.Op.move (Go.Operand.tmp 61)), type := 4, pos := "law.go:152", after := #[{ on := 3, ground := Go.Ground.data }], guard := none }), (true, 5, { dst := (some 63), op := (Go.Op.load 3 (Go.Operand.tmp 13)), type := 3, pos := "law.go:152", after := #[{ on := 4, ground := Go.Ground.guard }], guard := (some (4, true)) }), (true, 6, { dst := (some 64), op := (Go.Op.load 3 (Go.Operand.tmp 9)), type := 3, pos := "law.go:152", after := #[{ on := 4, ground := Go.Ground.guard }], guard := (some (4, true)) }), (true, 7, { dst := (some 65), op := (Go.Op.move (Go.Operand.tmp 2)), type := 4, pos := "law.go:152", after := #[{ on := 4, ground := Go.Ground.guard }], guard := (some (4, true)) }), (true, 10, { dst := (some 68), op := (Go.Op.move (Go.Operand.tmp 3)), type := 22, pos := "law.go:152", after := #[{ on := 4, ground := Go.Ground.guard }], guard := (some (4, true)) }), (true, 11, { dst := (some 69), op := (Go.Op.load 3 (Go.Operand.tmp 9)), type := 3, pos := "law.go:152", after := #[{ on := 4, ground := Go.Ground.guard }], guard := (some (4, true)) }), (true, 12, { dst := (some 70), op := (Go.Op.slice 22 (Go.Operand.tmp 68) none (some (Go.Operand.tmp 69)) none), type := 22, pos := "law.go:152", after := #[{ on := 10, ground := Go.Ground.data }, { on := 11, ground := Go.Ground.data }, { on := 4, ground := Go.Ground.guard }], guard := (some (4, true)) }), (true, 13, { dst := (some 71), op := (Go.Op.convert 22 9 (Go.Operand.tmp 70)), type := 9, pos := "law.go:152", after := #[{ on := 12, ground := Go.Ground.data }, { on := 4, ground := Go.Ground.guard }], guard := (some (4, true)) }), (false, 8, { dst := (some 66), op := (Go.Op.call { callee := (Go.Callee.value (Go.Operand.func 13)), args := #[(Go.Operand.const (Go.Value.slice none 0 0)), (Go.Operand.tmp 63), (Go.Operand.tmp 64), (Go.Operand.tmp 65)], argTypes := #[22, 3, 3, 4] }), type := 22, pos := "law.go:152", after := #[{ on := 5, ground := Go.Ground.data }, { on := 6, ground := Go.Ground.data }, { on := 7, ground := Go.Ground.data }, { on := 4, ground := Go.Ground.chain }, { on := 4, ground := Go.Ground.guard }], guard := (some (4, true)) }), (true, 9, { dst := (some 67), op := (Go.Op.convert 22 9 (Go.Operand.tmp 66)), type := 9, pos := "law.go:152", after := #[{ on := 8, ground := Go.Ground.data }, { on := 4, ground := Go.Ground.guard }], guard := (some (4, true)) }), (true, 14, { dst := (some 72), op := (Go.Op.binOp Go.BinOp.eql 9 (Go.Operand.tmp 67) (Go.Operand.tmp 71) 9), type := 4, pos := "law.go:152", after := #[{ on := 9, ground := Go.Ground.data }, { on := 13, ground := Go.Ground.data }, { on := 4, ground := Go.Ground.guard }], guard := (some (4, true)) }), (true, 15, { dst := (some 73), op := (Go.Op.pick (Go.Operand.tmp 62) (Go.Operand.tmp 72) (Go.Operand.const (Go.Value.bool false))), type := 4, pos := "law.go:152", after := #[{ on := 4, ground := Go.Ground.data }, { on := 14, ground := Go.Ground.data }], guard := none }), (true, 16, { dst := (some 74), op := (Go.Op.move (Go.Operand.tmp 73)), type := 4, pos := "law.go:152", after := #[{ on := 15, ground := Go.Ground.data }, { on := 8, ground := Go.Ground.chain }], guard := none }), (false, 17, { dst := (some 75), op := (Go.Op.call { callee := (Go.Callee.value (Go.Operand.func 10)), args := #[], argTypes := #[] }), type := 4, pos := "law.go:152", after := #[{ on := 16, ground := Go.Ground.chain }, { on := 16, ground := Go.Ground.guard }], guard := (some (16, true)) }), (true, 18, { dst := (some 76), op := (Go.Op.pick (Go.Operand.tmp 74) (Go.Operand.tmp 75) (Go.Operand.const (Go.Value.bool false))), type := 4, pos := "law.go:152", after := #[{ on := 16, ground := Go.Ground.data }, { on := 17, ground := Go.Ground.data }], guard := none }), (true, 19, { dst := (some 8), op := (Go.Op.assign (Go.Operand.tmp 76)), type := 4, pos := "law.go:152", after := #[{ on := 18, ground := Go.Ground.data }, { on := 17, ground := Go.Ground.chain }, { on := 0, ground := Go.Ground.phase }, { on := 1, ground := Go.Ground.phase }, { on := 2, ground := Go.Ground.phase }, { on := 3, ground := Go.Ground.phase }, { on := 4, ground := Go.Ground.phase }, { on := 5, ground := Go.Ground.phase }, { on := 6, ground := Go.Ground.phase }, { on := 7, ground := Go.Ground.phase }, { on := 8, ground := Go.Ground.phase }, { on := 9, ground := Go.Ground.phase }, { on := 10, ground := Go.Ground.phase }, { on := 11, ground := Go.Ground.phase }, { on := 12, ground := Go.Ground.phase }, { on := 13, ground := Go.Ground.phase }, { on := 14, ground := Go.Ground.phase }, { on := 15, ground := Go.Ground.phase }, { on := 16, ground := Go.Ground.phase }, { on := 17, ground := Go.Ground.phase }, { on := 18, ground := Go.Ground.phase }], guard := none })] rfl (by kernel_rfl) (by repeat (first | exact hB0 | apply blind_then | apply blind_in)) (by kernel_rfl) (by kernel_rfl) rfl (fun w207 hb208 hz209 => ?_)
            refine td_takeC rfl (by decide) (fun w_ h_ => (do_move rfl)) ?_
            refine td_takeC rfl (by decide) (fun w_ h_ => (do_builtin (vs := [.slice A0 lb.length c0]) (v := .int .i64 (lb.length : Int)) rfl (fun _ _ => by kernel_rfl))) ?_
            have h210 := (hb208.obj (fun x => x) (hchg191.obj (show ¬ w.heap.size = w44.heap.size by omega) h192))
            refine td_takeC rfl (by decide) (fun w_ h_ => (do_load (v := .int .i64 (s : Int)) rfl (by kernel_rfl) (by rw [obj_cell (h_.obj (fun x => x) h210)]; rfl))) ?_
            refine td_takeC rfl (by decide) (fun w_ h_ => (do_geq rfl rfl)) ?_
            refine td_takeC rfl (by decide) (fun w_ h_ => (do_move rfl)) ?_
            have hk211 : (decide ((lb.length : Int) ≥ (s : Int))) = true := (decide_eq_true (show (lb.length : Int) ≥ (s : Int) from (by omega)))
            have h212 := (hb208.obj (fun x => x) hy191)
            refine td_takeC ⟨62, _, rfl, rfl, (by rw [hk211]; rfl)⟩ (by decide) (fun w_ h_ => (do_load (v := .int .i64 (m_ : Int)) rfl (by kernel_rfl) (by rw [obj_cell (h_.obj (fun x => x) h212)]; rfl))) ?_
            refine td_takeC ⟨62, _, rfl, rfl, (by rw [hk211]; rfl)⟩ (by decide) (fun w_ h_ => (do_load (v := .int .i64 (s : Int)) rfl (by kernel_rfl) (by rw [obj_cell (h_.obj (fun x => x) h210)]; rfl))) ?_
            refine td_takeC ⟨62, _, rfl, rfl, (by rw [hk211]; rfl)⟩ (by decide) (fun w_ h_ => (do_move rfl)) ?_
            refine td_takeC ⟨62, _, rfl, rfl, (by rw [hk211]; rfl)⟩ (by decide) (fun w_ h_ => (do_move rfl)) ?_
            refine td_takeC ⟨62, _, rfl, rfl, (by rw [hk211]; rfl)⟩ (by decide) (fun w_ h_ => (do_load (v := .int .i64 (s : Int)) rfl (by kernel_rfl) (by rw [obj_cell (h_.obj (fun x => x) h210)]; rfl))) ?_
            have h213 := (Rd.chg ha (Rd.chgNe (Rd.chg ha h186 hchg185 (fun _ _ x => x)) hchg191 (fun a_ h1_ h2_ => Rd.ne (cs := [.int .i64 0]) (Rd.chg ha h186 hchg185 (fun _ _ x => x)) h193 (by rfl) a_ h1_ h2_)) hb208 (fun _ _ x => x))
            have hs214 := fun W => slice_rd (P := Try.prog) (t := 22) (lo := 0) (hi := s) (l' := none) (h' := (some (.int .i64 (s : Int)))) h213 (by kernel_rfl) (by omega) (by omega) (by omega) (.inl ⟨rfl, rfl⟩) (.inr ⟨_, rfl⟩) W
            refine td_takeC ⟨62, _, rfl, rfl, (by rw [hk211]; rfl)⟩ (by decide) (fun w_ h_ => (do_slice (v := .slice (sub A0 c0 0 1) (((lb.drop 0).take (s - 0)).length) (c0 - 0)) rfl rfl rfl rfl (hs214 _).1)) ?_
            refine td_takeC ⟨62, _, rfl, rfl, (by rw [hk211]; rfl)⟩ (by decide) (fun w_ h_ => (do_convert (u := .slice (sub A0 c0 0 1) (((lb.drop 0).take (s - 0)).length) (c0 - 0)) rfl (run_str (Rd.chg (hs214 w207).2 (hs214 w207).2 h_ (fun _ _ x => x))))) ?_
            refine td_callC ⟨62, _, rfl, rfl, (by rw [hk211]; rfl)⟩ rfl (en_call (f := 13) (vs := [.slice none 0 0, .int .i64 (m_ : Int), .int .i64 (s : Int), .bool big]) (by kernel_rfl) rfl) (put_e (m_ : Int) (s : Int) big (l := ([])) (Rd.nilAt _) (by first | omega | simp) (by omega) (by omega)) (fun v218 w216 hr217 => ?_) (fun _ _ h => h.elim) (fun _ h => h)
            obtain ⟨A215, c215, rfl, hrd215, hchg215⟩ := hr217
            refine ⟨hchg215.mono (fun _ _ x => x.elim), ?_⟩
            have hz219 := hchg215.size
            refine td_takeC ⟨62, _, rfl, rfl, (by rw [hk211]; rfl)⟩ (by decide) (fun w_ h_ => (do_convert (u := .slice A215 ((put ([]) (m_ : Int) (s : Int) big).length) c215) rfl (run_str (Rd.chg hrd215 hrd215 h_ (fun _ _ x => x))))) ?_
            refine td_takeC ⟨62, _, rfl, rfl, (by rw [hk211]; rfl)⟩ (by decide) (fun w_ h_ => (do_eqs rfl rfl)) ?_
            refine td_takeC rfl (by decide) (fun w_ h_ => (do_pick_t rfl hk211 rfl)) ?_
            refine td_takeC rfl (by decide) (fun w_ h_ => (do_move rfl)) ?_
            have hk220 : (decide ((put ([]) (m_ : Int) (s : Int) big) = ((lb.drop 0).take (s - 0)))) = true := (decide_eq_true (show (put ([]) (m_ : Int) (s : Int) big) = ((lb.drop 0).take (s - 0)) from (back_put hs hnum_)))
            refine td_callC ⟨74, _, rfl, rfl, (by rw [hk220]; rfl)⟩ rfl (en_call (f := 10) (vs := []) (by kernel_rfl) rfl) (awake_e w216) (fun v224 w222 hr223 => ?_) (fun _ _ h => h.elim) (fun _ h => h)
            obtain ⟨rfl, hchg221⟩ := hr223
            refine ⟨hchg221.mono (fun _ _ x => x.elim), ?_⟩
            have hz225 := hchg221.size
            refine td_takeC rfl (by decide) (fun w_ h_ => (do_pick_t rfl hk220 rfl)) ?_
            refine td_takeC rfl (by decide) (fun w_ h_ => (do_assign rfl)) ?_
            refine td_end ?_
            refine fun a_ ha_ => hK206 _ _ _ (T.sub (L' := [(0, .int .i64 n), (1, .int .u8 z), (2, .bool big), (3, .slice A0 lb.length c0), (8, .bool true), (9, .pointer (some ⟨w.heap.size, 0, none⟩)), (10, .pointer (some ⟨w18.heap.size, 0, none⟩)), (11, .int .i64 0), (12, .bool (decide (n < R))), (13, .pointer (some ⟨w44.heap.size, 0, none⟩)), (16, .bool (decide ((lb.length : Int) > 4000))), (51, .bool false), (57, .bool (decide ((0 : Int) = 0)))]) ?_ (sub_cons rfl (sub_cons rfl (sub_cons rfl (sub_cons rfl (sub_cons rfl (sub_cons rfl (sub_cons rfl (sub_cons rfl (sub_cons rfl (sub_cons rfl (sub_cons rfl (sub_cons rfl (sub_cons rfl sub_nil)))))))))))))) a_ ha_
            refine t_ret ?_
            refine fun a_ ha_ => hQ0 _ _ _ (body_ret (rs := [.tmp 8]) (vs := [.bool true]) ha_ (by kernel_rfl) ⟨_, _, rfl, rfl, rfl⟩ ?_)
            exact ⟨rfl, ((((((((((((((Chg.refl (fun k_ => False) w).step hb15 (fun k_ hk_ (h_ : False) => h_.elim)).step hb20 (fun k_ hk_ (h_ : k_ = w.heap.size) => (show False by omega))).step hb26 (fun k_ hk_ (h_ : False) => h_.elim)).step hb31 (fun k_ hk_ (h_ : k_ = w18.heap.size) => (show False by omega))).step hchg36 (fun k_ hk_ (h_ : False) => h_.elim)).step hchg41 (fun k_ hk_ (h_ : k_ = w18.heap.size) => (show False by omega))).step hb175 (fun k_ hk_ (h_ : False) => h_.elim)).step hb180 (fun k_ hk_ (h_ : k_ = w44.heap.size) => (show False by omega))).step hchg185 (fun k_ hk_ (h_ : False) => h_.elim)).step hchg191 (fun k_ hk_ (h_ : k_ = w44.heap.size) => (show False by omega))).step hb208 (fun k_ hk_ (h_ : False) => h_.elim)).step hchg215 (fun k_ hk_ (h_ : False) => h_.elim)).step hchg221 (fun k_ hk_ (h_ : False) => h_.elim))⟩
    · have hk50 := decide_eq_false hc49
      refine tl_skipU ⟨30, _, rfl, rfl, (by rw [hk50]; rfl)⟩ (by decide) ?_
      refine tl_skipU ⟨30, _, rfl, rfl, (by rw [hk50]; rfl)⟩ (by decide) ?_
      refine tl_skipU ⟨30, _, rfl, rfl, (by rw [hk50]; rfl)⟩ (by decide) ?_
      refine tl_skipU ⟨33, _, rfl, rfl, rfl⟩ (by decide) ?_
      refine tl_skipU ⟨33, _, rfl, rfl, rfl⟩ (by decide) ?_
      refine tl_skipU ⟨33, _, rfl, rfl, rfl⟩ (by decide) ?_
      refine tl_skipU ⟨33, _, rfl, rfl, rfl⟩ (by decide) ?_
      refine tl_skipU ⟨33, _, rfl, rfl, rfl⟩ (by decide) ?_
      refine tl_skipU ⟨33, _, rfl, rfl, rfl⟩ (by decide) ?_
      refine tl_skipU ⟨30, _, rfl, rfl, (by rw [hk50]; rfl)⟩ (by decide) ?_
      refine tl_val (w' := w44) rfl (do_pick_f rfl hk50 rfl) (by decide) ?_
      refine tl_val (w' := w44) rfl (do_assign rfl) (by decide) ?_
      refine tl_end ?_
      refine fun a_ ha_ => hK48 _ _ _ (T.sub (L' := [(0, .int .i64 n), (1, .int .u8 z), (2, .bool big), (3, .slice A0 lb.length c0), (8, .bool false), (9, .pointer (some ⟨w.heap.size, 0, none⟩)), (10, .pointer (some ⟨w18.heap.size, 0, none⟩)), (11, .int .i64 0), (12, .bool false), (16, .bool (decide ((lb.length : Int) > 4000)))]) ?_ (sub_cons rfl (sub_cons rfl (sub_cons rfl (sub_cons rfl (sub_cons rfl (sub_cons rfl (sub_cons rfl (sub_cons rfl (sub_cons rfl (sub_cons rfl sub_nil))))))))))) a_ ha_
      refine t_seq (fun K226 hK226 => ?_)
      refine t_seq (fun K227 hK227 => ?_)
      refine t_region ?_
      refine tl_val (w' := w44) rfl (do_move rfl) (by decide) ?_
      refine tl_val (w' := w44) rfl (do_neq rfl rfl) (by decide) ?_
      have hk228 : (decide ((0 : Int) ≠ 0)) = false := by decide
      refine tl_val (w' := w44) rfl (do_move rfl) (by decide) ?_
      refine tl_val (w' := w44) ⟨44, _, rfl, rfl, (by rw [hk228]; rfl)⟩ (do_move rfl) (by decide) ?_
      refine tl_val (w' := w44) ⟨44, _, rfl, rfl, (by rw [hk228]; rfl)⟩ (do_move rfl) (by decide) ?_
      refine tl_skipU ⟨46, _, rfl, rfl, rfl⟩ (by decide) ?_
      refine tl_skipU ⟨46, _, rfl, rfl, rfl⟩ (by decide) ?_
      refine tl_skipU ⟨46, _, rfl, rfl, rfl⟩ (by decide) ?_
      refine tl_val (w' := w44) ⟨44, _, rfl, rfl, (by rw [hk228]; rfl)⟩ (do_pick_f rfl rfl rfl) (by decide) ?_
      refine tl_val (w' := w44) rfl (do_pick_f rfl hk228 rfl) (by decide) ?_
      refine tl_end ?_
      refine fun a_ ha_ => hK227 _ _ _ (T.sub (L' := [(0, .int .i64 n), (1, .int .u8 z), (2, .bool big), (3, .slice A0 lb.length c0), (8, .bool false), (9, .pointer (some ⟨w.heap.size, 0, none⟩)), (10, .pointer (some ⟨w18.heap.size, 0, none⟩)), (11, .int .i64 0), (12, .bool false), (16, .bool (decide ((lb.length : Int) > 4000))), (51, .bool false)]) ?_ (sub_cons rfl (sub_cons rfl (sub_cons rfl (sub_cons rfl (sub_cons rfl (sub_cons rfl (sub_cons rfl (sub_cons rfl (sub_cons rfl (sub_cons rfl (sub_cons rfl sub_nil)))))))))))) a_ ha_
      refine t_no rfl rfl ?_
      refine t_skip ?_
      refine fun a_ ha_ => hK226 _ _ _ (T.sub (L' := [(0, .int .i64 n), (1, .int .u8 z), (2, .bool big), (3, .slice A0 lb.length c0), (8, .bool false), (9, .pointer (some ⟨w.heap.size, 0, none⟩)), (10, .pointer (some ⟨w18.heap.size, 0, none⟩)), (11, .int .i64 0), (12, .bool false), (16, .bool (decide ((lb.length : Int) > 4000))), (51, .bool false)]) ?_ (sub_cons rfl (sub_cons rfl (sub_cons rfl (sub_cons rfl (sub_cons rfl (sub_cons rfl (sub_cons rfl (sub_cons rfl (sub_cons rfl (sub_cons rfl (sub_cons rfl sub_nil)))))))))))) a_ ha_
      refine t_seq (fun K229 hK229 => ?_)
      refine t_region ?_
      refine tl_val rfl (do_alloc (v := .pointer (some ⟨w44.heap.size, 0, none⟩)) (w' := w44.alloc (.cells #[.int .i64 0] 3)) (by kernel_rfl)) (by decide) ?_
      refine tl_gen (fun w230 e231 => ?_)
      have hb232 : Chg (fun _ => False) w44 w230 := e231 ▸ Chg.alloc _ _
      have hz233 : w230.heap.size = w44.heap.size + 1 := by rw [e231]; exact size_alloc _ _
      have hc234 : w230.heap[w44.heap.size]? = some (.cells #[.int .i64 0] 3 (0, 0)) := by rw [e231]; exact obj_new _ _
      clear e231
      refine tl_unit rfl (do_store (u := .int .i64 0) rfl rfl rfl (by kernel_rfl) (by rw [obj_cell hc234]; rfl) (obj_frozen hc234 _)) ?_
      refine tl_gen (fun w235 e236 => ?_)
      have hb237 : Chg (fun k => k = w44.heap.size) w230 w235 := e236 ▸ Chg.setCell _ _ _ _
      have hz238 : w235.heap.size = w230.heap.size := by rw [e236]; simp
      have hc239 : w235.heap[w44.heap.size]? = some (.cells #[.int .i64 0] 3 (0, 0)) := by rw [e236]; exact obj_setCell hc234
      clear e236
      refine tl_end ?_
      refine fun a_ ha_ => hK229 _ _ _ (T.sub (L' := [(0, .int .i64 n), (1, .int .u8 z), (2, .bool big), (3, .slice A0 lb.length c0), (8, .bool false), (9, .pointer (some ⟨w.heap.size, 0, none⟩)), (10, .pointer (some ⟨w18.heap.size, 0, none⟩)), (11, .int .i64 0), (12, .bool false), (13, .pointer (some ⟨w44.heap.size, 0, none⟩)), (16, .bool (decide ((lb.length : Int) > 4000))), (51, .bool false)]) ?_ (sub_cons rfl (sub_cons rfl (sub_cons rfl (sub_cons rfl (sub_cons rfl (sub_cons rfl (sub_cons rfl (sub_cons rfl (sub_cons rfl (sub_cons rfl (sub_cons rfl (sub_cons rfl sub_nil))))))))))))) a_ ha_
      refine t_seq (fun K240 hK240 => ?_)
      refine t_seq (fun K241 hK241 => ?_)
      refine t_region ?_
      refine tl_val (w' := w235) rfl (do_move rfl) (by decide) ?_
      have h243 := (Rd.chgNe (Rd.chg ha (Rd.chgNe (Rd.chg ha (Rd.chgNe (Rd.chg ha (Rd.chgNe (Rd.chg ha ha hb15 (fun _ _ x => x)) hb20 (fun a_ h1_ h2_ => Rd.ne (cs := [.int .i64 0]) (Rd.chg ha ha hb15 (fun _ _ x => x)) hc17 (by rfl) a_ h1_ h2_)) hb26 (fun _ _ x => x)) hb31 (fun a_ h1_ h2_ => Rd.ne (cs := [.int .i64 0]) (Rd.chg ha (Rd.chgNe (Rd.chg ha ha hb15 (fun _ _ x => x)) hb20 (fun a_ h1_ h2_ => Rd.ne (cs := [.int .i64 0]) (Rd.chg ha ha hb15 (fun _ _ x => x)) hc17 (by rfl) a_ h1_ h2_)) hb26 (fun _ _ x => x)) hc28 (by rfl) a_ h1_ h2_)) hchg36 (fun _ _ x => x)) hchg41 (fun a_ h1_ h2_ => Rd.ne (cs := [.int .i64 0]) (Rd.chg ha (Rd.chgNe (Rd.chg ha (Rd.chgNe (Rd.chg ha ha hb15 (fun _ _ x => x)) hb20 (fun a_ h1_ h2_ => Rd.ne (cs := [.int .i64 0]) (Rd.chg ha ha hb15 (fun _ _ x => x)) hc17 (by rfl) a_ h1_ h2_)) hb26 (fun _ _ x => x)) hb31 (fun a_ h1_ h2_ => Rd.ne (cs := [.int .i64 0]) (Rd.chg ha (Rd.chgNe (Rd.chg ha ha hb15 (fun _ _ x => x)) hb20 (fun a_ h1_ h2_ => Rd.ne (cs := [.int .i64 0]) (Rd.chg ha ha hb15 (fun _ _ x => x)) hc17 (by rfl) a_ h1_ h2_)) hb26 (fun _ _ x => x)) hc28 (by rfl) a_ h1_ h2_)) hchg36 (fun _ _ x => x)) h43 (by rfl) a_ h1_ h2_)) hb232 (fun _ _ x => x)) hb237 (fun a_ h1_ h2_ => Rd.ne (cs := [.int .i64 0]) (Rd.chg ha (Rd.chgNe (Rd.chg ha (Rd.chgNe (Rd.chg ha (Rd.chgNe (Rd.chg ha ha hb15 (fun _ _ x => x)) hb20 (fun a_ h1_ h2_ => Rd.ne (cs := [.int .i64 0]) (Rd.chg ha ha hb15 (fun _ _ x => x)) hc17 (by rfl) a_ h1_ h2_)) hb26 (fun _ _ x => x)) hb31 (fun a_ h1_ h2_ => Rd.ne (cs := [.int .i64 0]) (Rd.chg ha (Rd.chgNe (Rd.chg ha ha hb15 (fun _ _ x => x)) hb20 (fun a_ h1_ h2_ => Rd.ne (cs := [.int .i64 0]) (Rd.chg ha ha hb15 (fun _ _ x => x)) hc17 (by rfl) a_ h1_ h2_)) hb26 (fun _ _ x => x)) hc28 (by rfl) a_ h1_ h2_)) hchg36 (fun _ _ x => x)) hchg41 (fun a_ h1_ h2_ => Rd.ne (cs := [.int .i64 0]) (Rd.chg ha (Rd.chgNe (Rd.chg ha (Rd.chgNe (Rd.chg ha ha hb15 (fun _ _ x => x)) hb20 (fun a_ h1_ h2_ => Rd.ne (cs := [.int .i64 0]) (Rd.chg ha ha hb15 (fun _ _ x => x)) hc17 (by rfl) a_ h1_ h2_)) hb26 (fun _ _ x => x)) hb31 (fun a_ h1_ h2_ => Rd.ne (cs := [.int .i64 0]) (Rd.chg ha (Rd.chgNe (Rd.chg ha ha hb15 (fun _ _ x => x)) hb20 (fun a_ h1_ h2_ => Rd.ne (cs := [.int .i64 0]) (Rd.chg ha ha hb15 (fun _ _ x => x)) hc17 (by rfl) a_ h1_ h2_)) hb26 (fun _ _ x => x)) hc28 (by rfl) a_ h1_ h2_)) hchg36 (fun _ _ x => x)) h43 (by rfl) a_ h1_ h2_)) hb232 (fun _ _ x => x)) hc234 (by rfl) a_ h1_ h2_))
      refine tl_call rfl (en_call (f := 12) (vs := [.slice A0 lb.length c0]) (by kernel_rfl) rfl) rfl (own_e h243 (by omega)) (fun v246 w244 hr245 => ?_) (fun _ _ h => h.elim) (fun _ h => h)
      obtain ⟨A242, c242, rfl, hrd242, hchg242⟩ := hr245
      have hz247 := hchg242.size
      refine tl_val (w' := w244) rfl (do_move rfl) (by decide) ?_
      refine tl_val (w' := w244) rfl (do_makeFunc rfl) (by decide) ?_
      have h249 := (hchg242.obj (fun x => x) (hb237.obj (show ¬ w.heap.size = w44.heap.size by omega) (hb232.obj (fun x => x) (hchg41.obj (show ¬ w.heap.size = w18.heap.size by omega) h42))))
      have h250 := (hchg242.obj (fun x => x) hc239)
      have hl9_248 := lt_obj h249
      have hl10_248 := lt_obj h250
      refine tl_call rfl (en_call (f := 15) (vs := [.slice A242 lb.length c242, .bool big, .func (.func 19) #[] #[.pointer (some ⟨w.heap.size, 0, none⟩), .pointer (some ⟨w44.heap.size, 0, none⟩)]]) (by kernel_rfl) rfl) rfl (try_e 19 #[.pointer (some ⟨w.heap.size, 0, none⟩), .pointer (some ⟨w44.heap.size, 0, none⟩)] (M := fun k_ => k_ = w44.heap.size) (fun o w' => ∃ y : Int, w'.heap[w44.heap.size]? = some (.cells #[.int .i64 y] 3 (0, 0)) ∧ BackRel2 lb big s o y) hrd242 (by intro k_ h_; have h2_ : k_ = w44.heap.size := h_; omega) (by kernel_rfl) (fun o w2 w3 h_ hC => h_.imp fun y h_ => ⟨hC.obj (by omega) h_.1, h_.2⟩) (fun W hW hz hc => back2_e _ w.heap.size w44.heap.size _ _ lb big s 0 W hc (hW.obj (fun x => x) h249) (hW.obj (fun x => x) h250) (by omega) (by omega))) (fun v253 w251 hr252 => ?_) (fun _ _ h => h.elim) (fun _ h => h)
      obtain ⟨o248, rfl, ⟨y248, hy248, hrel248⟩, hchg248⟩ := hr252
      have hz254 := hchg248.size
      rcases hrel248 with ⟨k_, hk0_, rfl⟩ | ⟨m_, hnum_, rfl, rfl⟩
      · refine tl_val (w' := w251) rfl (do_eql rfl rfl) (by decide) ?_
        refine tl_end ?_
        refine fun a_ ha_ => hK241 _ _ _ (T.sub (L' := [(0, .int .i64 n), (1, .int .u8 z), (2, .bool big), (3, .slice A0 lb.length c0), (8, .bool false), (9, .pointer (some ⟨w.heap.size, 0, none⟩)), (10, .pointer (some ⟨w18.heap.size, 0, none⟩)), (11, .int .i64 0), (12, .bool false), (13, .pointer (some ⟨w44.heap.size, 0, none⟩)), (16, .bool (decide ((lb.length : Int) > 4000))), (51, .bool false), (57, .bool (decide ((k_ : Int) = 0)))]) ?_ (sub_cons rfl (sub_cons rfl (sub_cons rfl (sub_cons rfl (sub_cons rfl (sub_cons rfl (sub_cons rfl (sub_cons rfl (sub_cons rfl (sub_cons rfl (sub_cons rfl (sub_cons rfl (sub_cons rfl sub_nil)))))))))))))) a_ ha_
        have hk255 : (decide ((k_ : Int) = 0)) = false := (decide_eq_false (show ¬ ((k_ : Int) = 0) from (by omega)))
        refine t_no rfl hk255 ?_
        refine t_skip ?_
        refine fun a_ ha_ => hK240 _ _ _ (T.sub (L' := [(0, .int .i64 n), (1, .int .u8 z), (2, .bool big), (3, .slice A0 lb.length c0), (8, .bool false), (9, .pointer (some ⟨w.heap.size, 0, none⟩)), (10, .pointer (some ⟨w18.heap.size, 0, none⟩)), (11, .int .i64 0), (12, .bool false), (13, .pointer (some ⟨w44.heap.size, 0, none⟩)), (16, .bool (decide ((lb.length : Int) > 4000))), (51, .bool false), (57, .bool (decide ((k_ : Int) = 0)))]) ?_ (sub_cons rfl (sub_cons rfl (sub_cons rfl (sub_cons rfl (sub_cons rfl (sub_cons rfl (sub_cons rfl (sub_cons rfl (sub_cons rfl (sub_cons rfl (sub_cons rfl (sub_cons rfl (sub_cons rfl sub_nil)))))))))))))) a_ ha_
        refine t_seq (fun K256 hK256 => ?_)
        refine t_region ?_
        refine tl_call rfl (en_call (f := 10) (vs := []) (by kernel_rfl) rfl) rfl (awake_e w251) (fun v260 w258 hr259 => ?_) (fun _ _ h => h.elim) (fun _ h => h)
        obtain ⟨rfl, hchg257⟩ := hr259
        have hz261 := hchg257.size
        refine tl_val (w' := w258) rfl (do_assign rfl) (by decide) ?_
        refine tl_end ?_
        refine fun a_ ha_ => hK256 _ _ _ (T.sub (L' := [(0, .int .i64 n), (1, .int .u8 z), (2, .bool big), (3, .slice A0 lb.length c0), (8, .bool true), (9, .pointer (some ⟨w.heap.size, 0, none⟩)), (10, .pointer (some ⟨w18.heap.size, 0, none⟩)), (11, .int .i64 0), (12, .bool false), (13, .pointer (some ⟨w44.heap.size, 0, none⟩)), (16, .bool (decide ((lb.length : Int) > 4000))), (51, .bool false), (57, .bool (decide ((k_ : Int) = 0)))]) ?_ (sub_cons rfl (sub_cons rfl (sub_cons rfl (sub_cons rfl (sub_cons rfl (sub_cons rfl (sub_cons rfl (sub_cons rfl (sub_cons rfl (sub_cons rfl (sub_cons rfl (sub_cons rfl (sub_cons rfl sub_nil)))))))))))))) a_ ha_
        refine t_ret ?_
        refine fun a_ ha_ => hQ0 _ _ _ (body_ret (rs := [.tmp 8]) (vs := [.bool true]) ha_ (by kernel_rfl) ⟨_, _, rfl, rfl, rfl⟩ ?_)
        exact ⟨rfl, ((((((((((((Chg.refl (fun k_ => False) w).step hb15 (fun k_ hk_ (h_ : False) => h_.elim)).step hb20 (fun k_ hk_ (h_ : k_ = w.heap.size) => (show False by omega))).step hb26 (fun k_ hk_ (h_ : False) => h_.elim)).step hb31 (fun k_ hk_ (h_ : k_ = w18.heap.size) => (show False by omega))).step hchg36 (fun k_ hk_ (h_ : False) => h_.elim)).step hchg41 (fun k_ hk_ (h_ : k_ = w18.heap.size) => (show False by omega))).step hb232 (fun k_ hk_ (h_ : False) => h_.elim)).step hb237 (fun k_ hk_ (h_ : k_ = w44.heap.size) => (show False by omega))).step hchg242 (fun k_ hk_ (h_ : False) => h_.elim)).step hchg248 (fun k_ hk_ (h_ : k_ = w44.heap.size) => (show False by omega))).step hchg257 (fun k_ hk_ (h_ : False) => h_.elim))⟩
      · have hm1_ := hnum_.2.1
        have hm2_ := hnum_.2.2.2
        refine tl_val (w' := w251) rfl (do_eql rfl rfl) (by decide) ?_
        have hk262 : (decide ((0 : Int) = 0)) = true := by decide
        refine tl_end ?_
        refine fun a_ ha_ => hK241 _ _ _ (T.sub (L' := [(0, .int .i64 n), (1, .int .u8 z), (2, .bool big), (3, .slice A0 lb.length c0), (8, .bool false), (9, .pointer (some ⟨w.heap.size, 0, none⟩)), (10, .pointer (some ⟨w18.heap.size, 0, none⟩)), (11, .int .i64 0), (12, .bool false), (13, .pointer (some ⟨w44.heap.size, 0, none⟩)), (16, .bool (decide ((lb.length : Int) > 4000))), (51, .bool false), (57, .bool (decide ((0 : Int) = 0)))]) ?_ (sub_cons rfl (sub_cons rfl (sub_cons rfl (sub_cons rfl (sub_cons rfl (sub_cons rfl (sub_cons rfl (sub_cons rfl (sub_cons rfl (sub_cons rfl (sub_cons rfl (sub_cons rfl (sub_cons rfl sub_nil)))))))))))))) a_ ha_
        refine t_yes rfl hk262 ?_
        refine t_seq (fun K263 hK263 => ?_)
        refine t_drawnC (fun _ => False) [(true, 0, { dst := (some 58), op := (Go.Op.move (Go.Operand.tmp 3)), type := 22, pos := "law.go:152", after := #[], guard := none }), (true, 1, { dst := (some 59), op := (Go.Op.call { callee := (Go.Callee.builtin Go.Builtin.len), args := #[(Go.Operand.tmp 58)], argTypes := #[22] }), type := 3, pos := "law.go:152", after := #[{ on := 0, ground := Go.Ground.data }], guard := none }), (true, 2, { dst := (some 60), op := (Go.Op.load 3 (Go.Operand.tmp 9)), type := 3, pos := "law.go:152", after := #[], guard := none }), (true, 3, { dst := (some 61), op := (Go.Op.binOp Go.BinOp.geq 3 (Go.Operand.tmp 59) (Go.Operand.tmp 60) 3), type := 4, pos := "law.go:152", after := #[{ on := 1, ground := Go.Ground.data }, { on := 2, ground := Go.Ground.data }], guard := none }), (true, 4, { dst := (some 62), op := (Go.Op.move (Go.Operand.tmp 61)), type := 4, pos := "law.go:152", after := #[{ on := 3, ground := Go.Ground.data }], guard := none }), (true, 5, { dst := (some 63), op := (Go.Op.load 3 (Go.Operand.tmp 13)), type := 3, pos := "law.go:152", after := #[{ on := 4, ground := Go.Ground.guard }], guard := (some (4, true)) }), (true, 6, { dst := (some 64), op := (Go.Op.load 3 (Go.Operand.tmp 9)), type := 3, pos := "law.go:152", after := #[{ on := 4, ground := Go.Ground.guard }], guard := (some (4, true)) }), (true, 7, { dst := (some 65), op := (Go.Op.move (Go.Operand.tmp 2)), type := 4, pos := "law.go:152", after := #[{ on := 4, ground := Go.Ground.guard }], guard := (some (4, true)) }), (true, 10, { dst := (some 68), op := (Go.Op.move (Go.Operand.tmp 3)), type := 22, pos := "law.go:152", after := #[{ on := 4, ground := Go.Ground.guard }], guard := (some (4, true)) }), (true, 11, { dst := (some 69), op := (Go.Op.load 3 (Go.Operand.tmp 9)), type := 3, pos := "law.go:152", after := #[{ on := 4, ground := Go.Ground.guard }], guard := (some (4, true)) }), (true, 12, { dst := (some 70), op := (Go.Op.slice 22 (Go.Operand.tmp 68) none (some (Go.Operand.tmp 69)) none), type := 22, pos := "law.go:152", after := #[{ on := 10, ground := Go.Ground.data }, { on := 11, ground := Go.Ground.data }, { on := 4, ground := Go.Ground.guard }], guard := (some (4, true)) }), (true, 13, { dst := (some 71), op := (Go.Op.convert 22 9 (Go.Operand.tmp 70)), type := 9, pos := "law.go:152", after := #[{ on := 12, ground := Go.Ground.data }, { on := 4, ground := Go.Ground.guard }], guard := (some (4, true)) }), (false, 8, { dst := (some 66), op := (Go.Op.call { callee := (Go.Callee.value (Go.Operand.func 13)), args := #[(Go.Operand.const (Go.Value.slice none 0 0)), (Go.Operand.tmp 63), (Go.Operand.tmp 64), (Go.Operand.tmp 65)], argTypes := #[22, 3, 3, 4] }), type := 22, pos := "law.go:152", after := #[{ on := 5, ground := Go.Ground.data }, { on := 6, ground := Go.Ground.data }, { on := 7, ground := Go.Ground.data }, { on := 4, ground := Go.Ground.chain }, { on := 4, ground := Go.Ground.guard }], guard := (some (4, true)) }), (true, 9, { dst := (some 67), op := (Go.Op.convert 22 9 (Go.Operand.tmp 66)), type := 9, pos := "law.go:152", after := #[{ on := 8, ground := Go.Ground.data }, { on := 4, ground := Go.Ground.guard }], guard := (some (4, true)) }), (true, 14, { dst := (some 72), op := (Go.Op.binOp Go.BinOp.eql 9 (Go.Operand.tmp 67) (Go.Operand.tmp 71) 9), type := 4, pos := "law.go:152", after := #[{ on := 9, ground := Go.Ground.data }, { on := 13, ground := Go.Ground.data }, { on := 4, ground := Go.Ground.guard }], guard := (some (4, true)) }), (true, 15, { dst := (some 73), op := (Go.Op.pick (Go.Operand.tmp 62) (Go.Operand.tmp 72) (Go.Operand.const (Go.Value.bool false))), type := 4, pos := "law.go:152", after := #[{ on := 4, ground := Go.Ground.data }, { on := 14, ground := Go.Ground.data }], guard := none }), (true, 16, { dst := (some 74), op := (Go.Op.move (Go.Operand.tmp 73)), type := 4, pos := "law.go:152", after := #[{ on := 15, ground := Go.Ground.data }, { on := 8, ground := Go.Ground.chain }], guard := none }), (false, 17, { dst := (some 75), op := (Go.Op.call { callee := (Go.Callee.value (Go.Operand.func 10)), args := #[], argTypes := #[] }), type := 4, pos := "law.go:152", after := #[{ on := 16, ground := Go.Ground.chain }, { on := 16, ground := Go.Ground.guard }], guard := (some (16, true)) }), (true, 18, { dst := (some 76), op := (Go.Op.pick (Go.Operand.tmp 74) (Go.Operand.tmp 75) (Go.Operand.const (Go.Value.bool false))), type := 4, pos := "law.go:152", after := #[{ on := 16, ground := Go.Ground.data }, { on := 17, ground := Go.Ground.data }], guard := none }), (true, 19, { dst := (some 8), op := (Go.Op.assign (Go.Operand.tmp 76)), type := 4, pos := "law.go:152", after := #[{ on := 18, ground := Go.Ground.data }, { on := 17, ground := Go.Ground.chain }, { on := 0, ground := Go.Ground.phase }, { on := 1, ground := Go.Ground.phase }, { on := 2, ground := Go.Ground.phase }, { on := 3, ground := Go.Ground.phase }, { on := 4, ground := Go.Ground.phase }, { on := 5, ground := Go.Ground.phase }, { on := 6, ground := Go.Ground.phase }, { on := 7, ground := Go.Ground.phase }, { on := 8, ground := Go.Ground.phase }, { on := 9, ground := Go.Ground.phase }, { on := 10, ground := Go.Ground.phase }, { on := 11, ground := Go.Ground.phase }, { on := 12, ground := Go.Ground.phase }, { on := 13, ground := Go.Ground.phase }, { on := 14, ground := Go.Ground.phase }, { on := 15, ground := Go.Ground.phase }, { on := 16, ground := Go.Ground.phase }, { on := 17, ground := Go.Ground.phase }, { on := 18, ground := Go.Ground.phase }], guard := none })] rfl (by kernel_rfl) (by repeat (first | exact hB0 | apply blind_then | apply blind_in)) (by kernel_rfl) (by kernel_rfl) rfl (fun w264 hb265 hz266 => ?_)
        refine td_takeC rfl (by decide) (fun w_ h_ => (do_move rfl)) ?_
        refine td_takeC rfl (by decide) (fun w_ h_ => (do_builtin (vs := [.slice A0 lb.length c0]) (v := .int .i64 (lb.length : Int)) rfl (fun _ _ => by kernel_rfl))) ?_
        have h267 := (hb265.obj (fun x => x) (hchg248.obj (show ¬ w.heap.size = w44.heap.size by omega) h249))
        refine td_takeC rfl (by decide) (fun w_ h_ => (do_load (v := .int .i64 (s : Int)) rfl (by kernel_rfl) (by rw [obj_cell (h_.obj (fun x => x) h267)]; rfl))) ?_
        refine td_takeC rfl (by decide) (fun w_ h_ => (do_geq rfl rfl)) ?_
        refine td_takeC rfl (by decide) (fun w_ h_ => (do_move rfl)) ?_
        have hk268 : (decide ((lb.length : Int) ≥ (s : Int))) = true := (decide_eq_true (show (lb.length : Int) ≥ (s : Int) from (by omega)))
        have h269 := (hb265.obj (fun x => x) hy248)
        refine td_takeC ⟨62, _, rfl, rfl, (by rw [hk268]; rfl)⟩ (by decide) (fun w_ h_ => (do_load (v := .int .i64 (m_ : Int)) rfl (by kernel_rfl) (by rw [obj_cell (h_.obj (fun x => x) h269)]; rfl))) ?_
        refine td_takeC ⟨62, _, rfl, rfl, (by rw [hk268]; rfl)⟩ (by decide) (fun w_ h_ => (do_load (v := .int .i64 (s : Int)) rfl (by kernel_rfl) (by rw [obj_cell (h_.obj (fun x => x) h267)]; rfl))) ?_
        refine td_takeC ⟨62, _, rfl, rfl, (by rw [hk268]; rfl)⟩ (by decide) (fun w_ h_ => (do_move rfl)) ?_
        refine td_takeC ⟨62, _, rfl, rfl, (by rw [hk268]; rfl)⟩ (by decide) (fun w_ h_ => (do_move rfl)) ?_
        refine td_takeC ⟨62, _, rfl, rfl, (by rw [hk268]; rfl)⟩ (by decide) (fun w_ h_ => (do_load (v := .int .i64 (s : Int)) rfl (by kernel_rfl) (by rw [obj_cell (h_.obj (fun x => x) h267)]; rfl))) ?_
        have h270 := (Rd.chg ha (Rd.chgNe (Rd.chg ha h243 hchg242 (fun _ _ x => x)) hchg248 (fun a_ h1_ h2_ => Rd.ne (cs := [.int .i64 0]) (Rd.chg ha h243 hchg242 (fun _ _ x => x)) h250 (by rfl) a_ h1_ h2_)) hb265 (fun _ _ x => x))
        have hs271 := fun W => slice_rd (P := Try.prog) (t := 22) (lo := 0) (hi := s) (l' := none) (h' := (some (.int .i64 (s : Int)))) h270 (by kernel_rfl) (by omega) (by omega) (by omega) (.inl ⟨rfl, rfl⟩) (.inr ⟨_, rfl⟩) W
        refine td_takeC ⟨62, _, rfl, rfl, (by rw [hk268]; rfl)⟩ (by decide) (fun w_ h_ => (do_slice (v := .slice (sub A0 c0 0 1) (((lb.drop 0).take (s - 0)).length) (c0 - 0)) rfl rfl rfl rfl (hs271 _).1)) ?_
        refine td_takeC ⟨62, _, rfl, rfl, (by rw [hk268]; rfl)⟩ (by decide) (fun w_ h_ => (do_convert (u := .slice (sub A0 c0 0 1) (((lb.drop 0).take (s - 0)).length) (c0 - 0)) rfl (run_str (Rd.chg (hs271 w264).2 (hs271 w264).2 h_ (fun _ _ x => x))))) ?_
        refine td_callC ⟨62, _, rfl, rfl, (by rw [hk268]; rfl)⟩ rfl (en_call (f := 13) (vs := [.slice none 0 0, .int .i64 (m_ : Int), .int .i64 (s : Int), .bool big]) (by kernel_rfl) rfl) (put_e (m_ : Int) (s : Int) big (l := ([])) (Rd.nilAt _) (by first | omega | simp) (by omega) (by omega)) (fun v275 w273 hr274 => ?_) (fun _ _ h => h.elim) (fun _ h => h)
        obtain ⟨A272, c272, rfl, hrd272, hchg272⟩ := hr274
        refine ⟨hchg272.mono (fun _ _ x => x.elim), ?_⟩
        have hz276 := hchg272.size
        refine td_takeC ⟨62, _, rfl, rfl, (by rw [hk268]; rfl)⟩ (by decide) (fun w_ h_ => (do_convert (u := .slice A272 ((put ([]) (m_ : Int) (s : Int) big).length) c272) rfl (run_str (Rd.chg hrd272 hrd272 h_ (fun _ _ x => x))))) ?_
        refine td_takeC ⟨62, _, rfl, rfl, (by rw [hk268]; rfl)⟩ (by decide) (fun w_ h_ => (do_eqs rfl rfl)) ?_
        refine td_takeC rfl (by decide) (fun w_ h_ => (do_pick_t rfl hk268 rfl)) ?_
        refine td_takeC rfl (by decide) (fun w_ h_ => (do_move rfl)) ?_
        have hk277 : (decide ((put ([]) (m_ : Int) (s : Int) big) = ((lb.drop 0).take (s - 0)))) = true := (decide_eq_true (show (put ([]) (m_ : Int) (s : Int) big) = ((lb.drop 0).take (s - 0)) from (back_put hs hnum_)))
        refine td_callC ⟨74, _, rfl, rfl, (by rw [hk277]; rfl)⟩ rfl (en_call (f := 10) (vs := []) (by kernel_rfl) rfl) (awake_e w273) (fun v281 w279 hr280 => ?_) (fun _ _ h => h.elim) (fun _ h => h)
        obtain ⟨rfl, hchg278⟩ := hr280
        refine ⟨hchg278.mono (fun _ _ x => x.elim), ?_⟩
        have hz282 := hchg278.size
        refine td_takeC rfl (by decide) (fun w_ h_ => (do_pick_t rfl hk277 rfl)) ?_
        refine td_takeC rfl (by decide) (fun w_ h_ => (do_assign rfl)) ?_
        refine td_end ?_
        refine fun a_ ha_ => hK263 _ _ _ (T.sub (L' := [(0, .int .i64 n), (1, .int .u8 z), (2, .bool big), (3, .slice A0 lb.length c0), (8, .bool true), (9, .pointer (some ⟨w.heap.size, 0, none⟩)), (10, .pointer (some ⟨w18.heap.size, 0, none⟩)), (11, .int .i64 0), (12, .bool false), (13, .pointer (some ⟨w44.heap.size, 0, none⟩)), (16, .bool (decide ((lb.length : Int) > 4000))), (51, .bool false), (57, .bool (decide ((0 : Int) = 0)))]) ?_ (sub_cons rfl (sub_cons rfl (sub_cons rfl (sub_cons rfl (sub_cons rfl (sub_cons rfl (sub_cons rfl (sub_cons rfl (sub_cons rfl (sub_cons rfl (sub_cons rfl (sub_cons rfl (sub_cons rfl sub_nil)))))))))))))) a_ ha_
        refine t_ret ?_
        refine fun a_ ha_ => hQ0 _ _ _ (body_ret (rs := [.tmp 8]) (vs := [.bool true]) ha_ (by kernel_rfl) ⟨_, _, rfl, rfl, rfl⟩ ?_)
        exact ⟨rfl, ((((((((((((((Chg.refl (fun k_ => False) w).step hb15 (fun k_ hk_ (h_ : False) => h_.elim)).step hb20 (fun k_ hk_ (h_ : k_ = w.heap.size) => (show False by omega))).step hb26 (fun k_ hk_ (h_ : False) => h_.elim)).step hb31 (fun k_ hk_ (h_ : k_ = w18.heap.size) => (show False by omega))).step hchg36 (fun k_ hk_ (h_ : False) => h_.elim)).step hchg41 (fun k_ hk_ (h_ : k_ = w18.heap.size) => (show False by omega))).step hb232 (fun k_ hk_ (h_ : False) => h_.elim)).step hb237 (fun k_ hk_ (h_ : k_ = w44.heap.size) => (show False by omega))).step hchg242 (fun k_ hk_ (h_ : False) => h_.elim)).step hchg248 (fun k_ hk_ (h_ : k_ = w44.heap.size) => (show False by omega))).step hb265 (fun k_ hk_ (h_ : False) => h_.elim)).step hchg272 (fun k_ hk_ (h_ : False) => h_.elim)).step hchg278 (fun k_ hk_ (h_ : False) => h_.elim))⟩
theorem cursorBack_walk (n z : Int) (big : Bool) (A0 : Option Addr) (c0 : Nat) (lb : List UInt8) (w : World) (hn : (Lit.int .i64 n).wf = true) (hz : (Lit.int .u8 z).wf = true) (ha : Rd w A0 c0 lb) :
    Calls Try.prog 5 #[.int .i64 n, .int .u8 z, .bool big, .slice A0 lb.length c0] w (RetTrue w) := by
  obtain ⟨hn0, hn1⟩ := bounds_i64 hn
  obtain ⟨hz0, hz1⟩ := bounds_u8 hz
  have h4 : z % 4 = 0 ∨ z % 4 = 1 ∨ z % 4 = 2 ∨ z % 4 = 3 := by omega
  have key : ∀ (s : Nat) (R : Int), (s = 1 ∨ s = 2 ∨ s = 4 ∨ s = 8) → IntKind.i64.wrap (1 * 2 ^ min (z % 4).toNat IntKind.i64.bits) = (s : Int) → ((s = 1 ∧ R = 256) ∨ (s = 2 ∧ R = 65536) ∨ ((s = 4 ∨ s = 8) ∧ R = 4294967296)) →
      IntKind.i64.wrap (1 * 2 ^ min (8 * min (s : Int) 4).toNat IntKind.i64.bits) = R → Calls Try.prog 5 #[.int .i64 n, .int .u8 z, .bool big, .slice A0 lb.length c0] w (RetTrue w) := fun s R h1 h2 h3 h4 =>
    (cursorBack_any n z big A0 c0 lb s R w ha hn0 hn1 hz0 (by omega) h1 h2 h3 h4).mono fun e w' h => ret_true h
  rcases h4 with h | h | h | h
  · exact key 1 256 (by simp) (by rw [h]; decide) (by simp) (by decide)
  · exact key 2 65536 (by simp) (by rw [h]; decide) (by simp) (by decide)
  · exact key 4 4294967296 (by simp) (by rw [h]; decide) (by simp) (by decide)
  · exact key 8 4294967296 (by simp) (by rw [h]; decide) (by simp) (by decide)
end Go.Proofs.Ytkhjgmcndieecaa
