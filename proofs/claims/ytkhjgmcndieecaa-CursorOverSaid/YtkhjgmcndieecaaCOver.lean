/-
  The walk of CursorOver.
-/
import Derived.Test.YtkhjgmcndieecaaCPure
import Derived.OpenShut
set_option linter.unusedVariables false
set_option linter.unusedSimpArgs false
set_option maxRecDepth 100000
namespace Go.Proofs.Ytkhjgmcndieecaa
open Go.RowKit

theorem fail_e {w : World} {p : Nat} (x : Int) (h3 : w.cell? ⟨p, 3, none⟩ = some (.bool true)) : Calls Try.prog 30 [.pointer (some ⟨p, 0, none⟩), .int .i64 x].toArray w
    (Out (fun v w' => v = .tuple #[] ∧ x = 0 ∧ w = w') (fun ch w' => ch = gave x ∧ x ≠ 0 ∧ w = w')) := by
  by_cases h : x = 0
  · subst h
    refine (fail_none p w h3).mono ?_
    rintro e w' ⟨rfl, rfl⟩
    exact ⟨rfl, rfl, rfl⟩
  · refine (fail_live p x w h3 (by simpa using h)).mono ?_
    rintro e w' ⟨rfl, rfl⟩
    exact ⟨rfl, h, rfl⟩
theorem over1_e (p q1 q2 : Nat) (A : Option Addr) (c : Nat) (l : List UInt8) (big : Bool) (u : Value) (x : Int) (w : World) (hu : noByte [u] = true) (hu1 : u.oneCell' = true) (hc : Cur w p A c l 0 big true) (h1 : w.heap[q1]? = some (.cells #[u] 30 (0, 0))) (h2 : w.heap[q2]? = some (.cells #[.int .i64 x] 3 (0, 0))) (hq : q1 < p ∧ q2 < p ∧ q1 ≠ q2) :
    Calls Try.prog 29 [.pointer (some ⟨p, 0, none⟩), .pointer (some ⟨q1, 0, none⟩), .pointer (some ⟨q2, 0, none⟩)].toArray w
      (Rdr p (fun k => k = q1) (fun o w' => w'.heap[q1]? = some (.cells #[.pointer (some ⟨p, 0, none⟩)] 30 (0, 0)) ∧ ((x = 0 ∧ o = .ok ()) ∨ (x ≠ 0 ∧ o = .error x))) w) := by
  refine enter (n := 8) (L := [(0, .pointer (some ⟨p, 0, none⟩)), (1, .pointer (some ⟨q1, 0, none⟩)), (2, .pointer (some ⟨q2, 0, none⟩))]) (args := [.pointer (some ⟨p, 0, none⟩), .pointer (some ⟨q1, 0, none⟩), .pointer (some ⟨q2, 0, none⟩)]) Try.func29 rfl rfl (Nat.le_of_ble_eq_true rfl) (by intro t v h; exact look_args h) ?_
  refine t_body (fun Q0 hB0 hQ0 => ?_)
  refine t_seq (fun K1 hK1 => ?_)
  refine t_region ?_
  refine tl_val (w' := w) rfl (do_move rfl) (by decide) ?_
  refine tl_unit rfl (do_store (u := u) rfl rfl rfl (by kernel_rfl) (by rw [obj_cell h1]; rfl) (obj_frozen h1 _)) ?_
  refine tl_gen (fun w2 e3 => ?_)
  have hb4 : Chg (fun k => k = q1) w w2 := e3 ▸ Chg.setCell _ _ _ _
  have hz5 : w2.heap.size = w.heap.size := by rw [e3]; simp
  have hc6 : w2.heap[q1]? = some (.cells #[.pointer (some ⟨p, 0, none⟩)] 30 (0, 0)) := by rw [e3]; exact obj_setCell h1
  clear e3
  refine tl_end ?_
  refine fun a_ ha_ => hK1 _ _ _ (T.sub (L' := [(0, .pointer (some ⟨p, 0, none⟩)), (1, .pointer (some ⟨q1, 0, none⟩)), (2, .pointer (some ⟨q2, 0, none⟩))]) ?_ (sub_cons rfl (sub_cons rfl (sub_cons rfl sub_nil)))) a_ ha_
  refine t_region ?_
  refine tl_val (w' := w2) rfl (do_move rfl) (by decide) ?_
  have h7 := (hb4.obj (show ¬ q2 = q1 by omega) h2)
  refine tl_val (w' := w2) rfl (do_load (v := .int .i64 x) rfl (by kernel_rfl) (by rw [obj_cell h7]; rfl)) (by decide) ?_
  have h8 := (Cur.chg hc hb4 (show ¬ p = q1 by omega) (fun a_ h1_ h2_ => Rd.ne (cs := [u]) (hc).rd h1 hu a_ h1_ h2_))
  refine tl_call rfl (en_call (f := 30) (vs := [.pointer (some ⟨p, 0, none⟩), .int .i64 x]) (by kernel_rfl) rfl) rfl (fail_e x h8.c3) (fun v11 _ hr10 => ?_) ?_ (fun _ h => h)
  · obtain ⟨rfl, hk9, rfl⟩ := hr10
    refine tl_end ?_
    refine fun a_ ha_ => hQ0 _ _ _ (body_end (rs := []) (vs := []) ha_ (by kernel_rfl) rfl ?_)
    exact ⟨rfl, ⟨hc6, .inl ⟨hk9, rfl⟩⟩, ((Chg.refl (fun k_ => k_ = q1 ∨ k_ = p) w).step hb4 (fun k_ hk_ (h_ : k_ = q1) => (show k_ = q1 ∨ k_ = p by omega))), _, _, _, _, _, _, h8⟩
  · intro ch_ w_ h_
    refine fun a_ ha_ => hQ0 _ _ _ (body_panic ha_ ?_)
    obtain ⟨rfl, hk_, rfl⟩ := h_
    exact ⟨x, hk_, rfl, ⟨hc6, .inr ⟨hk_, rfl⟩⟩, ((Chg.refl (fun k_ => k_ = q1 ∨ k_ = p) w).step hb4 (fun k_ hk_ (h_ : k_ = q1) => (show k_ = q1 ∨ k_ = p by omega))), _, _, _, _, _, _, h8⟩
theorem try_nil_e (A : Option Addr) (n c : Nat) (big : Bool) (w : World) : Calls Try.prog 15 [.slice A n c, .bool big, .nilFunc].toArray w (Ret fun v w' => v = .int .i64 1 ∧ Chg (fun _ => False) w w') := by
  refine enter (n := 18) (L := [(0, .slice A n c), (1, .bool big), (2, .nilFunc)]) (args := [.slice A n c, .bool big, .nilFunc]) Try.func15 rfl rfl (Nat.le_of_ble_eq_true rfl) (by intro t v h; exact look_args h) ?_
  refine t_body (fun Q0 hB0 hQ0 => ?_)
  refine t_seq (fun K1 hK1 => ?_)
  refine t_region ?_
  refine tl_val rfl (do_alloc (v := .pointer (some ⟨w.heap.size, 0, none⟩)) (w' := w.alloc (.cells #[.int .i64 0] 28)) (by kernel_rfl)) (by decide) ?_
  refine tl_gen (fun w2 e3 => ?_)
  have hb4 : Chg (fun _ => False) w w2 := e3 ▸ Chg.alloc _ _
  have hz5 : w2.heap.size = w.heap.size + 1 := by rw [e3]; exact size_alloc _ _
  have hc6 : w2.heap[w.heap.size]? = some (.cells #[.int .i64 0] 28 (0, 0)) := by rw [e3]; exact obj_new _ _
  clear e3
  refine tl_end ?_
  refine fun a_ ha_ => hK1 _ _ _ (T.sub (L' := [(0, .slice A n c), (1, .bool big), (2, .nilFunc), (6, .pointer (some ⟨w.heap.size, 0, none⟩))]) ?_ (sub_cons rfl (sub_cons rfl (sub_cons rfl (sub_cons rfl sub_nil))))) a_ ha_
  refine t_seq (fun K7 hK7 => ?_)
  refine t_seq (fun K8 hK8 => ?_)
  refine t_region ?_
  refine tl_val (w' := w2) rfl (do_move rfl) (by decide) ?_
  refine tl_val (w' := w2) rfl (do_binop (r := .bool true) rfl rfl (fun _ => rfl) (by kernel_rfl)) (by decide) ?_
  refine tl_end ?_
  refine fun a_ ha_ => hK8 _ _ _ (T.sub (L' := [(0, .slice A n c), (1, .bool big), (2, .nilFunc), (6, .pointer (some ⟨w.heap.size, 0, none⟩)), (9, .bool true)]) ?_ (sub_cons rfl (sub_cons rfl (sub_cons rfl (sub_cons rfl (sub_cons rfl sub_nil)))))) a_ ha_
  refine t_yes rfl rfl ?_
  refine t_seq (fun K9 hK9 => ?_)
  refine t_region ?_
  refine tl_unit rfl (do_store (u := .int .i64 0) rfl rfl rfl (by kernel_rfl) (by rw [obj_cell hc6]; rfl) (obj_frozen hc6 _)) ?_
  refine tl_gen (fun w10 e11 => ?_)
  have hb12 : Chg (fun k => k = w.heap.size) w2 w10 := e11 ▸ Chg.setCell _ _ _ _
  have hz13 : w10.heap.size = w2.heap.size := by rw [e11]; simp
  have hc14 : w10.heap[w.heap.size]? = some (.cells #[.int .i64 1] 28 (0, 0)) := by rw [e11]; exact obj_setCell hc6
  clear e11
  refine tl_end ?_
  refine fun a_ ha_ => hK9 _ _ _ (T.sub (L' := [(0, .slice A n c), (1, .bool big), (2, .nilFunc), (6, .pointer (some ⟨w.heap.size, 0, none⟩)), (9, .bool true)]) ?_ (sub_cons rfl (sub_cons rfl (sub_cons rfl (sub_cons rfl (sub_cons rfl sub_nil)))))) a_ ha_
  refine t_ret ?_
  refine fun a_ ha_ => hQ0 _ _ _ (body_ret (rs := [.cell 6 28]) (vs := [.int .i64 1]) ha_ (by kernel_rfl) ⟨_, _, _, rfl, rfl, (load_one (by kernel_rfl) (by rw [obj_cell hc14]; rfl)), rfl⟩ ?_)
  exact ⟨rfl, (((Chg.refl (fun k_ => False) w).step hb4 (fun k_ hk_ (h_ : False) => h_.elim)).step hb12 (fun k_ hk_ (h_ : k_ = w.heap.size) => (show False by omega)))⟩
theorem over_pick {w : World} {p k : Nat} (h : w.cell? ⟨p, 3, none⟩ = some (.bool false)) (hk : k < 2) : ∃ q, [Value.pointer (some ⟨p, 0, none⟩), .pointer none][k * 1]? = some (Value.pointer q) ∧ Dead w q := by
  have : k = 0 ∨ k = 1 := by omega
  rcases this with rfl | rfl
  · exact ⟨_, rfl, .inr ⟨p, rfl, h⟩⟩
  · exact ⟨_, rfl, .inl rfl⟩
theorem cursorOver_walk (A0 : Option Addr) (c0 : Nat) (lb : List UInt8) (big : Bool) (ka kn fail : Int) (w : World) (ha : Rd w A0 c0 lb) (hka : -9223372036854775808 ≤ ka ∧ ka ≤ 9223372036854775807) (hkn : -9223372036854775808 ≤ kn ∧ kn ≤ 9223372036854775807) (hf : (Lit.int .i64 fail).wf = true) :
    Calls Try.prog 9 #[.slice A0 lb.length c0, .bool big, .agg #[.int .i64 ka, .int .i64 kn], .int .i64 fail] w (RetTrue w) := by
  have hla := ha.len
  suffices h : Calls Try.prog 9 [.slice A0 lb.length c0, .bool big, .agg #[.int .i64 ka, .int .i64 kn], .int .i64 fail].toArray w (Ret fun v w' => v = .bool true ∧ Chg (fun _ => False) w w') from h.mono fun e w' h => ret_true h
  refine enter (n := 80) (L := [(0, .slice A0 lb.length c0), (1, .bool big), (2, .agg #[.int .i64 ka, .int .i64 kn]), (3, .int .i64 fail)]) (args := [.slice A0 lb.length c0, .bool big, .agg #[.int .i64 ka, .int .i64 kn], .int .i64 fail]) Try.func9 rfl rfl (Nat.le_of_ble_eq_true rfl) (by intro t v h; exact look_args h) ?_
  refine t_body (fun Q0 hB0 hQ0 => ?_)
  refine t_seq (fun K1 hK1 => ?_)
  refine t_region ?_
  refine tl_val rfl (do_box (v := .pointer (some ⟨w.heap.size, 0, none⟩)) (w' := w.alloc (.cells #[.int .i64 ka, .int .i64 kn] 44)) rfl (by kernel_rfl)) (by decide) ?_
  refine tl_gen (fun w2 e3 => ?_)
  have hb4 : Chg (fun _ => False) w w2 := e3 ▸ Chg.alloc _ _
  have hz5 : w2.heap.size = w.heap.size + 1 := by rw [e3]; exact size_alloc _ _
  have hc6 : w2.heap[w.heap.size]? = some (.cells #[.int .i64 ka, .int .i64 kn] 44 (0, 0)) := by rw [e3]; exact obj_new _ _
  clear e3
  refine tl_val rfl (do_box (v := .pointer (some ⟨w2.heap.size, 0, none⟩)) (w' := w2.alloc (.cells #[.int .i64 fail] 3)) rfl (by kernel_rfl)) (by decide) ?_
  refine tl_gen (fun w7 e8 => ?_)
  have hb9 : Chg (fun _ => False) w2 w7 := e8 ▸ Chg.alloc _ _
  have hz10 : w7.heap.size = w2.heap.size + 1 := by rw [e8]; exact size_alloc _ _
  have hc11 : w7.heap[w2.heap.size]? = some (.cells #[.int .i64 fail] 3 (0, 0)) := by rw [e8]; exact obj_new _ _
  clear e8
  refine tl_val (w' := w7) rfl (do_assign rfl) (by decide) ?_
  refine tl_end ?_
  refine fun a_ ha_ => hK1 _ _ _ (T.sub (L' := [(0, .slice A0 lb.length c0), (1, .bool big), (2, .agg #[.int .i64 ka, .int .i64 kn]), (3, .int .i64 fail), (6, .pointer (some ⟨w.heap.size, 0, none⟩)), (7, .pointer (some ⟨w2.heap.size, 0, none⟩)), (8, .bool false)]) ?_ (sub_cons rfl (sub_cons rfl (sub_cons rfl (sub_cons rfl (sub_cons rfl (sub_cons rfl (sub_cons rfl sub_nil)))))))) a_ ha_
  refine t_seq (fun K12 hK12 => ?_)
  refine t_seq (fun K13 hK13 => ?_)
  refine t_region ?_
  refine tl_val (w' := w7) rfl (do_move rfl) (by decide) ?_
  refine tl_val (w' := w7) rfl (do_builtin (vs := [.slice A0 lb.length c0]) (v := .int .i64 (lb.length : Int)) rfl (fun _ _ => by kernel_rfl)) (by decide) ?_
  refine tl_val (w' := w7) rfl (do_gtr rfl rfl) (by decide) ?_
  refine tl_end ?_
  refine fun a_ ha_ => hK13 _ _ _ (T.sub (L' := [(0, .slice A0 lb.length c0), (1, .bool big), (2, .agg #[.int .i64 ka, .int .i64 kn]), (3, .int .i64 fail), (6, .pointer (some ⟨w.heap.size, 0, none⟩)), (7, .pointer (some ⟨w2.heap.size, 0, none⟩)), (8, .bool false), (16, .bool (decide ((lb.length : Int) > 4000)))]) ?_ (sub_cons rfl (sub_cons rfl (sub_cons rfl (sub_cons rfl (sub_cons rfl (sub_cons rfl (sub_cons rfl (sub_cons rfl sub_nil))))))))) a_ ha_
  by_cases hc14 : (lb.length : Int) > 4000
  · have hk15 := decide_eq_true hc14
    refine t_yes rfl hk15 ?_
    refine t_seq (fun K16 hK16 => ?_)
    refine t_region ?_
    refine tl_call rfl (en_call (f := 10) (vs := []) (by kernel_rfl) rfl) rfl (awake_e w7) (fun v20 w18 hr19 => ?_) (fun _ _ h => h.elim) (fun _ h => h)
    obtain ⟨rfl, hchg17⟩ := hr19
    have hz21 := hchg17.size
    refine tl_val (w' := w18) rfl (do_assign rfl) (by decide) ?_
    refine tl_end ?_
    refine fun a_ ha_ => hK16 _ _ _ (T.sub (L' := [(0, .slice A0 lb.length c0), (1, .bool big), (2, .agg #[.int .i64 ka, .int .i64 kn]), (3, .int .i64 fail), (6, .pointer (some ⟨w.heap.size, 0, none⟩)), (7, .pointer (some ⟨w2.heap.size, 0, none⟩)), (8, .bool true), (16, .bool (decide ((lb.length : Int) > 4000)))]) ?_ (sub_cons rfl (sub_cons rfl (sub_cons rfl (sub_cons rfl (sub_cons rfl (sub_cons rfl (sub_cons rfl (sub_cons rfl sub_nil))))))))) a_ ha_
    refine t_ret ?_
    refine fun a_ ha_ => hQ0 _ _ _ (body_ret (rs := [.tmp 8]) (vs := [.bool true]) ha_ (by kernel_rfl) ⟨_, _, rfl, rfl, rfl⟩ ?_)
    exact ⟨rfl, ((((Chg.refl (fun k_ => False) w).step hb4 (fun k_ hk_ (h_ : False) => h_.elim)).step hb9 (fun k_ hk_ (h_ : False) => h_.elim)).step hchg17 (fun k_ hk_ (h_ : False) => h_.elim))⟩
  · have hk15 := decide_eq_false hc14
    refine t_no rfl hk15 ?_
    refine t_skip ?_
    refine fun a_ ha_ => hK12 _ _ _ (T.sub (L' := [(0, .slice A0 lb.length c0), (1, .bool big), (2, .agg #[.int .i64 ka, .int .i64 kn]), (3, .int .i64 fail), (6, .pointer (some ⟨w.heap.size, 0, none⟩)), (7, .pointer (some ⟨w2.heap.size, 0, none⟩)), (8, .bool false), (16, .bool (decide ((lb.length : Int) > 4000)))]) ?_ (sub_cons rfl (sub_cons rfl (sub_cons rfl (sub_cons rfl (sub_cons rfl (sub_cons rfl (sub_cons rfl (sub_cons rfl sub_nil))))))))) a_ ha_
    refine t_seq (fun K22 hK22 => ?_)
    refine t_region ?_
    refine tl_val rfl (do_alloc (v := .pointer (some ⟨w7.heap.size, 0, none⟩)) (w' := w7.alloc (.cells #[.pointer none] 30)) (by kernel_rfl)) (by decide) ?_
    refine tl_gen (fun w23 e24 => ?_)
    have hb25 : Chg (fun _ => False) w7 w23 := e24 ▸ Chg.alloc _ _
    have hz26 : w23.heap.size = w7.heap.size + 1 := by rw [e24]; exact size_alloc _ _
    have hc27 : w23.heap[w7.heap.size]? = some (.cells #[.pointer none] 30 (0, 0)) := by rw [e24]; exact obj_new _ _
    clear e24
    refine tl_end ?_
    refine fun a_ ha_ => hK22 _ _ _ (T.sub (L' := [(0, .slice A0 lb.length c0), (1, .bool big), (2, .agg #[.int .i64 ka, .int .i64 kn]), (3, .int .i64 fail), (6, .pointer (some ⟨w.heap.size, 0, none⟩)), (7, .pointer (some ⟨w2.heap.size, 0, none⟩)), (8, .bool false), (9, .pointer (some ⟨w7.heap.size, 0, none⟩)), (16, .bool (decide ((lb.length : Int) > 4000)))]) ?_ (sub_cons rfl (sub_cons rfl (sub_cons rfl (sub_cons rfl (sub_cons rfl (sub_cons rfl (sub_cons rfl (sub_cons rfl (sub_cons rfl sub_nil)))))))))) a_ ha_
    refine t_seq (fun K28 hK28 => ?_)
    refine t_region ?_
    refine tl_val (w' := w23) rfl (do_move rfl) (by decide) ?_
    have h30 := (Rd.chg ha (Rd.chg ha (Rd.chg ha ha hb4 (fun _ _ x => x)) hb9 (fun _ _ x => x)) hb25 (fun _ _ x => x))
    refine tl_call rfl (en_call (f := 12) (vs := [.slice A0 lb.length c0]) (by kernel_rfl) rfl) rfl (own_e h30 (by omega)) (fun v33 w31 hr32 => ?_) (fun _ _ h => h.elim) (fun _ h => h)
    obtain ⟨A29, c29, rfl, hrd29, hchg29⟩ := hr32
    have hz34 := hchg29.size
    refine tl_val (w' := w31) rfl (do_move rfl) (by decide) ?_
    refine tl_val (w' := w31) rfl (do_makeFunc rfl) (by decide) ?_
    have h36 := (hchg29.obj (fun x => x) hc27)
    have h37 := (hchg29.obj (fun x => x) (hb25.obj (fun x => x) hc11))
    have hl1_ := lt_obj h36
    have hl2_ := lt_obj h37
    refine tl_call rfl (en_call (f := 15) (vs := [.slice A29 lb.length c29, .bool big, .func (.func 29) #[] #[.pointer (some ⟨w7.heap.size, 0, none⟩), .pointer (some ⟨w2.heap.size, 0, none⟩)]]) (by kernel_rfl) rfl) rfl (try_dead_e 29 #[.pointer (some ⟨w7.heap.size, 0, none⟩), .pointer (some ⟨w2.heap.size, 0, none⟩)] (M := fun k_ => k_ = w7.heap.size) (fun o w' => w'.heap[w7.heap.size]? = some (.cells #[.pointer (some ⟨w31.heap.size + 1, 0, none⟩)] 30 (0, 0)) ∧ ((fail = 0 ∧ o = .ok ()) ∨ (fail ≠ 0 ∧ o = .error fail))) hrd29 (by intro k_ h_; have h2_ : k_ = w7.heap.size := h_; omega) (by kernel_rfl) (fun o w2 w3 h_ hC => ⟨hC.obj (by omega) h_.1, h_.2⟩) (fun W hW hz hc => over1_e _ w7.heap.size w2.heap.size _ _ _ _ _ fail W rfl rfl hc (hW.obj (fun x => x) h36) (hW.obj (fun x => x) h37) (by omega))) (fun v40 w38 hr39 => ?_) (fun _ _ h => h.elim) (fun _ h => h)
    obtain ⟨o35, rfl, ⟨⟨hkept_, hfail_⟩, hdead_⟩, hchg35⟩ := hr39
    have hz41 := hchg35.size
    have hcode_ : code o35 = fail := by rcases hfail_ with ⟨h0_, rfl⟩ | ⟨_, rfl⟩ <;> first | rfl | exact h0_.symm
    have hlp_ : w31.heap.size + 1 < w38.heap.size := by have := World.block_lt_of_cell? _ _ hdead_; exact this
    refine tl_val (w' := w38) rfl (do_assign rfl) (by decide) ?_
    refine tl_end ?_
    refine fun a_ ha_ => hK28 _ _ _ (T.sub (L' := [(0, .slice A0 lb.length c0), (1, .bool big), (2, .agg #[.int .i64 ka, .int .i64 kn]), (3, .int .i64 fail), (6, .pointer (some ⟨w.heap.size, 0, none⟩)), (7, .pointer (some ⟨w2.heap.size, 0, none⟩)), (8, .bool false), (9, .pointer (some ⟨w7.heap.size, 0, none⟩)), (10, .int .i64 (code o35)), (16, .bool (decide ((lb.length : Int) > 4000)))]) ?_ (sub_cons rfl (sub_cons rfl (sub_cons rfl (sub_cons rfl (sub_cons rfl (sub_cons rfl (sub_cons rfl (sub_cons rfl (sub_cons rfl (sub_cons rfl sub_nil))))))))))) a_ ha_
    refine t_seq (fun K42 hK42 => ?_)
    refine t_seq (fun K43 hK43 => ?_)
    refine t_region ?_
    refine tl_val (w' := w38) rfl (do_move rfl) (by decide) ?_
    have h44 := (hchg35.obj (show ¬ w2.heap.size = w7.heap.size by omega) h37)
    refine tl_val (w' := w38) rfl (do_load (v := .int .i64 fail) rfl (by kernel_rfl) (by rw [obj_cell h44]; rfl)) (by decide) ?_
    refine tl_val (w' := w38) rfl (do_neq rfl rfl) (by decide) ?_
    refine tl_val (w' := w38) rfl (do_move rfl) (by decide) ?_
    have hk45 : (decide ((code o35) ≠ fail)) = false := (decide_eq_false (show ¬ ((code o35) ≠ fail) from (by omega)))
    refine tl_val (w' := w38) ⟨26, _, rfl, rfl, (by rw [hk45]; rfl)⟩ (do_move rfl) (by decide) ?_
    have h47 := (Rd.chgNe (Rd.chg ha h30 hchg29 (fun _ _ x => x)) hchg35 (fun a_ h1_ h2_ => Rd.ne (cs := [.pointer none]) (Rd.chg ha h30 hchg29 (fun _ _ x => x)) h36 (by rfl) a_ h1_ h2_))
    refine tl_call ⟨26, _, rfl, rfl, (by rw [hk45]; rfl)⟩ (en_call (f := 12) (vs := [.slice A0 lb.length c0]) (by kernel_rfl) rfl) rfl (own_e h47 (by omega)) (fun v50 w48 hr49 => ?_) (fun _ _ h => h.elim) (fun _ h => h)
    obtain ⟨A46, c46, rfl, hrd46, hchg46⟩ := hr49
    have hz51 := hchg46.size
    refine tl_val (w' := w48) ⟨26, _, rfl, rfl, (by rw [hk45]; rfl)⟩ (do_move rfl) (by decide) ?_
    refine tl_call ⟨26, _, rfl, rfl, (by rw [hk45]; rfl)⟩ (en_call (f := 15) (vs := [.slice A46 lb.length c46, .bool big, .nilFunc]) (by kernel_rfl) rfl) rfl (try_nil_e _ _ _ _ _) (fun v55 w53 hr54 => ?_) (fun _ _ h => h.elim) (fun _ h => h)
    obtain ⟨rfl, hchg52⟩ := hr54
    have hz56 := hchg52.size
    refine tl_val (w' := w53) ⟨26, _, rfl, rfl, (by rw [hk45]; rfl)⟩ (do_neq rfl rfl) (by decide) ?_
    have hk57 : (decide ((1 : Int) ≠ 1)) = false := by decide
    refine tl_val (w' := w53) rfl (do_pick_f rfl hk45 rfl) (by decide) ?_
    refine tl_end ?_
    refine fun a_ ha_ => hK43 _ _ _ (T.sub (L' := [(0, .slice A0 lb.length c0), (1, .bool big), (2, .agg #[.int .i64 ka, .int .i64 kn]), (3, .int .i64 fail), (6, .pointer (some ⟨w.heap.size, 0, none⟩)), (7, .pointer (some ⟨w2.heap.size, 0, none⟩)), (8, .bool false), (9, .pointer (some ⟨w7.heap.size, 0, none⟩)), (10, .int .i64 (code o35)), (16, .bool (decide ((lb.length : Int) > 4000))), (32, .bool (decide ((1 : Int) ≠ 1)))]) ?_ (sub_cons rfl (sub_cons rfl (sub_cons rfl (sub_cons rfl (sub_cons rfl (sub_cons rfl (sub_cons rfl (sub_cons rfl (sub_cons rfl (sub_cons rfl (sub_cons rfl sub_nil)))))))))))) a_ ha_
    refine t_no rfl hk57 ?_
    refine t_skip ?_
    refine fun a_ ha_ => hK42 _ _ _ (T.sub (L' := [(0, .slice A0 lb.length c0), (1, .bool big), (2, .agg #[.int .i64 ka, .int .i64 kn]), (3, .int .i64 fail), (6, .pointer (some ⟨w.heap.size, 0, none⟩)), (7, .pointer (some ⟨w2.heap.size, 0, none⟩)), (8, .bool false), (9, .pointer (some ⟨w7.heap.size, 0, none⟩)), (10, .int .i64 (code o35)), (16, .bool (decide ((lb.length : Int) > 4000))), (32, .bool (decide ((1 : Int) ≠ 1)))]) ?_ (sub_cons rfl (sub_cons rfl (sub_cons rfl (sub_cons rfl (sub_cons rfl (sub_cons rfl (sub_cons rfl (sub_cons rfl (sub_cons rfl (sub_cons rfl (sub_cons rfl sub_nil)))))))))))) a_ ha_
    refine t_seq (fun K58 hK58 => ?_)
    refine t_region ?_
    refine tl_val (w' := w53) rfl (do_assign rfl) (by decide) ?_
    refine tl_end ?_
    refine fun a_ ha_ => hK58 _ _ _ (T.sub (L' := [(0, .slice A0 lb.length c0), (1, .bool big), (2, .agg #[.int .i64 ka, .int .i64 kn]), (3, .int .i64 fail), (6, .pointer (some ⟨w.heap.size, 0, none⟩)), (7, .pointer (some ⟨w2.heap.size, 0, none⟩)), (8, .bool false), (9, .pointer (some ⟨w7.heap.size, 0, none⟩)), (10, .int .i64 (code o35)), (11, .pointer none), (16, .bool (decide ((lb.length : Int) > 4000))), (32, .bool (decide ((1 : Int) ≠ 1)))]) ?_ (sub_cons rfl (sub_cons rfl (sub_cons rfl (sub_cons rfl (sub_cons rfl (sub_cons rfl (sub_cons rfl (sub_cons rfl (sub_cons rfl (sub_cons rfl (sub_cons rfl (sub_cons rfl sub_nil))))))))))))) a_ ha_
    refine t_seq (fun K59 hK59 => ?_)
    refine t_seq (fun K60 hK60 => ?_)
    refine t_region ?_
    have h61 := (hchg52.obj (fun x => x) (hchg46.obj (fun x => x) hkept_))
    refine tl_val (w' := w53) rfl (do_load (v := .pointer (some ⟨w31.heap.size + 1, 0, none⟩)) rfl (by kernel_rfl) (by rw [obj_cell h61]; rfl)) (by decide) ?_
    refine tl_val (w' := w53) rfl (do_move rfl) (by decide) ?_
    refine tl_val rfl (do_buildSlice (vs := [.pointer (some ⟨w31.heap.size + 1, 0, none⟩), .pointer none]) (v := .slice (some ⟨w53.heap.size, 0, none⟩) 2 2) (w' := w53.alloc (.cells #[.pointer (some ⟨w31.heap.size + 1, 0, none⟩), .pointer none] 30)) rfl (by kernel_rfl)) (by decide) ?_
    refine tl_gen (fun w62 e63 => ?_)
    have hb64 : Chg (fun _ => False) w53 w62 := e63 ▸ Chg.alloc _ _
    have hz65 : w62.heap.size = w53.heap.size + 1 := by rw [e63]; exact size_alloc _ _
    have hc66 : w62.heap[w53.heap.size]? = some (.cells #[.pointer (some ⟨w31.heap.size + 1, 0, none⟩), .pointer none] 30 (0, 0)) := by rw [e63]; exact obj_new _ _
    clear e63
    refine tl_val (w' := w62) rfl (do_builtin (vs := [.slice (some ⟨w53.heap.size, 0, none⟩) 2 2]) (v := .int .i64 2) rfl (fun _ _ => by kernel_rfl)) (by decide) ?_
    refine tl_val (w' := w62) rfl (do_move rfl) (by decide) ?_
    refine tl_end ?_
    refine fun a_ ha_ => hK60 _ _ _ (T.sub (L' := [(0, .slice A0 lb.length c0), (1, .bool big), (2, .agg #[.int .i64 ka, .int .i64 kn]), (3, .int .i64 fail), (6, .pointer (some ⟨w.heap.size, 0, none⟩)), (7, .pointer (some ⟨w2.heap.size, 0, none⟩)), (8, .bool false), (9, .pointer (some ⟨w7.heap.size, 0, none⟩)), (10, .int .i64 (code o35)), (11, .pointer none), (16, .bool (decide ((lb.length : Int) > 4000))), (32, .bool (decide ((1 : Int) ≠ 1))), (35, .slice (some ⟨w53.heap.size, 0, none⟩) 2 2), (36, .int .i64 2), (37, .int .i64 0)]) ?_ (sub_cons rfl (sub_cons rfl (sub_cons rfl (sub_cons rfl (sub_cons rfl (sub_cons rfl (sub_cons rfl (sub_cons rfl (sub_cons rfl (sub_cons rfl (sub_cons rfl (sub_cons rfl (sub_cons rfl (sub_cons rfl (sub_cons rfl sub_nil)))))))))))))))) a_ ha_
    refine t_block ?_
    refine t_loop (G := Nat) (fun k => [(0, .slice A0 lb.length c0), (1, .bool big), (2, .agg #[.int .i64 ka, .int .i64 kn]), (3, .int .i64 fail), (6, .pointer (some ⟨w.heap.size, 0, none⟩)), (7, .pointer (some ⟨w2.heap.size, 0, none⟩)), (8, .bool false), (9, .pointer (some ⟨w7.heap.size, 0, none⟩)), (10, .int .i64 (code o35)), (11, .pointer none), (16, .bool (decide ((lb.length : Int) > 4000))), (32, .bool (decide ((1 : Int) ≠ 1))), (35, .slice (some ⟨w53.heap.size, 0, none⟩) 2 2), (36, .int .i64 2), (37, .int .i64 (k : Int))]) (fun k WW_ => k ≤ 2 ∧ Chg (fun _ => False) w62 WW_) (fun k => 2 - k) 0 (⟨Nat.zero_le _, Chg.refl _ _⟩) (sub_cons rfl (sub_cons rfl (sub_cons rfl (sub_cons rfl (sub_cons rfl (sub_cons rfl (sub_cons rfl (sub_cons rfl (sub_cons rfl (sub_cons rfl (sub_cons rfl (sub_cons rfl (sub_cons rfl (sub_cons rfl (sub_cons (as_int (a := 0) rfl (by omega)) sub_nil))))))))))))))) ?_
    rintro k w67 K68 hI69 hK70
    obtain ⟨hk, hchg⟩ := hI69
    refine T.sub (L' := [(0, .slice A0 lb.length c0), (1, .bool big), (2, .agg #[.int .i64 ka, .int .i64 kn]), (3, .int .i64 fail), (6, .pointer (some ⟨w.heap.size, 0, none⟩)), (7, .pointer (some ⟨w2.heap.size, 0, none⟩)), (8, .bool false), (9, .pointer (some ⟨w7.heap.size, 0, none⟩)), (10, .int .i64 (code o35)), (11, .pointer none), (16, .bool (decide ((lb.length : Int) > 4000))), (32, .bool (decide ((1 : Int) ≠ 1))), (35, .slice (some ⟨w53.heap.size, 0, none⟩) 2 2), (36, .int .i64 2), (37, .int .i64 (k : Int))]) ?_ (sub_cons rfl (sub_cons rfl (sub_cons rfl (sub_cons rfl (sub_cons rfl (sub_cons rfl (sub_cons rfl (sub_cons rfl (sub_cons rfl (sub_cons rfl (sub_cons rfl (sub_cons rfl (sub_cons rfl (sub_cons rfl (sub_cons rfl sub_nil)))))))))))))))
    have hz71 := hchg.size
    refine t_seq (fun K72 hK72 => ?_)
    refine t_region ?_
    refine tl_val (w' := w67) rfl (do_lss rfl rfl) (by decide) ?_
    refine tl_end ?_
    refine fun a_ ha_ => hK72 _ _ _ (T.sub (L' := [(0, .slice A0 lb.length c0), (1, .bool big), (2, .agg #[.int .i64 ka, .int .i64 kn]), (3, .int .i64 fail), (6, .pointer (some ⟨w.heap.size, 0, none⟩)), (7, .pointer (some ⟨w2.heap.size, 0, none⟩)), (8, .bool false), (9, .pointer (some ⟨w7.heap.size, 0, none⟩)), (10, .int .i64 (code o35)), (11, .pointer none), (16, .bool (decide ((lb.length : Int) > 4000))), (32, .bool (decide ((1 : Int) ≠ 1))), (35, .slice (some ⟨w53.heap.size, 0, none⟩) 2 2), (36, .int .i64 2), (37, .int .i64 (k : Int)), (38, .bool (decide ((k : Int) < 2)))]) ?_ (sub_cons rfl (sub_cons rfl (sub_cons rfl (sub_cons rfl (sub_cons rfl (sub_cons rfl (sub_cons rfl (sub_cons rfl (sub_cons rfl (sub_cons rfl (sub_cons rfl (sub_cons rfl (sub_cons rfl (sub_cons rfl (sub_cons rfl (sub_cons rfl sub_nil))))))))))))))))) a_ ha_
    refine t_seq (fun K73 hK73 => ?_)
    by_cases hc74 : (k : Int) < 2
    · have hk75 := decide_eq_true hc74
      refine t_yes rfl hk75 ?_
      refine t_skip ?_
      refine fun a_ ha_ => hK73 _ _ _ (T.sub (L' := [(0, .slice A0 lb.length c0), (1, .bool big), (2, .agg #[.int .i64 ka, .int .i64 kn]), (3, .int .i64 fail), (6, .pointer (some ⟨w.heap.size, 0, none⟩)), (7, .pointer (some ⟨w2.heap.size, 0, none⟩)), (8, .bool false), (9, .pointer (some ⟨w7.heap.size, 0, none⟩)), (10, .int .i64 (code o35)), (11, .pointer none), (16, .bool (decide ((lb.length : Int) > 4000))), (32, .bool (decide ((1 : Int) ≠ 1))), (35, .slice (some ⟨w53.heap.size, 0, none⟩) 2 2), (36, .int .i64 2), (37, .int .i64 (k : Int)), (38, .bool (decide ((k : Int) < 2)))]) ?_ (sub_cons rfl (sub_cons rfl (sub_cons rfl (sub_cons rfl (sub_cons rfl (sub_cons rfl (sub_cons rfl (sub_cons rfl (sub_cons rfl (sub_cons rfl (sub_cons rfl (sub_cons rfl (sub_cons rfl (sub_cons rfl (sub_cons rfl (sub_cons rfl sub_nil))))))))))))))))) a_ ha_
      refine t_seq (fun K76 hK76 => ?_)
      refine t_block ?_
      refine t_seq (fun K77 hK77 => ?_)
      refine t_region ?_
      have h78 := (hchg.obj (fun x => x) hc66)
      refine tl_val (w' := w67) rfl (do_indexAddr rfl rfl (idx_any (sz := 1) (j := k) (RdV.of_obj (n := 2) (sz := 1) (cs := [.pointer (some ⟨w31.heap.size + 1, 0, none⟩), .pointer none]) h78 rfl (by decide)) (by kernel_rfl) (by decide) rfl (by omega) _)) (by decide) ?_
      have h79 := (hchg.cell (fun x => x) (hb64.cell (fun x => x) (hchg52.cell (fun x => x) (hchg46.cell (fun x => x) hdead_))))
      obtain ⟨q_, hq_, hdq_⟩ : ∃ q, [.pointer (some ⟨w31.heap.size + 1, 0, none⟩), .pointer none][k * 1]? = some (Value.pointer q) ∧ Dead w67 q := over_pick h79 (by omega)
      refine tl_val (w' := w67) rfl (do_load_rdv (cs := [.pointer (some ⟨w31.heap.size + 1, 0, none⟩), .pointer none]) (n := 2) (sz := 1) rfl (by kernel_rfl) (RdV.of_obj h78 rfl (by decide)) hq_) (by decide) ?_
      refine tl_val (w' := w67) rfl (do_assign rfl) (by decide) ?_
      refine tl_end ?_
      refine fun a_ ha_ => hK77 _ _ _ (T.sub (L' := [(0, .slice A0 lb.length c0), (1, .bool big), (2, .agg #[.int .i64 ka, .int .i64 kn]), (3, .int .i64 fail), (6, .pointer (some ⟨w.heap.size, 0, none⟩)), (7, .pointer (some ⟨w2.heap.size, 0, none⟩)), (8, .bool false), (9, .pointer (some ⟨w7.heap.size, 0, none⟩)), (10, .int .i64 (code o35)), (11, .pointer none), (13, .pointer q_), (16, .bool (decide ((lb.length : Int) > 4000))), (32, .bool (decide ((1 : Int) ≠ 1))), (35, .slice (some ⟨w53.heap.size, 0, none⟩) 2 2), (36, .int .i64 2), (37, .int .i64 (k : Int)), (38, .bool (decide ((k : Int) < 2)))]) ?_ (sub_cons rfl (sub_cons rfl (sub_cons rfl (sub_cons rfl (sub_cons rfl (sub_cons rfl (sub_cons rfl (sub_cons rfl (sub_cons rfl (sub_cons rfl (sub_cons rfl (sub_cons rfl (sub_cons rfl (sub_cons rfl (sub_cons rfl (sub_cons rfl (sub_cons rfl sub_nil)))))))))))))))))) a_ ha_
      refine t_seq (fun K80 hK80 => ?_)
      refine t_region ?_
      refine tl_val (w' := w67) rfl (do_move rfl) (by decide) ?_
      refine tl_val (w' := w67) rfl (do_fieldAddr (v := .pointer (some ⟨w.heap.size, 1, none⟩)) rfl (by kernel_rfl)) (by decide) ?_
      have h81 := (hchg.obj (fun x => x) (hb64.obj (fun x => x) (hchg52.obj (fun x => x) (hchg46.obj (fun x => x) (hchg35.obj (show ¬ w.heap.size = w7.heap.size by omega) (hchg29.obj (fun x => x) (hb25.obj (fun x => x) (hb9.obj (fun x => x) hc6))))))))
      refine tl_val (w' := w67) rfl (do_load (v := .int .i64 kn) rfl (by kernel_rfl) (by rw [obj_cell h81]; rfl)) (by decide) ?_
      refine tl_call rfl (en_call (f := 22) (vs := [.pointer q_, .int .i64 kn]) (by kernel_rfl) rfl) rfl (same_e (skip_dead q_ kn _ hdq_)) (fun v84 _ hr83 => ?_) (fun _ _ h => h.elim) (fun _ h => h)
      obtain ⟨rfl, rfl⟩ := hr83
      refine tl_end ?_
      refine fun a_ ha_ => hK80 _ _ _ (T.sub (L' := [(0, .slice A0 lb.length c0), (1, .bool big), (2, .agg #[.int .i64 ka, .int .i64 kn]), (3, .int .i64 fail), (6, .pointer (some ⟨w.heap.size, 0, none⟩)), (7, .pointer (some ⟨w2.heap.size, 0, none⟩)), (8, .bool false), (9, .pointer (some ⟨w7.heap.size, 0, none⟩)), (10, .int .i64 (code o35)), (11, .pointer none), (13, .pointer q_), (16, .bool (decide ((lb.length : Int) > 4000))), (32, .bool (decide ((1 : Int) ≠ 1))), (35, .slice (some ⟨w53.heap.size, 0, none⟩) 2 2), (36, .int .i64 2), (37, .int .i64 (k : Int)), (38, .bool (decide ((k : Int) < 2)))]) ?_ (sub_cons rfl (sub_cons rfl (sub_cons rfl (sub_cons rfl (sub_cons rfl (sub_cons rfl (sub_cons rfl (sub_cons rfl (sub_cons rfl (sub_cons rfl (sub_cons rfl (sub_cons rfl (sub_cons rfl (sub_cons rfl (sub_cons rfl (sub_cons rfl (sub_cons rfl sub_nil)))))))))))))))))) a_ ha_
      refine t_seq (fun K85 hK85 => ?_)
      refine t_region ?_
      refine tl_val (w' := w67) rfl (do_move rfl) (by decide) ?_
      refine tl_val (w' := w67) rfl (do_fieldAddr (v := .pointer (some ⟨w.heap.size, 1, none⟩)) rfl (by kernel_rfl)) (by decide) ?_
      refine tl_val (w' := w67) rfl (do_load (v := .int .i64 kn) rfl (by kernel_rfl) (by rw [obj_cell h81]; rfl)) (by decide) ?_
      refine tl_call rfl (en_call (f := 31) (vs := [.pointer q_, .int .i64 kn]) (by kernel_rfl) rfl) rfl (same_e (seek_dead q_ kn _ hdq_)) (fun v88 _ hr87 => ?_) (fun _ _ h => h.elim) (fun _ h => h)
      obtain ⟨rfl, rfl⟩ := hr87
      refine tl_end ?_
      refine fun a_ ha_ => hK85 _ _ _ (T.sub (L' := [(0, .slice A0 lb.length c0), (1, .bool big), (2, .agg #[.int .i64 ka, .int .i64 kn]), (3, .int .i64 fail), (6, .pointer (some ⟨w.heap.size, 0, none⟩)), (7, .pointer (some ⟨w2.heap.size, 0, none⟩)), (8, .bool false), (9, .pointer (some ⟨w7.heap.size, 0, none⟩)), (10, .int .i64 (code o35)), (11, .pointer none), (13, .pointer q_), (16, .bool (decide ((lb.length : Int) > 4000))), (32, .bool (decide ((1 : Int) ≠ 1))), (35, .slice (some ⟨w53.heap.size, 0, none⟩) 2 2), (36, .int .i64 2), (37, .int .i64 (k : Int)), (38, .bool (decide ((k : Int) < 2)))]) ?_ (sub_cons rfl (sub_cons rfl (sub_cons rfl (sub_cons rfl (sub_cons rfl (sub_cons rfl (sub_cons rfl (sub_cons rfl (sub_cons rfl (sub_cons rfl (sub_cons rfl (sub_cons rfl (sub_cons rfl (sub_cons rfl (sub_cons rfl (sub_cons rfl (sub_cons rfl sub_nil)))))))))))))))))) a_ ha_
      refine t_seq (fun K89 hK89 => ?_)
      refine t_region ?_
      refine tl_val (w' := w67) rfl (do_move rfl) (by decide) ?_
      refine tl_val (w' := w67) rfl (do_fieldAddr (v := .pointer (some ⟨w.heap.size, 1, none⟩)) rfl (by kernel_rfl)) (by decide) ?_
      refine tl_val (w' := w67) rfl (do_load (v := .int .i64 kn) rfl (by kernel_rfl) (by rw [obj_cell h81]; rfl)) (by decide) ?_
      refine tl_call rfl (en_call (f := 30) (vs := [.pointer q_, .int .i64 kn]) (by kernel_rfl) rfl) rfl (same_e (fail_dead q_ kn _ hdq_)) (fun v92 _ hr91 => ?_) (fun _ _ h => h.elim) (fun _ h => h)
      obtain ⟨rfl, rfl⟩ := hr91
      refine tl_end ?_
      refine fun a_ ha_ => hK89 _ _ _ (T.sub (L' := [(0, .slice A0 lb.length c0), (1, .bool big), (2, .agg #[.int .i64 ka, .int .i64 kn]), (3, .int .i64 fail), (6, .pointer (some ⟨w.heap.size, 0, none⟩)), (7, .pointer (some ⟨w2.heap.size, 0, none⟩)), (8, .bool false), (9, .pointer (some ⟨w7.heap.size, 0, none⟩)), (10, .int .i64 (code o35)), (11, .pointer none), (13, .pointer q_), (16, .bool (decide ((lb.length : Int) > 4000))), (32, .bool (decide ((1 : Int) ≠ 1))), (35, .slice (some ⟨w53.heap.size, 0, none⟩) 2 2), (36, .int .i64 2), (37, .int .i64 (k : Int)), (38, .bool (decide ((k : Int) < 2)))]) ?_ (sub_cons rfl (sub_cons rfl (sub_cons rfl (sub_cons rfl (sub_cons rfl (sub_cons rfl (sub_cons rfl (sub_cons rfl (sub_cons rfl (sub_cons rfl (sub_cons rfl (sub_cons rfl (sub_cons rfl (sub_cons rfl (sub_cons rfl (sub_cons rfl (sub_cons rfl sub_nil)))))))))))))))))) a_ ha_
      refine t_seq (fun K93 hK93 => ?_)
      refine t_region ?_
      refine tl_val (w' := w67) rfl (do_move rfl) (by decide) ?_
      refine tl_call rfl (en_call (f := 18) (vs := [.pointer q_]) (by kernel_rfl) rfl) rfl (same_e (end_dead q_ _ hdq_)) (fun v96 _ hr95 => ?_) (fun _ _ h => h.elim) (fun _ h => h)
      obtain ⟨rfl, rfl⟩ := hr95
      refine tl_end ?_
      refine fun a_ ha_ => hK93 _ _ _ (T.sub (L' := [(0, .slice A0 lb.length c0), (1, .bool big), (2, .agg #[.int .i64 ka, .int .i64 kn]), (3, .int .i64 fail), (6, .pointer (some ⟨w.heap.size, 0, none⟩)), (7, .pointer (some ⟨w2.heap.size, 0, none⟩)), (8, .bool false), (9, .pointer (some ⟨w7.heap.size, 0, none⟩)), (10, .int .i64 (code o35)), (11, .pointer none), (13, .pointer q_), (16, .bool (decide ((lb.length : Int) > 4000))), (32, .bool (decide ((1 : Int) ≠ 1))), (35, .slice (some ⟨w53.heap.size, 0, none⟩) 2 2), (36, .int .i64 2), (37, .int .i64 (k : Int)), (38, .bool (decide ((k : Int) < 2)))]) ?_ (sub_cons rfl (sub_cons rfl (sub_cons rfl (sub_cons rfl (sub_cons rfl (sub_cons rfl (sub_cons rfl (sub_cons rfl (sub_cons rfl (sub_cons rfl (sub_cons rfl (sub_cons rfl (sub_cons rfl (sub_cons rfl (sub_cons rfl (sub_cons rfl (sub_cons rfl sub_nil)))))))))))))))))) a_ ha_
      refine t_seq (fun K97 hK97 => ?_)
      refine t_region ?_
      refine tl_val (w' := w67) rfl (do_move rfl) (by decide) ?_
      refine tl_val (w' := w67) rfl (do_fieldAddr (v := .pointer (some ⟨w.heap.size, 1, none⟩)) rfl (by kernel_rfl)) (by decide) ?_
      refine tl_val (w' := w67) rfl (do_load (v := .int .i64 kn) rfl (by kernel_rfl) (by rw [obj_cell h81]; rfl)) (by decide) ?_
      refine tl_call rfl (en_call (f := 17) (vs := [.pointer q_, .int .i64 kn]) (by kernel_rfl) rfl) rfl (same_e (number_dead q_ kn _ hdq_)) (fun v100 _ hr99 => ?_) (fun _ _ h => h.elim) (fun _ h => h)
      obtain ⟨rfl, rfl⟩ := hr99
      refine tl_val (w' := w67) rfl (do_neq rfl rfl) (by decide) ?_
      have hk101 : (decide ((0 : Int) ≠ 0)) = false := by decide
      refine tl_val (w' := w67) rfl (do_move rfl) (by decide) ?_
      refine tl_val (w' := w67) ⟨60, _, rfl, rfl, (by rw [hk101]; rfl)⟩ (do_move rfl) (by decide) ?_
      refine tl_val (w' := w67) ⟨60, _, rfl, rfl, (by rw [hk101]; rfl)⟩ (do_fieldAddr (v := .pointer (some ⟨w.heap.size, 1, none⟩)) rfl (by kernel_rfl)) (by decide) ?_
      refine tl_val (w' := w67) ⟨60, _, rfl, rfl, (by rw [hk101]; rfl)⟩ (do_load (v := .int .i64 kn) rfl (by kernel_rfl) (by rw [obj_cell h81]; rfl)) (by decide) ?_
      refine tl_call ⟨60, _, rfl, rfl, (by rw [hk101]; rfl)⟩ (en_call (f := 26) (vs := [.pointer q_, .int .i64 kn]) (by kernel_rfl) rfl) rfl (same_e (bytes_dead q_ kn _ hdq_)) (fun v104 _ hr103 => ?_) (fun _ _ h => h.elim) (fun _ h => h)
      obtain ⟨rfl, rfl⟩ := hr103
      refine tl_val (w' := w67) ⟨60, _, rfl, rfl, (by rw [hk101]; rfl)⟩ (do_builtin (vs := [.slice none 0 0]) (v := .int .i64 0) rfl (fun _ _ => by kernel_rfl)) (by decide) ?_
      refine tl_val (w' := w67) ⟨60, _, rfl, rfl, (by rw [hk101]; rfl)⟩ (do_neq rfl rfl) (by decide) ?_
      have hk105 : (decide ((0 : Int) ≠ 0)) = false := by decide
      refine tl_val (w' := w67) rfl (do_pick_f rfl hk105 rfl) (by decide) ?_
      refine tl_val (w' := w67) rfl (do_move rfl) (by decide) ?_
      refine tl_val (w' := w67) ⟨68, _, rfl, rfl, (by rw [hk105]; rfl)⟩ (do_move rfl) (by decide) ?_
      refine tl_call ⟨68, _, rfl, rfl, (by rw [hk105]; rfl)⟩ (en_call (f := 23) (vs := [.pointer q_]) (by kernel_rfl) rfl) rfl (same_e (at_dead q_ _ hdq_)) (fun v108 _ hr107 => ?_) (fun _ _ h => h.elim) (fun _ h => h)
      obtain ⟨rfl, rfl⟩ := hr107
      refine tl_val (w' := w67) ⟨68, _, rfl, rfl, (by rw [hk105]; rfl)⟩ (do_neq rfl rfl) (by decide) ?_
      have hk109 : (decide ((0 : Int) ≠ 0)) = false := by decide
      refine tl_val (w' := w67) rfl (do_pick_f rfl hk109 rfl) (by decide) ?_
      refine tl_val (w' := w67) rfl (do_move rfl) (by decide) ?_
      refine tl_val (w' := w67) ⟨73, _, rfl, rfl, (by rw [hk109]; rfl)⟩ (do_move rfl) (by decide) ?_
      refine tl_call ⟨73, _, rfl, rfl, (by rw [hk109]; rfl)⟩ (en_call (f := 24) (vs := [.pointer q_]) (by kernel_rfl) rfl) rfl (same_e (left_dead q_ _ hdq_)) (fun v112 _ hr111 => ?_) (fun _ _ h => h.elim) (fun _ h => h)
      obtain ⟨rfl, rfl⟩ := hr111
      refine tl_val (w' := w67) ⟨73, _, rfl, rfl, (by rw [hk109]; rfl)⟩ (do_neq rfl rfl) (by decide) ?_
      have hk113 : (decide ((0 : Int) ≠ 0)) = false := by decide
      refine tl_val (w' := w67) rfl (do_pick_f rfl hk113 rfl) (by decide) ?_
      refine tl_end ?_
      refine fun a_ ha_ => hK97 _ _ _ (T.sub (L' := [(0, .slice A0 lb.length c0), (1, .bool big), (2, .agg #[.int .i64 ka, .int .i64 kn]), (3, .int .i64 fail), (6, .pointer (some ⟨w.heap.size, 0, none⟩)), (7, .pointer (some ⟨w2.heap.size, 0, none⟩)), (8, .bool false), (9, .pointer (some ⟨w7.heap.size, 0, none⟩)), (10, .int .i64 (code o35)), (11, .pointer none), (13, .pointer q_), (16, .bool (decide ((lb.length : Int) > 4000))), (32, .bool (decide ((1 : Int) ≠ 1))), (35, .slice (some ⟨w53.heap.size, 0, none⟩) 2 2), (36, .int .i64 2), (37, .int .i64 (k : Int)), (38, .bool (decide ((k : Int) < 2))), (77, .bool (decide ((0 : Int) ≠ 0)))]) ?_ (sub_cons rfl (sub_cons rfl (sub_cons rfl (sub_cons rfl (sub_cons rfl (sub_cons rfl (sub_cons rfl (sub_cons rfl (sub_cons rfl (sub_cons rfl (sub_cons rfl (sub_cons rfl (sub_cons rfl (sub_cons rfl (sub_cons rfl (sub_cons rfl (sub_cons rfl (sub_cons rfl sub_nil))))))))))))))))))) a_ ha_
      refine t_no rfl hk113 ?_
      refine t_skip ?_
      refine fun a_ ha_ => hK76 _ _ _ (T.sub (L' := [(0, .slice A0 lb.length c0), (1, .bool big), (2, .agg #[.int .i64 ka, .int .i64 kn]), (3, .int .i64 fail), (6, .pointer (some ⟨w.heap.size, 0, none⟩)), (7, .pointer (some ⟨w2.heap.size, 0, none⟩)), (8, .bool false), (9, .pointer (some ⟨w7.heap.size, 0, none⟩)), (10, .int .i64 (code o35)), (11, .pointer none), (13, .pointer q_), (16, .bool (decide ((lb.length : Int) > 4000))), (32, .bool (decide ((1 : Int) ≠ 1))), (35, .slice (some ⟨w53.heap.size, 0, none⟩) 2 2), (36, .int .i64 2), (37, .int .i64 (k : Int)), (38, .bool (decide ((k : Int) < 2))), (77, .bool (decide ((0 : Int) ≠ 0)))]) ?_ (sub_cons rfl (sub_cons rfl (sub_cons rfl (sub_cons rfl (sub_cons rfl (sub_cons rfl (sub_cons rfl (sub_cons rfl (sub_cons rfl (sub_cons rfl (sub_cons rfl (sub_cons rfl (sub_cons rfl (sub_cons rfl (sub_cons rfl (sub_cons rfl (sub_cons rfl (sub_cons rfl sub_nil))))))))))))))))))) a_ ha_
      refine t_region ?_
      refine tl_val (w' := w67) rfl (do_add (c := (k : Int) + 1) rfl rfl (wrap_i64 (by omega) (by omega))) (by decide) ?_
      refine tl_val (w' := w67) rfl (do_move rfl) (by decide) ?_
      refine tl_end ?_
      refine fun a_ ha_ => hK70 (k + 1) _ _ (⟨by omega, ((Chg.refl (fun k_ => False) w62).step hchg (fun k_ hk_ (h_ : False) => h_.elim))⟩) (show 2 - (k + 1) < 2 - k by omega) (sub_cons rfl (sub_cons rfl (sub_cons rfl (sub_cons rfl (sub_cons rfl (sub_cons rfl (sub_cons rfl (sub_cons rfl (sub_cons rfl (sub_cons rfl (sub_cons rfl (sub_cons rfl (sub_cons rfl (sub_cons rfl (sub_cons (as_int (a := (k : Int) + 1) rfl (by omega)) sub_nil))))))))))))))) a_ ha_
    · have hk75 := decide_eq_false hc74
      refine t_no rfl hk75 ?_
      refine t_exit ?_
      refine fun a_ ha_ => hK59 _ _ _ (T.sub (L' := [(0, .slice A0 lb.length c0), (1, .bool big), (2, .agg #[.int .i64 ka, .int .i64 kn]), (3, .int .i64 fail), (6, .pointer (some ⟨w.heap.size, 0, none⟩)), (7, .pointer (some ⟨w2.heap.size, 0, none⟩)), (8, .bool false), (9, .pointer (some ⟨w7.heap.size, 0, none⟩)), (10, .int .i64 (code o35)), (11, .pointer none), (16, .bool (decide ((lb.length : Int) > 4000))), (32, .bool (decide ((1 : Int) ≠ 1))), (35, .slice (some ⟨w53.heap.size, 0, none⟩) 2 2), (36, .int .i64 2), (37, .int .i64 (k : Int)), (38, .bool (decide ((k : Int) < 2)))]) ?_ (sub_cons rfl (sub_cons rfl (sub_cons rfl (sub_cons rfl (sub_cons rfl (sub_cons rfl (sub_cons rfl (sub_cons rfl (sub_cons rfl (sub_cons rfl (sub_cons rfl (sub_cons rfl (sub_cons rfl (sub_cons rfl (sub_cons rfl (sub_cons rfl sub_nil))))))))))))))))) a_ ha_
      refine t_seq (fun K114 hK114 => ?_)
      refine t_region ?_
      refine tl_call rfl (en_call (f := 10) (vs := []) (by kernel_rfl) rfl) rfl (awake_e w67) (fun v118 w116 hr117 => ?_) (fun _ _ h => h.elim) (fun _ h => h)
      obtain ⟨rfl, hchg115⟩ := hr117
      have hz119 := hchg115.size
      refine tl_val (w' := w116) rfl (do_assign rfl) (by decide) ?_
      refine tl_end ?_
      refine fun a_ ha_ => hK114 _ _ _ (T.sub (L' := [(0, .slice A0 lb.length c0), (1, .bool big), (2, .agg #[.int .i64 ka, .int .i64 kn]), (3, .int .i64 fail), (6, .pointer (some ⟨w.heap.size, 0, none⟩)), (7, .pointer (some ⟨w2.heap.size, 0, none⟩)), (8, .bool true), (9, .pointer (some ⟨w7.heap.size, 0, none⟩)), (10, .int .i64 (code o35)), (11, .pointer none), (16, .bool (decide ((lb.length : Int) > 4000))), (32, .bool (decide ((1 : Int) ≠ 1))), (35, .slice (some ⟨w53.heap.size, 0, none⟩) 2 2), (36, .int .i64 2), (37, .int .i64 (k : Int)), (38, .bool (decide ((k : Int) < 2)))]) ?_ (sub_cons rfl (sub_cons rfl (sub_cons rfl (sub_cons rfl (sub_cons rfl (sub_cons rfl (sub_cons rfl (sub_cons rfl (sub_cons rfl (sub_cons rfl (sub_cons rfl (sub_cons rfl (sub_cons rfl (sub_cons rfl (sub_cons rfl (sub_cons rfl sub_nil))))))))))))))))) a_ ha_
      refine t_ret ?_
      refine fun a_ ha_ => hQ0 _ _ _ (body_ret (rs := [.tmp 8]) (vs := [.bool true]) ha_ (by kernel_rfl) ⟨_, _, rfl, rfl, rfl⟩ ?_)
      exact ⟨rfl, (((((((((((Chg.refl (fun k_ => False) w).step hb4 (fun k_ hk_ (h_ : False) => h_.elim)).step hb9 (fun k_ hk_ (h_ : False) => h_.elim)).step hb25 (fun k_ hk_ (h_ : False) => h_.elim)).step hchg29 (fun k_ hk_ (h_ : False) => h_.elim)).step hchg35 (fun k_ hk_ (h_ : k_ = w7.heap.size) => (show False by omega))).step hchg46 (fun k_ hk_ (h_ : False) => h_.elim)).step hchg52 (fun k_ hk_ (h_ : False) => h_.elim)).step hb64 (fun k_ hk_ (h_ : False) => h_.elim)).step hchg (fun k_ hk_ (h_ : False) => h_.elim)).step hchg115 (fun k_ hk_ (h_ : False) => h_.elim))⟩
end Go.Proofs.Ytkhjgmcndieecaa
