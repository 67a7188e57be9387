/-
  The walk of HeadApart.
-/
import Derived.Test.YtfmpbbeacpdalaaDoorHNext
import Derived.Test.YtfmpbbeacpdalaaDoorOwS
import Derived.OpenShut
set_option linter.unusedVariables false
set_option linter.unusedSimpArgs false
set_option maxRecDepth 100000
namespace Go.Proofs.YtfmpbbeacpdalaaDoor
open Go.RowKit

/-- In how many of the first places two lists differ. -/
def df (a b : List UInt8) : Nat → Nat
  | 0 => 0
  | n + 1 => df a b n + (if a.getD n 0 = b.getD n 0 then 0 else 1)
theorem df_le (a b : List UInt8) : ∀ n, df a b n ≤ n
  | 0 => Nat.le_refl _
  | n + 1 => by
    have := df_le a b n
    unfold df
    split <;> omega
theorem df_one {a b : List UInt8} {i : Nat} (d : a.getD i 0 ≠ b.getD i 0) : ∀ n, i < n → 1 ≤ df a b n
  | 0, h => by omega
  | n + 1, h => by
    unfold df
    by_cases hi : i = n
    · subst hi
      rw [if_neg d]
      omega
    · have := df_one d n (by omega)
      omega
theorem df_two {a b : List UInt8} {i j : Nat} (hij : i ≠ j) (di : a.getD i 0 ≠ b.getD i 0) (dj : a.getD j 0 ≠ b.getD j 0) : ∀ n, i < n → j < n → 2 ≤ df a b n
  | 0, h, _ => by omega
  | n + 1, h1, h2 => by
    unfold df
    by_cases hi : i = n
    · subst hi
      rw [if_neg di]
      have := df_one dj i (by omega)
      omega
    · by_cases hj : j = n
      · subst hj
        rw [if_neg dj]
        have := df_one di j (by omega)
        omega
      · have := df_two hij di dj n (by omega) (by omega)
        omega
theorem sec_len (x : Hd) : x.sec.length = 128 := sector_length _ _ _ _
theorem sec_apart {x y : Hd} (hx : x.right) (hy : y.right) (hne : x ≠ y) : 2 ≤ df x.sec y.sec 128 := by
  have l1 := sec_len x
  have l2 := sec_len y
  have g1 : ∀ j (h : j < 128), x.sec.getD j 0 = x.sec[j] := fun j h => by simp [List.getD, l1, h]
  have g2 : ∀ j (h : j < 128), y.sec.getD j 0 = y.sec[j] := fun j h => by simp [List.getD, l2, h]
  by_cases h0 : ∃ i, i < 128 ∧ x.sec.getD i 0 ≠ y.sec.getD i 0
  · obtain ⟨i, hi, di⟩ := h0
    by_cases h1 : ∃ j, j < 128 ∧ i ≠ j ∧ x.sec.getD j 0 ≠ y.sec.getD j 0
    · obtain ⟨j, hj, hij, dj⟩ := h1
      exact df_two hij di dj 128 hi hj
    · exfalso
      have hil : i < (x.sec).length := by omega
      have e : x.sec.set i (x.sec[i] ^^^ (x.sec[i] ^^^ y.sec[i])) = y.sec := by
        rw [← UInt8.xor_assoc, UInt8.xor_self, UInt8.zero_xor]
        refine List.ext_getElem (by simp [l1, l2]) fun j hj1 hj2 => ?_
        rw [List.getElem_set]
        split
        · rename_i hij
          subst hij
          rfl
        · rename_i hij
          have hj : j < 128 := by omega
          have := Classical.not_not.1 fun d => h1 ⟨j, hj, hij, d⟩
          rw [g1 j hj, g2 j hj] at this
          exact this
      have hc := chk_turned (fill (body1 x.1 x.2.1 x.2.2.1 x.2.2.2) 124) i hil (x.sec[i] ^^^ y.sec[i])
      have hc2 : (chk (x.sec.set i (x.sec[i] ^^^ (x.sec[i] ^^^ y.sec[i])))).2 = if x.sec[i] ^^^ y.sec[i] = 0 then 0 else 8 := hc
      rw [e] at hc2
      have hd : x.sec[i] ^^^ y.sec[i] ≠ 0 := fun h => by
        apply di
        rw [g1 i hi, g2 i hi]
        have h3 : x.sec[i] ^^^ (x.sec[i] ^^^ y.sec[i]) = x.sec[i] ^^^ 0 := by rw [h]
        rw [← UInt8.xor_assoc, UInt8.xor_self, UInt8.zero_xor, UInt8.xor_zero] at h3
        exact h3.symm
      rw [if_neg hd] at hc2
      have hk := sec_chk y.1 y.2.1 y.2.2.1 y.2.2.2
      have hk2 : (chk y.sec).2 = 0 := by
        unfold Hd.sec
        rw [hk]
      omega
  · exfalso
    apply hne
    refine two_sec hx hy (List.ext_getElem (by omega) fun j hj1 hj2 => ?_)
    have hj : j < 128 := by omega
    have := Classical.not_not.1 fun d => h0 ⟨j, hj, d⟩
    rw [g1 j hj, g2 j hj] at this
    exact this
theorem df_yes {a b : List UInt8} {k : Nat} (h : ((a.getD k 0).toNat : Int) ≠ ((b.getD k 0).toNat : Int)) : df a b (k + 1) = df a b k + 1 := by
  rw [df, if_neg]
  intro e
  rw [e] at h
  exact h rfl
theorem df_no {a b : List UInt8} {k : Nat} (h : ¬ ((a.getD k 0).toNat : Int) ≠ ((b.getD k 0).toNat : Int)) : df a b (k + 1) = df a b k := by
  have h2 : (a.getD k 0).toNat = (b.getD k 0).toNat := by omega
  have h3 := UInt8.toNat_inj.1 h2
  rw [df, if_pos h3, Nat.add_zero]
set_option maxHeartbeats 1600000 in
theorem headApart_walk (big : Bool) (gen first last : Int) (b2 : Bool) (g2 f2 l2 : Int) (w : World) (hT : TabW w) (hg : -9223372036854775808 ≤ gen ∧ gen ≤ 9223372036854775807) (hf : -9223372036854775808 ≤ first ∧ first ≤ 9223372036854775807) (hl : -9223372036854775808 ≤ last ∧ last ≤ 9223372036854775807) (hg2 : -9223372036854775808 ≤ g2 ∧ g2 ≤ 9223372036854775807) (hf2 : -9223372036854775808 ≤ f2 ∧ f2 ≤ 9223372036854775807) (hl2 : -9223372036854775808 ≤ l2 ∧ l2 ≤ 9223372036854775807) :
    Calls Tryd.prog 7 #[.agg #[.bool big, .int .i64 gen, .int .i64 first, .int .i64 last], .agg #[.bool b2, .int .i64 g2, .int .i64 f2, .int .i64 l2]] w (RetTrue w) := by
  suffices h : Calls Tryd.prog 7 [.agg #[.bool big, .int .i64 gen, .int .i64 first, .int .i64 last], .agg #[.bool b2, .int .i64 g2, .int .i64 f2, .int .i64 l2]].toArray w (Ret fun v w' => v = .bool true ∧ Chg (fun _ => False) w w') from h.mono fun e w' h => ret_true h
  refine enter (n := 62) (L := [(0, .agg #[.bool big, .int .i64 gen, .int .i64 first, .int .i64 last]), (1, .agg #[.bool b2, .int .i64 g2, .int .i64 f2, .int .i64 l2])]) (args := [.agg #[.bool big, .int .i64 gen, .int .i64 first, .int .i64 last], .agg #[.bool b2, .int .i64 g2, .int .i64 f2, .int .i64 l2]]) Tryd.func7 rfl rfl (Nat.le_of_ble_eq_true rfl) (by intro t v h; exact look_args h) ?_
  refine t_body (fun Q0 hB0 hQ0 => ?_)
  have hgt := TabW.lt hT
  refine t_seq (fun K1 hK1 => ?_)
  refine t_region ?_
  refine tl_val rfl (do_box (v := .pointer (some ⟨w.heap.size, 0, none⟩)) (w' := w.alloc (.cells #[.bool big, .int .i64 gen, .int .i64 first, .int .i64 last] 23)) rfl (by kernel_rfl)) (by decide) ?_
  refine tl_gen (fun w2 e3 => ?_)
  have hb4 : Chg (fun _ => False) w w2 := e3 ▸ Chg.alloc _ _
  have hz5 : w2.heap.size = w.heap.size + 1 := by rw [e3]; exact size_alloc _ _
  have hc6 : w2.heap[w.heap.size]? = some (.cells #[.bool big, .int .i64 gen, .int .i64 first, .int .i64 last] 23 (0, 0)) := by rw [e3]; exact obj_new _ _
  clear e3
  refine tl_val rfl (do_box (v := .pointer (some ⟨w2.heap.size, 0, none⟩)) (w' := w2.alloc (.cells #[.bool b2, .int .i64 g2, .int .i64 f2, .int .i64 l2] 23)) rfl (by kernel_rfl)) (by decide) ?_
  refine tl_gen (fun w7 e8 => ?_)
  have hb9 : Chg (fun _ => False) w2 w7 := e8 ▸ Chg.alloc _ _
  have hz10 : w7.heap.size = w2.heap.size + 1 := by rw [e8]; exact size_alloc _ _
  have hc11 : w7.heap[w2.heap.size]? = some (.cells #[.bool b2, .int .i64 g2, .int .i64 f2, .int .i64 l2] 23 (0, 0)) := by rw [e8]; exact obj_new _ _
  clear e8
  refine tl_val (w' := w7) rfl (do_assign rfl) (by decide) ?_
  refine tl_end ?_
  refine fun a_ ha_ => hK1 _ _ _ (T.sub (L' := [(0, .agg #[.bool big, .int .i64 gen, .int .i64 first, .int .i64 last]), (1, .agg #[.bool b2, .int .i64 g2, .int .i64 f2, .int .i64 l2]), (2, .pointer (some ⟨w.heap.size, 0, none⟩)), (3, .pointer (some ⟨w2.heap.size, 0, none⟩)), (4, .bool false)]) ?_ (sub_cons rfl (sub_cons rfl (sub_cons rfl (sub_cons rfl (sub_cons rfl sub_nil)))))) a_ ha_
  refine t_seq (fun K12 hK12 => ?_)
  refine t_region ?_
  have h13 := (hb9.obj (fun x => x) hc6)
  refine tl_val (w' := w7) rfl (do_loads (cs := [.bool big, .int .i64 gen, .int .i64 first, .int .i64 last]) rfl (by kernel_rfl) (obj_range h13)) (by decide) ?_
  have h15 := (TabW.chg (TabW.chg hT hb4 (fun x => x)) hb9 (fun x => x))
  refine tl_call rfl (en_call (f := 11) (by kernel_rfl) rfl) rfl (hput_e big gen first last _ h15 (by omega) (by omega) (by omega)) (fun v18 w16 hr17 => ?_) (fun _ _ h => h.elim) (fun _ h => h)
  obtain ⟨hchg14, hp14⟩ := hr17
  have hz19 := hchg14.size
  rcases hp14 with ⟨hright14, A14, c14, rfl, hrd14, ho14⟩ | ⟨hright14, rfl⟩
  · have hsl14 := sector_length big gen first last
    refine tl_val (w' := w16) rfl (do_move rfl) (by decide) ?_
    refine tl_val (w' := w16) rfl (do_extract (v := .slice A14 ((sector big gen first last).length) c14) rfl rfl) (by decide) ?_
    refine tl_val (w' := w16) rfl (do_extract (v := .int .i64 0) rfl rfl) (by decide) ?_
    refine tl_val (w' := w16) rfl (do_assign rfl) (by decide) ?_
    refine tl_val (w' := w16) rfl (do_assign rfl) (by decide) ?_
    refine tl_end ?_
    refine fun a_ ha_ => hK12 _ _ _ (T.sub (L' := [(0, .agg #[.bool big, .int .i64 gen, .int .i64 first, .int .i64 last]), (1, .agg #[.bool b2, .int .i64 g2, .int .i64 f2, .int .i64 l2]), (2, .pointer (some ⟨w.heap.size, 0, none⟩)), (3, .pointer (some ⟨w2.heap.size, 0, none⟩)), (4, .bool false), (5, .slice A14 ((sector big gen first last).length) c14), (6, .int .i64 0)]) ?_ (sub_cons rfl (sub_cons rfl (sub_cons rfl (sub_cons rfl (sub_cons rfl (sub_cons rfl (sub_cons rfl sub_nil)))))))) a_ ha_
    refine t_seq (fun K20 hK20 => ?_)
    refine t_region ?_
    have h21 := (hchg14.obj (fun x => x) hc11)
    refine tl_val (w' := w16) rfl (do_loads (cs := [.bool b2, .int .i64 g2, .int .i64 f2, .int .i64 l2]) rfl (by kernel_rfl) (obj_range h21)) (by decide) ?_
    have h23 := (TabW.chg h15 hchg14 (fun x => x))
    refine tl_call rfl (en_call (f := 11) (by kernel_rfl) rfl) rfl (hput_e b2 g2 f2 l2 _ h23 (by omega) (by omega) (by omega)) (fun v26 w24 hr25 => ?_) (fun _ _ h => h.elim) (fun _ h => h)
    obtain ⟨hchg22, hp22⟩ := hr25
    have hz27 := hchg22.size
    rcases hp22 with ⟨hright22, A22, c22, rfl, hrd22, ho22⟩ | ⟨hright22, rfl⟩
    · have hsl22 := sector_length b2 g2 f2 l2
      refine tl_val (w' := w24) rfl (do_move rfl) (by decide) ?_
      refine tl_val (w' := w24) rfl (do_extract (v := .slice A22 ((sector b2 g2 f2 l2).length) c22) rfl rfl) (by decide) ?_
      refine tl_val (w' := w24) rfl (do_extract (v := .int .i64 0) rfl rfl) (by decide) ?_
      refine tl_val (w' := w24) rfl (do_assign rfl) (by decide) ?_
      refine tl_val (w' := w24) rfl (do_assign rfl) (by decide) ?_
      refine tl_end ?_
      refine fun a_ ha_ => hK20 _ _ _ (T.sub (L' := [(0, .agg #[.bool big, .int .i64 gen, .int .i64 first, .int .i64 last]), (1, .agg #[.bool b2, .int .i64 g2, .int .i64 f2, .int .i64 l2]), (2, .pointer (some ⟨w.heap.size, 0, none⟩)), (3, .pointer (some ⟨w2.heap.size, 0, none⟩)), (4, .bool false), (5, .slice A14 ((sector big gen first last).length) c14), (6, .int .i64 0), (7, .slice A22 ((sector b2 g2 f2 l2).length) c22), (8, .int .i64 0)]) ?_ (sub_cons rfl (sub_cons rfl (sub_cons rfl (sub_cons rfl (sub_cons rfl (sub_cons rfl (sub_cons rfl (sub_cons rfl (sub_cons rfl sub_nil)))))))))) a_ ha_
      refine t_seq (fun K28 hK28 => ?_)
      refine t_seq (fun K29 hK29 => ?_)
      refine t_region ?_
      refine tl_val (w' := w24) rfl (do_move rfl) (by decide) ?_
      refine tl_val (w' := w24) rfl (do_neq rfl rfl) (by decide) ?_
      have hk30 : (decide ((0 : Int) ≠ 0)) = false := by decide
      refine tl_val (w' := w24) rfl (do_move rfl) (by decide) ?_
      refine tl_val (w' := w24) ⟨23, _, rfl, rfl, (by rw [hk30]; rfl)⟩ (do_move rfl) (by decide) ?_
      refine tl_val (w' := w24) ⟨23, _, rfl, rfl, (by rw [hk30]; rfl)⟩ (do_neq rfl rfl) (by decide) ?_
      have hk31 : (decide ((0 : Int) ≠ 0)) = false := by decide
      refine tl_val (w' := w24) rfl (do_pick_f rfl hk31 rfl) (by decide) ?_
      refine tl_val (w' := w24) rfl (do_move rfl) (by decide) ?_
      have h32 := (hchg22.obj (fun x => x) (hchg14.obj (fun x => x) h13))
      refine tl_val (w' := w24) ⟨27, _, rfl, rfl, (by rw [hk31]; rfl)⟩ (do_loads (cs := [.bool big, .int .i64 gen, .int .i64 first, .int .i64 last]) rfl (by kernel_rfl) (obj_range h32)) (by decide) ?_
      have h33 := (hchg22.obj (fun x => x) h21)
      refine tl_val (w' := w24) ⟨27, _, rfl, rfl, (by rw [hk31]; rfl)⟩ (do_loads (cs := [.bool b2, .int .i64 g2, .int .i64 f2, .int .i64 l2]) rfl (by kernel_rfl) (obj_range h33)) (by decide) ?_
      refine tl_val (w' := w24) ⟨27, _, rfl, rfl, (by rw [hk31]; rfl)⟩ (do_eqst (p := big = b2 ∧ gen = g2 ∧ first = f2 ∧ last = l2) (xs := [.b big, .i .i64 gen, .i .i64 first, .i .i64 last]) (ys := [.b b2, .i .i64 g2, .i .i64 f2, .i .i64 l2]) rfl rfl (by kernel_rfl) rfl (by simp [all2, Sc.same])) (by decide) ?_
      refine tl_val (w' := w24) rfl (do_pick_f rfl hk31 rfl) (by decide) ?_
      refine tl_val (w' := w24) rfl (do_move rfl) (by decide) ?_
      by_cases hc34 : big = b2 ∧ gen = g2 ∧ first = f2 ∧ last = l2
      · have hk35 := decide_eq_true hc34
        refine tl_skipU ⟨32, _, rfl, rfl, (by rw [hk35]; rfl)⟩ (by decide) ?_
        refine tl_skipU ⟨32, _, rfl, rfl, (by rw [hk35]; rfl)⟩ (by decide) ?_
        refine tl_skipU ⟨32, _, rfl, rfl, (by rw [hk35]; rfl)⟩ (by decide) ?_
        refine tl_skipU ⟨32, _, rfl, rfl, (by rw [hk35]; rfl)⟩ (by decide) ?_
        refine tl_skipU ⟨32, _, rfl, rfl, (by rw [hk35]; rfl)⟩ (by decide) ?_
        refine tl_val (w' := w24) rfl (do_pick_t rfl hk35 rfl) (by decide) ?_
        refine tl_end ?_
        refine fun a_ ha_ => hK29 _ _ _ (T.sub (L' := [(0, .agg #[.bool big, .int .i64 gen, .int .i64 first, .int .i64 last]), (1, .agg #[.bool b2, .int .i64 g2, .int .i64 f2, .int .i64 l2]), (2, .pointer (some ⟨w.heap.size, 0, none⟩)), (3, .pointer (some ⟨w2.heap.size, 0, none⟩)), (4, .bool false), (5, .slice A14 ((sector big gen first last).length) c14), (6, .int .i64 0), (7, .slice A22 ((sector b2 g2 f2 l2).length) c22), (8, .int .i64 0), (38, .bool true)]) ?_ (sub_cons rfl (sub_cons rfl (sub_cons rfl (sub_cons rfl (sub_cons rfl (sub_cons rfl (sub_cons rfl (sub_cons rfl (sub_cons rfl (sub_cons rfl sub_nil))))))))))) a_ ha_
        refine t_yes rfl rfl ?_
        refine t_seq (fun K36 hK36 => ?_)
        refine t_region ?_
        have h38 := (TabW.chg h23 hchg22 (fun x => x))
        refine tl_call rfl (en_call (f := 15) (by kernel_rfl) rfl) rfl (awake18_e h38) (fun v41 w39 hr40 => ?_) (fun _ _ h => h.elim) (fun _ h => h)
        obtain ⟨rfl, hchg37⟩ := hr40
        have hz42 := hchg37.size
        refine tl_val (w' := w39) rfl (do_assign rfl) (by decide) ?_
        refine tl_end ?_
        refine fun a_ ha_ => hK36 _ _ _ (T.sub (L' := [(0, .agg #[.bool big, .int .i64 gen, .int .i64 first, .int .i64 last]), (1, .agg #[.bool b2, .int .i64 g2, .int .i64 f2, .int .i64 l2]), (2, .pointer (some ⟨w.heap.size, 0, none⟩)), (3, .pointer (some ⟨w2.heap.size, 0, none⟩)), (4, .bool true), (5, .slice A14 ((sector big gen first last).length) c14), (6, .int .i64 0), (7, .slice A22 ((sector b2 g2 f2 l2).length) c22), (8, .int .i64 0), (38, .bool true)]) ?_ (sub_cons rfl (sub_cons rfl (sub_cons rfl (sub_cons rfl (sub_cons rfl (sub_cons rfl (sub_cons rfl (sub_cons rfl (sub_cons rfl (sub_cons rfl sub_nil))))))))))) a_ ha_
        refine t_ret ?_
        refine fun a_ ha_ => hQ0 _ _ _ (body_ret (rs := [.tmp 4]) (vs := [.bool true]) ha_ (by kernel_rfl) ⟨_, _, rfl, rfl, rfl⟩ ?_)
        exact ⟨rfl, ((((((Chg.refl (fun k_ => False) w).step hb4 (fun k_ hk_ (h_ : False) => h_.elim)).step hb9 (fun k_ hk_ (h_ : False) => h_.elim)).step hchg14 (fun k_ hk_ (h_ : False) => h_.elim)).step hchg22 (fun k_ hk_ (h_ : False) => h_.elim)).step hchg37 (fun k_ hk_ (h_ : False) => h_.elim))⟩
      · have hk35 := decide_eq_false hc34
        refine tl_val (w' := w24) ⟨32, _, rfl, rfl, (by rw [hk35]; rfl)⟩ (do_move rfl) (by decide) ?_
        refine tl_val (w' := w24) ⟨32, _, rfl, rfl, (by rw [hk35]; rfl)⟩ (do_builtin (v := .int .i64 ((sector big gen first last).length : Int)) rfl (fun _ _ => by kernel_rfl)) (by decide) ?_
        refine tl_val (w' := w24) ⟨32, _, rfl, rfl, (by rw [hk35]; rfl)⟩ (do_move rfl) (by decide) ?_
        refine tl_val (w' := w24) ⟨32, _, rfl, rfl, (by rw [hk35]; rfl)⟩ (do_builtin (v := .int .i64 ((sector b2 g2 f2 l2).length : Int)) rfl (fun _ _ => by kernel_rfl)) (by decide) ?_
        refine tl_val (w' := w24) ⟨32, _, rfl, rfl, (by rw [hk35]; rfl)⟩ (do_neq rfl rfl) (by decide) ?_
        refine tl_val (w' := w24) rfl (do_pick_f rfl hk35 rfl) (by decide) ?_
        refine tl_end ?_
        refine fun a_ ha_ => hK29 _ _ _ (T.sub (L' := [(0, .agg #[.bool big, .int .i64 gen, .int .i64 first, .int .i64 last]), (1, .agg #[.bool b2, .int .i64 g2, .int .i64 f2, .int .i64 l2]), (2, .pointer (some ⟨w.heap.size, 0, none⟩)), (3, .pointer (some ⟨w2.heap.size, 0, none⟩)), (4, .bool false), (5, .slice A14 ((sector big gen first last).length) c14), (6, .int .i64 0), (7, .slice A22 ((sector b2 g2 f2 l2).length) c22), (8, .int .i64 0), (38, .bool (decide (((sector big gen first last).length : Int) ≠ ((sector b2 g2 f2 l2).length : Int))))]) ?_ (sub_cons rfl (sub_cons rfl (sub_cons rfl (sub_cons rfl (sub_cons rfl (sub_cons rfl (sub_cons rfl (sub_cons rfl (sub_cons rfl (sub_cons rfl sub_nil))))))))))) a_ ha_
        have hk43 : (decide (((sector big gen first last).length : Int) ≠ ((sector b2 g2 f2 l2).length : Int))) = false := (decide_eq_false (show ¬ (((sector big gen first last).length : Int) ≠ ((sector b2 g2 f2 l2).length : Int)) from (by omega)))
        refine t_no rfl hk43 ?_
        refine t_skip ?_
        refine fun a_ ha_ => hK28 _ _ _ (T.sub (L' := [(0, .agg #[.bool big, .int .i64 gen, .int .i64 first, .int .i64 last]), (1, .agg #[.bool b2, .int .i64 g2, .int .i64 f2, .int .i64 l2]), (2, .pointer (some ⟨w.heap.size, 0, none⟩)), (3, .pointer (some ⟨w2.heap.size, 0, none⟩)), (4, .bool false), (5, .slice A14 ((sector big gen first last).length) c14), (6, .int .i64 0), (7, .slice A22 ((sector b2 g2 f2 l2).length) c22), (8, .int .i64 0), (38, .bool (decide (((sector big gen first last).length : Int) ≠ ((sector b2 g2 f2 l2).length : Int))))]) ?_ (sub_cons rfl (sub_cons rfl (sub_cons rfl (sub_cons rfl (sub_cons rfl (sub_cons rfl (sub_cons rfl (sub_cons rfl (sub_cons rfl (sub_cons rfl sub_nil))))))))))) a_ ha_
        refine t_seq (fun K44 hK44 => ?_)
        refine t_region ?_
        refine tl_val (w' := w24) rfl (do_assign rfl) (by decide) ?_
        refine tl_end ?_
        refine fun a_ ha_ => hK44 _ _ _ (T.sub (L' := [(0, .agg #[.bool big, .int .i64 gen, .int .i64 first, .int .i64 last]), (1, .agg #[.bool b2, .int .i64 g2, .int .i64 f2, .int .i64 l2]), (2, .pointer (some ⟨w.heap.size, 0, none⟩)), (3, .pointer (some ⟨w2.heap.size, 0, none⟩)), (4, .bool false), (5, .slice A14 ((sector big gen first last).length) c14), (6, .int .i64 0), (7, .slice A22 ((sector b2 g2 f2 l2).length) c22), (8, .int .i64 0), (9, .int .i64 0), (38, .bool (decide (((sector big gen first last).length : Int) ≠ ((sector b2 g2 f2 l2).length : Int))))]) ?_ (sub_cons rfl (sub_cons rfl (sub_cons rfl (sub_cons rfl (sub_cons rfl (sub_cons rfl (sub_cons rfl (sub_cons rfl (sub_cons rfl (sub_cons rfl (sub_cons rfl sub_nil)))))))))))) a_ ha_
        refine t_seq (fun K45 hK45 => ?_)
        refine t_seq (fun K46 hK46 => ?_)
        refine t_region ?_
        refine tl_val (w' := w24) rfl (do_move rfl) (by decide) ?_
        refine tl_val (w' := w24) rfl (do_builtin (v := .int .i64 ((sector big gen first last).length : Int)) rfl (fun _ _ => by kernel_rfl)) (by decide) ?_
        refine tl_val (w' := w24) rfl (do_move rfl) (by decide) ?_
        refine tl_end ?_
        refine fun a_ ha_ => hK46 _ _ _ (T.sub (L' := [(0, .agg #[.bool big, .int .i64 gen, .int .i64 first, .int .i64 last]), (1, .agg #[.bool b2, .int .i64 g2, .int .i64 f2, .int .i64 l2]), (2, .pointer (some ⟨w.heap.size, 0, none⟩)), (3, .pointer (some ⟨w2.heap.size, 0, none⟩)), (4, .bool false), (5, .slice A14 ((sector big gen first last).length) c14), (6, .int .i64 0), (7, .slice A22 ((sector b2 g2 f2 l2).length) c22), (8, .int .i64 0), (9, .int .i64 0), (38, .bool (decide (((sector big gen first last).length : Int) ≠ ((sector b2 g2 f2 l2).length : Int)))), (41, .int .i64 ((sector big gen first last).length : Int)), (42, .int .i64 0)]) ?_ (sub_cons rfl (sub_cons rfl (sub_cons rfl (sub_cons rfl (sub_cons rfl (sub_cons rfl (sub_cons rfl (sub_cons rfl (sub_cons rfl (sub_cons rfl (sub_cons rfl (sub_cons rfl (sub_cons rfl sub_nil)))))))))))))) a_ ha_
        refine t_block ?_
        have hd0_ : df (sector big gen first last) (sector b2 g2 f2 l2) 0 = 0 := rfl
        refine t_loop (G := Nat) (fun k => [(0, .agg #[.bool big, .int .i64 gen, .int .i64 first, .int .i64 last]), (1, .agg #[.bool b2, .int .i64 g2, .int .i64 f2, .int .i64 l2]), (2, .pointer (some ⟨w.heap.size, 0, none⟩)), (3, .pointer (some ⟨w2.heap.size, 0, none⟩)), (4, .bool false), (5, .slice A14 ((sector big gen first last).length) c14), (6, .int .i64 0), (7, .slice A22 ((sector b2 g2 f2 l2).length) c22), (8, .int .i64 0), (9, .int .i64 ((df (sector big gen first last) (sector b2 g2 f2 l2) k : Nat) : Int)), (38, .bool (decide (((sector big gen first last).length : Int) ≠ ((sector b2 g2 f2 l2).length : Int)))), (41, .int .i64 ((sector big gen first last).length : Int)), (42, .int .i64 (k : Int))]) (fun k WW_ => k ≤ 128 ∧ Chg (fun _ => False) w24 WW_) (fun k => 128 - k) 0 (⟨Nat.zero_le _, Chg.refl _ _⟩) (sub_cons rfl (sub_cons rfl (sub_cons rfl (sub_cons rfl (sub_cons rfl (sub_cons rfl (sub_cons rfl (sub_cons rfl (sub_cons rfl (sub_cons (as_int (a := 0) rfl (by omega)) (sub_cons rfl (sub_cons rfl (sub_cons (as_int (a := 0) rfl (by omega)) sub_nil))))))))))))) ?_
        rintro k w47 K48 hI49 hK50
        obtain ⟨hk, hchgl⟩ := hI49
        refine T.sub (L' := [(0, .agg #[.bool big, .int .i64 gen, .int .i64 first, .int .i64 last]), (1, .agg #[.bool b2, .int .i64 g2, .int .i64 f2, .int .i64 l2]), (2, .pointer (some ⟨w.heap.size, 0, none⟩)), (3, .pointer (some ⟨w2.heap.size, 0, none⟩)), (4, .bool false), (5, .slice A14 ((sector big gen first last).length) c14), (6, .int .i64 0), (7, .slice A22 ((sector b2 g2 f2 l2).length) c22), (8, .int .i64 0), (9, .int .i64 ((df (sector big gen first last) (sector b2 g2 f2 l2) k : Nat) : Int)), (38, .bool (decide (((sector big gen first last).length : Int) ≠ ((sector b2 g2 f2 l2).length : Int)))), (41, .int .i64 ((sector big gen first last).length : Int)), (42, .int .i64 (k : Int))]) ?_ (sub_cons rfl (sub_cons rfl (sub_cons rfl (sub_cons rfl (sub_cons rfl (sub_cons rfl (sub_cons rfl (sub_cons rfl (sub_cons rfl (sub_cons rfl (sub_cons rfl (sub_cons rfl (sub_cons rfl sub_nil)))))))))))))
        have hz51 := hchgl.size
        have hdl0_ := df_le (sector big gen first last) (sector b2 g2 f2 l2) k
        refine t_seq (fun K52 hK52 => ?_)
        refine t_region ?_
        refine tl_val (w' := w47) rfl (do_lss rfl rfl) (by decide) ?_
        refine tl_end ?_
        refine fun a_ ha_ => hK52 _ _ _ (T.sub (L' := [(0, .agg #[.bool big, .int .i64 gen, .int .i64 first, .int .i64 last]), (1, .agg #[.bool b2, .int .i64 g2, .int .i64 f2, .int .i64 l2]), (2, .pointer (some ⟨w.heap.size, 0, none⟩)), (3, .pointer (some ⟨w2.heap.size, 0, none⟩)), (4, .bool false), (5, .slice A14 ((sector big gen first last).length) c14), (6, .int .i64 0), (7, .slice A22 ((sector b2 g2 f2 l2).length) c22), (8, .int .i64 0), (9, .int .i64 ((df (sector big gen first last) (sector b2 g2 f2 l2) k : Nat) : Int)), (38, .bool (decide (((sector big gen first last).length : Int) ≠ ((sector b2 g2 f2 l2).length : Int)))), (41, .int .i64 ((sector big gen first last).length : Int)), (42, .int .i64 (k : Int)), (43, .bool (decide ((k : Int) < ((sector big gen first last).length : Int))))]) ?_ (sub_cons rfl (sub_cons rfl (sub_cons rfl (sub_cons rfl (sub_cons rfl (sub_cons rfl (sub_cons rfl (sub_cons rfl (sub_cons rfl (sub_cons rfl (sub_cons rfl (sub_cons rfl (sub_cons rfl (sub_cons rfl sub_nil))))))))))))))) a_ ha_
        refine t_seq (fun K53 hK53 => ?_)
        by_cases hc54 : (k : Int) < ((sector big gen first last).length : Int)
        · have hk55 := decide_eq_true hc54
          refine t_yes rfl hk55 ?_
          refine t_skip ?_
          refine fun a_ ha_ => hK53 _ _ _ (T.sub (L' := [(0, .agg #[.bool big, .int .i64 gen, .int .i64 first, .int .i64 last]), (1, .agg #[.bool b2, .int .i64 g2, .int .i64 f2, .int .i64 l2]), (2, .pointer (some ⟨w.heap.size, 0, none⟩)), (3, .pointer (some ⟨w2.heap.size, 0, none⟩)), (4, .bool false), (5, .slice A14 ((sector big gen first last).length) c14), (6, .int .i64 0), (7, .slice A22 ((sector b2 g2 f2 l2).length) c22), (8, .int .i64 0), (9, .int .i64 ((df (sector big gen first last) (sector b2 g2 f2 l2) k : Nat) : Int)), (38, .bool (decide (((sector big gen first last).length : Int) ≠ ((sector b2 g2 f2 l2).length : Int)))), (41, .int .i64 ((sector big gen first last).length : Int)), (42, .int .i64 (k : Int)), (43, .bool (decide ((k : Int) < ((sector big gen first last).length : Int))))]) ?_ (sub_cons rfl (sub_cons rfl (sub_cons rfl (sub_cons rfl (sub_cons rfl (sub_cons rfl (sub_cons rfl (sub_cons rfl (sub_cons rfl (sub_cons rfl (sub_cons rfl (sub_cons rfl (sub_cons rfl (sub_cons rfl sub_nil))))))))))))))) a_ ha_
          refine t_seq (fun K56 hK56 => ?_)
          refine t_block ?_
          refine t_seq (fun K57 hK57 => ?_)
          refine t_region ?_
          refine tl_val (w' := w47) rfl (do_move rfl) (by decide) ?_
          refine tl_val (w' := w47) rfl (do_assign rfl) (by decide) ?_
          refine tl_end ?_
          refine fun a_ ha_ => hK57 _ _ _ (T.sub (L' := [(0, .agg #[.bool big, .int .i64 gen, .int .i64 first, .int .i64 last]), (1, .agg #[.bool b2, .int .i64 g2, .int .i64 f2, .int .i64 l2]), (2, .pointer (some ⟨w.heap.size, 0, none⟩)), (3, .pointer (some ⟨w2.heap.size, 0, none⟩)), (4, .bool false), (5, .slice A14 ((sector big gen first last).length) c14), (6, .int .i64 0), (7, .slice A22 ((sector b2 g2 f2 l2).length) c22), (8, .int .i64 0), (9, .int .i64 ((df (sector big gen first last) (sector b2 g2 f2 l2) k : Nat) : Int)), (10, .int .i64 (k : Int)), (38, .bool (decide (((sector big gen first last).length : Int) ≠ ((sector b2 g2 f2 l2).length : Int)))), (41, .int .i64 ((sector big gen first last).length : Int)), (42, .int .i64 (k : Int)), (43, .bool (decide ((k : Int) < ((sector big gen first last).length : Int))))]) ?_ (sub_cons rfl (sub_cons rfl (sub_cons rfl (sub_cons rfl (sub_cons rfl (sub_cons rfl (sub_cons rfl (sub_cons rfl (sub_cons rfl (sub_cons rfl (sub_cons rfl (sub_cons rfl (sub_cons rfl (sub_cons rfl (sub_cons rfl sub_nil)))))))))))))))) a_ ha_
          refine t_seq (fun K58 hK58 => ?_)
          refine t_drawnC (fun _ => False) 9 (.take 0 { dst := (some 45), op := (Go.Op.move (Go.Operand.tmp 5)), type := 24, pos := "law.go:87", after := #[], guard := none } (.take 1 { dst := (some 46), op := (Go.Op.move (Go.Operand.tmp 10)), type := 3, pos := "law.go:87", after := #[], guard := none } (.take 2 { dst := (some 47), op := (Go.Op.indexAddr 24 (Go.Operand.tmp 45) (Go.Operand.tmp 46)), type := 0, pos := "law.go:87", after := #[{ on := 0, ground := Go.Ground.data }, { on := 1, ground := Go.Ground.data }], guard := none } (.take 3 { dst := (some 48), op := (Go.Op.load 5 (Go.Operand.tmp 47)), type := 5, pos := "law.go:87", after := #[{ on := 2, ground := Go.Ground.data }], guard := none } (.take 4 { dst := (some 49), op := (Go.Op.move (Go.Operand.tmp 7)), type := 24, pos := "law.go:87", after := #[], guard := none } (.take 5 { dst := (some 50), op := (Go.Op.move (Go.Operand.tmp 10)), type := 3, pos := "law.go:87", after := #[], guard := none } (.take 6 { dst := (some 51), op := (Go.Op.indexAddr 24 (Go.Operand.tmp 49) (Go.Operand.tmp 50)), type := 0, pos := "law.go:87", after := #[{ on := 4, ground := Go.Ground.data }, { on := 5, ground := Go.Ground.data }], guard := none } (.take 7 { dst := (some 52), op := (Go.Op.load 5 (Go.Operand.tmp 51)), type := 5, pos := "law.go:87", after := #[{ on := 6, ground := Go.Ground.data }], guard := none } (.take 8 { dst := (some 53), op := (Go.Op.binOp Go.BinOp.neq 5 (Go.Operand.tmp 48) (Go.Operand.tmp 52) 5), type := 4, pos := "law.go:87", after := #[{ on := 3, ground := Go.Ground.data }, { on := 7, ground := Go.Ground.data }], guard := none } .done))))))))) rfl (by kernel_rfl) (by repeat (first | exact hB0 | apply blind_then | apply blind_in)) (by kernel_rfl) (by kernel_rfl) rfl (fun w59 hb60 hz61 => ?_)
          refine td_takeC rfl (by decide) (fun w_ h_ => (do_move rfl)) ?_
          refine td_takeC rfl (by decide) (fun w_ h_ => (do_move rfl)) ?_
          have h62 := (Rd.chg hrd14 (Rd.chg hrd14 (Rd.chg hrd14 hrd14 hchg22 (fun _ _ x => x)) hchgl (fun _ _ x => x)) hb60 (fun _ _ x => x))
          refine td_takeC rfl (by decide) (fun w_ h_ => (do_indexAddr rfl rfl (idx_rd' (j := k) h62 (by kernel_rfl) rfl (by omega) _))) ?_
          refine td_takeC rfl (by decide) (fun w_ h_ => (do_load_rd rfl (by kernel_rfl) (Rd.chg hrd14 h62 h_ (fun _ _ x => x)) (by omega))) ?_
          refine td_takeC rfl (by decide) (fun w_ h_ => (do_move rfl)) ?_
          refine td_takeC rfl (by decide) (fun w_ h_ => (do_move rfl)) ?_
          have h63 := (Rd.chg hrd22 (Rd.chg hrd22 hrd22 hchgl (fun _ _ x => x)) hb60 (fun _ _ x => x))
          refine td_takeC rfl (by decide) (fun w_ h_ => (do_indexAddr rfl rfl (idx_rd' (j := k) h63 (by kernel_rfl) rfl (by omega) _))) ?_
          refine td_takeC rfl (by decide) (fun w_ h_ => (do_load_rd rfl (by kernel_rfl) (Rd.chg hrd22 h63 h_ (fun _ _ x => x)) (by omega))) ?_
          refine td_takeC rfl (by decide) (fun w_ h_ => (do_neq rfl rfl)) ?_
          refine td_end ?_
          refine fun a_ ha_ => hK58 _ _ _ (T.sub (L' := [(0, .agg #[.bool big, .int .i64 gen, .int .i64 first, .int .i64 last]), (1, .agg #[.bool b2, .int .i64 g2, .int .i64 f2, .int .i64 l2]), (2, .pointer (some ⟨w.heap.size, 0, none⟩)), (3, .pointer (some ⟨w2.heap.size, 0, none⟩)), (4, .bool false), (5, .slice A14 ((sector big gen first last).length) c14), (6, .int .i64 0), (7, .slice A22 ((sector b2 g2 f2 l2).length) c22), (8, .int .i64 0), (9, .int .i64 ((df (sector big gen first last) (sector b2 g2 f2 l2) k : Nat) : Int)), (10, .int .i64 (k : Int)), (38, .bool (decide (((sector big gen first last).length : Int) ≠ ((sector b2 g2 f2 l2).length : Int)))), (41, .int .i64 ((sector big gen first last).length : Int)), (42, .int .i64 (k : Int)), (43, .bool (decide ((k : Int) < ((sector big gen first last).length : Int)))), (53, .bool (decide ((((sector big gen first last).getD k 0).toNat : Int) ≠ (((sector b2 g2 f2 l2).getD k 0).toNat : Int))))]) ?_ (sub_cons rfl (sub_cons rfl (sub_cons rfl (sub_cons rfl (sub_cons rfl (sub_cons rfl (sub_cons rfl (sub_cons rfl (sub_cons rfl (sub_cons rfl (sub_cons rfl (sub_cons rfl (sub_cons rfl (sub_cons rfl (sub_cons rfl (sub_cons rfl sub_nil))))))))))))))))) a_ ha_
          by_cases hc64 : (((sector big gen first last).getD k 0).toNat : Int) ≠ (((sector b2 g2 f2 l2).getD k 0).toNat : Int)
          · have hk65 := decide_eq_true hc64
            have hdf_ := df_yes hc64
            refine t_yes rfl hk65 ?_
            refine t_region ?_
            refine tl_val (w' := w59) rfl (do_move rfl) (by decide) ?_
            refine tl_val (w' := w59) rfl (do_add (c := ((df (sector big gen first last) (sector b2 g2 f2 l2) k : Nat) : Int) + 1) rfl rfl (wrap_i64 (by omega) (by omega))) (by decide) ?_
            refine tl_val (w' := w59) rfl (do_assign rfl) (by decide) ?_
            refine tl_end ?_
            refine fun a_ ha_ => hK56 _ _ _ (T.sub (L' := [(0, .agg #[.bool big, .int .i64 gen, .int .i64 first, .int .i64 last]), (1, .agg #[.bool b2, .int .i64 g2, .int .i64 f2, .int .i64 l2]), (2, .pointer (some ⟨w.heap.size, 0, none⟩)), (3, .pointer (some ⟨w2.heap.size, 0, none⟩)), (4, .bool false), (5, .slice A14 ((sector big gen first last).length) c14), (6, .int .i64 0), (7, .slice A22 ((sector b2 g2 f2 l2).length) c22), (8, .int .i64 0), (9, .int .i64 (((df (sector big gen first last) (sector b2 g2 f2 l2) k : Nat) : Int) + 1)), (10, .int .i64 (k : Int)), (38, .bool (decide (((sector big gen first last).length : Int) ≠ ((sector b2 g2 f2 l2).length : Int)))), (41, .int .i64 ((sector big gen first last).length : Int)), (42, .int .i64 (k : Int)), (43, .bool (decide ((k : Int) < ((sector big gen first last).length : Int)))), (53, .bool (decide ((((sector big gen first last).getD k 0).toNat : Int) ≠ (((sector b2 g2 f2 l2).getD k 0).toNat : Int))))]) ?_ (sub_cons rfl (sub_cons rfl (sub_cons rfl (sub_cons rfl (sub_cons rfl (sub_cons rfl (sub_cons rfl (sub_cons rfl (sub_cons rfl (sub_cons rfl (sub_cons rfl (sub_cons rfl (sub_cons rfl (sub_cons rfl (sub_cons rfl (sub_cons rfl sub_nil))))))))))))))))) a_ ha_
            refine t_region ?_
            refine tl_val (w' := w59) rfl (do_add (c := (k : Int) + 1) rfl rfl (wrap_i64 (by omega) (by omega))) (by decide) ?_
            refine tl_val (w' := w59) rfl (do_move rfl) (by decide) ?_
            refine tl_end ?_
            have hdl_ := df_le (sector big gen first last) (sector b2 g2 f2 l2) k
            refine fun a_ ha_ => hK50 (k + 1) _ _ (⟨by omega, (((Chg.refl (fun k_ => False) w24).step hchgl (fun k_ hk_ (h_ : False) => h_.elim)).step hb60 (fun k_ hk_ (h_ : False) => h_.elim))⟩) (show 128 - (k + 1) < 128 - k by omega) (sub_cons rfl (sub_cons rfl (sub_cons rfl (sub_cons rfl (sub_cons rfl (sub_cons rfl (sub_cons rfl (sub_cons rfl (sub_cons rfl (sub_cons (as_int (a := ((df (sector big gen first last) (sector b2 g2 f2 l2) k : Nat) : Int) + 1) rfl (by omega)) (sub_cons rfl (sub_cons rfl (sub_cons (as_int (a := (k : Int) + 1) rfl (by omega)) sub_nil))))))))))))) a_ ha_
          · have hk65 := decide_eq_false hc64
            have hdf_ := df_no hc64
            refine t_no rfl hk65 ?_
            refine t_skip ?_
            refine fun a_ ha_ => hK56 _ _ _ (T.sub (L' := [(0, .agg #[.bool big, .int .i64 gen, .int .i64 first, .int .i64 last]), (1, .agg #[.bool b2, .int .i64 g2, .int .i64 f2, .int .i64 l2]), (2, .pointer (some ⟨w.heap.size, 0, none⟩)), (3, .pointer (some ⟨w2.heap.size, 0, none⟩)), (4, .bool false), (5, .slice A14 ((sector big gen first last).length) c14), (6, .int .i64 0), (7, .slice A22 ((sector b2 g2 f2 l2).length) c22), (8, .int .i64 0), (9, .int .i64 ((df (sector big gen first last) (sector b2 g2 f2 l2) k : Nat) : Int)), (10, .int .i64 (k : Int)), (38, .bool (decide (((sector big gen first last).length : Int) ≠ ((sector b2 g2 f2 l2).length : Int)))), (41, .int .i64 ((sector big gen first last).length : Int)), (42, .int .i64 (k : Int)), (43, .bool (decide ((k : Int) < ((sector big gen first last).length : Int)))), (53, .bool (decide ((((sector big gen first last).getD k 0).toNat : Int) ≠ (((sector b2 g2 f2 l2).getD k 0).toNat : Int))))]) ?_ (sub_cons rfl (sub_cons rfl (sub_cons rfl (sub_cons rfl (sub_cons rfl (sub_cons rfl (sub_cons rfl (sub_cons rfl (sub_cons rfl (sub_cons rfl (sub_cons rfl (sub_cons rfl (sub_cons rfl (sub_cons rfl (sub_cons rfl (sub_cons rfl sub_nil))))))))))))))))) a_ ha_
            refine t_region ?_
            refine tl_val (w' := w59) rfl (do_add (c := (k : Int) + 1) rfl rfl (wrap_i64 (by omega) (by omega))) (by decide) ?_
            refine tl_val (w' := w59) rfl (do_move rfl) (by decide) ?_
            refine tl_end ?_
            have hdl_ := df_le (sector big gen first last) (sector b2 g2 f2 l2) k
            refine fun a_ ha_ => hK50 (k + 1) _ _ (⟨by omega, (((Chg.refl (fun k_ => False) w24).step hchgl (fun k_ hk_ (h_ : False) => h_.elim)).step hb60 (fun k_ hk_ (h_ : False) => h_.elim))⟩) (show 128 - (k + 1) < 128 - k by omega) (sub_cons rfl (sub_cons rfl (sub_cons rfl (sub_cons rfl (sub_cons rfl (sub_cons rfl (sub_cons rfl (sub_cons rfl (sub_cons rfl (sub_cons (as_int (a := ((df (sector big gen first last) (sector b2 g2 f2 l2) k : Nat) : Int)) rfl (by omega)) (sub_cons rfl (sub_cons rfl (sub_cons (as_int (a := (k : Int) + 1) rfl (by omega)) sub_nil))))))))))))) a_ ha_
        · have hk55 := decide_eq_false hc54
          have hk2_ : k = 128 := by omega
          have hap_ : 2 ≤ df (sector big gen first last) (sector b2 g2 f2 l2) 128 := sec_apart (x := (big, gen, first, last)) (y := (b2, g2, f2, l2)) hright14 hright22 (fun h_ => hc34 (by simpa using h_))
          rw [← hk2_] at hap_
          refine t_no rfl hk55 ?_
          refine t_exit ?_
          refine fun a_ ha_ => hK45 _ _ _ (T.sub (L' := [(0, .agg #[.bool big, .int .i64 gen, .int .i64 first, .int .i64 last]), (1, .agg #[.bool b2, .int .i64 g2, .int .i64 f2, .int .i64 l2]), (2, .pointer (some ⟨w.heap.size, 0, none⟩)), (3, .pointer (some ⟨w2.heap.size, 0, none⟩)), (4, .bool false), (5, .slice A14 ((sector big gen first last).length) c14), (6, .int .i64 0), (7, .slice A22 ((sector b2 g2 f2 l2).length) c22), (8, .int .i64 0), (9, .int .i64 ((df (sector big gen first last) (sector b2 g2 f2 l2) k : Nat) : Int)), (38, .bool (decide (((sector big gen first last).length : Int) ≠ ((sector b2 g2 f2 l2).length : Int)))), (41, .int .i64 ((sector big gen first last).length : Int)), (42, .int .i64 (k : Int)), (43, .bool (decide ((k : Int) < ((sector big gen first last).length : Int))))]) ?_ (sub_cons rfl (sub_cons rfl (sub_cons rfl (sub_cons rfl (sub_cons rfl (sub_cons rfl (sub_cons rfl (sub_cons rfl (sub_cons rfl (sub_cons rfl (sub_cons rfl (sub_cons rfl (sub_cons rfl (sub_cons rfl sub_nil))))))))))))))) a_ ha_
          refine t_seq (fun K66 hK66 => ?_)
          refine t_region ?_
          refine tl_val (w' := w47) rfl (do_move rfl) (by decide) ?_
          refine tl_val (w' := w47) rfl (do_gtr rfl rfl) (by decide) ?_
          refine tl_val (w' := w47) rfl (do_move rfl) (by decide) ?_
          have hk67 : (decide (((df (sector big gen first last) (sector b2 g2 f2 l2) k : Nat) : Int) > 1)) = true := (decide_eq_true (show ((df (sector big gen first last) (sector b2 g2 f2 l2) k : Nat) : Int) > 1 from (by omega)))
          have h69 := (TabW.chg (TabW.chg h23 hchg22 (fun x => x)) hchgl (fun x => x))
          refine tl_call ⟨59, _, rfl, rfl, (by rw [hk67]; rfl)⟩ (en_call (f := 15) (by kernel_rfl) rfl) rfl (awake18_e h69) (fun v72 w70 hr71 => ?_) (fun _ _ h => h.elim) (fun _ h => h)
          obtain ⟨rfl, hchg68⟩ := hr71
          have hz73 := hchg68.size
          refine tl_val (w' := w70) rfl (do_pick_t rfl hk67 rfl) (by decide) ?_
          refine tl_val (w' := w70) rfl (do_assign rfl) (by decide) ?_
          refine tl_end ?_
          refine fun a_ ha_ => hK66 _ _ _ (T.sub (L' := [(0, .agg #[.bool big, .int .i64 gen, .int .i64 first, .int .i64 last]), (1, .agg #[.bool b2, .int .i64 g2, .int .i64 f2, .int .i64 l2]), (2, .pointer (some ⟨w.heap.size, 0, none⟩)), (3, .pointer (some ⟨w2.heap.size, 0, none⟩)), (4, .bool true), (5, .slice A14 ((sector big gen first last).length) c14), (6, .int .i64 0), (7, .slice A22 ((sector b2 g2 f2 l2).length) c22), (8, .int .i64 0), (9, .int .i64 ((df (sector big gen first last) (sector b2 g2 f2 l2) k : Nat) : Int)), (38, .bool (decide (((sector big gen first last).length : Int) ≠ ((sector b2 g2 f2 l2).length : Int)))), (41, .int .i64 ((sector big gen first last).length : Int)), (42, .int .i64 (k : Int)), (43, .bool (decide ((k : Int) < ((sector big gen first last).length : Int))))]) ?_ (sub_cons rfl (sub_cons rfl (sub_cons rfl (sub_cons rfl (sub_cons rfl (sub_cons rfl (sub_cons rfl (sub_cons rfl (sub_cons rfl (sub_cons rfl (sub_cons rfl (sub_cons rfl (sub_cons rfl (sub_cons rfl sub_nil))))))))))))))) a_ ha_
          refine t_ret ?_
          refine fun a_ ha_ => hQ0 _ _ _ (body_ret (rs := [.tmp 4]) (vs := [.bool true]) ha_ (by kernel_rfl) ⟨_, _, rfl, rfl, rfl⟩ ?_)
          exact ⟨rfl, (((((((Chg.refl (fun k_ => False) w).step hb4 (fun k_ hk_ (h_ : False) => h_.elim)).step hb9 (fun k_ hk_ (h_ : False) => h_.elim)).step hchg14 (fun k_ hk_ (h_ : False) => h_.elim)).step hchg22 (fun k_ hk_ (h_ : False) => h_.elim)).step hchgl (fun k_ hk_ (h_ : False) => h_.elim)).step hchg68 (fun k_ hk_ (h_ : False) => h_.elim))⟩
    · refine tl_val (w' := w24) rfl (do_move rfl) (by decide) ?_
      refine tl_val (w' := w24) rfl (do_extract (v := .slice none 0 0) rfl rfl) (by decide) ?_
      refine tl_val (w' := w24) rfl (do_extract (v := .int .i64 1) rfl rfl) (by decide) ?_
      refine tl_val (w' := w24) rfl (do_assign rfl) (by decide) ?_
      refine tl_val (w' := w24) rfl (do_assign rfl) (by decide) ?_
      refine tl_end ?_
      refine fun a_ ha_ => hK20 _ _ _ (T.sub (L' := [(0, .agg #[.bool big, .int .i64 gen, .int .i64 first, .int .i64 last]), (1, .agg #[.bool b2, .int .i64 g2, .int .i64 f2, .int .i64 l2]), (2, .pointer (some ⟨w.heap.size, 0, none⟩)), (3, .pointer (some ⟨w2.heap.size, 0, none⟩)), (4, .bool false), (5, .slice A14 ((sector big gen first last).length) c14), (6, .int .i64 0), (7, .slice none 0 0), (8, .int .i64 1)]) ?_ (sub_cons rfl (sub_cons rfl (sub_cons rfl (sub_cons rfl (sub_cons rfl (sub_cons rfl (sub_cons rfl (sub_cons rfl (sub_cons rfl sub_nil)))))))))) a_ ha_
      refine t_seq (fun K74 hK74 => ?_)
      refine t_seq (fun K75 hK75 => ?_)
      refine t_region ?_
      refine tl_val (w' := w24) rfl (do_move rfl) (by decide) ?_
      refine tl_val (w' := w24) rfl (do_neq rfl rfl) (by decide) ?_
      have hk76 : (decide ((0 : Int) ≠ 0)) = false := by decide
      refine tl_val (w' := w24) rfl (do_move rfl) (by decide) ?_
      refine tl_val (w' := w24) ⟨23, _, rfl, rfl, (by rw [hk76]; rfl)⟩ (do_move rfl) (by decide) ?_
      refine tl_val (w' := w24) ⟨23, _, rfl, rfl, (by rw [hk76]; rfl)⟩ (do_neq rfl rfl) (by decide) ?_
      have hk77 : (decide ((1 : Int) ≠ 0)) = true := by decide
      refine tl_val (w' := w24) rfl (do_pick_f rfl hk76 rfl) (by decide) ?_
      refine tl_val (w' := w24) rfl (do_move rfl) (by decide) ?_
      refine tl_skipU ⟨27, _, rfl, rfl, (by rw [hk77]; rfl)⟩ (by decide) ?_
      refine tl_skipU ⟨27, _, rfl, rfl, (by rw [hk77]; rfl)⟩ (by decide) ?_
      refine tl_skipU ⟨27, _, rfl, rfl, (by rw [hk77]; rfl)⟩ (by decide) ?_
      refine tl_val (w' := w24) rfl (do_pick_t rfl hk77 rfl) (by decide) ?_
      refine tl_val (w' := w24) rfl (do_move rfl) (by decide) ?_
      refine tl_skipU ⟨32, _, rfl, rfl, rfl⟩ (by decide) ?_
      refine tl_skipU ⟨32, _, rfl, rfl, rfl⟩ (by decide) ?_
      refine tl_skipU ⟨32, _, rfl, rfl, rfl⟩ (by decide) ?_
      refine tl_skipU ⟨32, _, rfl, rfl, rfl⟩ (by decide) ?_
      refine tl_skipU ⟨32, _, rfl, rfl, rfl⟩ (by decide) ?_
      refine tl_val (w' := w24) rfl (do_pick_t rfl rfl rfl) (by decide) ?_
      refine tl_end ?_
      refine fun a_ ha_ => hK75 _ _ _ (T.sub (L' := [(0, .agg #[.bool big, .int .i64 gen, .int .i64 first, .int .i64 last]), (1, .agg #[.bool b2, .int .i64 g2, .int .i64 f2, .int .i64 l2]), (2, .pointer (some ⟨w.heap.size, 0, none⟩)), (3, .pointer (some ⟨w2.heap.size, 0, none⟩)), (4, .bool false), (5, .slice A14 ((sector big gen first last).length) c14), (6, .int .i64 0), (7, .slice none 0 0), (8, .int .i64 1), (38, .bool true)]) ?_ (sub_cons rfl (sub_cons rfl (sub_cons rfl (sub_cons rfl (sub_cons rfl (sub_cons rfl (sub_cons rfl (sub_cons rfl (sub_cons rfl (sub_cons rfl sub_nil))))))))))) a_ ha_
      refine t_yes rfl rfl ?_
      refine t_seq (fun K78 hK78 => ?_)
      refine t_region ?_
      have h80 := (TabW.chg h23 hchg22 (fun x => x))
      refine tl_call rfl (en_call (f := 15) (by kernel_rfl) rfl) rfl (awake18_e h80) (fun v83 w81 hr82 => ?_) (fun _ _ h => h.elim) (fun _ h => h)
      obtain ⟨rfl, hchg79⟩ := hr82
      have hz84 := hchg79.size
      refine tl_val (w' := w81) rfl (do_assign rfl) (by decide) ?_
      refine tl_end ?_
      refine fun a_ ha_ => hK78 _ _ _ (T.sub (L' := [(0, .agg #[.bool big, .int .i64 gen, .int .i64 first, .int .i64 last]), (1, .agg #[.bool b2, .int .i64 g2, .int .i64 f2, .int .i64 l2]), (2, .pointer (some ⟨w.heap.size, 0, none⟩)), (3, .pointer (some ⟨w2.heap.size, 0, none⟩)), (4, .bool true), (5, .slice A14 ((sector big gen first last).length) c14), (6, .int .i64 0), (7, .slice none 0 0), (8, .int .i64 1), (38, .bool true)]) ?_ (sub_cons rfl (sub_cons rfl (sub_cons rfl (sub_cons rfl (sub_cons rfl (sub_cons rfl (sub_cons rfl (sub_cons rfl (sub_cons rfl (sub_cons rfl sub_nil))))))))))) a_ ha_
      refine t_ret ?_
      refine fun a_ ha_ => hQ0 _ _ _ (body_ret (rs := [.tmp 4]) (vs := [.bool true]) ha_ (by kernel_rfl) ⟨_, _, rfl, rfl, rfl⟩ ?_)
      exact ⟨rfl, ((((((Chg.refl (fun k_ => False) w).step hb4 (fun k_ hk_ (h_ : False) => h_.elim)).step hb9 (fun k_ hk_ (h_ : False) => h_.elim)).step hchg14 (fun k_ hk_ (h_ : False) => h_.elim)).step hchg22 (fun k_ hk_ (h_ : False) => h_.elim)).step hchg79 (fun k_ hk_ (h_ : False) => h_.elim))⟩
  · refine tl_val (w' := w16) rfl (do_move rfl) (by decide) ?_
    refine tl_val (w' := w16) rfl (do_extract (v := .slice none 0 0) rfl rfl) (by decide) ?_
    refine tl_val (w' := w16) rfl (do_extract (v := .int .i64 1) rfl rfl) (by decide) ?_
    refine tl_val (w' := w16) rfl (do_assign rfl) (by decide) ?_
    refine tl_val (w' := w16) rfl (do_assign rfl) (by decide) ?_
    refine tl_end ?_
    refine fun a_ ha_ => hK12 _ _ _ (T.sub (L' := [(0, .agg #[.bool big, .int .i64 gen, .int .i64 first, .int .i64 last]), (1, .agg #[.bool b2, .int .i64 g2, .int .i64 f2, .int .i64 l2]), (2, .pointer (some ⟨w.heap.size, 0, none⟩)), (3, .pointer (some ⟨w2.heap.size, 0, none⟩)), (4, .bool false), (5, .slice none 0 0), (6, .int .i64 1)]) ?_ (sub_cons rfl (sub_cons rfl (sub_cons rfl (sub_cons rfl (sub_cons rfl (sub_cons rfl (sub_cons rfl sub_nil)))))))) a_ ha_
    refine t_seq (fun K85 hK85 => ?_)
    refine t_region ?_
    have h86 := (hchg14.obj (fun x => x) hc11)
    refine tl_val (w' := w16) rfl (do_loads (cs := [.bool b2, .int .i64 g2, .int .i64 f2, .int .i64 l2]) rfl (by kernel_rfl) (obj_range h86)) (by decide) ?_
    have h88 := (TabW.chg h15 hchg14 (fun x => x))
    refine tl_call rfl (en_call (f := 11) (by kernel_rfl) rfl) rfl (hput_e b2 g2 f2 l2 _ h88 (by omega) (by omega) (by omega)) (fun v91 w89 hr90 => ?_) (fun _ _ h => h.elim) (fun _ h => h)
    obtain ⟨hchg87, hp87⟩ := hr90
    have hz92 := hchg87.size
    rcases hp87 with ⟨hright87, A87, c87, rfl, hrd87, ho87⟩ | ⟨hright87, rfl⟩
    · have hsl87 := sector_length b2 g2 f2 l2
      refine tl_val (w' := w89) rfl (do_move rfl) (by decide) ?_
      refine tl_val (w' := w89) rfl (do_extract (v := .slice A87 ((sector b2 g2 f2 l2).length) c87) rfl rfl) (by decide) ?_
      refine tl_val (w' := w89) rfl (do_extract (v := .int .i64 0) rfl rfl) (by decide) ?_
      refine tl_val (w' := w89) rfl (do_assign rfl) (by decide) ?_
      refine tl_val (w' := w89) rfl (do_assign rfl) (by decide) ?_
      refine tl_end ?_
      refine fun a_ ha_ => hK85 _ _ _ (T.sub (L' := [(0, .agg #[.bool big, .int .i64 gen, .int .i64 first, .int .i64 last]), (1, .agg #[.bool b2, .int .i64 g2, .int .i64 f2, .int .i64 l2]), (2, .pointer (some ⟨w.heap.size, 0, none⟩)), (3, .pointer (some ⟨w2.heap.size, 0, none⟩)), (4, .bool false), (5, .slice none 0 0), (6, .int .i64 1), (7, .slice A87 ((sector b2 g2 f2 l2).length) c87), (8, .int .i64 0)]) ?_ (sub_cons rfl (sub_cons rfl (sub_cons rfl (sub_cons rfl (sub_cons rfl (sub_cons rfl (sub_cons rfl (sub_cons rfl (sub_cons rfl sub_nil)))))))))) a_ ha_
      refine t_seq (fun K93 hK93 => ?_)
      refine t_seq (fun K94 hK94 => ?_)
      refine t_region ?_
      refine tl_val (w' := w89) rfl (do_move rfl) (by decide) ?_
      refine tl_val (w' := w89) rfl (do_neq rfl rfl) (by decide) ?_
      have hk95 : (decide ((1 : Int) ≠ 0)) = true := by decide
      refine tl_val (w' := w89) rfl (do_move rfl) (by decide) ?_
      refine tl_skipU ⟨23, _, rfl, rfl, (by rw [hk95]; rfl)⟩ (by decide) ?_
      refine tl_skipU ⟨23, _, rfl, rfl, (by rw [hk95]; rfl)⟩ (by decide) ?_
      refine tl_val (w' := w89) rfl (do_pick_t rfl hk95 rfl) (by decide) ?_
      refine tl_val (w' := w89) rfl (do_move rfl) (by decide) ?_
      refine tl_skipU ⟨27, _, rfl, rfl, rfl⟩ (by decide) ?_
      refine tl_skipU ⟨27, _, rfl, rfl, rfl⟩ (by decide) ?_
      refine tl_skipU ⟨27, _, rfl, rfl, rfl⟩ (by decide) ?_
      refine tl_val (w' := w89) rfl (do_pick_t rfl rfl rfl) (by decide) ?_
      refine tl_val (w' := w89) rfl (do_move rfl) (by decide) ?_
      refine tl_skipU ⟨32, _, rfl, rfl, rfl⟩ (by decide) ?_
      refine tl_skipU ⟨32, _, rfl, rfl, rfl⟩ (by decide) ?_
      refine tl_skipU ⟨32, _, rfl, rfl, rfl⟩ (by decide) ?_
      refine tl_skipU ⟨32, _, rfl, rfl, rfl⟩ (by decide) ?_
      refine tl_skipU ⟨32, _, rfl, rfl, rfl⟩ (by decide) ?_
      refine tl_val (w' := w89) rfl (do_pick_t rfl rfl rfl) (by decide) ?_
      refine tl_end ?_
      refine fun a_ ha_ => hK94 _ _ _ (T.sub (L' := [(0, .agg #[.bool big, .int .i64 gen, .int .i64 first, .int .i64 last]), (1, .agg #[.bool b2, .int .i64 g2, .int .i64 f2, .int .i64 l2]), (2, .pointer (some ⟨w.heap.size, 0, none⟩)), (3, .pointer (some ⟨w2.heap.size, 0, none⟩)), (4, .bool false), (5, .slice none 0 0), (6, .int .i64 1), (7, .slice A87 ((sector b2 g2 f2 l2).length) c87), (8, .int .i64 0), (38, .bool true)]) ?_ (sub_cons rfl (sub_cons rfl (sub_cons rfl (sub_cons rfl (sub_cons rfl (sub_cons rfl (sub_cons rfl (sub_cons rfl (sub_cons rfl (sub_cons rfl sub_nil))))))))))) a_ ha_
      refine t_yes rfl rfl ?_
      refine t_seq (fun K96 hK96 => ?_)
      refine t_region ?_
      have h98 := (TabW.chg h88 hchg87 (fun x => x))
      refine tl_call rfl (en_call (f := 15) (by kernel_rfl) rfl) rfl (awake18_e h98) (fun v101 w99 hr100 => ?_) (fun _ _ h => h.elim) (fun _ h => h)
      obtain ⟨rfl, hchg97⟩ := hr100
      have hz102 := hchg97.size
      refine tl_val (w' := w99) rfl (do_assign rfl) (by decide) ?_
      refine tl_end ?_
      refine fun a_ ha_ => hK96 _ _ _ (T.sub (L' := [(0, .agg #[.bool big, .int .i64 gen, .int .i64 first, .int .i64 last]), (1, .agg #[.bool b2, .int .i64 g2, .int .i64 f2, .int .i64 l2]), (2, .pointer (some ⟨w.heap.size, 0, none⟩)), (3, .pointer (some ⟨w2.heap.size, 0, none⟩)), (4, .bool true), (5, .slice none 0 0), (6, .int .i64 1), (7, .slice A87 ((sector b2 g2 f2 l2).length) c87), (8, .int .i64 0), (38, .bool true)]) ?_ (sub_cons rfl (sub_cons rfl (sub_cons rfl (sub_cons rfl (sub_cons rfl (sub_cons rfl (sub_cons rfl (sub_cons rfl (sub_cons rfl (sub_cons rfl sub_nil))))))))))) a_ ha_
      refine t_ret ?_
      refine fun a_ ha_ => hQ0 _ _ _ (body_ret (rs := [.tmp 4]) (vs := [.bool true]) ha_ (by kernel_rfl) ⟨_, _, rfl, rfl, rfl⟩ ?_)
      exact ⟨rfl, ((((((Chg.refl (fun k_ => False) w).step hb4 (fun k_ hk_ (h_ : False) => h_.elim)).step hb9 (fun k_ hk_ (h_ : False) => h_.elim)).step hchg14 (fun k_ hk_ (h_ : False) => h_.elim)).step hchg87 (fun k_ hk_ (h_ : False) => h_.elim)).step hchg97 (fun k_ hk_ (h_ : False) => h_.elim))⟩
    · refine tl_val (w' := w89) rfl (do_move rfl) (by decide) ?_
      refine tl_val (w' := w89) rfl (do_extract (v := .slice none 0 0) rfl rfl) (by decide) ?_
      refine tl_val (w' := w89) rfl (do_extract (v := .int .i64 1) rfl rfl) (by decide) ?_
      refine tl_val (w' := w89) rfl (do_assign rfl) (by decide) ?_
      refine tl_val (w' := w89) rfl (do_assign rfl) (by decide) ?_
      refine tl_end ?_
      refine fun a_ ha_ => hK85 _ _ _ (T.sub (L' := [(0, .agg #[.bool big, .int .i64 gen, .int .i64 first, .int .i64 last]), (1, .agg #[.bool b2, .int .i64 g2, .int .i64 f2, .int .i64 l2]), (2, .pointer (some ⟨w.heap.size, 0, none⟩)), (3, .pointer (some ⟨w2.heap.size, 0, none⟩)), (4, .bool false), (5, .slice none 0 0), (6, .int .i64 1), (7, .slice none 0 0), (8, .int .i64 1)]) ?_ (sub_cons rfl (sub_cons rfl (sub_cons rfl (sub_cons rfl (sub_cons rfl (sub_cons rfl (sub_cons rfl (sub_cons rfl (sub_cons rfl sub_nil)))))))))) a_ ha_
      refine t_seq (fun K103 hK103 => ?_)
      refine t_seq (fun K104 hK104 => ?_)
      refine t_region ?_
      refine tl_val (w' := w89) rfl (do_move rfl) (by decide) ?_
      refine tl_val (w' := w89) rfl (do_neq rfl rfl) (by decide) ?_
      have hk105 : (decide ((1 : Int) ≠ 0)) = true := by decide
      refine tl_val (w' := w89) rfl (do_move rfl) (by decide) ?_
      refine tl_skipU ⟨23, _, rfl, rfl, (by rw [hk105]; rfl)⟩ (by decide) ?_
      refine tl_skipU ⟨23, _, rfl, rfl, (by rw [hk105]; rfl)⟩ (by decide) ?_
      refine tl_val (w' := w89) rfl (do_pick_t rfl hk105 rfl) (by decide) ?_
      refine tl_val (w' := w89) rfl (do_move rfl) (by decide) ?_
      refine tl_skipU ⟨27, _, rfl, rfl, rfl⟩ (by decide) ?_
      refine tl_skipU ⟨27, _, rfl, rfl, rfl⟩ (by decide) ?_
      refine tl_skipU ⟨27, _, rfl, rfl, rfl⟩ (by decide) ?_
      refine tl_val (w' := w89) rfl (do_pick_t rfl rfl rfl) (by decide) ?_
      refine tl_val (w' := w89) rfl (do_move rfl) (by decide) ?_
      refine tl_skipU ⟨32, _, rfl, rfl, rfl⟩ (by decide) ?_
      refine tl_skipU ⟨32, _, rfl, rfl, rfl⟩ (by decide) ?_
      refine tl_skipU ⟨32, _, rfl, rfl, rfl⟩ (by decide) ?_
      refine tl_skipU ⟨32, _, rfl, rfl, rfl⟩ (by decide) ?_
      refine tl_skipU ⟨32, _, rfl, rfl, rfl⟩ (by decide) ?_
      refine tl_val (w' := w89) rfl (do_pick_t rfl rfl rfl) (by decide) ?_
      refine tl_end ?_
      refine fun a_ ha_ => hK104 _ _ _ (T.sub (L' := [(0, .agg #[.bool big, .int .i64 gen, .int .i64 first, .int .i64 last]), (1, .agg #[.bool b2, .int .i64 g2, .int .i64 f2, .int .i64 l2]), (2, .pointer (some ⟨w.heap.size, 0, none⟩)), (3, .pointer (some ⟨w2.heap.size, 0, none⟩)), (4, .bool false), (5, .slice none 0 0), (6, .int .i64 1), (7, .slice none 0 0), (8, .int .i64 1), (38, .bool true)]) ?_ (sub_cons rfl (sub_cons rfl (sub_cons rfl (sub_cons rfl (sub_cons rfl (sub_cons rfl (sub_cons rfl (sub_cons rfl (sub_cons rfl (sub_cons rfl sub_nil))))))))))) a_ ha_
      refine t_yes rfl rfl ?_
      refine t_seq (fun K106 hK106 => ?_)
      refine t_region ?_
      have h108 := (TabW.chg h88 hchg87 (fun x => x))
      refine tl_call rfl (en_call (f := 15) (by kernel_rfl) rfl) rfl (awake18_e h108) (fun v111 w109 hr110 => ?_) (fun _ _ h => h.elim) (fun _ h => h)
      obtain ⟨rfl, hchg107⟩ := hr110
      have hz112 := hchg107.size
      refine tl_val (w' := w109) rfl (do_assign rfl) (by decide) ?_
      refine tl_end ?_
      refine fun a_ ha_ => hK106 _ _ _ (T.sub (L' := [(0, .agg #[.bool big, .int .i64 gen, .int .i64 first, .int .i64 last]), (1, .agg #[.bool b2, .int .i64 g2, .int .i64 f2, .int .i64 l2]), (2, .pointer (some ⟨w.heap.size, 0, none⟩)), (3, .pointer (some ⟨w2.heap.size, 0, none⟩)), (4, .bool true), (5, .slice none 0 0), (6, .int .i64 1), (7, .slice none 0 0), (8, .int .i64 1), (38, .bool true)]) ?_ (sub_cons rfl (sub_cons rfl (sub_cons rfl (sub_cons rfl (sub_cons rfl (sub_cons rfl (sub_cons rfl (sub_cons rfl (sub_cons rfl (sub_cons rfl sub_nil))))))))))) a_ ha_
      refine t_ret ?_
      refine fun a_ ha_ => hQ0 _ _ _ (body_ret (rs := [.tmp 4]) (vs := [.bool true]) ha_ (by kernel_rfl) ⟨_, _, rfl, rfl, rfl⟩ ?_)
      exact ⟨rfl, ((((((Chg.refl (fun k_ => False) w).step hb4 (fun k_ hk_ (h_ : False) => h_.elim)).step hb9 (fun k_ hk_ (h_ : False) => h_.elim)).step hchg14 (fun k_ hk_ (h_ : False) => h_.elim)).step hchg87 (fun k_ hk_ (h_ : False) => h_.elim)).step hchg107 (fun k_ hk_ (h_ : False) => h_.elim))⟩
end Go.Proofs.YtfmpbbeacpdalaaDoor
