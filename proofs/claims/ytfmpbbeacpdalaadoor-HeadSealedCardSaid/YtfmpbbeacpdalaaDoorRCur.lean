/-
  The reference's cursor.
-/
import Derived.Test.YtfmpbbeacpdalaaDoorCPure
import Derived.Test.YtfmpbbeacpdalaaDoorPut
import Derived.Test.YtfmpbbeacpdalaaDoorBack
import Derived.Test.YtfmpbbeacpdalaaDoorFS
import Derived.OpenShut
set_option linter.unusedVariables false
set_option linter.unusedSimpArgs false
set_option maxRecDepth 100000
namespace Go.Proofs.YtfmpbbeacpdalaaDoor
open Go.RowKit

/-- A reference's cursor. -/
abbrev rc (A : Option Addr) (n c : Nat) (at_ : Int) (big : Bool) (e : Int) : Value := .agg #[.slice A n c, .int .i64 at_, .bool big, .int .i64 e]
theorem beN_cons (x : UInt8) (r : List UInt8) : beN (x :: r) = x.toNat * 256 ^ r.length + beN r := by
  have key : ∀ (r : List UInt8) (n : Nat), r.foldl (fun n x => n * 256 + x.toNat) n = n * 256 ^ r.length + r.foldl (fun n x => n * 256 + x.toNat) 0 := by
    intro r
    induction r with
    | nil => intro n; simp
    | cons y r ih =>
      intro n
      simp only [List.foldl_cons, List.length_cons]
      rw [ih (n * 256 + y.toNat), ih (0 * 256 + y.toNat), Nat.add_mul, Nat.pow_succ, Nat.mul_assoc, Nat.mul_comm 256, Nat.zero_mul, Nat.zero_add, Nat.add_assoc]
  unfold beN
  rw [List.foldl_cons, key]
  simp
theorem beN_take_le (l : List UInt8) : ∀ k, k ≤ l.length → beN (l.take k) ≤ beN l := by
  intro k hk
  have h : ∀ (r : List UInt8) (l1 : List UInt8), beN l1 ≤ beN (l1 ++ r) := by
    intro r
    induction r with
    | nil => intro l1; simp
    | cons x r ih =>
      intro l1
      have := ih (l1 ++ [x])
      rw [beN_snoc] at this
      simp only [List.append_assoc, List.singleton_append] at this
      omega
  have := h (l.drop k) (l.take k)
  rwa [List.take_append_drop] at this
theorem beN_next (l : List UInt8) (k : Nat) (hk : k < l.length) : beN (l.take (k + 1)) = beN (l.take k) * 256 + (l.getD k 0).toNat ∧ beN (l.take (k + 1)) ≤ beN l := by
  refine ⟨?_, beN_take_le l (k + 1) hk⟩
  rw [List.take_succ_eq_append_getElem hk, beN_snoc]
  simp [List.getD, hk]
theorem beN_top (l : List UInt8) (h : l.length = 1 ∨ l.length = 2 ∨ l.length = 4 ∨ l.length = 8) : 9223372036854775807 < beN l ↔ l.length = 8 ∧ 128 ≤ (l.getD 0 0).toNat := by
  cases l with
  | nil => simp at h
  | cons x r =>
    rw [beN_cons]
    have h1 := beN_lt r
    have hx := x.toNat_lt
    have hg : (x :: r).getD 0 0 = x := rfl
    rw [hg]
    simp only [List.length_cons] at h ⊢
    have hr : r.length = 0 ∨ r.length = 1 ∨ r.length = 3 ∨ r.length = 7 := by omega
    rcases hr with hr | hr | hr | hr <;> rw [hr] at h1 ⊢ <;> simp only [Nat.reducePow] at h1 ⊢ <;> constructor <;> intro hh <;> (try refine ⟨?_, ?_⟩) <;> first | omega | trivial
/-- What Number tells. -/
def RNum (l : List UInt8) (at_ : Nat) (e size : Int) (big : Bool) (m : Int) (a2 : Nat) (e2 : Int) : Prop :=
  (e ≠ 0 ∧ m = 0 ∧ a2 = at_ ∧ e2 = e) ∨ (e = 0 ∧ ∃ k : Nat, NumNo l at_ size big k ∧ m = 0 ∧ a2 = at_ ∧ e2 = k) ∨ (e = 0 ∧ ∃ n : Nat, NumOk l at_ size big n ∧ m = n ∧ a2 = at_ + size.toNat ∧ e2 = 0)
theorem rwidth_e (size : Int) (w : World) : Calls Tryd.prog 48 [.int .i64 size].toArray w (Ret fun v w' => v = .bool (wide size) ∧ w = w') := (width2_any size w).mono fun e w' h => by
  obtain ⟨rfl, h⟩ := h
  exact ⟨rfl, h⟩
theorem rback_e {w : World} {A : Option Addr} {c : Nat} {l : List UInt8} (h : Rd w A c l) (hl : l.length ≤ 140737488355000) : Calls Tryd.prog 41 [.slice A l.length c].toArray w (Ret fun v w' => ∃ A' c', v = .slice A' l.reverse.length c' ∧ Rd w' A' c' l.reverse ∧ Chg (fun _ => False) w w') := (back_any A c l w h hl).mono fun e w' h => by
  obtain ⟨v, rfl, ho, hb⟩ := h
  obtain ⟨A', c', rfl, hr⟩ := ho.rd
  exact ⟨A', c', rfl, hr, Chg.of_new hb⟩
theorem num_no1 {l : List UInt8} {at_ : Nat} {size : Int} {big : Bool} (h : wide size = false) : NumNo l at_ size big 1 := ⟨by unfold numA; rw [if_pos h], by decide⟩
theorem num_no3 {l : List UInt8} {at_ : Nat} {size : Int} {big : Bool} (h : wide size = true) (h2 : (l.length : Int) - at_ < size) : NumNo l at_ size big 3 := ⟨by unfold numA; rw [h, if_neg (by decide), if_pos h2], by decide⟩
theorem num_no2 {l : List UInt8} {at_ s : Nat} {big : Bool} (h : wide s = true) (h2 : ¬ (l.length : Int) - at_ < s) (h3 : 9223372036854775807 < beN (win l at_ s big)) : NumNo l at_ s big 2 := ⟨by unfold numA numV; rw [h, if_neg (by decide), if_neg h2, Int.toNat_natCast, if_neg (by omega)], by decide⟩
theorem wide_nat {size : Int} (h : wide size = true) : ∃ s : Nat, (s = 1 ∨ s = 2 ∨ s = 4 ∨ s = 8) ∧ size = (s : Int) := by
  rcases wide_cases h with rfl | rfl | rfl | rfl
  · exact ⟨1, by decide, rfl⟩
  · exact ⟨2, by decide, rfl⟩
  · exact ⟨4, by decide, rfl⟩
  · exact ⟨8, by decide, rfl⟩
theorem win_eq {l : List UInt8} {at_ s : Nat} {big : Bool} : (if big then (l.drop at_).take (at_ + s - at_) else ((l.drop at_).take (at_ + s - at_)).reverse) = win l at_ s big := by
  rw [Nat.add_sub_cancel_left]
  rfl
theorem rfail_e (A : Option Addr) (n c : Nat) (at_ : Int) (big : Bool) (e x : Int) (w : World) : Calls Tryd.prog 49 [rc A n c at_ big e, .int .i64 x].toArray w (Ret fun v w' => v = rc A n c at_ big x ∧ Chg (fun _ => False) w w') := by
  refine enter (n := 8) (L := [(0, .agg #[.slice A n c, .int .i64 at_, .bool big, .int .i64 e]), (1, .int .i64 x)]) (args := [.agg #[.slice A n c, .int .i64 at_, .bool big, .int .i64 e], .int .i64 x]) Tryd.func49 rfl rfl (Nat.le_of_ble_eq_true rfl) (by intro t v h; exact look_args h) ?_
  refine t_body (fun Q0 hB0 hQ0 => ?_)
  refine t_seq (fun K1 hK1 => ?_)
  refine t_region ?_
  refine tl_val rfl (do_box (v := .pointer (some ⟨w.heap.size, 0, none⟩)) (w' := w.alloc (.cells #[.slice A n c, .int .i64 at_, .bool big, .int .i64 e] 55)) rfl (by kernel_rfl)) (by decide) ?_
  refine tl_gen (fun w2 e3 => ?_)
  have hb4 : Chg (fun _ => False) w w2 := e3 ▸ Chg.alloc _ _
  have hz5 : w2.heap.size = w.heap.size + 1 := by rw [e3]; exact size_alloc _ _
  have hc6 : w2.heap[w.heap.size]? = some (.cells #[.slice A n c, .int .i64 at_, .bool big, .int .i64 e] 55 (0, 0)) := by rw [e3]; exact obj_new _ _
  clear e3
  refine tl_val rfl (do_alloc (v := .pointer (some ⟨w2.heap.size, 0, none⟩)) (w' := w2.alloc (.cells #[.slice none 0 0, .int .i64 0, .bool false, .int .i64 0] 55)) (by kernel_rfl)) (by decide) ?_
  refine tl_gen (fun w7 e8 => ?_)
  have hb9 : Chg (fun _ => False) w2 w7 := e8 ▸ Chg.alloc _ _
  have hz10 : w7.heap.size = w2.heap.size + 1 := by rw [e8]; exact size_alloc _ _
  have hc11 : w7.heap[w2.heap.size]? = some (.cells #[.slice none 0 0, .int .i64 0, .bool false, .int .i64 0] 55 (0, 0)) := by rw [e8]; exact obj_new _ _
  clear e8
  refine tl_end ?_
  refine fun a_ ha_ => hK1 _ _ _ (T.sub (L' := [(0, .agg #[.slice A n c, .int .i64 at_, .bool big, .int .i64 e]), (1, .int .i64 x), (2, .pointer (some ⟨w.heap.size, 0, none⟩)), (4, .pointer (some ⟨w2.heap.size, 0, none⟩))]) ?_ (sub_cons rfl (sub_cons rfl (sub_cons rfl (sub_cons rfl sub_nil))))) a_ ha_
  refine t_seq (fun K12 hK12 => ?_)
  refine t_region ?_
  refine tl_val (w' := w7) rfl (do_move rfl) (by decide) ?_
  refine tl_val (w' := w7) rfl (do_fieldAddr (v := .pointer (some ⟨w.heap.size, 3, none⟩)) rfl (by kernel_rfl)) (by decide) ?_
  have h13 := (hb9.obj (fun x => x) hc6)
  refine tl_unit rfl (do_store (u := .int .i64 e) rfl rfl rfl (by kernel_rfl) (by rw [obj_cell h13]; rfl) (obj_frozen h13 _)) ?_
  refine tl_gen (fun w14 e15 => ?_)
  have hb16 : Chg (fun k => k = w.heap.size) w7 w14 := e15 ▸ Chg.setCell _ _ _ _
  have hz17 : w14.heap.size = w7.heap.size := by rw [e15]; simp
  have hc18 : w14.heap[w.heap.size]? = some (.cells #[.slice A n c, .int .i64 at_, .bool big, .int .i64 x] 55 (0, 0)) := by rw [e15]; exact obj_setCell h13
  clear e15
  refine tl_end ?_
  refine fun a_ ha_ => hK12 _ _ _ (T.sub (L' := [(0, .agg #[.slice A n c, .int .i64 at_, .bool big, .int .i64 e]), (1, .int .i64 x), (2, .pointer (some ⟨w.heap.size, 0, none⟩)), (4, .pointer (some ⟨w2.heap.size, 0, none⟩))]) ?_ (sub_cons rfl (sub_cons rfl (sub_cons rfl (sub_cons rfl sub_nil))))) a_ ha_
  refine t_seq (fun K19 hK19 => ?_)
  refine t_region ?_
  refine tl_val (w' := w14) rfl (do_loads (cs := [.slice A n c, .int .i64 at_, .bool big, .int .i64 x]) rfl (by kernel_rfl) (obj_range hc18)) (by decide) ?_
  have h20 := (hb16.obj (show ¬ w2.heap.size = w.heap.size by omega) hc11)
  refine tl_unit rfl (do_storesB (cs := [.slice A n c, .int .i64 at_, .bool big, .int .i64 x]) rfl rfl (by rfl) (by kernel_rfl) h20 (Nat.le_of_ble_eq_true rfl)) ?_
  refine tl_gen (fun w21 e22 => ?_)
  have hb23 : Chg (fun k => k = w2.heap.size) w14 w21 := e22 ▸ Chg.setCells _ _ 0 [.slice A n c, .int .i64 at_, .bool big, .int .i64 x]
  have hz24 : w21.heap.size = w14.heap.size := by rw [e22]; exact sc_size _ _ _ _
  have hc25 : w21.heap[w2.heap.size]? = some (.cells #[.slice A n c, .int .i64 at_, .bool big, .int .i64 x] 55 (0, 0)) := by rw [e22]; exact obj_setCells [.slice A n c, .int .i64 at_, .bool big, .int .i64 x] 0 h20
  clear e22
  refine tl_end ?_
  refine fun a_ ha_ => hK19 _ _ _ (T.sub (L' := [(0, .agg #[.slice A n c, .int .i64 at_, .bool big, .int .i64 e]), (1, .int .i64 x), (2, .pointer (some ⟨w.heap.size, 0, none⟩)), (4, .pointer (some ⟨w2.heap.size, 0, none⟩))]) ?_ (sub_cons rfl (sub_cons rfl (sub_cons rfl (sub_cons rfl sub_nil))))) a_ ha_
  refine t_ret ?_
  refine fun a_ ha_ => hQ0 _ _ _ (body_ret (rs := [.cell 4 55]) (vs := [.agg #[.slice A n c, .int .i64 at_, .bool big, .int .i64 x]]) ha_ (by kernel_rfl) ⟨_, _, _, rfl, rfl, (load_whole (cs := [.slice A n c, .int .i64 at_, .bool big, .int .i64 x]) (by kernel_rfl) (obj_range hc25)), rfl⟩ ?_)
  exact ⟨rfl, (((((Chg.refl (fun k_ => False) w).step hb4 (fun k_ hk_ (h_ : False) => h_.elim)).step hb9 (fun k_ hk_ (h_ : False) => h_.elim)).step hb16 (fun k_ hk_ (h_ : k_ = w.heap.size) => (show False by omega))).step hb23 (fun k_ hk_ (h_ : k_ = w2.heap.size) => (show False by omega)))⟩
set_option maxHeartbeats 1600000 in
theorem rnumber_e {w : World} {A : Option Addr} {c : Nat} {l : List UInt8} {at_ : Nat} (size : Int) (big : Bool) (e : Int) (ha : Rd w A c l) (hat : at_ ≤ l.length) (hl : l.length ≤ 140737488355000) : Calls Tryd.prog 36 [rc A l.length c (at_ : Int) big e, .int .i64 size].toArray w
    (Ret fun v w' => ∃ m a2 e2, v = .tuple #[.int .i64 m, rc A l.length c ((a2 : Nat) : Int) big e2] ∧ RNum l at_ e size big m a2 e2 ∧ Chg (fun _ => False) w w') := by
  refine enter (n := 72) (L := [(0, .agg #[.slice A l.length c, .int .i64 (at_ : Int), .bool big, .int .i64 e]), (1, .int .i64 size)]) (args := [.agg #[.slice A l.length c, .int .i64 (at_ : Int), .bool big, .int .i64 e], .int .i64 size]) Tryd.func36 rfl rfl (Nat.le_of_ble_eq_true rfl) (by intro t v h; exact look_args h) ?_
  refine t_body (fun Q0 hB0 hQ0 => ?_)
  refine t_seq (fun K1 hK1 => ?_)
  refine t_region ?_
  refine tl_val rfl (do_box (v := .pointer (some ⟨w.heap.size, 0, none⟩)) (w' := w.alloc (.cells #[.slice A l.length c, .int .i64 (at_ : Int), .bool big, .int .i64 e] 55)) rfl (by kernel_rfl)) (by decide) ?_
  refine tl_gen (fun w2 e3 => ?_)
  have hb4 : Chg (fun _ => False) w w2 := e3 ▸ Chg.alloc _ _
  have hz5 : w2.heap.size = w.heap.size + 1 := by rw [e3]; exact size_alloc _ _
  have hc6 : w2.heap[w.heap.size]? = some (.cells #[.slice A l.length c, .int .i64 (at_ : Int), .bool big, .int .i64 e] 55 (0, 0)) := by rw [e3]; exact obj_new _ _
  clear e3
  refine tl_val (w' := w2) rfl (do_assign rfl) (by decide) ?_
  refine tl_val rfl (do_alloc (v := .pointer (some ⟨w2.heap.size, 0, none⟩)) (w' := w2.alloc (.cells #[.slice none 0 0, .int .i64 0, .bool false, .int .i64 0] 55)) (by kernel_rfl)) (by decide) ?_
  refine tl_gen (fun w7 e8 => ?_)
  have hb9 : Chg (fun _ => False) w2 w7 := e8 ▸ Chg.alloc _ _
  have hz10 : w7.heap.size = w2.heap.size + 1 := by rw [e8]; exact size_alloc _ _
  have hc11 : w7.heap[w2.heap.size]? = some (.cells #[.slice none 0 0, .int .i64 0, .bool false, .int .i64 0] 55 (0, 0)) := by rw [e8]; exact obj_new _ _
  clear e8
  refine tl_end ?_
  refine fun a_ ha_ => hK1 _ _ _ (T.sub (L' := [(0, .agg #[.slice A l.length c, .int .i64 (at_ : Int), .bool big, .int .i64 e]), (1, .int .i64 size), (2, .pointer (some ⟨w.heap.size, 0, none⟩)), (4, .int .i64 0), (5, .pointer (some ⟨w2.heap.size, 0, none⟩))]) ?_ (sub_cons rfl (sub_cons rfl (sub_cons rfl (sub_cons rfl (sub_cons rfl sub_nil)))))) a_ ha_
  refine t_seq (fun K12 hK12 => ?_)
  refine t_seq (fun K13 hK13 => ?_)
  refine t_region ?_
  refine tl_val (w' := w7) rfl (do_fieldAddr (v := .pointer (some ⟨w.heap.size, 3, none⟩)) rfl (by kernel_rfl)) (by decide) ?_
  have h14 := (hb9.obj (fun x => x) hc6)
  refine tl_val (w' := w7) rfl (do_load (v := .int .i64 e) rfl (by kernel_rfl) (by rw [obj_cell h14]; rfl)) (by decide) ?_
  refine tl_val (w' := w7) rfl (do_neq rfl rfl) (by decide) ?_
  refine tl_end ?_
  refine fun a_ ha_ => hK13 _ _ _ (T.sub (L' := [(0, .agg #[.slice A l.length c, .int .i64 (at_ : Int), .bool big, .int .i64 e]), (1, .int .i64 size), (2, .pointer (some ⟨w.heap.size, 0, none⟩)), (4, .int .i64 0), (5, .pointer (some ⟨w2.heap.size, 0, none⟩)), (11, .bool (decide (e ≠ 0)))]) ?_ (sub_cons rfl (sub_cons rfl (sub_cons rfl (sub_cons rfl (sub_cons rfl (sub_cons rfl sub_nil))))))) a_ ha_
  by_cases hc15 : e ≠ 0
  · have hk16 := decide_eq_true hc15
    refine t_yes rfl hk16 ?_
    refine t_seq (fun K17 hK17 => ?_)
    refine t_drawnC (fun _ => False) 2 (.take 0 { dst := (some 12), op := (Go.Op.load 55 (Go.Operand.tmp 2)), type := 55, pos := "ref.go:57", after := #[{ on := 1, ground := (Go.Ground.gcOnly Go.Departure.lateStores) }], guard := none } (.take 1 { dst := (some 4), op := (Go.Op.assign (Go.Operand.const (Go.Value.int Go.IntKind.i64 0))), type := 3, pos := "ref.go:57", after := #[{ on := 0, ground := (Go.Ground.textOnly Go.Departure.lateStores) }], guard := none } (.one 2 { dst := none, op := (Go.Op.store 55 (Go.Operand.tmp 5) (Go.Operand.tmp 12)), type := 0, pos := "ref.go:57", after := #[{ on := 0, ground := Go.Ground.data }, { on := 1, ground := Go.Ground.chain }, { on := 0, ground := Go.Ground.phase }, { on := 1, ground := Go.Ground.phase }], guard := none } .done))) rfl (by kernel_rfl) (by repeat (first | exact hB0 | apply blind_then | apply blind_in)) (by kernel_rfl) (by kernel_rfl) rfl (fun w18 hb19 hz20 => ?_)
    have h21 := (hb19.obj (fun x => x) h14)
    refine td_takeC rfl (by decide) (fun w_ h_ => (do_loads (cs := [.slice A l.length c, .int .i64 (at_ : Int), .bool big, .int .i64 e]) rfl (by kernel_rfl) (obj_range (h_.obj (fun x => x) h21)))) ?_
    refine td_takeC rfl (by decide) (fun w_ h_ => (do_assign rfl)) ?_
    refine td_one ?_
    have h22 := (hb19.obj (fun x => x) hc11)
    refine td_lastC rfl (do_storesB (cs := [.slice A l.length c, .int .i64 (at_ : Int), .bool big, .int .i64 e]) rfl rfl (by rfl) (by kernel_rfl) h22 (Nat.le_of_ble_eq_true rfl)) ?_
    refine tx_gen (fun w23 e24 => ?_)
    have hb25 : Chg (fun k => k = w2.heap.size) w18 w23 := e24 ▸ Chg.setCells _ _ 0 [.slice A l.length c, .int .i64 (at_ : Int), .bool big, .int .i64 e]
    have hz26 : w23.heap.size = w18.heap.size := by rw [e24]; exact sc_size _ _ _ _
    have hc27 : w23.heap[w2.heap.size]? = some (.cells #[.slice A l.length c, .int .i64 (at_ : Int), .bool big, .int .i64 e] 55 (0, 0)) := by rw [e24]; exact obj_setCells [.slice A l.length c, .int .i64 (at_ : Int), .bool big, .int .i64 e] 0 h22
    clear e24
    refine fun a_ ha_ => hK17 _ _ _ (T.sub (L' := [(0, .agg #[.slice A l.length c, .int .i64 (at_ : Int), .bool big, .int .i64 e]), (1, .int .i64 size), (2, .pointer (some ⟨w.heap.size, 0, none⟩)), (4, .int .i64 0), (5, .pointer (some ⟨w2.heap.size, 0, none⟩)), (11, .bool (decide (e ≠ 0)))]) ?_ (sub_cons rfl (sub_cons rfl (sub_cons rfl (sub_cons rfl (sub_cons rfl (sub_cons rfl sub_nil))))))) a_ ha_
    refine t_ret ?_
    refine fun a_ ha_ => hQ0 _ _ _ (body_ret (rs := [.tmp 4, .cell 5 55]) (vs := [.int .i64 0, .agg #[.slice A l.length c, .int .i64 (at_ : Int), .bool big, .int .i64 e]]) ha_ (by kernel_rfl) ⟨_, _, rfl, rfl, ⟨_, _, _, rfl, rfl, (load_whole (cs := [.slice A l.length c, .int .i64 (at_ : Int), .bool big, .int .i64 e]) (by kernel_rfl) (obj_range hc27)), rfl⟩⟩ ?_)
    exact ⟨_, at_, _, rfl, .inl ⟨by omega, rfl, rfl, rfl⟩, (((((Chg.refl (fun k_ => False) w).step hb4 (fun k_ hk_ (h_ : False) => h_.elim)).step hb9 (fun k_ hk_ (h_ : False) => h_.elim)).step hb19 (fun k_ hk_ (h_ : False) => h_.elim)).step hb25 (fun k_ hk_ (h_ : k_ = w2.heap.size) => (show False by omega)))⟩
  · have hk16 := decide_eq_false hc15
    refine t_no rfl hk16 ?_
    refine t_skip ?_
    refine fun a_ ha_ => hK12 _ _ _ (T.sub (L' := [(0, .agg #[.slice A l.length c, .int .i64 (at_ : Int), .bool big, .int .i64 e]), (1, .int .i64 size), (2, .pointer (some ⟨w.heap.size, 0, none⟩)), (4, .int .i64 0), (5, .pointer (some ⟨w2.heap.size, 0, none⟩)), (11, .bool (decide (e ≠ 0)))]) ?_ (sub_cons rfl (sub_cons rfl (sub_cons rfl (sub_cons rfl (sub_cons rfl (sub_cons rfl sub_nil))))))) a_ ha_
    refine t_seq (fun K28 hK28 => ?_)
    refine t_seq (fun K29 hK29 => ?_)
    refine t_region ?_
    refine tl_val (w' := w7) rfl (do_move rfl) (by decide) ?_
    refine tl_call rfl (en_call (f := 48) (by kernel_rfl) rfl) rfl (rwidth_e size _) (fun v31 _ hr30 => ?_) (fun _ _ h => h.elim) (fun _ h => h)
    obtain ⟨rfl, rfl⟩ := hr30
    refine tl_val (w' := w7) rfl (do_not rfl rfl) (by decide) ?_
    refine tl_end ?_
    refine fun a_ ha_ => hK29 _ _ _ (T.sub (L' := [(0, .agg #[.slice A l.length c, .int .i64 (at_ : Int), .bool big, .int .i64 e]), (1, .int .i64 size), (2, .pointer (some ⟨w.heap.size, 0, none⟩)), (4, .int .i64 0), (5, .pointer (some ⟨w2.heap.size, 0, none⟩)), (11, .bool (decide (e ≠ 0))), (15, .bool (!(wide size)))]) ?_ (sub_cons rfl (sub_cons rfl (sub_cons rfl (sub_cons rfl (sub_cons rfl (sub_cons rfl (sub_cons rfl sub_nil)))))))) a_ ha_
    by_cases hc32 : (!(wide size)) = true
    · have hk33 := hc32
      have hnw_ : wide size = false := by simpa using hc32
      refine t_yes rfl hk33 ?_
      refine t_seq (fun K34 hK34 => ?_)
      refine t_region ?_
      refine tl_val (w' := w7) rfl (do_loads (cs := [.slice A l.length c, .int .i64 (at_ : Int), .bool big, .int .i64 e]) rfl (by kernel_rfl) (obj_range h14)) (by decide) ?_
      refine tl_call rfl (en_call (f := 49) (by kernel_rfl) rfl) rfl (rfail_e _ _ _ _ _ _ 1 _) (fun v38 w36 hr37 => ?_) (fun _ _ h => h.elim) (fun _ h => h)
      obtain ⟨rfl, hchg35⟩ := hr37
      have hz39 := hchg35.size
      refine tl_val (w' := w36) rfl (do_assign rfl) (by decide) ?_
      have h40 := (hchg35.obj (fun x => x) hc11)
      refine tl_unit rfl (do_storesB (cs := [.slice A l.length c, .int .i64 (at_ : Int), .bool big, .int .i64 1]) rfl rfl (by rfl) (by kernel_rfl) h40 (Nat.le_of_ble_eq_true rfl)) ?_
      refine tl_gen (fun w41 e42 => ?_)
      have hb43 : Chg (fun k => k = w2.heap.size) w36 w41 := e42 ▸ Chg.setCells _ _ 0 [.slice A l.length c, .int .i64 (at_ : Int), .bool big, .int .i64 1]
      have hz44 : w41.heap.size = w36.heap.size := by rw [e42]; exact sc_size _ _ _ _
      have hc45 : w41.heap[w2.heap.size]? = some (.cells #[.slice A l.length c, .int .i64 (at_ : Int), .bool big, .int .i64 1] 55 (0, 0)) := by rw [e42]; exact obj_setCells [.slice A l.length c, .int .i64 (at_ : Int), .bool big, .int .i64 1] 0 h40
      clear e42
      refine tl_end ?_
      refine fun a_ ha_ => hK34 _ _ _ (T.sub (L' := [(0, .agg #[.slice A l.length c, .int .i64 (at_ : Int), .bool big, .int .i64 e]), (1, .int .i64 size), (2, .pointer (some ⟨w.heap.size, 0, none⟩)), (4, .int .i64 0), (5, .pointer (some ⟨w2.heap.size, 0, none⟩)), (11, .bool (decide (e ≠ 0))), (15, .bool (!(wide size)))]) ?_ (sub_cons rfl (sub_cons rfl (sub_cons rfl (sub_cons rfl (sub_cons rfl (sub_cons rfl (sub_cons rfl sub_nil)))))))) a_ ha_
      refine t_ret ?_
      refine fun a_ ha_ => hQ0 _ _ _ (body_ret (rs := [.tmp 4, .cell 5 55]) (vs := [.int .i64 0, .agg #[.slice A l.length c, .int .i64 (at_ : Int), .bool big, .int .i64 1]]) ha_ (by kernel_rfl) ⟨_, _, rfl, rfl, ⟨_, _, _, rfl, rfl, (load_whole (cs := [.slice A l.length c, .int .i64 (at_ : Int), .bool big, .int .i64 1]) (by kernel_rfl) (obj_range hc45)), rfl⟩⟩ ?_)
      exact ⟨_, at_, _, rfl, .inr (.inl ⟨by omega, 1, num_no1 hnw_, rfl, rfl, rfl⟩), (((((Chg.refl (fun k_ => False) w).step hb4 (fun k_ hk_ (h_ : False) => h_.elim)).step hb9 (fun k_ hk_ (h_ : False) => h_.elim)).step hchg35 (fun k_ hk_ (h_ : False) => h_.elim)).step hb43 (fun k_ hk_ (h_ : k_ = w2.heap.size) => (show False by omega)))⟩
    · have hk33 := Bool.eq_false_iff.2 hc32
      have hwd_ : wide size = true := by simpa using hc32
      obtain ⟨s, hs_, rfl⟩ := wide_nat hwd_
      refine t_no rfl hk33 ?_
      refine t_skip ?_
      refine fun a_ ha_ => hK28 _ _ _ (T.sub (L' := [(0, .agg #[.slice A l.length c, .int .i64 (at_ : Int), .bool big, .int .i64 e]), (1, .int .i64 (s : Int)), (2, .pointer (some ⟨w.heap.size, 0, none⟩)), (4, .int .i64 0), (5, .pointer (some ⟨w2.heap.size, 0, none⟩)), (11, .bool (decide (e ≠ 0))), (15, .bool (!(wide (s : Int))))]) ?_ (sub_cons rfl (sub_cons rfl (sub_cons rfl (sub_cons rfl (sub_cons rfl (sub_cons rfl (sub_cons rfl sub_nil)))))))) a_ ha_
      refine t_seq (fun K46 hK46 => ?_)
      refine t_seq (fun K47 hK47 => ?_)
      refine t_region ?_
      refine tl_val (w' := w7) rfl (do_move rfl) (by decide) ?_
      refine tl_val (w' := w7) rfl (do_fieldAddr (v := .pointer (some ⟨w.heap.size, 0, none⟩)) rfl (by kernel_rfl)) (by decide) ?_
      refine tl_val (w' := w7) rfl (do_load (v := .slice A l.length c) rfl (by kernel_rfl) (by rw [obj_cell h14]; rfl)) (by decide) ?_
      refine tl_val (w' := w7) rfl (do_builtin (v := .int .i64 (l.length : Int)) rfl (fun _ _ => by kernel_rfl)) (by decide) ?_
      refine tl_val (w' := w7) rfl (do_fieldAddr (v := .pointer (some ⟨w.heap.size, 1, none⟩)) rfl (by kernel_rfl)) (by decide) ?_
      refine tl_val (w' := w7) rfl (do_load (v := .int .i64 (at_ : Int)) rfl (by kernel_rfl) (by rw [obj_cell h14]; rfl)) (by decide) ?_
      refine tl_val (w' := w7) rfl (do_sub (c := (l.length : Int) - (at_ : Int)) rfl rfl (wrap_i64 (by omega) (by omega))) (by decide) ?_
      refine tl_val (w' := w7) rfl (do_gtr rfl rfl) (by decide) ?_
      refine tl_end ?_
      refine fun a_ ha_ => hK47 _ _ _ (T.sub (L' := [(0, .agg #[.slice A l.length c, .int .i64 (at_ : Int), .bool big, .int .i64 e]), (1, .int .i64 (s : Int)), (2, .pointer (some ⟨w.heap.size, 0, none⟩)), (4, .int .i64 0), (5, .pointer (some ⟨w2.heap.size, 0, none⟩)), (11, .bool (decide (e ≠ 0))), (15, .bool (!(wide (s : Int)))), (25, .bool (decide ((s : Int) > ((l.length : Int) - (at_ : Int)))))]) ?_ (sub_cons rfl (sub_cons rfl (sub_cons rfl (sub_cons rfl (sub_cons rfl (sub_cons rfl (sub_cons rfl (sub_cons rfl sub_nil))))))))) a_ ha_
      by_cases hc48 : (s : Int) > ((l.length : Int) - (at_ : Int))
      · have hk49 := decide_eq_true hc48
        refine t_yes rfl hk49 ?_
        refine t_seq (fun K50 hK50 => ?_)
        refine t_region ?_
        refine tl_val (w' := w7) rfl (do_loads (cs := [.slice A l.length c, .int .i64 (at_ : Int), .bool big, .int .i64 e]) rfl (by kernel_rfl) (obj_range h14)) (by decide) ?_
        refine tl_call rfl (en_call (f := 49) (by kernel_rfl) rfl) rfl (rfail_e _ _ _ _ _ _ 3 _) (fun v54 w52 hr53 => ?_) (fun _ _ h => h.elim) (fun _ h => h)
        obtain ⟨rfl, hchg51⟩ := hr53
        have hz55 := hchg51.size
        refine tl_val (w' := w52) rfl (do_assign rfl) (by decide) ?_
        have h56 := (hchg51.obj (fun x => x) hc11)
        refine tl_unit rfl (do_storesB (cs := [.slice A l.length c, .int .i64 (at_ : Int), .bool big, .int .i64 3]) rfl rfl (by rfl) (by kernel_rfl) h56 (Nat.le_of_ble_eq_true rfl)) ?_
        refine tl_gen (fun w57 e58 => ?_)
        have hb59 : Chg (fun k => k = w2.heap.size) w52 w57 := e58 ▸ Chg.setCells _ _ 0 [.slice A l.length c, .int .i64 (at_ : Int), .bool big, .int .i64 3]
        have hz60 : w57.heap.size = w52.heap.size := by rw [e58]; exact sc_size _ _ _ _
        have hc61 : w57.heap[w2.heap.size]? = some (.cells #[.slice A l.length c, .int .i64 (at_ : Int), .bool big, .int .i64 3] 55 (0, 0)) := by rw [e58]; exact obj_setCells [.slice A l.length c, .int .i64 (at_ : Int), .bool big, .int .i64 3] 0 h56
        clear e58
        refine tl_end ?_
        refine fun a_ ha_ => hK50 _ _ _ (T.sub (L' := [(0, .agg #[.slice A l.length c, .int .i64 (at_ : Int), .bool big, .int .i64 e]), (1, .int .i64 (s : Int)), (2, .pointer (some ⟨w.heap.size, 0, none⟩)), (4, .int .i64 0), (5, .pointer (some ⟨w2.heap.size, 0, none⟩)), (11, .bool (decide (e ≠ 0))), (15, .bool (!(wide (s : Int)))), (25, .bool (decide ((s : Int) > ((l.length : Int) - (at_ : Int)))))]) ?_ (sub_cons rfl (sub_cons rfl (sub_cons rfl (sub_cons rfl (sub_cons rfl (sub_cons rfl (sub_cons rfl (sub_cons rfl sub_nil))))))))) a_ ha_
        refine t_ret ?_
        refine fun a_ ha_ => hQ0 _ _ _ (body_ret (rs := [.tmp 4, .cell 5 55]) (vs := [.int .i64 0, .agg #[.slice A l.length c, .int .i64 (at_ : Int), .bool big, .int .i64 3]]) ha_ (by kernel_rfl) ⟨_, _, rfl, rfl, ⟨_, _, _, rfl, rfl, (load_whole (cs := [.slice A l.length c, .int .i64 (at_ : Int), .bool big, .int .i64 3]) (by kernel_rfl) (obj_range hc61)), rfl⟩⟩ ?_)
        exact ⟨_, at_, _, rfl, .inr (.inl ⟨by omega, 3, num_no3 hwd_ (by omega), rfl, rfl, rfl⟩), (((((Chg.refl (fun k_ => False) w).step hb4 (fun k_ hk_ (h_ : False) => h_.elim)).step hb9 (fun k_ hk_ (h_ : False) => h_.elim)).step hchg51 (fun k_ hk_ (h_ : False) => h_.elim)).step hb59 (fun k_ hk_ (h_ : k_ = w2.heap.size) => (show False by omega)))⟩
      · have hk49 := decide_eq_false hc48
        refine t_no rfl hk49 ?_
        refine t_skip ?_
        refine fun a_ ha_ => hK46 _ _ _ (T.sub (L' := [(0, .agg #[.slice A l.length c, .int .i64 (at_ : Int), .bool big, .int .i64 e]), (1, .int .i64 (s : Int)), (2, .pointer (some ⟨w.heap.size, 0, none⟩)), (4, .int .i64 0), (5, .pointer (some ⟨w2.heap.size, 0, none⟩)), (11, .bool (decide (e ≠ 0))), (15, .bool (!(wide (s : Int)))), (25, .bool (decide ((s : Int) > ((l.length : Int) - (at_ : Int)))))]) ?_ (sub_cons rfl (sub_cons rfl (sub_cons rfl (sub_cons rfl (sub_cons rfl (sub_cons rfl (sub_cons rfl (sub_cons rfl sub_nil))))))))) a_ ha_
        refine t_seq (fun K62 hK62 => ?_)
        refine t_region ?_
        refine tl_val (w' := w7) rfl (do_fieldAddr (v := .pointer (some ⟨w.heap.size, 0, none⟩)) rfl (by kernel_rfl)) (by decide) ?_
        refine tl_val (w' := w7) rfl (do_load (v := .slice A l.length c) rfl (by kernel_rfl) (by rw [obj_cell h14]; rfl)) (by decide) ?_
        refine tl_val (w' := w7) rfl (do_fieldAddr (v := .pointer (some ⟨w.heap.size, 1, none⟩)) rfl (by kernel_rfl)) (by decide) ?_
        refine tl_val (w' := w7) rfl (do_load (v := .int .i64 (at_ : Int)) rfl (by kernel_rfl) (by rw [obj_cell h14]; rfl)) (by decide) ?_
        refine tl_val (w' := w7) rfl (do_fieldAddr (v := .pointer (some ⟨w.heap.size, 1, none⟩)) rfl (by kernel_rfl)) (by decide) ?_
        refine tl_val (w' := w7) rfl (do_load (v := .int .i64 (at_ : Int)) rfl (by kernel_rfl) (by rw [obj_cell h14]; rfl)) (by decide) ?_
        refine tl_val (w' := w7) rfl (do_move rfl) (by decide) ?_
        refine tl_val (w' := w7) rfl (do_add (c := ((at_ + s : Nat) : Int)) rfl rfl (by rw [wrap_i64 (by omega) (by omega)]; omega)) (by decide) ?_
        have h63 := (Rd.chg ha (Rd.chg ha ha hb4 (fun _ _ x => x)) hb9 (fun _ _ x => x))
        have hs64 := fun W => slice_rd (P := Tryd.prog) (t := 24) (lo := at_) (hi := (at_ + s)) (l' := (some (.int .i64 (at_ : Int)))) (h' := (some (.int .i64 ((at_ + s : Nat) : Int)))) h63 (by kernel_rfl) (by omega) (by omega) (by omega) (.inr ⟨_, rfl⟩) (.inr ⟨_, rfl⟩) W
        refine tl_val (w' := w7) rfl (do_slice (v := .slice (sub A c at_ 1) (((l.drop at_).take ((at_ + s) - at_)).length) (c - at_)) rfl rfl rfl rfl (hs64 _).1) (by decide) ?_
        refine tl_val (w' := w7) rfl (do_assign rfl) (by decide) ?_
        refine tl_end ?_
        refine fun a_ ha_ => hK62 _ _ _ (T.sub (L' := [(0, .agg #[.slice A l.length c, .int .i64 (at_ : Int), .bool big, .int .i64 e]), (1, .int .i64 (s : Int)), (2, .pointer (some ⟨w.heap.size, 0, none⟩)), (4, .int .i64 0), (5, .pointer (some ⟨w2.heap.size, 0, none⟩)), (6, .slice (sub A c at_ 1) (((l.drop at_).take ((at_ + s) - at_)).length) (c - at_)), (11, .bool (decide (e ≠ 0))), (15, .bool (!(wide (s : Int)))), (25, .bool (decide ((s : Int) > ((l.length : Int) - (at_ : Int)))))]) ?_ (sub_cons rfl (sub_cons rfl (sub_cons rfl (sub_cons rfl (sub_cons rfl (sub_cons rfl (sub_cons rfl (sub_cons rfl (sub_cons rfl sub_nil)))))))))) a_ ha_
        refine t_seq (fun K65 hK65 => ?_)
        refine t_seq (fun K66 hK66 => ?_)
        refine t_region ?_
        refine tl_val (w' := w7) rfl (do_fieldAddr (v := .pointer (some ⟨w.heap.size, 2, none⟩)) rfl (by kernel_rfl)) (by decide) ?_
        refine tl_val (w' := w7) rfl (do_load (v := .bool big) rfl (by kernel_rfl) (by rw [obj_cell h14]; rfl)) (by decide) ?_
        refine tl_val (w' := w7) rfl (do_not rfl rfl) (by decide) ?_
        refine tl_end ?_
        refine fun a_ ha_ => hK66 _ _ _ (T.sub (L' := [(0, .agg #[.slice A l.length c, .int .i64 (at_ : Int), .bool big, .int .i64 e]), (1, .int .i64 (s : Int)), (2, .pointer (some ⟨w.heap.size, 0, none⟩)), (4, .int .i64 0), (5, .pointer (some ⟨w2.heap.size, 0, none⟩)), (6, .slice (sub A c at_ 1) (((l.drop at_).take ((at_ + s) - at_)).length) (c - at_)), (11, .bool (decide (e ≠ 0))), (15, .bool (!(wide (s : Int)))), (25, .bool (decide ((s : Int) > ((l.length : Int) - (at_ : Int))))), (39, .bool (!big))]) ?_ (sub_cons rfl (sub_cons rfl (sub_cons rfl (sub_cons rfl (sub_cons rfl (sub_cons rfl (sub_cons rfl (sub_cons rfl (sub_cons rfl (sub_cons rfl sub_nil))))))))))) a_ ha_
        by_cases hc67 : (!big) = true
        · have hk68 := hc67
          have hbg_ : big = false := by simpa using hc67
          refine t_yes rfl hk68 ?_
          refine t_region ?_
          refine tl_val (w' := w7) rfl (do_move rfl) (by decide) ?_
          refine tl_call rfl (en_call (f := 41) (by kernel_rfl) rfl) rfl (rback_e (hs64 w7).2 (by simp; omega)) (fun v72 w70 hr71 => ?_) (fun _ _ h => h.elim) (fun _ h => h)
          obtain ⟨A69, c69, rfl, hrd69, hchg69⟩ := hr71
          have hz73 := hchg69.size
          refine tl_val (w' := w70) rfl (do_assign rfl) (by decide) ?_
          refine tl_end ?_
          refine fun a_ ha_ => hK65 _ _ _ (T.sub (L' := [(0, .agg #[.slice A l.length c, .int .i64 (at_ : Int), .bool big, .int .i64 e]), (1, .int .i64 (s : Int)), (2, .pointer (some ⟨w.heap.size, 0, none⟩)), (4, .int .i64 0), (5, .pointer (some ⟨w2.heap.size, 0, none⟩)), (6, .slice A69 (((l.drop at_).take ((at_ + s) - at_)).reverse.length) c69), (11, .bool (decide (e ≠ 0))), (15, .bool (!(wide (s : Int)))), (25, .bool (decide ((s : Int) > ((l.length : Int) - (at_ : Int))))), (39, .bool (!big))]) ?_ (sub_cons rfl (sub_cons rfl (sub_cons rfl (sub_cons rfl (sub_cons rfl (sub_cons rfl (sub_cons rfl (sub_cons rfl (sub_cons rfl (sub_cons rfl sub_nil))))))))))) a_ ha_
          refine t_seq (fun K74 hK74 => ?_)
          refine t_seq (fun K75 hK75 => ?_)
          refine t_region ?_
          refine tl_val (w' := w70) rfl (do_move rfl) (by decide) ?_
          have hwin_ : ((l.drop at_).take ((at_ + s) - at_)).reverse = win l at_ s big := by rw [hbg_]; exact win_eq (big := false)
          have hwl_ : (((l.drop at_).take ((at_ + s) - at_)).reverse).length = s := by rw [hwin_]; exact win_length _ _ _ _ (by omega)
          have htop_ := beN_top (((l.drop at_).take ((at_ + s) - at_)).reverse) (by omega)
          refine tl_val (w' := w70) rfl (do_eql rfl rfl) (by decide) ?_
          refine tl_val (w' := w70) rfl (do_move rfl) (by decide) ?_
          by_cases hc76 : (s : Int) = 8
          · have hk77 := decide_eq_true hc76
            refine tl_val (w' := w70) ⟨44, _, rfl, rfl, (by rw [hk77]; rfl)⟩ (do_move rfl) (by decide) ?_
            refine tl_val (w' := w70) ⟨44, _, rfl, rfl, (by rw [hk77]; rfl)⟩ (do_indexAddr rfl rfl (idx_rd' (j := 0) hrd69 (by kernel_rfl) rfl (by omega) _)) (by decide) ?_
            refine tl_val (w' := w70) ⟨44, _, rfl, rfl, (by rw [hk77]; rfl)⟩ (do_load_rd rfl (by kernel_rfl) hrd69 (by omega)) (by decide) ?_
            refine tl_val (w' := w70) ⟨44, _, rfl, rfl, (by rw [hk77]; rfl)⟩ (do_geq rfl rfl) (by decide) ?_
            refine tl_val (w' := w70) rfl (do_pick_t rfl hk77 rfl) (by decide) ?_
            refine tl_end ?_
            refine fun a_ ha_ => hK75 _ _ _ (T.sub (L' := [(0, .agg #[.slice A l.length c, .int .i64 (at_ : Int), .bool big, .int .i64 e]), (1, .int .i64 (s : Int)), (2, .pointer (some ⟨w.heap.size, 0, none⟩)), (4, .int .i64 0), (5, .pointer (some ⟨w2.heap.size, 0, none⟩)), (6, .slice A69 (((l.drop at_).take ((at_ + s) - at_)).reverse.length) c69), (11, .bool (decide (e ≠ 0))), (15, .bool (!(wide (s : Int)))), (25, .bool (decide ((s : Int) > ((l.length : Int) - (at_ : Int))))), (39, .bool (!big)), (49, .bool (decide ((((((l.drop at_).take ((at_ + s) - at_)).reverse).getD 0 0).toNat : Int) ≥ 128)))]) ?_ (sub_cons rfl (sub_cons rfl (sub_cons rfl (sub_cons rfl (sub_cons rfl (sub_cons rfl (sub_cons rfl (sub_cons rfl (sub_cons rfl (sub_cons rfl (sub_cons rfl sub_nil)))))))))))) a_ ha_
            by_cases hc78 : (((((l.drop at_).take ((at_ + s) - at_)).reverse).getD 0 0).toNat : Int) ≥ 128
            · have hk79 := decide_eq_true hc78
              have hno_ : NumNo l at_ s big 2 := num_no2 hwd_ (by omega) (by rw [← hwin_]; omega)
              refine t_yes rfl hk79 ?_
              refine t_seq (fun K80 hK80 => ?_)
              refine t_region ?_
              have h81 := (hchg69.obj (fun x => x) h14)
              refine tl_val (w' := w70) rfl (do_loads (cs := [.slice A l.length c, .int .i64 (at_ : Int), .bool big, .int .i64 e]) rfl (by kernel_rfl) (obj_range h81)) (by decide) ?_
              refine tl_call rfl (en_call (f := 49) (by kernel_rfl) rfl) rfl (rfail_e _ _ _ _ _ _ 2 _) (fun v85 w83 hr84 => ?_) (fun _ _ h => h.elim) (fun _ h => h)
              obtain ⟨rfl, hchg82⟩ := hr84
              have hz86 := hchg82.size
              refine tl_val (w' := w83) rfl (do_assign rfl) (by decide) ?_
              have h87 := (hchg82.obj (fun x => x) (hchg69.obj (fun x => x) hc11))
              refine tl_unit rfl (do_storesB (cs := [.slice A l.length c, .int .i64 (at_ : Int), .bool big, .int .i64 2]) rfl rfl (by rfl) (by kernel_rfl) h87 (Nat.le_of_ble_eq_true rfl)) ?_
              refine tl_gen (fun w88 e89 => ?_)
              have hb90 : Chg (fun k => k = w2.heap.size) w83 w88 := e89 ▸ Chg.setCells _ _ 0 [.slice A l.length c, .int .i64 (at_ : Int), .bool big, .int .i64 2]
              have hz91 : w88.heap.size = w83.heap.size := by rw [e89]; exact sc_size _ _ _ _
              have hc92 : w88.heap[w2.heap.size]? = some (.cells #[.slice A l.length c, .int .i64 (at_ : Int), .bool big, .int .i64 2] 55 (0, 0)) := by rw [e89]; exact obj_setCells [.slice A l.length c, .int .i64 (at_ : Int), .bool big, .int .i64 2] 0 h87
              clear e89
              refine tl_end ?_
              refine fun a_ ha_ => hK80 _ _ _ (T.sub (L' := [(0, .agg #[.slice A l.length c, .int .i64 (at_ : Int), .bool big, .int .i64 e]), (1, .int .i64 (s : Int)), (2, .pointer (some ⟨w.heap.size, 0, none⟩)), (4, .int .i64 0), (5, .pointer (some ⟨w2.heap.size, 0, none⟩)), (6, .slice A69 (((l.drop at_).take ((at_ + s) - at_)).reverse.length) c69), (11, .bool (decide (e ≠ 0))), (15, .bool (!(wide (s : Int)))), (25, .bool (decide ((s : Int) > ((l.length : Int) - (at_ : Int))))), (39, .bool (!big)), (49, .bool (decide ((((((l.drop at_).take ((at_ + s) - at_)).reverse).getD 0 0).toNat : Int) ≥ 128)))]) ?_ (sub_cons rfl (sub_cons rfl (sub_cons rfl (sub_cons rfl (sub_cons rfl (sub_cons rfl (sub_cons rfl (sub_cons rfl (sub_cons rfl (sub_cons rfl (sub_cons rfl sub_nil)))))))))))) a_ ha_
              refine t_ret ?_
              refine fun a_ ha_ => hQ0 _ _ _ (body_ret (rs := [.tmp 4, .cell 5 55]) (vs := [.int .i64 0, .agg #[.slice A l.length c, .int .i64 (at_ : Int), .bool big, .int .i64 2]]) ha_ (by kernel_rfl) ⟨_, _, rfl, rfl, ⟨_, _, _, rfl, rfl, (load_whole (cs := [.slice A l.length c, .int .i64 (at_ : Int), .bool big, .int .i64 2]) (by kernel_rfl) (obj_range hc92)), rfl⟩⟩ ?_)
              exact ⟨_, at_, _, rfl, .inr (.inl ⟨by omega, 2, hno_, rfl, rfl, rfl⟩), ((((((Chg.refl (fun k_ => False) w).step hb4 (fun k_ hk_ (h_ : False) => h_.elim)).step hb9 (fun k_ hk_ (h_ : False) => h_.elim)).step hchg69 (fun k_ hk_ (h_ : False) => h_.elim)).step hchg82 (fun k_ hk_ (h_ : False) => h_.elim)).step hb90 (fun k_ hk_ (h_ : k_ = w2.heap.size) => (show False by omega)))⟩
            · have hk79 := decide_eq_false hc78
              refine t_no rfl hk79 ?_
              refine t_skip ?_
              refine fun a_ ha_ => hK74 _ _ _ (T.sub (L' := [(0, .agg #[.slice A l.length c, .int .i64 (at_ : Int), .bool big, .int .i64 e]), (1, .int .i64 (s : Int)), (2, .pointer (some ⟨w.heap.size, 0, none⟩)), (4, .int .i64 0), (5, .pointer (some ⟨w2.heap.size, 0, none⟩)), (6, .slice A69 (((l.drop at_).take ((at_ + s) - at_)).reverse.length) c69), (11, .bool (decide (e ≠ 0))), (15, .bool (!(wide (s : Int)))), (25, .bool (decide ((s : Int) > ((l.length : Int) - (at_ : Int))))), (39, .bool (!big)), (49, .bool (decide ((((((l.drop at_).take ((at_ + s) - at_)).reverse).getD 0 0).toNat : Int) ≥ 128)))]) ?_ (sub_cons rfl (sub_cons rfl (sub_cons rfl (sub_cons rfl (sub_cons rfl (sub_cons rfl (sub_cons rfl (sub_cons rfl (sub_cons rfl (sub_cons rfl (sub_cons rfl sub_nil)))))))))))) a_ ha_
              refine t_seq (fun K93 hK93 => ?_)
              refine t_region ?_
              refine tl_val (w' := w70) rfl (do_assign rfl) (by decide) ?_
              refine tl_end ?_
              refine fun a_ ha_ => hK93 _ _ _ (T.sub (L' := [(0, .agg #[.slice A l.length c, .int .i64 (at_ : Int), .bool big, .int .i64 e]), (1, .int .i64 (s : Int)), (2, .pointer (some ⟨w.heap.size, 0, none⟩)), (4, .int .i64 0), (5, .pointer (some ⟨w2.heap.size, 0, none⟩)), (6, .slice A69 (((l.drop at_).take ((at_ + s) - at_)).reverse.length) c69), (7, .int .i64 0), (11, .bool (decide (e ≠ 0))), (15, .bool (!(wide (s : Int)))), (25, .bool (decide ((s : Int) > ((l.length : Int) - (at_ : Int))))), (39, .bool (!big)), (49, .bool (decide ((((((l.drop at_).take ((at_ + s) - at_)).reverse).getD 0 0).toNat : Int) ≥ 128)))]) ?_ (sub_cons rfl (sub_cons rfl (sub_cons rfl (sub_cons rfl (sub_cons rfl (sub_cons rfl (sub_cons rfl (sub_cons rfl (sub_cons rfl (sub_cons rfl (sub_cons rfl (sub_cons rfl sub_nil))))))))))))) a_ ha_
              refine t_seq (fun K94 hK94 => ?_)
              refine t_seq (fun K95 hK95 => ?_)
              refine t_region ?_
              refine tl_val (w' := w70) rfl (do_assign rfl) (by decide) ?_
              refine tl_end ?_
              refine fun a_ ha_ => hK95 _ _ _ (T.sub (L' := [(0, .agg #[.slice A l.length c, .int .i64 (at_ : Int), .bool big, .int .i64 e]), (1, .int .i64 (s : Int)), (2, .pointer (some ⟨w.heap.size, 0, none⟩)), (4, .int .i64 0), (5, .pointer (some ⟨w2.heap.size, 0, none⟩)), (6, .slice A69 (((l.drop at_).take ((at_ + s) - at_)).reverse.length) c69), (7, .int .i64 0), (8, .int .i64 0), (11, .bool (decide (e ≠ 0))), (15, .bool (!(wide (s : Int)))), (25, .bool (decide ((s : Int) > ((l.length : Int) - (at_ : Int))))), (39, .bool (!big)), (49, .bool (decide ((((((l.drop at_).take ((at_ + s) - at_)).reverse).getD 0 0).toNat : Int) ≥ 128)))]) ?_ (sub_cons rfl (sub_cons rfl (sub_cons rfl (sub_cons rfl (sub_cons rfl (sub_cons rfl (sub_cons rfl (sub_cons rfl (sub_cons rfl (sub_cons rfl (sub_cons rfl (sub_cons rfl (sub_cons rfl sub_nil)))))))))))))) a_ ha_
              refine t_block ?_
              have hmx_ : beN (((l.drop at_).take ((at_ + s) - at_)).reverse) ≤ 9223372036854775807 := by omega
              have hz0_ : beN (List.take 0 (((l.drop at_).take ((at_ + s) - at_)).reverse)) = 0 := rfl
              refine t_loop (G := Nat) (fun k => [(0, .agg #[.slice A l.length c, .int .i64 (at_ : Int), .bool big, .int .i64 e]), (1, .int .i64 (s : Int)), (2, .pointer (some ⟨w.heap.size, 0, none⟩)), (4, .int .i64 0), (5, .pointer (some ⟨w2.heap.size, 0, none⟩)), (6, .slice A69 (((l.drop at_).take ((at_ + s) - at_)).reverse.length) c69), (7, .int .i64 (beN (List.take k (((l.drop at_).take ((at_ + s) - at_)).reverse)) : Int)), (8, .int .i64 (k : Int)), (11, .bool (decide (e ≠ 0))), (15, .bool (!(wide (s : Int)))), (25, .bool (decide ((s : Int) > ((l.length : Int) - (at_ : Int))))), (39, .bool (!big)), (49, .bool (decide ((((((l.drop at_).take ((at_ + s) - at_)).reverse).getD 0 0).toNat : Int) ≥ 128)))]) (fun k WW_ => k ≤ s ∧ Chg (fun _ => False) w70 WW_) (fun k => s - k) 0 (⟨Nat.zero_le _, Chg.refl _ _⟩) (sub_cons rfl (sub_cons rfl (sub_cons rfl (sub_cons rfl (sub_cons rfl (sub_cons rfl (sub_cons (as_int (a := 0) rfl (by omega)) (sub_cons (as_int (a := 0) rfl (by omega)) (sub_cons rfl (sub_cons rfl (sub_cons rfl (sub_cons rfl (sub_cons rfl sub_nil))))))))))))) ?_
              rintro k w96 K97 hI98 hK99
              obtain ⟨hk, hchgl⟩ := hI98
              refine T.sub (L' := [(0, .agg #[.slice A l.length c, .int .i64 (at_ : Int), .bool big, .int .i64 e]), (1, .int .i64 (s : Int)), (2, .pointer (some ⟨w.heap.size, 0, none⟩)), (4, .int .i64 0), (5, .pointer (some ⟨w2.heap.size, 0, none⟩)), (6, .slice A69 (((l.drop at_).take ((at_ + s) - at_)).reverse.length) c69), (7, .int .i64 (beN (List.take k (((l.drop at_).take ((at_ + s) - at_)).reverse)) : Int)), (8, .int .i64 (k : Int)), (11, .bool (decide (e ≠ 0))), (15, .bool (!(wide (s : Int)))), (25, .bool (decide ((s : Int) > ((l.length : Int) - (at_ : Int))))), (39, .bool (!big)), (49, .bool (decide ((((((l.drop at_).take ((at_ + s) - at_)).reverse).getD 0 0).toNat : Int) ≥ 128)))]) ?_ (sub_cons rfl (sub_cons rfl (sub_cons rfl (sub_cons rfl (sub_cons rfl (sub_cons rfl (sub_cons rfl (sub_cons rfl (sub_cons rfl (sub_cons rfl (sub_cons rfl (sub_cons rfl (sub_cons rfl sub_nil)))))))))))))
              have hz100 := hchgl.size
              refine t_seq (fun K101 hK101 => ?_)
              refine t_seq (fun K102 hK102 => ?_)
              refine t_region ?_
              refine tl_val (w' := w96) rfl (do_move rfl) (by decide) ?_
              refine tl_val (w' := w96) rfl (do_move rfl) (by decide) ?_
              refine tl_val (w' := w96) rfl (do_lss rfl rfl) (by decide) ?_
              refine tl_end ?_
              refine fun a_ ha_ => hK102 _ _ _ (T.sub (L' := [(0, .agg #[.slice A l.length c, .int .i64 (at_ : Int), .bool big, .int .i64 e]), (1, .int .i64 (s : Int)), (2, .pointer (some ⟨w.heap.size, 0, none⟩)), (4, .int .i64 0), (5, .pointer (some ⟨w2.heap.size, 0, none⟩)), (6, .slice A69 (((l.drop at_).take ((at_ + s) - at_)).reverse.length) c69), (7, .int .i64 (beN (List.take k (((l.drop at_).take ((at_ + s) - at_)).reverse)) : Int)), (8, .int .i64 (k : Int)), (11, .bool (decide (e ≠ 0))), (15, .bool (!(wide (s : Int)))), (25, .bool (decide ((s : Int) > ((l.length : Int) - (at_ : Int))))), (39, .bool (!big)), (49, .bool (decide ((((((l.drop at_).take ((at_ + s) - at_)).reverse).getD 0 0).toNat : Int) ≥ 128))), (54, .bool (decide ((k : Int) < (s : Int))))]) ?_ (sub_cons rfl (sub_cons rfl (sub_cons rfl (sub_cons rfl (sub_cons rfl (sub_cons rfl (sub_cons rfl (sub_cons rfl (sub_cons rfl (sub_cons rfl (sub_cons rfl (sub_cons rfl (sub_cons rfl (sub_cons rfl sub_nil))))))))))))))) a_ ha_
              by_cases hc103 : (k : Int) < (s : Int)
              · have hk104 := decide_eq_true hc103
                obtain ⟨hb1_, hb2_⟩ := beN_next (((l.drop at_).take ((at_ + s) - at_)).reverse) k (by omega)
                refine t_yes rfl hk104 ?_
                refine t_skip ?_
                refine fun a_ ha_ => hK101 _ _ _ (T.sub (L' := [(0, .agg #[.slice A l.length c, .int .i64 (at_ : Int), .bool big, .int .i64 e]), (1, .int .i64 (s : Int)), (2, .pointer (some ⟨w.heap.size, 0, none⟩)), (4, .int .i64 0), (5, .pointer (some ⟨w2.heap.size, 0, none⟩)), (6, .slice A69 (((l.drop at_).take ((at_ + s) - at_)).reverse.length) c69), (7, .int .i64 (beN (List.take k (((l.drop at_).take ((at_ + s) - at_)).reverse)) : Int)), (8, .int .i64 (k : Int)), (11, .bool (decide (e ≠ 0))), (15, .bool (!(wide (s : Int)))), (25, .bool (decide ((s : Int) > ((l.length : Int) - (at_ : Int))))), (39, .bool (!big)), (49, .bool (decide ((((((l.drop at_).take ((at_ + s) - at_)).reverse).getD 0 0).toNat : Int) ≥ 128))), (54, .bool (decide ((k : Int) < (s : Int))))]) ?_ (sub_cons rfl (sub_cons rfl (sub_cons rfl (sub_cons rfl (sub_cons rfl (sub_cons rfl (sub_cons rfl (sub_cons rfl (sub_cons rfl (sub_cons rfl (sub_cons rfl (sub_cons rfl (sub_cons rfl (sub_cons rfl sub_nil))))))))))))))) a_ ha_
                refine t_seq (fun K105 hK105 => ?_)
                refine t_block ?_
                refine t_region ?_
                refine tl_val (w' := w96) rfl (do_move rfl) (by decide) ?_
                refine tl_val (w' := w96) rfl (do_mul (c := (beN (List.take k (((l.drop at_).take ((at_ + s) - at_)).reverse)) : Int) * 256) rfl rfl (wrap_i64 (by omega) (by omega))) (by decide) ?_
                refine tl_val (w' := w96) rfl (do_move rfl) (by decide) ?_
                refine tl_val (w' := w96) rfl (do_move rfl) (by decide) ?_
                have h106 := (Rd.chg hrd69 hrd69 hchgl (fun _ _ x => x))
                refine tl_val (w' := w96) rfl (do_indexAddr rfl rfl (idx_rd' (j := k) h106 (by kernel_rfl) rfl (by omega) _)) (by decide) ?_
                refine tl_val (w' := w96) rfl (do_load_rd rfl (by kernel_rfl) h106 (by omega)) (by decide) ?_
                refine tl_val (w' := w96) rfl (do_convert (v := .int .i64 (((((l.drop at_).take ((at_ + s) - at_)).reverse).getD k 0).toNat : Int)) rfl (conv_int (by kernel_rfl) (wrap_i64 (by omega) (by omega)))) (by decide) ?_
                refine tl_val (w' := w96) rfl (do_add (c := ((beN (List.take k (((l.drop at_).take ((at_ + s) - at_)).reverse)) : Int) * 256) + (((((l.drop at_).take ((at_ + s) - at_)).reverse).getD k 0).toNat : Int)) rfl rfl (wrap_i64 (by omega) (by omega))) (by decide) ?_
                refine tl_val (w' := w96) rfl (do_assign rfl) (by decide) ?_
                refine tl_end ?_
                refine fun a_ ha_ => hK105 _ _ _ (T.sub (L' := [(0, .agg #[.slice A l.length c, .int .i64 (at_ : Int), .bool big, .int .i64 e]), (1, .int .i64 (s : Int)), (2, .pointer (some ⟨w.heap.size, 0, none⟩)), (4, .int .i64 0), (5, .pointer (some ⟨w2.heap.size, 0, none⟩)), (6, .slice A69 (((l.drop at_).take ((at_ + s) - at_)).reverse.length) c69), (7, .int .i64 (((beN (List.take k (((l.drop at_).take ((at_ + s) - at_)).reverse)) : Int) * 256) + (((((l.drop at_).take ((at_ + s) - at_)).reverse).getD k 0).toNat : Int))), (8, .int .i64 (k : Int)), (11, .bool (decide (e ≠ 0))), (15, .bool (!(wide (s : Int)))), (25, .bool (decide ((s : Int) > ((l.length : Int) - (at_ : Int))))), (39, .bool (!big)), (49, .bool (decide ((((((l.drop at_).take ((at_ + s) - at_)).reverse).getD 0 0).toNat : Int) ≥ 128))), (54, .bool (decide ((k : Int) < (s : Int))))]) ?_ (sub_cons rfl (sub_cons rfl (sub_cons rfl (sub_cons rfl (sub_cons rfl (sub_cons rfl (sub_cons rfl (sub_cons rfl (sub_cons rfl (sub_cons rfl (sub_cons rfl (sub_cons rfl (sub_cons rfl (sub_cons rfl sub_nil))))))))))))))) a_ ha_
                refine t_region ?_
                refine tl_val (w' := w96) rfl (do_move rfl) (by decide) ?_
                refine tl_val (w' := w96) rfl (do_add (c := (k : Int) + 1) rfl rfl (wrap_i64 (by omega) (by omega))) (by decide) ?_
                refine tl_val (w' := w96) rfl (do_assign rfl) (by decide) ?_
                refine tl_end ?_
                refine fun a_ ha_ => hK99 (k + 1) _ _ (⟨by omega, ((Chg.refl (fun k_ => False) w70).step hchgl (fun k_ hk_ (h_ : False) => h_.elim))⟩) (show s - (k + 1) < s - k by omega) (sub_cons rfl (sub_cons rfl (sub_cons rfl (sub_cons rfl (sub_cons rfl (sub_cons rfl (sub_cons (as_int (a := ((beN (List.take k (((l.drop at_).take ((at_ + s) - at_)).reverse)) : Int) * 256) + (((((l.drop at_).take ((at_ + s) - at_)).reverse).getD k 0).toNat : Int)) rfl (by omega)) (sub_cons (as_int (a := (k : Int) + 1) rfl (by omega)) (sub_cons rfl (sub_cons rfl (sub_cons rfl (sub_cons rfl (sub_cons rfl sub_nil))))))))))))) a_ ha_
              · have hk104 := decide_eq_false hc103
                have hks_ : k = s := by omega
                have hall_ : List.take k (((l.drop at_).take ((at_ + s) - at_)).reverse) = (((l.drop at_).take ((at_ + s) - at_)).reverse) := List.take_of_length_le (by omega)
                refine t_no rfl hk104 ?_
                refine t_exit ?_
                refine fun a_ ha_ => hK94 _ _ _ (T.sub (L' := [(0, .agg #[.slice A l.length c, .int .i64 (at_ : Int), .bool big, .int .i64 e]), (1, .int .i64 (s : Int)), (2, .pointer (some ⟨w.heap.size, 0, none⟩)), (4, .int .i64 0), (5, .pointer (some ⟨w2.heap.size, 0, none⟩)), (6, .slice A69 (((l.drop at_).take ((at_ + s) - at_)).reverse.length) c69), (7, .int .i64 (beN (List.take k (((l.drop at_).take ((at_ + s) - at_)).reverse)) : Int)), (8, .int .i64 (k : Int)), (11, .bool (decide (e ≠ 0))), (15, .bool (!(wide (s : Int)))), (25, .bool (decide ((s : Int) > ((l.length : Int) - (at_ : Int))))), (39, .bool (!big)), (49, .bool (decide ((((((l.drop at_).take ((at_ + s) - at_)).reverse).getD 0 0).toNat : Int) ≥ 128))), (54, .bool (decide ((k : Int) < (s : Int))))]) ?_ (sub_cons rfl (sub_cons rfl (sub_cons rfl (sub_cons rfl (sub_cons rfl (sub_cons rfl (sub_cons rfl (sub_cons rfl (sub_cons rfl (sub_cons rfl (sub_cons rfl (sub_cons rfl (sub_cons rfl (sub_cons rfl sub_nil))))))))))))))) a_ ha_
                refine t_seq (fun K107 hK107 => ?_)
                refine t_region ?_
                refine tl_val (w' := w96) rfl (do_fieldAddr (v := .pointer (some ⟨w.heap.size, 1, none⟩)) rfl (by kernel_rfl)) (by decide) ?_
                have h108 := (hchgl.obj (fun x => x) (hchg69.obj (fun x => x) h14))
                refine tl_val (w' := w96) rfl (do_load (v := .int .i64 (at_ : Int)) rfl (by kernel_rfl) (by rw [obj_cell h108]; rfl)) (by decide) ?_
                refine tl_val (w' := w96) rfl (do_move rfl) (by decide) ?_
                refine tl_val (w' := w96) rfl (do_add (c := ((at_ + s : Nat) : Int)) rfl rfl (by rw [wrap_i64 (by omega) (by omega)]; omega)) (by decide) ?_
                refine tl_val (w' := w96) rfl (do_fieldAddr (v := .pointer (some ⟨w.heap.size, 1, none⟩)) rfl (by kernel_rfl)) (by decide) ?_
                refine tl_unit rfl (do_store (u := .int .i64 (at_ : Int)) rfl rfl rfl (by kernel_rfl) (by rw [obj_cell h108]; rfl) (obj_frozen h108 _)) ?_
                refine tl_gen (fun w109 e110 => ?_)
                have hb111 : Chg (fun k => k = w.heap.size) w96 w109 := e110 ▸ Chg.setCell _ _ _ _
                have hz112 : w109.heap.size = w96.heap.size := by rw [e110]; simp
                have hc113 : w109.heap[w.heap.size]? = some (.cells #[.slice A l.length c, .int .i64 ((at_ + s : Nat) : Int), .bool big, .int .i64 e] 55 (0, 0)) := by rw [e110]; exact obj_setCell h108
                clear e110
                refine tl_end ?_
                refine fun a_ ha_ => hK107 _ _ _ (T.sub (L' := [(0, .agg #[.slice A l.length c, .int .i64 (at_ : Int), .bool big, .int .i64 e]), (1, .int .i64 (s : Int)), (2, .pointer (some ⟨w.heap.size, 0, none⟩)), (4, .int .i64 0), (5, .pointer (some ⟨w2.heap.size, 0, none⟩)), (6, .slice A69 (((l.drop at_).take ((at_ + s) - at_)).reverse.length) c69), (7, .int .i64 (beN (List.take k (((l.drop at_).take ((at_ + s) - at_)).reverse)) : Int)), (8, .int .i64 (k : Int)), (11, .bool (decide (e ≠ 0))), (15, .bool (!(wide (s : Int)))), (25, .bool (decide ((s : Int) > ((l.length : Int) - (at_ : Int))))), (39, .bool (!big)), (49, .bool (decide ((((((l.drop at_).take ((at_ + s) - at_)).reverse).getD 0 0).toNat : Int) ≥ 128))), (54, .bool (decide ((k : Int) < (s : Int))))]) ?_ (sub_cons rfl (sub_cons rfl (sub_cons rfl (sub_cons rfl (sub_cons rfl (sub_cons rfl (sub_cons rfl (sub_cons rfl (sub_cons rfl (sub_cons rfl (sub_cons rfl (sub_cons rfl (sub_cons rfl (sub_cons rfl sub_nil))))))))))))))) a_ ha_
                refine t_seq (fun K114 hK114 => ?_)
                refine t_drawnC (fun _ => False) 3 (.take 0 { dst := (some 70), op := (Go.Op.move (Go.Operand.tmp 7)), type := 3, pos := "ref.go:77", after := #[], guard := none } (.take 1 { dst := (some 71), op := (Go.Op.load 55 (Go.Operand.tmp 2)), type := 55, pos := "ref.go:77", after := #[{ on := 2, ground := (Go.Ground.gcOnly Go.Departure.lateStores) }], guard := none } (.take 2 { dst := (some 4), op := (Go.Op.assign (Go.Operand.tmp 70)), type := 3, pos := "ref.go:77", after := #[{ on := 0, ground := Go.Ground.data }, { on := 0, ground := Go.Ground.phase }, { on := 1, ground := (Go.Ground.textOnly Go.Departure.lateStores) }], guard := none } (.one 3 { dst := none, op := (Go.Op.store 55 (Go.Operand.tmp 5) (Go.Operand.tmp 71)), type := 0, pos := "ref.go:77", after := #[{ on := 1, ground := Go.Ground.data }, { on := 2, ground := Go.Ground.chain }, { on := 0, ground := Go.Ground.phase }, { on := 1, ground := Go.Ground.phase }, { on := 2, ground := Go.Ground.phase }], guard := none } .done)))) rfl (by kernel_rfl) (by repeat (first | exact hB0 | apply blind_then | apply blind_in)) (by kernel_rfl) (by kernel_rfl) rfl (fun w115 hb116 hz117 => ?_)
                refine td_takeC rfl (by decide) (fun w_ h_ => (do_move rfl)) ?_
                have h118 := (hb116.obj (fun x => x) hc113)
                refine td_takeC rfl (by decide) (fun w_ h_ => (do_loads (cs := [.slice A l.length c, .int .i64 ((at_ + s : Nat) : Int), .bool big, .int .i64 e]) rfl (by kernel_rfl) (obj_range (h_.obj (fun x => x) h118)))) ?_
                refine td_takeC rfl (by decide) (fun w_ h_ => (do_assign rfl)) ?_
                refine td_one ?_
                have h119 := (hb116.obj (fun x => x) (hb111.obj (show ¬ w2.heap.size = w.heap.size by omega) (hchgl.obj (fun x => x) (hchg69.obj (fun x => x) hc11))))
                refine td_lastC rfl (do_storesB (cs := [.slice A l.length c, .int .i64 ((at_ + s : Nat) : Int), .bool big, .int .i64 e]) rfl rfl (by rfl) (by kernel_rfl) h119 (Nat.le_of_ble_eq_true rfl)) ?_
                refine tx_gen (fun w120 e121 => ?_)
                have hb122 : Chg (fun k => k = w2.heap.size) w115 w120 := e121 ▸ Chg.setCells _ _ 0 [.slice A l.length c, .int .i64 ((at_ + s : Nat) : Int), .bool big, .int .i64 e]
                have hz123 : w120.heap.size = w115.heap.size := by rw [e121]; exact sc_size _ _ _ _
                have hc124 : w120.heap[w2.heap.size]? = some (.cells #[.slice A l.length c, .int .i64 ((at_ + s : Nat) : Int), .bool big, .int .i64 e] 55 (0, 0)) := by rw [e121]; exact obj_setCells [.slice A l.length c, .int .i64 ((at_ + s : Nat) : Int), .bool big, .int .i64 e] 0 h119
                clear e121
                refine fun a_ ha_ => hK114 _ _ _ (T.sub (L' := [(0, .agg #[.slice A l.length c, .int .i64 (at_ : Int), .bool big, .int .i64 e]), (1, .int .i64 (s : Int)), (2, .pointer (some ⟨w.heap.size, 0, none⟩)), (4, .int .i64 (beN (List.take k (((l.drop at_).take ((at_ + s) - at_)).reverse)) : Int)), (5, .pointer (some ⟨w2.heap.size, 0, none⟩)), (6, .slice A69 (((l.drop at_).take ((at_ + s) - at_)).reverse.length) c69), (7, .int .i64 (beN (List.take k (((l.drop at_).take ((at_ + s) - at_)).reverse)) : Int)), (8, .int .i64 (k : Int)), (11, .bool (decide (e ≠ 0))), (15, .bool (!(wide (s : Int)))), (25, .bool (decide ((s : Int) > ((l.length : Int) - (at_ : Int))))), (39, .bool (!big)), (49, .bool (decide ((((((l.drop at_).take ((at_ + s) - at_)).reverse).getD 0 0).toNat : Int) ≥ 128))), (54, .bool (decide ((k : Int) < (s : Int))))]) ?_ (sub_cons rfl (sub_cons rfl (sub_cons rfl (sub_cons rfl (sub_cons rfl (sub_cons rfl (sub_cons rfl (sub_cons rfl (sub_cons rfl (sub_cons rfl (sub_cons rfl (sub_cons rfl (sub_cons rfl (sub_cons rfl sub_nil))))))))))))))) a_ ha_
                refine t_ret ?_
                refine fun a_ ha_ => hQ0 _ _ _ (body_ret (rs := [.tmp 4, .cell 5 55]) (vs := [.int .i64 (beN (List.take k (((l.drop at_).take ((at_ + s) - at_)).reverse)) : Int), .agg #[.slice A l.length c, .int .i64 ((at_ + s : Nat) : Int), .bool big, .int .i64 e]]) ha_ (by kernel_rfl) ⟨_, _, rfl, rfl, ⟨_, _, _, rfl, rfl, (load_whole (cs := [.slice A l.length c, .int .i64 ((at_ + s : Nat) : Int), .bool big, .int .i64 e]) (by kernel_rfl) (obj_range hc124)), rfl⟩⟩ ?_)
                refine ⟨_, at_ + s, e, rfl, .inr (.inr ⟨by omega, _, ⟨hwd_, by omega, rfl, ?_⟩, ?_, rfl, by omega⟩), ((((((((Chg.refl (fun k_ => False) w).step hb4 (fun k_ hk_ (h_ : False) => h_.elim)).step hb9 (fun k_ hk_ (h_ : False) => h_.elim)).step hchg69 (fun k_ hk_ (h_ : False) => h_.elim)).step hchgl (fun k_ hk_ (h_ : False) => h_.elim)).step hb111 (fun k_ hk_ (h_ : k_ = w.heap.size) => (show False by omega))).step hb116 (fun k_ hk_ (h_ : False) => h_.elim)).step hb122 (fun k_ hk_ (h_ : k_ = w2.heap.size) => (show False by omega)))⟩
                · rw [Int.toNat_natCast, ← hwin_]; exact hmx_
                · rw [Int.toNat_natCast, ← hwin_, hall_]
          · have hk77 := decide_eq_false hc76
            refine tl_skipU ⟨44, _, rfl, rfl, (by rw [hk77]; rfl)⟩ (by decide) ?_
            refine tl_skipU ⟨44, _, rfl, rfl, (by rw [hk77]; rfl)⟩ (by decide) ?_
            refine tl_skipU ⟨44, _, rfl, rfl, (by rw [hk77]; rfl)⟩ (by decide) ?_
            refine tl_skipU ⟨44, _, rfl, rfl, (by rw [hk77]; rfl)⟩ (by decide) ?_
            refine tl_val (w' := w70) rfl (do_pick_f rfl hk77 rfl) (by decide) ?_
            refine tl_end ?_
            refine fun a_ ha_ => hK75 _ _ _ (T.sub (L' := [(0, .agg #[.slice A l.length c, .int .i64 (at_ : Int), .bool big, .int .i64 e]), (1, .int .i64 (s : Int)), (2, .pointer (some ⟨w.heap.size, 0, none⟩)), (4, .int .i64 0), (5, .pointer (some ⟨w2.heap.size, 0, none⟩)), (6, .slice A69 (((l.drop at_).take ((at_ + s) - at_)).reverse.length) c69), (11, .bool (decide (e ≠ 0))), (15, .bool (!(wide (s : Int)))), (25, .bool (decide ((s : Int) > ((l.length : Int) - (at_ : Int))))), (39, .bool (!big)), (49, .bool false)]) ?_ (sub_cons rfl (sub_cons rfl (sub_cons rfl (sub_cons rfl (sub_cons rfl (sub_cons rfl (sub_cons rfl (sub_cons rfl (sub_cons rfl (sub_cons rfl (sub_cons rfl sub_nil)))))))))))) a_ ha_
            refine t_no rfl rfl ?_
            refine t_skip ?_
            refine fun a_ ha_ => hK74 _ _ _ (T.sub (L' := [(0, .agg #[.slice A l.length c, .int .i64 (at_ : Int), .bool big, .int .i64 e]), (1, .int .i64 (s : Int)), (2, .pointer (some ⟨w.heap.size, 0, none⟩)), (4, .int .i64 0), (5, .pointer (some ⟨w2.heap.size, 0, none⟩)), (6, .slice A69 (((l.drop at_).take ((at_ + s) - at_)).reverse.length) c69), (11, .bool (decide (e ≠ 0))), (15, .bool (!(wide (s : Int)))), (25, .bool (decide ((s : Int) > ((l.length : Int) - (at_ : Int))))), (39, .bool (!big)), (49, .bool false)]) ?_ (sub_cons rfl (sub_cons rfl (sub_cons rfl (sub_cons rfl (sub_cons rfl (sub_cons rfl (sub_cons rfl (sub_cons rfl (sub_cons rfl (sub_cons rfl (sub_cons rfl sub_nil)))))))))))) a_ ha_
            refine t_seq (fun K125 hK125 => ?_)
            refine t_region ?_
            refine tl_val (w' := w70) rfl (do_assign rfl) (by decide) ?_
            refine tl_end ?_
            refine fun a_ ha_ => hK125 _ _ _ (T.sub (L' := [(0, .agg #[.slice A l.length c, .int .i64 (at_ : Int), .bool big, .int .i64 e]), (1, .int .i64 (s : Int)), (2, .pointer (some ⟨w.heap.size, 0, none⟩)), (4, .int .i64 0), (5, .pointer (some ⟨w2.heap.size, 0, none⟩)), (6, .slice A69 (((l.drop at_).take ((at_ + s) - at_)).reverse.length) c69), (7, .int .i64 0), (11, .bool (decide (e ≠ 0))), (15, .bool (!(wide (s : Int)))), (25, .bool (decide ((s : Int) > ((l.length : Int) - (at_ : Int))))), (39, .bool (!big)), (49, .bool false)]) ?_ (sub_cons rfl (sub_cons rfl (sub_cons rfl (sub_cons rfl (sub_cons rfl (sub_cons rfl (sub_cons rfl (sub_cons rfl (sub_cons rfl (sub_cons rfl (sub_cons rfl (sub_cons rfl sub_nil))))))))))))) a_ ha_
            refine t_seq (fun K126 hK126 => ?_)
            refine t_seq (fun K127 hK127 => ?_)
            refine t_region ?_
            refine tl_val (w' := w70) rfl (do_assign rfl) (by decide) ?_
            refine tl_end ?_
            refine fun a_ ha_ => hK127 _ _ _ (T.sub (L' := [(0, .agg #[.slice A l.length c, .int .i64 (at_ : Int), .bool big, .int .i64 e]), (1, .int .i64 (s : Int)), (2, .pointer (some ⟨w.heap.size, 0, none⟩)), (4, .int .i64 0), (5, .pointer (some ⟨w2.heap.size, 0, none⟩)), (6, .slice A69 (((l.drop at_).take ((at_ + s) - at_)).reverse.length) c69), (7, .int .i64 0), (8, .int .i64 0), (11, .bool (decide (e ≠ 0))), (15, .bool (!(wide (s : Int)))), (25, .bool (decide ((s : Int) > ((l.length : Int) - (at_ : Int))))), (39, .bool (!big)), (49, .bool false)]) ?_ (sub_cons rfl (sub_cons rfl (sub_cons rfl (sub_cons rfl (sub_cons rfl (sub_cons rfl (sub_cons rfl (sub_cons rfl (sub_cons rfl (sub_cons rfl (sub_cons rfl (sub_cons rfl (sub_cons rfl sub_nil)))))))))))))) a_ ha_
            refine t_block ?_
            have hmx_ : beN (((l.drop at_).take ((at_ + s) - at_)).reverse) ≤ 9223372036854775807 := by omega
            have hz0_ : beN (List.take 0 (((l.drop at_).take ((at_ + s) - at_)).reverse)) = 0 := rfl
            refine t_loop (G := Nat) (fun k => [(0, .agg #[.slice A l.length c, .int .i64 (at_ : Int), .bool big, .int .i64 e]), (1, .int .i64 (s : Int)), (2, .pointer (some ⟨w.heap.size, 0, none⟩)), (4, .int .i64 0), (5, .pointer (some ⟨w2.heap.size, 0, none⟩)), (6, .slice A69 (((l.drop at_).take ((at_ + s) - at_)).reverse.length) c69), (7, .int .i64 (beN (List.take k (((l.drop at_).take ((at_ + s) - at_)).reverse)) : Int)), (8, .int .i64 (k : Int)), (11, .bool (decide (e ≠ 0))), (15, .bool (!(wide (s : Int)))), (25, .bool (decide ((s : Int) > ((l.length : Int) - (at_ : Int))))), (39, .bool (!big)), (49, .bool false)]) (fun k WW_ => k ≤ s ∧ Chg (fun _ => False) w70 WW_) (fun k => s - k) 0 (⟨Nat.zero_le _, Chg.refl _ _⟩) (sub_cons rfl (sub_cons rfl (sub_cons rfl (sub_cons rfl (sub_cons rfl (sub_cons rfl (sub_cons (as_int (a := 0) rfl (by omega)) (sub_cons (as_int (a := 0) rfl (by omega)) (sub_cons rfl (sub_cons rfl (sub_cons rfl (sub_cons rfl (sub_cons rfl sub_nil))))))))))))) ?_
            rintro k w128 K129 hI130 hK131
            obtain ⟨hk, hchgl⟩ := hI130
            refine T.sub (L' := [(0, .agg #[.slice A l.length c, .int .i64 (at_ : Int), .bool big, .int .i64 e]), (1, .int .i64 (s : Int)), (2, .pointer (some ⟨w.heap.size, 0, none⟩)), (4, .int .i64 0), (5, .pointer (some ⟨w2.heap.size, 0, none⟩)), (6, .slice A69 (((l.drop at_).take ((at_ + s) - at_)).reverse.length) c69), (7, .int .i64 (beN (List.take k (((l.drop at_).take ((at_ + s) - at_)).reverse)) : Int)), (8, .int .i64 (k : Int)), (11, .bool (decide (e ≠ 0))), (15, .bool (!(wide (s : Int)))), (25, .bool (decide ((s : Int) > ((l.length : Int) - (at_ : Int))))), (39, .bool (!big)), (49, .bool false)]) ?_ (sub_cons rfl (sub_cons rfl (sub_cons rfl (sub_cons rfl (sub_cons rfl (sub_cons rfl (sub_cons rfl (sub_cons rfl (sub_cons rfl (sub_cons rfl (sub_cons rfl (sub_cons rfl (sub_cons rfl sub_nil)))))))))))))
            have hz132 := hchgl.size
            refine t_seq (fun K133 hK133 => ?_)
            refine t_seq (fun K134 hK134 => ?_)
            refine t_region ?_
            refine tl_val (w' := w128) rfl (do_move rfl) (by decide) ?_
            refine tl_val (w' := w128) rfl (do_move rfl) (by decide) ?_
            refine tl_val (w' := w128) rfl (do_lss rfl rfl) (by decide) ?_
            refine tl_end ?_
            refine fun a_ ha_ => hK134 _ _ _ (T.sub (L' := [(0, .agg #[.slice A l.length c, .int .i64 (at_ : Int), .bool big, .int .i64 e]), (1, .int .i64 (s : Int)), (2, .pointer (some ⟨w.heap.size, 0, none⟩)), (4, .int .i64 0), (5, .pointer (some ⟨w2.heap.size, 0, none⟩)), (6, .slice A69 (((l.drop at_).take ((at_ + s) - at_)).reverse.length) c69), (7, .int .i64 (beN (List.take k (((l.drop at_).take ((at_ + s) - at_)).reverse)) : Int)), (8, .int .i64 (k : Int)), (11, .bool (decide (e ≠ 0))), (15, .bool (!(wide (s : Int)))), (25, .bool (decide ((s : Int) > ((l.length : Int) - (at_ : Int))))), (39, .bool (!big)), (49, .bool false), (54, .bool (decide ((k : Int) < (s : Int))))]) ?_ (sub_cons rfl (sub_cons rfl (sub_cons rfl (sub_cons rfl (sub_cons rfl (sub_cons rfl (sub_cons rfl (sub_cons rfl (sub_cons rfl (sub_cons rfl (sub_cons rfl (sub_cons rfl (sub_cons rfl (sub_cons rfl sub_nil))))))))))))))) a_ ha_
            by_cases hc135 : (k : Int) < (s : Int)
            · have hk136 := decide_eq_true hc135
              obtain ⟨hb1_, hb2_⟩ := beN_next (((l.drop at_).take ((at_ + s) - at_)).reverse) k (by omega)
              refine t_yes rfl hk136 ?_
              refine t_skip ?_
              refine fun a_ ha_ => hK133 _ _ _ (T.sub (L' := [(0, .agg #[.slice A l.length c, .int .i64 (at_ : Int), .bool big, .int .i64 e]), (1, .int .i64 (s : Int)), (2, .pointer (some ⟨w.heap.size, 0, none⟩)), (4, .int .i64 0), (5, .pointer (some ⟨w2.heap.size, 0, none⟩)), (6, .slice A69 (((l.drop at_).take ((at_ + s) - at_)).reverse.length) c69), (7, .int .i64 (beN (List.take k (((l.drop at_).take ((at_ + s) - at_)).reverse)) : Int)), (8, .int .i64 (k : Int)), (11, .bool (decide (e ≠ 0))), (15, .bool (!(wide (s : Int)))), (25, .bool (decide ((s : Int) > ((l.length : Int) - (at_ : Int))))), (39, .bool (!big)), (49, .bool false), (54, .bool (decide ((k : Int) < (s : Int))))]) ?_ (sub_cons rfl (sub_cons rfl (sub_cons rfl (sub_cons rfl (sub_cons rfl (sub_cons rfl (sub_cons rfl (sub_cons rfl (sub_cons rfl (sub_cons rfl (sub_cons rfl (sub_cons rfl (sub_cons rfl (sub_cons rfl sub_nil))))))))))))))) a_ ha_
              refine t_seq (fun K137 hK137 => ?_)
              refine t_block ?_
              refine t_region ?_
              refine tl_val (w' := w128) rfl (do_move rfl) (by decide) ?_
              refine tl_val (w' := w128) rfl (do_mul (c := (beN (List.take k (((l.drop at_).take ((at_ + s) - at_)).reverse)) : Int) * 256) rfl rfl (wrap_i64 (by omega) (by omega))) (by decide) ?_
              refine tl_val (w' := w128) rfl (do_move rfl) (by decide) ?_
              refine tl_val (w' := w128) rfl (do_move rfl) (by decide) ?_
              have h138 := (Rd.chg hrd69 hrd69 hchgl (fun _ _ x => x))
              refine tl_val (w' := w128) rfl (do_indexAddr rfl rfl (idx_rd' (j := k) h138 (by kernel_rfl) rfl (by omega) _)) (by decide) ?_
              refine tl_val (w' := w128) rfl (do_load_rd rfl (by kernel_rfl) h138 (by omega)) (by decide) ?_
              refine tl_val (w' := w128) rfl (do_convert (v := .int .i64 (((((l.drop at_).take ((at_ + s) - at_)).reverse).getD k 0).toNat : Int)) rfl (conv_int (by kernel_rfl) (wrap_i64 (by omega) (by omega)))) (by decide) ?_
              refine tl_val (w' := w128) rfl (do_add (c := ((beN (List.take k (((l.drop at_).take ((at_ + s) - at_)).reverse)) : Int) * 256) + (((((l.drop at_).take ((at_ + s) - at_)).reverse).getD k 0).toNat : Int)) rfl rfl (wrap_i64 (by omega) (by omega))) (by decide) ?_
              refine tl_val (w' := w128) rfl (do_assign rfl) (by decide) ?_
              refine tl_end ?_
              refine fun a_ ha_ => hK137 _ _ _ (T.sub (L' := [(0, .agg #[.slice A l.length c, .int .i64 (at_ : Int), .bool big, .int .i64 e]), (1, .int .i64 (s : Int)), (2, .pointer (some ⟨w.heap.size, 0, none⟩)), (4, .int .i64 0), (5, .pointer (some ⟨w2.heap.size, 0, none⟩)), (6, .slice A69 (((l.drop at_).take ((at_ + s) - at_)).reverse.length) c69), (7, .int .i64 (((beN (List.take k (((l.drop at_).take ((at_ + s) - at_)).reverse)) : Int) * 256) + (((((l.drop at_).take ((at_ + s) - at_)).reverse).getD k 0).toNat : Int))), (8, .int .i64 (k : Int)), (11, .bool (decide (e ≠ 0))), (15, .bool (!(wide (s : Int)))), (25, .bool (decide ((s : Int) > ((l.length : Int) - (at_ : Int))))), (39, .bool (!big)), (49, .bool false), (54, .bool (decide ((k : Int) < (s : Int))))]) ?_ (sub_cons rfl (sub_cons rfl (sub_cons rfl (sub_cons rfl (sub_cons rfl (sub_cons rfl (sub_cons rfl (sub_cons rfl (sub_cons rfl (sub_cons rfl (sub_cons rfl (sub_cons rfl (sub_cons rfl (sub_cons rfl sub_nil))))))))))))))) a_ ha_
              refine t_region ?_
              refine tl_val (w' := w128) rfl (do_move rfl) (by decide) ?_
              refine tl_val (w' := w128) rfl (do_add (c := (k : Int) + 1) rfl rfl (wrap_i64 (by omega) (by omega))) (by decide) ?_
              refine tl_val (w' := w128) rfl (do_assign rfl) (by decide) ?_
              refine tl_end ?_
              refine fun a_ ha_ => hK131 (k + 1) _ _ (⟨by omega, ((Chg.refl (fun k_ => False) w70).step hchgl (fun k_ hk_ (h_ : False) => h_.elim))⟩) (show s - (k + 1) < s - k by omega) (sub_cons rfl (sub_cons rfl (sub_cons rfl (sub_cons rfl (sub_cons rfl (sub_cons rfl (sub_cons (as_int (a := ((beN (List.take k (((l.drop at_).take ((at_ + s) - at_)).reverse)) : Int) * 256) + (((((l.drop at_).take ((at_ + s) - at_)).reverse).getD k 0).toNat : Int)) rfl (by omega)) (sub_cons (as_int (a := (k : Int) + 1) rfl (by omega)) (sub_cons rfl (sub_cons rfl (sub_cons rfl (sub_cons rfl (sub_cons rfl sub_nil))))))))))))) a_ ha_
            · have hk136 := decide_eq_false hc135
              have hks_ : k = s := by omega
              have hall_ : List.take k (((l.drop at_).take ((at_ + s) - at_)).reverse) = (((l.drop at_).take ((at_ + s) - at_)).reverse) := List.take_of_length_le (by omega)
              refine t_no rfl hk136 ?_
              refine t_exit ?_
              refine fun a_ ha_ => hK126 _ _ _ (T.sub (L' := [(0, .agg #[.slice A l.length c, .int .i64 (at_ : Int), .bool big, .int .i64 e]), (1, .int .i64 (s : Int)), (2, .pointer (some ⟨w.heap.size, 0, none⟩)), (4, .int .i64 0), (5, .pointer (some ⟨w2.heap.size, 0, none⟩)), (6, .slice A69 (((l.drop at_).take ((at_ + s) - at_)).reverse.length) c69), (7, .int .i64 (beN (List.take k (((l.drop at_).take ((at_ + s) - at_)).reverse)) : Int)), (8, .int .i64 (k : Int)), (11, .bool (decide (e ≠ 0))), (15, .bool (!(wide (s : Int)))), (25, .bool (decide ((s : Int) > ((l.length : Int) - (at_ : Int))))), (39, .bool (!big)), (49, .bool false), (54, .bool (decide ((k : Int) < (s : Int))))]) ?_ (sub_cons rfl (sub_cons rfl (sub_cons rfl (sub_cons rfl (sub_cons rfl (sub_cons rfl (sub_cons rfl (sub_cons rfl (sub_cons rfl (sub_cons rfl (sub_cons rfl (sub_cons rfl (sub_cons rfl (sub_cons rfl sub_nil))))))))))))))) a_ ha_
              refine t_seq (fun K139 hK139 => ?_)
              refine t_region ?_
              refine tl_val (w' := w128) rfl (do_fieldAddr (v := .pointer (some ⟨w.heap.size, 1, none⟩)) rfl (by kernel_rfl)) (by decide) ?_
              have h140 := (hchgl.obj (fun x => x) (hchg69.obj (fun x => x) h14))
              refine tl_val (w' := w128) rfl (do_load (v := .int .i64 (at_ : Int)) rfl (by kernel_rfl) (by rw [obj_cell h140]; rfl)) (by decide) ?_
              refine tl_val (w' := w128) rfl (do_move rfl) (by decide) ?_
              refine tl_val (w' := w128) rfl (do_add (c := ((at_ + s : Nat) : Int)) rfl rfl (by rw [wrap_i64 (by omega) (by omega)]; omega)) (by decide) ?_
              refine tl_val (w' := w128) rfl (do_fieldAddr (v := .pointer (some ⟨w.heap.size, 1, none⟩)) rfl (by kernel_rfl)) (by decide) ?_
              refine tl_unit rfl (do_store (u := .int .i64 (at_ : Int)) rfl rfl rfl (by kernel_rfl) (by rw [obj_cell h140]; rfl) (obj_frozen h140 _)) ?_
              refine tl_gen (fun w141 e142 => ?_)
              have hb143 : Chg (fun k => k = w.heap.size) w128 w141 := e142 ▸ Chg.setCell _ _ _ _
              have hz144 : w141.heap.size = w128.heap.size := by rw [e142]; simp
              have hc145 : w141.heap[w.heap.size]? = some (.cells #[.slice A l.length c, .int .i64 ((at_ + s : Nat) : Int), .bool big, .int .i64 e] 55 (0, 0)) := by rw [e142]; exact obj_setCell h140
              clear e142
              refine tl_end ?_
              refine fun a_ ha_ => hK139 _ _ _ (T.sub (L' := [(0, .agg #[.slice A l.length c, .int .i64 (at_ : Int), .bool big, .int .i64 e]), (1, .int .i64 (s : Int)), (2, .pointer (some ⟨w.heap.size, 0, none⟩)), (4, .int .i64 0), (5, .pointer (some ⟨w2.heap.size, 0, none⟩)), (6, .slice A69 (((l.drop at_).take ((at_ + s) - at_)).reverse.length) c69), (7, .int .i64 (beN (List.take k (((l.drop at_).take ((at_ + s) - at_)).reverse)) : Int)), (8, .int .i64 (k : Int)), (11, .bool (decide (e ≠ 0))), (15, .bool (!(wide (s : Int)))), (25, .bool (decide ((s : Int) > ((l.length : Int) - (at_ : Int))))), (39, .bool (!big)), (49, .bool false), (54, .bool (decide ((k : Int) < (s : Int))))]) ?_ (sub_cons rfl (sub_cons rfl (sub_cons rfl (sub_cons rfl (sub_cons rfl (sub_cons rfl (sub_cons rfl (sub_cons rfl (sub_cons rfl (sub_cons rfl (sub_cons rfl (sub_cons rfl (sub_cons rfl (sub_cons rfl sub_nil))))))))))))))) a_ ha_
              refine t_seq (fun K146 hK146 => ?_)
              refine t_drawnC (fun _ => False) 3 (.take 0 { dst := (some 70), op := (Go.Op.move (Go.Operand.tmp 7)), type := 3, pos := "ref.go:77", after := #[], guard := none } (.take 1 { dst := (some 71), op := (Go.Op.load 55 (Go.Operand.tmp 2)), type := 55, pos := "ref.go:77", after := #[{ on := 2, ground := (Go.Ground.gcOnly Go.Departure.lateStores) }], guard := none } (.take 2 { dst := (some 4), op := (Go.Op.assign (Go.Operand.tmp 70)), type := 3, pos := "ref.go:77", after := #[{ on := 0, ground := Go.Ground.data }, { on := 0, ground := Go.Ground.phase }, { on := 1, ground := (Go.Ground.textOnly Go.Departure.lateStores) }], guard := none } (.one 3 { dst := none, op := (Go.Op.store 55 (Go.Operand.tmp 5) (Go.Operand.tmp 71)), type := 0, pos := "ref.go:77", after := #[{ on := 1, ground := Go.Ground.data }, { on := 2, ground := Go.Ground.chain }, { on := 0, ground := Go.Ground.phase }, { on := 1, ground := Go.Ground.phase }, { on := 2, ground := Go.Ground.phase }], guard := none } .done)))) rfl (by kernel_rfl) (by repeat (first | exact hB0 | apply blind_then | apply blind_in)) (by kernel_rfl) (by kernel_rfl) rfl (fun w147 hb148 hz149 => ?_)
              refine td_takeC rfl (by decide) (fun w_ h_ => (do_move rfl)) ?_
              have h150 := (hb148.obj (fun x => x) hc145)
              refine td_takeC rfl (by decide) (fun w_ h_ => (do_loads (cs := [.slice A l.length c, .int .i64 ((at_ + s : Nat) : Int), .bool big, .int .i64 e]) rfl (by kernel_rfl) (obj_range (h_.obj (fun x => x) h150)))) ?_
              refine td_takeC rfl (by decide) (fun w_ h_ => (do_assign rfl)) ?_
              refine td_one ?_
              have h151 := (hb148.obj (fun x => x) (hb143.obj (show ¬ w2.heap.size = w.heap.size by omega) (hchgl.obj (fun x => x) (hchg69.obj (fun x => x) hc11))))
              refine td_lastC rfl (do_storesB (cs := [.slice A l.length c, .int .i64 ((at_ + s : Nat) : Int), .bool big, .int .i64 e]) rfl rfl (by rfl) (by kernel_rfl) h151 (Nat.le_of_ble_eq_true rfl)) ?_
              refine tx_gen (fun w152 e153 => ?_)
              have hb154 : Chg (fun k => k = w2.heap.size) w147 w152 := e153 ▸ Chg.setCells _ _ 0 [.slice A l.length c, .int .i64 ((at_ + s : Nat) : Int), .bool big, .int .i64 e]
              have hz155 : w152.heap.size = w147.heap.size := by rw [e153]; exact sc_size _ _ _ _
              have hc156 : w152.heap[w2.heap.size]? = some (.cells #[.slice A l.length c, .int .i64 ((at_ + s : Nat) : Int), .bool big, .int .i64 e] 55 (0, 0)) := by rw [e153]; exact obj_setCells [.slice A l.length c, .int .i64 ((at_ + s : Nat) : Int), .bool big, .int .i64 e] 0 h151
              clear e153
              refine fun a_ ha_ => hK146 _ _ _ (T.sub (L' := [(0, .agg #[.slice A l.length c, .int .i64 (at_ : Int), .bool big, .int .i64 e]), (1, .int .i64 (s : Int)), (2, .pointer (some ⟨w.heap.size, 0, none⟩)), (4, .int .i64 (beN (List.take k (((l.drop at_).take ((at_ + s) - at_)).reverse)) : Int)), (5, .pointer (some ⟨w2.heap.size, 0, none⟩)), (6, .slice A69 (((l.drop at_).take ((at_ + s) - at_)).reverse.length) c69), (7, .int .i64 (beN (List.take k (((l.drop at_).take ((at_ + s) - at_)).reverse)) : Int)), (8, .int .i64 (k : Int)), (11, .bool (decide (e ≠ 0))), (15, .bool (!(wide (s : Int)))), (25, .bool (decide ((s : Int) > ((l.length : Int) - (at_ : Int))))), (39, .bool (!big)), (49, .bool false), (54, .bool (decide ((k : Int) < (s : Int))))]) ?_ (sub_cons rfl (sub_cons rfl (sub_cons rfl (sub_cons rfl (sub_cons rfl (sub_cons rfl (sub_cons rfl (sub_cons rfl (sub_cons rfl (sub_cons rfl (sub_cons rfl (sub_cons rfl (sub_cons rfl (sub_cons rfl sub_nil))))))))))))))) a_ ha_
              refine t_ret ?_
              refine fun a_ ha_ => hQ0 _ _ _ (body_ret (rs := [.tmp 4, .cell 5 55]) (vs := [.int .i64 (beN (List.take k (((l.drop at_).take ((at_ + s) - at_)).reverse)) : Int), .agg #[.slice A l.length c, .int .i64 ((at_ + s : Nat) : Int), .bool big, .int .i64 e]]) ha_ (by kernel_rfl) ⟨_, _, rfl, rfl, ⟨_, _, _, rfl, rfl, (load_whole (cs := [.slice A l.length c, .int .i64 ((at_ + s : Nat) : Int), .bool big, .int .i64 e]) (by kernel_rfl) (obj_range hc156)), rfl⟩⟩ ?_)
              refine ⟨_, at_ + s, e, rfl, .inr (.inr ⟨by omega, _, ⟨hwd_, by omega, rfl, ?_⟩, ?_, rfl, by omega⟩), ((((((((Chg.refl (fun k_ => False) w).step hb4 (fun k_ hk_ (h_ : False) => h_.elim)).step hb9 (fun k_ hk_ (h_ : False) => h_.elim)).step hchg69 (fun k_ hk_ (h_ : False) => h_.elim)).step hchgl (fun k_ hk_ (h_ : False) => h_.elim)).step hb143 (fun k_ hk_ (h_ : k_ = w.heap.size) => (show False by omega))).step hb148 (fun k_ hk_ (h_ : False) => h_.elim)).step hb154 (fun k_ hk_ (h_ : k_ = w2.heap.size) => (show False by omega)))⟩
              · rw [Int.toNat_natCast, ← hwin_]; exact hmx_
              · rw [Int.toNat_natCast, ← hwin_, hall_]
        · have hk68 := Bool.eq_false_iff.2 hc67
          have hbg_ : big = true := by simpa using hc67
          refine t_no rfl hk68 ?_
          refine t_skip ?_
          refine fun a_ ha_ => hK65 _ _ _ (T.sub (L' := [(0, .agg #[.slice A l.length c, .int .i64 (at_ : Int), .bool big, .int .i64 e]), (1, .int .i64 (s : Int)), (2, .pointer (some ⟨w.heap.size, 0, none⟩)), (4, .int .i64 0), (5, .pointer (some ⟨w2.heap.size, 0, none⟩)), (6, .slice (sub A c at_ 1) (((l.drop at_).take ((at_ + s) - at_)).length) (c - at_)), (11, .bool (decide (e ≠ 0))), (15, .bool (!(wide (s : Int)))), (25, .bool (decide ((s : Int) > ((l.length : Int) - (at_ : Int))))), (39, .bool (!big))]) ?_ (sub_cons rfl (sub_cons rfl (sub_cons rfl (sub_cons rfl (sub_cons rfl (sub_cons rfl (sub_cons rfl (sub_cons rfl (sub_cons rfl (sub_cons rfl sub_nil))))))))))) a_ ha_
          refine t_seq (fun K157 hK157 => ?_)
          refine t_seq (fun K158 hK158 => ?_)
          refine t_region ?_
          refine tl_val (w' := w7) rfl (do_move rfl) (by decide) ?_
          have hwin_ : (l.drop at_).take ((at_ + s) - at_) = win l at_ s big := by rw [hbg_]; exact win_eq (big := true)
          have hwl_ : ((l.drop at_).take ((at_ + s) - at_)).length = s := by rw [hwin_]; exact win_length _ _ _ _ (by omega)
          have htop_ := beN_top ((l.drop at_).take ((at_ + s) - at_)) (by omega)
          refine tl_val (w' := w7) rfl (do_eql rfl rfl) (by decide) ?_
          refine tl_val (w' := w7) rfl (do_move rfl) (by decide) ?_
          by_cases hc159 : (s : Int) = 8
          · have hk160 := decide_eq_true hc159
            refine tl_val (w' := w7) ⟨44, _, rfl, rfl, (by rw [hk160]; rfl)⟩ (do_move rfl) (by decide) ?_
            refine tl_val (w' := w7) ⟨44, _, rfl, rfl, (by rw [hk160]; rfl)⟩ (do_indexAddr rfl rfl (idx_rd' (j := 0) (hs64 w7).2 (by kernel_rfl) rfl (by omega) _)) (by decide) ?_
            refine tl_val (w' := w7) ⟨44, _, rfl, rfl, (by rw [hk160]; rfl)⟩ (do_load_rd rfl (by kernel_rfl) (hs64 w7).2 (by omega)) (by decide) ?_
            refine tl_val (w' := w7) ⟨44, _, rfl, rfl, (by rw [hk160]; rfl)⟩ (do_geq rfl rfl) (by decide) ?_
            refine tl_val (w' := w7) rfl (do_pick_t rfl hk160 rfl) (by decide) ?_
            refine tl_end ?_
            refine fun a_ ha_ => hK158 _ _ _ (T.sub (L' := [(0, .agg #[.slice A l.length c, .int .i64 (at_ : Int), .bool big, .int .i64 e]), (1, .int .i64 (s : Int)), (2, .pointer (some ⟨w.heap.size, 0, none⟩)), (4, .int .i64 0), (5, .pointer (some ⟨w2.heap.size, 0, none⟩)), (6, .slice (sub A c at_ 1) (((l.drop at_).take ((at_ + s) - at_)).length) (c - at_)), (11, .bool (decide (e ≠ 0))), (15, .bool (!(wide (s : Int)))), (25, .bool (decide ((s : Int) > ((l.length : Int) - (at_ : Int))))), (39, .bool (!big)), (49, .bool (decide (((((l.drop at_).take ((at_ + s) - at_)).getD 0 0).toNat : Int) ≥ 128)))]) ?_ (sub_cons rfl (sub_cons rfl (sub_cons rfl (sub_cons rfl (sub_cons rfl (sub_cons rfl (sub_cons rfl (sub_cons rfl (sub_cons rfl (sub_cons rfl (sub_cons rfl sub_nil)))))))))))) a_ ha_
            by_cases hc161 : ((((l.drop at_).take ((at_ + s) - at_)).getD 0 0).toNat : Int) ≥ 128
            · have hk162 := decide_eq_true hc161
              have hno_ : NumNo l at_ s big 2 := num_no2 hwd_ (by omega) (by rw [← hwin_]; omega)
              refine t_yes rfl hk162 ?_
              refine t_seq (fun K163 hK163 => ?_)
              refine t_region ?_
              refine tl_val (w' := w7) rfl (do_loads (cs := [.slice A l.length c, .int .i64 (at_ : Int), .bool big, .int .i64 e]) rfl (by kernel_rfl) (obj_range h14)) (by decide) ?_
              refine tl_call rfl (en_call (f := 49) (by kernel_rfl) rfl) rfl (rfail_e _ _ _ _ _ _ 2 _) (fun v167 w165 hr166 => ?_) (fun _ _ h => h.elim) (fun _ h => h)
              obtain ⟨rfl, hchg164⟩ := hr166
              have hz168 := hchg164.size
              refine tl_val (w' := w165) rfl (do_assign rfl) (by decide) ?_
              have h169 := (hchg164.obj (fun x => x) hc11)
              refine tl_unit rfl (do_storesB (cs := [.slice A l.length c, .int .i64 (at_ : Int), .bool big, .int .i64 2]) rfl rfl (by rfl) (by kernel_rfl) h169 (Nat.le_of_ble_eq_true rfl)) ?_
              refine tl_gen (fun w170 e171 => ?_)
              have hb172 : Chg (fun k => k = w2.heap.size) w165 w170 := e171 ▸ Chg.setCells _ _ 0 [.slice A l.length c, .int .i64 (at_ : Int), .bool big, .int .i64 2]
              have hz173 : w170.heap.size = w165.heap.size := by rw [e171]; exact sc_size _ _ _ _
              have hc174 : w170.heap[w2.heap.size]? = some (.cells #[.slice A l.length c, .int .i64 (at_ : Int), .bool big, .int .i64 2] 55 (0, 0)) := by rw [e171]; exact obj_setCells [.slice A l.length c, .int .i64 (at_ : Int), .bool big, .int .i64 2] 0 h169
              clear e171
              refine tl_end ?_
              refine fun a_ ha_ => hK163 _ _ _ (T.sub (L' := [(0, .agg #[.slice A l.length c, .int .i64 (at_ : Int), .bool big, .int .i64 e]), (1, .int .i64 (s : Int)), (2, .pointer (some ⟨w.heap.size, 0, none⟩)), (4, .int .i64 0), (5, .pointer (some ⟨w2.heap.size, 0, none⟩)), (6, .slice (sub A c at_ 1) (((l.drop at_).take ((at_ + s) - at_)).length) (c - at_)), (11, .bool (decide (e ≠ 0))), (15, .bool (!(wide (s : Int)))), (25, .bool (decide ((s : Int) > ((l.length : Int) - (at_ : Int))))), (39, .bool (!big)), (49, .bool (decide (((((l.drop at_).take ((at_ + s) - at_)).getD 0 0).toNat : Int) ≥ 128)))]) ?_ (sub_cons rfl (sub_cons rfl (sub_cons rfl (sub_cons rfl (sub_cons rfl (sub_cons rfl (sub_cons rfl (sub_cons rfl (sub_cons rfl (sub_cons rfl (sub_cons rfl sub_nil)))))))))))) a_ ha_
              refine t_ret ?_
              refine fun a_ ha_ => hQ0 _ _ _ (body_ret (rs := [.tmp 4, .cell 5 55]) (vs := [.int .i64 0, .agg #[.slice A l.length c, .int .i64 (at_ : Int), .bool big, .int .i64 2]]) ha_ (by kernel_rfl) ⟨_, _, rfl, rfl, ⟨_, _, _, rfl, rfl, (load_whole (cs := [.slice A l.length c, .int .i64 (at_ : Int), .bool big, .int .i64 2]) (by kernel_rfl) (obj_range hc174)), rfl⟩⟩ ?_)
              exact ⟨_, at_, _, rfl, .inr (.inl ⟨by omega, 2, hno_, rfl, rfl, rfl⟩), (((((Chg.refl (fun k_ => False) w).step hb4 (fun k_ hk_ (h_ : False) => h_.elim)).step hb9 (fun k_ hk_ (h_ : False) => h_.elim)).step hchg164 (fun k_ hk_ (h_ : False) => h_.elim)).step hb172 (fun k_ hk_ (h_ : k_ = w2.heap.size) => (show False by omega)))⟩
            · have hk162 := decide_eq_false hc161
              refine t_no rfl hk162 ?_
              refine t_skip ?_
              refine fun a_ ha_ => hK157 _ _ _ (T.sub (L' := [(0, .agg #[.slice A l.length c, .int .i64 (at_ : Int), .bool big, .int .i64 e]), (1, .int .i64 (s : Int)), (2, .pointer (some ⟨w.heap.size, 0, none⟩)), (4, .int .i64 0), (5, .pointer (some ⟨w2.heap.size, 0, none⟩)), (6, .slice (sub A c at_ 1) (((l.drop at_).take ((at_ + s) - at_)).length) (c - at_)), (11, .bool (decide (e ≠ 0))), (15, .bool (!(wide (s : Int)))), (25, .bool (decide ((s : Int) > ((l.length : Int) - (at_ : Int))))), (39, .bool (!big)), (49, .bool (decide (((((l.drop at_).take ((at_ + s) - at_)).getD 0 0).toNat : Int) ≥ 128)))]) ?_ (sub_cons rfl (sub_cons rfl (sub_cons rfl (sub_cons rfl (sub_cons rfl (sub_cons rfl (sub_cons rfl (sub_cons rfl (sub_cons rfl (sub_cons rfl (sub_cons rfl sub_nil)))))))))))) a_ ha_
              refine t_seq (fun K175 hK175 => ?_)
              refine t_region ?_
              refine tl_val (w' := w7) rfl (do_assign rfl) (by decide) ?_
              refine tl_end ?_
              refine fun a_ ha_ => hK175 _ _ _ (T.sub (L' := [(0, .agg #[.slice A l.length c, .int .i64 (at_ : Int), .bool big, .int .i64 e]), (1, .int .i64 (s : Int)), (2, .pointer (some ⟨w.heap.size, 0, none⟩)), (4, .int .i64 0), (5, .pointer (some ⟨w2.heap.size, 0, none⟩)), (6, .slice (sub A c at_ 1) (((l.drop at_).take ((at_ + s) - at_)).length) (c - at_)), (7, .int .i64 0), (11, .bool (decide (e ≠ 0))), (15, .bool (!(wide (s : Int)))), (25, .bool (decide ((s : Int) > ((l.length : Int) - (at_ : Int))))), (39, .bool (!big)), (49, .bool (decide (((((l.drop at_).take ((at_ + s) - at_)).getD 0 0).toNat : Int) ≥ 128)))]) ?_ (sub_cons rfl (sub_cons rfl (sub_cons rfl (sub_cons rfl (sub_cons rfl (sub_cons rfl (sub_cons rfl (sub_cons rfl (sub_cons rfl (sub_cons rfl (sub_cons rfl (sub_cons rfl sub_nil))))))))))))) a_ ha_
              refine t_seq (fun K176 hK176 => ?_)
              refine t_seq (fun K177 hK177 => ?_)
              refine t_region ?_
              refine tl_val (w' := w7) rfl (do_assign rfl) (by decide) ?_
              refine tl_end ?_
              refine fun a_ ha_ => hK177 _ _ _ (T.sub (L' := [(0, .agg #[.slice A l.length c, .int .i64 (at_ : Int), .bool big, .int .i64 e]), (1, .int .i64 (s : Int)), (2, .pointer (some ⟨w.heap.size, 0, none⟩)), (4, .int .i64 0), (5, .pointer (some ⟨w2.heap.size, 0, none⟩)), (6, .slice (sub A c at_ 1) (((l.drop at_).take ((at_ + s) - at_)).length) (c - at_)), (7, .int .i64 0), (8, .int .i64 0), (11, .bool (decide (e ≠ 0))), (15, .bool (!(wide (s : Int)))), (25, .bool (decide ((s : Int) > ((l.length : Int) - (at_ : Int))))), (39, .bool (!big)), (49, .bool (decide (((((l.drop at_).take ((at_ + s) - at_)).getD 0 0).toNat : Int) ≥ 128)))]) ?_ (sub_cons rfl (sub_cons rfl (sub_cons rfl (sub_cons rfl (sub_cons rfl (sub_cons rfl (sub_cons rfl (sub_cons rfl (sub_cons rfl (sub_cons rfl (sub_cons rfl (sub_cons rfl (sub_cons rfl sub_nil)))))))))))))) a_ ha_
              refine t_block ?_
              have hmx_ : beN ((l.drop at_).take ((at_ + s) - at_)) ≤ 9223372036854775807 := by omega
              have hz0_ : beN (List.take 0 ((l.drop at_).take ((at_ + s) - at_))) = 0 := rfl
              refine t_loop (G := Nat) (fun k => [(0, .agg #[.slice A l.length c, .int .i64 (at_ : Int), .bool big, .int .i64 e]), (1, .int .i64 (s : Int)), (2, .pointer (some ⟨w.heap.size, 0, none⟩)), (4, .int .i64 0), (5, .pointer (some ⟨w2.heap.size, 0, none⟩)), (6, .slice (sub A c at_ 1) (((l.drop at_).take ((at_ + s) - at_)).length) (c - at_)), (7, .int .i64 (beN (List.take k ((l.drop at_).take ((at_ + s) - at_))) : Int)), (8, .int .i64 (k : Int)), (11, .bool (decide (e ≠ 0))), (15, .bool (!(wide (s : Int)))), (25, .bool (decide ((s : Int) > ((l.length : Int) - (at_ : Int))))), (39, .bool (!big)), (49, .bool (decide (((((l.drop at_).take ((at_ + s) - at_)).getD 0 0).toNat : Int) ≥ 128)))]) (fun k WW_ => k ≤ s ∧ Chg (fun _ => False) w7 WW_) (fun k => s - k) 0 (⟨Nat.zero_le _, Chg.refl _ _⟩) (sub_cons rfl (sub_cons rfl (sub_cons rfl (sub_cons rfl (sub_cons rfl (sub_cons rfl (sub_cons (as_int (a := 0) rfl (by omega)) (sub_cons (as_int (a := 0) rfl (by omega)) (sub_cons rfl (sub_cons rfl (sub_cons rfl (sub_cons rfl (sub_cons rfl sub_nil))))))))))))) ?_
              rintro k w178 K179 hI180 hK181
              obtain ⟨hk, hchgl⟩ := hI180
              refine T.sub (L' := [(0, .agg #[.slice A l.length c, .int .i64 (at_ : Int), .bool big, .int .i64 e]), (1, .int .i64 (s : Int)), (2, .pointer (some ⟨w.heap.size, 0, none⟩)), (4, .int .i64 0), (5, .pointer (some ⟨w2.heap.size, 0, none⟩)), (6, .slice (sub A c at_ 1) (((l.drop at_).take ((at_ + s) - at_)).length) (c - at_)), (7, .int .i64 (beN (List.take k ((l.drop at_).take ((at_ + s) - at_))) : Int)), (8, .int .i64 (k : Int)), (11, .bool (decide (e ≠ 0))), (15, .bool (!(wide (s : Int)))), (25, .bool (decide ((s : Int) > ((l.length : Int) - (at_ : Int))))), (39, .bool (!big)), (49, .bool (decide (((((l.drop at_).take ((at_ + s) - at_)).getD 0 0).toNat : Int) ≥ 128)))]) ?_ (sub_cons rfl (sub_cons rfl (sub_cons rfl (sub_cons rfl (sub_cons rfl (sub_cons rfl (sub_cons rfl (sub_cons rfl (sub_cons rfl (sub_cons rfl (sub_cons rfl (sub_cons rfl (sub_cons rfl sub_nil)))))))))))))
              have hz182 := hchgl.size
              refine t_seq (fun K183 hK183 => ?_)
              refine t_seq (fun K184 hK184 => ?_)
              refine t_region ?_
              refine tl_val (w' := w178) rfl (do_move rfl) (by decide) ?_
              refine tl_val (w' := w178) rfl (do_move rfl) (by decide) ?_
              refine tl_val (w' := w178) rfl (do_lss rfl rfl) (by decide) ?_
              refine tl_end ?_
              refine fun a_ ha_ => hK184 _ _ _ (T.sub (L' := [(0, .agg #[.slice A l.length c, .int .i64 (at_ : Int), .bool big, .int .i64 e]), (1, .int .i64 (s : Int)), (2, .pointer (some ⟨w.heap.size, 0, none⟩)), (4, .int .i64 0), (5, .pointer (some ⟨w2.heap.size, 0, none⟩)), (6, .slice (sub A c at_ 1) (((l.drop at_).take ((at_ + s) - at_)).length) (c - at_)), (7, .int .i64 (beN (List.take k ((l.drop at_).take ((at_ + s) - at_))) : Int)), (8, .int .i64 (k : Int)), (11, .bool (decide (e ≠ 0))), (15, .bool (!(wide (s : Int)))), (25, .bool (decide ((s : Int) > ((l.length : Int) - (at_ : Int))))), (39, .bool (!big)), (49, .bool (decide (((((l.drop at_).take ((at_ + s) - at_)).getD 0 0).toNat : Int) ≥ 128))), (54, .bool (decide ((k : Int) < (s : Int))))]) ?_ (sub_cons rfl (sub_cons rfl (sub_cons rfl (sub_cons rfl (sub_cons rfl (sub_cons rfl (sub_cons rfl (sub_cons rfl (sub_cons rfl (sub_cons rfl (sub_cons rfl (sub_cons rfl (sub_cons rfl (sub_cons rfl sub_nil))))))))))))))) a_ ha_
              by_cases hc185 : (k : Int) < (s : Int)
              · have hk186 := decide_eq_true hc185
                obtain ⟨hb1_, hb2_⟩ := beN_next ((l.drop at_).take ((at_ + s) - at_)) k (by omega)
                refine t_yes rfl hk186 ?_
                refine t_skip ?_
                refine fun a_ ha_ => hK183 _ _ _ (T.sub (L' := [(0, .agg #[.slice A l.length c, .int .i64 (at_ : Int), .bool big, .int .i64 e]), (1, .int .i64 (s : Int)), (2, .pointer (some ⟨w.heap.size, 0, none⟩)), (4, .int .i64 0), (5, .pointer (some ⟨w2.heap.size, 0, none⟩)), (6, .slice (sub A c at_ 1) (((l.drop at_).take ((at_ + s) - at_)).length) (c - at_)), (7, .int .i64 (beN (List.take k ((l.drop at_).take ((at_ + s) - at_))) : Int)), (8, .int .i64 (k : Int)), (11, .bool (decide (e ≠ 0))), (15, .bool (!(wide (s : Int)))), (25, .bool (decide ((s : Int) > ((l.length : Int) - (at_ : Int))))), (39, .bool (!big)), (49, .bool (decide (((((l.drop at_).take ((at_ + s) - at_)).getD 0 0).toNat : Int) ≥ 128))), (54, .bool (decide ((k : Int) < (s : Int))))]) ?_ (sub_cons rfl (sub_cons rfl (sub_cons rfl (sub_cons rfl (sub_cons rfl (sub_cons rfl (sub_cons rfl (sub_cons rfl (sub_cons rfl (sub_cons rfl (sub_cons rfl (sub_cons rfl (sub_cons rfl (sub_cons rfl sub_nil))))))))))))))) a_ ha_
                refine t_seq (fun K187 hK187 => ?_)
                refine t_block ?_
                refine t_region ?_
                refine tl_val (w' := w178) rfl (do_move rfl) (by decide) ?_
                refine tl_val (w' := w178) rfl (do_mul (c := (beN (List.take k ((l.drop at_).take ((at_ + s) - at_))) : Int) * 256) rfl rfl (wrap_i64 (by omega) (by omega))) (by decide) ?_
                refine tl_val (w' := w178) rfl (do_move rfl) (by decide) ?_
                refine tl_val (w' := w178) rfl (do_move rfl) (by decide) ?_
                have h188 := (Rd.chg (hs64 w7).2 (hs64 w7).2 hchgl (fun _ _ x => x))
                refine tl_val (w' := w178) rfl (do_indexAddr rfl rfl (idx_rd' (j := k) h188 (by kernel_rfl) rfl (by omega) _)) (by decide) ?_
                refine tl_val (w' := w178) rfl (do_load_rd rfl (by kernel_rfl) h188 (by omega)) (by decide) ?_
                refine tl_val (w' := w178) rfl (do_convert (v := .int .i64 ((((l.drop at_).take ((at_ + s) - at_)).getD k 0).toNat : Int)) rfl (conv_int (by kernel_rfl) (wrap_i64 (by omega) (by omega)))) (by decide) ?_
                refine tl_val (w' := w178) rfl (do_add (c := ((beN (List.take k ((l.drop at_).take ((at_ + s) - at_))) : Int) * 256) + ((((l.drop at_).take ((at_ + s) - at_)).getD k 0).toNat : Int)) rfl rfl (wrap_i64 (by omega) (by omega))) (by decide) ?_
                refine tl_val (w' := w178) rfl (do_assign rfl) (by decide) ?_
                refine tl_end ?_
                refine fun a_ ha_ => hK187 _ _ _ (T.sub (L' := [(0, .agg #[.slice A l.length c, .int .i64 (at_ : Int), .bool big, .int .i64 e]), (1, .int .i64 (s : Int)), (2, .pointer (some ⟨w.heap.size, 0, none⟩)), (4, .int .i64 0), (5, .pointer (some ⟨w2.heap.size, 0, none⟩)), (6, .slice (sub A c at_ 1) (((l.drop at_).take ((at_ + s) - at_)).length) (c - at_)), (7, .int .i64 (((beN (List.take k ((l.drop at_).take ((at_ + s) - at_))) : Int) * 256) + ((((l.drop at_).take ((at_ + s) - at_)).getD k 0).toNat : Int))), (8, .int .i64 (k : Int)), (11, .bool (decide (e ≠ 0))), (15, .bool (!(wide (s : Int)))), (25, .bool (decide ((s : Int) > ((l.length : Int) - (at_ : Int))))), (39, .bool (!big)), (49, .bool (decide (((((l.drop at_).take ((at_ + s) - at_)).getD 0 0).toNat : Int) ≥ 128))), (54, .bool (decide ((k : Int) < (s : Int))))]) ?_ (sub_cons rfl (sub_cons rfl (sub_cons rfl (sub_cons rfl (sub_cons rfl (sub_cons rfl (sub_cons rfl (sub_cons rfl (sub_cons rfl (sub_cons rfl (sub_cons rfl (sub_cons rfl (sub_cons rfl (sub_cons rfl sub_nil))))))))))))))) a_ ha_
                refine t_region ?_
                refine tl_val (w' := w178) rfl (do_move rfl) (by decide) ?_
                refine tl_val (w' := w178) rfl (do_add (c := (k : Int) + 1) rfl rfl (wrap_i64 (by omega) (by omega))) (by decide) ?_
                refine tl_val (w' := w178) rfl (do_assign rfl) (by decide) ?_
                refine tl_end ?_
                refine fun a_ ha_ => hK181 (k + 1) _ _ (⟨by omega, ((Chg.refl (fun k_ => False) w7).step hchgl (fun k_ hk_ (h_ : False) => h_.elim))⟩) (show s - (k + 1) < s - k by omega) (sub_cons rfl (sub_cons rfl (sub_cons rfl (sub_cons rfl (sub_cons rfl (sub_cons rfl (sub_cons (as_int (a := ((beN (List.take k ((l.drop at_).take ((at_ + s) - at_))) : Int) * 256) + ((((l.drop at_).take ((at_ + s) - at_)).getD k 0).toNat : Int)) rfl (by omega)) (sub_cons (as_int (a := (k : Int) + 1) rfl (by omega)) (sub_cons rfl (sub_cons rfl (sub_cons rfl (sub_cons rfl (sub_cons rfl sub_nil))))))))))))) a_ ha_
              · have hk186 := decide_eq_false hc185
                have hks_ : k = s := by omega
                have hall_ : List.take k ((l.drop at_).take ((at_ + s) - at_)) = ((l.drop at_).take ((at_ + s) - at_)) := List.take_of_length_le (by omega)
                refine t_no rfl hk186 ?_
                refine t_exit ?_
                refine fun a_ ha_ => hK176 _ _ _ (T.sub (L' := [(0, .agg #[.slice A l.length c, .int .i64 (at_ : Int), .bool big, .int .i64 e]), (1, .int .i64 (s : Int)), (2, .pointer (some ⟨w.heap.size, 0, none⟩)), (4, .int .i64 0), (5, .pointer (some ⟨w2.heap.size, 0, none⟩)), (6, .slice (sub A c at_ 1) (((l.drop at_).take ((at_ + s) - at_)).length) (c - at_)), (7, .int .i64 (beN (List.take k ((l.drop at_).take ((at_ + s) - at_))) : Int)), (8, .int .i64 (k : Int)), (11, .bool (decide (e ≠ 0))), (15, .bool (!(wide (s : Int)))), (25, .bool (decide ((s : Int) > ((l.length : Int) - (at_ : Int))))), (39, .bool (!big)), (49, .bool (decide (((((l.drop at_).take ((at_ + s) - at_)).getD 0 0).toNat : Int) ≥ 128))), (54, .bool (decide ((k : Int) < (s : Int))))]) ?_ (sub_cons rfl (sub_cons rfl (sub_cons rfl (sub_cons rfl (sub_cons rfl (sub_cons rfl (sub_cons rfl (sub_cons rfl (sub_cons rfl (sub_cons rfl (sub_cons rfl (sub_cons rfl (sub_cons rfl (sub_cons rfl sub_nil))))))))))))))) a_ ha_
                refine t_seq (fun K189 hK189 => ?_)
                refine t_region ?_
                refine tl_val (w' := w178) rfl (do_fieldAddr (v := .pointer (some ⟨w.heap.size, 1, none⟩)) rfl (by kernel_rfl)) (by decide) ?_
                have h190 := (hchgl.obj (fun x => x) h14)
                refine tl_val (w' := w178) rfl (do_load (v := .int .i64 (at_ : Int)) rfl (by kernel_rfl) (by rw [obj_cell h190]; rfl)) (by decide) ?_
                refine tl_val (w' := w178) rfl (do_move rfl) (by decide) ?_
                refine tl_val (w' := w178) rfl (do_add (c := ((at_ + s : Nat) : Int)) rfl rfl (by rw [wrap_i64 (by omega) (by omega)]; omega)) (by decide) ?_
                refine tl_val (w' := w178) rfl (do_fieldAddr (v := .pointer (some ⟨w.heap.size, 1, none⟩)) rfl (by kernel_rfl)) (by decide) ?_
                refine tl_unit rfl (do_store (u := .int .i64 (at_ : Int)) rfl rfl rfl (by kernel_rfl) (by rw [obj_cell h190]; rfl) (obj_frozen h190 _)) ?_
                refine tl_gen (fun w191 e192 => ?_)
                have hb193 : Chg (fun k => k = w.heap.size) w178 w191 := e192 ▸ Chg.setCell _ _ _ _
                have hz194 : w191.heap.size = w178.heap.size := by rw [e192]; simp
                have hc195 : w191.heap[w.heap.size]? = some (.cells #[.slice A l.length c, .int .i64 ((at_ + s : Nat) : Int), .bool big, .int .i64 e] 55 (0, 0)) := by rw [e192]; exact obj_setCell h190
                clear e192
                refine tl_end ?_
                refine fun a_ ha_ => hK189 _ _ _ (T.sub (L' := [(0, .agg #[.slice A l.length c, .int .i64 (at_ : Int), .bool big, .int .i64 e]), (1, .int .i64 (s : Int)), (2, .pointer (some ⟨w.heap.size, 0, none⟩)), (4, .int .i64 0), (5, .pointer (some ⟨w2.heap.size, 0, none⟩)), (6, .slice (sub A c at_ 1) (((l.drop at_).take ((at_ + s) - at_)).length) (c - at_)), (7, .int .i64 (beN (List.take k ((l.drop at_).take ((at_ + s) - at_))) : Int)), (8, .int .i64 (k : Int)), (11, .bool (decide (e ≠ 0))), (15, .bool (!(wide (s : Int)))), (25, .bool (decide ((s : Int) > ((l.length : Int) - (at_ : Int))))), (39, .bool (!big)), (49, .bool (decide (((((l.drop at_).take ((at_ + s) - at_)).getD 0 0).toNat : Int) ≥ 128))), (54, .bool (decide ((k : Int) < (s : Int))))]) ?_ (sub_cons rfl (sub_cons rfl (sub_cons rfl (sub_cons rfl (sub_cons rfl (sub_cons rfl (sub_cons rfl (sub_cons rfl (sub_cons rfl (sub_cons rfl (sub_cons rfl (sub_cons rfl (sub_cons rfl (sub_cons rfl sub_nil))))))))))))))) a_ ha_
                refine t_seq (fun K196 hK196 => ?_)
                refine t_drawnC (fun _ => False) 3 (.take 0 { dst := (some 70), op := (Go.Op.move (Go.Operand.tmp 7)), type := 3, pos := "ref.go:77", after := #[], guard := none } (.take 1 { dst := (some 71), op := (Go.Op.load 55 (Go.Operand.tmp 2)), type := 55, pos := "ref.go:77", after := #[{ on := 2, ground := (Go.Ground.gcOnly Go.Departure.lateStores) }], guard := none } (.take 2 { dst := (some 4), op := (Go.Op.assign (Go.Operand.tmp 70)), type := 3, pos := "ref.go:77", after := #[{ on := 0, ground := Go.Ground.data }, { on := 0, ground := Go.Ground.phase }, { on := 1, ground := (Go.Ground.textOnly Go.Departure.lateStores) }], guard := none } (.one 3 { dst := none, op := (Go.Op.store 55 (Go.Operand.tmp 5) (Go.Operand.tmp 71)), type := 0, pos := "ref.go:77", after := #[{ on := 1, ground := Go.Ground.data }, { on := 2, ground := Go.Ground.chain }, { on := 0, ground := Go.Ground.phase }, { on := 1, ground := Go.Ground.phase }, { on := 2, ground := Go.Ground.phase }], guard := none } .done)))) rfl (by kernel_rfl) (by repeat (first | exact hB0 | apply blind_then | apply blind_in)) (by kernel_rfl) (by kernel_rfl) rfl (fun w197 hb198 hz199 => ?_)
                refine td_takeC rfl (by decide) (fun w_ h_ => (do_move rfl)) ?_
                have h200 := (hb198.obj (fun x => x) hc195)
                refine td_takeC rfl (by decide) (fun w_ h_ => (do_loads (cs := [.slice A l.length c, .int .i64 ((at_ + s : Nat) : Int), .bool big, .int .i64 e]) rfl (by kernel_rfl) (obj_range (h_.obj (fun x => x) h200)))) ?_
                refine td_takeC rfl (by decide) (fun w_ h_ => (do_assign rfl)) ?_
                refine td_one ?_
                have h201 := (hb198.obj (fun x => x) (hb193.obj (show ¬ w2.heap.size = w.heap.size by omega) (hchgl.obj (fun x => x) hc11)))
                refine td_lastC rfl (do_storesB (cs := [.slice A l.length c, .int .i64 ((at_ + s : Nat) : Int), .bool big, .int .i64 e]) rfl rfl (by rfl) (by kernel_rfl) h201 (Nat.le_of_ble_eq_true rfl)) ?_
                refine tx_gen (fun w202 e203 => ?_)
                have hb204 : Chg (fun k => k = w2.heap.size) w197 w202 := e203 ▸ Chg.setCells _ _ 0 [.slice A l.length c, .int .i64 ((at_ + s : Nat) : Int), .bool big, .int .i64 e]
                have hz205 : w202.heap.size = w197.heap.size := by rw [e203]; exact sc_size _ _ _ _
                have hc206 : w202.heap[w2.heap.size]? = some (.cells #[.slice A l.length c, .int .i64 ((at_ + s : Nat) : Int), .bool big, .int .i64 e] 55 (0, 0)) := by rw [e203]; exact obj_setCells [.slice A l.length c, .int .i64 ((at_ + s : Nat) : Int), .bool big, .int .i64 e] 0 h201
                clear e203
                refine fun a_ ha_ => hK196 _ _ _ (T.sub (L' := [(0, .agg #[.slice A l.length c, .int .i64 (at_ : Int), .bool big, .int .i64 e]), (1, .int .i64 (s : Int)), (2, .pointer (some ⟨w.heap.size, 0, none⟩)), (4, .int .i64 (beN (List.take k ((l.drop at_).take ((at_ + s) - at_))) : Int)), (5, .pointer (some ⟨w2.heap.size, 0, none⟩)), (6, .slice (sub A c at_ 1) (((l.drop at_).take ((at_ + s) - at_)).length) (c - at_)), (7, .int .i64 (beN (List.take k ((l.drop at_).take ((at_ + s) - at_))) : Int)), (8, .int .i64 (k : Int)), (11, .bool (decide (e ≠ 0))), (15, .bool (!(wide (s : Int)))), (25, .bool (decide ((s : Int) > ((l.length : Int) - (at_ : Int))))), (39, .bool (!big)), (49, .bool (decide (((((l.drop at_).take ((at_ + s) - at_)).getD 0 0).toNat : Int) ≥ 128))), (54, .bool (decide ((k : Int) < (s : Int))))]) ?_ (sub_cons rfl (sub_cons rfl (sub_cons rfl (sub_cons rfl (sub_cons rfl (sub_cons rfl (sub_cons rfl (sub_cons rfl (sub_cons rfl (sub_cons rfl (sub_cons rfl (sub_cons rfl (sub_cons rfl (sub_cons rfl sub_nil))))))))))))))) a_ ha_
                refine t_ret ?_
                refine fun a_ ha_ => hQ0 _ _ _ (body_ret (rs := [.tmp 4, .cell 5 55]) (vs := [.int .i64 (beN (List.take k ((l.drop at_).take ((at_ + s) - at_))) : Int), .agg #[.slice A l.length c, .int .i64 ((at_ + s : Nat) : Int), .bool big, .int .i64 e]]) ha_ (by kernel_rfl) ⟨_, _, rfl, rfl, ⟨_, _, _, rfl, rfl, (load_whole (cs := [.slice A l.length c, .int .i64 ((at_ + s : Nat) : Int), .bool big, .int .i64 e]) (by kernel_rfl) (obj_range hc206)), rfl⟩⟩ ?_)
                refine ⟨_, at_ + s, e, rfl, .inr (.inr ⟨by omega, _, ⟨hwd_, by omega, rfl, ?_⟩, ?_, rfl, by omega⟩), (((((((Chg.refl (fun k_ => False) w).step hb4 (fun k_ hk_ (h_ : False) => h_.elim)).step hb9 (fun k_ hk_ (h_ : False) => h_.elim)).step hchgl (fun k_ hk_ (h_ : False) => h_.elim)).step hb193 (fun k_ hk_ (h_ : k_ = w.heap.size) => (show False by omega))).step hb198 (fun k_ hk_ (h_ : False) => h_.elim)).step hb204 (fun k_ hk_ (h_ : k_ = w2.heap.size) => (show False by omega)))⟩
                · rw [Int.toNat_natCast, ← hwin_]; exact hmx_
                · rw [Int.toNat_natCast, ← hwin_, hall_]
          · have hk160 := decide_eq_false hc159
            refine tl_skipU ⟨44, _, rfl, rfl, (by rw [hk160]; rfl)⟩ (by decide) ?_
            refine tl_skipU ⟨44, _, rfl, rfl, (by rw [hk160]; rfl)⟩ (by decide) ?_
            refine tl_skipU ⟨44, _, rfl, rfl, (by rw [hk160]; rfl)⟩ (by decide) ?_
            refine tl_skipU ⟨44, _, rfl, rfl, (by rw [hk160]; rfl)⟩ (by decide) ?_
            refine tl_val (w' := w7) rfl (do_pick_f rfl hk160 rfl) (by decide) ?_
            refine tl_end ?_
            refine fun a_ ha_ => hK158 _ _ _ (T.sub (L' := [(0, .agg #[.slice A l.length c, .int .i64 (at_ : Int), .bool big, .int .i64 e]), (1, .int .i64 (s : Int)), (2, .pointer (some ⟨w.heap.size, 0, none⟩)), (4, .int .i64 0), (5, .pointer (some ⟨w2.heap.size, 0, none⟩)), (6, .slice (sub A c at_ 1) (((l.drop at_).take ((at_ + s) - at_)).length) (c - at_)), (11, .bool (decide (e ≠ 0))), (15, .bool (!(wide (s : Int)))), (25, .bool (decide ((s : Int) > ((l.length : Int) - (at_ : Int))))), (39, .bool (!big)), (49, .bool false)]) ?_ (sub_cons rfl (sub_cons rfl (sub_cons rfl (sub_cons rfl (sub_cons rfl (sub_cons rfl (sub_cons rfl (sub_cons rfl (sub_cons rfl (sub_cons rfl (sub_cons rfl sub_nil)))))))))))) a_ ha_
            refine t_no rfl rfl ?_
            refine t_skip ?_
            refine fun a_ ha_ => hK157 _ _ _ (T.sub (L' := [(0, .agg #[.slice A l.length c, .int .i64 (at_ : Int), .bool big, .int .i64 e]), (1, .int .i64 (s : Int)), (2, .pointer (some ⟨w.heap.size, 0, none⟩)), (4, .int .i64 0), (5, .pointer (some ⟨w2.heap.size, 0, none⟩)), (6, .slice (sub A c at_ 1) (((l.drop at_).take ((at_ + s) - at_)).length) (c - at_)), (11, .bool (decide (e ≠ 0))), (15, .bool (!(wide (s : Int)))), (25, .bool (decide ((s : Int) > ((l.length : Int) - (at_ : Int))))), (39, .bool (!big)), (49, .bool false)]) ?_ (sub_cons rfl (sub_cons rfl (sub_cons rfl (sub_cons rfl (sub_cons rfl (sub_cons rfl (sub_cons rfl (sub_cons rfl (sub_cons rfl (sub_cons rfl (sub_cons rfl sub_nil)))))))))))) a_ ha_
            refine t_seq (fun K207 hK207 => ?_)
            refine t_region ?_
            refine tl_val (w' := w7) rfl (do_assign rfl) (by decide) ?_
            refine tl_end ?_
            refine fun a_ ha_ => hK207 _ _ _ (T.sub (L' := [(0, .agg #[.slice A l.length c, .int .i64 (at_ : Int), .bool big, .int .i64 e]), (1, .int .i64 (s : Int)), (2, .pointer (some ⟨w.heap.size, 0, none⟩)), (4, .int .i64 0), (5, .pointer (some ⟨w2.heap.size, 0, none⟩)), (6, .slice (sub A c at_ 1) (((l.drop at_).take ((at_ + s) - at_)).length) (c - at_)), (7, .int .i64 0), (11, .bool (decide (e ≠ 0))), (15, .bool (!(wide (s : Int)))), (25, .bool (decide ((s : Int) > ((l.length : Int) - (at_ : Int))))), (39, .bool (!big)), (49, .bool false)]) ?_ (sub_cons rfl (sub_cons rfl (sub_cons rfl (sub_cons rfl (sub_cons rfl (sub_cons rfl (sub_cons rfl (sub_cons rfl (sub_cons rfl (sub_cons rfl (sub_cons rfl (sub_cons rfl sub_nil))))))))))))) a_ ha_
            refine t_seq (fun K208 hK208 => ?_)
            refine t_seq (fun K209 hK209 => ?_)
            refine t_region ?_
            refine tl_val (w' := w7) rfl (do_assign rfl) (by decide) ?_
            refine tl_end ?_
            refine fun a_ ha_ => hK209 _ _ _ (T.sub (L' := [(0, .agg #[.slice A l.length c, .int .i64 (at_ : Int), .bool big, .int .i64 e]), (1, .int .i64 (s : Int)), (2, .pointer (some ⟨w.heap.size, 0, none⟩)), (4, .int .i64 0), (5, .pointer (some ⟨w2.heap.size, 0, none⟩)), (6, .slice (sub A c at_ 1) (((l.drop at_).take ((at_ + s) - at_)).length) (c - at_)), (7, .int .i64 0), (8, .int .i64 0), (11, .bool (decide (e ≠ 0))), (15, .bool (!(wide (s : Int)))), (25, .bool (decide ((s : Int) > ((l.length : Int) - (at_ : Int))))), (39, .bool (!big)), (49, .bool false)]) ?_ (sub_cons rfl (sub_cons rfl (sub_cons rfl (sub_cons rfl (sub_cons rfl (sub_cons rfl (sub_cons rfl (sub_cons rfl (sub_cons rfl (sub_cons rfl (sub_cons rfl (sub_cons rfl (sub_cons rfl sub_nil)))))))))))))) a_ ha_
            refine t_block ?_
            have hmx_ : beN ((l.drop at_).take ((at_ + s) - at_)) ≤ 9223372036854775807 := by omega
            have hz0_ : beN (List.take 0 ((l.drop at_).take ((at_ + s) - at_))) = 0 := rfl
            refine t_loop (G := Nat) (fun k => [(0, .agg #[.slice A l.length c, .int .i64 (at_ : Int), .bool big, .int .i64 e]), (1, .int .i64 (s : Int)), (2, .pointer (some ⟨w.heap.size, 0, none⟩)), (4, .int .i64 0), (5, .pointer (some ⟨w2.heap.size, 0, none⟩)), (6, .slice (sub A c at_ 1) (((l.drop at_).take ((at_ + s) - at_)).length) (c - at_)), (7, .int .i64 (beN (List.take k ((l.drop at_).take ((at_ + s) - at_))) : Int)), (8, .int .i64 (k : Int)), (11, .bool (decide (e ≠ 0))), (15, .bool (!(wide (s : Int)))), (25, .bool (decide ((s : Int) > ((l.length : Int) - (at_ : Int))))), (39, .bool (!big)), (49, .bool false)]) (fun k WW_ => k ≤ s ∧ Chg (fun _ => False) w7 WW_) (fun k => s - k) 0 (⟨Nat.zero_le _, Chg.refl _ _⟩) (sub_cons rfl (sub_cons rfl (sub_cons rfl (sub_cons rfl (sub_cons rfl (sub_cons rfl (sub_cons (as_int (a := 0) rfl (by omega)) (sub_cons (as_int (a := 0) rfl (by omega)) (sub_cons rfl (sub_cons rfl (sub_cons rfl (sub_cons rfl (sub_cons rfl sub_nil))))))))))))) ?_
            rintro k w210 K211 hI212 hK213
            obtain ⟨hk, hchgl⟩ := hI212
            refine T.sub (L' := [(0, .agg #[.slice A l.length c, .int .i64 (at_ : Int), .bool big, .int .i64 e]), (1, .int .i64 (s : Int)), (2, .pointer (some ⟨w.heap.size, 0, none⟩)), (4, .int .i64 0), (5, .pointer (some ⟨w2.heap.size, 0, none⟩)), (6, .slice (sub A c at_ 1) (((l.drop at_).take ((at_ + s) - at_)).length) (c - at_)), (7, .int .i64 (beN (List.take k ((l.drop at_).take ((at_ + s) - at_))) : Int)), (8, .int .i64 (k : Int)), (11, .bool (decide (e ≠ 0))), (15, .bool (!(wide (s : Int)))), (25, .bool (decide ((s : Int) > ((l.length : Int) - (at_ : Int))))), (39, .bool (!big)), (49, .bool false)]) ?_ (sub_cons rfl (sub_cons rfl (sub_cons rfl (sub_cons rfl (sub_cons rfl (sub_cons rfl (sub_cons rfl (sub_cons rfl (sub_cons rfl (sub_cons rfl (sub_cons rfl (sub_cons rfl (sub_cons rfl sub_nil)))))))))))))
            have hz214 := hchgl.size
            refine t_seq (fun K215 hK215 => ?_)
            refine t_seq (fun K216 hK216 => ?_)
            refine t_region ?_
            refine tl_val (w' := w210) rfl (do_move rfl) (by decide) ?_
            refine tl_val (w' := w210) rfl (do_move rfl) (by decide) ?_
            refine tl_val (w' := w210) rfl (do_lss rfl rfl) (by decide) ?_
            refine tl_end ?_
            refine fun a_ ha_ => hK216 _ _ _ (T.sub (L' := [(0, .agg #[.slice A l.length c, .int .i64 (at_ : Int), .bool big, .int .i64 e]), (1, .int .i64 (s : Int)), (2, .pointer (some ⟨w.heap.size, 0, none⟩)), (4, .int .i64 0), (5, .pointer (some ⟨w2.heap.size, 0, none⟩)), (6, .slice (sub A c at_ 1) (((l.drop at_).take ((at_ + s) - at_)).length) (c - at_)), (7, .int .i64 (beN (List.take k ((l.drop at_).take ((at_ + s) - at_))) : Int)), (8, .int .i64 (k : Int)), (11, .bool (decide (e ≠ 0))), (15, .bool (!(wide (s : Int)))), (25, .bool (decide ((s : Int) > ((l.length : Int) - (at_ : Int))))), (39, .bool (!big)), (49, .bool false), (54, .bool (decide ((k : Int) < (s : Int))))]) ?_ (sub_cons rfl (sub_cons rfl (sub_cons rfl (sub_cons rfl (sub_cons rfl (sub_cons rfl (sub_cons rfl (sub_cons rfl (sub_cons rfl (sub_cons rfl (sub_cons rfl (sub_cons rfl (sub_cons rfl (sub_cons rfl sub_nil))))))))))))))) a_ ha_
            by_cases hc217 : (k : Int) < (s : Int)
            · have hk218 := decide_eq_true hc217
              obtain ⟨hb1_, hb2_⟩ := beN_next ((l.drop at_).take ((at_ + s) - at_)) k (by omega)
              refine t_yes rfl hk218 ?_
              refine t_skip ?_
              refine fun a_ ha_ => hK215 _ _ _ (T.sub (L' := [(0, .agg #[.slice A l.length c, .int .i64 (at_ : Int), .bool big, .int .i64 e]), (1, .int .i64 (s : Int)), (2, .pointer (some ⟨w.heap.size, 0, none⟩)), (4, .int .i64 0), (5, .pointer (some ⟨w2.heap.size, 0, none⟩)), (6, .slice (sub A c at_ 1) (((l.drop at_).take ((at_ + s) - at_)).length) (c - at_)), (7, .int .i64 (beN (List.take k ((l.drop at_).take ((at_ + s) - at_))) : Int)), (8, .int .i64 (k : Int)), (11, .bool (decide (e ≠ 0))), (15, .bool (!(wide (s : Int)))), (25, .bool (decide ((s : Int) > ((l.length : Int) - (at_ : Int))))), (39, .bool (!big)), (49, .bool false), (54, .bool (decide ((k : Int) < (s : Int))))]) ?_ (sub_cons rfl (sub_cons rfl (sub_cons rfl (sub_cons rfl (sub_cons rfl (sub_cons rfl (sub_cons rfl (sub_cons rfl (sub_cons rfl (sub_cons rfl (sub_cons rfl (sub_cons rfl (sub_cons rfl (sub_cons rfl sub_nil))))))))))))))) a_ ha_
              refine t_seq (fun K219 hK219 => ?_)
              refine t_block ?_
              refine t_region ?_
              refine tl_val (w' := w210) rfl (do_move rfl) (by decide) ?_
              refine tl_val (w' := w210) rfl (do_mul (c := (beN (List.take k ((l.drop at_).take ((at_ + s) - at_))) : Int) * 256) rfl rfl (wrap_i64 (by omega) (by omega))) (by decide) ?_
              refine tl_val (w' := w210) rfl (do_move rfl) (by decide) ?_
              refine tl_val (w' := w210) rfl (do_move rfl) (by decide) ?_
              have h220 := (Rd.chg (hs64 w7).2 (hs64 w7).2 hchgl (fun _ _ x => x))
              refine tl_val (w' := w210) rfl (do_indexAddr rfl rfl (idx_rd' (j := k) h220 (by kernel_rfl) rfl (by omega) _)) (by decide) ?_
              refine tl_val (w' := w210) rfl (do_load_rd rfl (by kernel_rfl) h220 (by omega)) (by decide) ?_
              refine tl_val (w' := w210) rfl (do_convert (v := .int .i64 ((((l.drop at_).take ((at_ + s) - at_)).getD k 0).toNat : Int)) rfl (conv_int (by kernel_rfl) (wrap_i64 (by omega) (by omega)))) (by decide) ?_
              refine tl_val (w' := w210) rfl (do_add (c := ((beN (List.take k ((l.drop at_).take ((at_ + s) - at_))) : Int) * 256) + ((((l.drop at_).take ((at_ + s) - at_)).getD k 0).toNat : Int)) rfl rfl (wrap_i64 (by omega) (by omega))) (by decide) ?_
              refine tl_val (w' := w210) rfl (do_assign rfl) (by decide) ?_
              refine tl_end ?_
              refine fun a_ ha_ => hK219 _ _ _ (T.sub (L' := [(0, .agg #[.slice A l.length c, .int .i64 (at_ : Int), .bool big, .int .i64 e]), (1, .int .i64 (s : Int)), (2, .pointer (some ⟨w.heap.size, 0, none⟩)), (4, .int .i64 0), (5, .pointer (some ⟨w2.heap.size, 0, none⟩)), (6, .slice (sub A c at_ 1) (((l.drop at_).take ((at_ + s) - at_)).length) (c - at_)), (7, .int .i64 (((beN (List.take k ((l.drop at_).take ((at_ + s) - at_))) : Int) * 256) + ((((l.drop at_).take ((at_ + s) - at_)).getD k 0).toNat : Int))), (8, .int .i64 (k : Int)), (11, .bool (decide (e ≠ 0))), (15, .bool (!(wide (s : Int)))), (25, .bool (decide ((s : Int) > ((l.length : Int) - (at_ : Int))))), (39, .bool (!big)), (49, .bool false), (54, .bool (decide ((k : Int) < (s : Int))))]) ?_ (sub_cons rfl (sub_cons rfl (sub_cons rfl (sub_cons rfl (sub_cons rfl (sub_cons rfl (sub_cons rfl (sub_cons rfl (sub_cons rfl (sub_cons rfl (sub_cons rfl (sub_cons rfl (sub_cons rfl (sub_cons rfl sub_nil))))))))))))))) a_ ha_
              refine t_region ?_
              refine tl_val (w' := w210) rfl (do_move rfl) (by decide) ?_
              refine tl_val (w' := w210) rfl (do_add (c := (k : Int) + 1) rfl rfl (wrap_i64 (by omega) (by omega))) (by decide) ?_
              refine tl_val (w' := w210) rfl (do_assign rfl) (by decide) ?_
              refine tl_end ?_
              refine fun a_ ha_ => hK213 (k + 1) _ _ (⟨by omega, ((Chg.refl (fun k_ => False) w7).step hchgl (fun k_ hk_ (h_ : False) => h_.elim))⟩) (show s - (k + 1) < s - k by omega) (sub_cons rfl (sub_cons rfl (sub_cons rfl (sub_cons rfl (sub_cons rfl (sub_cons rfl (sub_cons (as_int (a := ((beN (List.take k ((l.drop at_).take ((at_ + s) - at_))) : Int) * 256) + ((((l.drop at_).take ((at_ + s) - at_)).getD k 0).toNat : Int)) rfl (by omega)) (sub_cons (as_int (a := (k : Int) + 1) rfl (by omega)) (sub_cons rfl (sub_cons rfl (sub_cons rfl (sub_cons rfl (sub_cons rfl sub_nil))))))))))))) a_ ha_
            · have hk218 := decide_eq_false hc217
              have hks_ : k = s := by omega
              have hall_ : List.take k ((l.drop at_).take ((at_ + s) - at_)) = ((l.drop at_).take ((at_ + s) - at_)) := List.take_of_length_le (by omega)
              refine t_no rfl hk218 ?_
              refine t_exit ?_
              refine fun a_ ha_ => hK208 _ _ _ (T.sub (L' := [(0, .agg #[.slice A l.length c, .int .i64 (at_ : Int), .bool big, .int .i64 e]), (1, .int .i64 (s : Int)), (2, .pointer (some ⟨w.heap.size, 0, none⟩)), (4, .int .i64 0), (5, .pointer (some ⟨w2.heap.size, 0, none⟩)), (6, .slice (sub A c at_ 1) (((l.drop at_).take ((at_ + s) - at_)).length) (c - at_)), (7, .int .i64 (beN (List.take k ((l.drop at_).take ((at_ + s) - at_))) : Int)), (8, .int .i64 (k : Int)), (11, .bool (decide (e ≠ 0))), (15, .bool (!(wide (s : Int)))), (25, .bool (decide ((s : Int) > ((l.length : Int) - (at_ : Int))))), (39, .bool (!big)), (49, .bool false), (54, .bool (decide ((k : Int) < (s : Int))))]) ?_ (sub_cons rfl (sub_cons rfl (sub_cons rfl (sub_cons rfl (sub_cons rfl (sub_cons rfl (sub_cons rfl (sub_cons rfl (sub_cons rfl (sub_cons rfl (sub_cons rfl (sub_cons rfl (sub_cons rfl (sub_cons rfl sub_nil))))))))))))))) a_ ha_
              refine t_seq (fun K221 hK221 => ?_)
              refine t_region ?_
              refine tl_val (w' := w210) rfl (do_fieldAddr (v := .pointer (some ⟨w.heap.size, 1, none⟩)) rfl (by kernel_rfl)) (by decide) ?_
              have h222 := (hchgl.obj (fun x => x) h14)
              refine tl_val (w' := w210) rfl (do_load (v := .int .i64 (at_ : Int)) rfl (by kernel_rfl) (by rw [obj_cell h222]; rfl)) (by decide) ?_
              refine tl_val (w' := w210) rfl (do_move rfl) (by decide) ?_
              refine tl_val (w' := w210) rfl (do_add (c := ((at_ + s : Nat) : Int)) rfl rfl (by rw [wrap_i64 (by omega) (by omega)]; omega)) (by decide) ?_
              refine tl_val (w' := w210) rfl (do_fieldAddr (v := .pointer (some ⟨w.heap.size, 1, none⟩)) rfl (by kernel_rfl)) (by decide) ?_
              refine tl_unit rfl (do_store (u := .int .i64 (at_ : Int)) rfl rfl rfl (by kernel_rfl) (by rw [obj_cell h222]; rfl) (obj_frozen h222 _)) ?_
              refine tl_gen (fun w223 e224 => ?_)
              have hb225 : Chg (fun k => k = w.heap.size) w210 w223 := e224 ▸ Chg.setCell _ _ _ _
              have hz226 : w223.heap.size = w210.heap.size := by rw [e224]; simp
              have hc227 : w223.heap[w.heap.size]? = some (.cells #[.slice A l.length c, .int .i64 ((at_ + s : Nat) : Int), .bool big, .int .i64 e] 55 (0, 0)) := by rw [e224]; exact obj_setCell h222
              clear e224
              refine tl_end ?_
              refine fun a_ ha_ => hK221 _ _ _ (T.sub (L' := [(0, .agg #[.slice A l.length c, .int .i64 (at_ : Int), .bool big, .int .i64 e]), (1, .int .i64 (s : Int)), (2, .pointer (some ⟨w.heap.size, 0, none⟩)), (4, .int .i64 0), (5, .pointer (some ⟨w2.heap.size, 0, none⟩)), (6, .slice (sub A c at_ 1) (((l.drop at_).take ((at_ + s) - at_)).length) (c - at_)), (7, .int .i64 (beN (List.take k ((l.drop at_).take ((at_ + s) - at_))) : Int)), (8, .int .i64 (k : Int)), (11, .bool (decide (e ≠ 0))), (15, .bool (!(wide (s : Int)))), (25, .bool (decide ((s : Int) > ((l.length : Int) - (at_ : Int))))), (39, .bool (!big)), (49, .bool false), (54, .bool (decide ((k : Int) < (s : Int))))]) ?_ (sub_cons rfl (sub_cons rfl (sub_cons rfl (sub_cons rfl (sub_cons rfl (sub_cons rfl (sub_cons rfl (sub_cons rfl (sub_cons rfl (sub_cons rfl (sub_cons rfl (sub_cons rfl (sub_cons rfl (sub_cons rfl sub_nil))))))))))))))) a_ ha_
              refine t_seq (fun K228 hK228 => ?_)
              refine t_drawnC (fun _ => False) 3 (.take 0 { dst := (some 70), op := (Go.Op.move (Go.Operand.tmp 7)), type := 3, pos := "ref.go:77", after := #[], guard := none } (.take 1 { dst := (some 71), op := (Go.Op.load 55 (Go.Operand.tmp 2)), type := 55, pos := "ref.go:77", after := #[{ on := 2, ground := (Go.Ground.gcOnly Go.Departure.lateStores) }], guard := none } (.take 2 { dst := (some 4), op := (Go.Op.assign (Go.Operand.tmp 70)), type := 3, pos := "ref.go:77", after := #[{ on := 0, ground := Go.Ground.data }, { on := 0, ground := Go.Ground.phase }, { on := 1, ground := (Go.Ground.textOnly Go.Departure.lateStores) }], guard := none } (.one 3 { dst := none, op := (Go.Op.store 55 (Go.Operand.tmp 5) (Go.Operand.tmp 71)), type := 0, pos := "ref.go:77", after := #[{ on := 1, ground := Go.Ground.data }, { on := 2, ground := Go.Ground.chain }, { on := 0, ground := Go.Ground.phase }, { on := 1, ground := Go.Ground.phase }, { on := 2, ground := Go.Ground.phase }], guard := none } .done)))) rfl (by kernel_rfl) (by repeat (first | exact hB0 | apply blind_then | apply blind_in)) (by kernel_rfl) (by kernel_rfl) rfl (fun w229 hb230 hz231 => ?_)
              refine td_takeC rfl (by decide) (fun w_ h_ => (do_move rfl)) ?_
              have h232 := (hb230.obj (fun x => x) hc227)
              refine td_takeC rfl (by decide) (fun w_ h_ => (do_loads (cs := [.slice A l.length c, .int .i64 ((at_ + s : Nat) : Int), .bool big, .int .i64 e]) rfl (by kernel_rfl) (obj_range (h_.obj (fun x => x) h232)))) ?_
              refine td_takeC rfl (by decide) (fun w_ h_ => (do_assign rfl)) ?_
              refine td_one ?_
              have h233 := (hb230.obj (fun x => x) (hb225.obj (show ¬ w2.heap.size = w.heap.size by omega) (hchgl.obj (fun x => x) hc11)))
              refine td_lastC rfl (do_storesB (cs := [.slice A l.length c, .int .i64 ((at_ + s : Nat) : Int), .bool big, .int .i64 e]) rfl rfl (by rfl) (by kernel_rfl) h233 (Nat.le_of_ble_eq_true rfl)) ?_
              refine tx_gen (fun w234 e235 => ?_)
              have hb236 : Chg (fun k => k = w2.heap.size) w229 w234 := e235 ▸ Chg.setCells _ _ 0 [.slice A l.length c, .int .i64 ((at_ + s : Nat) : Int), .bool big, .int .i64 e]
              have hz237 : w234.heap.size = w229.heap.size := by rw [e235]; exact sc_size _ _ _ _
              have hc238 : w234.heap[w2.heap.size]? = some (.cells #[.slice A l.length c, .int .i64 ((at_ + s : Nat) : Int), .bool big, .int .i64 e] 55 (0, 0)) := by rw [e235]; exact obj_setCells [.slice A l.length c, .int .i64 ((at_ + s : Nat) : Int), .bool big, .int .i64 e] 0 h233
              clear e235
              refine fun a_ ha_ => hK228 _ _ _ (T.sub (L' := [(0, .agg #[.slice A l.length c, .int .i64 (at_ : Int), .bool big, .int .i64 e]), (1, .int .i64 (s : Int)), (2, .pointer (some ⟨w.heap.size, 0, none⟩)), (4, .int .i64 (beN (List.take k ((l.drop at_).take ((at_ + s) - at_))) : Int)), (5, .pointer (some ⟨w2.heap.size, 0, none⟩)), (6, .slice (sub A c at_ 1) (((l.drop at_).take ((at_ + s) - at_)).length) (c - at_)), (7, .int .i64 (beN (List.take k ((l.drop at_).take ((at_ + s) - at_))) : Int)), (8, .int .i64 (k : Int)), (11, .bool (decide (e ≠ 0))), (15, .bool (!(wide (s : Int)))), (25, .bool (decide ((s : Int) > ((l.length : Int) - (at_ : Int))))), (39, .bool (!big)), (49, .bool false), (54, .bool (decide ((k : Int) < (s : Int))))]) ?_ (sub_cons rfl (sub_cons rfl (sub_cons rfl (sub_cons rfl (sub_cons rfl (sub_cons rfl (sub_cons rfl (sub_cons rfl (sub_cons rfl (sub_cons rfl (sub_cons rfl (sub_cons rfl (sub_cons rfl (sub_cons rfl sub_nil))))))))))))))) a_ ha_
              refine t_ret ?_
              refine fun a_ ha_ => hQ0 _ _ _ (body_ret (rs := [.tmp 4, .cell 5 55]) (vs := [.int .i64 (beN (List.take k ((l.drop at_).take ((at_ + s) - at_))) : Int), .agg #[.slice A l.length c, .int .i64 ((at_ + s : Nat) : Int), .bool big, .int .i64 e]]) ha_ (by kernel_rfl) ⟨_, _, rfl, rfl, ⟨_, _, _, rfl, rfl, (load_whole (cs := [.slice A l.length c, .int .i64 ((at_ + s : Nat) : Int), .bool big, .int .i64 e]) (by kernel_rfl) (obj_range hc238)), rfl⟩⟩ ?_)
              refine ⟨_, at_ + s, e, rfl, .inr (.inr ⟨by omega, _, ⟨hwd_, by omega, rfl, ?_⟩, ?_, rfl, by omega⟩), (((((((Chg.refl (fun k_ => False) w).step hb4 (fun k_ hk_ (h_ : False) => h_.elim)).step hb9 (fun k_ hk_ (h_ : False) => h_.elim)).step hchgl (fun k_ hk_ (h_ : False) => h_.elim)).step hb225 (fun k_ hk_ (h_ : k_ = w.heap.size) => (show False by omega))).step hb230 (fun k_ hk_ (h_ : False) => h_.elim)).step hb236 (fun k_ hk_ (h_ : k_ = w2.heap.size) => (show False by omega)))⟩
              · rw [Int.toNat_natCast, ← hwin_]; exact hmx_
              · rw [Int.toNat_natCast, ← hwin_, hall_]
theorem rnumber0_e {w : World} {A : Option Addr} {c : Nat} {l : List UInt8} {at_ : Nat} (size : Int) (big : Bool) (ha : Rd w A c l) (hat : at_ ≤ l.length) (hl : l.length ≤ 140737488355000) : Calls Tryd.prog 36 [rc A l.length c (at_ : Int) big 0, .int .i64 size].toArray w
    (Ret fun v w' => ((∃ n : Nat, v = .tuple #[.int .i64 (n : Int), rc A l.length c ((at_ + size.toNat : Nat) : Int) big 0] ∧ NumOk l at_ size big n) ∨ (∃ k : Nat, v = .tuple #[.int .i64 0, rc A l.length c (at_ : Int) big (k : Int)] ∧ NumNo l at_ size big k)) ∧ Chg (fun _ => False) w w') :=
  (rnumber_e size big 0 ha hat hl).mono fun e w' h => by
    cases e with
    | returned v =>
      obtain ⟨m, a2, e2, rfl, h, hc⟩ := h
      refine ⟨?_, hc⟩
      rcases h with ⟨h, _⟩ | ⟨_, k, hn, rfl, rfl, rfl⟩ | ⟨_, n, hn, rfl, rfl, rfl⟩
      · exact absurd rfl h
      · exact .inr ⟨k, rfl, hn⟩
      · exact .inl ⟨n, rfl, hn⟩
    | panicked ch => exact h
    | outgrown => exact h
end Go.Proofs.YtfmpbbeacpdalaaDoor
