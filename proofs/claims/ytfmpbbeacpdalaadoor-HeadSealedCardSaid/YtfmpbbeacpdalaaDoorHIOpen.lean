/-
  A file's header, opened by Try.
-/
import Derived.Test.YtfmpbbeacpdalaaDoorHOpen
import Derived.OpenShut
set_option linter.unusedVariables false
set_option linter.unusedSimpArgs false
set_option maxRecDepth 100000
namespace Go.Proofs.YtfmpbbeacpdalaaDoor
open Go.RowKit

/-- What ifd.Open tells. -/
def HeadO (l : List UInt8) (e : Int) (bg : Bool) (f : Int) : Prop :=
  (e ≠ 0 ∧ bg = false ∧ f = 0 ∧ ∀ big first, ¬ HdrOf l big first) ∨ (e = 0 ∧ (0 ≤ f ∧ f ≤ 9223372036854775807) ∧ ∀ big first, HdrOf l big first → bg = big ∧ f = first)
theorem OpenS.headO {l : List UInt8} {o : Except Int Unit} {bg : Bool} {f : Int} (h : OpenS l o bg f) : (code o ≠ 0 ∧ ∀ big first, ¬ HdrOf l big first) ∨ (code o = 0 ∧ (0 ≤ f ∧ f ≤ 9223372036854775807) ∧ ∀ big first, HdrOf l big first → bg = big ∧ f = first) := by
  rcases h with ⟨k, hk, rfl, h⟩ | ⟨rfl, h0, h⟩
  · exact .inl ⟨hk, h⟩
  · exact .inr ⟨rfl, h0, h⟩

theorem iopen_e {A : Option Addr} {c : Nat} {l : List UInt8} {w : World} (hr : Rd w A c l) (hll : l.length ≤ 1000000) : Calls Tryd.prog 29 [.slice A l.length c].toArray w
    (Ret fun v w' => ∃ e bg f, v = .tuple #[.bool bg, .int .i64 f, .int .i64 e] ∧ HeadO l e bg f ∧ Chg (fun _ => False) w w') := by
  refine enter (n := 16) (L := [(0, .slice A l.length c)]) (args := [.slice A l.length c]) Tryd.func29 rfl rfl (Nat.le_of_ble_eq_true rfl) (by intro t v h; exact look_args h) ?_
  refine t_body (fun Q0 hB0 hQ0 => ?_)
  refine t_seq (fun K1 hK1 => ?_)
  refine t_region ?_
  refine tl_val (w' := w) rfl (do_assign rfl) (by decide) ?_
  refine tl_val (w' := w) rfl (do_assign rfl) (by decide) ?_
  refine tl_val (w' := w) rfl (do_assign rfl) (by decide) ?_
  refine tl_end ?_
  refine fun a_ ha_ => hK1 _ _ _ (T.sub (L' := [(0, .slice A l.length c), (2, .bool false), (3, .int .i64 0), (4, .int .i64 0)]) ?_ (sub_cons rfl (sub_cons rfl (sub_cons rfl (sub_cons rfl sub_nil))))) a_ ha_
  refine t_seq (fun K2 hK2 => ?_)
  refine t_region ?_
  refine tl_val rfl (do_alloc (v := .pointer (some ⟨w.heap.size, 0, none⟩)) (w' := w.alloc (.cells #[.bool false] 4)) (by kernel_rfl)) (by decide) ?_
  refine tl_gen (fun w3 e4 => ?_)
  have hb5 : Chg (fun _ => False) w w3 := e4 ▸ Chg.alloc _ _
  have hz6 : w3.heap.size = w.heap.size + 1 := by rw [e4]; exact size_alloc _ _
  have hc7 : w3.heap[w.heap.size]? = some (.cells #[.bool false] 4 (0, 0)) := by rw [e4]; exact obj_new _ _
  clear e4
  refine tl_val rfl (do_alloc (v := .pointer (some ⟨w3.heap.size, 0, none⟩)) (w' := w3.alloc (.cells #[.int .i64 0] 3)) (by kernel_rfl)) (by decide) ?_
  refine tl_gen (fun w8 e9 => ?_)
  have hb10 : Chg (fun _ => False) w3 w8 := e9 ▸ Chg.alloc _ _
  have hz11 : w8.heap.size = w3.heap.size + 1 := by rw [e9]; exact size_alloc _ _
  have hc12 : w8.heap[w3.heap.size]? = some (.cells #[.int .i64 0] 3 (0, 0)) := by rw [e9]; exact obj_new _ _
  clear e9
  have h13 := (hb10.obj (fun x => x) hc7)
  refine tl_unit rfl (do_store (u := .bool false) rfl rfl rfl (by kernel_rfl) (by rw [obj_cell h13]; rfl) (obj_frozen h13 _)) ?_
  refine tl_gen (fun w14 e15 => ?_)
  have hb16 : Chg (fun k => k = w.heap.size) w8 w14 := e15 ▸ Chg.setCell _ _ _ _
  have hz17 : w14.heap.size = w8.heap.size := by rw [e15]; simp
  have hc18 : w14.heap[w.heap.size]? = some (.cells #[.bool false] 4 (0, 0)) := by rw [e15]; exact obj_setCell h13
  clear e15
  have h19 := (hb16.obj (show ¬ w3.heap.size = w.heap.size by omega) hc12)
  refine tl_unit rfl (do_store (u := .int .i64 0) rfl rfl rfl (by kernel_rfl) (by rw [obj_cell h19]; rfl) (obj_frozen h19 _)) ?_
  refine tl_gen (fun w20 e21 => ?_)
  have hb22 : Chg (fun k => k = w3.heap.size) w14 w20 := e21 ▸ Chg.setCell _ _ _ _
  have hz23 : w20.heap.size = w14.heap.size := by rw [e21]; simp
  have hc24 : w20.heap[w3.heap.size]? = some (.cells #[.int .i64 0] 3 (0, 0)) := by rw [e21]; exact obj_setCell h19
  clear e21
  refine tl_end ?_
  refine fun a_ ha_ => hK2 _ _ _ (T.sub (L' := [(0, .slice A l.length c), (2, .bool false), (3, .int .i64 0), (4, .int .i64 0), (5, .pointer (some ⟨w.heap.size, 0, none⟩)), (6, .pointer (some ⟨w3.heap.size, 0, none⟩))]) ?_ (sub_cons rfl (sub_cons rfl (sub_cons rfl (sub_cons rfl (sub_cons rfl (sub_cons rfl sub_nil))))))) a_ ha_
  refine t_seq (fun K25 hK25 => ?_)
  refine t_region ?_
  refine tl_val (w' := w20) rfl (do_move rfl) (by decide) ?_
  refine tl_val (w' := w20) rfl (do_makeFunc rfl) (by decide) ?_
  have h27 := (Rd.chgNe (Rd.chgNe (Rd.chg hr (Rd.chg hr hr hb5 (fun _ _ x => x)) hb10 (fun _ _ x => x)) hb16 (fun a_ h1_ h2_ => Rd.ne (cs := [.bool false]) (Rd.chg hr (Rd.chg hr hr hb5 (fun _ _ x => x)) hb10 (fun _ _ x => x)) h13 (by rfl) a_ h1_ h2_)) hb22 (fun a_ h1_ h2_ => Rd.ne (cs := [.int .i64 0]) (Rd.chgNe (Rd.chg hr (Rd.chg hr hr hb5 (fun _ _ x => x)) hb10 (fun _ _ x => x)) hb16 (fun a_ h1_ h2_ => Rd.ne (cs := [.bool false]) (Rd.chg hr (Rd.chg hr hr hb5 (fun _ _ x => x)) hb10 (fun _ _ x => x)) h13 (by rfl) a_ h1_ h2_)) h19 (by rfl) a_ h1_ h2_))
  have h28 := (hb22.obj (show ¬ w.heap.size = w3.heap.size by omega) hc18)
  have hl1_ := lt_obj h28
  have hl2_ := lt_obj hc24
  refine tl_call rfl (en_call (f := 30) (by kernel_rfl) rfl) rfl (try_e 42 #[.pointer (some ⟨w.heap.size, 0, none⟩), .pointer (some ⟨w3.heap.size, 0, none⟩)] (M := fun k_ => k_ = w.heap.size ∨ k_ = w3.heap.size) (fun o w' => ∃ bg f, w'.heap[w.heap.size]? = some (.cells #[.bool bg] 4 (0, 0)) ∧ w'.heap[w3.heap.size]? = some (.cells #[.int .i64 f] 3 (0, 0)) ∧ OpenS l o bg f) h27 (by intro k_ h_; have h2_ : k_ = w.heap.size ∨ k_ = w3.heap.size := h_; omega) (by kernel_rfl) (fun o w2 w3 ⟨bg, f, x1, x2, x3⟩ hC => ⟨bg, f, hC.obj (by omega) x1, hC.obj (by omega) x2, x3⟩) (fun W hW hz hc => open1_e _ w.heap.size w3.heap.size _ _ _ _ _ W hc (hW.obj (fun x => x) h28) (hW.obj (fun x => x) hc24) (by omega) hll)) (fun v31 w29 hr30 => ?_) (fun _ _ h => h.elim) (fun _ h => h)
  obtain ⟨o26, rfl, ⟨bg, f, hb1_, hb2_, hop_⟩, hchg26⟩ := hr30
  have hz32 := hchg26.size
  have hoo_ := hop_.headO
  refine tl_val (w' := w29) rfl (do_assign rfl) (by decide) ?_
  refine tl_end ?_
  refine fun a_ ha_ => hK25 _ _ _ (T.sub (L' := [(0, .slice A l.length c), (2, .bool false), (3, .int .i64 0), (4, .int .i64 0), (5, .pointer (some ⟨w.heap.size, 0, none⟩)), (6, .pointer (some ⟨w3.heap.size, 0, none⟩)), (7, .int .i64 (code o26))]) ?_ (sub_cons rfl (sub_cons rfl (sub_cons rfl (sub_cons rfl (sub_cons rfl (sub_cons rfl (sub_cons rfl sub_nil)))))))) a_ ha_
  refine t_seq (fun K33 hK33 => ?_)
  refine t_seq (fun K34 hK34 => ?_)
  refine t_region ?_
  refine tl_val (w' := w29) rfl (do_move rfl) (by decide) ?_
  refine tl_val (w' := w29) rfl (do_neq rfl rfl) (by decide) ?_
  refine tl_end ?_
  refine fun a_ ha_ => hK34 _ _ _ (T.sub (L' := [(0, .slice A l.length c), (2, .bool false), (3, .int .i64 0), (4, .int .i64 0), (5, .pointer (some ⟨w.heap.size, 0, none⟩)), (6, .pointer (some ⟨w3.heap.size, 0, none⟩)), (7, .int .i64 (code o26)), (12, .bool (decide ((code o26) ≠ 0)))]) ?_ (sub_cons rfl (sub_cons rfl (sub_cons rfl (sub_cons rfl (sub_cons rfl (sub_cons rfl (sub_cons rfl (sub_cons rfl sub_nil))))))))) a_ ha_
  by_cases hc35 : (code o26) ≠ 0
  · have hk36 := decide_eq_true hc35
    refine t_yes rfl hk36 ?_
    refine t_seq (fun K37 hK37 => ?_)
    refine t_region ?_
    refine tl_val (w' := w29) rfl (do_move rfl) (by decide) ?_
    refine tl_val (w' := w29) rfl (do_assign rfl) (by decide) ?_
    refine tl_val (w' := w29) rfl (do_assign rfl) (by decide) ?_
    refine tl_val (w' := w29) rfl (do_assign rfl) (by decide) ?_
    refine tl_end ?_
    refine fun a_ ha_ => hK37 _ _ _ (T.sub (L' := [(0, .slice A l.length c), (2, .bool false), (3, .int .i64 0), (4, .int .i64 (code o26)), (5, .pointer (some ⟨w.heap.size, 0, none⟩)), (6, .pointer (some ⟨w3.heap.size, 0, none⟩)), (7, .int .i64 (code o26)), (12, .bool (decide ((code o26) ≠ 0)))]) ?_ (sub_cons rfl (sub_cons rfl (sub_cons rfl (sub_cons rfl (sub_cons rfl (sub_cons rfl (sub_cons rfl (sub_cons rfl sub_nil))))))))) a_ ha_
    refine t_ret ?_
    refine fun a_ ha_ => hQ0 _ _ _ (body_ret (rs := [.tmp 2, .tmp 3, .tmp 4]) (vs := [.bool false, .int .i64 0, .int .i64 (code o26)]) ha_ (by kernel_rfl) ⟨_, _, rfl, rfl, ⟨_, _, rfl, rfl, ⟨_, _, rfl, rfl, rfl⟩⟩⟩ ?_)
    exact ⟨_, _, _, rfl, .inl ⟨by omega, rfl, rfl, (hoo_.resolve_right (fun h_ => absurd h_.1 (by omega))).2⟩, ((((((Chg.refl (fun k_ => False) w).step hb5 (fun k_ hk_ (h_ : False) => h_.elim)).step hb10 (fun k_ hk_ (h_ : False) => h_.elim)).step hb16 (fun k_ hk_ (h_ : k_ = w.heap.size) => (show False by omega))).step hb22 (fun k_ hk_ (h_ : k_ = w3.heap.size) => (show False by omega))).step hchg26 (fun k_ hk_ (h_ : k_ = w.heap.size ∨ k_ = w3.heap.size) => (show False by omega)))⟩
  · have hk36 := decide_eq_false hc35
    refine t_no rfl hk36 ?_
    refine t_skip ?_
    refine fun a_ ha_ => hK33 _ _ _ (T.sub (L' := [(0, .slice A l.length c), (2, .bool false), (3, .int .i64 0), (4, .int .i64 0), (5, .pointer (some ⟨w.heap.size, 0, none⟩)), (6, .pointer (some ⟨w3.heap.size, 0, none⟩)), (7, .int .i64 (code o26)), (12, .bool (decide ((code o26) ≠ 0)))]) ?_ (sub_cons rfl (sub_cons rfl (sub_cons rfl (sub_cons rfl (sub_cons rfl (sub_cons rfl (sub_cons rfl (sub_cons rfl sub_nil))))))))) a_ ha_
    refine t_seq (fun K38 hK38 => ?_)
    refine t_drawnC (fun _ => False) 5 (.take 0 { dst := (some 14), op := (Go.Op.load 4 (Go.Operand.tmp 5)), type := 4, pos := "ifd.go:258", after := #[], guard := none } (.take 1 { dst := (some 15), op := (Go.Op.load 3 (Go.Operand.tmp 6)), type := 3, pos := "ifd.go:258", after := #[{ on := 2, ground := (Go.Ground.gcOnly Go.Departure.lateStores) }], guard := none } (.take 2 { dst := (some 2), op := (Go.Op.assign (Go.Operand.tmp 14)), type := 4, pos := "ifd.go:258", after := #[{ on := 0, ground := Go.Ground.data }, { on := 0, ground := Go.Ground.phase }, { on := 1, ground := (Go.Ground.textOnly Go.Departure.lateStores) }], guard := none } (.take 3 { dst := (some 3), op := (Go.Op.assign (Go.Operand.tmp 15)), type := 3, pos := "ifd.go:258", after := #[{ on := 1, ground := Go.Ground.data }, { on := 2, ground := Go.Ground.chain }, { on := 0, ground := Go.Ground.phase }, { on := 1, ground := Go.Ground.phase }, { on := 2, ground := Go.Ground.phase }], guard := none } (.take 4 { dst := (some 4), op := (Go.Op.assign (Go.Operand.const (Go.Value.int Go.IntKind.i64 0))), type := 25, pos := "ifd.go:258", after := #[{ on := 3, ground := Go.Ground.chain }, { on := 0, ground := Go.Ground.phase }, { on := 1, ground := Go.Ground.phase }, { on := 2, ground := Go.Ground.phase }, { on := 3, ground := Go.Ground.phase }], guard := none } .done))))) rfl (by kernel_rfl) (by repeat (first | exact hB0 | apply blind_then | apply blind_in)) (by kernel_rfl) (by kernel_rfl) rfl (fun w39 hb40 hz41 => ?_)
    have h42 := (hb40.obj (fun x => x) hb1_)
    refine td_takeC rfl (by decide) (fun w_ h_ => (do_load (v := .bool bg) rfl (by kernel_rfl) (by rw [obj_cell (h_.obj (fun x => x) h42)]; rfl))) ?_
    have h43 := (hb40.obj (fun x => x) hb2_)
    refine td_takeC rfl (by decide) (fun w_ h_ => (do_load (v := .int .i64 f) rfl (by kernel_rfl) (by rw [obj_cell (h_.obj (fun x => x) h43)]; rfl))) ?_
    refine td_takeC rfl (by decide) (fun w_ h_ => (do_assign rfl)) ?_
    refine td_takeC rfl (by decide) (fun w_ h_ => (do_assign rfl)) ?_
    refine td_takeC rfl (by decide) (fun w_ h_ => (do_assign rfl)) ?_
    refine td_end ?_
    refine fun a_ ha_ => hK38 _ _ _ (T.sub (L' := [(0, .slice A l.length c), (2, .bool bg), (3, .int .i64 f), (4, .int .i64 0), (5, .pointer (some ⟨w.heap.size, 0, none⟩)), (6, .pointer (some ⟨w3.heap.size, 0, none⟩)), (7, .int .i64 (code o26)), (12, .bool (decide ((code o26) ≠ 0)))]) ?_ (sub_cons rfl (sub_cons rfl (sub_cons rfl (sub_cons rfl (sub_cons rfl (sub_cons rfl (sub_cons rfl (sub_cons rfl sub_nil))))))))) a_ ha_
    refine t_ret ?_
    refine fun a_ ha_ => hQ0 _ _ _ (body_ret (rs := [.tmp 2, .tmp 3, .tmp 4]) (vs := [.bool bg, .int .i64 f, .int .i64 0]) ha_ (by kernel_rfl) ⟨_, _, rfl, rfl, ⟨_, _, rfl, rfl, ⟨_, _, rfl, rfl, rfl⟩⟩⟩ ?_)
    exact ⟨_, _, _, rfl, .inr ⟨rfl, (hoo_.resolve_left (fun h_ => h_.1 (by omega))).2⟩, (((((((Chg.refl (fun k_ => False) w).step hb5 (fun k_ hk_ (h_ : False) => h_.elim)).step hb10 (fun k_ hk_ (h_ : False) => h_.elim)).step hb16 (fun k_ hk_ (h_ : k_ = w.heap.size) => (show False by omega))).step hb22 (fun k_ hk_ (h_ : k_ = w3.heap.size) => (show False by omega))).step hchg26 (fun k_ hk_ (h_ : k_ = w.heap.size ∨ k_ = w3.heap.size) => (show False by omega))).step hb40 (fun k_ hk_ (h_ : False) => h_.elim))⟩
end Go.Proofs.YtfmpbbeacpdalaaDoor
