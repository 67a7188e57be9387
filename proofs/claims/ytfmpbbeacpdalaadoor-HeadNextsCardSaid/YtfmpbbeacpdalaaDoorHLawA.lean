/-
  The walks of HeadPuts, HeadGets, HeadNexts.
-/
import Derived.Test.YtfmpbbeacpdalaaDoorHNext
import Derived.OpenShut
set_option linter.unusedVariables false
set_option linter.unusedSimpArgs false
set_option maxRecDepth 100000
namespace Go.Proofs.YtfmpbbeacpdalaaDoor
open Go.RowKit

set_option maxHeartbeats 1600000 in
theorem headPuts_walk (big : Bool) (gen first last : Int) (w : World) (hT : TabW w) (hg : -9223372036854775808 ≤ gen ∧ gen ≤ 9223372036854775807) (hf : -9223372036854775808 ≤ first ∧ first ≤ 9223372036854775807) (hl : -9223372036854775808 ≤ last ∧ last ≤ 9223372036854775807) :
    Calls Tryd.prog 3 #[.agg #[.bool big, .int .i64 gen, .int .i64 first, .int .i64 last]] w (RetTrue w) := by
  suffices h : Calls Tryd.prog 3 [.agg #[.bool big, .int .i64 gen, .int .i64 first, .int .i64 last]].toArray w (Ret fun v w' => v = .bool true ∧ Chg (fun _ => False) w w') from h.mono fun e w' h => ret_true h
  refine enter (n := 37) (L := [(0, .agg #[.bool big, .int .i64 gen, .int .i64 first, .int .i64 last])]) (args := [.agg #[.bool big, .int .i64 gen, .int .i64 first, .int .i64 last]]) Tryd.func3 rfl rfl (Nat.le_of_ble_eq_true rfl) (by intro t v h; exact look_args h) ?_
  refine t_body (fun Q0 hB0 hQ0 => ?_)
  have hgt := TabW.lt hT
  refine t_seq (fun K1 hK1 => ?_)
  refine t_region ?_
  refine tl_val rfl (do_box (v := .pointer (some ⟨w.heap.size, 0, none⟩)) (w' := w.alloc (.cells #[.bool big, .int .i64 gen, .int .i64 first, .int .i64 last] 23)) rfl (by kernel_rfl)) (by decide) ?_
  refine tl_gen (fun w2 e3 => ?_)
  have hb4 : Chg (fun _ => False) w w2 := e3 ▸ Chg.alloc _ _
  have hz5 : w2.heap.size = w.heap.size + 1 := by rw [e3]; exact size_alloc _ _
  have hc6 : w2.heap[w.heap.size]? = some (.cells #[.bool big, .int .i64 gen, .int .i64 first, .int .i64 last] 23 (0, 0)) := by rw [e3]; exact obj_new _ _
  clear e3
  refine tl_val (w' := w2) rfl (do_assign rfl) (by decide) ?_
  refine tl_end ?_
  refine fun a_ ha_ => hK1 _ _ _ (T.sub (L' := [(0, .agg #[.bool big, .int .i64 gen, .int .i64 first, .int .i64 last]), (1, .pointer (some ⟨w.heap.size, 0, none⟩)), (2, .bool false)]) ?_ (sub_cons rfl (sub_cons rfl (sub_cons rfl sub_nil)))) a_ ha_
  refine t_seq (fun K7 hK7 => ?_)
  refine t_region ?_
  refine tl_val (w' := w2) rfl (do_loads (cs := [.bool big, .int .i64 gen, .int .i64 first, .int .i64 last]) rfl (by kernel_rfl) (obj_range hc6)) (by decide) ?_
  have h9 := (TabW.chg hT hb4 (fun x => x))
  refine tl_call rfl (en_call (f := 11) (by kernel_rfl) rfl) rfl (hput_e big gen first last _ h9 (by omega) (by omega) (by omega)) (fun v12 w10 hr11 => ?_) (fun _ _ h => h.elim) (fun _ h => h)
  obtain ⟨hchg8, hp8⟩ := hr11
  have hz13 := hchg8.size
  rcases hp8 with ⟨hright8, A8, c8, rfl, hrd8, ho8⟩ | ⟨hright8, rfl⟩
  · have hsl8 := sector_length big gen first last
    refine tl_val (w' := w10) rfl (do_move rfl) (by decide) ?_
    refine tl_val (w' := w10) rfl (do_extract (v := .slice A8 ((sector big gen first last).length) c8) rfl rfl) (by decide) ?_
    refine tl_val (w' := w10) rfl (do_extract (v := .int .i64 0) rfl rfl) (by decide) ?_
    refine tl_val (w' := w10) rfl (do_assign rfl) (by decide) ?_
    refine tl_val (w' := w10) rfl (do_assign rfl) (by decide) ?_
    refine tl_end ?_
    refine fun a_ ha_ => hK7 _ _ _ (T.sub (L' := [(0, .agg #[.bool big, .int .i64 gen, .int .i64 first, .int .i64 last]), (1, .pointer (some ⟨w.heap.size, 0, none⟩)), (2, .bool false), (3, .slice A8 ((sector big gen first last).length) c8), (4, .int .i64 0)]) ?_ (sub_cons rfl (sub_cons rfl (sub_cons rfl (sub_cons rfl (sub_cons rfl sub_nil)))))) a_ ha_
    refine t_seq (fun K14 hK14 => ?_)
    refine t_region ?_
    have h15 := (hchg8.obj (fun x => x) hc6)
    refine tl_val (w' := w10) rfl (do_loads (cs := [.bool big, .int .i64 gen, .int .i64 first, .int .i64 last]) rfl (by kernel_rfl) (obj_range h15)) (by decide) ?_
    refine tl_call rfl (en_call (f := 12) (by kernel_rfl) rfl) rfl (rhput_e big gen first last _ (by omega) (by omega) (by omega)) (fun v19 w17 hr18 => ?_) (fun _ _ h => h.elim) (fun _ h => h)
    obtain ⟨hchg16, hp16⟩ := hr18
    have hz20 := hchg16.size
    rcases hp16.resolve_right (fun h_ => h_.1 hright8) with ⟨hright16, A16, c16, rfl, hrd16, ho16⟩
    · have hsl16 := sector_length big gen first last
      refine tl_val (w' := w17) rfl (do_move rfl) (by decide) ?_
      refine tl_val (w' := w17) rfl (do_extract (v := .slice A16 ((sector big gen first last).length) c16) rfl rfl) (by decide) ?_
      refine tl_val (w' := w17) rfl (do_extract (v := .int .i64 0) rfl rfl) (by decide) ?_
      refine tl_val (w' := w17) rfl (do_assign rfl) (by decide) ?_
      refine tl_val (w' := w17) rfl (do_assign rfl) (by decide) ?_
      refine tl_end ?_
      refine fun a_ ha_ => hK14 _ _ _ (T.sub (L' := [(0, .agg #[.bool big, .int .i64 gen, .int .i64 first, .int .i64 last]), (1, .pointer (some ⟨w.heap.size, 0, none⟩)), (2, .bool false), (3, .slice A8 ((sector big gen first last).length) c8), (4, .int .i64 0), (5, .slice A16 ((sector big gen first last).length) c16), (6, .int .i64 0)]) ?_ (sub_cons rfl (sub_cons rfl (sub_cons rfl (sub_cons rfl (sub_cons rfl (sub_cons rfl (sub_cons rfl sub_nil)))))))) a_ ha_
      refine t_seq (fun K21 hK21 => ?_)
      refine t_drawnC (fun _ => False) 21 (.take 0 { dst := (some 17), op := (Go.Op.load 23 (Go.Operand.tmp 1)), type := 23, pos := "law.go:23", after := #[], guard := none } (.take 2 { dst := (some 19), op := (Go.Op.load 23 (Go.Operand.tmp 1)), type := 23, pos := "law.go:23", after := #[], guard := none } (.one 1 { dst := (some 18), op := (Go.Op.call { callee := (Go.Callee.value (Go.Operand.func 13)), args := #[(Go.Operand.tmp 17)], argTypes := #[23] }), type := 4, pos := "law.go:23", after := #[{ on := 0, ground := Go.Ground.data }], guard := none } (.one 3 { dst := (some 20), op := (Go.Op.call { callee := (Go.Callee.value (Go.Operand.func 14)), args := #[(Go.Operand.tmp 19)], argTypes := #[23] }), type := 4, pos := "law.go:23", after := #[{ on := 2, ground := Go.Ground.data }, { on := 1, ground := Go.Ground.chain }], guard := none } (.take 4 { dst := (some 21), op := (Go.Op.binOp Go.BinOp.eql 4 (Go.Operand.tmp 18) (Go.Operand.tmp 20) 4), type := 4, pos := "law.go:23", after := #[{ on := 1, ground := Go.Ground.data }, { on := 3, ground := Go.Ground.data }], guard := none } (.take 5 { dst := (some 22), op := (Go.Op.move (Go.Operand.tmp 21)), type := 4, pos := "law.go:23", after := #[{ on := 4, ground := Go.Ground.data }, { on := 3, ground := Go.Ground.chain }], guard := none } (.take 6 { dst := (some 23), op := (Go.Op.move (Go.Operand.tmp 3)), type := 24, pos := "law.go:23", after := #[{ on := 5, ground := Go.Ground.guard }], guard := (some (5, true)) } (.take 7 { dst := (some 24), op := (Go.Op.convert 24 9 (Go.Operand.tmp 23)), type := 9, pos := "law.go:23", after := #[{ on := 6, ground := Go.Ground.data }, { on := 5, ground := Go.Ground.guard }], guard := (some (5, true)) } (.take 8 { dst := (some 25), op := (Go.Op.move (Go.Operand.tmp 5)), type := 24, pos := "law.go:23", after := #[{ on := 5, ground := Go.Ground.guard }], guard := (some (5, true)) } (.take 9 { dst := (some 26), op := (Go.Op.convert 24 9 (Go.Operand.tmp 25)), type := 9, pos := "law.go:23", after := #[{ on := 8, ground := Go.Ground.data }, { on := 5, ground := Go.Ground.guard }], guard := (some (5, true)) } (.take 10 { dst := (some 27), op := (Go.Op.binOp Go.BinOp.eql 9 (Go.Operand.tmp 24) (Go.Operand.tmp 26) 9), type := 4, pos := "law.go:23", after := #[{ on := 7, ground := Go.Ground.data }, { on := 9, ground := Go.Ground.data }, { on := 5, ground := Go.Ground.guard }], guard := (some (5, true)) } (.take 11 { dst := (some 28), op := (Go.Op.pick (Go.Operand.tmp 22) (Go.Operand.tmp 27) (Go.Operand.const (Go.Value.bool false))), type := 4, pos := "law.go:23", after := #[{ on := 5, ground := Go.Ground.data }, { on := 10, ground := Go.Ground.data }], guard := none } (.take 12 { dst := (some 29), op := (Go.Op.move (Go.Operand.tmp 28)), type := 4, pos := "law.go:23", after := #[{ on := 11, ground := Go.Ground.data }, { on := 5, ground := Go.Ground.chain }], guard := none } (.take 13 { dst := (some 30), op := (Go.Op.move (Go.Operand.tmp 4)), type := 25, pos := "law.go:23", after := #[{ on := 12, ground := Go.Ground.guard }], guard := (some (12, true)) } (.take 14 { dst := (some 31), op := (Go.Op.move (Go.Operand.tmp 6)), type := 25, pos := "law.go:23", after := #[{ on := 12, ground := Go.Ground.guard }], guard := (some (12, true)) } (.take 15 { dst := (some 32), op := (Go.Op.binOp Go.BinOp.eql 25 (Go.Operand.tmp 30) (Go.Operand.tmp 31) 25), type := 4, pos := "law.go:23", after := #[{ on := 13, ground := Go.Ground.data }, { on := 14, ground := Go.Ground.data }, { on := 12, ground := Go.Ground.guard }], guard := (some (12, true)) } (.take 16 { dst := (some 33), op := (Go.Op.pick (Go.Operand.tmp 29) (Go.Operand.tmp 32) (Go.Operand.const (Go.Value.bool false))), type := 4, pos := "law.go:23", after := #[{ on := 12, ground := Go.Ground.data }, { on := 15, ground := Go.Ground.data }], guard := none } (.take 17 { dst := (some 34), op := (Go.Op.move (Go.Operand.tmp 33)), type := 4, pos := "law.go:23", after := #[{ on := 16, ground := Go.Ground.data }, { on := 12, ground := Go.Ground.chain }], guard := none } (.one 18 { dst := (some 35), op := (Go.Op.call { callee := (Go.Callee.value (Go.Operand.func 15)), args := #[], argTypes := #[] }), type := 4, pos := "law.go:23", after := #[{ on := 17, ground := Go.Ground.chain }, { on := 17, ground := Go.Ground.guard }], guard := (some (17, true)) } (.take 19 { dst := (some 36), op := (Go.Op.pick (Go.Operand.tmp 34) (Go.Operand.tmp 35) (Go.Operand.const (Go.Value.bool false))), type := 4, pos := "law.go:23", after := #[{ on := 17, ground := Go.Ground.data }, { on := 18, ground := Go.Ground.data }], guard := none } (.take 20 { dst := (some 2), op := (Go.Op.assign (Go.Operand.tmp 36)), type := 4, pos := "law.go:23", after := #[{ on := 19, ground := Go.Ground.data }, { on := 18, ground := Go.Ground.chain }, { on := 0, ground := Go.Ground.phase }, { on := 1, ground := Go.Ground.phase }, { on := 2, ground := Go.Ground.phase }, { on := 3, ground := Go.Ground.phase }, { on := 4, ground := Go.Ground.phase }, { on := 5, ground := Go.Ground.phase }, { on := 6, ground := Go.Ground.phase }, { on := 7, ground := Go.Ground.phase }, { on := 8, ground := Go.Ground.phase }, { on := 9, ground := Go.Ground.phase }, { on := 10, ground := Go.Ground.phase }, { on := 11, ground := Go.Ground.phase }, { on := 12, ground := Go.Ground.phase }, { on := 13, ground := Go.Ground.phase }, { on := 14, ground := Go.Ground.phase }, { on := 15, ground := Go.Ground.phase }, { on := 16, ground := Go.Ground.phase }, { on := 17, ground := Go.Ground.phase }, { on := 18, ground := Go.Ground.phase }, { on := 19, ground := Go.Ground.phase }], guard := none } .done))))))))))))))))))))) rfl (by kernel_rfl) (by repeat (first | exact hB0 | apply blind_then | apply blind_in)) (by kernel_rfl) (by kernel_rfl) rfl (fun w22 hb23 hz24 => ?_)
      have h25 := (hb23.obj (fun x => x) (hchg16.obj (fun x => x) h15))
      refine td_takeC rfl (by decide) (fun w_ h_ => (do_loads (cs := [.bool big, .int .i64 gen, .int .i64 first, .int .i64 last]) rfl (by kernel_rfl) (obj_range (h_.obj (fun x => x) h25)))) ?_
      refine td_takeC rfl (by decide) (fun w_ h_ => (do_loads (cs := [.bool big, .int .i64 gen, .int .i64 first, .int .i64 last]) rfl (by kernel_rfl) (obj_range (h_.obj (fun x => x) h25)))) ?_
      refine td_one ?_
      refine td_callC rfl rfl (en_call (f := 13) (by kernel_rfl) rfl) (right_e big gen first last _) (fun v29 w27 hr28 => ?_) (fun _ _ h => h.elim) (fun _ h => h)
      obtain ⟨rfl, hchg26⟩ := hr28
      refine ⟨hchg26.mono (fun _ _ x => x.elim), ?_⟩
      have hz30 := hchg26.size
      refine td_one ?_
      refine td_callC rfl rfl (en_call (f := 14) (by kernel_rfl) rfl) (rright_e big gen first last _) (fun v34 w32 hr33 => ?_) (fun _ _ h => h.elim) (fun _ h => h)
      obtain ⟨rfl, hchg31⟩ := hr33
      refine ⟨hchg31.mono (fun _ _ x => x.elim), ?_⟩
      have hz35 := hchg31.size
      refine td_takeC rfl (by decide) (fun w_ h_ => (do_binop (r := .bool (decide (RightP gen first last) == decide (RightP gen first last))) rfl rfl (fun _ => rfl) (run_eql_bool _ _ _ _ (by kernel_rfl)))) ?_
      refine td_takeC rfl (by decide) (fun w_ h_ => (do_move rfl)) ?_
      have hk36 : (decide (RightP gen first last) == decide (RightP gen first last)) = true := (beq_self_eq_true _)
      refine td_takeC ⟨22, _, rfl, rfl, (by rw [hk36]; rfl)⟩ (by decide) (fun w_ h_ => (do_move rfl)) ?_
      have h37 := (Rd.chg hrd8 (Rd.chg hrd8 (Rd.chg hrd8 (Rd.chg hrd8 hrd8 hchg16 (fun _ _ x => x)) hb23 (fun _ _ x => x)) hchg26 (fun _ _ x => x)) hchg31 (fun _ _ x => x))
      refine td_takeC ⟨22, _, rfl, rfl, (by rw [hk36]; rfl)⟩ (by decide) (fun w_ h_ => (do_convert (u := .slice A8 ((sector big gen first last).length) c8) rfl (run_str (Rd.chg hrd8 h37 h_ (fun _ _ x => x))))) ?_
      refine td_takeC ⟨22, _, rfl, rfl, (by rw [hk36]; rfl)⟩ (by decide) (fun w_ h_ => (do_move rfl)) ?_
      have h38 := (Rd.chg hrd16 (Rd.chg hrd16 (Rd.chg hrd16 hrd16 hb23 (fun _ _ x => x)) hchg26 (fun _ _ x => x)) hchg31 (fun _ _ x => x))
      refine td_takeC ⟨22, _, rfl, rfl, (by rw [hk36]; rfl)⟩ (by decide) (fun w_ h_ => (do_convert (u := .slice A16 ((sector big gen first last).length) c16) rfl (run_str (Rd.chg hrd16 h38 h_ (fun _ _ x => x))))) ?_
      refine td_takeC ⟨22, _, rfl, rfl, (by rw [hk36]; rfl)⟩ (by decide) (fun w_ h_ => (do_eqs rfl rfl)) ?_
      refine td_takeC rfl (by decide) (fun w_ h_ => (do_pick_t rfl hk36 rfl)) ?_
      refine td_takeC rfl (by decide) (fun w_ h_ => (do_move rfl)) ?_
      have hk39 : (decide ((sector big gen first last) = (sector big gen first last))) = true := (decide_eq_true (show (sector big gen first last) = (sector big gen first last) from rfl))
      refine td_takeC ⟨29, _, rfl, rfl, (by rw [hk39]; rfl)⟩ (by decide) (fun w_ h_ => (do_move rfl)) ?_
      refine td_takeC ⟨29, _, rfl, rfl, (by rw [hk39]; rfl)⟩ (by decide) (fun w_ h_ => (do_move rfl)) ?_
      refine td_takeC ⟨29, _, rfl, rfl, (by rw [hk39]; rfl)⟩ (by decide) (fun w_ h_ => (do_eql rfl rfl)) ?_
      have hk40 : (decide ((0 : Int) = 0)) = true := by decide
      refine td_takeC rfl (by decide) (fun w_ h_ => (do_pick_t rfl hk39 rfl)) ?_
      refine td_takeC rfl (by decide) (fun w_ h_ => (do_move rfl)) ?_
      refine td_one ?_
      have h42 := (TabW.chg (TabW.chg (TabW.chg (TabW.chg (TabW.chg h9 hchg8 (fun x => x)) hchg16 (fun x => x)) hb23 (fun x => x)) hchg26 (fun x => x)) hchg31 (fun x => x))
      refine td_callC ⟨34, _, rfl, rfl, (by rw [hk40]; rfl)⟩ rfl (en_call (f := 15) (by kernel_rfl) rfl) (awake18_e h42) (fun v45 w43 hr44 => ?_) (fun _ _ h => h.elim) (fun _ h => h)
      obtain ⟨rfl, hchg41⟩ := hr44
      refine ⟨hchg41.mono (fun _ _ x => x.elim), ?_⟩
      have hz46 := hchg41.size
      refine td_takeC rfl (by decide) (fun w_ h_ => (do_pick_t rfl hk40 rfl)) ?_
      refine td_takeC rfl (by decide) (fun w_ h_ => (do_assign rfl)) ?_
      refine td_end ?_
      refine fun a_ ha_ => hK21 _ _ _ (T.sub (L' := [(0, .agg #[.bool big, .int .i64 gen, .int .i64 first, .int .i64 last]), (1, .pointer (some ⟨w.heap.size, 0, none⟩)), (2, .bool true), (3, .slice A8 ((sector big gen first last).length) c8), (4, .int .i64 0), (5, .slice A16 ((sector big gen first last).length) c16), (6, .int .i64 0)]) ?_ (sub_cons rfl (sub_cons rfl (sub_cons rfl (sub_cons rfl (sub_cons rfl (sub_cons rfl (sub_cons rfl sub_nil)))))))) a_ ha_
      refine t_ret ?_
      refine fun a_ ha_ => hQ0 _ _ _ (body_ret (rs := [.tmp 2]) (vs := [.bool true]) ha_ (by kernel_rfl) ⟨_, _, rfl, rfl, rfl⟩ ?_)
      exact ⟨rfl, ((((((((Chg.refl (fun k_ => False) w).step hb4 (fun k_ hk_ (h_ : False) => h_.elim)).step hchg8 (fun k_ hk_ (h_ : False) => h_.elim)).step hchg16 (fun k_ hk_ (h_ : False) => h_.elim)).step hb23 (fun k_ hk_ (h_ : False) => h_.elim)).step hchg26 (fun k_ hk_ (h_ : False) => h_.elim)).step hchg31 (fun k_ hk_ (h_ : False) => h_.elim)).step hchg41 (fun k_ hk_ (h_ : False) => h_.elim))⟩
  · refine tl_val (w' := w10) rfl (do_move rfl) (by decide) ?_
    refine tl_val (w' := w10) rfl (do_extract (v := .slice none 0 0) rfl rfl) (by decide) ?_
    refine tl_val (w' := w10) rfl (do_extract (v := .int .i64 1) rfl rfl) (by decide) ?_
    refine tl_val (w' := w10) rfl (do_assign rfl) (by decide) ?_
    refine tl_val (w' := w10) rfl (do_assign rfl) (by decide) ?_
    refine tl_end ?_
    refine fun a_ ha_ => hK7 _ _ _ (T.sub (L' := [(0, .agg #[.bool big, .int .i64 gen, .int .i64 first, .int .i64 last]), (1, .pointer (some ⟨w.heap.size, 0, none⟩)), (2, .bool false), (3, .slice none 0 0), (4, .int .i64 1)]) ?_ (sub_cons rfl (sub_cons rfl (sub_cons rfl (sub_cons rfl (sub_cons rfl sub_nil)))))) a_ ha_
    refine t_seq (fun K47 hK47 => ?_)
    refine t_region ?_
    have h48 := (hchg8.obj (fun x => x) hc6)
    refine tl_val (w' := w10) rfl (do_loads (cs := [.bool big, .int .i64 gen, .int .i64 first, .int .i64 last]) rfl (by kernel_rfl) (obj_range h48)) (by decide) ?_
    refine tl_call rfl (en_call (f := 12) (by kernel_rfl) rfl) rfl (rhput_e big gen first last _ (by omega) (by omega) (by omega)) (fun v52 w50 hr51 => ?_) (fun _ _ h => h.elim) (fun _ h => h)
    obtain ⟨hchg49, hp49⟩ := hr51
    have hz53 := hchg49.size
    rcases hp49.resolve_left (fun h_ => hright8 h_.1) with ⟨hright49, rfl⟩
    · refine tl_val (w' := w50) rfl (do_move rfl) (by decide) ?_
      refine tl_val (w' := w50) rfl (do_extract (v := .slice none 0 0) rfl rfl) (by decide) ?_
      refine tl_val (w' := w50) rfl (do_extract (v := .int .i64 1) rfl rfl) (by decide) ?_
      refine tl_val (w' := w50) rfl (do_assign rfl) (by decide) ?_
      refine tl_val (w' := w50) rfl (do_assign rfl) (by decide) ?_
      refine tl_end ?_
      refine fun a_ ha_ => hK47 _ _ _ (T.sub (L' := [(0, .agg #[.bool big, .int .i64 gen, .int .i64 first, .int .i64 last]), (1, .pointer (some ⟨w.heap.size, 0, none⟩)), (2, .bool false), (3, .slice none 0 0), (4, .int .i64 1), (5, .slice none 0 0), (6, .int .i64 1)]) ?_ (sub_cons rfl (sub_cons rfl (sub_cons rfl (sub_cons rfl (sub_cons rfl (sub_cons rfl (sub_cons rfl sub_nil)))))))) a_ ha_
      refine t_seq (fun K54 hK54 => ?_)
      refine t_drawnC (fun _ => False) 21 (.take 0 { dst := (some 17), op := (Go.Op.load 23 (Go.Operand.tmp 1)), type := 23, pos := "law.go:23", after := #[], guard := none } (.take 2 { dst := (some 19), op := (Go.Op.load 23 (Go.Operand.tmp 1)), type := 23, pos := "law.go:23", after := #[], guard := none } (.one 1 { dst := (some 18), op := (Go.Op.call { callee := (Go.Callee.value (Go.Operand.func 13)), args := #[(Go.Operand.tmp 17)], argTypes := #[23] }), type := 4, pos := "law.go:23", after := #[{ on := 0, ground := Go.Ground.data }], guard := none } (.one 3 { dst := (some 20), op := (Go.Op.call { callee := (Go.Callee.value (Go.Operand.func 14)), args := #[(Go.Operand.tmp 19)], argTypes := #[23] }), type := 4, pos := "law.go:23", after := #[{ on := 2, ground := Go.Ground.data }, { on := 1, ground := Go.Ground.chain }], guard := none } (.take 4 { dst := (some 21), op := (Go.Op.binOp Go.BinOp.eql 4 (Go.Operand.tmp 18) (Go.Operand.tmp 20) 4), type := 4, pos := "law.go:23", after := #[{ on := 1, ground := Go.Ground.data }, { on := 3, ground := Go.Ground.data }], guard := none } (.take 5 { dst := (some 22), op := (Go.Op.move (Go.Operand.tmp 21)), type := 4, pos := "law.go:23", after := #[{ on := 4, ground := Go.Ground.data }, { on := 3, ground := Go.Ground.chain }], guard := none } (.take 6 { dst := (some 23), op := (Go.Op.move (Go.Operand.tmp 3)), type := 24, pos := "law.go:23", after := #[{ on := 5, ground := Go.Ground.guard }], guard := (some (5, true)) } (.take 7 { dst := (some 24), op := (Go.Op.convert 24 9 (Go.Operand.tmp 23)), type := 9, pos := "law.go:23", after := #[{ on := 6, ground := Go.Ground.data }, { on := 5, ground := Go.Ground.guard }], guard := (some (5, true)) } (.take 8 { dst := (some 25), op := (Go.Op.move (Go.Operand.tmp 5)), type := 24, pos := "law.go:23", after := #[{ on := 5, ground := Go.Ground.guard }], guard := (some (5, true)) } (.take 9 { dst := (some 26), op := (Go.Op.convert 24 9 (Go.Operand.tmp 25)), type := 9, pos := "law.go:23", after := #[{ on := 8, ground := Go.Ground.data }, { on := 5, ground := Go.Ground.guard }], guard := (some (5, true)) } (.take 10 { dst := (some 27), op := (Go.Op.binOp Go.BinOp.eql 9 (Go.Operand.tmp 24) (Go.Operand.tmp 26) 9), type := 4, pos := "law.go:23", after := #[{ on := 7, ground := Go.Ground.data }, { on := 9, ground := Go.Ground.data }, { on := 5, ground := Go.Ground.guard }], guard := (some (5, true)) } (.take 11 { dst := (some 28), op := (Go.Op.pick (Go.Operand.tmp 22) (Go.Operand.tmp 27) (Go.Operand.const (Go.Value.bool false))), type := 4, pos := "law.go:23", after := #[{ on := 5, ground := Go.Ground.data }, { on := 10, ground := Go.Ground.data }], guard := none } (.take 12 { dst := (some 29), op := (Go.Op.move (Go.Operand.tmp 28)), type := 4, pos := "law.go:23", after := #[{ on := 11, ground := Go.Ground.data }, { on := 5, ground := Go.Ground.chain }], guard := none } (.take 13 { dst := (some 30), op := (Go.Op.move (Go.Operand.tmp 4)), type := 25, pos := "law.go:23", after := #[{ on := 12, ground := Go.Ground.guard }], guard := (some (12, true)) } (.take 14 { dst := (some 31), op := (Go.Op.move (Go.Operand.tmp 6)), type := 25, pos := "law.go:23", after := #[{ on := 12, ground := Go.Ground.guard }], guard := (some (12, true)) } (.take 15 { dst := (some 32), op := (Go.Op.binOp Go.BinOp.eql 25 (Go.Operand.tmp 30) (Go.Operand.tmp 31) 25), type := 4, pos := "law.go:23", after := #[{ on := 13, ground := Go.Ground.data }, { on := 14, ground := Go.Ground.data }, { on := 12, ground := Go.Ground.guard }], guard := (some (12, true)) } (.take 16 { dst := (some 33), op := (Go.Op.pick (Go.Operand.tmp 29) (Go.Operand.tmp 32) (Go.Operand.const (Go.Value.bool false))), type := 4, pos := "law.go:23", after := #[{ on := 12, ground := Go.Ground.data }, { on := 15, ground := Go.Ground.data }], guard := none } (.take 17 { dst := (some 34), op := (Go.Op.move (Go.Operand.tmp 33)), type := 4, pos := "law.go:23", after := #[{ on := 16, ground := Go.Ground.data }, { on := 12, ground := Go.Ground.chain }], guard := none } (.one 18 { dst := (some 35), op := (Go.Op.call { callee := (Go.Callee.value (Go.Operand.func 15)), args := #[], argTypes := #[] }), type := 4, pos := "law.go:23", after := #[{ on := 17, ground := Go.Ground.chain }, { on := 17, ground := Go.Ground.guard }], guard := (some (17, true)) } (.take 19 { dst := (some 36), op := (Go.Op.pick (Go.Operand.tmp 34) (Go.Operand.tmp 35) (Go.Operand.const (Go.Value.bool false))), type := 4, pos := "law.go:23", after := #[{ on := 17, ground := Go.Ground.data }, { on := 18, ground := Go.Ground.data }], guard := none } (.take 20 { dst := (some 2), op := (Go.Op.assign (Go.Operand.tmp 36)), type := 4, pos := "law.go:23", after := #[{ on := 19, ground := Go.Ground.data }, { on := 18, ground := Go.Ground.chain }, { on := 0, ground := Go.Ground.phase }, { on := 1, ground := Go.Ground.phase }, { on := 2, ground := Go.Ground.phase }, { on := 3, ground := Go.Ground.phase }, { on := 4, ground := Go.Ground.phase }, { on := 5, ground := Go.Ground.phase }, { on := 6, ground := Go.Ground.phase }, { on := 7, ground := Go.Ground.phase }, { on := 8, ground := Go.Ground.phase }, { on := 9, ground := Go.Ground.phase }, { on := 10, ground := Go.Ground.phase }, { on := 11, ground := Go.Ground.phase }, { on := 12, ground := Go.Ground.phase }, { on := 13, ground := Go.Ground.phase }, { on := 14, ground := Go.Ground.phase }, { on := 15, ground := Go.Ground.phase }, { on := 16, ground := Go.Ground.phase }, { on := 17, ground := Go.Ground.phase }, { on := 18, ground := Go.Ground.phase }, { on := 19, ground := Go.Ground.phase }], guard := none } .done))))))))))))))))))))) rfl (by kernel_rfl) (by repeat (first | exact hB0 | apply blind_then | apply blind_in)) (by kernel_rfl) (by kernel_rfl) rfl (fun w55 hb56 hz57 => ?_)
      have h58 := (hb56.obj (fun x => x) (hchg49.obj (fun x => x) h48))
      refine td_takeC rfl (by decide) (fun w_ h_ => (do_loads (cs := [.bool big, .int .i64 gen, .int .i64 first, .int .i64 last]) rfl (by kernel_rfl) (obj_range (h_.obj (fun x => x) h58)))) ?_
      refine td_takeC rfl (by decide) (fun w_ h_ => (do_loads (cs := [.bool big, .int .i64 gen, .int .i64 first, .int .i64 last]) rfl (by kernel_rfl) (obj_range (h_.obj (fun x => x) h58)))) ?_
      refine td_one ?_
      refine td_callC rfl rfl (en_call (f := 13) (by kernel_rfl) rfl) (right_e big gen first last _) (fun v62 w60 hr61 => ?_) (fun _ _ h => h.elim) (fun _ h => h)
      obtain ⟨rfl, hchg59⟩ := hr61
      refine ⟨hchg59.mono (fun _ _ x => x.elim), ?_⟩
      have hz63 := hchg59.size
      refine td_one ?_
      refine td_callC rfl rfl (en_call (f := 14) (by kernel_rfl) rfl) (rright_e big gen first last _) (fun v67 w65 hr66 => ?_) (fun _ _ h => h.elim) (fun _ h => h)
      obtain ⟨rfl, hchg64⟩ := hr66
      refine ⟨hchg64.mono (fun _ _ x => x.elim), ?_⟩
      have hz68 := hchg64.size
      refine td_takeC rfl (by decide) (fun w_ h_ => (do_binop (r := .bool (decide (RightP gen first last) == decide (RightP gen first last))) rfl rfl (fun _ => rfl) (run_eql_bool _ _ _ _ (by kernel_rfl)))) ?_
      refine td_takeC rfl (by decide) (fun w_ h_ => (do_move rfl)) ?_
      have hk69 : (decide (RightP gen first last) == decide (RightP gen first last)) = true := (beq_self_eq_true _)
      refine td_takeC ⟨22, _, rfl, rfl, (by rw [hk69]; rfl)⟩ (by decide) (fun w_ h_ => (do_move rfl)) ?_
      refine td_takeC ⟨22, _, rfl, rfl, (by rw [hk69]; rfl)⟩ (by decide) (fun w_ h_ => (do_convert (u := .slice none 0 0) rfl (run_str (Rd.nilAt w_)))) ?_
      refine td_takeC ⟨22, _, rfl, rfl, (by rw [hk69]; rfl)⟩ (by decide) (fun w_ h_ => (do_move rfl)) ?_
      refine td_takeC ⟨22, _, rfl, rfl, (by rw [hk69]; rfl)⟩ (by decide) (fun w_ h_ => (do_convert (u := .slice none 0 0) rfl (run_str (Rd.nilAt w_)))) ?_
      refine td_takeC ⟨22, _, rfl, rfl, (by rw [hk69]; rfl)⟩ (by decide) (fun w_ h_ => (do_eqs rfl rfl)) ?_
      refine td_takeC rfl (by decide) (fun w_ h_ => (do_pick_t rfl hk69 rfl)) ?_
      refine td_takeC rfl (by decide) (fun w_ h_ => (do_move rfl)) ?_
      have hk70 : (decide (([] : List UInt8) = ([] : List UInt8))) = true := (decide_eq_true (show ([] : List UInt8) = ([] : List UInt8) from rfl))
      refine td_takeC ⟨29, _, rfl, rfl, (by rw [hk70]; rfl)⟩ (by decide) (fun w_ h_ => (do_move rfl)) ?_
      refine td_takeC ⟨29, _, rfl, rfl, (by rw [hk70]; rfl)⟩ (by decide) (fun w_ h_ => (do_move rfl)) ?_
      refine td_takeC ⟨29, _, rfl, rfl, (by rw [hk70]; rfl)⟩ (by decide) (fun w_ h_ => (do_eql rfl rfl)) ?_
      have hk71 : (decide ((1 : Int) = 1)) = true := by decide
      refine td_takeC rfl (by decide) (fun w_ h_ => (do_pick_t rfl hk70 rfl)) ?_
      refine td_takeC rfl (by decide) (fun w_ h_ => (do_move rfl)) ?_
      refine td_one ?_
      have h73 := (TabW.chg (TabW.chg (TabW.chg (TabW.chg (TabW.chg h9 hchg8 (fun x => x)) hchg49 (fun x => x)) hb56 (fun x => x)) hchg59 (fun x => x)) hchg64 (fun x => x))
      refine td_callC ⟨34, _, rfl, rfl, (by rw [hk71]; rfl)⟩ rfl (en_call (f := 15) (by kernel_rfl) rfl) (awake18_e h73) (fun v76 w74 hr75 => ?_) (fun _ _ h => h.elim) (fun _ h => h)
      obtain ⟨rfl, hchg72⟩ := hr75
      refine ⟨hchg72.mono (fun _ _ x => x.elim), ?_⟩
      have hz77 := hchg72.size
      refine td_takeC rfl (by decide) (fun w_ h_ => (do_pick_t rfl hk71 rfl)) ?_
      refine td_takeC rfl (by decide) (fun w_ h_ => (do_assign rfl)) ?_
      refine td_end ?_
      refine fun a_ ha_ => hK54 _ _ _ (T.sub (L' := [(0, .agg #[.bool big, .int .i64 gen, .int .i64 first, .int .i64 last]), (1, .pointer (some ⟨w.heap.size, 0, none⟩)), (2, .bool true), (3, .slice none 0 0), (4, .int .i64 1), (5, .slice none 0 0), (6, .int .i64 1)]) ?_ (sub_cons rfl (sub_cons rfl (sub_cons rfl (sub_cons rfl (sub_cons rfl (sub_cons rfl (sub_cons rfl sub_nil)))))))) a_ ha_
      refine t_ret ?_
      refine fun a_ ha_ => hQ0 _ _ _ (body_ret (rs := [.tmp 2]) (vs := [.bool true]) ha_ (by kernel_rfl) ⟨_, _, rfl, rfl, rfl⟩ ?_)
      exact ⟨rfl, ((((((((Chg.refl (fun k_ => False) w).step hb4 (fun k_ hk_ (h_ : False) => h_.elim)).step hchg8 (fun k_ hk_ (h_ : False) => h_.elim)).step hchg49 (fun k_ hk_ (h_ : False) => h_.elim)).step hb56 (fun k_ hk_ (h_ : False) => h_.elim)).step hchg59 (fun k_ hk_ (h_ : False) => h_.elim)).step hchg64 (fun k_ hk_ (h_ : False) => h_.elim)).step hchg72 (fun k_ hk_ (h_ : False) => h_.elim))⟩
set_option maxHeartbeats 1600000 in
theorem headGets_walk (A : Option Addr) (c : Nat) (lb : List UInt8) (w : World) (hT : TabW w) (ha : Rd w A c lb) :
    Calls Tryd.prog 4 #[.slice A lb.length c] w (RetTrue w) := by
  suffices h : Calls Tryd.prog 4 [.slice A lb.length c].toArray w (Ret fun v w' => v = .bool true ∧ Chg (fun _ => False) w w') from h.mono fun e w' h => ret_true h
  refine enter (n := 43) (L := [(0, .slice A lb.length c)]) (args := [.slice A lb.length c]) Tryd.func4 rfl rfl (Nat.le_of_ble_eq_true rfl) (by intro t v h; exact look_args h) ?_
  refine t_body (fun Q0 hB0 hQ0 => ?_)
  have hgt := TabW.lt hT
  have hla := ha.len
  refine t_seq (fun K1 hK1 => ?_)
  refine t_region ?_
  refine tl_val (w' := w) rfl (do_assign rfl) (by decide) ?_
  refine tl_end ?_
  refine fun a_ ha_ => hK1 _ _ _ (T.sub (L' := [(0, .slice A lb.length c), (2, .bool false)]) ?_ (sub_cons rfl (sub_cons rfl sub_nil))) a_ ha_
  refine t_seq (fun K2 hK2 => ?_)
  refine t_seq (fun K3 hK3 => ?_)
  refine t_region ?_
  refine tl_val (w' := w) rfl (do_move rfl) (by decide) ?_
  refine tl_val (w' := w) rfl (do_builtin (v := .int .i64 (lb.length : Int)) rfl (fun _ _ => by kernel_rfl)) (by decide) ?_
  refine tl_val (w' := w) rfl (do_gtr rfl rfl) (by decide) ?_
  refine tl_end ?_
  refine fun a_ ha_ => hK3 _ _ _ (T.sub (L' := [(0, .slice A lb.length c), (2, .bool false), (10, .bool (decide ((lb.length : Int) > 200)))]) ?_ (sub_cons rfl (sub_cons rfl (sub_cons rfl sub_nil)))) a_ ha_
  by_cases hc4 : (lb.length : Int) > 200
  · have hk5 := decide_eq_true hc4
    refine t_yes rfl hk5 ?_
    refine t_seq (fun K6 hK6 => ?_)
    refine t_region ?_
    refine tl_call rfl (en_call (f := 15) (by kernel_rfl) rfl) rfl (awake18_e hT) (fun v10 w8 hr9 => ?_) (fun _ _ h => h.elim) (fun _ h => h)
    obtain ⟨rfl, hchg7⟩ := hr9
    have hz11 := hchg7.size
    refine tl_val (w' := w8) rfl (do_assign rfl) (by decide) ?_
    refine tl_end ?_
    refine fun a_ ha_ => hK6 _ _ _ (T.sub (L' := [(0, .slice A lb.length c), (2, .bool true), (10, .bool (decide ((lb.length : Int) > 200)))]) ?_ (sub_cons rfl (sub_cons rfl (sub_cons rfl sub_nil)))) a_ ha_
    refine t_ret ?_
    refine fun a_ ha_ => hQ0 _ _ _ (body_ret (rs := [.tmp 2]) (vs := [.bool true]) ha_ (by kernel_rfl) ⟨_, _, rfl, rfl, rfl⟩ ?_)
    exact ⟨rfl, ((Chg.refl (fun k_ => False) w).step hchg7 (fun k_ hk_ (h_ : False) => h_.elim))⟩
  · have hk5 := decide_eq_false hc4
    refine t_no rfl hk5 ?_
    refine t_skip ?_
    refine fun a_ ha_ => hK2 _ _ _ (T.sub (L' := [(0, .slice A lb.length c), (2, .bool false), (10, .bool (decide ((lb.length : Int) > 200)))]) ?_ (sub_cons rfl (sub_cons rfl (sub_cons rfl sub_nil)))) a_ ha_
    refine t_seq (fun K12 hK12 => ?_)
    refine t_region ?_
    refine tl_val rfl (do_buildSlice (vs := []) (v := .slice (some ⟨w.heap.size, 0, none⟩) 0 0) (w' := w.alloc (.cells #[] 5)) rfl (by kernel_rfl)) (by decide) ?_
    refine tl_gen (fun w13 e14 => ?_)
    have hb15 : Chg (fun _ => False) w w13 := e14 ▸ Chg.alloc _ _
    have hz16 : w13.heap.size = w.heap.size + 1 := by rw [e14]; exact size_alloc _ _
    have hc17 : w13.heap[w.heap.size]? = some (.cells #[] 5 (0, 0)) := by rw [e14]; exact obj_new _ _
    clear e14
    refine tl_val (w' := w13) rfl (do_move rfl) (by decide) ?_
    have ho18 : OwB w13 w.heap.size (.slice (some ⟨w.heap.size, 0, none⟩) 0 0) ([] : List UInt8) := OwB.of_obj (l := ([] : List UInt8)) (cs := []) hc17 (by rfl) (Nat.le_refl _) (by decide)
    have h20 := (Rd.chg ha ha hb15 (fun _ _ x => x))
    obtain ⟨v19, w21, hr19, ho19, hg19⟩ := app_run ho18 h20 (by omega) (by first | omega | (simp only [List.length_append, List.length_replicate, List.length_cons, List.length_nil]; omega))
    obtain ⟨A19, c19, rfl, hrd19⟩ := OwB.rd ho19
    have hz22 := hg19.size
    refine tl_val rfl (do_builtin rfl (fun ty_ cs_ => hr19 ty_ cs_)) (by decide) ?_
    refine tl_val (w' := w21) rfl (do_assign rfl) (by decide) ?_
    refine tl_end ?_
    refine fun a_ ha_ => hK12 _ _ _ (T.sub (L' := [(0, .slice A lb.length c), (2, .bool false), (3, .slice A19 ((([] : List UInt8) ++ lb).length) c19), (10, .bool (decide ((lb.length : Int) > 200)))]) ?_ (sub_cons rfl (sub_cons rfl (sub_cons rfl (sub_cons rfl sub_nil))))) a_ ha_
    refine t_seq (fun K23 hK23 => ?_)
    refine t_region ?_
    refine tl_val (w' := w21) rfl (do_move rfl) (by decide) ?_
    have h25 := (TabW.chg (TabW.chg hT hb15 (fun x => x)) hg19 (fun e_ => by have := OwB.block ho18 _ e_.symm; omega))
    refine tl_call rfl (en_call (f := 16) (by kernel_rfl) rfl) rfl (get_e h25 hrd19) (fun v28 w26 hr27 => ?_) (fun _ _ h => h.elim) (fun _ h => h)
    obtain ⟨rfl, hchg24⟩ := hr27
    have hz29 := hchg24.size
    refine tl_val (w' := w26) rfl (do_move rfl) (by decide) ?_
    refine tl_val (w' := w26) rfl (do_extract (v := .agg #[.bool ((got (([] : List UInt8) ++ lb)).1.1), .int .i64 ((got (([] : List UInt8) ++ lb)).1.2.1), .int .i64 ((got (([] : List UInt8) ++ lb)).1.2.2.1), .int .i64 ((got (([] : List UInt8) ++ lb)).1.2.2.2)]) rfl rfl) (by decide) ?_
    refine tl_val (w' := w26) rfl (do_extract (v := .int .i64 (((got (([] : List UInt8) ++ lb)).2 : Nat) : Int)) rfl rfl) (by decide) ?_
    refine tl_val rfl (do_alloc (v := .pointer (some ⟨w26.heap.size, 0, none⟩)) (w' := w26.alloc (.cells #[.bool false, .int .i64 0, .int .i64 0, .int .i64 0] 23)) (by kernel_rfl)) (by decide) ?_
    refine tl_gen (fun w30 e31 => ?_)
    have hb32 : Chg (fun _ => False) w26 w30 := e31 ▸ Chg.alloc _ _
    have hz33 : w30.heap.size = w26.heap.size + 1 := by rw [e31]; exact size_alloc _ _
    have hc34 : w30.heap[w26.heap.size]? = some (.cells #[.bool false, .int .i64 0, .int .i64 0, .int .i64 0] 23 (0, 0)) := by rw [e31]; exact obj_new _ _
    clear e31
    refine tl_unit rfl (do_storesB (cs := [.bool ((got (([] : List UInt8) ++ lb)).1.1), .int .i64 ((got (([] : List UInt8) ++ lb)).1.2.1), .int .i64 ((got (([] : List UInt8) ++ lb)).1.2.2.1), .int .i64 ((got (([] : List UInt8) ++ lb)).1.2.2.2)]) rfl rfl (by rfl) (by kernel_rfl) hc34 (Nat.le_of_ble_eq_true rfl)) ?_
    refine tl_gen (fun w35 e36 => ?_)
    have hb37 : Chg (fun k => k = w26.heap.size) w30 w35 := e36 ▸ Chg.setCells _ _ 0 [.bool ((got (([] : List UInt8) ++ lb)).1.1), .int .i64 ((got (([] : List UInt8) ++ lb)).1.2.1), .int .i64 ((got (([] : List UInt8) ++ lb)).1.2.2.1), .int .i64 ((got (([] : List UInt8) ++ lb)).1.2.2.2)]
    have hz38 : w35.heap.size = w30.heap.size := by rw [e36]; exact sc_size _ _ _ _
    have hc39 : w35.heap[w26.heap.size]? = some (.cells #[.bool ((got (([] : List UInt8) ++ lb)).1.1), .int .i64 ((got (([] : List UInt8) ++ lb)).1.2.1), .int .i64 ((got (([] : List UInt8) ++ lb)).1.2.2.1), .int .i64 ((got (([] : List UInt8) ++ lb)).1.2.2.2)] 23 (0, 0)) := by rw [e36]; exact obj_setCells [.bool ((got (([] : List UInt8) ++ lb)).1.1), .int .i64 ((got (([] : List UInt8) ++ lb)).1.2.1), .int .i64 ((got (([] : List UInt8) ++ lb)).1.2.2.1), .int .i64 ((got (([] : List UInt8) ++ lb)).1.2.2.2)] 0 hc34
    clear e36
    refine tl_val (w' := w35) rfl (do_assign rfl) (by decide) ?_
    refine tl_end ?_
    refine fun a_ ha_ => hK23 _ _ _ (T.sub (L' := [(0, .slice A lb.length c), (2, .bool false), (3, .slice A19 ((([] : List UInt8) ++ lb).length) c19), (4, .pointer (some ⟨w26.heap.size, 0, none⟩)), (5, .int .i64 (((got (([] : List UInt8) ++ lb)).2 : Nat) : Int)), (10, .bool (decide ((lb.length : Int) > 200)))]) ?_ (sub_cons rfl (sub_cons rfl (sub_cons rfl (sub_cons rfl (sub_cons rfl (sub_cons rfl sub_nil))))))) a_ ha_
    refine t_seq (fun K40 hK40 => ?_)
    refine t_region ?_
    refine tl_val (w' := w35) rfl (do_move rfl) (by decide) ?_
    have h42 := (Rd.chgNe (Rd.chg ha (Rd.chg ha (Rd.chg ha h20 hg19 (fun k_ hk_ e_ => by have := OwB.block ho18 _ e_.symm; omega)) hchg24 (fun _ _ x => x)) hb32 (fun _ _ x => x)) hb37 (fun a_ h1_ h2_ => Rd.ne (cs := [.bool false, .int .i64 0, .int .i64 0, .int .i64 0]) (Rd.chg ha (Rd.chg ha (Rd.chg ha h20 hg19 (fun k_ hk_ e_ => by have := OwB.block ho18 _ e_.symm; omega)) hchg24 (fun _ _ x => x)) hb32 (fun _ _ x => x)) hc34 (by rfl) a_ h1_ h2_))
    refine tl_call rfl (en_call (f := 17) (by kernel_rfl) rfl) rfl (rget_e h42) (fun v45 w43 hr44 => ?_) (fun _ _ h => h.elim) (fun _ h => h)
    obtain ⟨rfl, hchg41⟩ := hr44
    have hz46 := hchg41.size
    refine tl_val (w' := w43) rfl (do_move rfl) (by decide) ?_
    refine tl_val (w' := w43) rfl (do_extract (v := .agg #[.bool ((got lb).1.1), .int .i64 ((got lb).1.2.1), .int .i64 ((got lb).1.2.2.1), .int .i64 ((got lb).1.2.2.2)]) rfl rfl) (by decide) ?_
    refine tl_val (w' := w43) rfl (do_extract (v := .int .i64 (((got lb).2 : Nat) : Int)) rfl rfl) (by decide) ?_
    refine tl_val rfl (do_alloc (v := .pointer (some ⟨w43.heap.size, 0, none⟩)) (w' := w43.alloc (.cells #[.bool false, .int .i64 0, .int .i64 0, .int .i64 0] 23)) (by kernel_rfl)) (by decide) ?_
    refine tl_gen (fun w47 e48 => ?_)
    have hb49 : Chg (fun _ => False) w43 w47 := e48 ▸ Chg.alloc _ _
    have hz50 : w47.heap.size = w43.heap.size + 1 := by rw [e48]; exact size_alloc _ _
    have hc51 : w47.heap[w43.heap.size]? = some (.cells #[.bool false, .int .i64 0, .int .i64 0, .int .i64 0] 23 (0, 0)) := by rw [e48]; exact obj_new _ _
    clear e48
    refine tl_unit rfl (do_storesB (cs := [.bool ((got lb).1.1), .int .i64 ((got lb).1.2.1), .int .i64 ((got lb).1.2.2.1), .int .i64 ((got lb).1.2.2.2)]) rfl rfl (by rfl) (by kernel_rfl) hc51 (Nat.le_of_ble_eq_true rfl)) ?_
    refine tl_gen (fun w52 e53 => ?_)
    have hb54 : Chg (fun k => k = w43.heap.size) w47 w52 := e53 ▸ Chg.setCells _ _ 0 [.bool ((got lb).1.1), .int .i64 ((got lb).1.2.1), .int .i64 ((got lb).1.2.2.1), .int .i64 ((got lb).1.2.2.2)]
    have hz55 : w52.heap.size = w47.heap.size := by rw [e53]; exact sc_size _ _ _ _
    have hc56 : w52.heap[w43.heap.size]? = some (.cells #[.bool ((got lb).1.1), .int .i64 ((got lb).1.2.1), .int .i64 ((got lb).1.2.2.1), .int .i64 ((got lb).1.2.2.2)] 23 (0, 0)) := by rw [e53]; exact obj_setCells [.bool ((got lb).1.1), .int .i64 ((got lb).1.2.1), .int .i64 ((got lb).1.2.2.1), .int .i64 ((got lb).1.2.2.2)] 0 hc51
    clear e53
    refine tl_val (w' := w52) rfl (do_assign rfl) (by decide) ?_
    refine tl_end ?_
    refine fun a_ ha_ => hK40 _ _ _ (T.sub (L' := [(0, .slice A lb.length c), (2, .bool false), (3, .slice A19 ((([] : List UInt8) ++ lb).length) c19), (4, .pointer (some ⟨w26.heap.size, 0, none⟩)), (5, .int .i64 (((got (([] : List UInt8) ++ lb)).2 : Nat) : Int)), (6, .pointer (some ⟨w43.heap.size, 0, none⟩)), (7, .int .i64 (((got lb).2 : Nat) : Int)), (10, .bool (decide ((lb.length : Int) > 200)))]) ?_ (sub_cons rfl (sub_cons rfl (sub_cons rfl (sub_cons rfl (sub_cons rfl (sub_cons rfl (sub_cons rfl (sub_cons rfl sub_nil))))))))) a_ ha_
    refine t_seq (fun K57 hK57 => ?_)
    refine t_region ?_
    have h58 := (hb54.obj (show ¬ w26.heap.size = w43.heap.size by omega) (hb49.obj (fun x => x) (hchg41.obj (fun x => x) hc39)))
    refine tl_val (w' := w52) rfl (do_loads (cs := [.bool ((got (([] : List UInt8) ++ lb)).1.1), .int .i64 ((got (([] : List UInt8) ++ lb)).1.2.1), .int .i64 ((got (([] : List UInt8) ++ lb)).1.2.2.1), .int .i64 ((got (([] : List UInt8) ++ lb)).1.2.2.2)]) rfl (by kernel_rfl) (obj_range h58)) (by decide) ?_
    refine tl_val (w' := w52) rfl (do_loads (cs := [.bool ((got lb).1.1), .int .i64 ((got lb).1.2.1), .int .i64 ((got lb).1.2.2.1), .int .i64 ((got lb).1.2.2.2)]) rfl (by kernel_rfl) (obj_range hc56)) (by decide) ?_
    refine tl_val (w' := w52) rfl (do_eqst (p := ((got (([] : List UInt8) ++ lb)).1.1) = ((got lb).1.1) ∧ ((got (([] : List UInt8) ++ lb)).1.2.1) = ((got lb).1.2.1) ∧ ((got (([] : List UInt8) ++ lb)).1.2.2.1) = ((got lb).1.2.2.1) ∧ ((got (([] : List UInt8) ++ lb)).1.2.2.2) = ((got lb).1.2.2.2)) (xs := [.b ((got (([] : List UInt8) ++ lb)).1.1), .i .i64 ((got (([] : List UInt8) ++ lb)).1.2.1), .i .i64 ((got (([] : List UInt8) ++ lb)).1.2.2.1), .i .i64 ((got (([] : List UInt8) ++ lb)).1.2.2.2)]) (ys := [.b ((got lb).1.1), .i .i64 ((got lb).1.2.1), .i .i64 ((got lb).1.2.2.1), .i .i64 ((got lb).1.2.2.2)]) rfl rfl (by kernel_rfl) rfl (by simp [all2, Sc.same])) (by decide) ?_
    refine tl_val (w' := w52) rfl (do_move rfl) (by decide) ?_
    have hk59 : (decide (((got (([] : List UInt8) ++ lb)).1.1) = ((got lb).1.1) ∧ ((got (([] : List UInt8) ++ lb)).1.2.1) = ((got lb).1.2.1) ∧ ((got (([] : List UInt8) ++ lb)).1.2.2.1) = ((got lb).1.2.2.1) ∧ ((got (([] : List UInt8) ++ lb)).1.2.2.2) = ((got lb).1.2.2.2))) = true := (decide_eq_true (show ((got (([] : List UInt8) ++ lb)).1.1) = ((got lb).1.1) ∧ ((got (([] : List UInt8) ++ lb)).1.2.1) = ((got lb).1.2.1) ∧ ((got (([] : List UInt8) ++ lb)).1.2.2.1) = ((got lb).1.2.2.1) ∧ ((got (([] : List UInt8) ++ lb)).1.2.2.2) = ((got lb).1.2.2.2) from ⟨rfl, rfl, rfl, rfl⟩))
    refine tl_val (w' := w52) ⟨28, _, rfl, rfl, (by rw [hk59]; rfl)⟩ (do_move rfl) (by decide) ?_
    refine tl_val (w' := w52) ⟨28, _, rfl, rfl, (by rw [hk59]; rfl)⟩ (do_move rfl) (by decide) ?_
    refine tl_val (w' := w52) ⟨28, _, rfl, rfl, (by rw [hk59]; rfl)⟩ (do_eql rfl rfl) (by decide) ?_
    refine tl_val (w' := w52) rfl (do_pick_t rfl hk59 rfl) (by decide) ?_
    refine tl_val (w' := w52) rfl (do_move rfl) (by decide) ?_
    have hk60 : (decide ((((got (([] : List UInt8) ++ lb)).2 : Nat) : Int) = (((got lb).2 : Nat) : Int))) = true := (decide_eq_true (show (((got (([] : List UInt8) ++ lb)).2 : Nat) : Int) = (((got lb).2 : Nat) : Int) from rfl))
    refine tl_val (w' := w52) ⟨33, _, rfl, rfl, (by rw [hk60]; rfl)⟩ (do_move rfl) (by decide) ?_
    have h61 := (Rd.chgNe (Rd.chg hrd19 (Rd.chg hrd19 (Rd.chgNe (Rd.chg hrd19 (Rd.chg hrd19 hrd19 hchg24 (fun _ _ x => x)) hb32 (fun _ _ x => x)) hb37 (fun a_ h1_ h2_ => Rd.ne (cs := [.bool false, .int .i64 0, .int .i64 0, .int .i64 0]) (Rd.chg hrd19 (Rd.chg hrd19 hrd19 hchg24 (fun _ _ x => x)) hb32 (fun _ _ x => x)) hc34 (by rfl) a_ h1_ h2_)) hchg41 (fun _ _ x => x)) hb49 (fun _ _ x => x)) hb54 (fun a_ h1_ h2_ => Rd.ne (cs := [.bool false, .int .i64 0, .int .i64 0, .int .i64 0]) (Rd.chg hrd19 (Rd.chg hrd19 (Rd.chgNe (Rd.chg hrd19 (Rd.chg hrd19 hrd19 hchg24 (fun _ _ x => x)) hb32 (fun _ _ x => x)) hb37 (fun a_ h1_ h2_ => Rd.ne (cs := [.bool false, .int .i64 0, .int .i64 0, .int .i64 0]) (Rd.chg hrd19 (Rd.chg hrd19 hrd19 hchg24 (fun _ _ x => x)) hb32 (fun _ _ x => x)) hc34 (by rfl) a_ h1_ h2_)) hchg41 (fun _ _ x => x)) hb49 (fun _ _ x => x)) hc51 (by rfl) a_ h1_ h2_))
    refine tl_val (w' := w52) ⟨33, _, rfl, rfl, (by rw [hk60]; rfl)⟩ (do_convert (u := .slice A19 ((([] : List UInt8) ++ lb).length) c19) rfl (run_str h61)) (by decide) ?_
    refine tl_val (w' := w52) ⟨33, _, rfl, rfl, (by rw [hk60]; rfl)⟩ (do_move rfl) (by decide) ?_
    have h62 := (Rd.chgNe (Rd.chg ha (Rd.chg ha h42 hchg41 (fun _ _ x => x)) hb49 (fun _ _ x => x)) hb54 (fun a_ h1_ h2_ => Rd.ne (cs := [.bool false, .int .i64 0, .int .i64 0, .int .i64 0]) (Rd.chg ha (Rd.chg ha h42 hchg41 (fun _ _ x => x)) hb49 (fun _ _ x => x)) hc51 (by rfl) a_ h1_ h2_))
    refine tl_val (w' := w52) ⟨33, _, rfl, rfl, (by rw [hk60]; rfl)⟩ (do_convert (u := .slice A lb.length c) rfl (run_str h62)) (by decide) ?_
    refine tl_val (w' := w52) ⟨33, _, rfl, rfl, (by rw [hk60]; rfl)⟩ (do_eqs rfl rfl) (by decide) ?_
    refine tl_val (w' := w52) rfl (do_pick_t rfl hk60 rfl) (by decide) ?_
    refine tl_val (w' := w52) rfl (do_move rfl) (by decide) ?_
    have hk63 : (decide ((([] : List UInt8) ++ lb) = lb)) = true := (decide_eq_true (show (([] : List UInt8) ++ lb) = lb from rfl))
    have h65 := (TabW.chg (TabW.chg (TabW.chg (TabW.chg (TabW.chg (TabW.chg h25 hchg24 (fun x => x)) hb32 (fun x => x)) hb37 (show ¬ 0 = w26.heap.size by omega)) hchg41 (fun x => x)) hb49 (fun x => x)) hb54 (show ¬ 0 = w43.heap.size by omega))
    refine tl_call ⟨40, _, rfl, rfl, (by rw [hk63]; rfl)⟩ (en_call (f := 15) (by kernel_rfl) rfl) rfl (awake18_e h65) (fun v68 w66 hr67 => ?_) (fun _ _ h => h.elim) (fun _ h => h)
    obtain ⟨rfl, hchg64⟩ := hr67
    have hz69 := hchg64.size
    refine tl_val (w' := w66) rfl (do_pick_t rfl hk63 rfl) (by decide) ?_
    refine tl_val (w' := w66) rfl (do_assign rfl) (by decide) ?_
    refine tl_end ?_
    refine fun a_ ha_ => hK57 _ _ _ (T.sub (L' := [(0, .slice A lb.length c), (2, .bool true), (3, .slice A19 ((([] : List UInt8) ++ lb).length) c19), (4, .pointer (some ⟨w26.heap.size, 0, none⟩)), (5, .int .i64 (((got (([] : List UInt8) ++ lb)).2 : Nat) : Int)), (6, .pointer (some ⟨w43.heap.size, 0, none⟩)), (7, .int .i64 (((got lb).2 : Nat) : Int)), (10, .bool (decide ((lb.length : Int) > 200)))]) ?_ (sub_cons rfl (sub_cons rfl (sub_cons rfl (sub_cons rfl (sub_cons rfl (sub_cons rfl (sub_cons rfl (sub_cons rfl sub_nil))))))))) a_ ha_
    refine t_ret ?_
    refine fun a_ ha_ => hQ0 _ _ _ (body_ret (rs := [.tmp 2]) (vs := [.bool true]) ha_ (by kernel_rfl) ⟨_, _, rfl, rfl, rfl⟩ ?_)
    exact ⟨rfl, ((((((((((Chg.refl (fun k_ => False) w).step hb15 (fun k_ hk_ (h_ : False) => h_.elim)).step hg19 (fun k_ hk_ (h_ : some k_ = Value.ownBlock (.slice (some ⟨w.heap.size, 0, none⟩) 0 0)) => (show False by have := OwB.block ho18 _ h_.symm; omega))).step hchg24 (fun k_ hk_ (h_ : False) => h_.elim)).step hb32 (fun k_ hk_ (h_ : False) => h_.elim)).step hb37 (fun k_ hk_ (h_ : k_ = w26.heap.size) => (show False by omega))).step hchg41 (fun k_ hk_ (h_ : False) => h_.elim)).step hb49 (fun k_ hk_ (h_ : False) => h_.elim)).step hb54 (fun k_ hk_ (h_ : k_ = w43.heap.size) => (show False by omega))).step hchg64 (fun k_ hk_ (h_ : False) => h_.elim))⟩
set_option maxHeartbeats 1600000 in
theorem headNexts_walk (big : Bool) (gen first last : Int) (f2 e2 : Int) (w : World) (hT : TabW w) (hg : -9223372036854775808 ≤ gen ∧ gen ≤ 9223372036854775807) (hf : -9223372036854775808 ≤ first ∧ first ≤ 9223372036854775807) (hl : -9223372036854775808 ≤ last ∧ last ≤ 9223372036854775807) (hf2 : (Lit.int .i64 f2).wf = true) (he2 : (Lit.int .i64 e2).wf = true) :
    Calls Tryd.prog 9 #[.agg #[.bool big, .int .i64 gen, .int .i64 first, .int .i64 last], .int .i64 f2, .int .i64 e2] w (RetTrue w) := by
  suffices h : Calls Tryd.prog 9 [.agg #[.bool big, .int .i64 gen, .int .i64 first, .int .i64 last], .int .i64 f2, .int .i64 e2].toArray w (Ret fun v w' => v = .bool true ∧ Chg (fun _ => False) w w') from h.mono fun e w' h => ret_true h
  refine enter (n := 36) (L := [(0, .agg #[.bool big, .int .i64 gen, .int .i64 first, .int .i64 last]), (1, .int .i64 f2), (2, .int .i64 e2)]) (args := [.agg #[.bool big, .int .i64 gen, .int .i64 first, .int .i64 last], .int .i64 f2, .int .i64 e2]) Tryd.func9 rfl rfl (Nat.le_of_ble_eq_true rfl) (by intro t v h; exact look_args h) ?_
  refine t_body (fun Q0 hB0 hQ0 => ?_)
  have hgt := TabW.lt hT
  refine t_seq (fun K1 hK1 => ?_)
  refine t_region ?_
  refine tl_val rfl (do_box (v := .pointer (some ⟨w.heap.size, 0, none⟩)) (w' := w.alloc (.cells #[.bool big, .int .i64 gen, .int .i64 first, .int .i64 last] 23)) rfl (by kernel_rfl)) (by decide) ?_
  refine tl_gen (fun w2 e3 => ?_)
  have hb4 : Chg (fun _ => False) w w2 := e3 ▸ Chg.alloc _ _
  have hz5 : w2.heap.size = w.heap.size + 1 := by rw [e3]; exact size_alloc _ _
  have hc6 : w2.heap[w.heap.size]? = some (.cells #[.bool big, .int .i64 gen, .int .i64 first, .int .i64 last] 23 (0, 0)) := by rw [e3]; exact obj_new _ _
  clear e3
  refine tl_val (w' := w2) rfl (do_assign rfl) (by decide) ?_
  refine tl_end ?_
  refine fun a_ ha_ => hK1 _ _ _ (T.sub (L' := [(0, .agg #[.bool big, .int .i64 gen, .int .i64 first, .int .i64 last]), (1, .int .i64 f2), (2, .int .i64 e2), (3, .pointer (some ⟨w.heap.size, 0, none⟩)), (6, .bool false)]) ?_ (sub_cons rfl (sub_cons rfl (sub_cons rfl (sub_cons rfl (sub_cons rfl sub_nil)))))) a_ ha_
  refine t_seq (fun K7 hK7 => ?_)
  refine t_region ?_
  refine tl_val (w' := w2) rfl (do_loads (cs := [.bool big, .int .i64 gen, .int .i64 first, .int .i64 last]) rfl (by kernel_rfl) (obj_range hc6)) (by decide) ?_
  refine tl_val (w' := w2) rfl (do_move rfl) (by decide) ?_
  refine tl_val (w' := w2) rfl (do_move rfl) (by decide) ?_
  refine tl_call rfl (en_call (f := 20) (by kernel_rfl) rfl) rfl (next_e big gen first last f2 e2 _ (by omega)) (fun v11 w9 hr10 => ?_) (fun _ _ h => h.elim) (fun _ h => h)
  obtain ⟨hchg8, hx8⟩ := hr10
  have hz12 := hchg8.size
  rcases hx8 with ⟨hn8, rfl⟩ | ⟨hn8, hm8, rfl⟩ | ⟨hn8, hm8, rfl⟩
  · refine tl_val (w' := w9) rfl (do_move rfl) (by decide) ?_
    refine tl_val (w' := w9) rfl (do_extract (v := .agg #[.bool false, .int .i64 0, .int .i64 0, .int .i64 0]) rfl rfl) (by decide) ?_
    refine tl_val (w' := w9) rfl (do_extract (v := .int .i64 1) rfl rfl) (by decide) ?_
    refine tl_val rfl (do_alloc (v := .pointer (some ⟨w9.heap.size, 0, none⟩)) (w' := w9.alloc (.cells #[.bool false, .int .i64 0, .int .i64 0, .int .i64 0] 23)) (by kernel_rfl)) (by decide) ?_
    refine tl_gen (fun w13 e14 => ?_)
    have hb15 : Chg (fun _ => False) w9 w13 := e14 ▸ Chg.alloc _ _
    have hz16 : w13.heap.size = w9.heap.size + 1 := by rw [e14]; exact size_alloc _ _
    have hc17 : w13.heap[w9.heap.size]? = some (.cells #[.bool false, .int .i64 0, .int .i64 0, .int .i64 0] 23 (0, 0)) := by rw [e14]; exact obj_new _ _
    clear e14
    refine tl_unit rfl (do_storesB (cs := [.bool false, .int .i64 0, .int .i64 0, .int .i64 0]) rfl rfl (by rfl) (by kernel_rfl) hc17 (Nat.le_of_ble_eq_true rfl)) ?_
    refine tl_gen (fun w18 e19 => ?_)
    have hb20 : Chg (fun k => k = w9.heap.size) w13 w18 := e19 ▸ Chg.setCells _ _ 0 [.bool false, .int .i64 0, .int .i64 0, .int .i64 0]
    have hz21 : w18.heap.size = w13.heap.size := by rw [e19]; exact sc_size _ _ _ _
    have hc22 : w18.heap[w9.heap.size]? = some (.cells #[.bool false, .int .i64 0, .int .i64 0, .int .i64 0] 23 (0, 0)) := by rw [e19]; exact obj_setCells [.bool false, .int .i64 0, .int .i64 0, .int .i64 0] 0 hc17
    clear e19
    refine tl_val (w' := w18) rfl (do_assign rfl) (by decide) ?_
    refine tl_end ?_
    refine fun a_ ha_ => hK7 _ _ _ (T.sub (L' := [(0, .agg #[.bool big, .int .i64 gen, .int .i64 first, .int .i64 last]), (1, .int .i64 f2), (2, .int .i64 e2), (3, .pointer (some ⟨w.heap.size, 0, none⟩)), (6, .bool false), (7, .pointer (some ⟨w9.heap.size, 0, none⟩)), (8, .int .i64 1)]) ?_ (sub_cons rfl (sub_cons rfl (sub_cons rfl (sub_cons rfl (sub_cons rfl (sub_cons rfl (sub_cons rfl sub_nil)))))))) a_ ha_
    refine t_seq (fun K23 hK23 => ?_)
    refine t_region ?_
    have h24 := (hb20.obj (show ¬ w.heap.size = w9.heap.size by omega) (hb15.obj (fun x => x) (hchg8.obj (fun x => x) hc6)))
    refine tl_val (w' := w18) rfl (do_loads (cs := [.bool big, .int .i64 gen, .int .i64 first, .int .i64 last]) rfl (by kernel_rfl) (obj_range h24)) (by decide) ?_
    refine tl_val (w' := w18) rfl (do_move rfl) (by decide) ?_
    refine tl_val (w' := w18) rfl (do_move rfl) (by decide) ?_
    refine tl_call rfl (en_call (f := 21) (by kernel_rfl) rfl) rfl (rnext_e big gen first last f2 e2 _ (by omega)) (fun v28 w26 hr27 => ?_) (fun _ _ h => h.elim) (fun _ h => h)
    obtain ⟨hchg25, hx25⟩ := hr27
    have hz29 := hchg25.size
    rcases hx25.resolve_right (fun h_ => h_.elim (fun h_ => hn8 h_.1) (fun h_ => hn8 h_.1)) with ⟨hn25, rfl⟩
    · refine tl_val (w' := w26) rfl (do_move rfl) (by decide) ?_
      refine tl_val (w' := w26) rfl (do_extract (v := .agg #[.bool false, .int .i64 0, .int .i64 0, .int .i64 0]) rfl rfl) (by decide) ?_
      refine tl_val (w' := w26) rfl (do_extract (v := .int .i64 1) rfl rfl) (by decide) ?_
      refine tl_val rfl (do_alloc (v := .pointer (some ⟨w26.heap.size, 0, none⟩)) (w' := w26.alloc (.cells #[.bool false, .int .i64 0, .int .i64 0, .int .i64 0] 23)) (by kernel_rfl)) (by decide) ?_
      refine tl_gen (fun w30 e31 => ?_)
      have hb32 : Chg (fun _ => False) w26 w30 := e31 ▸ Chg.alloc _ _
      have hz33 : w30.heap.size = w26.heap.size + 1 := by rw [e31]; exact size_alloc _ _
      have hc34 : w30.heap[w26.heap.size]? = some (.cells #[.bool false, .int .i64 0, .int .i64 0, .int .i64 0] 23 (0, 0)) := by rw [e31]; exact obj_new _ _
      clear e31
      refine tl_unit rfl (do_storesB (cs := [.bool false, .int .i64 0, .int .i64 0, .int .i64 0]) rfl rfl (by rfl) (by kernel_rfl) hc34 (Nat.le_of_ble_eq_true rfl)) ?_
      refine tl_gen (fun w35 e36 => ?_)
      have hb37 : Chg (fun k => k = w26.heap.size) w30 w35 := e36 ▸ Chg.setCells _ _ 0 [.bool false, .int .i64 0, .int .i64 0, .int .i64 0]
      have hz38 : w35.heap.size = w30.heap.size := by rw [e36]; exact sc_size _ _ _ _
      have hc39 : w35.heap[w26.heap.size]? = some (.cells #[.bool false, .int .i64 0, .int .i64 0, .int .i64 0] 23 (0, 0)) := by rw [e36]; exact obj_setCells [.bool false, .int .i64 0, .int .i64 0, .int .i64 0] 0 hc34
      clear e36
      refine tl_val (w' := w35) rfl (do_assign rfl) (by decide) ?_
      refine tl_end ?_
      refine fun a_ ha_ => hK23 _ _ _ (T.sub (L' := [(0, .agg #[.bool big, .int .i64 gen, .int .i64 first, .int .i64 last]), (1, .int .i64 f2), (2, .int .i64 e2), (3, .pointer (some ⟨w.heap.size, 0, none⟩)), (6, .bool false), (7, .pointer (some ⟨w9.heap.size, 0, none⟩)), (8, .int .i64 1), (9, .pointer (some ⟨w26.heap.size, 0, none⟩)), (10, .int .i64 1)]) ?_ (sub_cons rfl (sub_cons rfl (sub_cons rfl (sub_cons rfl (sub_cons rfl (sub_cons rfl (sub_cons rfl (sub_cons rfl (sub_cons rfl sub_nil)))))))))) a_ ha_
      refine t_seq (fun K40 hK40 => ?_)
      refine t_region ?_
      have h41 := (hb37.obj (show ¬ w9.heap.size = w26.heap.size by omega) (hb32.obj (fun x => x) (hchg25.obj (fun x => x) hc22)))
      refine tl_val (w' := w35) rfl (do_loads (cs := [.bool false, .int .i64 0, .int .i64 0, .int .i64 0]) rfl (by kernel_rfl) (obj_range h41)) (by decide) ?_
      refine tl_val (w' := w35) rfl (do_loads (cs := [.bool false, .int .i64 0, .int .i64 0, .int .i64 0]) rfl (by kernel_rfl) (obj_range hc39)) (by decide) ?_
      refine tl_val (w' := w35) rfl (do_eqst (p := false = false ∧ (0 : Int) = 0 ∧ (0 : Int) = 0 ∧ (0 : Int) = 0) (xs := [.b false, .i .i64 0, .i .i64 0, .i .i64 0]) (ys := [.b false, .i .i64 0, .i .i64 0, .i .i64 0]) rfl rfl (by kernel_rfl) rfl (by simp [all2, Sc.same])) (by decide) ?_
      refine tl_val (w' := w35) rfl (do_move rfl) (by decide) ?_
      have hk42 : (decide (false = false ∧ (0 : Int) = 0 ∧ (0 : Int) = 0 ∧ (0 : Int) = 0)) = true := (decide_eq_true (show false = false ∧ (0 : Int) = 0 ∧ (0 : Int) = 0 ∧ (0 : Int) = 0 from ⟨rfl, rfl, rfl, rfl⟩))
      refine tl_val (w' := w35) ⟨28, _, rfl, rfl, (by rw [hk42]; rfl)⟩ (do_move rfl) (by decide) ?_
      refine tl_val (w' := w35) ⟨28, _, rfl, rfl, (by rw [hk42]; rfl)⟩ (do_move rfl) (by decide) ?_
      refine tl_val (w' := w35) ⟨28, _, rfl, rfl, (by rw [hk42]; rfl)⟩ (do_eql rfl rfl) (by decide) ?_
      have hk43 : (decide ((1 : Int) = 1)) = true := by decide
      refine tl_val (w' := w35) rfl (do_pick_t rfl hk42 rfl) (by decide) ?_
      refine tl_val (w' := w35) rfl (do_move rfl) (by decide) ?_
      have h45 := (TabW.chg (TabW.chg (TabW.chg (TabW.chg (TabW.chg (TabW.chg (TabW.chg hT hb4 (fun x => x)) hchg8 (fun x => x)) hb15 (fun x => x)) hb20 (show ¬ 0 = w9.heap.size by omega)) hchg25 (fun x => x)) hb32 (fun x => x)) hb37 (show ¬ 0 = w26.heap.size by omega))
      refine tl_call ⟨33, _, rfl, rfl, (by rw [hk43]; rfl)⟩ (en_call (f := 15) (by kernel_rfl) rfl) rfl (awake18_e h45) (fun v48 w46 hr47 => ?_) (fun _ _ h => h.elim) (fun _ h => h)
      obtain ⟨rfl, hchg44⟩ := hr47
      have hz49 := hchg44.size
      refine tl_val (w' := w46) rfl (do_pick_t rfl hk43 rfl) (by decide) ?_
      refine tl_val (w' := w46) rfl (do_assign rfl) (by decide) ?_
      refine tl_end ?_
      refine fun a_ ha_ => hK40 _ _ _ (T.sub (L' := [(0, .agg #[.bool big, .int .i64 gen, .int .i64 first, .int .i64 last]), (1, .int .i64 f2), (2, .int .i64 e2), (3, .pointer (some ⟨w.heap.size, 0, none⟩)), (6, .bool true), (7, .pointer (some ⟨w9.heap.size, 0, none⟩)), (8, .int .i64 1), (9, .pointer (some ⟨w26.heap.size, 0, none⟩)), (10, .int .i64 1)]) ?_ (sub_cons rfl (sub_cons rfl (sub_cons rfl (sub_cons rfl (sub_cons rfl (sub_cons rfl (sub_cons rfl (sub_cons rfl (sub_cons rfl sub_nil)))))))))) a_ ha_
      refine t_ret ?_
      refine fun a_ ha_ => hQ0 _ _ _ (body_ret (rs := [.tmp 6]) (vs := [.bool true]) ha_ (by kernel_rfl) ⟨_, _, rfl, rfl, rfl⟩ ?_)
      exact ⟨rfl, (((((((((Chg.refl (fun k_ => False) w).step hb4 (fun k_ hk_ (h_ : False) => h_.elim)).step hchg8 (fun k_ hk_ (h_ : False) => h_.elim)).step hb15 (fun k_ hk_ (h_ : False) => h_.elim)).step hb20 (fun k_ hk_ (h_ : k_ = w9.heap.size) => (show False by omega))).step hchg25 (fun k_ hk_ (h_ : False) => h_.elim)).step hb32 (fun k_ hk_ (h_ : False) => h_.elim)).step hb37 (fun k_ hk_ (h_ : k_ = w26.heap.size) => (show False by omega))).step hchg44 (fun k_ hk_ (h_ : False) => h_.elim))⟩
  · refine tl_val (w' := w9) rfl (do_move rfl) (by decide) ?_
    refine tl_val (w' := w9) rfl (do_extract (v := .agg #[.bool false, .int .i64 0, .int .i64 0, .int .i64 0]) rfl rfl) (by decide) ?_
    refine tl_val (w' := w9) rfl (do_extract (v := .int .i64 2) rfl rfl) (by decide) ?_
    refine tl_val rfl (do_alloc (v := .pointer (some ⟨w9.heap.size, 0, none⟩)) (w' := w9.alloc (.cells #[.bool false, .int .i64 0, .int .i64 0, .int .i64 0] 23)) (by kernel_rfl)) (by decide) ?_
    refine tl_gen (fun w50 e51 => ?_)
    have hb52 : Chg (fun _ => False) w9 w50 := e51 ▸ Chg.alloc _ _
    have hz53 : w50.heap.size = w9.heap.size + 1 := by rw [e51]; exact size_alloc _ _
    have hc54 : w50.heap[w9.heap.size]? = some (.cells #[.bool false, .int .i64 0, .int .i64 0, .int .i64 0] 23 (0, 0)) := by rw [e51]; exact obj_new _ _
    clear e51
    refine tl_unit rfl (do_storesB (cs := [.bool false, .int .i64 0, .int .i64 0, .int .i64 0]) rfl rfl (by rfl) (by kernel_rfl) hc54 (Nat.le_of_ble_eq_true rfl)) ?_
    refine tl_gen (fun w55 e56 => ?_)
    have hb57 : Chg (fun k => k = w9.heap.size) w50 w55 := e56 ▸ Chg.setCells _ _ 0 [.bool false, .int .i64 0, .int .i64 0, .int .i64 0]
    have hz58 : w55.heap.size = w50.heap.size := by rw [e56]; exact sc_size _ _ _ _
    have hc59 : w55.heap[w9.heap.size]? = some (.cells #[.bool false, .int .i64 0, .int .i64 0, .int .i64 0] 23 (0, 0)) := by rw [e56]; exact obj_setCells [.bool false, .int .i64 0, .int .i64 0, .int .i64 0] 0 hc54
    clear e56
    refine tl_val (w' := w55) rfl (do_assign rfl) (by decide) ?_
    refine tl_end ?_
    refine fun a_ ha_ => hK7 _ _ _ (T.sub (L' := [(0, .agg #[.bool big, .int .i64 gen, .int .i64 first, .int .i64 last]), (1, .int .i64 f2), (2, .int .i64 e2), (3, .pointer (some ⟨w.heap.size, 0, none⟩)), (6, .bool false), (7, .pointer (some ⟨w9.heap.size, 0, none⟩)), (8, .int .i64 2)]) ?_ (sub_cons rfl (sub_cons rfl (sub_cons rfl (sub_cons rfl (sub_cons rfl (sub_cons rfl (sub_cons rfl sub_nil)))))))) a_ ha_
    refine t_seq (fun K60 hK60 => ?_)
    refine t_region ?_
    have h61 := (hb57.obj (show ¬ w.heap.size = w9.heap.size by omega) (hb52.obj (fun x => x) (hchg8.obj (fun x => x) hc6)))
    refine tl_val (w' := w55) rfl (do_loads (cs := [.bool big, .int .i64 gen, .int .i64 first, .int .i64 last]) rfl (by kernel_rfl) (obj_range h61)) (by decide) ?_
    refine tl_val (w' := w55) rfl (do_move rfl) (by decide) ?_
    refine tl_val (w' := w55) rfl (do_move rfl) (by decide) ?_
    refine tl_call rfl (en_call (f := 21) (by kernel_rfl) rfl) rfl (rnext_e big gen first last f2 e2 _ (by omega)) (fun v65 w63 hr64 => ?_) (fun _ _ h => h.elim) (fun _ h => h)
    obtain ⟨hchg62, hx62⟩ := hr64
    have hz66 := hchg62.size
    rcases (hx62.resolve_left (fun h_ => h_.1 hn8)).resolve_right (fun h_ => hm8 h_.2.1) with ⟨hn62, hm62, rfl⟩
    · refine tl_val (w' := w63) rfl (do_move rfl) (by decide) ?_
      refine tl_val (w' := w63) rfl (do_extract (v := .agg #[.bool false, .int .i64 0, .int .i64 0, .int .i64 0]) rfl rfl) (by decide) ?_
      refine tl_val (w' := w63) rfl (do_extract (v := .int .i64 2) rfl rfl) (by decide) ?_
      refine tl_val rfl (do_alloc (v := .pointer (some ⟨w63.heap.size, 0, none⟩)) (w' := w63.alloc (.cells #[.bool false, .int .i64 0, .int .i64 0, .int .i64 0] 23)) (by kernel_rfl)) (by decide) ?_
      refine tl_gen (fun w67 e68 => ?_)
      have hb69 : Chg (fun _ => False) w63 w67 := e68 ▸ Chg.alloc _ _
      have hz70 : w67.heap.size = w63.heap.size + 1 := by rw [e68]; exact size_alloc _ _
      have hc71 : w67.heap[w63.heap.size]? = some (.cells #[.bool false, .int .i64 0, .int .i64 0, .int .i64 0] 23 (0, 0)) := by rw [e68]; exact obj_new _ _
      clear e68
      refine tl_unit rfl (do_storesB (cs := [.bool false, .int .i64 0, .int .i64 0, .int .i64 0]) rfl rfl (by rfl) (by kernel_rfl) hc71 (Nat.le_of_ble_eq_true rfl)) ?_
      refine tl_gen (fun w72 e73 => ?_)
      have hb74 : Chg (fun k => k = w63.heap.size) w67 w72 := e73 ▸ Chg.setCells _ _ 0 [.bool false, .int .i64 0, .int .i64 0, .int .i64 0]
      have hz75 : w72.heap.size = w67.heap.size := by rw [e73]; exact sc_size _ _ _ _
      have hc76 : w72.heap[w63.heap.size]? = some (.cells #[.bool false, .int .i64 0, .int .i64 0, .int .i64 0] 23 (0, 0)) := by rw [e73]; exact obj_setCells [.bool false, .int .i64 0, .int .i64 0, .int .i64 0] 0 hc71
      clear e73
      refine tl_val (w' := w72) rfl (do_assign rfl) (by decide) ?_
      refine tl_end ?_
      refine fun a_ ha_ => hK60 _ _ _ (T.sub (L' := [(0, .agg #[.bool big, .int .i64 gen, .int .i64 first, .int .i64 last]), (1, .int .i64 f2), (2, .int .i64 e2), (3, .pointer (some ⟨w.heap.size, 0, none⟩)), (6, .bool false), (7, .pointer (some ⟨w9.heap.size, 0, none⟩)), (8, .int .i64 2), (9, .pointer (some ⟨w63.heap.size, 0, none⟩)), (10, .int .i64 2)]) ?_ (sub_cons rfl (sub_cons rfl (sub_cons rfl (sub_cons rfl (sub_cons rfl (sub_cons rfl (sub_cons rfl (sub_cons rfl (sub_cons rfl sub_nil)))))))))) a_ ha_
      refine t_seq (fun K77 hK77 => ?_)
      refine t_region ?_
      have h78 := (hb74.obj (show ¬ w9.heap.size = w63.heap.size by omega) (hb69.obj (fun x => x) (hchg62.obj (fun x => x) hc59)))
      refine tl_val (w' := w72) rfl (do_loads (cs := [.bool false, .int .i64 0, .int .i64 0, .int .i64 0]) rfl (by kernel_rfl) (obj_range h78)) (by decide) ?_
      refine tl_val (w' := w72) rfl (do_loads (cs := [.bool false, .int .i64 0, .int .i64 0, .int .i64 0]) rfl (by kernel_rfl) (obj_range hc76)) (by decide) ?_
      refine tl_val (w' := w72) rfl (do_eqst (p := false = false ∧ (0 : Int) = 0 ∧ (0 : Int) = 0 ∧ (0 : Int) = 0) (xs := [.b false, .i .i64 0, .i .i64 0, .i .i64 0]) (ys := [.b false, .i .i64 0, .i .i64 0, .i .i64 0]) rfl rfl (by kernel_rfl) rfl (by simp [all2, Sc.same])) (by decide) ?_
      refine tl_val (w' := w72) rfl (do_move rfl) (by decide) ?_
      have hk79 : (decide (false = false ∧ (0 : Int) = 0 ∧ (0 : Int) = 0 ∧ (0 : Int) = 0)) = true := (decide_eq_true (show false = false ∧ (0 : Int) = 0 ∧ (0 : Int) = 0 ∧ (0 : Int) = 0 from ⟨rfl, rfl, rfl, rfl⟩))
      refine tl_val (w' := w72) ⟨28, _, rfl, rfl, (by rw [hk79]; rfl)⟩ (do_move rfl) (by decide) ?_
      refine tl_val (w' := w72) ⟨28, _, rfl, rfl, (by rw [hk79]; rfl)⟩ (do_move rfl) (by decide) ?_
      refine tl_val (w' := w72) ⟨28, _, rfl, rfl, (by rw [hk79]; rfl)⟩ (do_eql rfl rfl) (by decide) ?_
      have hk80 : (decide ((2 : Int) = 2)) = true := by decide
      refine tl_val (w' := w72) rfl (do_pick_t rfl hk79 rfl) (by decide) ?_
      refine tl_val (w' := w72) rfl (do_move rfl) (by decide) ?_
      have h82 := (TabW.chg (TabW.chg (TabW.chg (TabW.chg (TabW.chg (TabW.chg (TabW.chg hT hb4 (fun x => x)) hchg8 (fun x => x)) hb52 (fun x => x)) hb57 (show ¬ 0 = w9.heap.size by omega)) hchg62 (fun x => x)) hb69 (fun x => x)) hb74 (show ¬ 0 = w63.heap.size by omega))
      refine tl_call ⟨33, _, rfl, rfl, (by rw [hk80]; rfl)⟩ (en_call (f := 15) (by kernel_rfl) rfl) rfl (awake18_e h82) (fun v85 w83 hr84 => ?_) (fun _ _ h => h.elim) (fun _ h => h)
      obtain ⟨rfl, hchg81⟩ := hr84
      have hz86 := hchg81.size
      refine tl_val (w' := w83) rfl (do_pick_t rfl hk80 rfl) (by decide) ?_
      refine tl_val (w' := w83) rfl (do_assign rfl) (by decide) ?_
      refine tl_end ?_
      refine fun a_ ha_ => hK77 _ _ _ (T.sub (L' := [(0, .agg #[.bool big, .int .i64 gen, .int .i64 first, .int .i64 last]), (1, .int .i64 f2), (2, .int .i64 e2), (3, .pointer (some ⟨w.heap.size, 0, none⟩)), (6, .bool true), (7, .pointer (some ⟨w9.heap.size, 0, none⟩)), (8, .int .i64 2), (9, .pointer (some ⟨w63.heap.size, 0, none⟩)), (10, .int .i64 2)]) ?_ (sub_cons rfl (sub_cons rfl (sub_cons rfl (sub_cons rfl (sub_cons rfl (sub_cons rfl (sub_cons rfl (sub_cons rfl (sub_cons rfl sub_nil)))))))))) a_ ha_
      refine t_ret ?_
      refine fun a_ ha_ => hQ0 _ _ _ (body_ret (rs := [.tmp 6]) (vs := [.bool true]) ha_ (by kernel_rfl) ⟨_, _, rfl, rfl, rfl⟩ ?_)
      exact ⟨rfl, (((((((((Chg.refl (fun k_ => False) w).step hb4 (fun k_ hk_ (h_ : False) => h_.elim)).step hchg8 (fun k_ hk_ (h_ : False) => h_.elim)).step hb52 (fun k_ hk_ (h_ : False) => h_.elim)).step hb57 (fun k_ hk_ (h_ : k_ = w9.heap.size) => (show False by omega))).step hchg62 (fun k_ hk_ (h_ : False) => h_.elim)).step hb69 (fun k_ hk_ (h_ : False) => h_.elim)).step hb74 (fun k_ hk_ (h_ : k_ = w63.heap.size) => (show False by omega))).step hchg81 (fun k_ hk_ (h_ : False) => h_.elim))⟩
  · refine tl_val (w' := w9) rfl (do_move rfl) (by decide) ?_
    refine tl_val (w' := w9) rfl (do_extract (v := .agg #[.bool big, .int .i64 (gen + 1), .int .i64 f2, .int .i64 e2]) rfl rfl) (by decide) ?_
    refine tl_val (w' := w9) rfl (do_extract (v := .int .i64 0) rfl rfl) (by decide) ?_
    refine tl_val rfl (do_alloc (v := .pointer (some ⟨w9.heap.size, 0, none⟩)) (w' := w9.alloc (.cells #[.bool false, .int .i64 0, .int .i64 0, .int .i64 0] 23)) (by kernel_rfl)) (by decide) ?_
    refine tl_gen (fun w87 e88 => ?_)
    have hb89 : Chg (fun _ => False) w9 w87 := e88 ▸ Chg.alloc _ _
    have hz90 : w87.heap.size = w9.heap.size + 1 := by rw [e88]; exact size_alloc _ _
    have hc91 : w87.heap[w9.heap.size]? = some (.cells #[.bool false, .int .i64 0, .int .i64 0, .int .i64 0] 23 (0, 0)) := by rw [e88]; exact obj_new _ _
    clear e88
    refine tl_unit rfl (do_storesB (cs := [.bool big, .int .i64 (gen + 1), .int .i64 f2, .int .i64 e2]) rfl rfl (by rfl) (by kernel_rfl) hc91 (Nat.le_of_ble_eq_true rfl)) ?_
    refine tl_gen (fun w92 e93 => ?_)
    have hb94 : Chg (fun k => k = w9.heap.size) w87 w92 := e93 ▸ Chg.setCells _ _ 0 [.bool big, .int .i64 (gen + 1), .int .i64 f2, .int .i64 e2]
    have hz95 : w92.heap.size = w87.heap.size := by rw [e93]; exact sc_size _ _ _ _
    have hc96 : w92.heap[w9.heap.size]? = some (.cells #[.bool big, .int .i64 (gen + 1), .int .i64 f2, .int .i64 e2] 23 (0, 0)) := by rw [e93]; exact obj_setCells [.bool big, .int .i64 (gen + 1), .int .i64 f2, .int .i64 e2] 0 hc91
    clear e93
    refine tl_val (w' := w92) rfl (do_assign rfl) (by decide) ?_
    refine tl_end ?_
    refine fun a_ ha_ => hK7 _ _ _ (T.sub (L' := [(0, .agg #[.bool big, .int .i64 gen, .int .i64 first, .int .i64 last]), (1, .int .i64 f2), (2, .int .i64 e2), (3, .pointer (some ⟨w.heap.size, 0, none⟩)), (6, .bool false), (7, .pointer (some ⟨w9.heap.size, 0, none⟩)), (8, .int .i64 0)]) ?_ (sub_cons rfl (sub_cons rfl (sub_cons rfl (sub_cons rfl (sub_cons rfl (sub_cons rfl (sub_cons rfl sub_nil)))))))) a_ ha_
    refine t_seq (fun K97 hK97 => ?_)
    refine t_region ?_
    have h98 := (hb94.obj (show ¬ w.heap.size = w9.heap.size by omega) (hb89.obj (fun x => x) (hchg8.obj (fun x => x) hc6)))
    refine tl_val (w' := w92) rfl (do_loads (cs := [.bool big, .int .i64 gen, .int .i64 first, .int .i64 last]) rfl (by kernel_rfl) (obj_range h98)) (by decide) ?_
    refine tl_val (w' := w92) rfl (do_move rfl) (by decide) ?_
    refine tl_val (w' := w92) rfl (do_move rfl) (by decide) ?_
    refine tl_call rfl (en_call (f := 21) (by kernel_rfl) rfl) rfl (rnext_e big gen first last f2 e2 _ (by omega)) (fun v102 w100 hr101 => ?_) (fun _ _ h => h.elim) (fun _ h => h)
    obtain ⟨hchg99, hx99⟩ := hr101
    have hz103 := hchg99.size
    rcases (hx99.resolve_left (fun h_ => h_.1 hn8)).resolve_left (fun h_ => h_.2.1 hm8) with ⟨hn99, hm99, rfl⟩
    · refine tl_val (w' := w100) rfl (do_move rfl) (by decide) ?_
      refine tl_val (w' := w100) rfl (do_extract (v := .agg #[.bool big, .int .i64 (gen + 1), .int .i64 f2, .int .i64 e2]) rfl rfl) (by decide) ?_
      refine tl_val (w' := w100) rfl (do_extract (v := .int .i64 0) rfl rfl) (by decide) ?_
      refine tl_val rfl (do_alloc (v := .pointer (some ⟨w100.heap.size, 0, none⟩)) (w' := w100.alloc (.cells #[.bool false, .int .i64 0, .int .i64 0, .int .i64 0] 23)) (by kernel_rfl)) (by decide) ?_
      refine tl_gen (fun w104 e105 => ?_)
      have hb106 : Chg (fun _ => False) w100 w104 := e105 ▸ Chg.alloc _ _
      have hz107 : w104.heap.size = w100.heap.size + 1 := by rw [e105]; exact size_alloc _ _
      have hc108 : w104.heap[w100.heap.size]? = some (.cells #[.bool false, .int .i64 0, .int .i64 0, .int .i64 0] 23 (0, 0)) := by rw [e105]; exact obj_new _ _
      clear e105
      refine tl_unit rfl (do_storesB (cs := [.bool big, .int .i64 (gen + 1), .int .i64 f2, .int .i64 e2]) rfl rfl (by rfl) (by kernel_rfl) hc108 (Nat.le_of_ble_eq_true rfl)) ?_
      refine tl_gen (fun w109 e110 => ?_)
      have hb111 : Chg (fun k => k = w100.heap.size) w104 w109 := e110 ▸ Chg.setCells _ _ 0 [.bool big, .int .i64 (gen + 1), .int .i64 f2, .int .i64 e2]
      have hz112 : w109.heap.size = w104.heap.size := by rw [e110]; exact sc_size _ _ _ _
      have hc113 : w109.heap[w100.heap.size]? = some (.cells #[.bool big, .int .i64 (gen + 1), .int .i64 f2, .int .i64 e2] 23 (0, 0)) := by rw [e110]; exact obj_setCells [.bool big, .int .i64 (gen + 1), .int .i64 f2, .int .i64 e2] 0 hc108
      clear e110
      refine tl_val (w' := w109) rfl (do_assign rfl) (by decide) ?_
      refine tl_end ?_
      refine fun a_ ha_ => hK97 _ _ _ (T.sub (L' := [(0, .agg #[.bool big, .int .i64 gen, .int .i64 first, .int .i64 last]), (1, .int .i64 f2), (2, .int .i64 e2), (3, .pointer (some ⟨w.heap.size, 0, none⟩)), (6, .bool false), (7, .pointer (some ⟨w9.heap.size, 0, none⟩)), (8, .int .i64 0), (9, .pointer (some ⟨w100.heap.size, 0, none⟩)), (10, .int .i64 0)]) ?_ (sub_cons rfl (sub_cons rfl (sub_cons rfl (sub_cons rfl (sub_cons rfl (sub_cons rfl (sub_cons rfl (sub_cons rfl (sub_cons rfl sub_nil)))))))))) a_ ha_
      refine t_seq (fun K114 hK114 => ?_)
      refine t_region ?_
      have h115 := (hb111.obj (show ¬ w9.heap.size = w100.heap.size by omega) (hb106.obj (fun x => x) (hchg99.obj (fun x => x) hc96)))
      refine tl_val (w' := w109) rfl (do_loads (cs := [.bool big, .int .i64 (gen + 1), .int .i64 f2, .int .i64 e2]) rfl (by kernel_rfl) (obj_range h115)) (by decide) ?_
      refine tl_val (w' := w109) rfl (do_loads (cs := [.bool big, .int .i64 (gen + 1), .int .i64 f2, .int .i64 e2]) rfl (by kernel_rfl) (obj_range hc113)) (by decide) ?_
      refine tl_val (w' := w109) rfl (do_eqst (p := big = big ∧ (gen + 1) = (gen + 1) ∧ f2 = f2 ∧ e2 = e2) (xs := [.b big, .i .i64 (gen + 1), .i .i64 f2, .i .i64 e2]) (ys := [.b big, .i .i64 (gen + 1), .i .i64 f2, .i .i64 e2]) rfl rfl (by kernel_rfl) rfl (by simp [all2, Sc.same])) (by decide) ?_
      refine tl_val (w' := w109) rfl (do_move rfl) (by decide) ?_
      have hk116 : (decide (big = big ∧ (gen + 1) = (gen + 1) ∧ f2 = f2 ∧ e2 = e2)) = true := (decide_eq_true (show big = big ∧ (gen + 1) = (gen + 1) ∧ f2 = f2 ∧ e2 = e2 from ⟨rfl, rfl, rfl, rfl⟩))
      refine tl_val (w' := w109) ⟨28, _, rfl, rfl, (by rw [hk116]; rfl)⟩ (do_move rfl) (by decide) ?_
      refine tl_val (w' := w109) ⟨28, _, rfl, rfl, (by rw [hk116]; rfl)⟩ (do_move rfl) (by decide) ?_
      refine tl_val (w' := w109) ⟨28, _, rfl, rfl, (by rw [hk116]; rfl)⟩ (do_eql rfl rfl) (by decide) ?_
      have hk117 : (decide ((0 : Int) = 0)) = true := by decide
      refine tl_val (w' := w109) rfl (do_pick_t rfl hk116 rfl) (by decide) ?_
      refine tl_val (w' := w109) rfl (do_move rfl) (by decide) ?_
      have h119 := (TabW.chg (TabW.chg (TabW.chg (TabW.chg (TabW.chg (TabW.chg (TabW.chg hT hb4 (fun x => x)) hchg8 (fun x => x)) hb89 (fun x => x)) hb94 (show ¬ 0 = w9.heap.size by omega)) hchg99 (fun x => x)) hb106 (fun x => x)) hb111 (show ¬ 0 = w100.heap.size by omega))
      refine tl_call ⟨33, _, rfl, rfl, (by rw [hk117]; rfl)⟩ (en_call (f := 15) (by kernel_rfl) rfl) rfl (awake18_e h119) (fun v122 w120 hr121 => ?_) (fun _ _ h => h.elim) (fun _ h => h)
      obtain ⟨rfl, hchg118⟩ := hr121
      have hz123 := hchg118.size
      refine tl_val (w' := w120) rfl (do_pick_t rfl hk117 rfl) (by decide) ?_
      refine tl_val (w' := w120) rfl (do_assign rfl) (by decide) ?_
      refine tl_end ?_
      refine fun a_ ha_ => hK114 _ _ _ (T.sub (L' := [(0, .agg #[.bool big, .int .i64 gen, .int .i64 first, .int .i64 last]), (1, .int .i64 f2), (2, .int .i64 e2), (3, .pointer (some ⟨w.heap.size, 0, none⟩)), (6, .bool true), (7, .pointer (some ⟨w9.heap.size, 0, none⟩)), (8, .int .i64 0), (9, .pointer (some ⟨w100.heap.size, 0, none⟩)), (10, .int .i64 0)]) ?_ (sub_cons rfl (sub_cons rfl (sub_cons rfl (sub_cons rfl (sub_cons rfl (sub_cons rfl (sub_cons rfl (sub_cons rfl (sub_cons rfl sub_nil)))))))))) a_ ha_
      refine t_ret ?_
      refine fun a_ ha_ => hQ0 _ _ _ (body_ret (rs := [.tmp 6]) (vs := [.bool true]) ha_ (by kernel_rfl) ⟨_, _, rfl, rfl, rfl⟩ ?_)
      exact ⟨rfl, (((((((((Chg.refl (fun k_ => False) w).step hb4 (fun k_ hk_ (h_ : False) => h_.elim)).step hchg8 (fun k_ hk_ (h_ : False) => h_.elim)).step hb89 (fun k_ hk_ (h_ : False) => h_.elim)).step hb94 (fun k_ hk_ (h_ : k_ = w9.heap.size) => (show False by omega))).step hchg99 (fun k_ hk_ (h_ : False) => h_.elim)).step hb106 (fun k_ hk_ (h_ : False) => h_.elim)).step hb111 (fun k_ hk_ (h_ : k_ = w100.heap.size) => (show False by omega))).step hchg118 (fun k_ hk_ (h_ : False) => h_.elim))⟩
end Go.Proofs.YtfmpbbeacpdalaaDoor
