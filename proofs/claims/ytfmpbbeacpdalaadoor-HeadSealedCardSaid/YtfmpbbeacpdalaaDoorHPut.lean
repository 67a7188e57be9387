/-
  A head's sector: the program's and the reference's.
-/
import Derived.Test.YtfmpbbeacpdalaaDoorHRight
import Derived.Test.YtfmpbbeacpdalaaDoorCrcCheck
import Derived.Test.YtfmpbbeacpdalaaDoorCrcRef2
import Derived.OpenShut
set_option linter.unusedVariables false
set_option linter.unusedSimpArgs false
set_option maxRecDepth 100000
namespace Go.Proofs.YtfmpbbeacpdalaaDoor
open Go.RowKit

theorem TabW.lt {w : World} (h : TabW w) : 0 < w.heap.size := World.block_lt_of_cell? w _ (h 0 (by decide))
theorem TabW.chg {w w' : World} {M : Nat → Prop} (h : TabW w) (hc : Chg M w w') (hm : ¬ M 0) : TabW w' := fun i hi => hc.cell hm (h i hi)
def RetO (w : World) (l : List UInt8) : Ending → World → Prop := Ret fun v w' => ∃ A c, v = .slice A l.length c ∧ Rd w' A c l ∧ OwB w' w.heap.size (.slice A l.length c) l ∧ Chg (fun _ => False) w w'
theorem RetB.o {w : World} {l : List UInt8} {e : Ending} {w' : World} (h : RetB w l e w') : RetO w l e w' := by
  obtain ⟨v, rfl, ho, hb⟩ := h
  obtain ⟨A, c, rfl, hr⟩ := ho.rd
  exact ⟨A, c, rfl, hr, ho, Chg.of_new hb⟩
/-- A file's header. -/
def hdr (big : Bool) (first : Int) : List UInt8 := if big then [73, 73, 43, 0, 8, 0, 0, 0] ++ told first 8 false else [73, 73, 42, 0] ++ told first 4 false
theorem hdr_length (big : Bool) (first : Int) : (hdr big first).length = if big then 16 else 8 := by
  unfold hdr
  cases big <;> simp [told_length]
/-- Noughts up to a count. -/
def fill (l : List UInt8) (n : Nat) : List UInt8 := l ++ List.replicate (n - l.length) 0
theorem fill_length {l : List UInt8} {n : Nat} (h : l.length ≤ n) : (fill l n).length = n := by
  unfold fill
  simp
  omega
def body1 (big : Bool) (gen first last : Int) : List UInt8 := fill (hdr big first) 64 ++ [67, 76, 82, 89] ++ told gen 8 false ++ told last 8 false
theorem fill64 (big : Bool) (first : Int) : (fill (hdr big first) 64).length = 64 := fill_length (by rw [hdr_length]; cases big <;> simp)
theorem body1_length (big : Bool) (gen first last : Int) : (body1 big gen first last).length = 84 := by
  simp [body1, told_length, fill64]
noncomputable def sector (big : Bool) (gen first last : Int) : List UInt8 := sealed (fill (body1 big gen first last) 124)
theorem fill124 (big : Bool) (gen first last : Int) : (fill (body1 big gen first last) 124).length = 124 := fill_length (by rw [body1_length]; omega)
theorem sector_length (big : Bool) (gen first last : Int) : (sector big gen first last).length = 128 := by
  rw [sector, sealed_length, fill124]
theorem putO_e {w : World} {A : Option Addr} {c : Nat} {l : List UInt8} (n size : Int) (big : Bool) (h : Rd w A c l) (hl : l.length ≤ 140737488355000) (h0 : -9223372036854775808 ≤ n) (h1 : n ≤ 9223372036854775807) :
    Calls Tryd.prog 24 [.slice A l.length c, .int .i64 n, .int .i64 size, .bool big].toArray w (RetO w (put l n size big)) := (put_any A c l n size big w h hl h0 h1).mono fun e w' h => h.o
theorem put8 (l : List UInt8) (n : Int) : put l n 8 false = l ++ told n 8 false := put_wide_eq l n 8 false rfl
theorem put4 (l : List UInt8) (n : Int) : put l n 4 false = l ++ told n 4 false := put_wide_eq l n 4 false rfl
theorem toldO_e (n : Int) (k : Nat) (w : World) (hn0 : -9223372036854775808 ≤ n) (hn1 : n ≤ 9223372036854775807) (hk : k ≤ 8) :
    Calls Tryd.prog 27 [.int .i64 n, .int .i64 (k : Int), .bool false].toArray w (RetO w (told n k false)) := (told_any n k false w hn0 hn1 (by omega)).mono fun e w' h => h.o
theorem seal_e {w : World} {A : Option Addr} {c : Nat} {l : List UInt8} (hT : TabW w) (h : Rd w A c l) (hl : l.length ≤ 140737488355000) : Calls Tryd.prog 25 [.slice A l.length c].toArray w (RetO w (sealed l)) := (seal_any A c l w hT h hl).mono fun e w' h => h.o
theorem rseal_e {w : World} {A : Option Addr} {c : Nat} {l : List UInt8} (h : Rd w A c l) (hl : l.length ≤ 140737488355000) : Calls Tryd.prog 18 [.slice A l.length c].toArray w (RetO w (sealed l)) := (refseal_any A c l w h hl).mono fun e w' h => h.o
/-- A header is told, or why there is none. -/
def HeaderR (w : World) (big : Bool) (first : Int) : Ending → World → Prop := Ret fun v w' => Chg (fun _ => False) w w' ∧
  (((first = 0 ∨ PlaceP first big) ∧ ∃ A c, v = .tuple #[.slice A (hdr big first).length c, .int .i64 0] ∧ OwB w' w.heap.size (.slice A (hdr big first).length c) (hdr big first)) ∨
   (¬ (first = 0 ∨ PlaceP first big) ∧ v = .tuple #[.slice none 0 0, .int .i64 2]))

theorem header_e (big : Bool) (first : Int) (w : World) (h0 : -9223372036854775808 ≤ first) (h1 : first ≤ 9223372036854775807) : Calls Tryd.prog 22 [.bool big, .int .i64 first].toArray w (HeaderR w big first) := by
  refine enter (n := 21) (L := [(0, .bool big), (1, .int .i64 first)]) (args := [.bool big, .int .i64 first]) Tryd.func22 rfl rfl (Nat.le_of_ble_eq_true rfl) (by intro t v h; exact look_args h) ?_
  refine t_body (fun Q0 hB0 hQ0 => ?_)
  refine t_seq (fun K1 hK1 => ?_)
  refine t_region ?_
  refine tl_val (w' := w) rfl (do_assign rfl) (by decide) ?_
  refine tl_val (w' := w) rfl (do_assign rfl) (by decide) ?_
  refine tl_end ?_
  refine fun a_ ha_ => hK1 _ _ _ (T.sub (L' := [(0, .bool big), (1, .int .i64 first), (4, .slice none 0 0), (5, .int .i64 0)]) ?_ (sub_cons rfl (sub_cons rfl (sub_cons rfl (sub_cons rfl sub_nil))))) a_ ha_
  refine t_seq (fun K2 hK2 => ?_)
  refine t_seq (fun K3 hK3 => ?_)
  refine t_region ?_
  refine tl_val (w' := w) rfl (do_move rfl) (by decide) ?_
  refine tl_val (w' := w) rfl (do_neq rfl rfl) (by decide) ?_
  refine tl_val (w' := w) rfl (do_move rfl) (by decide) ?_
  by_cases hc4 : first ≠ 0
  · have hk5 := decide_eq_true hc4
    refine tl_val (w' := w) ⟨8, _, rfl, rfl, (by rw [hk5]; rfl)⟩ (do_move rfl) (by decide) ?_
    refine tl_val (w' := w) ⟨8, _, rfl, rfl, (by rw [hk5]; rfl)⟩ (do_move rfl) (by decide) ?_
    refine tl_call ⟨8, _, rfl, rfl, (by rw [hk5]; rfl)⟩ (en_call (f := 38) (by kernel_rfl) rfl) rfl (place_e first big _) (fun v7 _ hr6 => ?_) (fun _ _ h => h.elim) (fun _ h => h)
    obtain ⟨rfl, rfl⟩ := hr6
    refine tl_val (w' := w) ⟨8, _, rfl, rfl, (by rw [hk5]; rfl)⟩ (do_not rfl (not_dec _)) (by decide) ?_
    refine tl_val (w' := w) rfl (do_pick_t rfl hk5 rfl) (by decide) ?_
    refine tl_end ?_
    refine fun a_ ha_ => hK3 _ _ _ (T.sub (L' := [(0, .bool big), (1, .int .i64 first), (4, .slice none 0 0), (5, .int .i64 0), (13, .bool (decide (¬ (PlaceP first big))))]) ?_ (sub_cons rfl (sub_cons rfl (sub_cons rfl (sub_cons rfl (sub_cons rfl sub_nil)))))) a_ ha_
    by_cases hc8 : ¬ (PlaceP first big)
    · have hk9 := decide_eq_true hc8
      refine t_yes rfl hk9 ?_
      refine t_seq (fun K10 hK10 => ?_)
      refine t_region ?_
      refine tl_val (w' := w) rfl (do_assign rfl) (by decide) ?_
      refine tl_val (w' := w) rfl (do_assign rfl) (by decide) ?_
      refine tl_end ?_
      refine fun a_ ha_ => hK10 _ _ _ (T.sub (L' := [(0, .bool big), (1, .int .i64 first), (4, .slice none 0 0), (5, .int .i64 2), (13, .bool (decide (¬ (PlaceP first big))))]) ?_ (sub_cons rfl (sub_cons rfl (sub_cons rfl (sub_cons rfl (sub_cons rfl sub_nil)))))) a_ ha_
      refine t_ret ?_
      refine fun a_ ha_ => hQ0 _ _ _ (body_ret (rs := [.tmp 4, .tmp 5]) (vs := [.slice none 0 0, .int .i64 2]) ha_ (by kernel_rfl) ⟨_, _, rfl, rfl, ⟨_, _, rfl, rfl, rfl⟩⟩ ?_)
      exact ⟨(Chg.refl (fun k_ => False) w), .inr ⟨by rintro (h_ | h_) <;> first | omega | contradiction, rfl⟩⟩
    · have hk9 := decide_eq_false hc8
      refine t_no rfl hk9 ?_
      refine t_skip ?_
      refine fun a_ ha_ => hK2 _ _ _ (T.sub (L' := [(0, .bool big), (1, .int .i64 first), (4, .slice none 0 0), (5, .int .i64 0), (13, .bool (decide (¬ (PlaceP first big))))]) ?_ (sub_cons rfl (sub_cons rfl (sub_cons rfl (sub_cons rfl (sub_cons rfl sub_nil)))))) a_ ha_
      refine t_seq (fun K11 hK11 => ?_)
      refine t_seq (fun K12 hK12 => ?_)
      refine t_region ?_
      refine tl_val (w' := w) rfl (do_move rfl) (by decide) ?_
      refine tl_end ?_
      refine fun a_ ha_ => hK12 _ _ _ (T.sub (L' := [(0, .bool big), (1, .int .i64 first), (4, .slice none 0 0), (5, .int .i64 0), (13, .bool (decide (¬ (PlaceP first big)))), (14, .bool big)]) ?_ (sub_cons rfl (sub_cons rfl (sub_cons rfl (sub_cons rfl (sub_cons rfl (sub_cons rfl sub_nil))))))) a_ ha_
      by_cases hc13 : big = true
      · have hk14 := hc13
        refine t_yes rfl hk14 ?_
        refine t_seq (fun K15 hK15 => ?_)
        refine t_region ?_
        refine tl_val rfl (do_buildSlice (vs := [.int .u8 73, .int .u8 73, .int .u8 43, .int .u8 0, .int .u8 8, .int .u8 0, .int .u8 0, .int .u8 0]) (v := .slice (some ⟨w.heap.size, 0, none⟩) 8 8) (w' := w.alloc (.cells #[.int .u8 73, .int .u8 73, .int .u8 43, .int .u8 0, .int .u8 8, .int .u8 0, .int .u8 0, .int .u8 0] 5)) rfl (by kernel_rfl)) (by decide) ?_
        refine tl_gen (fun w16 e17 => ?_)
        have hb18 : Chg (fun _ => False) w w16 := e17 ▸ Chg.alloc _ _
        have hz19 : w16.heap.size = w.heap.size + 1 := by rw [e17]; exact size_alloc _ _
        have hc20 : w16.heap[w.heap.size]? = some (.cells #[.int .u8 73, .int .u8 73, .int .u8 43, .int .u8 0, .int .u8 8, .int .u8 0, .int .u8 0, .int .u8 0] 5 (0, 0)) := by rw [e17]; exact obj_new _ _
        clear e17
        refine tl_val (w' := w16) rfl (do_move rfl) (by decide) ?_
        have hr21 : Rd w16 (some ⟨w.heap.size, 0, none⟩) 8 ([73, 73, 43, 0, 8, 0, 0, 0] : List UInt8) := Rd.of_obj (l := ([73, 73, 43, 0, 8, 0, 0, 0] : List UInt8)) (cs := [.int .u8 73, .int .u8 73, .int .u8 43, .int .u8 0, .int .u8 8, .int .u8 0, .int .u8 0, .int .u8 0]) hc20 (by rfl) (by decide)
        refine tl_call rfl (en_call (f := 24) (by kernel_rfl) rfl) rfl ((put8 ([73, 73, 43, 0, 8, 0, 0, 0] : List UInt8) first) ▸ putO_e first 8 false (l := ([73, 73, 43, 0, 8, 0, 0, 0] : List UInt8)) hr21 (by first | omega | (simp only [List.length_append, told_length, List.length_cons, List.length_nil, List.length_replicate]; omega)) (by omega) (by omega)) (fun v25 w23 hr24 => ?_) (fun _ _ h => h.elim) (fun _ h => h)
        obtain ⟨A22, c22, rfl, hrd22, ho22, hchg22⟩ := hr24
        have hz26 := hchg22.size
        refine tl_val (w' := w23) rfl (do_assign rfl) (by decide) ?_
        refine tl_val (w' := w23) rfl (do_assign rfl) (by decide) ?_
        refine tl_end ?_
        refine fun a_ ha_ => hK15 _ _ _ (T.sub (L' := [(0, .bool big), (1, .int .i64 first), (4, .slice A22 ((([73, 73, 43, 0, 8, 0, 0, 0] : List UInt8) ++ told first 8 false).length) c22), (5, .int .i64 0), (13, .bool (decide (¬ (PlaceP first big)))), (14, .bool big)]) ?_ (sub_cons rfl (sub_cons rfl (sub_cons rfl (sub_cons rfl (sub_cons rfl (sub_cons rfl sub_nil))))))) a_ ha_
        refine t_ret ?_
        refine fun a_ ha_ => hQ0 _ _ _ (body_ret (rs := [.tmp 4, .tmp 5]) (vs := [.slice A22 ((([73, 73, 43, 0, 8, 0, 0, 0] : List UInt8) ++ told first 8 false).length) c22, .int .i64 0]) ha_ (by kernel_rfl) ⟨_, _, rfl, rfl, ⟨_, _, rfl, rfl, rfl⟩⟩ ?_)
        have he_ : ([73, 73, 43, 0, 8, 0, 0, 0] : List UInt8) ++ told first 8 false = hdr big first := by unfold hdr; rw [hk14]; simp
        have hw_ := ho22.mono (b' := w.heap.size) (by omega)
        rw [he_] at hw_ ⊢
        exact ⟨(((Chg.refl (fun k_ => False) w).step hb18 (fun k_ hk_ (h_ : False) => h_.elim)).step hchg22 (fun k_ hk_ (h_ : False) => h_.elim)), .inl ⟨by first | exact .inl (by omega) | exact .inr (by assumption) | exact .inr (Classical.not_not.1 (by assumption)), _, _, rfl, hw_⟩⟩
      · have hk14 := Bool.eq_false_iff.2 hc13
        refine t_no rfl hk14 ?_
        refine t_skip ?_
        refine fun a_ ha_ => hK11 _ _ _ (T.sub (L' := [(0, .bool big), (1, .int .i64 first), (4, .slice none 0 0), (5, .int .i64 0), (13, .bool (decide (¬ (PlaceP first big)))), (14, .bool big)]) ?_ (sub_cons rfl (sub_cons rfl (sub_cons rfl (sub_cons rfl (sub_cons rfl (sub_cons rfl sub_nil))))))) a_ ha_
        refine t_seq (fun K27 hK27 => ?_)
        refine t_region ?_
        refine tl_val rfl (do_buildSlice (vs := [.int .u8 73, .int .u8 73, .int .u8 42, .int .u8 0]) (v := .slice (some ⟨w.heap.size, 0, none⟩) 4 4) (w' := w.alloc (.cells #[.int .u8 73, .int .u8 73, .int .u8 42, .int .u8 0] 5)) rfl (by kernel_rfl)) (by decide) ?_
        refine tl_gen (fun w28 e29 => ?_)
        have hb30 : Chg (fun _ => False) w w28 := e29 ▸ Chg.alloc _ _
        have hz31 : w28.heap.size = w.heap.size + 1 := by rw [e29]; exact size_alloc _ _
        have hc32 : w28.heap[w.heap.size]? = some (.cells #[.int .u8 73, .int .u8 73, .int .u8 42, .int .u8 0] 5 (0, 0)) := by rw [e29]; exact obj_new _ _
        clear e29
        refine tl_val (w' := w28) rfl (do_move rfl) (by decide) ?_
        have hr33 : Rd w28 (some ⟨w.heap.size, 0, none⟩) 4 ([73, 73, 42, 0] : List UInt8) := Rd.of_obj (l := ([73, 73, 42, 0] : List UInt8)) (cs := [.int .u8 73, .int .u8 73, .int .u8 42, .int .u8 0]) hc32 (by rfl) (by decide)
        refine tl_call rfl (en_call (f := 24) (by kernel_rfl) rfl) rfl ((put4 ([73, 73, 42, 0] : List UInt8) first) ▸ putO_e first 4 false (l := ([73, 73, 42, 0] : List UInt8)) hr33 (by first | omega | (simp only [List.length_append, told_length, List.length_cons, List.length_nil, List.length_replicate]; omega)) (by omega) (by omega)) (fun v37 w35 hr36 => ?_) (fun _ _ h => h.elim) (fun _ h => h)
        obtain ⟨A34, c34, rfl, hrd34, ho34, hchg34⟩ := hr36
        have hz38 := hchg34.size
        refine tl_val (w' := w35) rfl (do_assign rfl) (by decide) ?_
        refine tl_val (w' := w35) rfl (do_assign rfl) (by decide) ?_
        refine tl_end ?_
        refine fun a_ ha_ => hK27 _ _ _ (T.sub (L' := [(0, .bool big), (1, .int .i64 first), (4, .slice A34 ((([73, 73, 42, 0] : List UInt8) ++ told first 4 false).length) c34), (5, .int .i64 0), (13, .bool (decide (¬ (PlaceP first big)))), (14, .bool big)]) ?_ (sub_cons rfl (sub_cons rfl (sub_cons rfl (sub_cons rfl (sub_cons rfl (sub_cons rfl sub_nil))))))) a_ ha_
        refine t_ret ?_
        refine fun a_ ha_ => hQ0 _ _ _ (body_ret (rs := [.tmp 4, .tmp 5]) (vs := [.slice A34 ((([73, 73, 42, 0] : List UInt8) ++ told first 4 false).length) c34, .int .i64 0]) ha_ (by kernel_rfl) ⟨_, _, rfl, rfl, ⟨_, _, rfl, rfl, rfl⟩⟩ ?_)
        have he_ : ([73, 73, 42, 0] : List UInt8) ++ told first 4 false = hdr big first := by unfold hdr; rw [hk14]; simp
        have hw_ := ho34.mono (b' := w.heap.size) (by omega)
        rw [he_] at hw_ ⊢
        exact ⟨(((Chg.refl (fun k_ => False) w).step hb30 (fun k_ hk_ (h_ : False) => h_.elim)).step hchg34 (fun k_ hk_ (h_ : False) => h_.elim)), .inl ⟨by first | exact .inl (by omega) | exact .inr (by assumption) | exact .inr (Classical.not_not.1 (by assumption)), _, _, rfl, hw_⟩⟩
  · have hk5 := decide_eq_false hc4
    refine tl_skipU ⟨8, _, rfl, rfl, (by rw [hk5]; rfl)⟩ (by decide) ?_
    refine tl_skipU ⟨8, _, rfl, rfl, (by rw [hk5]; rfl)⟩ (by decide) ?_
    refine tl_skipU ⟨8, _, rfl, rfl, (by rw [hk5]; rfl)⟩ (by decide) ?_
    refine tl_skipU ⟨8, _, rfl, rfl, (by rw [hk5]; rfl)⟩ (by decide) ?_
    refine tl_val (w' := w) rfl (do_pick_f rfl hk5 rfl) (by decide) ?_
    refine tl_end ?_
    refine fun a_ ha_ => hK3 _ _ _ (T.sub (L' := [(0, .bool big), (1, .int .i64 first), (4, .slice none 0 0), (5, .int .i64 0), (13, .bool false)]) ?_ (sub_cons rfl (sub_cons rfl (sub_cons rfl (sub_cons rfl (sub_cons rfl sub_nil)))))) a_ ha_
    refine t_no rfl rfl ?_
    refine t_skip ?_
    refine fun a_ ha_ => hK2 _ _ _ (T.sub (L' := [(0, .bool big), (1, .int .i64 first), (4, .slice none 0 0), (5, .int .i64 0), (13, .bool false)]) ?_ (sub_cons rfl (sub_cons rfl (sub_cons rfl (sub_cons rfl (sub_cons rfl sub_nil)))))) a_ ha_
    refine t_seq (fun K39 hK39 => ?_)
    refine t_seq (fun K40 hK40 => ?_)
    refine t_region ?_
    refine tl_val (w' := w) rfl (do_move rfl) (by decide) ?_
    refine tl_end ?_
    refine fun a_ ha_ => hK40 _ _ _ (T.sub (L' := [(0, .bool big), (1, .int .i64 first), (4, .slice none 0 0), (5, .int .i64 0), (13, .bool false), (14, .bool big)]) ?_ (sub_cons rfl (sub_cons rfl (sub_cons rfl (sub_cons rfl (sub_cons rfl (sub_cons rfl sub_nil))))))) a_ ha_
    by_cases hc41 : big = true
    · have hk42 := hc41
      refine t_yes rfl hk42 ?_
      refine t_seq (fun K43 hK43 => ?_)
      refine t_region ?_
      refine tl_val rfl (do_buildSlice (vs := [.int .u8 73, .int .u8 73, .int .u8 43, .int .u8 0, .int .u8 8, .int .u8 0, .int .u8 0, .int .u8 0]) (v := .slice (some ⟨w.heap.size, 0, none⟩) 8 8) (w' := w.alloc (.cells #[.int .u8 73, .int .u8 73, .int .u8 43, .int .u8 0, .int .u8 8, .int .u8 0, .int .u8 0, .int .u8 0] 5)) rfl (by kernel_rfl)) (by decide) ?_
      refine tl_gen (fun w44 e45 => ?_)
      have hb46 : Chg (fun _ => False) w w44 := e45 ▸ Chg.alloc _ _
      have hz47 : w44.heap.size = w.heap.size + 1 := by rw [e45]; exact size_alloc _ _
      have hc48 : w44.heap[w.heap.size]? = some (.cells #[.int .u8 73, .int .u8 73, .int .u8 43, .int .u8 0, .int .u8 8, .int .u8 0, .int .u8 0, .int .u8 0] 5 (0, 0)) := by rw [e45]; exact obj_new _ _
      clear e45
      refine tl_val (w' := w44) rfl (do_move rfl) (by decide) ?_
      have hr49 : Rd w44 (some ⟨w.heap.size, 0, none⟩) 8 ([73, 73, 43, 0, 8, 0, 0, 0] : List UInt8) := Rd.of_obj (l := ([73, 73, 43, 0, 8, 0, 0, 0] : List UInt8)) (cs := [.int .u8 73, .int .u8 73, .int .u8 43, .int .u8 0, .int .u8 8, .int .u8 0, .int .u8 0, .int .u8 0]) hc48 (by rfl) (by decide)
      refine tl_call rfl (en_call (f := 24) (by kernel_rfl) rfl) rfl ((put8 ([73, 73, 43, 0, 8, 0, 0, 0] : List UInt8) first) ▸ putO_e first 8 false (l := ([73, 73, 43, 0, 8, 0, 0, 0] : List UInt8)) hr49 (by first | omega | (simp only [List.length_append, told_length, List.length_cons, List.length_nil, List.length_replicate]; omega)) (by omega) (by omega)) (fun v53 w51 hr52 => ?_) (fun _ _ h => h.elim) (fun _ h => h)
      obtain ⟨A50, c50, rfl, hrd50, ho50, hchg50⟩ := hr52
      have hz54 := hchg50.size
      refine tl_val (w' := w51) rfl (do_assign rfl) (by decide) ?_
      refine tl_val (w' := w51) rfl (do_assign rfl) (by decide) ?_
      refine tl_end ?_
      refine fun a_ ha_ => hK43 _ _ _ (T.sub (L' := [(0, .bool big), (1, .int .i64 first), (4, .slice A50 ((([73, 73, 43, 0, 8, 0, 0, 0] : List UInt8) ++ told first 8 false).length) c50), (5, .int .i64 0), (13, .bool false), (14, .bool big)]) ?_ (sub_cons rfl (sub_cons rfl (sub_cons rfl (sub_cons rfl (sub_cons rfl (sub_cons rfl sub_nil))))))) a_ ha_
      refine t_ret ?_
      refine fun a_ ha_ => hQ0 _ _ _ (body_ret (rs := [.tmp 4, .tmp 5]) (vs := [.slice A50 ((([73, 73, 43, 0, 8, 0, 0, 0] : List UInt8) ++ told first 8 false).length) c50, .int .i64 0]) ha_ (by kernel_rfl) ⟨_, _, rfl, rfl, ⟨_, _, rfl, rfl, rfl⟩⟩ ?_)
      have he_ : ([73, 73, 43, 0, 8, 0, 0, 0] : List UInt8) ++ told first 8 false = hdr big first := by unfold hdr; rw [hk42]; simp
      have hw_ := ho50.mono (b' := w.heap.size) (by omega)
      rw [he_] at hw_ ⊢
      exact ⟨(((Chg.refl (fun k_ => False) w).step hb46 (fun k_ hk_ (h_ : False) => h_.elim)).step hchg50 (fun k_ hk_ (h_ : False) => h_.elim)), .inl ⟨by first | exact .inl (by omega) | exact .inr (by assumption) | exact .inr (Classical.not_not.1 (by assumption)), _, _, rfl, hw_⟩⟩
    · have hk42 := Bool.eq_false_iff.2 hc41
      refine t_no rfl hk42 ?_
      refine t_skip ?_
      refine fun a_ ha_ => hK39 _ _ _ (T.sub (L' := [(0, .bool big), (1, .int .i64 first), (4, .slice none 0 0), (5, .int .i64 0), (13, .bool false), (14, .bool big)]) ?_ (sub_cons rfl (sub_cons rfl (sub_cons rfl (sub_cons rfl (sub_cons rfl (sub_cons rfl sub_nil))))))) a_ ha_
      refine t_seq (fun K55 hK55 => ?_)
      refine t_region ?_
      refine tl_val rfl (do_buildSlice (vs := [.int .u8 73, .int .u8 73, .int .u8 42, .int .u8 0]) (v := .slice (some ⟨w.heap.size, 0, none⟩) 4 4) (w' := w.alloc (.cells #[.int .u8 73, .int .u8 73, .int .u8 42, .int .u8 0] 5)) rfl (by kernel_rfl)) (by decide) ?_
      refine tl_gen (fun w56 e57 => ?_)
      have hb58 : Chg (fun _ => False) w w56 := e57 ▸ Chg.alloc _ _
      have hz59 : w56.heap.size = w.heap.size + 1 := by rw [e57]; exact size_alloc _ _
      have hc60 : w56.heap[w.heap.size]? = some (.cells #[.int .u8 73, .int .u8 73, .int .u8 42, .int .u8 0] 5 (0, 0)) := by rw [e57]; exact obj_new _ _
      clear e57
      refine tl_val (w' := w56) rfl (do_move rfl) (by decide) ?_
      have hr61 : Rd w56 (some ⟨w.heap.size, 0, none⟩) 4 ([73, 73, 42, 0] : List UInt8) := Rd.of_obj (l := ([73, 73, 42, 0] : List UInt8)) (cs := [.int .u8 73, .int .u8 73, .int .u8 42, .int .u8 0]) hc60 (by rfl) (by decide)
      refine tl_call rfl (en_call (f := 24) (by kernel_rfl) rfl) rfl ((put4 ([73, 73, 42, 0] : List UInt8) first) ▸ putO_e first 4 false (l := ([73, 73, 42, 0] : List UInt8)) hr61 (by first | omega | (simp only [List.length_append, told_length, List.length_cons, List.length_nil, List.length_replicate]; omega)) (by omega) (by omega)) (fun v65 w63 hr64 => ?_) (fun _ _ h => h.elim) (fun _ h => h)
      obtain ⟨A62, c62, rfl, hrd62, ho62, hchg62⟩ := hr64
      have hz66 := hchg62.size
      refine tl_val (w' := w63) rfl (do_assign rfl) (by decide) ?_
      refine tl_val (w' := w63) rfl (do_assign rfl) (by decide) ?_
      refine tl_end ?_
      refine fun a_ ha_ => hK55 _ _ _ (T.sub (L' := [(0, .bool big), (1, .int .i64 first), (4, .slice A62 ((([73, 73, 42, 0] : List UInt8) ++ told first 4 false).length) c62), (5, .int .i64 0), (13, .bool false), (14, .bool big)]) ?_ (sub_cons rfl (sub_cons rfl (sub_cons rfl (sub_cons rfl (sub_cons rfl (sub_cons rfl sub_nil))))))) a_ ha_
      refine t_ret ?_
      refine fun a_ ha_ => hQ0 _ _ _ (body_ret (rs := [.tmp 4, .tmp 5]) (vs := [.slice A62 ((([73, 73, 42, 0] : List UInt8) ++ told first 4 false).length) c62, .int .i64 0]) ha_ (by kernel_rfl) ⟨_, _, rfl, rfl, ⟨_, _, rfl, rfl, rfl⟩⟩ ?_)
      have he_ : ([73, 73, 42, 0] : List UInt8) ++ told first 4 false = hdr big first := by unfold hdr; rw [hk42]; simp
      have hw_ := ho62.mono (b' := w.heap.size) (by omega)
      rw [he_] at hw_ ⊢
      exact ⟨(((Chg.refl (fun k_ => False) w).step hb58 (fun k_ hk_ (h_ : False) => h_.elim)).step hchg62 (fun k_ hk_ (h_ : False) => h_.elim)), .inl ⟨by first | exact .inl (by omega) | exact .inr (by assumption) | exact .inr (Classical.not_not.1 (by assumption)), _, _, rfl, hw_⟩⟩
theorem rheader_e (big : Bool) (first : Int) (w : World) (h0 : -9223372036854775808 ≤ first) (h1 : first ≤ 9223372036854775807) : Calls Tryd.prog 26 [.bool big, .int .i64 first].toArray w (HeaderR w big first) := by
  refine enter (n := 23) (L := [(0, .bool big), (1, .int .i64 first)]) (args := [.bool big, .int .i64 first]) Tryd.func26 rfl rfl (Nat.le_of_ble_eq_true rfl) (by intro t v h; exact look_args h) ?_
  refine t_body (fun Q0 hB0 hQ0 => ?_)
  refine t_seq (fun K1 hK1 => ?_)
  refine t_region ?_
  refine tl_val (w' := w) rfl (do_assign rfl) (by decide) ?_
  refine tl_val (w' := w) rfl (do_assign rfl) (by decide) ?_
  refine tl_end ?_
  refine fun a_ ha_ => hK1 _ _ _ (T.sub (L' := [(0, .bool big), (1, .int .i64 first), (4, .slice none 0 0), (5, .int .i64 0)]) ?_ (sub_cons rfl (sub_cons rfl (sub_cons rfl (sub_cons rfl sub_nil))))) a_ ha_
  refine t_seq (fun K2 hK2 => ?_)
  refine t_seq (fun K3 hK3 => ?_)
  refine t_region ?_
  refine tl_val (w' := w) rfl (do_move rfl) (by decide) ?_
  refine tl_val (w' := w) rfl (do_neq rfl rfl) (by decide) ?_
  refine tl_val (w' := w) rfl (do_move rfl) (by decide) ?_
  by_cases hc4 : first ≠ 0
  · have hk5 := decide_eq_true hc4
    refine tl_val (w' := w) ⟨8, _, rfl, rfl, (by rw [hk5]; rfl)⟩ (do_move rfl) (by decide) ?_
    refine tl_val (w' := w) ⟨8, _, rfl, rfl, (by rw [hk5]; rfl)⟩ (do_move rfl) (by decide) ?_
    refine tl_call ⟨8, _, rfl, rfl, (by rw [hk5]; rfl)⟩ (en_call (f := 37) (by kernel_rfl) rfl) rfl (rplace_e first big _) (fun v7 _ hr6 => ?_) (fun _ _ h => h.elim) (fun _ h => h)
    obtain ⟨rfl, rfl⟩ := hr6
    refine tl_val (w' := w) ⟨8, _, rfl, rfl, (by rw [hk5]; rfl)⟩ (do_not rfl (not_dec _)) (by decide) ?_
    refine tl_val (w' := w) rfl (do_pick_t rfl hk5 rfl) (by decide) ?_
    refine tl_end ?_
    refine fun a_ ha_ => hK3 _ _ _ (T.sub (L' := [(0, .bool big), (1, .int .i64 first), (4, .slice none 0 0), (5, .int .i64 0), (13, .bool (decide (¬ (PlaceP first big))))]) ?_ (sub_cons rfl (sub_cons rfl (sub_cons rfl (sub_cons rfl (sub_cons rfl sub_nil)))))) a_ ha_
    by_cases hc8 : ¬ (PlaceP first big)
    · have hk9 := decide_eq_true hc8
      refine t_yes rfl hk9 ?_
      refine t_seq (fun K10 hK10 => ?_)
      refine t_region ?_
      refine tl_val (w' := w) rfl (do_assign rfl) (by decide) ?_
      refine tl_val (w' := w) rfl (do_assign rfl) (by decide) ?_
      refine tl_end ?_
      refine fun a_ ha_ => hK10 _ _ _ (T.sub (L' := [(0, .bool big), (1, .int .i64 first), (4, .slice none 0 0), (5, .int .i64 2), (13, .bool (decide (¬ (PlaceP first big))))]) ?_ (sub_cons rfl (sub_cons rfl (sub_cons rfl (sub_cons rfl (sub_cons rfl sub_nil)))))) a_ ha_
      refine t_ret ?_
      refine fun a_ ha_ => hQ0 _ _ _ (body_ret (rs := [.tmp 4, .tmp 5]) (vs := [.slice none 0 0, .int .i64 2]) ha_ (by kernel_rfl) ⟨_, _, rfl, rfl, ⟨_, _, rfl, rfl, rfl⟩⟩ ?_)
      exact ⟨(Chg.refl (fun k_ => False) w), .inr ⟨by rintro (h_ | h_) <;> first | omega | contradiction, rfl⟩⟩
    · have hk9 := decide_eq_false hc8
      refine t_no rfl hk9 ?_
      refine t_skip ?_
      refine fun a_ ha_ => hK2 _ _ _ (T.sub (L' := [(0, .bool big), (1, .int .i64 first), (4, .slice none 0 0), (5, .int .i64 0), (13, .bool (decide (¬ (PlaceP first big))))]) ?_ (sub_cons rfl (sub_cons rfl (sub_cons rfl (sub_cons rfl (sub_cons rfl sub_nil)))))) a_ ha_
      refine t_seq (fun K11 hK11 => ?_)
      refine t_seq (fun K12 hK12 => ?_)
      refine t_region ?_
      refine tl_val (w' := w) rfl (do_move rfl) (by decide) ?_
      refine tl_end ?_
      refine fun a_ ha_ => hK12 _ _ _ (T.sub (L' := [(0, .bool big), (1, .int .i64 first), (4, .slice none 0 0), (5, .int .i64 0), (13, .bool (decide (¬ (PlaceP first big)))), (14, .bool big)]) ?_ (sub_cons rfl (sub_cons rfl (sub_cons rfl (sub_cons rfl (sub_cons rfl (sub_cons rfl sub_nil))))))) a_ ha_
      by_cases hc13 : big = true
      · have hk14 := hc13
        refine t_yes rfl hk14 ?_
        refine t_seq (fun K15 hK15 => ?_)
        refine t_region ?_
        refine tl_val rfl (do_buildSlice (vs := [.int .u8 73, .int .u8 73, .int .u8 43, .int .u8 0, .int .u8 8, .int .u8 0, .int .u8 0, .int .u8 0]) (v := .slice (some ⟨w.heap.size, 0, none⟩) 8 8) (w' := w.alloc (.cells #[.int .u8 73, .int .u8 73, .int .u8 43, .int .u8 0, .int .u8 8, .int .u8 0, .int .u8 0, .int .u8 0] 5)) rfl (by kernel_rfl)) (by decide) ?_
        refine tl_gen (fun w16 e17 => ?_)
        have hb18 : Chg (fun _ => False) w w16 := e17 ▸ Chg.alloc _ _
        have hz19 : w16.heap.size = w.heap.size + 1 := by rw [e17]; exact size_alloc _ _
        have hc20 : w16.heap[w.heap.size]? = some (.cells #[.int .u8 73, .int .u8 73, .int .u8 43, .int .u8 0, .int .u8 8, .int .u8 0, .int .u8 0, .int .u8 0] 5 (0, 0)) := by rw [e17]; exact obj_new _ _
        clear e17
        refine tl_val (w' := w16) rfl (do_move rfl) (by decide) ?_
        refine tl_call rfl (en_call (f := 27) (by kernel_rfl) rfl) rfl (toldO_e first 8 _ (by omega) (by omega) (by decide)) (fun v24 w22 hr23 => ?_) (fun _ _ h => h.elim) (fun _ h => h)
        obtain ⟨A21, c21, rfl, hrd21, ho21, hchg21⟩ := hr23
        have hz25 := hchg21.size
        have h26 := (hchg21.obj (fun x => x) hc20)
        have ho27 : OwB w22 w.heap.size (.slice (some ⟨w.heap.size, 0, none⟩) 8 8) ([73, 73, 43, 0, 8, 0, 0, 0] : List UInt8) := OwB.of_obj (l := ([73, 73, 43, 0, 8, 0, 0, 0] : List UInt8)) (cs := [.int .u8 73, .int .u8 73, .int .u8 43, .int .u8 0, .int .u8 8, .int .u8 0, .int .u8 0, .int .u8 0]) h26 (by rfl) (Nat.le_refl _) (by decide)
        obtain ⟨v28, w29, hr28, ho28, hg28⟩ := app_run ho27 hrd21 (by omega) (by first | omega | (simp only [List.length_append, told_length, List.length_cons, List.length_nil, List.length_replicate]; omega))
        obtain ⟨A28, c28, rfl, hrd28⟩ := OwB.rd ho28
        have hz30 := hg28.size
        refine tl_val rfl (do_builtin rfl (fun ty_ cs_ => hr28 ty_ cs_)) (by decide) ?_
        refine tl_val (w' := w29) rfl (do_assign rfl) (by decide) ?_
        refine tl_val (w' := w29) rfl (do_assign rfl) (by decide) ?_
        refine tl_end ?_
        refine fun a_ ha_ => hK15 _ _ _ (T.sub (L' := [(0, .bool big), (1, .int .i64 first), (4, .slice A28 ((([73, 73, 43, 0, 8, 0, 0, 0] : List UInt8) ++ (told first 8 false)).length) c28), (5, .int .i64 0), (13, .bool (decide (¬ (PlaceP first big)))), (14, .bool big)]) ?_ (sub_cons rfl (sub_cons rfl (sub_cons rfl (sub_cons rfl (sub_cons rfl (sub_cons rfl sub_nil))))))) a_ ha_
        refine t_ret ?_
        refine fun a_ ha_ => hQ0 _ _ _ (body_ret (rs := [.tmp 4, .tmp 5]) (vs := [.slice A28 ((([73, 73, 43, 0, 8, 0, 0, 0] : List UInt8) ++ (told first 8 false)).length) c28, .int .i64 0]) ha_ (by kernel_rfl) ⟨_, _, rfl, rfl, ⟨_, _, rfl, rfl, rfl⟩⟩ ?_)
        have he_ : ([73, 73, 43, 0, 8, 0, 0, 0] : List UInt8) ++ (told first 8 false) = hdr big first := by unfold hdr; rw [hk14]; simp
        have hw_ := ho28.mono (b' := w.heap.size) (by omega)
        rw [he_] at hw_ ⊢
        exact ⟨((((Chg.refl (fun k_ => False) w).step hb18 (fun k_ hk_ (h_ : False) => h_.elim)).step hchg21 (fun k_ hk_ (h_ : False) => h_.elim)).step hg28 (fun k_ hk_ (h_ : some k_ = Value.ownBlock (.slice (some ⟨w.heap.size, 0, none⟩) 8 8)) => (show False by have := OwB.block ho27 _ h_.symm; omega))), .inl ⟨by first | exact .inl (by omega) | exact .inr (by assumption) | exact .inr (Classical.not_not.1 (by assumption)), _, _, rfl, hw_⟩⟩
      · have hk14 := Bool.eq_false_iff.2 hc13
        refine t_no rfl hk14 ?_
        refine t_skip ?_
        refine fun a_ ha_ => hK11 _ _ _ (T.sub (L' := [(0, .bool big), (1, .int .i64 first), (4, .slice none 0 0), (5, .int .i64 0), (13, .bool (decide (¬ (PlaceP first big)))), (14, .bool big)]) ?_ (sub_cons rfl (sub_cons rfl (sub_cons rfl (sub_cons rfl (sub_cons rfl (sub_cons rfl sub_nil))))))) a_ ha_
        refine t_seq (fun K31 hK31 => ?_)
        refine t_region ?_
        refine tl_val rfl (do_buildSlice (vs := [.int .u8 73, .int .u8 73, .int .u8 42, .int .u8 0]) (v := .slice (some ⟨w.heap.size, 0, none⟩) 4 4) (w' := w.alloc (.cells #[.int .u8 73, .int .u8 73, .int .u8 42, .int .u8 0] 5)) rfl (by kernel_rfl)) (by decide) ?_
        refine tl_gen (fun w32 e33 => ?_)
        have hb34 : Chg (fun _ => False) w w32 := e33 ▸ Chg.alloc _ _
        have hz35 : w32.heap.size = w.heap.size + 1 := by rw [e33]; exact size_alloc _ _
        have hc36 : w32.heap[w.heap.size]? = some (.cells #[.int .u8 73, .int .u8 73, .int .u8 42, .int .u8 0] 5 (0, 0)) := by rw [e33]; exact obj_new _ _
        clear e33
        refine tl_val (w' := w32) rfl (do_move rfl) (by decide) ?_
        refine tl_call rfl (en_call (f := 27) (by kernel_rfl) rfl) rfl (toldO_e first 4 _ (by omega) (by omega) (by decide)) (fun v40 w38 hr39 => ?_) (fun _ _ h => h.elim) (fun _ h => h)
        obtain ⟨A37, c37, rfl, hrd37, ho37, hchg37⟩ := hr39
        have hz41 := hchg37.size
        have h42 := (hchg37.obj (fun x => x) hc36)
        have ho43 : OwB w38 w.heap.size (.slice (some ⟨w.heap.size, 0, none⟩) 4 4) ([73, 73, 42, 0] : List UInt8) := OwB.of_obj (l := ([73, 73, 42, 0] : List UInt8)) (cs := [.int .u8 73, .int .u8 73, .int .u8 42, .int .u8 0]) h42 (by rfl) (Nat.le_refl _) (by decide)
        obtain ⟨v44, w45, hr44, ho44, hg44⟩ := app_run ho43 hrd37 (by omega) (by first | omega | (simp only [List.length_append, told_length, List.length_cons, List.length_nil, List.length_replicate]; omega))
        obtain ⟨A44, c44, rfl, hrd44⟩ := OwB.rd ho44
        have hz46 := hg44.size
        refine tl_val rfl (do_builtin rfl (fun ty_ cs_ => hr44 ty_ cs_)) (by decide) ?_
        refine tl_val (w' := w45) rfl (do_assign rfl) (by decide) ?_
        refine tl_val (w' := w45) rfl (do_assign rfl) (by decide) ?_
        refine tl_end ?_
        refine fun a_ ha_ => hK31 _ _ _ (T.sub (L' := [(0, .bool big), (1, .int .i64 first), (4, .slice A44 ((([73, 73, 42, 0] : List UInt8) ++ (told first 4 false)).length) c44), (5, .int .i64 0), (13, .bool (decide (¬ (PlaceP first big)))), (14, .bool big)]) ?_ (sub_cons rfl (sub_cons rfl (sub_cons rfl (sub_cons rfl (sub_cons rfl (sub_cons rfl sub_nil))))))) a_ ha_
        refine t_ret ?_
        refine fun a_ ha_ => hQ0 _ _ _ (body_ret (rs := [.tmp 4, .tmp 5]) (vs := [.slice A44 ((([73, 73, 42, 0] : List UInt8) ++ (told first 4 false)).length) c44, .int .i64 0]) ha_ (by kernel_rfl) ⟨_, _, rfl, rfl, ⟨_, _, rfl, rfl, rfl⟩⟩ ?_)
        have he_ : ([73, 73, 42, 0] : List UInt8) ++ (told first 4 false) = hdr big first := by unfold hdr; rw [hk14]; simp
        have hw_ := ho44.mono (b' := w.heap.size) (by omega)
        rw [he_] at hw_ ⊢
        exact ⟨((((Chg.refl (fun k_ => False) w).step hb34 (fun k_ hk_ (h_ : False) => h_.elim)).step hchg37 (fun k_ hk_ (h_ : False) => h_.elim)).step hg44 (fun k_ hk_ (h_ : some k_ = Value.ownBlock (.slice (some ⟨w.heap.size, 0, none⟩) 4 4)) => (show False by have := OwB.block ho43 _ h_.symm; omega))), .inl ⟨by first | exact .inl (by omega) | exact .inr (by assumption) | exact .inr (Classical.not_not.1 (by assumption)), _, _, rfl, hw_⟩⟩
  · have hk5 := decide_eq_false hc4
    refine tl_skipU ⟨8, _, rfl, rfl, (by rw [hk5]; rfl)⟩ (by decide) ?_
    refine tl_skipU ⟨8, _, rfl, rfl, (by rw [hk5]; rfl)⟩ (by decide) ?_
    refine tl_skipU ⟨8, _, rfl, rfl, (by rw [hk5]; rfl)⟩ (by decide) ?_
    refine tl_skipU ⟨8, _, rfl, rfl, (by rw [hk5]; rfl)⟩ (by decide) ?_
    refine tl_val (w' := w) rfl (do_pick_f rfl hk5 rfl) (by decide) ?_
    refine tl_end ?_
    refine fun a_ ha_ => hK3 _ _ _ (T.sub (L' := [(0, .bool big), (1, .int .i64 first), (4, .slice none 0 0), (5, .int .i64 0), (13, .bool false)]) ?_ (sub_cons rfl (sub_cons rfl (sub_cons rfl (sub_cons rfl (sub_cons rfl sub_nil)))))) a_ ha_
    refine t_no rfl rfl ?_
    refine t_skip ?_
    refine fun a_ ha_ => hK2 _ _ _ (T.sub (L' := [(0, .bool big), (1, .int .i64 first), (4, .slice none 0 0), (5, .int .i64 0), (13, .bool false)]) ?_ (sub_cons rfl (sub_cons rfl (sub_cons rfl (sub_cons rfl (sub_cons rfl sub_nil)))))) a_ ha_
    refine t_seq (fun K47 hK47 => ?_)
    refine t_seq (fun K48 hK48 => ?_)
    refine t_region ?_
    refine tl_val (w' := w) rfl (do_move rfl) (by decide) ?_
    refine tl_end ?_
    refine fun a_ ha_ => hK48 _ _ _ (T.sub (L' := [(0, .bool big), (1, .int .i64 first), (4, .slice none 0 0), (5, .int .i64 0), (13, .bool false), (14, .bool big)]) ?_ (sub_cons rfl (sub_cons rfl (sub_cons rfl (sub_cons rfl (sub_cons rfl (sub_cons rfl sub_nil))))))) a_ ha_
    by_cases hc49 : big = true
    · have hk50 := hc49
      refine t_yes rfl hk50 ?_
      refine t_seq (fun K51 hK51 => ?_)
      refine t_region ?_
      refine tl_val rfl (do_buildSlice (vs := [.int .u8 73, .int .u8 73, .int .u8 43, .int .u8 0, .int .u8 8, .int .u8 0, .int .u8 0, .int .u8 0]) (v := .slice (some ⟨w.heap.size, 0, none⟩) 8 8) (w' := w.alloc (.cells #[.int .u8 73, .int .u8 73, .int .u8 43, .int .u8 0, .int .u8 8, .int .u8 0, .int .u8 0, .int .u8 0] 5)) rfl (by kernel_rfl)) (by decide) ?_
      refine tl_gen (fun w52 e53 => ?_)
      have hb54 : Chg (fun _ => False) w w52 := e53 ▸ Chg.alloc _ _
      have hz55 : w52.heap.size = w.heap.size + 1 := by rw [e53]; exact size_alloc _ _
      have hc56 : w52.heap[w.heap.size]? = some (.cells #[.int .u8 73, .int .u8 73, .int .u8 43, .int .u8 0, .int .u8 8, .int .u8 0, .int .u8 0, .int .u8 0] 5 (0, 0)) := by rw [e53]; exact obj_new _ _
      clear e53
      refine tl_val (w' := w52) rfl (do_move rfl) (by decide) ?_
      refine tl_call rfl (en_call (f := 27) (by kernel_rfl) rfl) rfl (toldO_e first 8 _ (by omega) (by omega) (by decide)) (fun v60 w58 hr59 => ?_) (fun _ _ h => h.elim) (fun _ h => h)
      obtain ⟨A57, c57, rfl, hrd57, ho57, hchg57⟩ := hr59
      have hz61 := hchg57.size
      have h62 := (hchg57.obj (fun x => x) hc56)
      have ho63 : OwB w58 w.heap.size (.slice (some ⟨w.heap.size, 0, none⟩) 8 8) ([73, 73, 43, 0, 8, 0, 0, 0] : List UInt8) := OwB.of_obj (l := ([73, 73, 43, 0, 8, 0, 0, 0] : List UInt8)) (cs := [.int .u8 73, .int .u8 73, .int .u8 43, .int .u8 0, .int .u8 8, .int .u8 0, .int .u8 0, .int .u8 0]) h62 (by rfl) (Nat.le_refl _) (by decide)
      obtain ⟨v64, w65, hr64, ho64, hg64⟩ := app_run ho63 hrd57 (by omega) (by first | omega | (simp only [List.length_append, told_length, List.length_cons, List.length_nil, List.length_replicate]; omega))
      obtain ⟨A64, c64, rfl, hrd64⟩ := OwB.rd ho64
      have hz66 := hg64.size
      refine tl_val rfl (do_builtin rfl (fun ty_ cs_ => hr64 ty_ cs_)) (by decide) ?_
      refine tl_val (w' := w65) rfl (do_assign rfl) (by decide) ?_
      refine tl_val (w' := w65) rfl (do_assign rfl) (by decide) ?_
      refine tl_end ?_
      refine fun a_ ha_ => hK51 _ _ _ (T.sub (L' := [(0, .bool big), (1, .int .i64 first), (4, .slice A64 ((([73, 73, 43, 0, 8, 0, 0, 0] : List UInt8) ++ (told first 8 false)).length) c64), (5, .int .i64 0), (13, .bool false), (14, .bool big)]) ?_ (sub_cons rfl (sub_cons rfl (sub_cons rfl (sub_cons rfl (sub_cons rfl (sub_cons rfl sub_nil))))))) a_ ha_
      refine t_ret ?_
      refine fun a_ ha_ => hQ0 _ _ _ (body_ret (rs := [.tmp 4, .tmp 5]) (vs := [.slice A64 ((([73, 73, 43, 0, 8, 0, 0, 0] : List UInt8) ++ (told first 8 false)).length) c64, .int .i64 0]) ha_ (by kernel_rfl) ⟨_, _, rfl, rfl, ⟨_, _, rfl, rfl, rfl⟩⟩ ?_)
      have he_ : ([73, 73, 43, 0, 8, 0, 0, 0] : List UInt8) ++ (told first 8 false) = hdr big first := by unfold hdr; rw [hk50]; simp
      have hw_ := ho64.mono (b' := w.heap.size) (by omega)
      rw [he_] at hw_ ⊢
      exact ⟨((((Chg.refl (fun k_ => False) w).step hb54 (fun k_ hk_ (h_ : False) => h_.elim)).step hchg57 (fun k_ hk_ (h_ : False) => h_.elim)).step hg64 (fun k_ hk_ (h_ : some k_ = Value.ownBlock (.slice (some ⟨w.heap.size, 0, none⟩) 8 8)) => (show False by have := OwB.block ho63 _ h_.symm; omega))), .inl ⟨by first | exact .inl (by omega) | exact .inr (by assumption) | exact .inr (Classical.not_not.1 (by assumption)), _, _, rfl, hw_⟩⟩
    · have hk50 := Bool.eq_false_iff.2 hc49
      refine t_no rfl hk50 ?_
      refine t_skip ?_
      refine fun a_ ha_ => hK47 _ _ _ (T.sub (L' := [(0, .bool big), (1, .int .i64 first), (4, .slice none 0 0), (5, .int .i64 0), (13, .bool false), (14, .bool big)]) ?_ (sub_cons rfl (sub_cons rfl (sub_cons rfl (sub_cons rfl (sub_cons rfl (sub_cons rfl sub_nil))))))) a_ ha_
      refine t_seq (fun K67 hK67 => ?_)
      refine t_region ?_
      refine tl_val rfl (do_buildSlice (vs := [.int .u8 73, .int .u8 73, .int .u8 42, .int .u8 0]) (v := .slice (some ⟨w.heap.size, 0, none⟩) 4 4) (w' := w.alloc (.cells #[.int .u8 73, .int .u8 73, .int .u8 42, .int .u8 0] 5)) rfl (by kernel_rfl)) (by decide) ?_
      refine tl_gen (fun w68 e69 => ?_)
      have hb70 : Chg (fun _ => False) w w68 := e69 ▸ Chg.alloc _ _
      have hz71 : w68.heap.size = w.heap.size + 1 := by rw [e69]; exact size_alloc _ _
      have hc72 : w68.heap[w.heap.size]? = some (.cells #[.int .u8 73, .int .u8 73, .int .u8 42, .int .u8 0] 5 (0, 0)) := by rw [e69]; exact obj_new _ _
      clear e69
      refine tl_val (w' := w68) rfl (do_move rfl) (by decide) ?_
      refine tl_call rfl (en_call (f := 27) (by kernel_rfl) rfl) rfl (toldO_e first 4 _ (by omega) (by omega) (by decide)) (fun v76 w74 hr75 => ?_) (fun _ _ h => h.elim) (fun _ h => h)
      obtain ⟨A73, c73, rfl, hrd73, ho73, hchg73⟩ := hr75
      have hz77 := hchg73.size
      have h78 := (hchg73.obj (fun x => x) hc72)
      have ho79 : OwB w74 w.heap.size (.slice (some ⟨w.heap.size, 0, none⟩) 4 4) ([73, 73, 42, 0] : List UInt8) := OwB.of_obj (l := ([73, 73, 42, 0] : List UInt8)) (cs := [.int .u8 73, .int .u8 73, .int .u8 42, .int .u8 0]) h78 (by rfl) (Nat.le_refl _) (by decide)
      obtain ⟨v80, w81, hr80, ho80, hg80⟩ := app_run ho79 hrd73 (by omega) (by first | omega | (simp only [List.length_append, told_length, List.length_cons, List.length_nil, List.length_replicate]; omega))
      obtain ⟨A80, c80, rfl, hrd80⟩ := OwB.rd ho80
      have hz82 := hg80.size
      refine tl_val rfl (do_builtin rfl (fun ty_ cs_ => hr80 ty_ cs_)) (by decide) ?_
      refine tl_val (w' := w81) rfl (do_assign rfl) (by decide) ?_
      refine tl_val (w' := w81) rfl (do_assign rfl) (by decide) ?_
      refine tl_end ?_
      refine fun a_ ha_ => hK67 _ _ _ (T.sub (L' := [(0, .bool big), (1, .int .i64 first), (4, .slice A80 ((([73, 73, 42, 0] : List UInt8) ++ (told first 4 false)).length) c80), (5, .int .i64 0), (13, .bool false), (14, .bool big)]) ?_ (sub_cons rfl (sub_cons rfl (sub_cons rfl (sub_cons rfl (sub_cons rfl (sub_cons rfl sub_nil))))))) a_ ha_
      refine t_ret ?_
      refine fun a_ ha_ => hQ0 _ _ _ (body_ret (rs := [.tmp 4, .tmp 5]) (vs := [.slice A80 ((([73, 73, 42, 0] : List UInt8) ++ (told first 4 false)).length) c80, .int .i64 0]) ha_ (by kernel_rfl) ⟨_, _, rfl, rfl, ⟨_, _, rfl, rfl, rfl⟩⟩ ?_)
      have he_ : ([73, 73, 42, 0] : List UInt8) ++ (told first 4 false) = hdr big first := by unfold hdr; rw [hk50]; simp
      have hw_ := ho80.mono (b' := w.heap.size) (by omega)
      rw [he_] at hw_ ⊢
      exact ⟨((((Chg.refl (fun k_ => False) w).step hb70 (fun k_ hk_ (h_ : False) => h_.elim)).step hchg73 (fun k_ hk_ (h_ : False) => h_.elim)).step hg80 (fun k_ hk_ (h_ : some k_ = Value.ownBlock (.slice (some ⟨w.heap.size, 0, none⟩) 4 4)) => (show False by have := OwB.block ho79 _ h_.symm; omega))), .inl ⟨by first | exact .inl (by omega) | exact .inr (by assumption) | exact .inr (Classical.not_not.1 (by assumption)), _, _, rfl, hw_⟩⟩
theorem filled_e {w : World} {A : Option Addr} {c : Nat} {l : List UInt8} {base : Nat} (n : Nat) (ho : OwB w base (.slice A l.length c) l) (hb : base ≤ w.heap.size) (hl : l.length ≤ n) (hn : n ≤ 100000) :
    Calls Tryd.prog 23 [.slice A l.length c, .int .i64 (n : Int)].toArray w (Ret fun v w' => ∃ A' c', v = .slice A' (fill l n).length c' ∧ OwB w' base (.slice A' (fill l n).length c') (fill l n) ∧ Chg (fun k => some k = (Value.slice A l.length c).ownBlock) w w') := by
  refine enter (n := 11) (L := [(0, .slice A l.length c), (1, .int .i64 (n : Int))]) (args := [.slice A l.length c, .int .i64 (n : Int)]) Tryd.func23 rfl rfl (Nat.le_of_ble_eq_true rfl) (by intro t v h; exact look_args h) ?_
  refine t_body (fun Q0 hB0 hQ0 => ?_)
  refine t_seq (fun K1 hK1 => ?_)
  refine t_region ?_
  refine tl_val (w' := w) rfl (do_assign rfl) (by decide) ?_
  refine tl_end ?_
  refine fun a_ ha_ => hK1 _ _ _ (T.sub (L' := [(0, .slice A l.length c), (1, .int .i64 (n : Int)), (4, .slice none 0 0)]) ?_ (sub_cons rfl (sub_cons rfl (sub_cons rfl sub_nil)))) a_ ha_
  refine t_seq (fun K2 hK2 => ?_)
  refine t_region ?_
  refine tl_val (w' := w) rfl (do_move rfl) (by decide) ?_
  refine tl_val (w' := w) rfl (do_move rfl) (by decide) ?_
  refine tl_val (w' := w) rfl (do_move rfl) (by decide) ?_
  refine tl_val (w' := w) rfl (do_builtin (v := .int .i64 (l.length : Int)) rfl (fun _ _ => by kernel_rfl)) (by decide) ?_
  refine tl_val (w' := w) rfl (do_sub (c := ((n - l.length : Nat) : Int)) rfl rfl (by rw [wrap_i64 (by omega) (by omega)]; omega)) (by decide) ?_
  obtain ⟨v3, w4, hr3, ho3, hg3⟩ := app_zeros ho (n - l.length) (by omega) (by first | omega | (simp only [List.length_append, List.length_replicate, List.length_cons, List.length_nil]; omega))
  obtain ⟨A3, c3, rfl, hrd3⟩ := OwB.rd ho3
  have hz5 := hg3.size
  refine tl_val rfl (do_builtin rfl (fun ty_ cs_ => hr3 ty_ cs_)) (by decide) ?_
  refine tl_val (w' := w4) rfl (do_assign rfl) (by decide) ?_
  refine tl_end ?_
  refine fun a_ ha_ => hK2 _ _ _ (T.sub (L' := [(0, .slice A l.length c), (1, .int .i64 (n : Int)), (4, .slice A3 ((l ++ (zeros (n - l.length))).length) c3)]) ?_ (sub_cons rfl (sub_cons rfl (sub_cons rfl sub_nil)))) a_ ha_
  refine t_ret ?_
  refine fun a_ ha_ => hQ0 _ _ _ (body_ret (rs := [.tmp 4]) (vs := [.slice A3 ((l ++ (zeros (n - l.length))).length) c3]) ha_ (by kernel_rfl) ⟨_, _, rfl, rfl, rfl⟩ ?_)
  exact ⟨_, _, rfl, ho3, hg3⟩
theorem filled_k {w : World} {A : Option Addr} {c : Nat} {l : List UInt8} {base : Nat} {k : Int} (n : Nat) (ho : OwB w base (.slice A l.length c) l) (hb : base ≤ w.heap.size) (hl : l.length ≤ n) (hn : n ≤ 100000) (hk : k = (n : Int)) :
    Calls Tryd.prog 23 [.slice A l.length c, .int .i64 k].toArray w (Ret fun v w' => ∃ A' c', v = .slice A' (fill l n).length c' ∧ OwB w' base (.slice A' (fill l n).length c') (fill l n) ∧ Chg (fun k => some k = (Value.slice A l.length c).ownBlock) w w') := hk ▸ filled_e n ho hb hl hn
theorem right_place {big : Bool} {gen first last : Int} (h : RightP gen first last) : first = 0 ∨ PlaceP first big := by
  unfold RightP at h
  by_cases h0 : first = 0
  · exact .inl h0
  · have hf : 4294967296 ≤ farOf big := by cases big <;> simp [farOf]
    right
    unfold PlaceP
    omega
theorem right_bounds {gen first last : Int} (h : RightP gen first last) : 1 ≤ gen ∧ gen ≤ 1099511627776 ∧ 0 ≤ first ∧ first ≤ 524288 ∧ 128 ≤ last ∧ last ≤ 524288 := by
  unfold RightP at h
  omega
/-- A sector is told, or that there is none. -/
def PutR (w : World) (big : Bool) (gen first last : Int) : Ending → World → Prop := Ret fun v w' => Chg (fun _ => False) w w' ∧
  ((RightP gen first last ∧ ∃ A c, v = .tuple #[.slice A (sector big gen first last).length c, .int .i64 0] ∧ Rd w' A c (sector big gen first last) ∧ OwB w' w.heap.size (.slice A (sector big gen first last).length c) (sector big gen first last)) ∨
   (¬ RightP gen first last ∧ v = .tuple #[.slice none 0 0, .int .i64 1]))
theorem hput_e (big : Bool) (gen first last : Int) (w : World) (hT : TabW w) (hg0 : -9223372036854775808 ≤ gen ∧ gen ≤ 9223372036854775807) (hf0 : -9223372036854775808 ≤ first ∧ first ≤ 9223372036854775807) (hl0 : -9223372036854775808 ≤ last ∧ last ≤ 9223372036854775807) :
    Calls Tryd.prog 11 [.agg #[.bool big, .int .i64 gen, .int .i64 first, .int .i64 last]].toArray w (PutR w big gen first last) := by
  refine enter (n := 33) (L := [(0, .agg #[.bool big, .int .i64 gen, .int .i64 first, .int .i64 last])]) (args := [.agg #[.bool big, .int .i64 gen, .int .i64 first, .int .i64 last]]) Tryd.func11 rfl rfl (Nat.le_of_ble_eq_true rfl) (by intro t v h; exact look_args h) ?_
  refine t_body (fun Q0 hB0 hQ0 => ?_)
  have hgt := TabW.lt hT
  refine t_seq (fun K1 hK1 => ?_)
  refine t_region ?_
  refine tl_val rfl (do_box (v := .pointer (some ⟨w.heap.size, 0, none⟩)) (w' := w.alloc (.cells #[.bool big, .int .i64 gen, .int .i64 first, .int .i64 last] 23)) rfl (by kernel_rfl)) (by decide) ?_
  refine tl_gen (fun w2 e3 => ?_)
  have hb4 : Chg (fun _ => False) w w2 := e3 ▸ Chg.alloc _ _
  have hz5 : w2.heap.size = w.heap.size + 1 := by rw [e3]; exact size_alloc _ _
  have hc6 : w2.heap[w.heap.size]? = some (.cells #[.bool big, .int .i64 gen, .int .i64 first, .int .i64 last] 23 (0, 0)) := by rw [e3]; exact obj_new _ _
  clear e3
  refine tl_val (w' := w2) rfl (do_assign rfl) (by decide) ?_
  refine tl_val (w' := w2) rfl (do_assign rfl) (by decide) ?_
  refine tl_end ?_
  refine fun a_ ha_ => hK1 _ _ _ (T.sub (L' := [(0, .agg #[.bool big, .int .i64 gen, .int .i64 first, .int .i64 last]), (1, .pointer (some ⟨w.heap.size, 0, none⟩)), (2, .slice none 0 0), (3, .int .i64 0)]) ?_ (sub_cons rfl (sub_cons rfl (sub_cons rfl (sub_cons rfl sub_nil))))) a_ ha_
  refine t_seq (fun K7 hK7 => ?_)
  refine t_seq (fun K8 hK8 => ?_)
  refine t_region ?_
  refine tl_val (w' := w2) rfl (do_loads (cs := [.bool big, .int .i64 gen, .int .i64 first, .int .i64 last]) rfl (by kernel_rfl) (obj_range hc6)) (by decide) ?_
  refine tl_call rfl (en_call (f := 13) (by kernel_rfl) rfl) rfl (right_e big gen first last _) (fun v12 w10 hr11 => ?_) (fun _ _ h => h.elim) (fun _ h => h)
  obtain ⟨rfl, hchg9⟩ := hr11
  have hz13 := hchg9.size
  refine tl_val (w' := w10) rfl (do_not rfl (not_dec _)) (by decide) ?_
  refine tl_end ?_
  refine fun a_ ha_ => hK8 _ _ _ (T.sub (L' := [(0, .agg #[.bool big, .int .i64 gen, .int .i64 first, .int .i64 last]), (1, .pointer (some ⟨w.heap.size, 0, none⟩)), (2, .slice none 0 0), (3, .int .i64 0), (8, .bool (decide (¬ (RightP gen first last))))]) ?_ (sub_cons rfl (sub_cons rfl (sub_cons rfl (sub_cons rfl (sub_cons rfl sub_nil)))))) a_ ha_
  by_cases hc14 : ¬ (RightP gen first last)
  · have hk15 := decide_eq_true hc14
    refine t_yes rfl hk15 ?_
    refine t_seq (fun K16 hK16 => ?_)
    refine t_region ?_
    refine tl_val (w' := w10) rfl (do_assign rfl) (by decide) ?_
    refine tl_val (w' := w10) rfl (do_assign rfl) (by decide) ?_
    refine tl_end ?_
    refine fun a_ ha_ => hK16 _ _ _ (T.sub (L' := [(0, .agg #[.bool big, .int .i64 gen, .int .i64 first, .int .i64 last]), (1, .pointer (some ⟨w.heap.size, 0, none⟩)), (2, .slice none 0 0), (3, .int .i64 1), (8, .bool (decide (¬ (RightP gen first last))))]) ?_ (sub_cons rfl (sub_cons rfl (sub_cons rfl (sub_cons rfl (sub_cons rfl sub_nil)))))) a_ ha_
    refine t_ret ?_
    refine fun a_ ha_ => hQ0 _ _ _ (body_ret (rs := [.tmp 2, .tmp 3]) (vs := [.slice none 0 0, .int .i64 1]) ha_ (by kernel_rfl) ⟨_, _, rfl, rfl, ⟨_, _, rfl, rfl, rfl⟩⟩ ?_)
    exact ⟨(((Chg.refl (fun k_ => False) w).step hb4 (fun k_ hk_ (h_ : False) => h_.elim)).step hchg9 (fun k_ hk_ (h_ : False) => h_.elim)), .inr ⟨hc14, rfl⟩⟩
  · have hk15 := decide_eq_false hc14
    have hR := Classical.not_not.1 hc14
    have hR' := right_bounds hR
    refine t_no rfl hk15 ?_
    refine t_skip ?_
    refine fun a_ ha_ => hK7 _ _ _ (T.sub (L' := [(0, .agg #[.bool big, .int .i64 gen, .int .i64 first, .int .i64 last]), (1, .pointer (some ⟨w.heap.size, 0, none⟩)), (2, .slice none 0 0), (3, .int .i64 0), (8, .bool (decide (¬ (RightP gen first last))))]) ?_ (sub_cons rfl (sub_cons rfl (sub_cons rfl (sub_cons rfl (sub_cons rfl sub_nil)))))) a_ ha_
    refine t_seq (fun K17 hK17 => ?_)
    refine t_region ?_
    refine tl_val (w' := w10) rfl (do_fieldAddr (v := .pointer (some ⟨w.heap.size, 0, none⟩)) rfl (by kernel_rfl)) (by decide) ?_
    have h18 := (hchg9.obj (fun x => x) hc6)
    refine tl_val (w' := w10) rfl (do_load (v := .bool big) rfl (by kernel_rfl) (by rw [obj_cell h18]; rfl)) (by decide) ?_
    refine tl_val (w' := w10) rfl (do_fieldAddr (v := .pointer (some ⟨w.heap.size, 2, none⟩)) rfl (by kernel_rfl)) (by decide) ?_
    refine tl_val (w' := w10) rfl (do_load (v := .int .i64 first) rfl (by kernel_rfl) (by rw [obj_cell h18]; rfl)) (by decide) ?_
    have hpl_ : first = 0 ∨ PlaceP first big := right_place hR
    refine tl_call rfl (en_call (f := 22) (by kernel_rfl) rfl) rfl (header_e big first _ (by omega) (by omega)) (fun v22 w20 hr21 => ?_) (fun _ _ h => h.elim) (fun _ h => h)
    obtain ⟨hchg19, hh19⟩ := hr21
    have hz23 := hchg19.size
    rcases hh19.resolve_right (fun h_ => h_.1 hpl_) with ⟨_, A19, c19, rfl, ho19⟩
    · have hhl_ := hdr_length big first
      have hhm_ : (hdr big first).length ≤ 16 := by rw [hhl_]; cases big <;> simp
      refine tl_val (w' := w20) rfl (do_move rfl) (by decide) ?_
      refine tl_val (w' := w20) rfl (do_extract (v := .slice A19 ((hdr big first).length) c19) rfl rfl) (by decide) ?_
      refine tl_val (w' := w20) rfl (do_extract (v := .int .i64 0) rfl rfl) (by decide) ?_
      refine tl_val (w' := w20) rfl (do_assign rfl) (by decide) ?_
      refine tl_val (w' := w20) rfl (do_assign rfl) (by decide) ?_
      refine tl_end ?_
      refine fun a_ ha_ => hK17 _ _ _ (T.sub (L' := [(0, .agg #[.bool big, .int .i64 gen, .int .i64 first, .int .i64 last]), (1, .pointer (some ⟨w.heap.size, 0, none⟩)), (2, .slice none 0 0), (3, .int .i64 0), (4, .slice A19 ((hdr big first).length) c19), (5, .int .i64 0), (8, .bool (decide (¬ (RightP gen first last))))]) ?_ (sub_cons rfl (sub_cons rfl (sub_cons rfl (sub_cons rfl (sub_cons rfl (sub_cons rfl (sub_cons rfl sub_nil)))))))) a_ ha_
      refine t_seq (fun K24 hK24 => ?_)
      refine t_seq (fun K25 hK25 => ?_)
      refine t_region ?_
      refine tl_val (w' := w20) rfl (do_move rfl) (by decide) ?_
      refine tl_val (w' := w20) rfl (do_neq rfl rfl) (by decide) ?_
      have hk26 : (decide ((0 : Int) ≠ 0)) = false := by decide
      refine tl_end ?_
      refine fun a_ ha_ => hK25 _ _ _ (T.sub (L' := [(0, .agg #[.bool big, .int .i64 gen, .int .i64 first, .int .i64 last]), (1, .pointer (some ⟨w.heap.size, 0, none⟩)), (2, .slice none 0 0), (3, .int .i64 0), (4, .slice A19 ((hdr big first).length) c19), (5, .int .i64 0), (8, .bool (decide (¬ (RightP gen first last)))), (18, .bool (decide ((0 : Int) ≠ 0)))]) ?_ (sub_cons rfl (sub_cons rfl (sub_cons rfl (sub_cons rfl (sub_cons rfl (sub_cons rfl (sub_cons rfl (sub_cons rfl sub_nil))))))))) a_ ha_
      refine t_no rfl hk26 ?_
      refine t_skip ?_
      refine fun a_ ha_ => hK24 _ _ _ (T.sub (L' := [(0, .agg #[.bool big, .int .i64 gen, .int .i64 first, .int .i64 last]), (1, .pointer (some ⟨w.heap.size, 0, none⟩)), (2, .slice none 0 0), (3, .int .i64 0), (4, .slice A19 ((hdr big first).length) c19), (5, .int .i64 0), (8, .bool (decide (¬ (RightP gen first last)))), (18, .bool (decide ((0 : Int) ≠ 0)))]) ?_ (sub_cons rfl (sub_cons rfl (sub_cons rfl (sub_cons rfl (sub_cons rfl (sub_cons rfl (sub_cons rfl (sub_cons rfl sub_nil))))))))) a_ ha_
      refine t_seq (fun K27 hK27 => ?_)
      refine t_region ?_
      refine tl_val (w' := w20) rfl (do_move rfl) (by decide) ?_
      have hf28 := filled_k (k := 64) 64 ho19 (by omega) (by first | omega | (simp only [List.length_append, told_length, List.length_cons, List.length_nil, List.length_replicate]; omega)) (by omega) rfl
      refine tl_call rfl (en_call (f := 23) (by kernel_rfl) rfl) rfl hf28 (fun v31 w29 hr30 => ?_) (fun _ _ h => h.elim) (fun _ h => h)
      obtain ⟨A28, c28, rfl, ho28, hchg28⟩ := hr30
      have hz32 := hchg28.size
      have hfl28 := fill_length (l := hdr big first) (n := 64) (by first | omega | (simp only [List.length_append, told_length, List.length_cons, List.length_nil, List.length_replicate]; omega))
      obtain ⟨v33, w34, hr33, ho33, hg33⟩ := app_str ho28 ([67, 76, 82, 89] : List UInt8) (by omega) (by first | omega | (simp only [List.length_append, told_length, List.length_cons, List.length_nil, List.length_replicate]; omega))
      obtain ⟨A33, c33, rfl, hrd33⟩ := OwB.rd ho33
      have hz35 := hg33.size
      refine tl_val rfl (do_builtin rfl (fun ty_ cs_ => hr33 ty_ cs_)) (by decide) ?_
      refine tl_val (w' := w34) rfl (do_assign rfl) (by decide) ?_
      refine tl_end ?_
      refine fun a_ ha_ => hK27 _ _ _ (T.sub (L' := [(0, .agg #[.bool big, .int .i64 gen, .int .i64 first, .int .i64 last]), (1, .pointer (some ⟨w.heap.size, 0, none⟩)), (2, .slice none 0 0), (3, .int .i64 0), (4, .slice A33 (((fill (hdr big first) 64) ++ ([67, 76, 82, 89] : List UInt8)).length) c33), (5, .int .i64 0), (8, .bool (decide (¬ (RightP gen first last)))), (18, .bool (decide ((0 : Int) ≠ 0)))]) ?_ (sub_cons rfl (sub_cons rfl (sub_cons rfl (sub_cons rfl (sub_cons rfl (sub_cons rfl (sub_cons rfl (sub_cons rfl sub_nil))))))))) a_ ha_
      refine t_seq (fun K36 hK36 => ?_)
      refine t_drawnC (fun _ => False) 8 (.take 0 { dst := (some 23), op := (Go.Op.move (Go.Operand.tmp 4)), type := 24, pos := "head.go:36", after := #[], guard := none } (.take 1 { dst := (some 24), op := (Go.Op.fieldAddr 23 (Go.Operand.tmp 1) 1), type := 0, pos := "head.go:36", after := #[], guard := none } (.take 2 { dst := (some 25), op := (Go.Op.load 3 (Go.Operand.tmp 24)), type := 3, pos := "head.go:36", after := #[{ on := 1, ground := Go.Ground.data }], guard := none } (.take 4 { dst := (some 27), op := (Go.Op.fieldAddr 23 (Go.Operand.tmp 1) 3), type := 0, pos := "head.go:36", after := #[], guard := none } (.take 5 { dst := (some 28), op := (Go.Op.load 3 (Go.Operand.tmp 27)), type := 3, pos := "head.go:36", after := #[{ on := 4, ground := Go.Ground.data }], guard := none } (.one 3 { dst := (some 26), op := (Go.Op.call { callee := (Go.Callee.value (Go.Operand.func 24)), args := #[(Go.Operand.tmp 23), (Go.Operand.tmp 25), (Go.Operand.const (Go.Value.int Go.IntKind.i64 8)), (Go.Operand.const (Go.Value.bool false))], argTypes := #[24, 3, 3, 4] }), type := 24, pos := "head.go:36", after := #[{ on := 0, ground := Go.Ground.data }, { on := 2, ground := Go.Ground.data }], guard := none } (.one 6 { dst := (some 29), op := (Go.Op.call { callee := (Go.Callee.value (Go.Operand.func 24)), args := #[(Go.Operand.tmp 26), (Go.Operand.tmp 28), (Go.Operand.const (Go.Value.int Go.IntKind.i64 8)), (Go.Operand.const (Go.Value.bool false))], argTypes := #[24, 3, 3, 4] }), type := 24, pos := "head.go:36", after := #[{ on := 3, ground := Go.Ground.data }, { on := 5, ground := Go.Ground.data }, { on := 3, ground := Go.Ground.chain }], guard := none } (.take 7 { dst := (some 4), op := (Go.Op.assign (Go.Operand.tmp 29)), type := 24, pos := "head.go:36", after := #[{ on := 6, ground := Go.Ground.data }, { on := 6, ground := Go.Ground.chain }, { on := 0, ground := Go.Ground.phase }, { on := 1, ground := Go.Ground.phase }, { on := 2, ground := Go.Ground.phase }, { on := 3, ground := Go.Ground.phase }, { on := 4, ground := Go.Ground.phase }, { on := 5, ground := Go.Ground.phase }, { on := 6, ground := Go.Ground.phase }], guard := none } .done)))))))) rfl (by kernel_rfl) (by repeat (first | exact hB0 | apply blind_then | apply blind_in)) (by kernel_rfl) (by kernel_rfl) rfl (fun w37 hb38 hz39 => ?_)
      refine td_takeC rfl (by decide) (fun w_ h_ => (do_move rfl)) ?_
      refine td_takeC rfl (by decide) (fun w_ h_ => (do_fieldAddr (v := .pointer (some ⟨w.heap.size, 1, none⟩)) rfl (by kernel_rfl))) ?_
      have h40 := (hb38.obj (fun x => x) (hg33.obj (fun e_ => by have := OwB.block ho28 _ e_.symm; omega) (hchg28.obj (fun e_ => by have := OwB.block ho19 _ e_.symm; omega) (hchg19.obj (fun x => x) h18))))
      refine td_takeC rfl (by decide) (fun w_ h_ => (do_load (v := .int .i64 gen) rfl (by kernel_rfl) (by rw [obj_cell (h_.obj (fun x => x) h40)]; rfl))) ?_
      refine td_takeC rfl (by decide) (fun w_ h_ => (do_fieldAddr (v := .pointer (some ⟨w.heap.size, 3, none⟩)) rfl (by kernel_rfl))) ?_
      refine td_takeC rfl (by decide) (fun w_ h_ => (do_load (v := .int .i64 last) rfl (by kernel_rfl) (by rw [obj_cell (h_.obj (fun x => x) h40)]; rfl))) ?_
      refine td_one ?_
      have h41 := (Rd.chg hrd33 hrd33 hb38 (fun _ _ x => x))
      refine td_callC rfl rfl (en_call (f := 24) (by kernel_rfl) rfl) ((put8 ((fill (hdr big first) 64) ++ ([67, 76, 82, 89] : List UInt8)) gen) ▸ putO_e gen 8 false (l := ((fill (hdr big first) 64) ++ ([67, 76, 82, 89] : List UInt8))) h41 (by first | omega | (simp only [List.length_append, told_length, List.length_cons, List.length_nil, List.length_replicate]; omega)) (by omega) (by omega)) (fun v45 w43 hr44 => ?_) (fun _ _ h => h.elim) (fun _ h => h)
      obtain ⟨A42, c42, rfl, hrd42, ho42, hchg42⟩ := hr44
      refine ⟨hchg42.mono (fun _ _ x => x.elim), ?_⟩
      have hz46 := hchg42.size
      refine td_one ?_
      refine td_callC rfl rfl (en_call (f := 24) (by kernel_rfl) rfl) ((put8 (((fill (hdr big first) 64) ++ ([67, 76, 82, 89] : List UInt8)) ++ told gen 8 false) last) ▸ putO_e last 8 false (l := (((fill (hdr big first) 64) ++ ([67, 76, 82, 89] : List UInt8)) ++ told gen 8 false)) hrd42 (by first | omega | (simp only [List.length_append, told_length, List.length_cons, List.length_nil, List.length_replicate]; omega)) (by omega) (by omega)) (fun v50 w48 hr49 => ?_) (fun _ _ h => h.elim) (fun _ h => h)
      obtain ⟨A47, c47, rfl, hrd47, ho47, hchg47⟩ := hr49
      refine ⟨hchg47.mono (fun _ _ x => x.elim), ?_⟩
      have hz51 := hchg47.size
      refine td_takeC rfl (by decide) (fun w_ h_ => (do_assign rfl)) ?_
      refine td_end ?_
      refine fun a_ ha_ => hK36 _ _ _ (T.sub (L' := [(0, .agg #[.bool big, .int .i64 gen, .int .i64 first, .int .i64 last]), (1, .pointer (some ⟨w.heap.size, 0, none⟩)), (2, .slice none 0 0), (3, .int .i64 0), (4, .slice A47 (((((fill (hdr big first) 64) ++ ([67, 76, 82, 89] : List UInt8)) ++ told gen 8 false) ++ told last 8 false).length) c47), (5, .int .i64 0), (8, .bool (decide (¬ (RightP gen first last)))), (18, .bool (decide ((0 : Int) ≠ 0)))]) ?_ (sub_cons rfl (sub_cons rfl (sub_cons rfl (sub_cons rfl (sub_cons rfl (sub_cons rfl (sub_cons rfl (sub_cons rfl sub_nil))))))))) a_ ha_
      refine t_seq (fun K52 hK52 => ?_)
      refine t_region ?_
      refine tl_val (w' := w48) rfl (do_move rfl) (by decide) ?_
      have hf53 := filled_k (k := 124) 124 ho47 (by omega) (by first | omega | (simp only [List.length_append, told_length, List.length_cons, List.length_nil, List.length_replicate]; omega)) (by omega) rfl
      refine tl_call rfl (en_call (f := 23) (by kernel_rfl) rfl) rfl hf53 (fun v56 w54 hr55 => ?_) (fun _ _ h => h.elim) (fun _ h => h)
      obtain ⟨A53, c53, rfl, ho53, hchg53⟩ := hr55
      have hz57 := hchg53.size
      have hfl53 := fill_length (l := (((fill (hdr big first) 64) ++ ([67, 76, 82, 89] : List UInt8)) ++ told gen 8 false) ++ told last 8 false) (n := 124) (by first | omega | (simp only [List.length_append, told_length, List.length_cons, List.length_nil, List.length_replicate]; omega))
      have hr58 : Rd w54 A53 c53 (fill ((((fill (hdr big first) 64) ++ ([67, 76, 82, 89] : List UInt8)) ++ told gen 8 false) ++ told last 8 false) 124) := by obtain ⟨A_, c_, e_, h_⟩ := OwB.rd ho53; cases e_; exact h_
      have h59 := (TabW.chg (TabW.chg (TabW.chg (TabW.chg (TabW.chg (TabW.chg (TabW.chg (TabW.chg (TabW.chg hT hb4 (fun x => x)) hchg9 (fun x => x)) hchg19 (fun x => x)) hchg28 (fun e_ => by have := OwB.block ho19 _ e_.symm; omega)) hg33 (fun e_ => by have := OwB.block ho28 _ e_.symm; omega)) hb38 (fun x => x)) hchg42 (fun x => x)) hchg47 (fun x => x)) hchg53 (fun e_ => by have := OwB.block ho47 _ e_.symm; omega))
      refine tl_call rfl (en_call (f := 25) (by kernel_rfl) rfl) rfl (seal_e h59 hr58 (by first | omega | (simp only [List.length_append, told_length, List.length_cons, List.length_nil, List.length_replicate]; omega))) (fun v63 w61 hr62 => ?_) (fun _ _ h => h.elim) (fun _ h => h)
      obtain ⟨A60, c60, rfl, hrd60, ho60, hchg60⟩ := hr62
      have hz64 := hchg60.size
      refine tl_val (w' := w61) rfl (do_assign rfl) (by decide) ?_
      refine tl_val (w' := w61) rfl (do_assign rfl) (by decide) ?_
      refine tl_end ?_
      refine fun a_ ha_ => hK52 _ _ _ (T.sub (L' := [(0, .agg #[.bool big, .int .i64 gen, .int .i64 first, .int .i64 last]), (1, .pointer (some ⟨w.heap.size, 0, none⟩)), (2, .slice A60 ((sealed (fill ((((fill (hdr big first) 64) ++ ([67, 76, 82, 89] : List UInt8)) ++ told gen 8 false) ++ told last 8 false) 124)).length) c60), (3, .int .i64 0), (4, .slice A47 (((((fill (hdr big first) 64) ++ ([67, 76, 82, 89] : List UInt8)) ++ told gen 8 false) ++ told last 8 false).length) c47), (5, .int .i64 0), (8, .bool (decide (¬ (RightP gen first last)))), (18, .bool (decide ((0 : Int) ≠ 0)))]) ?_ (sub_cons rfl (sub_cons rfl (sub_cons rfl (sub_cons rfl (sub_cons rfl (sub_cons rfl (sub_cons rfl (sub_cons rfl sub_nil))))))))) a_ ha_
      refine t_ret ?_
      refine fun a_ ha_ => hQ0 _ _ _ (body_ret (rs := [.tmp 2, .tmp 3]) (vs := [.slice A60 ((sealed (fill ((((fill (hdr big first) 64) ++ ([67, 76, 82, 89] : List UInt8)) ++ told gen 8 false) ++ told last 8 false) 124)).length) c60, .int .i64 0]) ha_ (by kernel_rfl) ⟨_, _, rfl, rfl, ⟨_, _, rfl, rfl, rfl⟩⟩ ?_)
      have he_ : sealed (fill ((((fill (hdr big first) 64) ++ ([67, 76, 82, 89] : List UInt8)) ++ told gen 8 false) ++ told last 8 false) 124) = sector big gen first last := by unfold sector body1; first | rfl | (unfold fill; rfl)
      have hw_ := ho60.mono (b' := w.heap.size) (by omega)
      have hrd_ := hrd60
      rw [he_] at hw_ hrd_ ⊢
      exact ⟨(((((((((((Chg.refl (fun k_ => False) w).step hb4 (fun k_ hk_ (h_ : False) => h_.elim)).step hchg9 (fun k_ hk_ (h_ : False) => h_.elim)).step hchg19 (fun k_ hk_ (h_ : False) => h_.elim)).step hchg28 (fun k_ hk_ (h_ : some k_ = Value.ownBlock (.slice A19 ((hdr big first).length) c19)) => (show False by have := OwB.block ho19 _ h_.symm; omega))).step hg33 (fun k_ hk_ (h_ : some k_ = Value.ownBlock (.slice A28 ((fill (hdr big first) 64).length) c28)) => (show False by have := OwB.block ho28 _ h_.symm; omega))).step hb38 (fun k_ hk_ (h_ : False) => h_.elim)).step hchg42 (fun k_ hk_ (h_ : False) => h_.elim)).step hchg47 (fun k_ hk_ (h_ : False) => h_.elim)).step hchg53 (fun k_ hk_ (h_ : some k_ = Value.ownBlock (.slice A47 (((((fill (hdr big first) 64) ++ ([67, 76, 82, 89] : List UInt8)) ++ told gen 8 false) ++ told last 8 false).length) c47)) => (show False by have := OwB.block ho47 _ h_.symm; omega))).step hchg60 (fun k_ hk_ (h_ : False) => h_.elim)), .inl ⟨hR, _, _, rfl, hrd_, hw_⟩⟩
theorem rep_next (l : List UInt8) (k : Nat) : l ++ zeros k ++ [0] = l ++ zeros (k + 1) := by
  rw [zeros, zeros, List.append_assoc, ← List.replicate_succ']
theorem rhput_e (big : Bool) (gen first last : Int) (w : World) (hg0 : -9223372036854775808 ≤ gen ∧ gen ≤ 9223372036854775807) (hf0 : -9223372036854775808 ≤ first ∧ first ≤ 9223372036854775807) (hl0 : -9223372036854775808 ≤ last ∧ last ≤ 9223372036854775807) :
    Calls Tryd.prog 12 [.agg #[.bool big, .int .i64 gen, .int .i64 first, .int .i64 last]].toArray w (PutR w big gen first last) := by
  refine enter (n := 44) (L := [(0, .agg #[.bool big, .int .i64 gen, .int .i64 first, .int .i64 last])]) (args := [.agg #[.bool big, .int .i64 gen, .int .i64 first, .int .i64 last]]) Tryd.func12 rfl rfl (Nat.le_of_ble_eq_true rfl) (by intro t v h; exact look_args h) ?_
  refine t_body (fun Q0 hB0 hQ0 => ?_)
  refine t_seq (fun K1 hK1 => ?_)
  refine t_region ?_
  refine tl_val rfl (do_box (v := .pointer (some ⟨w.heap.size, 0, none⟩)) (w' := w.alloc (.cells #[.bool big, .int .i64 gen, .int .i64 first, .int .i64 last] 23)) rfl (by kernel_rfl)) (by decide) ?_
  refine tl_gen (fun w2 e3 => ?_)
  have hb4 : Chg (fun _ => False) w w2 := e3 ▸ Chg.alloc _ _
  have hz5 : w2.heap.size = w.heap.size + 1 := by rw [e3]; exact size_alloc _ _
  have hc6 : w2.heap[w.heap.size]? = some (.cells #[.bool big, .int .i64 gen, .int .i64 first, .int .i64 last] 23 (0, 0)) := by rw [e3]; exact obj_new _ _
  clear e3
  refine tl_val (w' := w2) rfl (do_assign rfl) (by decide) ?_
  refine tl_val (w' := w2) rfl (do_assign rfl) (by decide) ?_
  refine tl_end ?_
  refine fun a_ ha_ => hK1 _ _ _ (T.sub (L' := [(0, .agg #[.bool big, .int .i64 gen, .int .i64 first, .int .i64 last]), (1, .pointer (some ⟨w.heap.size, 0, none⟩)), (2, .slice none 0 0), (3, .int .i64 0)]) ?_ (sub_cons rfl (sub_cons rfl (sub_cons rfl (sub_cons rfl sub_nil))))) a_ ha_
  refine t_seq (fun K7 hK7 => ?_)
  refine t_seq (fun K8 hK8 => ?_)
  refine t_region ?_
  refine tl_val (w' := w2) rfl (do_loads (cs := [.bool big, .int .i64 gen, .int .i64 first, .int .i64 last]) rfl (by kernel_rfl) (obj_range hc6)) (by decide) ?_
  refine tl_call rfl (en_call (f := 14) (by kernel_rfl) rfl) rfl (rright_e big gen first last _) (fun v12 w10 hr11 => ?_) (fun _ _ h => h.elim) (fun _ h => h)
  obtain ⟨rfl, hchg9⟩ := hr11
  have hz13 := hchg9.size
  refine tl_val (w' := w10) rfl (do_not rfl (not_dec _)) (by decide) ?_
  refine tl_end ?_
  refine fun a_ ha_ => hK8 _ _ _ (T.sub (L' := [(0, .agg #[.bool big, .int .i64 gen, .int .i64 first, .int .i64 last]), (1, .pointer (some ⟨w.heap.size, 0, none⟩)), (2, .slice none 0 0), (3, .int .i64 0), (8, .bool (decide (¬ (RightP gen first last))))]) ?_ (sub_cons rfl (sub_cons rfl (sub_cons rfl (sub_cons rfl (sub_cons rfl sub_nil)))))) a_ ha_
  by_cases hc14 : ¬ (RightP gen first last)
  · have hk15 := decide_eq_true hc14
    refine t_yes rfl hk15 ?_
    refine t_seq (fun K16 hK16 => ?_)
    refine t_region ?_
    refine tl_val (w' := w10) rfl (do_assign rfl) (by decide) ?_
    refine tl_val (w' := w10) rfl (do_assign rfl) (by decide) ?_
    refine tl_end ?_
    refine fun a_ ha_ => hK16 _ _ _ (T.sub (L' := [(0, .agg #[.bool big, .int .i64 gen, .int .i64 first, .int .i64 last]), (1, .pointer (some ⟨w.heap.size, 0, none⟩)), (2, .slice none 0 0), (3, .int .i64 1), (8, .bool (decide (¬ (RightP gen first last))))]) ?_ (sub_cons rfl (sub_cons rfl (sub_cons rfl (sub_cons rfl (sub_cons rfl sub_nil)))))) a_ ha_
    refine t_ret ?_
    refine fun a_ ha_ => hQ0 _ _ _ (body_ret (rs := [.tmp 2, .tmp 3]) (vs := [.slice none 0 0, .int .i64 1]) ha_ (by kernel_rfl) ⟨_, _, rfl, rfl, ⟨_, _, rfl, rfl, rfl⟩⟩ ?_)
    exact ⟨(((Chg.refl (fun k_ => False) w).step hb4 (fun k_ hk_ (h_ : False) => h_.elim)).step hchg9 (fun k_ hk_ (h_ : False) => h_.elim)), .inr ⟨hc14, rfl⟩⟩
  · have hk15 := decide_eq_false hc14
    have hR := Classical.not_not.1 hc14
    have hR' := right_bounds hR
    refine t_no rfl hk15 ?_
    refine t_skip ?_
    refine fun a_ ha_ => hK7 _ _ _ (T.sub (L' := [(0, .agg #[.bool big, .int .i64 gen, .int .i64 first, .int .i64 last]), (1, .pointer (some ⟨w.heap.size, 0, none⟩)), (2, .slice none 0 0), (3, .int .i64 0), (8, .bool (decide (¬ (RightP gen first last))))]) ?_ (sub_cons rfl (sub_cons rfl (sub_cons rfl (sub_cons rfl (sub_cons rfl sub_nil)))))) a_ ha_
    refine t_seq (fun K17 hK17 => ?_)
    refine t_region ?_
    refine tl_val (w' := w10) rfl (do_fieldAddr (v := .pointer (some ⟨w.heap.size, 0, none⟩)) rfl (by kernel_rfl)) (by decide) ?_
    have h18 := (hchg9.obj (fun x => x) hc6)
    refine tl_val (w' := w10) rfl (do_load (v := .bool big) rfl (by kernel_rfl) (by rw [obj_cell h18]; rfl)) (by decide) ?_
    refine tl_val (w' := w10) rfl (do_fieldAddr (v := .pointer (some ⟨w.heap.size, 2, none⟩)) rfl (by kernel_rfl)) (by decide) ?_
    refine tl_val (w' := w10) rfl (do_load (v := .int .i64 first) rfl (by kernel_rfl) (by rw [obj_cell h18]; rfl)) (by decide) ?_
    have hpl_ : first = 0 ∨ PlaceP first big := right_place hR
    refine tl_call rfl (en_call (f := 26) (by kernel_rfl) rfl) rfl (rheader_e big first _ (by omega) (by omega)) (fun v22 w20 hr21 => ?_) (fun _ _ h => h.elim) (fun _ h => h)
    obtain ⟨hchg19, hh19⟩ := hr21
    have hz23 := hchg19.size
    rcases hh19.resolve_right (fun h_ => h_.1 hpl_) with ⟨_, A19, c19, rfl, ho19⟩
    · have hhl_ := hdr_length big first
      have hhm_ : (hdr big first).length ≤ 16 := by rw [hhl_]; cases big <;> simp
      refine tl_val (w' := w20) rfl (do_move rfl) (by decide) ?_
      refine tl_val (w' := w20) rfl (do_extract (v := .slice A19 ((hdr big first).length) c19) rfl rfl) (by decide) ?_
      refine tl_val (w' := w20) rfl (do_extract (v := .int .i64 0) rfl rfl) (by decide) ?_
      refine tl_val (w' := w20) rfl (do_assign rfl) (by decide) ?_
      refine tl_val (w' := w20) rfl (do_assign rfl) (by decide) ?_
      refine tl_end ?_
      refine fun a_ ha_ => hK17 _ _ _ (T.sub (L' := [(0, .agg #[.bool big, .int .i64 gen, .int .i64 first, .int .i64 last]), (1, .pointer (some ⟨w.heap.size, 0, none⟩)), (2, .slice none 0 0), (3, .int .i64 0), (4, .slice A19 ((hdr big first).length) c19), (8, .bool (decide (¬ (RightP gen first last))))]) ?_ (sub_cons rfl (sub_cons rfl (sub_cons rfl (sub_cons rfl (sub_cons rfl (sub_cons rfl sub_nil))))))) a_ ha_
      refine t_seq (fun K24 hK24 => ?_)
      refine t_block ?_
      refine t_loop (G := Nat × Option Addr × Nat) (fun ⟨k64, Ak64, ck64⟩ => [(0, .agg #[.bool big, .int .i64 gen, .int .i64 first, .int .i64 last]), (1, .pointer (some ⟨w.heap.size, 0, none⟩)), (2, .slice none 0 0), (3, .int .i64 0), (4, .slice Ak64 (((hdr big first) ++ zeros k64).length) ck64), (8, .bool (decide (¬ (RightP gen first last))))]) (fun ⟨k64, Ak64, ck64⟩ WW_ => k64 + (hdr big first).length ≤ 64 ∧ OwB WW_ w10.heap.size (.slice Ak64 ((hdr big first) ++ zeros k64).length ck64) ((hdr big first) ++ zeros k64) ∧ Chg (fun k_ => w10.heap.size ≤ k_) w20 WW_) (fun ⟨k64, Ak64, ck64⟩ => 64 - k64) (0, A19, c19) (⟨by first | omega | (simp only [List.length_append, told_length, List.length_cons, List.length_nil, List.length_replicate]; omega), (List.append_nil (hdr big first)).symm ▸ ho19, Chg.refl _ _⟩) (sub_cons rfl (sub_cons rfl (sub_cons rfl (sub_cons rfl (sub_cons (as_slice (n := (hdr big first).length) rfl (by first | rfl | (simp only [List.length_append, List.length_replicate, List.length_cons, List.length_nil]; omega))) (sub_cons rfl sub_nil)))))) ?_
      rintro ⟨k64, Ak64, ck64⟩ w25 K26 hI27 hK28
      obtain ⟨hk64, hok64, hchgk64⟩ := hI27
      refine T.sub (L' := [(0, .agg #[.bool big, .int .i64 gen, .int .i64 first, .int .i64 last]), (1, .pointer (some ⟨w.heap.size, 0, none⟩)), (2, .slice none 0 0), (3, .int .i64 0), (4, .slice Ak64 (((hdr big first) ++ zeros k64).length) ck64), (8, .bool (decide (¬ (RightP gen first last))))]) ?_ (sub_cons rfl (sub_cons rfl (sub_cons rfl (sub_cons rfl (sub_cons rfl (sub_cons rfl sub_nil))))))
      have hz29 := hchgk64.size
      have hkl64_ : ((hdr big first) ++ zeros k64).length = (hdr big first).length + k64 := by rw [List.length_append, List.length_replicate]
      refine t_seq (fun K30 hK30 => ?_)
      refine t_seq (fun K31 hK31 => ?_)
      refine t_region ?_
      refine tl_val (w' := w25) rfl (do_move rfl) (by decide) ?_
      refine tl_val (w' := w25) rfl (do_builtin (v := .int .i64 (((hdr big first) ++ zeros k64).length : Int)) rfl (fun _ _ => by kernel_rfl)) (by decide) ?_
      refine tl_val (w' := w25) rfl (do_lss rfl rfl) (by decide) ?_
      refine tl_end ?_
      refine fun a_ ha_ => hK31 _ _ _ (T.sub (L' := [(0, .agg #[.bool big, .int .i64 gen, .int .i64 first, .int .i64 last]), (1, .pointer (some ⟨w.heap.size, 0, none⟩)), (2, .slice none 0 0), (3, .int .i64 0), (4, .slice Ak64 (((hdr big first) ++ zeros k64).length) ck64), (8, .bool (decide (¬ (RightP gen first last)))), (19, .bool (decide ((((hdr big first) ++ zeros k64).length : Int) < 64)))]) ?_ (sub_cons rfl (sub_cons rfl (sub_cons rfl (sub_cons rfl (sub_cons rfl (sub_cons rfl (sub_cons rfl sub_nil)))))))) a_ ha_
      by_cases hc32 : (((hdr big first) ++ zeros k64).length : Int) < 64
      · have hk33 := decide_eq_true hc32
        refine t_yes rfl hk33 ?_
        refine t_skip ?_
        refine fun a_ ha_ => hK30 _ _ _ (T.sub (L' := [(0, .agg #[.bool big, .int .i64 gen, .int .i64 first, .int .i64 last]), (1, .pointer (some ⟨w.heap.size, 0, none⟩)), (2, .slice none 0 0), (3, .int .i64 0), (4, .slice Ak64 (((hdr big first) ++ zeros k64).length) ck64), (8, .bool (decide (¬ (RightP gen first last)))), (19, .bool (decide ((((hdr big first) ++ zeros k64).length : Int) < 64)))]) ?_ (sub_cons rfl (sub_cons rfl (sub_cons rfl (sub_cons rfl (sub_cons rfl (sub_cons rfl (sub_cons rfl sub_nil)))))))) a_ ha_
        refine t_block ?_
        refine t_region ?_
        refine tl_val (w' := w25) rfl (do_move rfl) (by decide) ?_
        refine tl_val rfl (do_buildSlice (vs := [.int .u8 0]) (v := .slice (some ⟨w25.heap.size, 0, none⟩) 1 1) (w' := w25.alloc (.cells #[.int .u8 0] 5)) rfl (by kernel_rfl)) (by decide) ?_
        refine tl_gen (fun w34 e35 => ?_)
        have hb36 : Chg (fun _ => False) w25 w34 := e35 ▸ Chg.alloc _ _
        have hz37 : w34.heap.size = w25.heap.size + 1 := by rw [e35]; exact size_alloc _ _
        have hc38 : w34.heap[w25.heap.size]? = some (.cells #[.int .u8 0] 5 (0, 0)) := by rw [e35]; exact obj_new _ _
        clear e35
        have h39 := (OwB.chg hok64 hb36 (fun _ _ x => x))
        have hr41 : Rd w34 (some ⟨w25.heap.size, 0, none⟩) 1 ([0] : List UInt8) := Rd.of_obj (l := ([0] : List UInt8)) (cs := [.int .u8 0]) hc38 (by rfl) (by decide)
        obtain ⟨v40, w42, hr40, ho40, hg40⟩ := app_run h39 hr41 (by omega) (by first | omega | (simp only [List.length_append, told_length, List.length_cons, List.length_nil, List.length_replicate]; omega))
        obtain ⟨A40, c40, rfl, hrd40⟩ := OwB.rd ho40
        have hz43 := hg40.size
        refine tl_val rfl (do_builtin rfl (fun ty_ cs_ => hr40 ty_ cs_)) (by decide) ?_
        refine tl_val (w' := w42) rfl (do_assign rfl) (by decide) ?_
        refine tl_end ?_
        have hnext_ := ho40
        rw [rep_next] at hnext_
        refine fun a_ ha_ => hK28 (k64 + 1, A40, c40) _ _ (⟨by omega, hnext_, ((((Chg.refl (fun k_ => w10.heap.size ≤ k_) w20).step hchgk64 (fun k_ hk_ (h_ : w10.heap.size ≤ k_) => (show w10.heap.size ≤ k_ by omega))).step hb36 (fun k_ hk_ (h_ : False) => h_.elim)).step hg40 (fun k_ hk_ (h_ : some k_ = Value.ownBlock (.slice Ak64 (((hdr big first) ++ zeros k64).length) ck64)) => (show w10.heap.size ≤ k_ by have := OwB.block h39 _ h_.symm; omega)))⟩) (show 64 - (k64 + 1) < 64 - k64 by omega) (sub_cons rfl (sub_cons rfl (sub_cons rfl (sub_cons rfl (sub_cons (as_slice (n := (((hdr big first) ++ zeros k64) ++ ([0] : List UInt8)).length) rfl (by first | rfl | (simp only [List.length_append, List.length_replicate, List.length_cons, List.length_nil]; omega))) (sub_cons rfl sub_nil)))))) a_ ha_
      · have hk33 := decide_eq_false hc32
        obtain rfl : k64 = 64 - (hdr big first).length := by first | omega | (simp only [List.length_append, told_length, List.length_cons, List.length_nil, List.length_replicate]; omega)
        refine t_no rfl hk33 ?_
        refine t_exit ?_
        refine fun a_ ha_ => hK24 _ _ _ (T.sub (L' := [(0, .agg #[.bool big, .int .i64 gen, .int .i64 first, .int .i64 last]), (1, .pointer (some ⟨w.heap.size, 0, none⟩)), (2, .slice none 0 0), (3, .int .i64 0), (4, .slice Ak64 (((hdr big first) ++ zeros (64 - (hdr big first).length)).length) ck64), (8, .bool (decide (¬ (RightP gen first last)))), (19, .bool (decide ((((hdr big first) ++ zeros (64 - (hdr big first).length)).length : Int) < 64)))]) ?_ (sub_cons rfl (sub_cons rfl (sub_cons rfl (sub_cons rfl (sub_cons rfl (sub_cons rfl (sub_cons rfl sub_nil)))))))) a_ ha_
        refine t_seq (fun K44 hK44 => ?_)
        refine t_region ?_
        refine tl_val (w' := w25) rfl (do_move rfl) (by decide) ?_
        refine tl_val rfl (do_buildSlice (vs := [.int .u8 67, .int .u8 76, .int .u8 82, .int .u8 89]) (v := .slice (some ⟨w25.heap.size, 0, none⟩) 4 4) (w' := w25.alloc (.cells #[.int .u8 67, .int .u8 76, .int .u8 82, .int .u8 89] 5)) rfl (by kernel_rfl)) (by decide) ?_
        refine tl_gen (fun w45 e46 => ?_)
        have hb47 : Chg (fun _ => False) w25 w45 := e46 ▸ Chg.alloc _ _
        have hz48 : w45.heap.size = w25.heap.size + 1 := by rw [e46]; exact size_alloc _ _
        have hc49 : w45.heap[w25.heap.size]? = some (.cells #[.int .u8 67, .int .u8 76, .int .u8 82, .int .u8 89] 5 (0, 0)) := by rw [e46]; exact obj_new _ _
        clear e46
        have h50 := (OwB.chg hok64 hb47 (fun _ _ x => x))
        have hr52 : Rd w45 (some ⟨w25.heap.size, 0, none⟩) 4 ([67, 76, 82, 89] : List UInt8) := Rd.of_obj (l := ([67, 76, 82, 89] : List UInt8)) (cs := [.int .u8 67, .int .u8 76, .int .u8 82, .int .u8 89]) hc49 (by rfl) (by decide)
        obtain ⟨v51, w53, hr51, ho51, hg51⟩ := app_run h50 hr52 (by omega) (by first | omega | (simp only [List.length_append, told_length, List.length_cons, List.length_nil, List.length_replicate]; omega))
        obtain ⟨A51, c51, rfl, hrd51⟩ := OwB.rd ho51
        have hz54 := hg51.size
        refine tl_val rfl (do_builtin rfl (fun ty_ cs_ => hr51 ty_ cs_)) (by decide) ?_
        refine tl_val (w' := w53) rfl (do_assign rfl) (by decide) ?_
        refine tl_end ?_
        refine fun a_ ha_ => hK44 _ _ _ (T.sub (L' := [(0, .agg #[.bool big, .int .i64 gen, .int .i64 first, .int .i64 last]), (1, .pointer (some ⟨w.heap.size, 0, none⟩)), (2, .slice none 0 0), (3, .int .i64 0), (4, .slice A51 ((((hdr big first) ++ zeros (64 - (hdr big first).length)) ++ ([67, 76, 82, 89] : List UInt8)).length) c51), (8, .bool (decide (¬ (RightP gen first last)))), (19, .bool (decide ((((hdr big first) ++ zeros (64 - (hdr big first).length)).length : Int) < 64)))]) ?_ (sub_cons rfl (sub_cons rfl (sub_cons rfl (sub_cons rfl (sub_cons rfl (sub_cons rfl (sub_cons rfl sub_nil)))))))) a_ ha_
        refine t_seq (fun K55 hK55 => ?_)
        refine t_region ?_
        refine tl_val (w' := w53) rfl (do_move rfl) (by decide) ?_
        refine tl_val (w' := w53) rfl (do_fieldAddr (v := .pointer (some ⟨w.heap.size, 1, none⟩)) rfl (by kernel_rfl)) (by decide) ?_
        have h56 := (hg51.obj (fun e_ => by have := OwB.block h50 _ e_.symm; omega) (hb47.obj (fun x => x) (hchgk64.obj (show ¬ w10.heap.size ≤ w.heap.size by omega) (hchg19.obj (fun x => x) h18))))
        refine tl_val (w' := w53) rfl (do_load (v := .int .i64 gen) rfl (by kernel_rfl) (by rw [obj_cell h56]; rfl)) (by decide) ?_
        refine tl_call rfl (en_call (f := 27) (by kernel_rfl) rfl) rfl (toldO_e gen 8 _ (by omega) (by omega) (by decide)) (fun v60 w58 hr59 => ?_) (fun _ _ h => h.elim) (fun _ h => h)
        obtain ⟨A57, c57, rfl, hrd57, ho57, hchg57⟩ := hr59
        have hz61 := hchg57.size
        have h62 := (OwB.chg ho51 hchg57 (fun _ _ x => x))
        obtain ⟨v63, w64, hr63, ho63, hg63⟩ := app_run h62 hrd57 (by omega) (by first | omega | (simp only [List.length_append, told_length, List.length_cons, List.length_nil, List.length_replicate]; omega))
        obtain ⟨A63, c63, rfl, hrd63⟩ := OwB.rd ho63
        have hz65 := hg63.size
        refine tl_val rfl (do_builtin rfl (fun ty_ cs_ => hr63 ty_ cs_)) (by decide) ?_
        refine tl_val (w' := w64) rfl (do_assign rfl) (by decide) ?_
        refine tl_end ?_
        refine fun a_ ha_ => hK55 _ _ _ (T.sub (L' := [(0, .agg #[.bool big, .int .i64 gen, .int .i64 first, .int .i64 last]), (1, .pointer (some ⟨w.heap.size, 0, none⟩)), (2, .slice none 0 0), (3, .int .i64 0), (4, .slice A63 (((((hdr big first) ++ zeros (64 - (hdr big first).length)) ++ ([67, 76, 82, 89] : List UInt8)) ++ (told gen 8 false)).length) c63), (8, .bool (decide (¬ (RightP gen first last)))), (19, .bool (decide ((((hdr big first) ++ zeros (64 - (hdr big first).length)).length : Int) < 64)))]) ?_ (sub_cons rfl (sub_cons rfl (sub_cons rfl (sub_cons rfl (sub_cons rfl (sub_cons rfl (sub_cons rfl sub_nil)))))))) a_ ha_
        refine t_seq (fun K66 hK66 => ?_)
        refine t_region ?_
        refine tl_val (w' := w64) rfl (do_move rfl) (by decide) ?_
        refine tl_val (w' := w64) rfl (do_fieldAddr (v := .pointer (some ⟨w.heap.size, 3, none⟩)) rfl (by kernel_rfl)) (by decide) ?_
        have h67 := (hg63.obj (fun e_ => by have := OwB.block h62 _ e_.symm; omega) (hchg57.obj (fun x => x) h56))
        refine tl_val (w' := w64) rfl (do_load (v := .int .i64 last) rfl (by kernel_rfl) (by rw [obj_cell h67]; rfl)) (by decide) ?_
        refine tl_call rfl (en_call (f := 27) (by kernel_rfl) rfl) rfl (toldO_e last 8 _ (by omega) (by omega) (by decide)) (fun v71 w69 hr70 => ?_) (fun _ _ h => h.elim) (fun _ h => h)
        obtain ⟨A68, c68, rfl, hrd68, ho68, hchg68⟩ := hr70
        have hz72 := hchg68.size
        have h73 := (OwB.chg ho63 hchg68 (fun _ _ x => x))
        obtain ⟨v74, w75, hr74, ho74, hg74⟩ := app_run h73 hrd68 (by omega) (by first | omega | (simp only [List.length_append, told_length, List.length_cons, List.length_nil, List.length_replicate]; omega))
        obtain ⟨A74, c74, rfl, hrd74⟩ := OwB.rd ho74
        have hz76 := hg74.size
        refine tl_val rfl (do_builtin rfl (fun ty_ cs_ => hr74 ty_ cs_)) (by decide) ?_
        refine tl_val (w' := w75) rfl (do_assign rfl) (by decide) ?_
        refine tl_end ?_
        refine fun a_ ha_ => hK66 _ _ _ (T.sub (L' := [(0, .agg #[.bool big, .int .i64 gen, .int .i64 first, .int .i64 last]), (1, .pointer (some ⟨w.heap.size, 0, none⟩)), (2, .slice none 0 0), (3, .int .i64 0), (4, .slice A74 ((((((hdr big first) ++ zeros (64 - (hdr big first).length)) ++ ([67, 76, 82, 89] : List UInt8)) ++ (told gen 8 false)) ++ (told last 8 false)).length) c74), (8, .bool (decide (¬ (RightP gen first last)))), (19, .bool (decide ((((hdr big first) ++ zeros (64 - (hdr big first).length)).length : Int) < 64)))]) ?_ (sub_cons rfl (sub_cons rfl (sub_cons rfl (sub_cons rfl (sub_cons rfl (sub_cons rfl (sub_cons rfl sub_nil)))))))) a_ ha_
        refine t_seq (fun K77 hK77 => ?_)
        refine t_block ?_
        refine t_loop (G := Nat × Option Addr × Nat) (fun ⟨k124, Ak124, ck124⟩ => [(0, .agg #[.bool big, .int .i64 gen, .int .i64 first, .int .i64 last]), (1, .pointer (some ⟨w.heap.size, 0, none⟩)), (2, .slice none 0 0), (3, .int .i64 0), (4, .slice Ak124 (((((((hdr big first) ++ zeros (64 - (hdr big first).length)) ++ ([67, 76, 82, 89] : List UInt8)) ++ (told gen 8 false)) ++ (told last 8 false)) ++ zeros k124).length) ck124), (8, .bool (decide (¬ (RightP gen first last)))), (19, .bool (decide ((((hdr big first) ++ zeros (64 - (hdr big first).length)).length : Int) < 64)))]) (fun ⟨k124, Ak124, ck124⟩ WW_ => k124 + (((((hdr big first) ++ zeros (64 - (hdr big first).length)) ++ ([67, 76, 82, 89] : List UInt8)) ++ (told gen 8 false)) ++ (told last 8 false)).length ≤ 124 ∧ OwB WW_ w10.heap.size (.slice Ak124 ((((((hdr big first) ++ zeros (64 - (hdr big first).length)) ++ ([67, 76, 82, 89] : List UInt8)) ++ (told gen 8 false)) ++ (told last 8 false)) ++ zeros k124).length ck124) ((((((hdr big first) ++ zeros (64 - (hdr big first).length)) ++ ([67, 76, 82, 89] : List UInt8)) ++ (told gen 8 false)) ++ (told last 8 false)) ++ zeros k124) ∧ Chg (fun k_ => w10.heap.size ≤ k_) w75 WW_) (fun ⟨k124, Ak124, ck124⟩ => 124 - k124) (0, A74, c74) (⟨by first | omega | (simp only [List.length_append, told_length, List.length_cons, List.length_nil, List.length_replicate]; omega), (List.append_nil (((((hdr big first) ++ zeros (64 - (hdr big first).length)) ++ ([67, 76, 82, 89] : List UInt8)) ++ (told gen 8 false)) ++ (told last 8 false))).symm ▸ ho74, Chg.refl _ _⟩) (sub_cons rfl (sub_cons rfl (sub_cons rfl (sub_cons rfl (sub_cons (as_slice (n := (((((hdr big first) ++ zeros (64 - (hdr big first).length)) ++ ([67, 76, 82, 89] : List UInt8)) ++ (told gen 8 false)) ++ (told last 8 false)).length) rfl (by first | rfl | (simp only [List.length_append, List.length_replicate, List.length_cons, List.length_nil]; omega))) (sub_cons rfl (sub_cons rfl sub_nil))))))) ?_
        rintro ⟨k124, Ak124, ck124⟩ w78 K79 hI80 hK81
        obtain ⟨hk124, hok124, hchgk124⟩ := hI80
        refine T.sub (L' := [(0, .agg #[.bool big, .int .i64 gen, .int .i64 first, .int .i64 last]), (1, .pointer (some ⟨w.heap.size, 0, none⟩)), (2, .slice none 0 0), (3, .int .i64 0), (4, .slice Ak124 (((((((hdr big first) ++ zeros (64 - (hdr big first).length)) ++ ([67, 76, 82, 89] : List UInt8)) ++ (told gen 8 false)) ++ (told last 8 false)) ++ zeros k124).length) ck124), (8, .bool (decide (¬ (RightP gen first last)))), (19, .bool (decide ((((hdr big first) ++ zeros (64 - (hdr big first).length)).length : Int) < 64)))]) ?_ (sub_cons rfl (sub_cons rfl (sub_cons rfl (sub_cons rfl (sub_cons rfl (sub_cons rfl (sub_cons rfl sub_nil)))))))
        have hz82 := hchgk124.size
        have hkl124_ : ((((((hdr big first) ++ zeros (64 - (hdr big first).length)) ++ ([67, 76, 82, 89] : List UInt8)) ++ (told gen 8 false)) ++ (told last 8 false)) ++ zeros k124).length = (((((hdr big first) ++ zeros (64 - (hdr big first).length)) ++ ([67, 76, 82, 89] : List UInt8)) ++ (told gen 8 false)) ++ (told last 8 false)).length + k124 := by rw [List.length_append, List.length_replicate]
        refine t_seq (fun K83 hK83 => ?_)
        refine t_seq (fun K84 hK84 => ?_)
        refine t_region ?_
        refine tl_val (w' := w78) rfl (do_move rfl) (by decide) ?_
        refine tl_val (w' := w78) rfl (do_builtin (v := .int .i64 (((((((hdr big first) ++ zeros (64 - (hdr big first).length)) ++ ([67, 76, 82, 89] : List UInt8)) ++ (told gen 8 false)) ++ (told last 8 false)) ++ zeros k124).length : Int)) rfl (fun _ _ => by kernel_rfl)) (by decide) ?_
        refine tl_val (w' := w78) rfl (do_lss rfl rfl) (by decide) ?_
        refine tl_end ?_
        refine fun a_ ha_ => hK84 _ _ _ (T.sub (L' := [(0, .agg #[.bool big, .int .i64 gen, .int .i64 first, .int .i64 last]), (1, .pointer (some ⟨w.heap.size, 0, none⟩)), (2, .slice none 0 0), (3, .int .i64 0), (4, .slice Ak124 (((((((hdr big first) ++ zeros (64 - (hdr big first).length)) ++ ([67, 76, 82, 89] : List UInt8)) ++ (told gen 8 false)) ++ (told last 8 false)) ++ zeros k124).length) ck124), (8, .bool (decide (¬ (RightP gen first last)))), (19, .bool (decide ((((hdr big first) ++ zeros (64 - (hdr big first).length)).length : Int) < 64))), (38, .bool (decide ((((((((hdr big first) ++ zeros (64 - (hdr big first).length)) ++ ([67, 76, 82, 89] : List UInt8)) ++ (told gen 8 false)) ++ (told last 8 false)) ++ zeros k124).length : Int) < 124)))]) ?_ (sub_cons rfl (sub_cons rfl (sub_cons rfl (sub_cons rfl (sub_cons rfl (sub_cons rfl (sub_cons rfl (sub_cons rfl sub_nil))))))))) a_ ha_
        by_cases hc85 : (((((((hdr big first) ++ zeros (64 - (hdr big first).length)) ++ ([67, 76, 82, 89] : List UInt8)) ++ (told gen 8 false)) ++ (told last 8 false)) ++ zeros k124).length : Int) < 124
        · have hk86 := decide_eq_true hc85
          refine t_yes rfl hk86 ?_
          refine t_skip ?_
          refine fun a_ ha_ => hK83 _ _ _ (T.sub (L' := [(0, .agg #[.bool big, .int .i64 gen, .int .i64 first, .int .i64 last]), (1, .pointer (some ⟨w.heap.size, 0, none⟩)), (2, .slice none 0 0), (3, .int .i64 0), (4, .slice Ak124 (((((((hdr big first) ++ zeros (64 - (hdr big first).length)) ++ ([67, 76, 82, 89] : List UInt8)) ++ (told gen 8 false)) ++ (told last 8 false)) ++ zeros k124).length) ck124), (8, .bool (decide (¬ (RightP gen first last)))), (19, .bool (decide ((((hdr big first) ++ zeros (64 - (hdr big first).length)).length : Int) < 64))), (38, .bool (decide ((((((((hdr big first) ++ zeros (64 - (hdr big first).length)) ++ ([67, 76, 82, 89] : List UInt8)) ++ (told gen 8 false)) ++ (told last 8 false)) ++ zeros k124).length : Int) < 124)))]) ?_ (sub_cons rfl (sub_cons rfl (sub_cons rfl (sub_cons rfl (sub_cons rfl (sub_cons rfl (sub_cons rfl (sub_cons rfl sub_nil))))))))) a_ ha_
          refine t_block ?_
          refine t_region ?_
          refine tl_val (w' := w78) rfl (do_move rfl) (by decide) ?_
          refine tl_val rfl (do_buildSlice (vs := [.int .u8 0]) (v := .slice (some ⟨w78.heap.size, 0, none⟩) 1 1) (w' := w78.alloc (.cells #[.int .u8 0] 5)) rfl (by kernel_rfl)) (by decide) ?_
          refine tl_gen (fun w87 e88 => ?_)
          have hb89 : Chg (fun _ => False) w78 w87 := e88 ▸ Chg.alloc _ _
          have hz90 : w87.heap.size = w78.heap.size + 1 := by rw [e88]; exact size_alloc _ _
          have hc91 : w87.heap[w78.heap.size]? = some (.cells #[.int .u8 0] 5 (0, 0)) := by rw [e88]; exact obj_new _ _
          clear e88
          have h92 := (OwB.chg hok124 hb89 (fun _ _ x => x))
          have hr94 : Rd w87 (some ⟨w78.heap.size, 0, none⟩) 1 ([0] : List UInt8) := Rd.of_obj (l := ([0] : List UInt8)) (cs := [.int .u8 0]) hc91 (by rfl) (by decide)
          obtain ⟨v93, w95, hr93, ho93, hg93⟩ := app_run h92 hr94 (by omega) (by first | omega | (simp only [List.length_append, told_length, List.length_cons, List.length_nil, List.length_replicate]; omega))
          obtain ⟨A93, c93, rfl, hrd93⟩ := OwB.rd ho93
          have hz96 := hg93.size
          refine tl_val rfl (do_builtin rfl (fun ty_ cs_ => hr93 ty_ cs_)) (by decide) ?_
          refine tl_val (w' := w95) rfl (do_assign rfl) (by decide) ?_
          refine tl_end ?_
          have hnext_ := ho93
          rw [rep_next] at hnext_
          refine fun a_ ha_ => hK81 (k124 + 1, A93, c93) _ _ (⟨by omega, hnext_, ((((Chg.refl (fun k_ => w10.heap.size ≤ k_) w75).step hchgk124 (fun k_ hk_ (h_ : w10.heap.size ≤ k_) => (show w10.heap.size ≤ k_ by omega))).step hb89 (fun k_ hk_ (h_ : False) => h_.elim)).step hg93 (fun k_ hk_ (h_ : some k_ = Value.ownBlock (.slice Ak124 (((((((hdr big first) ++ zeros (64 - (hdr big first).length)) ++ ([67, 76, 82, 89] : List UInt8)) ++ (told gen 8 false)) ++ (told last 8 false)) ++ zeros k124).length) ck124)) => (show w10.heap.size ≤ k_ by have := OwB.block h92 _ h_.symm; omega)))⟩) (show 124 - (k124 + 1) < 124 - k124 by omega) (sub_cons rfl (sub_cons rfl (sub_cons rfl (sub_cons rfl (sub_cons (as_slice (n := (((((((hdr big first) ++ zeros (64 - (hdr big first).length)) ++ ([67, 76, 82, 89] : List UInt8)) ++ (told gen 8 false)) ++ (told last 8 false)) ++ zeros k124) ++ ([0] : List UInt8)).length) rfl (by first | rfl | (simp only [List.length_append, List.length_replicate, List.length_cons, List.length_nil]; omega))) (sub_cons rfl (sub_cons rfl sub_nil))))))) a_ ha_
        · have hk86 := decide_eq_false hc85
          obtain rfl : k124 = 124 - (((((hdr big first) ++ zeros (64 - (hdr big first).length)) ++ ([67, 76, 82, 89] : List UInt8)) ++ (told gen 8 false)) ++ (told last 8 false)).length := by first | omega | (simp only [List.length_append, told_length, List.length_cons, List.length_nil, List.length_replicate]; omega)
          refine t_no rfl hk86 ?_
          refine t_exit ?_
          refine fun a_ ha_ => hK77 _ _ _ (T.sub (L' := [(0, .agg #[.bool big, .int .i64 gen, .int .i64 first, .int .i64 last]), (1, .pointer (some ⟨w.heap.size, 0, none⟩)), (2, .slice none 0 0), (3, .int .i64 0), (4, .slice Ak124 (((((((hdr big first) ++ zeros (64 - (hdr big first).length)) ++ ([67, 76, 82, 89] : List UInt8)) ++ (told gen 8 false)) ++ (told last 8 false)) ++ zeros (124 - (((((hdr big first) ++ zeros (64 - (hdr big first).length)) ++ ([67, 76, 82, 89] : List UInt8)) ++ (told gen 8 false)) ++ (told last 8 false)).length)).length) ck124), (8, .bool (decide (¬ (RightP gen first last)))), (19, .bool (decide ((((hdr big first) ++ zeros (64 - (hdr big first).length)).length : Int) < 64))), (38, .bool (decide ((((((((hdr big first) ++ zeros (64 - (hdr big first).length)) ++ ([67, 76, 82, 89] : List UInt8)) ++ (told gen 8 false)) ++ (told last 8 false)) ++ zeros (124 - (((((hdr big first) ++ zeros (64 - (hdr big first).length)) ++ ([67, 76, 82, 89] : List UInt8)) ++ (told gen 8 false)) ++ (told last 8 false)).length)).length : Int) < 124)))]) ?_ (sub_cons rfl (sub_cons rfl (sub_cons rfl (sub_cons rfl (sub_cons rfl (sub_cons rfl (sub_cons rfl (sub_cons rfl sub_nil))))))))) a_ ha_
          refine t_seq (fun K97 hK97 => ?_)
          refine t_region ?_
          refine tl_val (w' := w78) rfl (do_move rfl) (by decide) ?_
          have hr98 : Rd w78 Ak124 ck124 ((((((hdr big first) ++ zeros (64 - (hdr big first).length)) ++ ([67, 76, 82, 89] : List UInt8)) ++ (told gen 8 false)) ++ (told last 8 false)) ++ zeros (124 - (((((hdr big first) ++ zeros (64 - (hdr big first).length)) ++ ([67, 76, 82, 89] : List UInt8)) ++ (told gen 8 false)) ++ (told last 8 false)).length)) := by obtain ⟨A_, c_, e_, h_⟩ := OwB.rd hok124; cases e_; exact h_
          refine tl_call rfl (en_call (f := 18) (by kernel_rfl) rfl) rfl (rseal_e hr98 (by first | omega | (simp only [List.length_append, told_length, List.length_cons, List.length_nil, List.length_replicate]; omega))) (fun v102 w100 hr101 => ?_) (fun _ _ h => h.elim) (fun _ h => h)
          obtain ⟨A99, c99, rfl, hrd99, ho99, hchg99⟩ := hr101
          have hz103 := hchg99.size
          refine tl_val (w' := w100) rfl (do_assign rfl) (by decide) ?_
          refine tl_val (w' := w100) rfl (do_assign rfl) (by decide) ?_
          refine tl_end ?_
          refine fun a_ ha_ => hK97 _ _ _ (T.sub (L' := [(0, .agg #[.bool big, .int .i64 gen, .int .i64 first, .int .i64 last]), (1, .pointer (some ⟨w.heap.size, 0, none⟩)), (2, .slice A99 ((sealed ((((((hdr big first) ++ zeros (64 - (hdr big first).length)) ++ ([67, 76, 82, 89] : List UInt8)) ++ (told gen 8 false)) ++ (told last 8 false)) ++ zeros (124 - (((((hdr big first) ++ zeros (64 - (hdr big first).length)) ++ ([67, 76, 82, 89] : List UInt8)) ++ (told gen 8 false)) ++ (told last 8 false)).length))).length) c99), (3, .int .i64 0), (4, .slice Ak124 (((((((hdr big first) ++ zeros (64 - (hdr big first).length)) ++ ([67, 76, 82, 89] : List UInt8)) ++ (told gen 8 false)) ++ (told last 8 false)) ++ zeros (124 - (((((hdr big first) ++ zeros (64 - (hdr big first).length)) ++ ([67, 76, 82, 89] : List UInt8)) ++ (told gen 8 false)) ++ (told last 8 false)).length)).length) ck124), (8, .bool (decide (¬ (RightP gen first last)))), (19, .bool (decide ((((hdr big first) ++ zeros (64 - (hdr big first).length)).length : Int) < 64))), (38, .bool (decide ((((((((hdr big first) ++ zeros (64 - (hdr big first).length)) ++ ([67, 76, 82, 89] : List UInt8)) ++ (told gen 8 false)) ++ (told last 8 false)) ++ zeros (124 - (((((hdr big first) ++ zeros (64 - (hdr big first).length)) ++ ([67, 76, 82, 89] : List UInt8)) ++ (told gen 8 false)) ++ (told last 8 false)).length)).length : Int) < 124)))]) ?_ (sub_cons rfl (sub_cons rfl (sub_cons rfl (sub_cons rfl (sub_cons rfl (sub_cons rfl (sub_cons rfl (sub_cons rfl sub_nil))))))))) a_ ha_
          refine t_ret ?_
          refine fun a_ ha_ => hQ0 _ _ _ (body_ret (rs := [.tmp 2, .tmp 3]) (vs := [.slice A99 ((sealed ((((((hdr big first) ++ zeros (64 - (hdr big first).length)) ++ ([67, 76, 82, 89] : List UInt8)) ++ (told gen 8 false)) ++ (told last 8 false)) ++ zeros (124 - (((((hdr big first) ++ zeros (64 - (hdr big first).length)) ++ ([67, 76, 82, 89] : List UInt8)) ++ (told gen 8 false)) ++ (told last 8 false)).length))).length) c99, .int .i64 0]) ha_ (by kernel_rfl) ⟨_, _, rfl, rfl, ⟨_, _, rfl, rfl, rfl⟩⟩ ?_)
          have he_ : sealed ((((((hdr big first) ++ zeros (64 - (hdr big first).length)) ++ ([67, 76, 82, 89] : List UInt8)) ++ (told gen 8 false)) ++ (told last 8 false)) ++ zeros (124 - (((((hdr big first) ++ zeros (64 - (hdr big first).length)) ++ ([67, 76, 82, 89] : List UInt8)) ++ (told gen 8 false)) ++ (told last 8 false)).length)) = sector big gen first last := by unfold sector body1; first | rfl | (unfold fill; rfl)
          have hw_ := ho99.mono (b' := w.heap.size) (by omega)
          have hrd_ := hrd99
          rw [he_] at hw_ hrd_ ⊢
          exact ⟨(((((((((((((Chg.refl (fun k_ => False) w).step hb4 (fun k_ hk_ (h_ : False) => h_.elim)).step hchg9 (fun k_ hk_ (h_ : False) => h_.elim)).step hchg19 (fun k_ hk_ (h_ : False) => h_.elim)).step hchgk64 (fun k_ hk_ (h_ : w10.heap.size ≤ k_) => (show False by omega))).step hb47 (fun k_ hk_ (h_ : False) => h_.elim)).step hg51 (fun k_ hk_ (h_ : some k_ = Value.ownBlock (.slice Ak64 (((hdr big first) ++ zeros (64 - (hdr big first).length)).length) ck64)) => (show False by have := OwB.block h50 _ h_.symm; omega))).step hchg57 (fun k_ hk_ (h_ : False) => h_.elim)).step hg63 (fun k_ hk_ (h_ : some k_ = Value.ownBlock (.slice A51 ((((hdr big first) ++ zeros (64 - (hdr big first).length)) ++ ([67, 76, 82, 89] : List UInt8)).length) c51)) => (show False by have := OwB.block h62 _ h_.symm; omega))).step hchg68 (fun k_ hk_ (h_ : False) => h_.elim)).step hg74 (fun k_ hk_ (h_ : some k_ = Value.ownBlock (.slice A63 (((((hdr big first) ++ zeros (64 - (hdr big first).length)) ++ ([67, 76, 82, 89] : List UInt8)) ++ (told gen 8 false)).length) c63)) => (show False by have := OwB.block h73 _ h_.symm; omega))).step hchgk124 (fun k_ hk_ (h_ : w10.heap.size ≤ k_) => (show False by omega))).step hchg99 (fun k_ hk_ (h_ : False) => h_.elim)), .inl ⟨hR, _, _, rfl, hrd_, hw_⟩⟩
end Go.Proofs.YtfmpbbeacpdalaaDoor
