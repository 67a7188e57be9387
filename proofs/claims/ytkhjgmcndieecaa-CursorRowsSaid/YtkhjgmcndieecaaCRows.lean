/-
  The walk of CursorRows.
-/
import Derived.Test.YtkhjgmcndieecaaCPure
import Derived.OpenShut
set_option linter.unusedVariables false
set_option linter.unusedSimpArgs false
set_option maxRecDepth 100000
namespace Go.Proofs.Ytkhjgmcndieecaa
open Go.RowKit

/-- How wide a number is. -/
def wOf (z : UInt8) : Nat := 2 ^ (z.toNat % 4)
theorem wOf_cases (z : UInt8) : wOf z = 1 ∨ wOf z = 2 ∨ wOf z = 4 ∨ wOf z = 8 := by
  unfold wOf
  have : z.toNat % 4 = 0 ∨ z.toNat % 4 = 1 ∨ z.toNat % 4 = 2 ∨ z.toNat % 4 = 3 := by omega
  rcases this with h | h | h | h <;> rw [h] <;> simp
theorem wOf_shl (z : UInt8) : IntKind.i64.wrap (1 * 2 ^ min (((z.toNat : Int) % 4).toNat) IntKind.i64.bits) = (wOf z : Int) := by
  unfold wOf
  have : z.toNat % 4 = 0 ∨ z.toNat % 4 = 1 ∨ z.toNat % 4 = 2 ∨ z.toNat % 4 = 3 := by omega
  have e : ((z.toNat : Int) % 4).toNat = z.toNat % 4 := by omega
  rw [e]
  rcases this with h | h | h | h <;> rw [h] <;> decide
theorem top_shl {s : Nat} (hs : s = 1 ∨ s = 2 ∨ s = 4 ∨ s = 8) (h : (s : Int) < 8) : IntKind.i64.wrap (1 * 2 ^ min (8 * min (s : Int) 4).toNat IntKind.i64.bits) = ((256 ^ s : Nat) : Int) := by
  rcases hs with rfl | rfl | rfl | rfl
  · decide
  · decide
  · decide
  · omega
theorem top_pos (s : Nat) : (0 : Int) < ((256 ^ s : Nat) : Int) := by
  have := Nat.pow_pos (n := s) (show 0 < 256 by decide)
  omega
/-- Numbers put one behind the other. -/
def pre (ns : List Int) (ws : List UInt8) (big : Bool) : Nat → List UInt8
  | 0 => []
  | k + 1 => pre ns ws big k ++ told (ns.getD k 0) (wOf (ws.getD k 0)) big
theorem pre_length (ns : List Int) (ws : List UInt8) (big : Bool) (k : Nat) : (pre ns ws big k).length ≤ 8 * k := by
  induction k with
  | zero => simp [pre]
  | succ k ih =>
    simp only [pre, List.length_append, told_length]
    have := wOf_cases (ws.getD k 0)
    omega
theorem put_pre (ns : List Int) (ws : List UInt8) (big : Bool) (k : Nat) : put (pre ns ws big k) (ns.getD k 0) (wOf (ws.getD k 0)) big = pre ns ws big (k + 1) := put_wide_eq _ _ _ _ (wide_of (wOf_cases _))
theorem pre_split (ns : List Int) (ws : List UInt8) (big : Bool) (k : Nat) : ∀ d, ∃ r, pre ns ws big (k + 1 + d) = pre ns ws big k ++ told (ns.getD k 0) (wOf (ws.getD k 0)) big ++ r
  | 0 => ⟨[], by simp [pre]⟩
  | d + 1 => by
    obtain ⟨r, hr⟩ := pre_split ns ws big k d
    exact ⟨r ++ _, by rw [← Nat.add_assoc, pre, hr, List.append_assoc]⟩
theorem num_pre {ns : List Int} {ws : List UInt8} {big : Bool} {k n : Nat} (hk : k < n) (h1 : ns.getD k 0 ≤ 9223372036854775807) :
    numA (pre ns ws big n) (pre ns ws big k).length (wOf (ws.getD k 0)) big = .ok (.int .i64 (((ns.getD k 0).toNat % 256 ^ wOf (ws.getD k 0) : Nat) : Int)) := by
  obtain ⟨r, hr⟩ := pre_split ns ws big k (n - (k + 1))
  rw [show k + 1 + (n - (k + 1)) = n by omega] at hr
  rw [hr]
  exact num_told _ _ _ _ _ (wOf_cases _) h1
theorem pre_len_succ (ns : List Int) (ws : List UInt8) (big : Bool) (k : Nat) : (pre ns ws big k).length + Int.toNat (wOf (ws.getD k 0)) = (pre ns ws big (k + 1)).length := by simp [pre, told_length]
theorem pre_le {ns : List Int} {ws : List UInt8} {big : Bool} {k n : Nat} (hk : k ≤ n) : (pre ns ws big k).length ≤ (pre ns ws big n).length := by
  induction n with
  | zero =>
    obtain rfl : k = 0 := by omega
    exact Nat.le_refl _
  | succ n ih =>
    rcases Nat.lt_or_ge k (n + 1) with h | h
    · have := ih (by omega)
      simp only [pre, List.length_append]
      omega
    · obtain rfl : k = n + 1 := by omega
      exact Nat.le_refl _
theorem same_small {n : Int} {R : Nat} {m : Int} (h : m = ((n.toNat % R : Nat) : Int)) : m = max (max n 0 % (R : Int)) 0 := by
  have e : ((n.toNat : Nat) : Int) = max n 0 := by omega
  rw [h, Int.natCast_emod, e]
  rcases Nat.eq_zero_or_pos R with h0 | h0
  · subst h0
    simp
  · have := Int.emod_nonneg (max n 0) (show (R : Int) ≠ 0 by omega)
    omega
theorem same_great {n m : Int} {s : Nat} (h1 : n ≤ 9223372036854775807) (hs : s = 8) (h : m = ((n.toNat % 256 ^ s : Nat) : Int)) : m = max n 0 := by
  subst hs
  have e : (256 : Nat) ^ 8 = 18446744073709551616 := by decide
  rw [e] at h
  omega
theorem getD_bd {ns : List Int} (h : ∀ n ∈ ns, -9223372036854775808 ≤ n ∧ n ≤ 9223372036854775807) (k : Nat) : -9223372036854775808 ≤ ns.getD k 0 ∧ ns.getD k 0 ≤ 9223372036854775807 := by
  rw [List.getD_eq_getElem?_getD]
  cases hk : ns[k]? with
  | none => simp
  | some x => exact h x (List.mem_of_getElem? hk)
theorem end_pre {ns : List Int} {ws : List UInt8} {big : Bool} {n k : Nat} (h : endA (pre ns ws big n) (pre ns ws big n).length = .error k) : False := by
  unfold endA at h
  rw [if_neg (by omega)] at h
  cases h
theorem putpre_e {w : World} {A : Option Addr} {c k : Nat} {ns : List Int} {ws : List UInt8} {big : Bool} (h : Rd w A c (pre ns ws big k)) (hk : k ≤ 100) (hb : -9223372036854775808 ≤ ns.getD k 0 ∧ ns.getD k 0 ≤ 9223372036854775807) :
    Calls Try.prog 13 [.slice A (pre ns ws big k).length c, .int .i64 (ns.getD k 0), .int .i64 (wOf (ws.getD k 0)), .bool big].toArray w (Ret fun v w' => ∃ A' c', v = .slice A' (pre ns ws big (k + 1)).length c' ∧ Rd w' A' c' (pre ns ws big (k + 1)) ∧ Chg (fun _ => False) w w') := by
  have hl := pre_length ns ws big k
  have := put_e (ns.getD k 0) (wOf (ws.getD k 0)) big h (by omega) hb.1 hb.2
  rwa [put_pre] at this

theorem rows1_e (p q1 q2 q3 q4 BB : Nat) (Ab An Aw : Option Addr) (cb cn cw : Nat) (ns : List Int) (ws : List UInt8) (big : Bool) (w : World) (hc : Cur w p Ab cb (pre ns ws big ns.length) 0 big true) (h1 : w.heap[q1]? = some (.cells #[.slice An ns.length cn] 34 (0, 0))) (h2 : w.heap[q2]? = some (.cells #[.slice Aw ws.length cw] 22 (0, 0)))
    (h3 : w.heap[q3]? = some (.cells #[.bool true] 4 (0, 0))) (h4 : w.heap[q4]? = some (.cells #[.int .i64 0] 3 (0, 0))) (hAn : RdI w An cn ns) (hAw : Rd w Aw cw ws) (hnb : ∀ a, An = some a → 0 < (enc int1 ns).length → a.block < BB) (hwb : ∀ a, Aw = some a → 0 < ws.length → a.block < BB)
    (hB : BB ≤ q3 ∧ BB ≤ q4 ∧ BB ≤ p) (hq : q1 < p ∧ q2 < p ∧ q3 < p ∧ q4 < p ∧ q1 < q3 ∧ q1 < q4 ∧ q2 < q3 ∧ q2 < q4 ∧ q3 ≠ q4) (hle : ns.length ≤ ws.length) (h60 : ns.length ≤ 60) (hns : ∀ n ∈ ns, -9223372036854775808 ≤ n ∧ n ≤ 9223372036854775807) :
    Calls Try.prog 20 [.pointer (some ⟨p, 0, none⟩), .pointer (some ⟨q1, 0, none⟩), .pointer (some ⟨q2, 0, none⟩), .pointer (some ⟨q3, 0, none⟩), .pointer (some ⟨q4, 0, none⟩)].toArray w
      (Rdr p (fun k => k = q3 ∨ k = q4) (fun o w' => o = .ok () ∧ w'.heap[q3]? = some (.cells #[.bool true] 4 (0, 0)) ∧ w'.heap[q4]? = some (.cells #[.int .i64 (ns.length : Int)] 3 (0, 0))) w) := by
  refine enter (n := 47) (L := [(0, .pointer (some ⟨p, 0, none⟩)), (1, .pointer (some ⟨q1, 0, none⟩)), (2, .pointer (some ⟨q2, 0, none⟩)), (3, .pointer (some ⟨q3, 0, none⟩)), (4, .pointer (some ⟨q4, 0, none⟩))]) (args := [.pointer (some ⟨p, 0, none⟩), .pointer (some ⟨q1, 0, none⟩), .pointer (some ⟨q2, 0, none⟩), .pointer (some ⟨q3, 0, none⟩), .pointer (some ⟨q4, 0, none⟩)]) Try.func20 rfl rfl (Nat.le_of_ble_eq_true rfl) (by intro t v h; exact look_args h) ?_
  refine t_body (fun Q0 hB0 hQ0 => ?_)
  refine t_seq (fun K1 hK1 => ?_)
  refine t_seq (fun K2 hK2 => ?_)
  refine t_region ?_
  refine tl_val (w' := w) rfl (do_load (v := .slice An ns.length cn) rfl (by kernel_rfl) (by rw [obj_cell h1]; rfl)) (by decide) ?_
  refine tl_val (w' := w) rfl (do_builtin (vs := [.slice An ns.length cn]) (v := .int .i64 (ns.length : Int)) rfl (fun _ _ => by kernel_rfl)) (by decide) ?_
  refine tl_val (w' := w) rfl (do_move rfl) (by decide) ?_
  refine tl_end ?_
  refine fun a_ ha_ => hK2 _ _ _ (T.sub (L' := [(0, .pointer (some ⟨p, 0, none⟩)), (1, .pointer (some ⟨q1, 0, none⟩)), (2, .pointer (some ⟨q2, 0, none⟩)), (3, .pointer (some ⟨q3, 0, none⟩)), (4, .pointer (some ⟨q4, 0, none⟩)), (10, .slice An ns.length cn), (11, .int .i64 (ns.length : Int)), (12, .int .i64 0)]) ?_ (sub_cons rfl (sub_cons rfl (sub_cons rfl (sub_cons rfl (sub_cons rfl (sub_cons rfl (sub_cons rfl (sub_cons rfl sub_nil))))))))) a_ ha_
  refine t_block ?_
  refine t_loop (G := Nat) (fun k => [(0, .pointer (some ⟨p, 0, none⟩)), (1, .pointer (some ⟨q1, 0, none⟩)), (2, .pointer (some ⟨q2, 0, none⟩)), (3, .pointer (some ⟨q3, 0, none⟩)), (4, .pointer (some ⟨q4, 0, none⟩)), (10, .slice An ns.length cn), (11, .int .i64 (ns.length : Int)), (12, .int .i64 (k : Int))]) (fun k WW_ => k ≤ ns.length ∧ Cur WW_ p Ab cb (pre ns ws big ns.length) (pre ns ws big k).length big true ∧ WW_.heap[q3]? = some (.cells #[.bool true] 4 (0, 0)) ∧ WW_.heap[q4]? = some (.cells #[.int .i64 (k : Int)] 3 (0, 0)) ∧ Chg (fun k_ => k_ = p ∨ k_ = q3 ∨ k_ = q4) w WW_) (fun k => ns.length - k) 0 (⟨Nat.zero_le _, hc, h3, h4, Chg.refl _ _⟩) (sub_cons rfl (sub_cons rfl (sub_cons rfl (sub_cons rfl (sub_cons rfl (sub_cons rfl (sub_cons rfl (sub_cons (as_int (a := 0) rfl (by omega)) sub_nil)))))))) ?_
  rintro k w3 K4 hI5 hK6
  obtain ⟨hk, hcur, ho3, ho4, hchg⟩ := hI5
  refine T.sub (L' := [(0, .pointer (some ⟨p, 0, none⟩)), (1, .pointer (some ⟨q1, 0, none⟩)), (2, .pointer (some ⟨q2, 0, none⟩)), (3, .pointer (some ⟨q3, 0, none⟩)), (4, .pointer (some ⟨q4, 0, none⟩)), (10, .slice An ns.length cn), (11, .int .i64 (ns.length : Int)), (12, .int .i64 (k : Int))]) ?_ (sub_cons rfl (sub_cons rfl (sub_cons rfl (sub_cons rfl (sub_cons rfl (sub_cons rfl (sub_cons rfl (sub_cons rfl sub_nil))))))))
  have hz7 := hchg.size
  have hbd := getD_bd hns k
  have hwc := wOf_cases (ws.getD k 0)
  have hpl : (pre ns ws big k).length ≤ (pre ns ws big ns.length).length := pre_le hk
  have hRp := top_pos (wOf (ws.getD k 0))
  refine t_seq (fun K8 hK8 => ?_)
  refine t_region ?_
  refine tl_val (w' := w3) rfl (do_lss rfl rfl) (by decide) ?_
  refine tl_end ?_
  refine fun a_ ha_ => hK8 _ _ _ (T.sub (L' := [(0, .pointer (some ⟨p, 0, none⟩)), (1, .pointer (some ⟨q1, 0, none⟩)), (2, .pointer (some ⟨q2, 0, none⟩)), (3, .pointer (some ⟨q3, 0, none⟩)), (4, .pointer (some ⟨q4, 0, none⟩)), (10, .slice An ns.length cn), (11, .int .i64 (ns.length : Int)), (12, .int .i64 (k : Int)), (13, .bool (decide ((k : Int) < (ns.length : Int))))]) ?_ (sub_cons rfl (sub_cons rfl (sub_cons rfl (sub_cons rfl (sub_cons rfl (sub_cons rfl (sub_cons rfl (sub_cons rfl (sub_cons rfl sub_nil)))))))))) a_ ha_
  refine t_seq (fun K9 hK9 => ?_)
  by_cases hc10 : (k : Int) < (ns.length : Int)
  · have hk11 := decide_eq_true hc10
    refine t_yes rfl hk11 ?_
    refine t_skip ?_
    refine fun a_ ha_ => hK9 _ _ _ (T.sub (L' := [(0, .pointer (some ⟨p, 0, none⟩)), (1, .pointer (some ⟨q1, 0, none⟩)), (2, .pointer (some ⟨q2, 0, none⟩)), (3, .pointer (some ⟨q3, 0, none⟩)), (4, .pointer (some ⟨q4, 0, none⟩)), (10, .slice An ns.length cn), (11, .int .i64 (ns.length : Int)), (12, .int .i64 (k : Int)), (13, .bool (decide ((k : Int) < (ns.length : Int))))]) ?_ (sub_cons rfl (sub_cons rfl (sub_cons rfl (sub_cons rfl (sub_cons rfl (sub_cons rfl (sub_cons rfl (sub_cons rfl (sub_cons rfl sub_nil)))))))))) a_ ha_
    refine t_seq (fun K12 hK12 => ?_)
    refine t_block ?_
    refine t_seq (fun K13 hK13 => ?_)
    refine t_region ?_
    refine tl_val (w' := w3) rfl (do_move rfl) (by decide) ?_
    have h14 := (RdV.chgNe (M := fun k_ => k_ = p ∨ k_ = q3 ∨ k_ = q4) hAn hchg (fun a_ h1_ h2_ => (fun k_ (hk_ : k_ < BB) => show ¬ (k_ = p ∨ k_ = q3 ∨ k_ = q4) by omega) _ (hnb a_ h1_ h2_)))
    refine tl_val (w' := w3) rfl (do_indexAddr rfl rfl (idx_rdi (j := k) h14 (by kernel_rfl) rfl (by omega) _)) (by decide) ?_
    refine tl_val (w' := w3) rfl (do_load_rdi rfl (by kernel_rfl) h14 (by omega)) (by decide) ?_
    refine tl_val (w' := w3) rfl (do_assign rfl) (by decide) ?_
    refine tl_val (w' := w3) rfl (do_assign rfl) (by decide) ?_
    refine tl_end ?_
    refine fun a_ ha_ => hK13 _ _ _ (T.sub (L' := [(0, .pointer (some ⟨p, 0, none⟩)), (1, .pointer (some ⟨q1, 0, none⟩)), (2, .pointer (some ⟨q2, 0, none⟩)), (3, .pointer (some ⟨q3, 0, none⟩)), (4, .pointer (some ⟨q4, 0, none⟩)), (6, .int .i64 (k : Int)), (7, .int .i64 (ns.getD k 0)), (10, .slice An ns.length cn), (11, .int .i64 (ns.length : Int)), (12, .int .i64 (k : Int)), (13, .bool (decide ((k : Int) < (ns.length : Int))))]) ?_ (sub_cons rfl (sub_cons rfl (sub_cons rfl (sub_cons rfl (sub_cons rfl (sub_cons rfl (sub_cons rfl (sub_cons rfl (sub_cons rfl (sub_cons rfl (sub_cons rfl sub_nil)))))))))))) a_ ha_
    refine t_seq (fun K15 hK15 => ?_)
    refine t_region ?_
    have h16 := (hchg.obj (show ¬ (q2 = p ∨ q2 = q3 ∨ q2 = q4) by omega) h2)
    refine tl_val (w' := w3) rfl (do_load (v := .slice Aw ws.length cw) rfl (by kernel_rfl) (by rw [obj_cell h16]; rfl)) (by decide) ?_
    refine tl_val (w' := w3) rfl (do_move rfl) (by decide) ?_
    have h17 := (Rd.chgNe (M := fun k_ => k_ = p ∨ k_ = q3 ∨ k_ = q4) hAw hchg (fun a_ h1_ h2_ => (fun k_ (hk_ : k_ < BB) => show ¬ (k_ = p ∨ k_ = q3 ∨ k_ = q4) by omega) _ (hwb a_ h1_ h2_)))
    refine tl_val (w' := w3) rfl (do_indexAddr rfl rfl (idx_rd' (j := k) h17 (by kernel_rfl) rfl (by omega) _)) (by decide) ?_
    refine tl_val (w' := w3) rfl (do_load_rd rfl (by kernel_rfl) h17 (by omega)) (by decide) ?_
    refine tl_val (w' := w3) rfl (do_rem (c := ((ws.getD k 0).toNat : Int) % 4) rfl rfl (by omega) (rem_nn (by omega))) (by decide) ?_
    refine tl_val (w' := w3) rfl (do_shl (c := (wOf (ws.getD k 0) : Int)) rfl rfl (by omega) (wOf_shl _)) (by decide) ?_
    refine tl_val (w' := w3) rfl (do_assign rfl) (by decide) ?_
    refine tl_end ?_
    refine fun a_ ha_ => hK15 _ _ _ (T.sub (L' := [(0, .pointer (some ⟨p, 0, none⟩)), (1, .pointer (some ⟨q1, 0, none⟩)), (2, .pointer (some ⟨q2, 0, none⟩)), (3, .pointer (some ⟨q3, 0, none⟩)), (4, .pointer (some ⟨q4, 0, none⟩)), (6, .int .i64 (k : Int)), (7, .int .i64 (ns.getD k 0)), (8, .int .i64 (wOf (ws.getD k 0) : Int)), (10, .slice An ns.length cn), (11, .int .i64 (ns.length : Int)), (12, .int .i64 (k : Int)), (13, .bool (decide ((k : Int) < (ns.length : Int))))]) ?_ (sub_cons rfl (sub_cons rfl (sub_cons rfl (sub_cons rfl (sub_cons rfl (sub_cons rfl (sub_cons rfl (sub_cons rfl (sub_cons rfl (sub_cons rfl (sub_cons rfl (sub_cons rfl sub_nil))))))))))))) a_ ha_
    refine t_seq (fun K18 hK18 => ?_)
    refine t_region ?_
    refine tl_val (w' := w3) rfl (do_move rfl) (by decide) ?_
    refine tl_val (w' := w3) rfl (do_move rfl) (by decide) ?_
    refine tl_call rfl (en_call (f := 17) (vs := [.pointer (some ⟨p, 0, none⟩), .int .i64 (wOf (ws.getD k 0) : Int)]) (by kernel_rfl) rfl) rfl (number_e (wOf (ws.getD k 0) : Int) hcur (by omega)) (fun v22 w20 hr21 => ?_) ?_ (fun _ h => h)
    · obtain ⟨m19, rfl, hnum19, hcur19, hchg19⟩ := hr21
      have hz23 := hchg19.size
      have hm := hnum19.eq (num_pre (by omega) hbd.2)
      refine tl_val (w' := w20) rfl (do_assign rfl) (by decide) ?_
      refine tl_end ?_
      refine fun a_ ha_ => hK18 _ _ _ (T.sub (L' := [(0, .pointer (some ⟨p, 0, none⟩)), (1, .pointer (some ⟨q1, 0, none⟩)), (2, .pointer (some ⟨q2, 0, none⟩)), (3, .pointer (some ⟨q3, 0, none⟩)), (4, .pointer (some ⟨q4, 0, none⟩)), (6, .int .i64 (k : Int)), (7, .int .i64 (ns.getD k 0)), (8, .int .i64 (wOf (ws.getD k 0) : Int)), (9, .int .i64 (m19 : Int)), (10, .slice An ns.length cn), (11, .int .i64 (ns.length : Int)), (12, .int .i64 (k : Int)), (13, .bool (decide ((k : Int) < (ns.length : Int))))]) ?_ (sub_cons rfl (sub_cons rfl (sub_cons rfl (sub_cons rfl (sub_cons rfl (sub_cons rfl (sub_cons rfl (sub_cons rfl (sub_cons rfl (sub_cons rfl (sub_cons rfl (sub_cons rfl (sub_cons rfl sub_nil)))))))))))))) a_ ha_
      refine t_seq (fun K24 hK24 => ?_)
      refine t_seq (fun K25 hK25 => ?_)
      refine t_region ?_
      refine tl_val (w' := w20) rfl (do_move rfl) (by decide) ?_
      refine tl_val (w' := w20) rfl (do_lss rfl rfl) (by decide) ?_
      refine tl_end ?_
      refine fun a_ ha_ => hK25 _ _ _ (T.sub (L' := [(0, .pointer (some ⟨p, 0, none⟩)), (1, .pointer (some ⟨q1, 0, none⟩)), (2, .pointer (some ⟨q2, 0, none⟩)), (3, .pointer (some ⟨q3, 0, none⟩)), (4, .pointer (some ⟨q4, 0, none⟩)), (6, .int .i64 (k : Int)), (7, .int .i64 (ns.getD k 0)), (8, .int .i64 (wOf (ws.getD k 0) : Int)), (9, .int .i64 (m19 : Int)), (10, .slice An ns.length cn), (11, .int .i64 (ns.length : Int)), (12, .int .i64 (k : Int)), (13, .bool (decide ((k : Int) < (ns.length : Int)))), (27, .bool (decide ((wOf (ws.getD k 0) : Int) < 8)))]) ?_ (sub_cons rfl (sub_cons rfl (sub_cons rfl (sub_cons rfl (sub_cons rfl (sub_cons rfl (sub_cons rfl (sub_cons rfl (sub_cons rfl (sub_cons rfl (sub_cons rfl (sub_cons rfl (sub_cons rfl (sub_cons rfl sub_nil))))))))))))))) a_ ha_
      by_cases hc26 : (wOf (ws.getD k 0) : Int) < 8
      · have hk27 := decide_eq_true hc26
        refine t_yes rfl hk27 ?_
        refine t_region ?_
        refine tl_val (w' := w20) rfl (do_move rfl) (by decide) ?_
        refine tl_val (w' := w20) rfl (do_builtin (vs := [.int .i64 (ns.getD k 0), .int .i64 0]) (v := .int .i64 (max (ns.getD k 0) 0)) rfl (fun _ _ => run_max _ _)) (by decide) ?_
        refine tl_val (w' := w20) rfl (do_move rfl) (by decide) ?_
        refine tl_val (w' := w20) rfl (do_builtin (vs := [.int .i64 (wOf (ws.getD k 0) : Int), .int .i64 4]) (v := .int .i64 (min (wOf (ws.getD k 0) : Int) 4)) rfl (fun _ _ => run_min _ _)) (by decide) ?_
        refine tl_val (w' := w20) rfl (do_mul (c := 8 * (min (wOf (ws.getD k 0) : Int) 4)) rfl rfl (wrap_i64 (by omega) (by omega))) (by decide) ?_
        refine tl_val (w' := w20) rfl (do_shl (c := ((256 ^ wOf (ws.getD k 0) : Nat) : Int)) rfl rfl (by omega) (top_shl hwc (by omega))) (by decide) ?_
        refine tl_val (w' := w20) rfl (do_rem (c := (max (ns.getD k 0) 0) % ((256 ^ wOf (ws.getD k 0) : Nat) : Int)) rfl rfl (by omega) (rem_nn (by omega))) (by decide) ?_
        refine tl_val (w' := w20) rfl (do_assign rfl) (by decide) ?_
        refine tl_end ?_
        refine fun a_ ha_ => hK24 _ _ _ (T.sub (L' := [(0, .pointer (some ⟨p, 0, none⟩)), (1, .pointer (some ⟨q1, 0, none⟩)), (2, .pointer (some ⟨q2, 0, none⟩)), (3, .pointer (some ⟨q3, 0, none⟩)), (4, .pointer (some ⟨q4, 0, none⟩)), (6, .int .i64 (k : Int)), (7, .int .i64 ((max (ns.getD k 0) 0) % ((256 ^ wOf (ws.getD k 0) : Nat) : Int))), (8, .int .i64 (wOf (ws.getD k 0) : Int)), (9, .int .i64 (m19 : Int)), (10, .slice An ns.length cn), (11, .int .i64 (ns.length : Int)), (12, .int .i64 (k : Int)), (13, .bool (decide ((k : Int) < (ns.length : Int)))), (27, .bool (decide ((wOf (ws.getD k 0) : Int) < 8)))]) ?_ (sub_cons rfl (sub_cons rfl (sub_cons rfl (sub_cons rfl (sub_cons rfl (sub_cons rfl (sub_cons rfl (sub_cons rfl (sub_cons rfl (sub_cons rfl (sub_cons rfl (sub_cons rfl (sub_cons rfl (sub_cons rfl sub_nil))))))))))))))) a_ ha_
        refine t_seq (fun K28 hK28 => ?_)
        refine t_region ?_
        have h29 := (hchg19.obj (show ¬ q3 = p by omega) ho3)
        refine tl_val (w' := w20) rfl (do_load (v := .bool true) rfl (by kernel_rfl) (by rw [obj_cell h29]; rfl)) (by decide) ?_
        refine tl_val (w' := w20) rfl (do_move rfl) (by decide) ?_
        refine tl_val (w' := w20) ⟨36, _, rfl, rfl, rfl⟩ (do_move rfl) (by decide) ?_
        refine tl_val (w' := w20) ⟨36, _, rfl, rfl, rfl⟩ (do_move rfl) (by decide) ?_
        refine tl_val (w' := w20) ⟨36, _, rfl, rfl, rfl⟩ (do_builtin (vs := [.int .i64 ((max (ns.getD k 0) 0) % ((256 ^ wOf (ws.getD k 0) : Nat) : Int)), .int .i64 0]) (v := .int .i64 (max ((max (ns.getD k 0) 0) % ((256 ^ wOf (ws.getD k 0) : Nat) : Int)) 0)) rfl (fun _ _ => run_max _ _)) (by decide) ?_
        refine tl_val (w' := w20) ⟨36, _, rfl, rfl, rfl⟩ (do_eql_t rfl rfl (same_small hm)) (by decide) ?_
        refine tl_val (w' := w20) rfl (do_pick_t rfl rfl rfl) (by decide) ?_
        refine tl_unit rfl (do_store (u := .bool true) rfl rfl rfl (by kernel_rfl) (by rw [obj_cell h29]; rfl) (obj_frozen h29 _)) ?_
        refine tl_gen (fun w30 e31 => ?_)
        have hb32 : Chg (fun k => k = q3) w20 w30 := e31 ▸ Chg.setCell _ _ _ _
        have hz33 : w30.heap.size = w20.heap.size := by rw [e31]; simp
        have hc34 : w30.heap[q3]? = some (.cells #[.bool true] 4 (0, 0)) := by rw [e31]; exact obj_setCell h29
        clear e31
        refine tl_end ?_
        refine fun a_ ha_ => hK28 _ _ _ (T.sub (L' := [(0, .pointer (some ⟨p, 0, none⟩)), (1, .pointer (some ⟨q1, 0, none⟩)), (2, .pointer (some ⟨q2, 0, none⟩)), (3, .pointer (some ⟨q3, 0, none⟩)), (4, .pointer (some ⟨q4, 0, none⟩)), (6, .int .i64 (k : Int)), (7, .int .i64 ((max (ns.getD k 0) 0) % ((256 ^ wOf (ws.getD k 0) : Nat) : Int))), (8, .int .i64 (wOf (ws.getD k 0) : Int)), (9, .int .i64 (m19 : Int)), (10, .slice An ns.length cn), (11, .int .i64 (ns.length : Int)), (12, .int .i64 (k : Int)), (13, .bool (decide ((k : Int) < (ns.length : Int)))), (27, .bool (decide ((wOf (ws.getD k 0) : Int) < 8)))]) ?_ (sub_cons rfl (sub_cons rfl (sub_cons rfl (sub_cons rfl (sub_cons rfl (sub_cons rfl (sub_cons rfl (sub_cons rfl (sub_cons rfl (sub_cons rfl (sub_cons rfl (sub_cons rfl (sub_cons rfl (sub_cons rfl sub_nil))))))))))))))) a_ ha_
        refine t_region ?_
        have h35 := (hb32.obj (show ¬ q4 = q3 by omega) (hchg19.obj (show ¬ q4 = p by omega) ho4))
        refine tl_val (w' := w30) rfl (do_load (v := .int .i64 (k : Int)) rfl (by kernel_rfl) (by rw [obj_cell h35]; rfl)) (by decide) ?_
        refine tl_val (w' := w30) rfl (do_add (c := (k : Int) + 1) rfl rfl (wrap_i64 (by omega) (by omega))) (by decide) ?_
        refine tl_unit rfl (do_store (u := .int .i64 (k : Int)) rfl rfl rfl (by kernel_rfl) (by rw [obj_cell h35]; rfl) (obj_frozen h35 _)) ?_
        refine tl_gen (fun w36 e37 => ?_)
        have hb38 : Chg (fun k => k = q4) w30 w36 := e37 ▸ Chg.setCell _ _ _ _
        have hz39 : w36.heap.size = w30.heap.size := by rw [e37]; simp
        have hc40 : w36.heap[q4]? = some (.cells #[.int .i64 ((k : Int) + 1)] 3 (0, 0)) := by rw [e37]; exact obj_setCell h35
        clear e37
        refine tl_end ?_
        refine fun a_ ha_ => hK12 _ _ _ (T.sub (L' := [(0, .pointer (some ⟨p, 0, none⟩)), (1, .pointer (some ⟨q1, 0, none⟩)), (2, .pointer (some ⟨q2, 0, none⟩)), (3, .pointer (some ⟨q3, 0, none⟩)), (4, .pointer (some ⟨q4, 0, none⟩)), (6, .int .i64 (k : Int)), (7, .int .i64 ((max (ns.getD k 0) 0) % ((256 ^ wOf (ws.getD k 0) : Nat) : Int))), (8, .int .i64 (wOf (ws.getD k 0) : Int)), (9, .int .i64 (m19 : Int)), (10, .slice An ns.length cn), (11, .int .i64 (ns.length : Int)), (12, .int .i64 (k : Int)), (13, .bool (decide ((k : Int) < (ns.length : Int)))), (27, .bool (decide ((wOf (ws.getD k 0) : Int) < 8)))]) ?_ (sub_cons rfl (sub_cons rfl (sub_cons rfl (sub_cons rfl (sub_cons rfl (sub_cons rfl (sub_cons rfl (sub_cons rfl (sub_cons rfl (sub_cons rfl (sub_cons rfl (sub_cons rfl (sub_cons rfl (sub_cons rfl sub_nil))))))))))))))) a_ ha_
        refine t_region ?_
        refine tl_val (w' := w36) rfl (do_add (c := (k : Int) + 1) rfl rfl (wrap_i64 (by omega) (by omega))) (by decide) ?_
        refine tl_val (w' := w36) rfl (do_move rfl) (by decide) ?_
        refine tl_end ?_
        have h41 := (Cur.chg (Cur.chg hcur19 hb32 (show ¬ p = q3 by omega) (fun a_ h1_ h2_ => Rd.ne (cs := [.bool true]) (hcur19).rd h29 (by rfl) a_ h1_ h2_)) hb38 (show ¬ p = q4 by omega) (fun a_ h1_ h2_ => Rd.ne (cs := [.int .i64 (k : Int)]) ((Cur.chg hcur19 hb32 (show ¬ p = q3 by omega) (fun a_ h1_ h2_ => Rd.ne (cs := [.bool true]) (hcur19).rd h29 (by rfl) a_ h1_ h2_))).rd h35 (by rfl) a_ h1_ h2_))
        have h42 := (hb38.obj (show ¬ q3 = q4 by omega) hc34)
        refine fun a_ ha_ => hK6 (k + 1) _ _ (⟨by omega, (pre_len_succ ns ws big k) ▸ h41, h42, hc40, (((((Chg.refl (fun k_ => k_ = p ∨ k_ = q3 ∨ k_ = q4) w).step hchg (fun k_ hk_ (h_ : k_ = p ∨ k_ = q3 ∨ k_ = q4) => (show k_ = p ∨ k_ = q3 ∨ k_ = q4 by omega))).step hchg19 (fun k_ hk_ (h_ : k_ = p) => (show k_ = p ∨ k_ = q3 ∨ k_ = q4 by omega))).step hb32 (fun k_ hk_ (h_ : k_ = q3) => (show k_ = p ∨ k_ = q3 ∨ k_ = q4 by omega))).step hb38 (fun k_ hk_ (h_ : k_ = q4) => (show k_ = p ∨ k_ = q3 ∨ k_ = q4 by omega)))⟩) (show ns.length - (k + 1) < ns.length - k by omega) (sub_cons rfl (sub_cons rfl (sub_cons rfl (sub_cons rfl (sub_cons rfl (sub_cons rfl (sub_cons rfl (sub_cons (as_int (a := (k : Int) + 1) rfl (by omega)) sub_nil)))))))) a_ ha_
      · have hk27 := decide_eq_false hc26
        refine t_no rfl hk27 ?_
        refine t_skip ?_
        refine fun a_ ha_ => hK24 _ _ _ (T.sub (L' := [(0, .pointer (some ⟨p, 0, none⟩)), (1, .pointer (some ⟨q1, 0, none⟩)), (2, .pointer (some ⟨q2, 0, none⟩)), (3, .pointer (some ⟨q3, 0, none⟩)), (4, .pointer (some ⟨q4, 0, none⟩)), (6, .int .i64 (k : Int)), (7, .int .i64 (ns.getD k 0)), (8, .int .i64 (wOf (ws.getD k 0) : Int)), (9, .int .i64 (m19 : Int)), (10, .slice An ns.length cn), (11, .int .i64 (ns.length : Int)), (12, .int .i64 (k : Int)), (13, .bool (decide ((k : Int) < (ns.length : Int)))), (27, .bool (decide ((wOf (ws.getD k 0) : Int) < 8)))]) ?_ (sub_cons rfl (sub_cons rfl (sub_cons rfl (sub_cons rfl (sub_cons rfl (sub_cons rfl (sub_cons rfl (sub_cons rfl (sub_cons rfl (sub_cons rfl (sub_cons rfl (sub_cons rfl (sub_cons rfl (sub_cons rfl sub_nil))))))))))))))) a_ ha_
        refine t_seq (fun K43 hK43 => ?_)
        refine t_region ?_
        have h44 := (hchg19.obj (show ¬ q3 = p by omega) ho3)
        refine tl_val (w' := w20) rfl (do_load (v := .bool true) rfl (by kernel_rfl) (by rw [obj_cell h44]; rfl)) (by decide) ?_
        refine tl_val (w' := w20) rfl (do_move rfl) (by decide) ?_
        refine tl_val (w' := w20) ⟨36, _, rfl, rfl, rfl⟩ (do_move rfl) (by decide) ?_
        refine tl_val (w' := w20) ⟨36, _, rfl, rfl, rfl⟩ (do_move rfl) (by decide) ?_
        refine tl_val (w' := w20) ⟨36, _, rfl, rfl, rfl⟩ (do_builtin (vs := [.int .i64 (ns.getD k 0), .int .i64 0]) (v := .int .i64 (max (ns.getD k 0) 0)) rfl (fun _ _ => run_max _ _)) (by decide) ?_
        refine tl_val (w' := w20) ⟨36, _, rfl, rfl, rfl⟩ (do_eql_t rfl rfl (same_great hbd.2 (by omega) hm)) (by decide) ?_
        refine tl_val (w' := w20) rfl (do_pick_t rfl rfl rfl) (by decide) ?_
        refine tl_unit rfl (do_store (u := .bool true) rfl rfl rfl (by kernel_rfl) (by rw [obj_cell h44]; rfl) (obj_frozen h44 _)) ?_
        refine tl_gen (fun w45 e46 => ?_)
        have hb47 : Chg (fun k => k = q3) w20 w45 := e46 ▸ Chg.setCell _ _ _ _
        have hz48 : w45.heap.size = w20.heap.size := by rw [e46]; simp
        have hc49 : w45.heap[q3]? = some (.cells #[.bool true] 4 (0, 0)) := by rw [e46]; exact obj_setCell h44
        clear e46
        refine tl_end ?_
        refine fun a_ ha_ => hK43 _ _ _ (T.sub (L' := [(0, .pointer (some ⟨p, 0, none⟩)), (1, .pointer (some ⟨q1, 0, none⟩)), (2, .pointer (some ⟨q2, 0, none⟩)), (3, .pointer (some ⟨q3, 0, none⟩)), (4, .pointer (some ⟨q4, 0, none⟩)), (6, .int .i64 (k : Int)), (7, .int .i64 (ns.getD k 0)), (8, .int .i64 (wOf (ws.getD k 0) : Int)), (9, .int .i64 (m19 : Int)), (10, .slice An ns.length cn), (11, .int .i64 (ns.length : Int)), (12, .int .i64 (k : Int)), (13, .bool (decide ((k : Int) < (ns.length : Int)))), (27, .bool (decide ((wOf (ws.getD k 0) : Int) < 8)))]) ?_ (sub_cons rfl (sub_cons rfl (sub_cons rfl (sub_cons rfl (sub_cons rfl (sub_cons rfl (sub_cons rfl (sub_cons rfl (sub_cons rfl (sub_cons rfl (sub_cons rfl (sub_cons rfl (sub_cons rfl (sub_cons rfl sub_nil))))))))))))))) a_ ha_
        refine t_region ?_
        have h50 := (hb47.obj (show ¬ q4 = q3 by omega) (hchg19.obj (show ¬ q4 = p by omega) ho4))
        refine tl_val (w' := w45) rfl (do_load (v := .int .i64 (k : Int)) rfl (by kernel_rfl) (by rw [obj_cell h50]; rfl)) (by decide) ?_
        refine tl_val (w' := w45) rfl (do_add (c := (k : Int) + 1) rfl rfl (wrap_i64 (by omega) (by omega))) (by decide) ?_
        refine tl_unit rfl (do_store (u := .int .i64 (k : Int)) rfl rfl rfl (by kernel_rfl) (by rw [obj_cell h50]; rfl) (obj_frozen h50 _)) ?_
        refine tl_gen (fun w51 e52 => ?_)
        have hb53 : Chg (fun k => k = q4) w45 w51 := e52 ▸ Chg.setCell _ _ _ _
        have hz54 : w51.heap.size = w45.heap.size := by rw [e52]; simp
        have hc55 : w51.heap[q4]? = some (.cells #[.int .i64 ((k : Int) + 1)] 3 (0, 0)) := by rw [e52]; exact obj_setCell h50
        clear e52
        refine tl_end ?_
        refine fun a_ ha_ => hK12 _ _ _ (T.sub (L' := [(0, .pointer (some ⟨p, 0, none⟩)), (1, .pointer (some ⟨q1, 0, none⟩)), (2, .pointer (some ⟨q2, 0, none⟩)), (3, .pointer (some ⟨q3, 0, none⟩)), (4, .pointer (some ⟨q4, 0, none⟩)), (6, .int .i64 (k : Int)), (7, .int .i64 (ns.getD k 0)), (8, .int .i64 (wOf (ws.getD k 0) : Int)), (9, .int .i64 (m19 : Int)), (10, .slice An ns.length cn), (11, .int .i64 (ns.length : Int)), (12, .int .i64 (k : Int)), (13, .bool (decide ((k : Int) < (ns.length : Int)))), (27, .bool (decide ((wOf (ws.getD k 0) : Int) < 8)))]) ?_ (sub_cons rfl (sub_cons rfl (sub_cons rfl (sub_cons rfl (sub_cons rfl (sub_cons rfl (sub_cons rfl (sub_cons rfl (sub_cons rfl (sub_cons rfl (sub_cons rfl (sub_cons rfl (sub_cons rfl (sub_cons rfl sub_nil))))))))))))))) a_ ha_
        refine t_region ?_
        refine tl_val (w' := w51) rfl (do_add (c := (k : Int) + 1) rfl rfl (wrap_i64 (by omega) (by omega))) (by decide) ?_
        refine tl_val (w' := w51) rfl (do_move rfl) (by decide) ?_
        refine tl_end ?_
        have h56 := (Cur.chg (Cur.chg hcur19 hb47 (show ¬ p = q3 by omega) (fun a_ h1_ h2_ => Rd.ne (cs := [.bool true]) (hcur19).rd h44 (by rfl) a_ h1_ h2_)) hb53 (show ¬ p = q4 by omega) (fun a_ h1_ h2_ => Rd.ne (cs := [.int .i64 (k : Int)]) ((Cur.chg hcur19 hb47 (show ¬ p = q3 by omega) (fun a_ h1_ h2_ => Rd.ne (cs := [.bool true]) (hcur19).rd h44 (by rfl) a_ h1_ h2_))).rd h50 (by rfl) a_ h1_ h2_))
        have h57 := (hb53.obj (show ¬ q3 = q4 by omega) hc49)
        refine fun a_ ha_ => hK6 (k + 1) _ _ (⟨by omega, (pre_len_succ ns ws big k) ▸ h56, h57, hc55, (((((Chg.refl (fun k_ => k_ = p ∨ k_ = q3 ∨ k_ = q4) w).step hchg (fun k_ hk_ (h_ : k_ = p ∨ k_ = q3 ∨ k_ = q4) => (show k_ = p ∨ k_ = q3 ∨ k_ = q4 by omega))).step hchg19 (fun k_ hk_ (h_ : k_ = p) => (show k_ = p ∨ k_ = q3 ∨ k_ = q4 by omega))).step hb47 (fun k_ hk_ (h_ : k_ = q3) => (show k_ = p ∨ k_ = q3 ∨ k_ = q4 by omega))).step hb53 (fun k_ hk_ (h_ : k_ = q4) => (show k_ = p ∨ k_ = q3 ∨ k_ = q4 by omega)))⟩) (show ns.length - (k + 1) < ns.length - k by omega) (sub_cons rfl (sub_cons rfl (sub_cons rfl (sub_cons rfl (sub_cons rfl (sub_cons rfl (sub_cons rfl (sub_cons (as_int (a := (k : Int) + 1) rfl (by omega)) sub_nil)))))))) a_ ha_
    · intro ch_ w_ h_
      refine fun a_ ha_ => hQ0 _ _ _ (body_panic ha_ ?_)
      obtain ⟨k_, rfl, hno, hcur, hchg⟩ := h_
      exact (hno.not (num_pre (by omega) hbd.2)).elim
  · have hk11 := decide_eq_false hc10
    obtain rfl : k = ns.length := by omega
    refine t_no rfl hk11 ?_
    refine t_exit ?_
    refine fun a_ ha_ => hK1 _ _ _ (T.sub (L' := [(0, .pointer (some ⟨p, 0, none⟩)), (1, .pointer (some ⟨q1, 0, none⟩)), (2, .pointer (some ⟨q2, 0, none⟩)), (3, .pointer (some ⟨q3, 0, none⟩)), (4, .pointer (some ⟨q4, 0, none⟩)), (10, .slice An ns.length cn), (11, .int .i64 (ns.length : Int)), (12, .int .i64 (ns.length : Int)), (13, .bool (decide ((ns.length : Int) < (ns.length : Int))))]) ?_ (sub_cons rfl (sub_cons rfl (sub_cons rfl (sub_cons rfl (sub_cons rfl (sub_cons rfl (sub_cons rfl (sub_cons rfl (sub_cons rfl sub_nil)))))))))) a_ ha_
    refine t_region ?_
    refine tl_val (w' := w3) rfl (do_move rfl) (by decide) ?_
    refine tl_call rfl (en_call (f := 18) (vs := [.pointer (some ⟨p, 0, none⟩)]) (by kernel_rfl) rfl) rfl (end_e hcur (by omega)) (fun v61 w59 hr60 => ?_) ?_ (fun _ h => h)
    · obtain ⟨rfl, hend58, hcur58, hchg58⟩ := hr60
      have hz62 := hchg58.size
      refine tl_end ?_
      refine fun a_ ha_ => hQ0 _ _ _ (body_end (rs := []) (vs := []) ha_ (by kernel_rfl) rfl ?_)
      have h63 := (hchg58.obj (show ¬ q3 = p by omega) ho3)
      have h64 := (hchg58.obj (show ¬ q4 = p by omega) ho4)
      exact ⟨rfl, ⟨rfl, h63, h64⟩, (((Chg.refl (fun k_ => (k_ = q3 ∨ k_ = q4) ∨ k_ = p) w).step hchg (fun k_ hk_ (h_ : k_ = p ∨ k_ = q3 ∨ k_ = q4) => (show (k_ = q3 ∨ k_ = q4) ∨ k_ = p by omega))).step hchg58 (fun k_ hk_ (h_ : k_ = p) => (show (k_ = q3 ∨ k_ = q4) ∨ k_ = p by omega))), _, _, _, _, _, _, hcur58⟩
    · intro ch_ w_ h_
      refine fun a_ ha_ => hQ0 _ _ _ (body_panic ha_ ?_)
      obtain ⟨k_, rfl, hno, hcur, hchg⟩ := h_
      exact (end_pre hno).elim
theorem cursorRows_walk (An : Option Addr) (cn : Nat) (ns : List Int) (Aw : Option Addr) (cw : Nat) (ws : List UInt8) (big : Bool) (w : World) (hAn : RdI w An cn ns) (hns : ∀ n ∈ ns, -9223372036854775808 ≤ n ∧ n ≤ 9223372036854775807) (hAw : Rd w Aw cw ws) :
    Calls Try.prog 6 #[.slice An ns.length cn, .slice Aw ws.length cw, .bool big] w (RetTrue w) := by
  have hlw := hAw.len
  have hln := Nat.le_trans hAn.le hAn.max
  suffices h : Calls Try.prog 6 [.slice An ns.length cn, .slice Aw ws.length cw, .bool big].toArray w (Ret fun v w' => v = .bool true ∧ Chg (fun _ => False) w w') from h.mono fun e w' h => ret_true h
  refine enter (n := 60) (L := [(0, .slice An ns.length cn), (1, .slice Aw ws.length cw), (2, .bool big)]) (args := [.slice An ns.length cn, .slice Aw ws.length cw, .bool big]) Try.func6 rfl rfl (Nat.le_of_ble_eq_true rfl) (by intro t v h; exact look_args h) ?_
  refine t_body (fun Q0 hB0 hQ0 => ?_)
  refine t_seq (fun K1 hK1 => ?_)
  refine t_region ?_
  refine tl_val rfl (do_box (v := .pointer (some ⟨w.heap.size, 0, none⟩)) (w' := w.alloc (.cells #[.slice An ns.length cn] 34)) rfl (by kernel_rfl)) (by decide) ?_
  refine tl_gen (fun w2 e3 => ?_)
  have hb4 : Chg (fun _ => False) w w2 := e3 ▸ Chg.alloc _ _
  have hz5 : w2.heap.size = w.heap.size + 1 := by rw [e3]; exact size_alloc _ _
  have hc6 : w2.heap[w.heap.size]? = some (.cells #[.slice An ns.length cn] 34 (0, 0)) := by rw [e3]; exact obj_new _ _
  clear e3
  refine tl_val rfl (do_box (v := .pointer (some ⟨w2.heap.size, 0, none⟩)) (w' := w2.alloc (.cells #[.slice Aw ws.length cw] 22)) rfl (by kernel_rfl)) (by decide) ?_
  refine tl_gen (fun w7 e8 => ?_)
  have hb9 : Chg (fun _ => False) w2 w7 := e8 ▸ Chg.alloc _ _
  have hz10 : w7.heap.size = w2.heap.size + 1 := by rw [e8]; exact size_alloc _ _
  have hc11 : w7.heap[w2.heap.size]? = some (.cells #[.slice Aw ws.length cw] 22 (0, 0)) := by rw [e8]; exact obj_new _ _
  clear e8
  refine tl_val (w' := w7) rfl (do_assign rfl) (by decide) ?_
  refine tl_end ?_
  refine fun a_ ha_ => hK1 _ _ _ (T.sub (L' := [(0, .slice An ns.length cn), (1, .slice Aw ws.length cw), (2, .bool big), (3, .pointer (some ⟨w.heap.size, 0, none⟩)), (4, .pointer (some ⟨w2.heap.size, 0, none⟩)), (6, .bool false)]) ?_ (sub_cons rfl (sub_cons rfl (sub_cons rfl (sub_cons rfl (sub_cons rfl (sub_cons rfl sub_nil))))))) a_ ha_
  refine t_seq (fun K12 hK12 => ?_)
  refine t_seq (fun K13 hK13 => ?_)
  refine t_region ?_
  have h14 := (hb9.obj (fun x => x) hc6)
  refine tl_val (w' := w7) rfl (do_load (v := .slice An ns.length cn) rfl (by kernel_rfl) (by rw [obj_cell h14]; rfl)) (by decide) ?_
  refine tl_val (w' := w7) rfl (do_builtin (vs := [.slice An ns.length cn]) (v := .int .i64 (ns.length : Int)) rfl (fun _ _ => by kernel_rfl)) (by decide) ?_
  refine tl_val (w' := w7) rfl (do_gtr rfl rfl) (by decide) ?_
  refine tl_val (w' := w7) rfl (do_move rfl) (by decide) ?_
  by_cases hc15 : (ns.length : Int) > 60
  · have hk16 := decide_eq_true hc15
    refine tl_skipU ⟨16, _, rfl, rfl, (by rw [hk16]; rfl)⟩ (by decide) ?_
    refine tl_skipU ⟨16, _, rfl, rfl, (by rw [hk16]; rfl)⟩ (by decide) ?_
    refine tl_skipU ⟨16, _, rfl, rfl, (by rw [hk16]; rfl)⟩ (by decide) ?_
    refine tl_skipU ⟨16, _, rfl, rfl, (by rw [hk16]; rfl)⟩ (by decide) ?_
    refine tl_skipU ⟨16, _, rfl, rfl, (by rw [hk16]; rfl)⟩ (by decide) ?_
    refine tl_val (w' := w7) rfl (do_pick_t rfl hk16 rfl) (by decide) ?_
    refine tl_end ?_
    refine fun a_ ha_ => hK13 _ _ _ (T.sub (L' := [(0, .slice An ns.length cn), (1, .slice Aw ws.length cw), (2, .bool big), (3, .pointer (some ⟨w.heap.size, 0, none⟩)), (4, .pointer (some ⟨w2.heap.size, 0, none⟩)), (6, .bool false), (22, .bool true)]) ?_ (sub_cons rfl (sub_cons rfl (sub_cons rfl (sub_cons rfl (sub_cons rfl (sub_cons rfl (sub_cons rfl sub_nil)))))))) a_ ha_
    refine t_yes rfl rfl ?_
    refine t_seq (fun K17 hK17 => ?_)
    refine t_region ?_
    refine tl_call rfl (en_call (f := 10) (vs := []) (by kernel_rfl) rfl) rfl (awake_e w7) (fun v21 w19 hr20 => ?_) (fun _ _ h => h.elim) (fun _ h => h)
    obtain ⟨rfl, hchg18⟩ := hr20
    have hz22 := hchg18.size
    refine tl_val (w' := w19) rfl (do_assign rfl) (by decide) ?_
    refine tl_end ?_
    refine fun a_ ha_ => hK17 _ _ _ (T.sub (L' := [(0, .slice An ns.length cn), (1, .slice Aw ws.length cw), (2, .bool big), (3, .pointer (some ⟨w.heap.size, 0, none⟩)), (4, .pointer (some ⟨w2.heap.size, 0, none⟩)), (6, .bool true), (22, .bool true)]) ?_ (sub_cons rfl (sub_cons rfl (sub_cons rfl (sub_cons rfl (sub_cons rfl (sub_cons rfl (sub_cons rfl sub_nil)))))))) a_ ha_
    refine t_ret ?_
    refine fun a_ ha_ => hQ0 _ _ _ (body_ret (rs := [.tmp 6]) (vs := [.bool true]) ha_ (by kernel_rfl) ⟨_, _, rfl, rfl, rfl⟩ ?_)
    exact ⟨rfl, ((((Chg.refl (fun k_ => False) w).step hb4 (fun k_ hk_ (h_ : False) => h_.elim)).step hb9 (fun k_ hk_ (h_ : False) => h_.elim)).step hchg18 (fun k_ hk_ (h_ : False) => h_.elim))⟩
  · have hk16 := decide_eq_false hc15
    refine tl_val (w' := w7) ⟨16, _, rfl, rfl, (by rw [hk16]; rfl)⟩ (do_load (v := .slice Aw ws.length cw) rfl (by kernel_rfl) (by rw [obj_cell hc11]; rfl)) (by decide) ?_
    refine tl_val (w' := w7) ⟨16, _, rfl, rfl, (by rw [hk16]; rfl)⟩ (do_builtin (vs := [.slice Aw ws.length cw]) (v := .int .i64 (ws.length : Int)) rfl (fun _ _ => by kernel_rfl)) (by decide) ?_
    refine tl_val (w' := w7) ⟨16, _, rfl, rfl, (by rw [hk16]; rfl)⟩ (do_load (v := .slice An ns.length cn) rfl (by kernel_rfl) (by rw [obj_cell h14]; rfl)) (by decide) ?_
    refine tl_val (w' := w7) ⟨16, _, rfl, rfl, (by rw [hk16]; rfl)⟩ (do_builtin (vs := [.slice An ns.length cn]) (v := .int .i64 (ns.length : Int)) rfl (fun _ _ => by kernel_rfl)) (by decide) ?_
    refine tl_val (w' := w7) ⟨16, _, rfl, rfl, (by rw [hk16]; rfl)⟩ (do_lss rfl rfl) (by decide) ?_
    refine tl_val (w' := w7) rfl (do_pick_f rfl hk16 rfl) (by decide) ?_
    refine tl_end ?_
    refine fun a_ ha_ => hK13 _ _ _ (T.sub (L' := [(0, .slice An ns.length cn), (1, .slice Aw ws.length cw), (2, .bool big), (3, .pointer (some ⟨w.heap.size, 0, none⟩)), (4, .pointer (some ⟨w2.heap.size, 0, none⟩)), (6, .bool false), (22, .bool (decide ((ws.length : Int) < (ns.length : Int))))]) ?_ (sub_cons rfl (sub_cons rfl (sub_cons rfl (sub_cons rfl (sub_cons rfl (sub_cons rfl (sub_cons rfl sub_nil)))))))) a_ ha_
    by_cases hc23 : (ws.length : Int) < (ns.length : Int)
    · have hk24 := decide_eq_true hc23
      refine t_yes rfl hk24 ?_
      refine t_seq (fun K25 hK25 => ?_)
      refine t_region ?_
      refine tl_call rfl (en_call (f := 10) (vs := []) (by kernel_rfl) rfl) rfl (awake_e w7) (fun v29 w27 hr28 => ?_) (fun _ _ h => h.elim) (fun _ h => h)
      obtain ⟨rfl, hchg26⟩ := hr28
      have hz30 := hchg26.size
      refine tl_val (w' := w27) rfl (do_assign rfl) (by decide) ?_
      refine tl_end ?_
      refine fun a_ ha_ => hK25 _ _ _ (T.sub (L' := [(0, .slice An ns.length cn), (1, .slice Aw ws.length cw), (2, .bool big), (3, .pointer (some ⟨w.heap.size, 0, none⟩)), (4, .pointer (some ⟨w2.heap.size, 0, none⟩)), (6, .bool true), (22, .bool (decide ((ws.length : Int) < (ns.length : Int))))]) ?_ (sub_cons rfl (sub_cons rfl (sub_cons rfl (sub_cons rfl (sub_cons rfl (sub_cons rfl (sub_cons rfl sub_nil)))))))) a_ ha_
      refine t_ret ?_
      refine fun a_ ha_ => hQ0 _ _ _ (body_ret (rs := [.tmp 6]) (vs := [.bool true]) ha_ (by kernel_rfl) ⟨_, _, rfl, rfl, rfl⟩ ?_)
      exact ⟨rfl, ((((Chg.refl (fun k_ => False) w).step hb4 (fun k_ hk_ (h_ : False) => h_.elim)).step hb9 (fun k_ hk_ (h_ : False) => h_.elim)).step hchg26 (fun k_ hk_ (h_ : False) => h_.elim))⟩
    · have hk24 := decide_eq_false hc23
      refine t_no rfl hk24 ?_
      refine t_skip ?_
      refine fun a_ ha_ => hK12 _ _ _ (T.sub (L' := [(0, .slice An ns.length cn), (1, .slice Aw ws.length cw), (2, .bool big), (3, .pointer (some ⟨w.heap.size, 0, none⟩)), (4, .pointer (some ⟨w2.heap.size, 0, none⟩)), (6, .bool false), (22, .bool (decide ((ws.length : Int) < (ns.length : Int))))]) ?_ (sub_cons rfl (sub_cons rfl (sub_cons rfl (sub_cons rfl (sub_cons rfl (sub_cons rfl (sub_cons rfl sub_nil)))))))) a_ ha_
      refine t_seq (fun K31 hK31 => ?_)
      refine t_region ?_
      refine tl_val (w' := w7) rfl (do_assign rfl) (by decide) ?_
      refine tl_end ?_
      refine fun a_ ha_ => hK31 _ _ _ (T.sub (L' := [(0, .slice An ns.length cn), (1, .slice Aw ws.length cw), (2, .bool big), (3, .pointer (some ⟨w.heap.size, 0, none⟩)), (4, .pointer (some ⟨w2.heap.size, 0, none⟩)), (6, .bool false), (7, .slice none 0 0), (22, .bool (decide ((ws.length : Int) < (ns.length : Int))))]) ?_ (sub_cons rfl (sub_cons rfl (sub_cons rfl (sub_cons rfl (sub_cons rfl (sub_cons rfl (sub_cons rfl (sub_cons rfl sub_nil))))))))) a_ ha_
      refine t_seq (fun K32 hK32 => ?_)
      refine t_seq (fun K33 hK33 => ?_)
      refine t_region ?_
      refine tl_val (w' := w7) rfl (do_load (v := .slice An ns.length cn) rfl (by kernel_rfl) (by rw [obj_cell h14]; rfl)) (by decide) ?_
      refine tl_val (w' := w7) rfl (do_builtin (vs := [.slice An ns.length cn]) (v := .int .i64 (ns.length : Int)) rfl (fun _ _ => by kernel_rfl)) (by decide) ?_
      refine tl_val (w' := w7) rfl (do_move rfl) (by decide) ?_
      refine tl_end ?_
      refine fun a_ ha_ => hK33 _ _ _ (T.sub (L' := [(0, .slice An ns.length cn), (1, .slice Aw ws.length cw), (2, .bool big), (3, .pointer (some ⟨w.heap.size, 0, none⟩)), (4, .pointer (some ⟨w2.heap.size, 0, none⟩)), (6, .bool false), (7, .slice none 0 0), (22, .bool (decide ((ws.length : Int) < (ns.length : Int)))), (24, .slice An ns.length cn), (25, .int .i64 (ns.length : Int)), (26, .int .i64 0)]) ?_ (sub_cons rfl (sub_cons rfl (sub_cons rfl (sub_cons rfl (sub_cons rfl (sub_cons rfl (sub_cons rfl (sub_cons rfl (sub_cons rfl (sub_cons rfl (sub_cons rfl sub_nil)))))))))))) a_ ha_
      refine t_block ?_
      refine t_loop (G := Nat × Option Addr × Nat) (fun ⟨k, Ab, cb⟩ => [(0, .slice An ns.length cn), (1, .slice Aw ws.length cw), (2, .bool big), (3, .pointer (some ⟨w.heap.size, 0, none⟩)), (4, .pointer (some ⟨w2.heap.size, 0, none⟩)), (6, .bool false), (7, .slice Ab ((pre ns ws big k).length) cb), (22, .bool (decide ((ws.length : Int) < (ns.length : Int)))), (24, .slice An ns.length cn), (25, .int .i64 (ns.length : Int)), (26, .int .i64 (k : Int))]) (fun ⟨k, Ab, cb⟩ WW_ => k ≤ ns.length ∧ Rd WW_ Ab cb (pre ns ws big k) ∧ Chg (fun _ => False) w7 WW_) (fun ⟨k, Ab, cb⟩ => ns.length - k) (0, none, 0) (⟨Nat.zero_le _, Rd.nilAt _, Chg.refl _ _⟩) (sub_cons rfl (sub_cons rfl (sub_cons rfl (sub_cons rfl (sub_cons rfl (sub_cons rfl (sub_cons rfl (sub_cons rfl (sub_cons rfl (sub_cons rfl (sub_cons (as_int (a := 0) rfl (by omega)) sub_nil))))))))))) ?_
      rintro ⟨k, Ab, cb⟩ w34 K35 hI36 hK37
      obtain ⟨hk, hAb, hchg⟩ := hI36
      refine T.sub (L' := [(0, .slice An ns.length cn), (1, .slice Aw ws.length cw), (2, .bool big), (3, .pointer (some ⟨w.heap.size, 0, none⟩)), (4, .pointer (some ⟨w2.heap.size, 0, none⟩)), (6, .bool false), (7, .slice Ab ((pre ns ws big k).length) cb), (22, .bool (decide ((ws.length : Int) < (ns.length : Int)))), (24, .slice An ns.length cn), (25, .int .i64 (ns.length : Int)), (26, .int .i64 (k : Int))]) ?_ (sub_cons rfl (sub_cons rfl (sub_cons rfl (sub_cons rfl (sub_cons rfl (sub_cons rfl (sub_cons rfl (sub_cons rfl (sub_cons rfl (sub_cons rfl (sub_cons rfl sub_nil)))))))))))
      have hz38 := hchg.size
      have hbd := getD_bd hns k
      refine t_seq (fun K39 hK39 => ?_)
      refine t_region ?_
      refine tl_val (w' := w34) rfl (do_lss rfl rfl) (by decide) ?_
      refine tl_end ?_
      refine fun a_ ha_ => hK39 _ _ _ (T.sub (L' := [(0, .slice An ns.length cn), (1, .slice Aw ws.length cw), (2, .bool big), (3, .pointer (some ⟨w.heap.size, 0, none⟩)), (4, .pointer (some ⟨w2.heap.size, 0, none⟩)), (6, .bool false), (7, .slice Ab ((pre ns ws big k).length) cb), (22, .bool (decide ((ws.length : Int) < (ns.length : Int)))), (24, .slice An ns.length cn), (25, .int .i64 (ns.length : Int)), (26, .int .i64 (k : Int)), (27, .bool (decide ((k : Int) < (ns.length : Int))))]) ?_ (sub_cons rfl (sub_cons rfl (sub_cons rfl (sub_cons rfl (sub_cons rfl (sub_cons rfl (sub_cons rfl (sub_cons rfl (sub_cons rfl (sub_cons rfl (sub_cons rfl (sub_cons rfl sub_nil))))))))))))) a_ ha_
      refine t_seq (fun K40 hK40 => ?_)
      by_cases hc41 : (k : Int) < (ns.length : Int)
      · have hk42 := decide_eq_true hc41
        refine t_yes rfl hk42 ?_
        refine t_skip ?_
        refine fun a_ ha_ => hK40 _ _ _ (T.sub (L' := [(0, .slice An ns.length cn), (1, .slice Aw ws.length cw), (2, .bool big), (3, .pointer (some ⟨w.heap.size, 0, none⟩)), (4, .pointer (some ⟨w2.heap.size, 0, none⟩)), (6, .bool false), (7, .slice Ab ((pre ns ws big k).length) cb), (22, .bool (decide ((ws.length : Int) < (ns.length : Int)))), (24, .slice An ns.length cn), (25, .int .i64 (ns.length : Int)), (26, .int .i64 (k : Int)), (27, .bool (decide ((k : Int) < (ns.length : Int))))]) ?_ (sub_cons rfl (sub_cons rfl (sub_cons rfl (sub_cons rfl (sub_cons rfl (sub_cons rfl (sub_cons rfl (sub_cons rfl (sub_cons rfl (sub_cons rfl (sub_cons rfl (sub_cons rfl sub_nil))))))))))))) a_ ha_
        refine t_seq (fun K43 hK43 => ?_)
        refine t_block ?_
        refine t_seq (fun K44 hK44 => ?_)
        refine t_region ?_
        refine tl_val (w' := w34) rfl (do_move rfl) (by decide) ?_
        have h45 := (RdV.chg hAn (RdV.chg hAn (RdV.chg hAn hAn hb4 (fun _ _ x => x)) hb9 (fun _ _ x => x)) hchg (fun _ _ x => x))
        refine tl_val (w' := w34) rfl (do_indexAddr rfl rfl (idx_rdi (j := k) h45 (by kernel_rfl) rfl (by omega) _)) (by decide) ?_
        refine tl_val (w' := w34) rfl (do_load_rdi rfl (by kernel_rfl) h45 (by omega)) (by decide) ?_
        refine tl_val (w' := w34) rfl (do_assign rfl) (by decide) ?_
        refine tl_val (w' := w34) rfl (do_assign rfl) (by decide) ?_
        refine tl_end ?_
        refine fun a_ ha_ => hK44 _ _ _ (T.sub (L' := [(0, .slice An ns.length cn), (1, .slice Aw ws.length cw), (2, .bool big), (3, .pointer (some ⟨w.heap.size, 0, none⟩)), (4, .pointer (some ⟨w2.heap.size, 0, none⟩)), (6, .bool false), (7, .slice Ab ((pre ns ws big k).length) cb), (8, .int .i64 (k : Int)), (9, .int .i64 (ns.getD k 0)), (22, .bool (decide ((ws.length : Int) < (ns.length : Int)))), (24, .slice An ns.length cn), (25, .int .i64 (ns.length : Int)), (26, .int .i64 (k : Int)), (27, .bool (decide ((k : Int) < (ns.length : Int))))]) ?_ (sub_cons rfl (sub_cons rfl (sub_cons rfl (sub_cons rfl (sub_cons rfl (sub_cons rfl (sub_cons rfl (sub_cons rfl (sub_cons rfl (sub_cons rfl (sub_cons rfl (sub_cons rfl (sub_cons rfl (sub_cons rfl sub_nil))))))))))))))) a_ ha_
        refine t_region ?_
        refine tl_val (w' := w34) rfl (do_move rfl) (by decide) ?_
        refine tl_val (w' := w34) rfl (do_move rfl) (by decide) ?_
        have h46 := (hchg.obj (fun x => x) hc11)
        refine tl_val (w' := w34) rfl (do_load (v := .slice Aw ws.length cw) rfl (by kernel_rfl) (by rw [obj_cell h46]; rfl)) (by decide) ?_
        refine tl_val (w' := w34) rfl (do_move rfl) (by decide) ?_
        have h47 := (Rd.chg hAw (Rd.chg hAw (Rd.chg hAw hAw hb4 (fun _ _ x => x)) hb9 (fun _ _ x => x)) hchg (fun _ _ x => x))
        refine tl_val (w' := w34) rfl (do_indexAddr rfl rfl (idx_rd' (j := k) h47 (by kernel_rfl) rfl (by omega) _)) (by decide) ?_
        refine tl_val (w' := w34) rfl (do_load_rd rfl (by kernel_rfl) h47 (by omega)) (by decide) ?_
        refine tl_val (w' := w34) rfl (do_rem (c := ((ws.getD k 0).toNat : Int) % 4) rfl rfl (by omega) (rem_nn (by omega))) (by decide) ?_
        refine tl_val (w' := w34) rfl (do_shl (c := (wOf (ws.getD k 0) : Int)) rfl rfl (by omega) (wOf_shl _)) (by decide) ?_
        refine tl_val (w' := w34) rfl (do_move rfl) (by decide) ?_
        refine tl_call rfl (en_call (f := 13) (vs := [.slice Ab ((pre ns ws big k).length) cb, .int .i64 (ns.getD k 0), .int .i64 (wOf (ws.getD k 0) : Int), .bool big]) (by kernel_rfl) rfl) rfl (putpre_e hAb (by omega) hbd) (fun v51 w49 hr50 => ?_) (fun _ _ h => h.elim) (fun _ h => h)
        obtain ⟨A48, c48, rfl, hrd48, hchg48⟩ := hr50
        have hz52 := hchg48.size
        refine tl_val (w' := w49) rfl (do_assign rfl) (by decide) ?_
        refine tl_end ?_
        refine fun a_ ha_ => hK43 _ _ _ (T.sub (L' := [(0, .slice An ns.length cn), (1, .slice Aw ws.length cw), (2, .bool big), (3, .pointer (some ⟨w.heap.size, 0, none⟩)), (4, .pointer (some ⟨w2.heap.size, 0, none⟩)), (6, .bool false), (7, .slice A48 ((pre ns ws big (k + 1)).length) c48), (8, .int .i64 (k : Int)), (9, .int .i64 (ns.getD k 0)), (22, .bool (decide ((ws.length : Int) < (ns.length : Int)))), (24, .slice An ns.length cn), (25, .int .i64 (ns.length : Int)), (26, .int .i64 (k : Int)), (27, .bool (decide ((k : Int) < (ns.length : Int))))]) ?_ (sub_cons rfl (sub_cons rfl (sub_cons rfl (sub_cons rfl (sub_cons rfl (sub_cons rfl (sub_cons rfl (sub_cons rfl (sub_cons rfl (sub_cons rfl (sub_cons rfl (sub_cons rfl (sub_cons rfl (sub_cons rfl sub_nil))))))))))))))) a_ ha_
        refine t_region ?_
        refine tl_val (w' := w49) rfl (do_add (c := (k : Int) + 1) rfl rfl (wrap_i64 (by omega) (by omega))) (by decide) ?_
        refine tl_val (w' := w49) rfl (do_move rfl) (by decide) ?_
        refine tl_end ?_
        refine fun a_ ha_ => hK37 (k + 1, A48, c48) _ _ (⟨by omega, hrd48, (((Chg.refl (fun k_ => False) w7).step hchg (fun k_ hk_ (h_ : False) => h_.elim)).step hchg48 (fun k_ hk_ (h_ : False) => h_.elim))⟩) (show ns.length - (k + 1) < ns.length - k by omega) (sub_cons rfl (sub_cons rfl (sub_cons rfl (sub_cons rfl (sub_cons rfl (sub_cons rfl (sub_cons rfl (sub_cons rfl (sub_cons rfl (sub_cons rfl (sub_cons (as_int (a := (k : Int) + 1) rfl (by omega)) sub_nil))))))))))) a_ ha_
      · have hk42 := decide_eq_false hc41
        obtain rfl : k = ns.length := by omega
        refine t_no rfl hk42 ?_
        refine t_exit ?_
        refine fun a_ ha_ => hK32 _ _ _ (T.sub (L' := [(0, .slice An ns.length cn), (1, .slice Aw ws.length cw), (2, .bool big), (3, .pointer (some ⟨w.heap.size, 0, none⟩)), (4, .pointer (some ⟨w2.heap.size, 0, none⟩)), (6, .bool false), (7, .slice Ab ((pre ns ws big ns.length).length) cb), (22, .bool (decide ((ws.length : Int) < (ns.length : Int)))), (24, .slice An ns.length cn), (25, .int .i64 (ns.length : Int)), (26, .int .i64 (ns.length : Int)), (27, .bool (decide ((ns.length : Int) < (ns.length : Int))))]) ?_ (sub_cons rfl (sub_cons rfl (sub_cons rfl (sub_cons rfl (sub_cons rfl (sub_cons rfl (sub_cons rfl (sub_cons rfl (sub_cons rfl (sub_cons rfl (sub_cons rfl (sub_cons rfl sub_nil))))))))))))) a_ ha_
        refine t_seq (fun K53 hK53 => ?_)
        refine t_region ?_
        refine tl_val rfl (do_alloc (v := .pointer (some ⟨w34.heap.size, 0, none⟩)) (w' := w34.alloc (.cells #[.bool false] 4)) (by kernel_rfl)) (by decide) ?_
        refine tl_gen (fun w54 e55 => ?_)
        have hb56 : Chg (fun _ => False) w34 w54 := e55 ▸ Chg.alloc _ _
        have hz57 : w54.heap.size = w34.heap.size + 1 := by rw [e55]; exact size_alloc _ _
        have hc58 : w54.heap[w34.heap.size]? = some (.cells #[.bool false] 4 (0, 0)) := by rw [e55]; exact obj_new _ _
        clear e55
        refine tl_val rfl (do_alloc (v := .pointer (some ⟨w54.heap.size, 0, none⟩)) (w' := w54.alloc (.cells #[.int .i64 0] 3)) (by kernel_rfl)) (by decide) ?_
        refine tl_gen (fun w59 e60 => ?_)
        have hb61 : Chg (fun _ => False) w54 w59 := e60 ▸ Chg.alloc _ _
        have hz62 : w59.heap.size = w54.heap.size + 1 := by rw [e60]; exact size_alloc _ _
        have hc63 : w59.heap[w54.heap.size]? = some (.cells #[.int .i64 0] 3 (0, 0)) := by rw [e60]; exact obj_new _ _
        clear e60
        have h64 := (hb61.obj (fun x => x) hc58)
        refine tl_unit rfl (do_store (u := .bool false) rfl rfl rfl (by kernel_rfl) (by rw [obj_cell h64]; rfl) (obj_frozen h64 _)) ?_
        refine tl_gen (fun w65 e66 => ?_)
        have hb67 : Chg (fun k => k = w34.heap.size) w59 w65 := e66 ▸ Chg.setCell _ _ _ _
        have hz68 : w65.heap.size = w59.heap.size := by rw [e66]; simp
        have hc69 : w65.heap[w34.heap.size]? = some (.cells #[.bool true] 4 (0, 0)) := by rw [e66]; exact obj_setCell h64
        clear e66
        have h70 := (hb67.obj (show ¬ w54.heap.size = w34.heap.size by omega) hc63)
        refine tl_unit rfl (do_store (u := .int .i64 0) rfl rfl rfl (by kernel_rfl) (by rw [obj_cell h70]; rfl) (obj_frozen h70 _)) ?_
        refine tl_gen (fun w71 e72 => ?_)
        have hb73 : Chg (fun k => k = w54.heap.size) w65 w71 := e72 ▸ Chg.setCell _ _ _ _
        have hz74 : w71.heap.size = w65.heap.size := by rw [e72]; simp
        have hc75 : w71.heap[w54.heap.size]? = some (.cells #[.int .i64 0] 3 (0, 0)) := by rw [e72]; exact obj_setCell h70
        clear e72
        refine tl_end ?_
        refine fun a_ ha_ => hK53 _ _ _ (T.sub (L' := [(0, .slice An ns.length cn), (1, .slice Aw ws.length cw), (2, .bool big), (3, .pointer (some ⟨w.heap.size, 0, none⟩)), (4, .pointer (some ⟨w2.heap.size, 0, none⟩)), (6, .bool false), (7, .slice Ab ((pre ns ws big ns.length).length) cb), (10, .pointer (some ⟨w34.heap.size, 0, none⟩)), (11, .pointer (some ⟨w54.heap.size, 0, none⟩)), (22, .bool (decide ((ws.length : Int) < (ns.length : Int)))), (24, .slice An ns.length cn), (25, .int .i64 (ns.length : Int)), (26, .int .i64 (ns.length : Int)), (27, .bool (decide ((ns.length : Int) < (ns.length : Int))))]) ?_ (sub_cons rfl (sub_cons rfl (sub_cons rfl (sub_cons rfl (sub_cons rfl (sub_cons rfl (sub_cons rfl (sub_cons rfl (sub_cons rfl (sub_cons rfl (sub_cons rfl (sub_cons rfl (sub_cons rfl (sub_cons rfl sub_nil))))))))))))))) a_ ha_
        refine t_seq (fun K76 hK76 => ?_)
        refine t_region ?_
        refine tl_val (w' := w71) rfl (do_move rfl) (by decide) ?_
        refine tl_val (w' := w71) rfl (do_move rfl) (by decide) ?_
        refine tl_val (w' := w71) rfl (do_makeFunc rfl) (by decide) ?_
        have h78 := (Rd.chgNe (Rd.chgNe (Rd.chg hAb (Rd.chg hAb hAb hb56 (fun _ _ x => x)) hb61 (fun _ _ x => x)) hb67 (fun a_ h1_ h2_ => Rd.ne (cs := [.bool false]) (Rd.chg hAb (Rd.chg hAb hAb hb56 (fun _ _ x => x)) hb61 (fun _ _ x => x)) h64 (by rfl) a_ h1_ h2_)) hb73 (fun a_ h1_ h2_ => Rd.ne (cs := [.int .i64 0]) (Rd.chgNe (Rd.chg hAb (Rd.chg hAb hAb hb56 (fun _ _ x => x)) hb61 (fun _ _ x => x)) hb67 (fun a_ h1_ h2_ => Rd.ne (cs := [.bool false]) (Rd.chg hAb (Rd.chg hAb hAb hb56 (fun _ _ x => x)) hb61 (fun _ _ x => x)) h64 (by rfl) a_ h1_ h2_)) h70 (by rfl) a_ h1_ h2_))
        have h79 := (hb73.obj (show ¬ w.heap.size = w54.heap.size by omega) (hb67.obj (show ¬ w.heap.size = w34.heap.size by omega) (hb61.obj (fun x => x) (hb56.obj (fun x => x) (hchg.obj (fun x => x) h14)))))
        have h80 := (hb73.obj (show ¬ w2.heap.size = w54.heap.size by omega) (hb67.obj (show ¬ w2.heap.size = w34.heap.size by omega) (hb61.obj (fun x => x) (hb56.obj (fun x => x) (hchg.obj (fun x => x) hc11)))))
        have h81 := (hb73.obj (show ¬ w34.heap.size = w54.heap.size by omega) hc69)
        have h82 := (RdV.chg hAn (RdV.chg hAn (RdV.chg hAn (RdV.chg hAn (RdV.chg hAn (RdV.chg hAn (RdV.chg hAn hAn hb4 (fun _ _ x => x)) hb9 (fun _ _ x => x)) hchg (fun _ _ x => x)) hb56 (fun _ _ x => x)) hb61 (fun _ _ x => x)) hb67 (fun k_ hk_ => show ¬ k_ = w34.heap.size by omega)) hb73 (fun k_ hk_ => show ¬ k_ = w54.heap.size by omega))
        have h83 := (Rd.chgNe (Rd.chgNe (Rd.chg hAw (Rd.chg hAw (Rd.chg hAw (Rd.chg hAw (Rd.chg hAw hAw hb4 (fun _ _ x => x)) hb9 (fun _ _ x => x)) hchg (fun _ _ x => x)) hb56 (fun _ _ x => x)) hb61 (fun _ _ x => x)) hb67 (fun a_ h1_ h2_ => Rd.ne (cs := [.bool false]) (Rd.chg hAw (Rd.chg hAw (Rd.chg hAw (Rd.chg hAw (Rd.chg hAw hAw hb4 (fun _ _ x => x)) hb9 (fun _ _ x => x)) hchg (fun _ _ x => x)) hb56 (fun _ _ x => x)) hb61 (fun _ _ x => x)) h64 (by rfl) a_ h1_ h2_)) hb73 (fun a_ h1_ h2_ => Rd.ne (cs := [.int .i64 0]) (Rd.chgNe (Rd.chg hAw (Rd.chg hAw (Rd.chg hAw (Rd.chg hAw (Rd.chg hAw hAw hb4 (fun _ _ x => x)) hb9 (fun _ _ x => x)) hchg (fun _ _ x => x)) hb56 (fun _ _ x => x)) hb61 (fun _ _ x => x)) hb67 (fun a_ h1_ h2_ => Rd.ne (cs := [.bool false]) (Rd.chg hAw (Rd.chg hAw (Rd.chg hAw (Rd.chg hAw (Rd.chg hAw hAw hb4 (fun _ _ x => x)) hb9 (fun _ _ x => x)) hchg (fun _ _ x => x)) hb56 (fun _ _ x => x)) hb61 (fun _ _ x => x)) h64 (by rfl) a_ h1_ h2_)) h70 (by rfl) a_ h1_ h2_))
        have hl0_ := lt_obj h79
        have hl1_ := lt_obj h80
        have hl2_ := lt_obj h81
        have hl3_ := lt_obj hc75
        refine tl_call rfl (en_call (f := 15) (vs := [.slice Ab ((pre ns ws big ns.length).length) cb, .bool big, .func (.func 20) #[] #[.pointer (some ⟨w.heap.size, 0, none⟩), .pointer (some ⟨w2.heap.size, 0, none⟩), .pointer (some ⟨w34.heap.size, 0, none⟩), .pointer (some ⟨w54.heap.size, 0, none⟩)]]) (by kernel_rfl) rfl) rfl (try_e 20 #[.pointer (some ⟨w.heap.size, 0, none⟩), .pointer (some ⟨w2.heap.size, 0, none⟩), .pointer (some ⟨w34.heap.size, 0, none⟩), .pointer (some ⟨w54.heap.size, 0, none⟩)] (M := fun k_ => k_ = w34.heap.size ∨ k_ = w54.heap.size) (fun o w' => o = .ok () ∧ w'.heap[w34.heap.size]? = some (.cells #[.bool true] 4 (0, 0)) ∧ w'.heap[w54.heap.size]? = some (.cells #[.int .i64 (ns.length : Int)] 3 (0, 0))) h78 (by intro k_ h_; have h2_ : k_ = w34.heap.size ∨ k_ = w54.heap.size := h_; omega) (by kernel_rfl) (fun o w2 w3 h_ hC => ⟨h_.1, hC.obj (by omega) h_.2.1, hC.obj (by omega) h_.2.2⟩) (fun W hW hz hc => rows1_e _ w.heap.size w2.heap.size w34.heap.size w54.heap.size w.heap.size _ _ _ _ _ _ ns ws big W hc (hW.obj (fun x => x) h79) (hW.obj (fun x => x) h80) (hW.obj (fun x => x) h81) (hW.obj (fun x => x) hc75) (RdV.chg h82 h82 hW (fun _ _ x => x)) (Rd.chg h83 h83 hW (fun _ _ x => x)) hAn.lt hAw.lt (by omega) (by omega) (by omega) (by omega) hns)) (fun v86 w84 hr85 => ?_) (fun _ _ h => h.elim) (fun _ h => h)
        obtain ⟨o77, rfl, ⟨rfl, hb3_, hb4_⟩, hchg77⟩ := hr85
        have hz87 := hchg77.size
        refine tl_val (w' := w84) rfl (do_assign rfl) (by decide) ?_
        refine tl_end ?_
        refine fun a_ ha_ => hK76 _ _ _ (T.sub (L' := [(0, .slice An ns.length cn), (1, .slice Aw ws.length cw), (2, .bool big), (3, .pointer (some ⟨w.heap.size, 0, none⟩)), (4, .pointer (some ⟨w2.heap.size, 0, none⟩)), (6, .bool false), (7, .slice Ab ((pre ns ws big ns.length).length) cb), (10, .pointer (some ⟨w34.heap.size, 0, none⟩)), (11, .pointer (some ⟨w54.heap.size, 0, none⟩)), (12, .int .i64 0), (22, .bool (decide ((ws.length : Int) < (ns.length : Int)))), (24, .slice An ns.length cn), (25, .int .i64 (ns.length : Int)), (26, .int .i64 (ns.length : Int)), (27, .bool (decide ((ns.length : Int) < (ns.length : Int))))]) ?_ (sub_cons rfl (sub_cons rfl (sub_cons rfl (sub_cons rfl (sub_cons rfl (sub_cons rfl (sub_cons rfl (sub_cons rfl (sub_cons rfl (sub_cons rfl (sub_cons rfl (sub_cons rfl (sub_cons rfl (sub_cons rfl (sub_cons rfl sub_nil)))))))))))))))) a_ ha_
        refine t_seq (fun K88 hK88 => ?_)
        refine t_region ?_
        refine tl_val (w' := w84) rfl (do_move rfl) (by decide) ?_
        refine tl_val (w' := w84) rfl (do_eql rfl rfl) (by decide) ?_
        have hk89 : (decide ((0 : Int) = 0)) = true := by decide
        refine tl_val (w' := w84) rfl (do_move rfl) (by decide) ?_
        refine tl_val (w' := w84) ⟨48, _, rfl, rfl, (by rw [hk89]; rfl)⟩ (do_load (v := .bool true) rfl (by kernel_rfl) (by rw [obj_cell hb3_]; rfl)) (by decide) ?_
        refine tl_val (w' := w84) rfl (do_pick_t rfl hk89 rfl) (by decide) ?_
        refine tl_val (w' := w84) rfl (do_move rfl) (by decide) ?_
        refine tl_val (w' := w84) ⟨51, _, rfl, rfl, rfl⟩ (do_load (v := .int .i64 (ns.length : Int)) rfl (by kernel_rfl) (by rw [obj_cell hb4_]; rfl)) (by decide) ?_
        have h90 := (hchg77.obj (show ¬ (w.heap.size = w34.heap.size ∨ w.heap.size = w54.heap.size) by omega) h79)
        refine tl_val (w' := w84) ⟨51, _, rfl, rfl, rfl⟩ (do_load (v := .slice An ns.length cn) rfl (by kernel_rfl) (by rw [obj_cell h90]; rfl)) (by decide) ?_
        refine tl_val (w' := w84) ⟨51, _, rfl, rfl, rfl⟩ (do_builtin (vs := [.slice An ns.length cn]) (v := .int .i64 (ns.length : Int)) rfl (fun _ _ => by kernel_rfl)) (by decide) ?_
        refine tl_val (w' := w84) ⟨51, _, rfl, rfl, rfl⟩ (do_eql rfl rfl) (by decide) ?_
        refine tl_val (w' := w84) rfl (do_pick_t rfl rfl rfl) (by decide) ?_
        refine tl_val (w' := w84) rfl (do_move rfl) (by decide) ?_
        have hk91 : (decide ((ns.length : Int) = (ns.length : Int))) = true := (decide_eq_true (show (ns.length : Int) = (ns.length : Int) from (by omega)))
        refine tl_call ⟨57, _, rfl, rfl, (by rw [hk91]; rfl)⟩ (en_call (f := 10) (vs := []) (by kernel_rfl) rfl) rfl (awake_e w84) (fun v95 w93 hr94 => ?_) (fun _ _ h => h.elim) (fun _ h => h)
        obtain ⟨rfl, hchg92⟩ := hr94
        have hz96 := hchg92.size
        refine tl_val (w' := w93) rfl (do_pick_t rfl hk91 rfl) (by decide) ?_
        refine tl_val (w' := w93) rfl (do_assign rfl) (by decide) ?_
        refine tl_end ?_
        refine fun a_ ha_ => hK88 _ _ _ (T.sub (L' := [(0, .slice An ns.length cn), (1, .slice Aw ws.length cw), (2, .bool big), (3, .pointer (some ⟨w.heap.size, 0, none⟩)), (4, .pointer (some ⟨w2.heap.size, 0, none⟩)), (6, .bool true), (7, .slice Ab ((pre ns ws big ns.length).length) cb), (10, .pointer (some ⟨w34.heap.size, 0, none⟩)), (11, .pointer (some ⟨w54.heap.size, 0, none⟩)), (12, .int .i64 0), (22, .bool (decide ((ws.length : Int) < (ns.length : Int)))), (24, .slice An ns.length cn), (25, .int .i64 (ns.length : Int)), (26, .int .i64 (ns.length : Int)), (27, .bool (decide ((ns.length : Int) < (ns.length : Int))))]) ?_ (sub_cons rfl (sub_cons rfl (sub_cons rfl (sub_cons rfl (sub_cons rfl (sub_cons rfl (sub_cons rfl (sub_cons rfl (sub_cons rfl (sub_cons rfl (sub_cons rfl (sub_cons rfl (sub_cons rfl (sub_cons rfl (sub_cons rfl sub_nil)))))))))))))))) a_ ha_
        refine t_ret ?_
        refine fun a_ ha_ => hQ0 _ _ _ (body_ret (rs := [.tmp 6]) (vs := [.bool true]) ha_ (by kernel_rfl) ⟨_, _, rfl, rfl, rfl⟩ ?_)
        exact ⟨rfl, ((((((((((Chg.refl (fun k_ => False) w).step hb4 (fun k_ hk_ (h_ : False) => h_.elim)).step hb9 (fun k_ hk_ (h_ : False) => h_.elim)).step hchg (fun k_ hk_ (h_ : False) => h_.elim)).step hb56 (fun k_ hk_ (h_ : False) => h_.elim)).step hb61 (fun k_ hk_ (h_ : False) => h_.elim)).step hb67 (fun k_ hk_ (h_ : k_ = w34.heap.size) => (show False by omega))).step hb73 (fun k_ hk_ (h_ : k_ = w54.heap.size) => (show False by omega))).step hchg77 (fun k_ hk_ (h_ : k_ = w34.heap.size ∨ k_ = w54.heap.size) => (show False by omega))).step hchg92 (fun k_ hk_ (h_ : False) => h_.elim))⟩
end Go.Proofs.Ytkhjgmcndieecaa
