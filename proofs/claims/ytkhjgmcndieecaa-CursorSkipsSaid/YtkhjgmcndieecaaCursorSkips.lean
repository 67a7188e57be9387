/-
  The walks of CursorSkips' two readers.
-/
import Derived.Test.YtkhjgmcndieecaaWrote
set_option linter.unusedVariables false
set_option linter.unusedSimpArgs false
namespace Go.Proofs.Ytkhjgmcndieecaa
open Go.RowKit

section
variable (w0 W : World) (A : Option Addr) (c : Nat) (l : List UInt8) (n : Int) (b0 ba bl : Nat)

set_option maxHeartbeats 800000 in
theorem sk1_ok (k : Nat) (hA : skipA l 0 n = .ok (.tuple #[])) (hk : n.toNat = k) (hkl : k ≤ l.length) (hB : Below w0.heap.size w0 W) (hsz : w0.heap.size + 3 ≤ W.heap.size) (hc : Cur W (w0.heap.size + 1) A c l 0 true true)
    (hn : Var W b0 (.int .i64 n) 3) (va : Var W ba (.int .i64 0) 3) (vl : Var W bl (.int .i64 0) 3) (h0 : b0 < w0.heap.size) (h1 : ba < w0.heap.size) (h2 : bl < w0.heap.size) (hd : ba ≠ bl) :
    Calls Try.prog 21 #[.pointer (some ⟨w0.heap.size + 1, 0, none⟩), .pointer (some ⟨b0, 0, none⟩), .pointer (some ⟨ba, 0, none⟩), .pointer (some ⟨bl, 0, none⟩)] W
      (Read w0 (w0.heap.size + 1) (Leaves w0 [ba, bl] (.ok ()) [(ba, .int .i64 (k : Int), 3), (bl, .int .i64 ((l.length : Int) - k), 3)]) W) := by
  have HC := Go.Lib.hid hc
  have HB := Go.Lib.hid hB
  have HN := Go.Lib.hid hn
  have HVA := Go.Lib.hid va
  have HVL := Go.Lib.hid vl
  have HA := Go.Lib.hid hA
  have HK := Go.Lib.hid hk
  have hc0 := hn.cell
  have hf0 := hn.fz
  have hd' : (⟨ba, 0, none⟩ : Addr) ≠ ⟨bl, 0, none⟩ := fun e => hd (by injection e)
  have hd2 : ¬ ba = bl := hd
  clear hc hB hn va vl hA hk
  go_enter Try.func21, Try.ntmps21
  go_wp2_with (first
    | (go_at_call 22; refine (skip_any _ A c l 0 true _ n HC.out (Nat.zero_le _)).mono ?_; rintro e w1 ⟨hg, hq⟩; rw [HA.out, HK.out, Nat.zero_add] at hq; obtain ⟨rfl, hc1⟩ := hq; have HC1 := Go.Lib.hid hc1; have HG := Go.Lib.hid hg; clear hc1 hg)
    | (go_at_call 23; refine (at_any _ A c l k true _ HC1.out).mono ?_; rintro e w2 ⟨rfl, rfl⟩)
    | (go_at_call 24; refine (left_any _ A c l k true _ HC1.out hkl).mono ?_; rintro e w3 ⟨rfl, hq⟩; have HG3 := Go.Lib.hid (grown_trans HG.out hq.grown); have HC3 := Go.Lib.hid (hq.cur HC1.out); have VA3 := Go.Lib.hid (HVA.out.grown HG3.out (by omega)); have VL3 := Go.Lib.hid (HVL.out.grown HG3.out (by omega)); have hca := VA3.out.cell; have hfa := VA3.out.fz; have hcl := VL3.out.cell; have hfl := VL3.out.fz; clear hq HG HC1))
  go_end0
  refine (((Since.of_cur HG3.out HC3.out).set h1 (by omega) 0 _).set h2 (by omega) 0 _).ok ⟨rfl, ((((Wrote.of_below HB.out _).grown HG3.out (by omega)).set ba 0 _ (by simp)).set bl 0 _ (by simp)), ?_⟩
  intro x hx
  simp only [List.mem_cons, List.mem_nil_iff, or_false] at hx
  rcases hx with rfl | rfl
  · exact (VA3.out.set _).other hd
  · exact (VL3.out.other (fun e => hd e.symm)).set _
set_option maxHeartbeats 800000 in
theorem sk1_err (hA : skipA l 0 n = .error 3) (hB : Below w0.heap.size w0 W) (hsz : w0.heap.size + 3 ≤ W.heap.size) (hc : Cur W (w0.heap.size + 1) A c l 0 true true)
    (hn : Var W b0 (.int .i64 n) 3) (va : Var W ba (.int .i64 0) 3) (vl : Var W bl (.int .i64 0) 3) (h0 : b0 < w0.heap.size) (h1 : ba < w0.heap.size) (h2 : bl < w0.heap.size) (hd : ba ≠ bl) :
    Calls Try.prog 21 #[.pointer (some ⟨w0.heap.size + 1, 0, none⟩), .pointer (some ⟨b0, 0, none⟩), .pointer (some ⟨ba, 0, none⟩), .pointer (some ⟨bl, 0, none⟩)] W
      (Read w0 (w0.heap.size + 1) (Leaves w0 [ba, bl] (.error 3) [(ba, .int .i64 0, 3), (bl, .int .i64 0, 3)]) W) := by
  have HC := Go.Lib.hid hc
  have HB := Go.Lib.hid hB
  have HN := Go.Lib.hid hn
  have HVA := Go.Lib.hid va
  have HVL := Go.Lib.hid vl
  have HA := Go.Lib.hid hA
  have hc0 := hn.cell
  have hf0 := hn.fz
  have hd' : (⟨ba, 0, none⟩ : Addr) ≠ ⟨bl, 0, none⟩ := fun e => hd (by injection e)
  have hd2 : ¬ ba = bl := hd
  clear hc hB hn va vl hA
  go_enter Try.func21, Try.ntmps21
  go_wp2_with (go_at_call 22; refine (skip_any _ A c l 0 true _ n HC.out (Nat.zero_le _)).mono ?_; rintro e w1 ⟨hg, hq⟩; rw [HA.out] at hq; obtain ⟨rfl, hc1⟩ := hq; have HC1 := Go.Lib.hid hc1; have HG := Go.Lib.hid hg; clear hc1 hg)
  exact ⟨rfl, (Since.of_cur HG.out HC1.out).err (by decide) ⟨rfl, (Wrote.of_below HB.out _).grown HG.out (by omega), by
    intro x hx
    simp only [List.mem_cons, List.mem_nil_iff, or_false] at hx
    rcases hx with rfl | rfl
    · exact HVA.out.grown HG.out (by omega)
    · exact HVL.out.grown HG.out (by omega)⟩⟩

set_option maxHeartbeats 800000 in
theorem sk2_ok (k : Nat) (bb : List UInt8) (hl47 : l.length ≤ 140737488355000) (hA : bytesA l 0 n = .ok bb) (hk : n.toNat = k) (hkl : k ≤ l.length) (hB : Below w0.heap.size w0 W) (hsz : w0.heap.size + 3 ≤ W.heap.size) (hc : Cur W (w0.heap.size + 1) A c l 0 true true)
    (hn : Var W b0 (.int .i64 n) 3) (va : Var W ba (.int .i64 0) 3) (vl : Var W bl (.int .i64 0) 3) (h0 : b0 < w0.heap.size) (h1 : ba < w0.heap.size) (h2 : bl < w0.heap.size) (hd : ba ≠ bl) :
    Calls Try.prog 25 #[.pointer (some ⟨w0.heap.size + 1, 0, none⟩), .pointer (some ⟨b0, 0, none⟩), .pointer (some ⟨ba, 0, none⟩), .pointer (some ⟨bl, 0, none⟩)] W
      (Read w0 (w0.heap.size + 1) (Leaves w0 [ba, bl] (.ok ()) [(ba, .int .i64 (k : Int), 3), (bl, .int .i64 ((l.length : Int) - k), 3)]) W) := by
  have HC := Go.Lib.hid hc
  have HB := Go.Lib.hid hB
  have HN := Go.Lib.hid hn
  have HVA := Go.Lib.hid va
  have HVL := Go.Lib.hid vl
  have HA := Go.Lib.hid hA
  have HK := Go.Lib.hid hk
  have hc0 := hn.cell
  have hf0 := hn.fz
  have hd' : (⟨ba, 0, none⟩ : Addr) ≠ ⟨bl, 0, none⟩ := fun e => hd (by injection e)
  have hd2 : ¬ ba = bl := hd
  clear hc hB hn va vl hA hk
  go_enter Try.func25, Try.ntmps25
  go_wp2_with (first
    | (go_at_call 26; refine (bytes_any _ A c l 0 true n _ HC.out (Nat.zero_le _) (by omega)).mono ?_; rintro e w1 ⟨hg, hq⟩; rw [HA.out, HK.out, Nat.zero_add] at hq; obtain ⟨⟨vx, rfl, -⟩, hc1⟩ := hq; have HC1 := Go.Lib.hid hc1; have HG := Go.Lib.hid hg; clear hc1 hg)
    | (go_at_call 23; refine (at_any _ A c l k true _ HC1.out).mono ?_; rintro e w2 ⟨rfl, rfl⟩)
    | (go_at_call 24; refine (left_any _ A c l k true _ HC1.out hkl).mono ?_; rintro e w3 ⟨rfl, hq⟩; have HG3 := Go.Lib.hid (grown_trans HG.out hq.grown); have HC3 := Go.Lib.hid (hq.cur HC1.out); have VA3 := Go.Lib.hid (HVA.out.grown HG3.out (by omega)); have VL3 := Go.Lib.hid (HVL.out.grown HG3.out (by omega)); have hca := VA3.out.cell; have hfa := VA3.out.fz; have hcl := VL3.out.cell; have hfl := VL3.out.fz; clear hq HG HC1))
  go_end0
  refine (((Since.of_cur HG3.out HC3.out).set h1 (by omega) 0 _).set h2 (by omega) 0 _).ok ⟨rfl, ((((Wrote.of_below HB.out _).grown HG3.out (by omega)).set ba 0 _ (by simp)).set bl 0 _ (by simp)), ?_⟩
  intro x hx
  simp only [List.mem_cons, List.mem_nil_iff, or_false] at hx
  rcases hx with rfl | rfl
  · exact (VA3.out.set _).other hd
  · exact (VL3.out.other (fun e => hd e.symm)).set _
set_option maxHeartbeats 800000 in
theorem sk2_err (hl47 : l.length ≤ 140737488355000) (hA : bytesA l 0 n = .error 3) (hB : Below w0.heap.size w0 W) (hsz : w0.heap.size + 3 ≤ W.heap.size) (hc : Cur W (w0.heap.size + 1) A c l 0 true true)
    (hn : Var W b0 (.int .i64 n) 3) (va : Var W ba (.int .i64 0) 3) (vl : Var W bl (.int .i64 0) 3) (h0 : b0 < w0.heap.size) (h1 : ba < w0.heap.size) (h2 : bl < w0.heap.size) (hd : ba ≠ bl) :
    Calls Try.prog 25 #[.pointer (some ⟨w0.heap.size + 1, 0, none⟩), .pointer (some ⟨b0, 0, none⟩), .pointer (some ⟨ba, 0, none⟩), .pointer (some ⟨bl, 0, none⟩)] W
      (Read w0 (w0.heap.size + 1) (Leaves w0 [ba, bl] (.error 3) [(ba, .int .i64 0, 3), (bl, .int .i64 0, 3)]) W) := by
  have HC := Go.Lib.hid hc
  have HB := Go.Lib.hid hB
  have HN := Go.Lib.hid hn
  have HVA := Go.Lib.hid va
  have HVL := Go.Lib.hid vl
  have HA := Go.Lib.hid hA
  have hc0 := hn.cell
  have hf0 := hn.fz
  have hd' : (⟨ba, 0, none⟩ : Addr) ≠ ⟨bl, 0, none⟩ := fun e => hd (by injection e)
  have hd2 : ¬ ba = bl := hd
  clear hc hB hn va vl hA
  go_enter Try.func25, Try.ntmps25
  go_wp2_with (go_at_call 26; refine (bytes_any _ A c l 0 true n _ HC.out (Nat.zero_le _) (by omega)).mono ?_; rintro e w1 ⟨hg, hq⟩; rw [HA.out] at hq; obtain ⟨rfl, hc1⟩ := hq; have HC1 := Go.Lib.hid hc1; have HG := Go.Lib.hid hg; clear hc1 hg)
  exact ⟨rfl, (Since.of_cur HG.out HC1.out).err (by decide) ⟨rfl, (Wrote.of_below HB.out _).grown HG.out (by omega), by
    intro x hx
    simp only [List.mem_cons, List.mem_nil_iff, or_false] at hx
    rcases hx with rfl | rfl
    · exact HVA.out.grown HG.out (by omega)
    · exact HVL.out.grown HG.out (by omega)⟩⟩

theorem sk1_try_ok (k : Nat) (hA : skipA l 0 n = .ok (.tuple #[])) (hk : n.toNat = k) (hkl : k ≤ l.length) (hr : Rd w0 A c l) (hn : Var w0 b0 (.int .i64 n) 3) (va : Var w0 ba (.int .i64 0) 3) (vl : Var w0 bl (.int .i64 0) 3) (hd : ba ≠ bl) :
    Calls Try.prog 15 #[.slice A l.length c, .bool true, .func (.func 21) #[] #[.pointer (some ⟨b0, 0, none⟩), .pointer (some ⟨ba, 0, none⟩), .pointer (some ⟨bl, 0, none⟩)]] w0
      (Left w0 [ba, bl] 0 [(ba, .int .i64 (k : Int), 3), (bl, .int .i64 ((l.length : Int) - k), 3)]) := by
  refine try_left A c l true _ _ w0 _ (.ok ()) _ 0 rfl hr (fun _ _ => rfl) ?_ fun W hB hsz hc => sk1_ok w0 W A c l n b0 ba bl k hA hk hkl hB (by omega) hc (hn.below hB hn.lt) (va.below hB va.lt) (vl.below hB vl.lt) hn.lt va.lt vl.lt hd
  intro x hx
  simp only [List.mem_cons, List.mem_nil_iff, or_false] at hx
  rcases hx with rfl | rfl
  · exact va.lt
  · exact vl.lt
theorem sk1_try_err (hA : skipA l 0 n = .error 3) (hr : Rd w0 A c l) (hn : Var w0 b0 (.int .i64 n) 3) (va : Var w0 ba (.int .i64 0) 3) (vl : Var w0 bl (.int .i64 0) 3) (hd : ba ≠ bl) :
    Calls Try.prog 15 #[.slice A l.length c, .bool true, .func (.func 21) #[] #[.pointer (some ⟨b0, 0, none⟩), .pointer (some ⟨ba, 0, none⟩), .pointer (some ⟨bl, 0, none⟩)]] w0
      (Left w0 [ba, bl] 3 [(ba, .int .i64 0, 3), (bl, .int .i64 0, 3)]) := by
  refine try_left A c l true _ _ w0 _ (.error 3) _ 3 rfl hr (fun _ _ => rfl) ?_ fun W hB hsz hc => sk1_err w0 W A c l n b0 ba bl hA hB (by omega) hc (hn.below hB hn.lt) (va.below hB va.lt) (vl.below hB vl.lt) hn.lt va.lt vl.lt hd
  intro x hx
  simp only [List.mem_cons, List.mem_nil_iff, or_false] at hx
  rcases hx with rfl | rfl
  · exact va.lt
  · exact vl.lt
theorem sk2_try_ok (k : Nat) (bb : List UInt8) (hl47 : l.length ≤ 140737488355000) (hA : bytesA l 0 n = .ok bb) (hk : n.toNat = k) (hkl : k ≤ l.length) (hr : Rd w0 A c l) (hn : Var w0 b0 (.int .i64 n) 3) (va : Var w0 ba (.int .i64 0) 3) (vl : Var w0 bl (.int .i64 0) 3) (hd : ba ≠ bl) :
    Calls Try.prog 15 #[.slice A l.length c, .bool true, .func (.func 25) #[] #[.pointer (some ⟨b0, 0, none⟩), .pointer (some ⟨ba, 0, none⟩), .pointer (some ⟨bl, 0, none⟩)]] w0
      (Left w0 [ba, bl] 0 [(ba, .int .i64 (k : Int), 3), (bl, .int .i64 ((l.length : Int) - k), 3)]) := by
  refine try_left A c l true _ _ w0 _ (.ok ()) _ 0 rfl hr (fun _ _ => rfl) ?_ fun W hB hsz hc => sk2_ok w0 W A c l n b0 ba bl k bb hl47 hA hk hkl hB (by omega) hc (hn.below hB hn.lt) (va.below hB va.lt) (vl.below hB vl.lt) hn.lt va.lt vl.lt hd
  intro x hx
  simp only [List.mem_cons, List.mem_nil_iff, or_false] at hx
  rcases hx with rfl | rfl
  · exact va.lt
  · exact vl.lt
theorem sk2_try_err (hl47 : l.length ≤ 140737488355000) (hA : bytesA l 0 n = .error 3) (hr : Rd w0 A c l) (hn : Var w0 b0 (.int .i64 n) 3) (va : Var w0 ba (.int .i64 0) 3) (vl : Var w0 bl (.int .i64 0) 3) (hd : ba ≠ bl) :
    Calls Try.prog 15 #[.slice A l.length c, .bool true, .func (.func 25) #[] #[.pointer (some ⟨b0, 0, none⟩), .pointer (some ⟨ba, 0, none⟩), .pointer (some ⟨bl, 0, none⟩)]] w0
      (Left w0 [ba, bl] 3 [(ba, .int .i64 0, 3), (bl, .int .i64 0, 3)]) := by
  refine try_left A c l true _ _ w0 _ (.error 3) _ 3 rfl hr (fun _ _ => rfl) ?_ fun W hB hsz hc => sk2_err w0 W A c l n b0 ba bl hl47 hA hB (by omega) hc (hn.below hB hn.lt) (va.below hB va.lt) (vl.below hB vl.lt) hn.lt va.lt vl.lt hd
  intro x hx
  simp only [List.mem_cons, List.mem_nil_iff, or_false] at hx
  rcases hx with rfl | rfl
  · exact va.lt
  · exact vl.lt
end

set_option maxHeartbeats 4000000 in
theorem cursorSkips_walk (A0 : Option Addr) (c0 : Nat) (lb : List UInt8) (n1 : Int) (w : World) (ha : Rd w A0 c0 lb) (hn1 : (Lit.int .i64 n1).wf = true) :
    Calls Try.prog 7 #[.slice A0 lb.length c0, .int .i64 n1] w (RetTrue w) := by
  have hla := ha.len
  have HRb := Go.Lib.hid ha
  have HB := Go.Lib.hid (Below.refl w.heap.size w)
  clear ha hn1
  have st0 : True := trivial
  by_cases h1 : lb.length ≤ 4000
  · by_cases hlt : (lb.length : Int) < n1
    · have HA := Go.Lib.hid (show skipA lb 0 n1 = .error 3 by unfold skipA; rw [if_neg (by omega), if_pos (by omega)])
      have HAB := Go.Lib.hid (show bytesA lb 0 n1 = .error 3 by unfold bytesA; rw [if_neg (by omega), if_pos (by omega)])
      clear hlt
      go_enter Try.func7, Try.ntmps7
      go_wp2_with (first
      | (go_at_call 12; have t_ := st0; clear t_; go_must (refine (own_any _ _ lb _ (HRb.out.below (below_alloc1 (below_alloc1 (below_alloc1 (below_alloc1 (below_alloc1 HB.out)))))) (by omega)).mono ?_); go_must (rintro e w1 ⟨v1, rfl, ho1, hb1⟩; obtain ⟨A1, c1, rfl, hr1⟩ := ho1.rd; have HR1 := Go.Lib.hid hr1; have V0 := Go.Lib.hid (Var.of (((((Var.new' w _ _ rfl).alloc _).alloc _).alloc _).alloc _) (hb1.block w.heap.size (by simp <;> omega))); have V1 := Go.Lib.hid (Var.of ((((Var.new' (w.alloc _) _ _ (by simp)).alloc _).alloc _).alloc _) (hb1.block (w.heap.size + 1) (by simp <;> omega))); have V2 := Go.Lib.hid (Var.of (((Var.new' ((w.alloc _).alloc _) _ _ (by simp)).alloc _).alloc _) (hb1.block (w.heap.size + 2) (by simp <;> omega))); have V3 := Go.Lib.hid (Var.of ((Var.new' (((w.alloc _).alloc _).alloc _) _ _ (by simp)).alloc _) (hb1.block (w.heap.size + 3) (by simp <;> omega))); have V4 := Go.Lib.hid (Var.of (Var.new' ((((w.alloc _).alloc _).alloc _).alloc _) _ _ (by simp)) (hb1.block (w.heap.size + 4) (by simp <;> omega))); have n_ := Go.Lib.hid (Below.step (below_alloc1 (below_alloc1 (below_alloc1 (below_alloc1 (below_alloc1 HB.out))))) hb1); clear HB ho1 hr1 hb1; have HB := n_; clear n_ st0; have st1 : True := trivial))
      | (go_at_call 15; have t_ := st1; clear t_; go_must (refine (sk1_try_err _ _ _ lb n1 _ _ _ HA.out HR1.out V0.out V1.out V2.out (by omega)).mono ?_); rintro e w2 ⟨rfl, hw, hv⟩; have m0 := Go.Lib.hid (hw.var V0.out (by simp)); clear V0; have V0 := m0; clear m0; have m3 := Go.Lib.hid (hw.var V3.out (by simp)); clear V3; have V3 := m3; clear m3; have m4 := Go.Lib.hid (hw.var V4.out (by simp)); clear V4; have V4 := m4; clear m4; clear V1 V2; have V1 := Go.Lib.hid (hv (w.heap.size + 1, .int .i64 0, 3) (by simp)); have V2 := Go.Lib.hid (hv (w.heap.size + 2, .int .i64 0, 3) (by simp)); have n_ := Go.Lib.hid (HB.out.trans (hw.below (by have := HB.out.size; omega) (by simp))); clear HB; have HB := n_; clear n_ hw hv HR1 st1; have st2 : True := trivial)
      | (go_at_call 12; have t_ := st2; clear t_; go_must (refine (own_any _ _ lb _ (HRb.out.below HB.out) (by omega)).mono ?_); rintro e w3 ⟨v3, rfl, ho3, hb3⟩; obtain ⟨A3, c3, rfl, hr3⟩ := ho3.rd; have HR3 := Go.Lib.hid hr3; have m0 := Go.Lib.hid (Var.of V0.out (hb3.block _ V0.out.lt)); clear V0; have V0 := m0; clear m0; have m1 := Go.Lib.hid (Var.of V1.out (hb3.block _ V1.out.lt)); clear V1; have V1 := m1; clear m1; have m2 := Go.Lib.hid (Var.of V2.out (hb3.block _ V2.out.lt)); clear V2; have V2 := m2; clear m2; have m3 := Go.Lib.hid (Var.of V3.out (hb3.block _ V3.out.lt)); clear V3; have V3 := m3; clear m3; have m4 := Go.Lib.hid (Var.of V4.out (hb3.block _ V4.out.lt)); clear V4; have V4 := m4; clear m4; have n_ := Go.Lib.hid (Below.step HB.out hb3); clear HB; have HB := n_; clear n_ ho3 hr3 hb3 st2; have st3 : True := trivial)
      | (go_at_call 15; have t_ := st3; clear t_; go_must (refine (sk2_try_err _ _ _ lb n1 _ _ _ (by omega) HAB.out HR3.out V0.out V3.out V4.out (by omega)).mono ?_); rintro e w4 ⟨rfl, hw, hv⟩; have m0 := Go.Lib.hid (hw.var V0.out (by simp)); clear V0; have V0 := m0; clear m0; have m1 := Go.Lib.hid (hw.var V1.out (by simp)); clear V1; have V1 := m1; clear m1; have m2 := Go.Lib.hid (hw.var V2.out (by simp)); clear V2; have V2 := m2; clear m2; clear V3 V4; have V3 := Go.Lib.hid (hv (w.heap.size + 3, .int .i64 0, 3) (by simp)); have V4 := Go.Lib.hid (hv (w.heap.size + 4, .int .i64 0, 3) (by simp)); have hc1 := V1.out.cell; have hc2 := V2.out.cell; have hc3 := V3.out.cell; have hc4 := V4.out.cell; have n_ := Go.Lib.hid (HB.out.trans (hw.below (by have := HB.out.size; omega) (by simp))); clear HB; have HB := n_; clear n_ hw hv HR3 st3; have st4 : True := trivial)
      | (go_at_call 10; have t_ := st4; clear t_; refine (awake_any _).mono ?_; rintro e w5 ⟨rfl, hb5⟩; have n_ := Go.Lib.hid (Below.step HB.out hb5); clear HB; have HB := n_; clear n_ hb5 st4; have st5 : True := trivial))
      go_ret
      exact ⟨rfl, HB.out⟩
    · obtain ⟨k, hk⟩ : ∃ k, n1.toNat = k := ⟨_, rfl⟩
      have hkl : k ≤ lb.length := by omega
      have HK := Go.Lib.hid hk
      have HA := Go.Lib.hid (show skipA lb 0 n1 = .ok (.tuple #[]) by unfold skipA; rw [if_neg (show ¬ ((lb.length : Int) - ((0 : Nat) : Int) < n1) by omega)]; simp)
      obtain ⟨bb, hbb⟩ : ∃ bb, bytesA lb 0 n1 = .ok bb := by unfold bytesA; rw [if_neg (show ¬ ((lb.length : Int) - ((0 : Nat) : Int) < n1) by omega)]; split <;> exact ⟨_, rfl⟩
      have HAB := Go.Lib.hid hbb
      have hsum : (k : Int) + ((lb.length : Int) - (k : Int)) = (lb.length : Int) := by omega
      clear hlt hk hbb
      go_enter Try.func7, Try.ntmps7
      go_wp2_with (first
      | (go_at_call 12; have t_ := st0; clear t_; go_must (refine (own_any _ _ lb _ (HRb.out.below (below_alloc1 (below_alloc1 (below_alloc1 (below_alloc1 (below_alloc1 HB.out)))))) (by omega)).mono ?_); go_must (rintro e w1 ⟨v1, rfl, ho1, hb1⟩; obtain ⟨A1, c1, rfl, hr1⟩ := ho1.rd; have HR1 := Go.Lib.hid hr1; have V0 := Go.Lib.hid (Var.of (((((Var.new' w _ _ rfl).alloc _).alloc _).alloc _).alloc _) (hb1.block w.heap.size (by simp <;> omega))); have V1 := Go.Lib.hid (Var.of ((((Var.new' (w.alloc _) _ _ (by simp)).alloc _).alloc _).alloc _) (hb1.block (w.heap.size + 1) (by simp <;> omega))); have V2 := Go.Lib.hid (Var.of (((Var.new' ((w.alloc _).alloc _) _ _ (by simp)).alloc _).alloc _) (hb1.block (w.heap.size + 2) (by simp <;> omega))); have V3 := Go.Lib.hid (Var.of ((Var.new' (((w.alloc _).alloc _).alloc _) _ _ (by simp)).alloc _) (hb1.block (w.heap.size + 3) (by simp <;> omega))); have V4 := Go.Lib.hid (Var.of (Var.new' ((((w.alloc _).alloc _).alloc _).alloc _) _ _ (by simp)) (hb1.block (w.heap.size + 4) (by simp <;> omega))); have n_ := Go.Lib.hid (Below.step (below_alloc1 (below_alloc1 (below_alloc1 (below_alloc1 (below_alloc1 HB.out))))) hb1); clear HB ho1 hr1 hb1; have HB := n_; clear n_ st0; have st1 : True := trivial))
      | (go_at_call 15; have t_ := st1; clear t_; go_must (refine (sk1_try_ok _ _ _ lb n1 _ _ _ k HA.out HK.out hkl HR1.out V0.out V1.out V2.out (by omega)).mono ?_); rintro e w2 ⟨rfl, hw, hv⟩; have m0 := Go.Lib.hid (hw.var V0.out (by simp)); clear V0; have V0 := m0; clear m0; have m3 := Go.Lib.hid (hw.var V3.out (by simp)); clear V3; have V3 := m3; clear m3; have m4 := Go.Lib.hid (hw.var V4.out (by simp)); clear V4; have V4 := m4; clear m4; clear V1 V2; have V1 := Go.Lib.hid (hv (w.heap.size + 1, .int .i64 (k : Int), 3) (by simp)); have V2 := Go.Lib.hid (hv (w.heap.size + 2, .int .i64 ((lb.length : Int) - k), 3) (by simp)); have n_ := Go.Lib.hid (HB.out.trans (hw.below (by have := HB.out.size; omega) (by simp))); clear HB; have HB := n_; clear n_ hw hv HR1 st1; have st2 : True := trivial)
      | (go_at_call 12; have t_ := st2; clear t_; go_must (refine (own_any _ _ lb _ (HRb.out.below HB.out) (by omega)).mono ?_); rintro e w3 ⟨v3, rfl, ho3, hb3⟩; obtain ⟨A3, c3, rfl, hr3⟩ := ho3.rd; have HR3 := Go.Lib.hid hr3; have m0 := Go.Lib.hid (Var.of V0.out (hb3.block _ V0.out.lt)); clear V0; have V0 := m0; clear m0; have m1 := Go.Lib.hid (Var.of V1.out (hb3.block _ V1.out.lt)); clear V1; have V1 := m1; clear m1; have m2 := Go.Lib.hid (Var.of V2.out (hb3.block _ V2.out.lt)); clear V2; have V2 := m2; clear m2; have m3 := Go.Lib.hid (Var.of V3.out (hb3.block _ V3.out.lt)); clear V3; have V3 := m3; clear m3; have m4 := Go.Lib.hid (Var.of V4.out (hb3.block _ V4.out.lt)); clear V4; have V4 := m4; clear m4; have n_ := Go.Lib.hid (Below.step HB.out hb3); clear HB; have HB := n_; clear n_ ho3 hr3 hb3 st2; have st3 : True := trivial)
      | (go_at_call 15; have t_ := st3; clear t_; go_must (refine (sk2_try_ok _ _ _ lb n1 _ _ _ k bb (by omega) HAB.out HK.out hkl HR3.out V0.out V3.out V4.out (by omega)).mono ?_); rintro e w4 ⟨rfl, hw, hv⟩; have m0 := Go.Lib.hid (hw.var V0.out (by simp)); clear V0; have V0 := m0; clear m0; have m1 := Go.Lib.hid (hw.var V1.out (by simp)); clear V1; have V1 := m1; clear m1; have m2 := Go.Lib.hid (hw.var V2.out (by simp)); clear V2; have V2 := m2; clear m2; clear V3 V4; have V3 := Go.Lib.hid (hv (w.heap.size + 3, .int .i64 (k : Int), 3) (by simp)); have V4 := Go.Lib.hid (hv (w.heap.size + 4, .int .i64 ((lb.length : Int) - k), 3) (by simp)); have hc1 := V1.out.cell; have hc2 := V2.out.cell; have hc3 := V3.out.cell; have hc4 := V4.out.cell; have n_ := Go.Lib.hid (HB.out.trans (hw.below (by have := HB.out.size; omega) (by simp))); clear HB; have HB := n_; clear n_ hw hv HR3 st3; have st4 : True := trivial)
      | (go_at_call 10; have t_ := st4; clear t_; refine (awake_any _).mono ?_; rintro e w5 ⟨rfl, hb5⟩; have n_ := Go.Lib.hid (Below.step HB.out hb5); clear HB; have HB := n_; clear n_ hb5 st4; have st5 : True := trivial))
      go_ret
      exact ⟨rfl, HB.out⟩
  · (go_enter Try.func7, Try.ntmps7; go_wp2_with (go_at_call 10; refine (awake_any _).mono ?_; rintro e w' ⟨rfl, hb⟩); go_ret; exact ⟨rfl, Below.step (below_alloc1 HB.out) hb⟩)
end Go.Proofs.Ytkhjgmcndieecaa
