/-
  The walk of CursorPuts.
-/
import Derived.Test.YtkhjgmcndieecaaCurLaw
import Derived.Test.YtkhjgmcndieecaaPut
import Derived.OpenShut
set_option linter.unusedVariables false
set_option linter.unusedSimpArgs false
namespace Go.Proofs.Ytkhjgmcndieecaa
open Go.RowKit

set_option maxHeartbeats 4000000 in
theorem cursorPuts_walk (A0 : Option Addr) (c0 : Nat) (lb : List UInt8) (n1 n2 : Int) (b3 : Bool) (w : World) (ha : Rd w A0 c0 lb) (hn1 : (Lit.int .i64 n1).wf = true) (hn2 : (Lit.int .i64 n2).wf = true) :
    Calls Try.prog 4 #[.slice A0 lb.length c0, .int .i64 n1, .int .i64 n2, .bool b3] w (RetTrue w) := by
  have hla := ha.len
  have HRb := Go.Lib.hid ha
  have HB := Go.Lib.hid (Below.refl w.heap.size w)
  obtain ⟨hb1, hb2⟩ := bounds_i64 hn1
  clear ha hn1 hn2
  by_cases h1 : lb.length ≤ 4000
  · obtain ⟨r, hr0⟩ : ∃ r, r = put lb n1 n2 b3 := ⟨_, rfl⟩
    have HR0 := Go.Lib.hid hr0
    clear hr0
    have st0 : True := trivial
    go_enter Try.func4, Try.ntmps4
    go_wp2_with (first
    | (go_at_call 12; have t_ := st0; clear t_; go_must (refine (own_any _ _ lb _ (by first | exact HRb.out | exact Rd.alloc (HRb.out) _ | exact Rd.alloc (Rd.alloc (HRb.out) _) _ | exact Rd.alloc (Rd.alloc (Rd.alloc (HRb.out) _) _) _ | exact Rd.alloc (Rd.alloc (Rd.alloc (Rd.alloc (HRb.out) _) _) _) _) (by omega)).mono ?_); rintro e wx ⟨vx, rfl, hox, hbx⟩; obtain ⟨Ax, cx, rfl, hrx⟩ := hox.rd; clear hox; have n_ := Go.Lib.hid (Below.step (by first | exact HB.out | exact below_alloc1 (HB.out) | exact below_alloc1 (below_alloc1 (HB.out)) | exact below_alloc1 (below_alloc1 (below_alloc1 (HB.out))) | exact below_alloc1 (below_alloc1 (below_alloc1 (below_alloc1 (HB.out))))) hbx); clear HB; have HB := n_; clear n_; have n_ := Go.Lib.hid (Rd.below (by first | exact HRb.out | exact Rd.alloc (HRb.out) _ | exact Rd.alloc (Rd.alloc (HRb.out) _) _ | exact Rd.alloc (Rd.alloc (Rd.alloc (HRb.out) _) _) _ | exact Rd.alloc (Rd.alloc (Rd.alloc (Rd.alloc (HRb.out) _) _) _) _) hbx); clear HRb; have HRb := n_; clear n_; clear hbx; have HRx := Go.Lib.hid hrx; clear hrx; clear st0; have st1 : True := trivial))
    have hbd := (Below.refl wx.heap.size wx).drew
    have n1_ := Go.Lib.hid (HRb.out.below hbd)
    have n2_ := Go.Lib.hid (HRx.out.below hbd)
    have HBX := Go.Lib.hid (Below.step HB.out hbd)
    clear HRb HRx HB hbd
    have HRb := n1_
    have HRx := n2_
    clear n1_ n2_
    have su0 : True := trivial
    go_wp2_with fail
    go_region_with (first
    | (go_at_call 13; have t_ := su0; clear t_; go_must (refine (put_any _ _ lb n1 n2 b3 _ (by first | exact HRx.out | exact Rd.alloc (HRx.out) _ | exact Rd.alloc (Rd.alloc (HRx.out) _) _ | exact Rd.alloc (Rd.alloc (Rd.alloc (HRx.out) _) _) _ | exact Rd.alloc (Rd.alloc (Rd.alloc (Rd.alloc (HRx.out) _) _) _) _) (by omega) hb1 hb2).mono ?_); rintro e w6 ⟨v6, rfl, ho6, hb6⟩; rw [← HR0.out] at ho6; obtain ⟨A6, c6, rfl, hr6⟩ := ho6.rd; clear ho6; have hx6 := run_str hr6; have HB6 := Go.Lib.hid hb6; have n_ := Go.Lib.hid (Rd.below (by first | exact HRb.out | exact Rd.alloc (HRb.out) _ | exact Rd.alloc (Rd.alloc (HRb.out) _) _ | exact Rd.alloc (Rd.alloc (Rd.alloc (HRb.out) _) _) _ | exact Rd.alloc (Rd.alloc (Rd.alloc (Rd.alloc (HRb.out) _) _) _) _) hb6); clear HRb; have HRb := n_; clear n_; have n_ := Go.Lib.hid (Rd.below (by first | exact HRx.out | exact Rd.alloc (HRx.out) _ | exact Rd.alloc (Rd.alloc (HRx.out) _) _ | exact Rd.alloc (Rd.alloc (Rd.alloc (HRx.out) _) _) _ | exact Rd.alloc (Rd.alloc (Rd.alloc (Rd.alloc (HRx.out) _) _) _) _) hb6); clear HRx; have HRx := n_; clear n_; clear hb6; have HR6 := Go.Lib.hid hr6; clear hr6; clear su0; have su1 : True := trivial)
    | (go_at_call 14; have t_ := su1; clear t_; go_must (refine (rput_any _ _ lb n1 n2 b3 _ (by first | exact HRb.out | exact Rd.alloc (HRb.out) _ | exact Rd.alloc (Rd.alloc (HRb.out) _) _ | exact Rd.alloc (Rd.alloc (Rd.alloc (HRb.out) _) _) _ | exact Rd.alloc (Rd.alloc (Rd.alloc (Rd.alloc (HRb.out) _) _) _) _) (by omega) hb1 hb2).mono ?_); rintro e w7 ⟨A7, c7, rfl, hr7, hb7⟩; rw [← HR0.out] at hr7 ⊢; have hx7 := run_str hr7; have hx8 := run_str (HR6.out.below hb7); have hx9 := run_str (HRb.out.below hb7); have hx10 := run_str (HRx.out.below hb7); have HB7 := Go.Lib.hid (Below.step HB6.out hb7); clear HB6; have n_ := Go.Lib.hid (Rd.below (by first | exact HRb.out | exact Rd.alloc (HRb.out) _ | exact Rd.alloc (Rd.alloc (HRb.out) _) _ | exact Rd.alloc (Rd.alloc (Rd.alloc (HRb.out) _) _) _ | exact Rd.alloc (Rd.alloc (Rd.alloc (Rd.alloc (HRb.out) _) _) _) _) hb7); clear HRb; have HRb := n_; clear n_; have n_ := Go.Lib.hid (Rd.below (by first | exact HRx.out | exact Rd.alloc (HRx.out) _ | exact Rd.alloc (Rd.alloc (HRx.out) _) _ | exact Rd.alloc (Rd.alloc (Rd.alloc (HRx.out) _) _) _ | exact Rd.alloc (Rd.alloc (Rd.alloc (Rd.alloc (HRx.out) _) _) _) _) hb7); clear HRx; have HRx := n_; clear n_; have n_ := Go.Lib.hid (Rd.below (by first | exact HR6.out | exact Rd.alloc (HR6.out) _ | exact Rd.alloc (Rd.alloc (HR6.out) _) _ | exact Rd.alloc (Rd.alloc (Rd.alloc (HR6.out) _) _) _ | exact Rd.alloc (Rd.alloc (Rd.alloc (Rd.alloc (HR6.out) _) _) _) _) hb7); clear HR6; have HR6 := n_; clear n_; clear hb7; have HR7 := Go.Lib.hid hr7; clear hr7; clear su1; have su2 : True := trivial)
    | (go_at_call 10; have t_ := su2; clear t_; go_must (refine (awake_any _).mono ?_); rintro e w8 ⟨rfl, hb8⟩; have HB8 := Go.Lib.hid (Below.step HB7.out hb8); clear HB7; have n_ := Go.Lib.hid (Rd.below (by first | exact HRb.out | exact Rd.alloc (HRb.out) _ | exact Rd.alloc (Rd.alloc (HRb.out) _) _ | exact Rd.alloc (Rd.alloc (Rd.alloc (HRb.out) _) _) _ | exact Rd.alloc (Rd.alloc (Rd.alloc (Rd.alloc (HRb.out) _) _) _) _) hb8); clear HRb; have HRb := n_; clear n_; have n_ := Go.Lib.hid (Rd.below (by first | exact HRx.out | exact Rd.alloc (HRx.out) _ | exact Rd.alloc (Rd.alloc (HRx.out) _) _ | exact Rd.alloc (Rd.alloc (Rd.alloc (HRx.out) _) _) _ | exact Rd.alloc (Rd.alloc (Rd.alloc (Rd.alloc (HRx.out) _) _) _) _) hb8); clear HRx; have HRx := n_; clear n_; have n_ := Go.Lib.hid (Rd.below (by first | exact HR6.out | exact Rd.alloc (HR6.out) _ | exact Rd.alloc (Rd.alloc (HR6.out) _) _ | exact Rd.alloc (Rd.alloc (Rd.alloc (HR6.out) _) _) _ | exact Rd.alloc (Rd.alloc (Rd.alloc (Rd.alloc (HR6.out) _) _) _) _) hb8); clear HR6; have HR6 := n_; clear n_; have n_ := Go.Lib.hid (Rd.below (by first | exact HR7.out | exact Rd.alloc (HR7.out) _ | exact Rd.alloc (Rd.alloc (HR7.out) _) _ | exact Rd.alloc (Rd.alloc (Rd.alloc (HR7.out) _) _) _ | exact Rd.alloc (Rd.alloc (Rd.alloc (Rd.alloc (HR7.out) _) _) _) _) hb8); clear HR7; have HR7 := n_; clear n_; clear hb8; clear su2; have su3 : True := trivial))
    all_goals go_wp2
    all_goals
      go_ret
      exact ⟨rfl, Below.step HBX.out HB8.out⟩
  · (go_enter Try.func4, Try.ntmps4; go_wp2_with (go_at_call 10; refine (awake_any _).mono ?_; rintro e w' ⟨rfl, hb⟩); go_ret; exact ⟨rfl, hb⟩)
end Go.Proofs.Ytkhjgmcndieecaa
