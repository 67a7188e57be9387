/-
  The walk of CrcSeals.
-/
import Derived.Test.YteffjmglllpcaaaDoorCrcAwake
import Derived.Test.YteffjmglllpcaaaDoorCrcPure2
set_option linter.unusedVariables false
set_option linter.unusedSimpArgs false
namespace Go.Proofs.YteffjmglllpcaaaDoor
open Go.RowKit

theorem check_all (A : Option Addr) (c : Nat) (l : List UInt8) (w : World) (hT : TabW w) (hr : Rd w A c l) (hl2 : l.length ≤ 140737488355000) :
    Calls Tryd.prog 14 #[.slice A l.length c] w (RetC w (chk l)) := by
  by_cases hl : l.length < 4
  · have : chk l = ([], 3) := by unfold chk; rw [if_pos hl]
    rw [this]
    exact check_short A c l w hr hl
  · exact check_long A c l w hT hr (by omega) hl2

set_option maxHeartbeats 4000000 in
theorem crcSeals_walk (A0 : Option Addr) (c0 : Nat) (lb : List UInt8) (w : World) (hT : TabW w) (ha : Rd w A0 c0 lb) :
    Calls Tryd.prog 4 #[.slice A0 lb.length c0] w (RetTrue w) := by
  have hla := ha.len
  have HRb := Go.Lib.hid ha
  have HT := Go.Lib.hid hT
  have HB := Go.Lib.hid (Below.refl w.heap.size w)
  clear ha hT
  by_cases h1 : lb.length ≤ 4000
  · obtain ⟨r, hr0⟩ : ∃ r, r = chk lb := ⟨_, rfl⟩
    have hrl : r.1.length ≤ 4000 := by
      rw [hr0]; unfold chk
      split
      · simp
      · split
        · simp; omega
        · simp
    have HR0 := Go.Lib.hid hr0
    clear hr0
    have st0 : True := trivial
    go_enter Tryd.func4, Tryd.ntmps4
    go_wp2_with (first
    | (go_at_call 10; have t_ := st0; clear t_; go_must (refine (own_any _ _ lb _ (by first | exact HRb.out | exact Rd.alloc (HRb.out) _ | exact Rd.alloc (Rd.alloc (HRb.out) _) _ | exact Rd.alloc (Rd.alloc (Rd.alloc (HRb.out) _) _) _ | exact Rd.alloc (Rd.alloc (Rd.alloc (Rd.alloc (HRb.out) _) _) _) _) (by omega)).mono ?_); rintro e wx ⟨vx, rfl, hox, hbx⟩; obtain ⟨Ax, cx, rfl, hrx⟩ := hox.rd; clear hox; have n_ := Go.Lib.hid (Below.step (by first | exact HB.out | exact below_alloc1 (HB.out) | exact below_alloc1 (below_alloc1 (HB.out)) | exact below_alloc1 (below_alloc1 (below_alloc1 (HB.out))) | exact below_alloc1 (below_alloc1 (below_alloc1 (below_alloc1 (HB.out))))) hbx); clear HB; have HB := n_; clear n_; have n_ := Go.Lib.hid (TabW.below (by first | exact HT.out | exact TabW.alloc (HT.out) _ | exact TabW.alloc (TabW.alloc (HT.out) _) _ | exact TabW.alloc (TabW.alloc (TabW.alloc (HT.out) _) _) _ | exact TabW.alloc (TabW.alloc (TabW.alloc (TabW.alloc (HT.out) _) _) _) _) hbx); clear HT; have HT := n_; clear n_; have n_ := Go.Lib.hid (Rd.below (by first | exact HRb.out | exact Rd.alloc (HRb.out) _ | exact Rd.alloc (Rd.alloc (HRb.out) _) _ | exact Rd.alloc (Rd.alloc (Rd.alloc (HRb.out) _) _) _ | exact Rd.alloc (Rd.alloc (Rd.alloc (Rd.alloc (HRb.out) _) _) _) _) hbx); clear HRb; have HRb := n_; clear n_; clear hbx; have HRx := Go.Lib.hid hrx; clear hrx; clear st0; have st1 : True := trivial)
    | (go_at_call 14; have t_ := st1; clear t_; go_must (refine (check_all _ _ lb _ (by first | exact HT.out | exact TabW.alloc (HT.out) _ | exact TabW.alloc (TabW.alloc (HT.out) _) _ | exact TabW.alloc (TabW.alloc (TabW.alloc (HT.out) _) _) _ | exact TabW.alloc (TabW.alloc (TabW.alloc (TabW.alloc (HT.out) _) _) _) _) (by first | exact HRx.out | exact Rd.alloc (HRx.out) _ | exact Rd.alloc (Rd.alloc (HRx.out) _) _ | exact Rd.alloc (Rd.alloc (Rd.alloc (HRx.out) _) _) _ | exact Rd.alloc (Rd.alloc (Rd.alloc (Rd.alloc (HRx.out) _) _) _) _) (by omega)).mono ?_); rintro e wz ⟨vz, rfl, hoz, hbz⟩; have HOz := Go.Lib.hid hoz; have HBz := Go.Lib.hid hbz; clear hoz hbz; rw [← HR0.out] at HOz ⊢; obtain ⟨Az, cz, rfl, hrz⟩ := HOz.out.rd; have HRz := Go.Lib.hid hrz; clear hrz; clear st1; have st2 : True := trivial)
    | (go_at_call 15; have t_ := st2; clear t_; go_must (refine (refcheck_any _ _ lb _ (HRb.out.below HBz.out) (by omega)).mono ?_); rintro e w4 ⟨A4, c4, rfl, hr4, hb4⟩; rw [← HR0.out] at hr4 ⊢; have n_ := Go.Lib.hid (Below.step HBz.out hb4); clear HBz; have HBz := n_; clear n_; have n_ := Go.Lib.hid (HOz.out.below hb4); clear HOz; have HOz := n_; clear n_; have n_ := Go.Lib.hid (HRz.out.below hb4); clear HRz; have HRz := n_; clear n_; have HR4 := Go.Lib.hid hr4; clear hr4 hb4; clear st2; have st3 : True := trivial)
    | (refine gate_conv (.tmp 25) rfl ?_; have t_ := st3; clear t_; go_must (refine str_step (.tmp 25) rfl rfl rfl rfl (by first | exact HRz.out | exact Rd.alloc (HRz.out) _ | exact Rd.alloc (Rd.alloc (HRz.out) _) _ | exact Rd.alloc (Rd.alloc (Rd.alloc (HRz.out) _) _) _ | exact Rd.alloc (Rd.alloc (Rd.alloc (Rd.alloc (HRz.out) _) _) _) _) ?_); clear st3; have st4 : True := trivial)
    | (refine gate_conv (.tmp 27) rfl ?_; have t_ := st4; clear t_; go_must (refine str_step (.tmp 27) rfl rfl rfl rfl (by first | exact HR4.out | exact Rd.alloc (HR4.out) _ | exact Rd.alloc (Rd.alloc (HR4.out) _) _ | exact Rd.alloc (Rd.alloc (Rd.alloc (HR4.out) _) _) _ | exact Rd.alloc (Rd.alloc (Rd.alloc (Rd.alloc (HR4.out) _) _) _) _) ?_); clear st4; have st5 : True := trivial))
    obtain ⟨W0, hW0⟩ : ∃ W0, W0 = wx := ⟨_, rfl⟩
    go_loopw [37] (fun iv W => ∃ (k : Nat) (lg : List UInt8), k ≤ r.1.length ∧ iv = .int .i64 k ∧ lg.length = r.1.length ∧ Hid (OwB W wx.heap.size (.slice Az r.1.length cz) lg) ∧ Hid (Below wx.heap.size wx W)) (fun iv _ => r.1.length - (intOf iv).toNat)
    case atStart => exact ⟨0, _, Nat.zero_le _, rfl, rfl, HOz.out, HBz.out⟩
    case round =>
      obtain ⟨k, lg, hk, rfl, hlg, hog, hbg⟩ := hrel
      clear hW0
      by_cases hlt : k < r.1.length
      · obtain ⟨g, c', hge, hA, hlc, hgl⟩ := OwB.some_ hog.out (by omega)
        rw [hlg] at hA
        cases hA
        obtain ⟨hcell, hfz⟩ := OwB.cell hog.out (show k < lg.length by omega)
        obtain ⟨o8, ho8⟩ : ∃ o8, o8 = lg[k]'(by omega) := ⟨_, rfl⟩
        obtain ⟨y8, hy8⟩ : ∃ y8, y8 = o8 + 1 := ⟨_, rfl⟩
        rw [← ho8] at hcell
        have hadd : ((o8.toNat : Int) + 1) % 256 = (y8.toNat : Int) := by rw [hy8]; simp
        have HLG := Go.Lib.hid hlg
        clear ho8 hy8 hlg
        go_wp2
        refine ⟨⟨k + 1, lg.set k y8, by omega, by go_num, by rw [List.length_set]; exact HLG.out, OwB.set hog.out (by rw [HLG.out]; exact hlt) y8, Below.setCell (p := ⟨g, k, none⟩) hbg.out hge _⟩, by simp [intOf]; omega⟩
      · clear HBz HOz HRz HR4
        have hbd := hbg.out.drew
        have n1 := Go.Lib.hid (HT.out.below hbd)
        have n2 := Go.Lib.hid (HRb.out.below hbd)
        have n3 := Go.Lib.hid (HRx.out.below hbd)
        have HBX := Go.Lib.hid (Below.step HB.out hbd)
        clear HT HRb HRx HB hbd hog hbg
        have HT := n1
        have HRb := n2
        have HRx := n3
        clear n1 n2 n3
        have su0 : True := trivial
        go_wp2_with fail
        go_region_with (first
    | (go_at_call 16; have t_ := su0; clear t_; go_must (refine (seal_any _ _ lb _ (by first | exact HT.out | exact TabW.alloc (HT.out) _ | exact TabW.alloc (TabW.alloc (HT.out) _) _ | exact TabW.alloc (TabW.alloc (TabW.alloc (HT.out) _) _) _ | exact TabW.alloc (TabW.alloc (TabW.alloc (TabW.alloc (HT.out) _) _) _) _) (by first | exact HRx.out | exact Rd.alloc (HRx.out) _ | exact Rd.alloc (Rd.alloc (HRx.out) _) _ | exact Rd.alloc (Rd.alloc (Rd.alloc (HRx.out) _) _) _ | exact Rd.alloc (Rd.alloc (Rd.alloc (Rd.alloc (HRx.out) _) _) _) _) (by omega)).mono ?_); rintro e w6 ⟨v6, rfl, ho6, hb6⟩; obtain ⟨A6, c6, rfl, hr6⟩ := ho6.rd; clear ho6; have hx6 := run_str hr6; have HB6 := Go.Lib.hid hb6; have n_ := Go.Lib.hid (TabW.below (by first | exact HT.out | exact TabW.alloc (HT.out) _ | exact TabW.alloc (TabW.alloc (HT.out) _) _ | exact TabW.alloc (TabW.alloc (TabW.alloc (HT.out) _) _) _ | exact TabW.alloc (TabW.alloc (TabW.alloc (TabW.alloc (HT.out) _) _) _) _) hb6); clear HT; have HT := n_; clear n_; have n_ := Go.Lib.hid (Rd.below (by first | exact HRb.out | exact Rd.alloc (HRb.out) _ | exact Rd.alloc (Rd.alloc (HRb.out) _) _ | exact Rd.alloc (Rd.alloc (Rd.alloc (HRb.out) _) _) _ | exact Rd.alloc (Rd.alloc (Rd.alloc (Rd.alloc (HRb.out) _) _) _) _) hb6); clear HRb; have HRb := n_; clear n_; have n_ := Go.Lib.hid (Rd.below (by first | exact HRx.out | exact Rd.alloc (HRx.out) _ | exact Rd.alloc (Rd.alloc (HRx.out) _) _ | exact Rd.alloc (Rd.alloc (Rd.alloc (HRx.out) _) _) _ | exact Rd.alloc (Rd.alloc (Rd.alloc (Rd.alloc (HRx.out) _) _) _) _) hb6); clear HRx; have HRx := n_; clear n_; clear hb6; have HR6 := Go.Lib.hid hr6; clear hr6; clear su0; have su1 : True := trivial)
    | (go_at_call 17; have t_ := su1; clear t_; go_must (refine (refseal_any _ _ lb _ (by first | exact HRb.out | exact Rd.alloc (HRb.out) _ | exact Rd.alloc (Rd.alloc (HRb.out) _) _ | exact Rd.alloc (Rd.alloc (Rd.alloc (HRb.out) _) _) _ | exact Rd.alloc (Rd.alloc (Rd.alloc (Rd.alloc (HRb.out) _) _) _) _) (by omega)).mono ?_); rintro e w7 ⟨v7, rfl, ho7, hb7⟩; obtain ⟨A7, c7, rfl, hr7⟩ := ho7.rd; clear ho7; have hx7 := run_str hr7; have hx8 := run_str (HR6.out.below hb7); have hx9 := run_str (HRb.out.below hb7); have hx10 := run_str (HRx.out.below hb7); have HB7 := Go.Lib.hid (Below.step HB6.out hb7); clear HB6; have n_ := Go.Lib.hid (TabW.below (by first | exact HT.out | exact TabW.alloc (HT.out) _ | exact TabW.alloc (TabW.alloc (HT.out) _) _ | exact TabW.alloc (TabW.alloc (TabW.alloc (HT.out) _) _) _ | exact TabW.alloc (TabW.alloc (TabW.alloc (TabW.alloc (HT.out) _) _) _) _) hb7); clear HT; have HT := n_; clear n_; have n_ := Go.Lib.hid (Rd.below (by first | exact HRb.out | exact Rd.alloc (HRb.out) _ | exact Rd.alloc (Rd.alloc (HRb.out) _) _ | exact Rd.alloc (Rd.alloc (Rd.alloc (HRb.out) _) _) _ | exact Rd.alloc (Rd.alloc (Rd.alloc (Rd.alloc (HRb.out) _) _) _) _) hb7); clear HRb; have HRb := n_; clear n_; have n_ := Go.Lib.hid (Rd.below (by first | exact HRx.out | exact Rd.alloc (HRx.out) _ | exact Rd.alloc (Rd.alloc (HRx.out) _) _ | exact Rd.alloc (Rd.alloc (Rd.alloc (HRx.out) _) _) _ | exact Rd.alloc (Rd.alloc (Rd.alloc (Rd.alloc (HRx.out) _) _) _) _) hb7); clear HRx; have HRx := n_; clear n_; have n_ := Go.Lib.hid (Rd.below (by first | exact HR6.out | exact Rd.alloc (HR6.out) _ | exact Rd.alloc (Rd.alloc (HR6.out) _) _ | exact Rd.alloc (Rd.alloc (Rd.alloc (HR6.out) _) _) _ | exact Rd.alloc (Rd.alloc (Rd.alloc (Rd.alloc (HR6.out) _) _) _) _) hb7); clear HR6; have HR6 := n_; clear n_; clear hb7; have HR7 := Go.Lib.hid hr7; clear hr7; clear su1; have su2 : True := trivial)
    | (go_at_call 9; have t_ := su2; clear t_; go_must (refine (awake_any _ (by first | exact HT.out | exact TabW.alloc (HT.out) _ | exact TabW.alloc (TabW.alloc (HT.out) _) _ | exact TabW.alloc (TabW.alloc (TabW.alloc (HT.out) _) _) _ | exact TabW.alloc (TabW.alloc (TabW.alloc (TabW.alloc (HT.out) _) _) _) _)).mono ?_); rintro e w8 ⟨rfl, hb8⟩; have HB8 := Go.Lib.hid (Below.step HB7.out hb8); clear HB7; have n_ := Go.Lib.hid (TabW.below (by first | exact HT.out | exact TabW.alloc (HT.out) _ | exact TabW.alloc (TabW.alloc (HT.out) _) _ | exact TabW.alloc (TabW.alloc (TabW.alloc (HT.out) _) _) _ | exact TabW.alloc (TabW.alloc (TabW.alloc (TabW.alloc (HT.out) _) _) _) _) hb8); clear HT; have HT := n_; clear n_; have n_ := Go.Lib.hid (Rd.below (by first | exact HRb.out | exact Rd.alloc (HRb.out) _ | exact Rd.alloc (Rd.alloc (HRb.out) _) _ | exact Rd.alloc (Rd.alloc (Rd.alloc (HRb.out) _) _) _ | exact Rd.alloc (Rd.alloc (Rd.alloc (Rd.alloc (HRb.out) _) _) _) _) hb8); clear HRb; have HRb := n_; clear n_; have n_ := Go.Lib.hid (Rd.below (by first | exact HRx.out | exact Rd.alloc (HRx.out) _ | exact Rd.alloc (Rd.alloc (HRx.out) _) _ | exact Rd.alloc (Rd.alloc (Rd.alloc (HRx.out) _) _) _ | exact Rd.alloc (Rd.alloc (Rd.alloc (Rd.alloc (HRx.out) _) _) _) _) hb8); clear HRx; have HRx := n_; clear n_; have n_ := Go.Lib.hid (Rd.below (by first | exact HR6.out | exact Rd.alloc (HR6.out) _ | exact Rd.alloc (Rd.alloc (HR6.out) _) _ | exact Rd.alloc (Rd.alloc (Rd.alloc (HR6.out) _) _) _ | exact Rd.alloc (Rd.alloc (Rd.alloc (Rd.alloc (HR6.out) _) _) _) _) hb8); clear HR6; have HR6 := n_; clear n_; have n_ := Go.Lib.hid (Rd.below (by first | exact HR7.out | exact Rd.alloc (HR7.out) _ | exact Rd.alloc (Rd.alloc (HR7.out) _) _ | exact Rd.alloc (Rd.alloc (Rd.alloc (HR7.out) _) _) _ | exact Rd.alloc (Rd.alloc (Rd.alloc (Rd.alloc (HR7.out) _) _) _) _) hb8); clear HR7; have HR7 := n_; clear n_; clear hb8; clear su2; have su3 : True := trivial))
        all_goals go_wp2
        all_goals
          go_ret
          exact ⟨rfl, Below.step HBX.out HB8.out⟩
  · (go_enter Tryd.func4, Tryd.ntmps4; go_wp2_with (go_at_call 9; refine (awake_any _ HT.out).mono ?_; rintro e w' ⟨rfl, hb⟩); go_ret; exact ⟨rfl, hb⟩)
end Go.Proofs.YteffjmglllpcaaaDoor
