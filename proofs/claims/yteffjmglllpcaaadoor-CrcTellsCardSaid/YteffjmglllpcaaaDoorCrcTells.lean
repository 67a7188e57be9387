/-
  The walk of CrcTells.
-/
import Derived.Test.YteffjmglllpcaaaDoorCrcAwake
import Derived.Test.YteffjmglllpcaaaDoorCrcPure2
import Derived.OpenShut
set_option linter.unusedVariables false
set_option linter.unusedSimpArgs false
namespace Go.Proofs.YteffjmglllpcaaaDoor
open Go.RowKit

theorem bits_and1 (t i : Nat) (ht : (t : Int) ≤ 4294967295) (b : Nat) (h : t / 2 ^ i % 2 = b) : bits .and .u32 ((t : Int) / 2 ^ i) 1 = (b : Int) := by
  have e : ((t : Int) / 2 ^ i) = ((t / 2 ^ i : Nat) : Int) := by simp
  have hle : t / 2 ^ i ≤ t := Nat.div_le_self _ _
  rw [e]
  generalize t / 2 ^ i = a at *
  have ha' : a % 4294967296 = a := Nat.mod_eq_of_lt (by omega)
  have hx : a &&& 1 = a % 2 := Nat.and_two_pow_sub_one_eq_mod a 1
  have : (1 : Int) = ((1 : Nat) : Int) := rfl
  rw [this]
  simp only [bits, BitVec.ofInt_natCast, BitVec.toNat_and, BitVec.toNat_ofNat, IntKind.wrap_u32]
  simp only [IntKind.bits, Nat.reducePow, ha', Nat.reduceMod, hx]
  omega
theorem mod_bit0 (t i : Nat) (h : t / 2 ^ i % 2 = 0) : t % 2 ^ (i + 1) = t % 2 ^ i := by
  rw [Nat.pow_succ, Nat.mod_mul, h]; simp
theorem mod_bit1 (t i : Nat) (h : t / 2 ^ i % 2 = 1) : t % 2 ^ (i + 1) = (t % 2 ^ i) ^^^ 2 ^ i := by
  rw [Nat.pow_succ, Nat.mod_mul, h, Nat.mul_one]
  have hlt : t % 2 ^ i < 2 ^ i := Nat.mod_lt _ (Nat.two_pow_pos i)
  have e := Nat.two_pow_add_eq_or_of_lt hlt 1
  apply Nat.eq_of_testBit_eq
  intro b
  rw [Nat.add_comm, show 2 ^ i + t % 2 ^ i = 2 ^ i * 1 + t % 2 ^ i by simp, e, Nat.testBit_or, Nat.testBit_xor, Nat.mul_one]
  by_cases hb : b = i
  · subst hb
    have : (t % 2 ^ b).testBit b = false := Nat.testBit_lt_two_pow hlt
    simp [this]
  · have : (2 ^ i).testBit b = false := by rw [Nat.testBit_two_pow]; simp; omega
    simp [this]

set_option maxHeartbeats 4000000 in
theorem crcTells_walk (A0 : Option Addr) (c0 : Nat) (lb : List UInt8) (n1 : Int) (n2 : Int) (w : World) (hT : TabW w) (ha : Rd w A0 c0 lb) (hn1 : (Lit.int .u16 n1).wf = true) (hn2 : (Lit.int .u32 n2).wf = true) :
    Calls Tryd.prog 5 #[.slice A0 lb.length c0, .int .u16 n1, .int .u32 n2] w (RetTrue w) := by
  have hla := ha.len
  have HRb := Go.Lib.hid ha
  have HT := Go.Lib.hid hT
  have HB := Go.Lib.hid (Below.refl w.heap.size w)
  have HT00 := Go.Lib.hid hT
  have HRb0 := Go.Lib.hid ha
  clear ha hT
  have hn := bounds_u16 hn1
  have hn' := bounds_u32 hn2
  obtain ⟨m, rfl⟩ : ∃ m : Nat, n1 = (m : Int) := ⟨n1.toNat, by omega⟩
  obtain ⟨t, rfl⟩ : ∃ t : Nat, n2 = (t : Int) := ⟨n2.toNat, by omega⟩
  clear hn1 hn2
  by_cases h1 : 5 ≤ lb.length
  · by_cases h2 : lb.length ≤ 4000
    · by_cases h3 : t = 0
      · have h3' : ((t : Int) == 0) = true := by rw [h3]; rfl
        clear h3
        (go_enter Tryd.func5, Tryd.ntmps5; go_wp2_with (go_at_call 9; refine (awake_any _ HT.out).mono ?_; rintro e w' ⟨rfl, hb⟩); go_ret; exact ⟨rfl, hb⟩)
      · have h3' : ((t : Int) == 0) = false := by simp; omega
        have H3 := Go.Lib.hid h3
        clear h3
        have st0 : True := trivial
        obtain ⟨p, hp⟩ : ∃ p, p = m % (8 * lb.length - 31) := ⟨_, rfl⟩
        have hpl : p < 8 * lb.length - 31 := by rw [hp]; exact Nat.mod_lt _ (by omega)
        have hmod : (m : Int) % (8 * (lb.length : Int) - 31) = (p : Int) := by
          have : (8 * (lb.length : Int) - 31) = ((8 * lb.length - 31 : Nat) : Int) := by omega
          rw [this, hp]; simp
        clear hp
        go_enter Tryd.func5, Tryd.ntmps5
        go_wp2_with (first
    | (go_at_call 10; have t_ := st0; clear t_; go_must (refine (own_any _ _ lb _ (by first | exact HRb.out | exact Rd.alloc (HRb.out) _ | exact Rd.alloc (Rd.alloc (HRb.out) _) _ | exact Rd.alloc (Rd.alloc (Rd.alloc (HRb.out) _) _) _ | exact Rd.alloc (Rd.alloc (Rd.alloc (Rd.alloc (HRb.out) _) _) _) _) (by omega)).mono ?_); rintro e wx ⟨vx, rfl, hox, hbx⟩; have hpx := OwB.mono hox (Below.size (B := w.heap.size) (w := w) (by first | exact HB.out | exact below_alloc1 (HB.out) | exact below_alloc1 (below_alloc1 (HB.out)) | exact below_alloc1 (below_alloc1 (below_alloc1 (HB.out))) | exact below_alloc1 (below_alloc1 (below_alloc1 (below_alloc1 (HB.out)))))); clear hox; obtain ⟨gx, cx, hge, rfl, hgl, hgc⟩ := OwB.some_ hpx (by omega); have n_ := Go.Lib.hid (Below.step (by first | exact HB.out | exact below_alloc1 (HB.out) | exact below_alloc1 (below_alloc1 (HB.out)) | exact below_alloc1 (below_alloc1 (below_alloc1 (HB.out))) | exact below_alloc1 (below_alloc1 (below_alloc1 (below_alloc1 (HB.out))))) hbx); clear HB; have HB := n_; clear n_; have n_ := Go.Lib.hid (TabW.below (by first | exact HT.out | exact TabW.alloc (HT.out) _ | exact TabW.alloc (TabW.alloc (HT.out) _) _ | exact TabW.alloc (TabW.alloc (TabW.alloc (HT.out) _) _) _ | exact TabW.alloc (TabW.alloc (TabW.alloc (TabW.alloc (HT.out) _) _) _) _) hbx); clear HT; have HT := n_; clear n_; have n_ := Go.Lib.hid (Rd.below (by first | exact HRb.out | exact Rd.alloc (HRb.out) _ | exact Rd.alloc (Rd.alloc (HRb.out) _) _ | exact Rd.alloc (Rd.alloc (Rd.alloc (HRb.out) _) _) _ | exact Rd.alloc (Rd.alloc (Rd.alloc (Rd.alloc (HRb.out) _) _) _) _) hbx); clear HRb; have HRb := n_; clear n_; clear hbx; have HOx := Go.Lib.hid hpx; clear hpx; clear st0; have st1 : True := trivial))
        have HT0 := Go.Lib.hid HT.out
        rw [hmod]
        go_loopw [33] (fun iv W => ∃ (i : Nat) (lx : List UInt8), i ≤ 32 ∧ iv = .int .i64 i ∧ lx.length = lb.length ∧ Hid (Crc.num lx = Crc.num lb ^^^ (2 ^ p * (t % 2 ^ i))) ∧ Hid (OwB W w.heap.size (.slice (some ⟨gx, 0, none⟩) lb.length cx) lx) ∧ Hid (Below w.heap.size w W)) (fun iv _ => 32 - (intOf iv).toNat)
        case atStart => exact ⟨0, lb, by omega, rfl, rfl, by simp [Hid, Nat.mod_one], HOx.out, HB.out⟩
        case round =>
          obtain ⟨i, lx, hi, rfl, hlx, hnum, hox, hbx⟩ := hrel
          by_cases hlt : i < 32
          · obtain ⟨q, hq⟩ : ∃ q, q = p + i := ⟨_, rfl⟩
            have hql : q / 8 < lx.length := by omega
            obtain ⟨k, hk⟩ : ∃ k, k = q / 8 := ⟨_, rfl⟩
            obtain ⟨j, hj⟩ : ∃ j, j = q % 8 := ⟨_, rfl⟩
            have hkl : k < lx.length := by omega
            have hk1 : ((p : Int) + (i : Int)) / 8 = (k : Int) := by omega
            have hj1 : ((p : Int) + (i : Int)) % 8 = (j : Int) := by omega
            have hj8 : j < 8 := by omega
            have hqj : q = 8 * k + j := by omega
            obtain ⟨o8, ho8⟩ : ∃ o8, o8 = lx[k] := ⟨_, rfl⟩
            obtain ⟨hcell, hfz⟩ := OwB.cell hox.out hkl
            rw [← ho8] at hcell
            have HO8 := Go.Lib.hid ho8
            have HQ := Go.Lib.hid hq
            have HQJ := Go.Lib.hid hqj
            have hkl2 : (k : Int) < (lb.length : Int) := by omega
            clear ho8 hq hqj hk hj hql
            by_cases hbit : (t / 2 ^ i) % 2 = 1
            · have hb1 : bits .and .u32 ((t : Int) / 2 ^ i) 1 = 1 := bits_and1 t i hn'.2 1 hbit
              have HBIT := Go.Lib.hid hbit
              clear hbit
              obtain ⟨y8, hy8⟩ : ∃ y8, y8 = o8 ^^^ UInt8.ofNat (2 ^ j) := ⟨_, rfl⟩
              have hxor : bits .xor .u8 (o8.toNat : Int) (2 ^ j % 256) = (y8.toNat : Int) := by
                have e : ((2 : Int) ^ j % 256) = ((UInt8.ofNat (2 ^ j)).toNat : Int) := by simp
                rw [e, hy8]
                exact bits_xor_u8 ..
              have HY8 := Go.Lib.hid hy8
              clear hy8
              go_wp2
              go_region
              go_wp2
              refine ⟨⟨i + 1, lx.set k y8, by omega, by go_num, by simpa using hlx, ?_, OwB.set hox.out hkl y8, (Below.setCell (p := ⟨gx, k, none⟩) hbx.out hge _).drew⟩, by simp [intOf]; omega⟩
              show Crc.num _ = _
              have hj8' : j < 8 := by omega
              have hp2 : (UInt8.ofNat (2 ^ j)).toNat = 2 ^ j := by
                have : 2 ^ j < 256 := Nat.pow_lt_pow_right (a := 2) (by decide) (by omega : j < 8)
                simp; omega
              rw [HY8.out, HO8.out, num_set lx k hkl, hnum.out, mod_bit1 t i HBIT.out, hp2]
              have e1 : 2 ^ (8 * k) * 2 ^ j = 2 ^ p * 2 ^ i := by
                rw [← Nat.pow_add, ← Nat.pow_add]
                congr 1
                have := HQ.out
                have := HQJ.out
                omega
              rw [e1, Nat.xor_assoc]
              congr 1
              rw [Nat.mul_comm (2 ^ p), Nat.mul_comm (2 ^ p), Nat.mul_comm (2 ^ p), ← Nat.shiftLeft_eq, ← Nat.shiftLeft_eq, ← Nat.shiftLeft_eq, Nat.shiftLeft_xor_distrib]
            · have hb1 : bits .and .u32 ((t : Int) / 2 ^ i) 1 = 0 := bits_and1 t i hn'.2 0 (by omega)
              have HBIT := Go.Lib.hid hbit
              clear hbit
              go_wp2
              refine ⟨⟨i + 1, lx, by omega, by go_num, hlx, ?_, hox, hbx⟩, by simp [intOf]; omega⟩
              show Crc.num lx = _
              rw [hnum.out, mod_bit0 t i (by have := HBIT.out; omega)]
          · have hii : i = 32 := by omega
            subst hii
            have hne : Crc.sum lx ≠ Crc.sum lb := Crc.sum_burst hlx p t H3.out (by omega) (by omega) (by rw [hnum.out, Nat.mod_eq_of_lt (by omega)])
            have hneq : ((Crc.sum lx : Int) != (Crc.sum lb : Int)) = true := bne_iff_ne.2 (by omega)
            have HT := Go.Lib.hid (TabW.below HT00.out hbx.out)
            have HRb := Go.Lib.hid (Rd.below HRb0.out hbx.out)
            have HB := Go.Lib.hid hbx.out
            obtain ⟨Ax, cx', hAx, hrx⟩ := hox.out.rd
            rw [hlx] at hAx
            cases hAx
            have hsx := sum_eq (some ⟨wr.heap.size, 0, none⟩) 1 [(some ⟨gx, 0, none⟩, cx, lx)] _ (TabW.alloc HT.out _) (RdP.one' hrx 22 _ rfl) lx (bytes1 ..)
            rw [hlx] at hsx
            have HSX := Go.Lib.hid hsx
            clear hrx hne hbx hlx hsx
            have su0 : True := trivial
            go_wp2_with (first
    | (go_at_call 12; have t_ := su0; clear t_; go_must (refine (HSX.out).mono ?_); rintro e w_ ⟨rfl, rfl⟩; clear su0; have su1 : True := trivial)
    | (go_at_call 10; have t_ := su1; clear t_; go_must (refine (own_any _ _ lb _ (by first | exact HRb.out | exact Rd.alloc (HRb.out) _ | exact Rd.alloc (Rd.alloc (HRb.out) _) _ | exact Rd.alloc (Rd.alloc (Rd.alloc (HRb.out) _) _) _ | exact Rd.alloc (Rd.alloc (Rd.alloc (Rd.alloc (HRb.out) _) _) _) _) (by omega)).mono ?_); rintro e wy ⟨vy, rfl, hoy, hby⟩; obtain ⟨Ay, cy, rfl, hry⟩ := hoy.rd; clear hoy; have n_ := Go.Lib.hid (Below.step (by first | exact HB.out | exact below_alloc1 (HB.out) | exact below_alloc1 (below_alloc1 (HB.out)) | exact below_alloc1 (below_alloc1 (below_alloc1 (HB.out))) | exact below_alloc1 (below_alloc1 (below_alloc1 (below_alloc1 (HB.out))))) hby); clear HB; have HB := n_; clear n_; have n_ := Go.Lib.hid (TabW.below (by first | exact HT.out | exact TabW.alloc (HT.out) _ | exact TabW.alloc (TabW.alloc (HT.out) _) _ | exact TabW.alloc (TabW.alloc (TabW.alloc (HT.out) _) _) _ | exact TabW.alloc (TabW.alloc (TabW.alloc (TabW.alloc (HT.out) _) _) _) _) hby); clear HT; have HT := n_; clear n_; have n_ := Go.Lib.hid (Rd.below (by first | exact HRb.out | exact Rd.alloc (HRb.out) _ | exact Rd.alloc (Rd.alloc (HRb.out) _) _ | exact Rd.alloc (Rd.alloc (Rd.alloc (HRb.out) _) _) _ | exact Rd.alloc (Rd.alloc (Rd.alloc (Rd.alloc (HRb.out) _) _) _) _) hby); clear HRb; have HRb := n_; clear n_; clear hby; have HRy := Go.Lib.hid hry; clear hry; clear su1; have su2 : True := trivial)
    | (go_at_call 12; have t_ := su2; clear t_; go_must (refine (sum_eq (some ⟨_, 0, none⟩) 1 [(Ay, cy, lb)] _ (by first | exact HT.out | exact TabW.alloc (HT.out) _ | exact TabW.alloc (TabW.alloc (HT.out) _) _ | exact TabW.alloc (TabW.alloc (TabW.alloc (HT.out) _) _) _ | exact TabW.alloc (TabW.alloc (TabW.alloc (TabW.alloc (HT.out) _) _) _) _) (RdP.one' (by first | exact HRy.out | exact Rd.alloc (HRy.out) _ | exact Rd.alloc (Rd.alloc (HRy.out) _) _ | exact Rd.alloc (Rd.alloc (Rd.alloc (HRy.out) _) _) _ | exact Rd.alloc (Rd.alloc (Rd.alloc (Rd.alloc (HRy.out) _) _) _) _) _ _ (by first | rfl | simp)) lb (bytes1 ..)).mono ?_); rintro e w_ ⟨rfl, rfl⟩; clear su2; have su3 : True := trivial)
    | (go_at_call 9; have t_ := su3; clear t_; go_must (refine (awake_any _ (by first | exact HT.out | exact TabW.alloc (HT.out) _ | exact TabW.alloc (TabW.alloc (HT.out) _) _ | exact TabW.alloc (TabW.alloc (TabW.alloc (HT.out) _) _) _ | exact TabW.alloc (TabW.alloc (TabW.alloc (TabW.alloc (HT.out) _) _) _) _)).mono ?_); rintro e w903 ⟨rfl, hb903⟩; have n_ := Go.Lib.hid (Below.step (by first | exact HB.out | exact below_alloc1 (HB.out) | exact below_alloc1 (below_alloc1 (HB.out)) | exact below_alloc1 (below_alloc1 (below_alloc1 (HB.out))) | exact below_alloc1 (below_alloc1 (below_alloc1 (below_alloc1 (HB.out))))) hb903); clear HB; have HB := n_; clear n_; have n_ := Go.Lib.hid (TabW.below (by first | exact HT.out | exact TabW.alloc (HT.out) _ | exact TabW.alloc (TabW.alloc (HT.out) _) _ | exact TabW.alloc (TabW.alloc (TabW.alloc (HT.out) _) _) _ | exact TabW.alloc (TabW.alloc (TabW.alloc (TabW.alloc (HT.out) _) _) _) _) hb903); clear HT; have HT := n_; clear n_; have n_ := Go.Lib.hid (Rd.below (by first | exact HRb.out | exact Rd.alloc (HRb.out) _ | exact Rd.alloc (Rd.alloc (HRb.out) _) _ | exact Rd.alloc (Rd.alloc (Rd.alloc (HRb.out) _) _) _ | exact Rd.alloc (Rd.alloc (Rd.alloc (Rd.alloc (HRb.out) _) _) _) _) hb903); clear HRb; have HRb := n_; clear n_; have n_ := Go.Lib.hid (Rd.below (by first | exact HRy.out | exact Rd.alloc (HRy.out) _ | exact Rd.alloc (Rd.alloc (HRy.out) _) _ | exact Rd.alloc (Rd.alloc (Rd.alloc (HRy.out) _) _) _ | exact Rd.alloc (Rd.alloc (Rd.alloc (Rd.alloc (HRy.out) _) _) _) _) hb903); clear HRy; have HRy := n_; clear n_; clear hb903; clear su3; have su4 : True := trivial))
            go_ret
            exact ⟨rfl, HB.out⟩
    · (go_enter Tryd.func5, Tryd.ntmps5; go_wp2_with (go_at_call 9; refine (awake_any _ HT.out).mono ?_; rintro e w' ⟨rfl, hb⟩); go_ret; exact ⟨rfl, hb⟩)
  · (go_enter Tryd.func5, Tryd.ntmps5; go_wp2_with (go_at_call 9; refine (awake_any _ HT.out).mono ?_; rintro e w' ⟨rfl, hb⟩); go_ret; exact ⟨rfl, hb⟩)
end Go.Proofs.YteffjmglllpcaaaDoor
