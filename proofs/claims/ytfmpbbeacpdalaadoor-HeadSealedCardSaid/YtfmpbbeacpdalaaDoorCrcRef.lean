/-
  The walks of the reference: its Sum.
-/
import Derived.Test.YtfmpbbeacpdalaaDoorCrcCheck
set_option linter.unusedVariables false
set_option linter.unusedSimpArgs false
namespace Go.Proofs.YtfmpbbeacpdalaaDoor
open Go.RowKit


set_option maxHeartbeats 800000 in
theorem refsum_any (A : Option Addr) (c : Nat) (l : List UInt8) (w : World) (hr : Rd w A c l) :
    Calls Tryd.prog 35 #[.slice A l.length c] w fun e w' => e = .returned (.int .u32 (Crc.sum l : Int)) ∧ w' = w := by
  have hlen := hr.len
  have HR := Go.Lib.hid hr
  have HL := Go.Lib.hid (Crc.flip_lt (r := 0) (by decide))
  have h0 : (4294967295 : Int) = ((Crc.flip 0 : Nat) : Int) := by unfold Crc.flip; rw [Crc.full_eq]; rfl
  have H0 := Go.Lib.hid h0
  clear hr h0
  go_enter Tryd.func35, Tryd.ntmps35
  go_wp2
  go_loop [3, 4] (fun r i => ∃ k : Nat, k ≤ l.length ∧ i = .int .i64 k ∧ r = .int .u32 (Crc.reg (Crc.flip 0) (l.take k) : Nat)) (fun _ i => l.length - (intOf i).toNat)
  case atStart => exact ⟨0, Nat.zero_le _, rfl, int_eq H0.out⟩
  case round =>
    obtain ⟨k, hk, rfl, rfl⟩ := hrel
    have hrl := Go.Lib.hid (Crc.reg_lt (l.take k) HL.out)
    by_cases hlt : k < l.length
    · obtain ⟨b, o, rfl, hc⟩ := HR.out.at_ hlt
      obtain ⟨x, hx⟩ : ∃ x : Nat, x = l[k].toNat := ⟨_, rfl⟩
      obtain ⟨r, hrr⟩ : ∃ r : Nat, r = Crc.reg (Crc.flip 0) (l.take k) := ⟨_, rfl⟩
      rw [← hx] at hc
      rw [← hrr] at hrl ⊢
      have HX := Go.Lib.hid hx
      have HRR := Go.Lib.hid hrr
      clear hx hrr
      go_wp2
      have hx8 : x < 256 := by rw [HX.out]; exact l[k].toNat_lt
      have e0 : bits .xor .u32 (r : Int) ((x : Int) % 4294967296) = ((r ^^^ x : Nat) : Int) := by
        have : (x : Int) % 4294967296 = (x : Int) := by omega
        rw [this, bits_xor_u32 _ _ hrl.out (by omega)]
      have hx0 : r ^^^ x < 4294967296 := Nat.xor_lt_two_pow (n := 32) hrl.out (by omega)
      rw [e0]
      have HX0 := Go.Lib.hid hx0
      clear hx0 e0 hx8
      go_loop [3, 5] (fun r5 i => ∃ j q : Nat, j ≤ 8 ∧ i = .int .i64 j ∧ r5 = .int .u32 (q : Int) ∧ q < 4294967296 ∧ Hid (Crc.byte1 r x = Crc.bitN (8 - j) q)) (fun _ i => 8 - (intOf i).toNat)
      case atStart => exact ⟨0, _, by omega, rfl, rfl, HX0.out, rfl⟩
      case round =>
        obtain ⟨j, q, hj, rfl, rfl, hq, hst⟩ := hrel
        by_cases hj2 : j < 8
        · by_cases ho : q % 2 = 1
          · have h1 : (q : Int) % 2 = 1 := by omega
            go_wp2
            have e1 : bits .xor .u32 ((q : Int) / 2) 3988292384 = ((Crc.bit1 q : Nat) : Int) := by
              have e2 : (q : Int) / 2 = ((q / 2 : Nat) : Int) := by omega
              have e3 : (3988292384 : Int) = ((3988292384 : Nat) : Int) := rfl
              rw [e2, e3, bits_xor_u32 _ _ (by omega) (by decide)]
              unfold Crc.bit1
              rw [if_pos ho]
            refine ⟨⟨j + 1, Crc.bit1 q, by omega, by go_num, int_eq e1, Crc.bit1_lt hq, ?_⟩, by simp [intOf]; omega⟩
            refine hst.out.trans ?_
            rw [show 8 - j = (8 - (j + 1)) + 1 by omega]
            rfl
          · have h1 : (q : Int) % 2 = 0 := by omega
            go_wp2
            have e1 : (q : Int) / 2 = ((Crc.bit1 q : Nat) : Int) := by
              unfold Crc.bit1
              rw [if_neg ho, Nat.xor_zero]
              omega
            refine ⟨⟨j + 1, Crc.bit1 q, by omega, by go_num, int_eq e1, Crc.bit1_lt hq, ?_⟩, by simp [intOf]; omega⟩
            refine hst.out.trans ?_
            rw [show 8 - j = (8 - (j + 1)) + 1 by omega]
            rfl
        · have hjj : j = 8 := by omega
          subst hjj
          go_wp2
          refine ⟨⟨k + 1, by omega, by go_num, int_eq ?_⟩, by simp [intOf]; omega⟩
          have h1 : Crc.byte1 r x = q := hst.out
          rw [take_snoc l k hlt, Crc.reg_snoc, ← HRR.out, ← HX.out, h1]
    · have hkk : k = l.length := by omega
      go_wp2
      go_ret
      refine ⟨ret_int ?_, rfl⟩
      rw [hkk, List.take_length] at hrl
      have e3 : (4294967295 : Int) = ((4294967295 : Nat) : Int) := rfl
      rw [e3, bits_xor_u32 _ _ hrl.out (by decide)]
      unfold Crc.sum Crc.more Crc.flip
      rw [Crc.full_eq, Nat.xor_comm]

end Go.Proofs.YtfmpbbeacpdalaaDoor
