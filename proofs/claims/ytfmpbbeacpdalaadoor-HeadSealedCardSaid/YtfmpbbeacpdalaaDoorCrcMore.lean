/-
  The walk of crc.More.
-/
import Derived.Test.YtfmpbbeacpdalaaDoorW
import Derived.Test.YtfmpbbeacpdalaaDoorCrcPure
namespace Go.Proofs.YtfmpbbeacpdalaaDoor
open Go.RowKit


/-- The table of the sums lies in memory. -/
def TabW (w : World) : Prop := ∀ i : Nat, i < 16 → w.cell? ⟨0, i, none⟩ = some (.int .u32 (Crc.nib i : Int))

theorem bits_flip {s : Nat} (hs : s < 4294967296) : bits .xor .u32 IntKind.u32.max (s : Int) = ((Crc.flip s : Nat) : Int) := by
  have e : IntKind.u32.max = ((4294967295 : Nat) : Int) := by decide
  rw [e, bits_xor_u32 _ _ (by decide) hs]
  unfold Crc.flip
  rw [Crc.full_eq]

set_option maxHeartbeats 400000 in
theorem more_any (s : Nat) (hs : s < 4294967296) (A : Option Addr) (c : Nat) (l : List UInt8) (w : World) (hT : TabW w) (hr : Rd w A c l) :
    Calls Tryd.prog 51 #[.int .u32 (s : Int), .slice A l.length c] w fun e w' => e = .returned (.int .u32 (Crc.more s l : Int)) ∧ w' = w := by
  have hlen := hr.len
  have HT := Go.Lib.hid hT
  have HR := Go.Lib.hid hr
  clear hT hr
  go_enter Tryd.func51, Tryd.ntmps51
  go_wp2
  rw [bits_flip hs]
  have hl0 := Crc.flip_lt hs
  have HL := Go.Lib.hid hl0
  clear hl0
  go_loop [5, 12] (fun r i => ∃ k : Nat, k ≤ l.length ∧ i = .int .i64 k ∧ r = .int .u32 (Crc.reg (Crc.flip s) (l.take k) : Nat)) (fun _ i => l.length - (intOf i).toNat)
  case atStart => exact ⟨0, Nat.zero_le _, rfl, rfl⟩
  case round =>
    obtain ⟨k, hk, rfl, rfl⟩ := hrel
    have hrl := Go.Lib.hid (Crc.reg_lt (l.take k) HL.out)
    by_cases hlt : k < l.length
    · obtain ⟨b, o, rfl, hc⟩ := HR.out.at_ hlt
      obtain ⟨x, hx⟩ : ∃ x : Nat, x = l[k].toNat := ⟨_, rfl⟩
      obtain ⟨r, hrr⟩ : ∃ r : Nat, r = Crc.reg (Crc.flip s) (l.take k) := ⟨_, rfl⟩
      rw [← hx] at hc
      rw [← hrr] at hrl ⊢
      have HX := Go.Lib.hid hx
      have HRR := Go.Lib.hid hrr
      clear hx hrr
      go_wp2
      have hx8 : x < 256 := by rw [HX.out]; exact l[k].toNat_lt
      have e0 : bits .xor .u32 (r : Int) ((x : Int) % 4294967296) = ((r ^^^ x : Nat) : Int) := by
        have : (x : Int) % 4294967296 = (x : Int) := by omega
        rw [this, bits_xor_u32 _ _ hrl.out (by omega)]
      have hx0 : r ^^^ x < 4294967296 := Nat.xor_lt_two_pow (n := 32) hrl.out (by omega)
      rw [e0]
      have HX0 := Go.Lib.hid hx0
      have HE := Go.Lib.hid e0
      clear hx0 e0 hx8
      go_loop [5, 20] (fun r5 i => ∃ j q : Nat, j ≤ 2 ∧ i = .int .i64 j ∧ r5 = .int .u32 (q : Int) ∧ q < 4294967296 ∧ Hid (Crc.step4 (Crc.step4 (r ^^^ x)) = if j = 0 then Crc.step4 (Crc.step4 q) else if j = 1 then Crc.step4 q else q)) (fun _ i => 2 - (intOf i).toNat)
      case atStart => exact ⟨0, _, by omega, rfl, rfl, HX0.out, rfl⟩
      case round =>
        obtain ⟨j, q, hj, rfl, rfl, hq, hst⟩ := hrel
        by_cases hj2 : j < 2
        · have ht := HT.out (q % 16) (Nat.mod_lt _ (by decide))
          have ha := bits_and15_u32 q hq
          go_wp2
          have hn := Crc.nib_lt (q % 16)
          have e1 : bits .xor .u32 ((q : Int) / 16) (Crc.nib (q % 16) : Int) = ((Crc.step4 q : Nat) : Int) := by
            have : (q : Int) / 16 = ((q / 16 : Nat) : Int) := by omega
            rw [this, bits_xor_u32 _ _ (by omega) hn]
            rfl
          refine ⟨⟨j + 1, Crc.step4 q, by omega, by go_num, int_eq e1, ?_, ?_⟩, by simp [intOf]; omega⟩
          · rw [Crc.step4_bits]; exact Crc.bitN_lt 4 hq
          · have h1 := hst.out
            refine h1.trans ?_
            rcases (show j = 0 ∨ j = 1 by omega) with rfl | rfl <;> rfl
        · have hjj : j = 2 := by omega
          subst hjj
          go_wp2
          refine ⟨⟨k + 1, by omega, by go_num, int_eq ?_⟩, by simp [intOf]; omega⟩
          have h1 : Crc.step4 (Crc.step4 (r ^^^ x)) = q := hst.out
          rw [take_snoc l k hlt, Crc.reg_snoc, ← HRR.out, ← HX.out, ← Crc.byte1_step4, h1]
    · have hkk : k = l.length := by omega
      go_wp2
      go_ret
      refine ⟨ret_int ?_, rfl⟩
      rw [hkk, List.take_length] at hrl
      rw [bits_flip hrl.out]
      rfl
end Go.Proofs.YtfmpbbeacpdalaaDoor
