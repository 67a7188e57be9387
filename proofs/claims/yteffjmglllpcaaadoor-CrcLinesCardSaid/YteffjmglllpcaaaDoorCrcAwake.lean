/-
  The walk of the law's 'awake'.
-/
import Derived.Test.YteffjmglllpcaaaDoorCrcRef2
import Derived.Lib.SlBytesConst
set_option linter.unusedVariables false
set_option linter.unusedSimpArgs false
namespace Go.Proofs.YteffjmglllpcaaaDoor
open Go.RowKit

def digits9 : List UInt8 := [49, 50, 51, 52, 53, 54, 55, 56, 57]
theorem sum_digits : Crc.sum digits9 = 3421780262 := by
  unfold Crc.sum Crc.more Crc.flip
  rw [Crc.full_eq]
  decide +kernel
theorem sum_nil : Crc.sum (bytesOf []) = 0 := by
  unfold Crc.sum
  exact Crc.more_nil 0

theorem rd_mark (w : World) (l : List UInt8) {cs : Array Value} {n k : Nat} {fr : Nat × Nat} (hcs : cs = (bs l).toArray) (hn : n = l.length) (hk : w.heap.size = k) (hl : l.length ≤ 9223372036854775807) :
    Rd (w.alloc (.cells cs 5 fr)) (some ⟨k, 0, none⟩) n l := by
  subst hcs
  subst hn
  subst hk
  refine ⟨Nat.le_refl _, hl, (fun e => by cases e), (fun a e _ => by cases e; rfl), ?_⟩
  intro j hj a ha
  cases ha
  simp only [Nat.zero_add]
  rw [World.cell?_alloc_mark]
  simp [bs, List.getElem?_eq_getElem hj]

def RetTrue (w : World) (e : Ending) (w' : World) : Prop := e = .returned (.bool true) ∧ Below w.heap.size w w'

theorem RdP.nilAt (w : World) : RdP w none [] := ⟨by simp, fun j h => by cases h⟩

set_option maxHeartbeats 800000 in
theorem awake_any (w : World) (hT : TabW w) : Calls Tryd.prog 9 #[] w (RetTrue w) := by
  have h0 : ∀ W, Below w.heap.size w W → Calls Tryd.prog 12 #[.slice none 0 0] W fun e w' => e = .returned (.int .u32 0) ∧ W = w' := fun W hW => by
    refine (sum_any none 0 [] W (hT.below hW) (RdP.nilAt W)).mono ?_
    rintro e w' ⟨rfl, rfl⟩
    rw [sum_nil]
    exact ⟨rfl, rfl⟩
  have h9 : ∀ W, Below w.heap.size w W → ∀ k, W.heap.size = k → Calls Tryd.prog 12 #[.slice (some ⟨k + 1, 0, none⟩) 1 1] ((W.alloc (.cells #[.int .u8 49, .int .u8 50, .int .u8 51, .int .u8 52, .int .u8 53, .int .u8 54, .int .u8 55, .int .u8 56, .int .u8 57] 5 (9, 10))).alloc (.cells #[.slice (some ⟨k, 0, none⟩) 9 9] 22)) fun e w' => e = .returned (.int .u32 3421780262) ∧ ((W.alloc (.cells #[.int .u8 49, .int .u8 50, .int .u8 51, .int .u8 52, .int .u8 53, .int .u8 54, .int .u8 55, .int .u8 56, .int .u8 57] 5 (9, 10))).alloc (.cells #[.slice (some ⟨k, 0, none⟩) 9 9] 22)) = w' := fun W hW k hk => by
    subst hk
    have hr : Rd (W.alloc (.cells #[.int .u8 49, .int .u8 50, .int .u8 51, .int .u8 52, .int .u8 53, .int .u8 54, .int .u8 55, .int .u8 56, .int .u8 57] 5 (9, 10))) (some ⟨W.heap.size, 0, none⟩) 9 digits9 := rd_mark W digits9 rfl rfl rfl (by decide)
    have hp := RdP.one hr 22
    have := sum_any _ 1 _ _ (((hT.below hW).alloc _).alloc _) hp
    rw [show (W.alloc (.cells #[.int .u8 49, .int .u8 50, .int .u8 51, .int .u8 52, .int .u8 53, .int .u8 54, .int .u8 55, .int .u8 56, .int .u8 57] 5 (9, 10))).heap.size = W.heap.size + 1 by simp] at this
    refine this.mono ?_
    rintro e w' ⟨rfl, rfl⟩
    rw [show bytesOf [(some (⟨W.heap.size, 0, none⟩ : Addr), 9, digits9)] = digits9 by simp [bytesOf], sum_digits]
    exact ⟨rfl, rfl⟩
  have kc := fun (W : World) (C : Array Value) (n c : Nat) => Go.Lib.run_convert_bytes_const (P := Tryd.prog) W 22 5 C n c Tryd.underlying22 Tryd.underlying5
  have H0 := Go.Lib.hid h0
  have H9 := Go.Lib.hid h9
  have HC := Go.Lib.hid (check_short none 0 [] w (Rd.nilAt w) (by decide))
  clear h0 h9 hT
  go_enter Tryd.func9, Tryd.ntmps9
  go_wp2_with (first
    | (go_at_call 14; refine HC.out.mono ?_; rintro e w1 ⟨v1, rfl, ho1, hb1⟩; have HB1 := Go.Lib.hid hb1; clear ho1 hb1 HC)
    | (go_at_call 12; with_reducible refine (H9.out _ HB1.out _ rfl).mono ?_; rintro e w' ⟨rfl, rfl⟩)
    | (go_at_call 12; with_reducible refine (H0.out _ ?_).mono ?_; exact (HB1.out.alloc HB1.out.size _).alloc (by have := HB1.out.size; simp; omega) _; rintro e w' ⟨rfl, rfl⟩))
  go_ret
  exact ⟨rfl, ((HB1.out.alloc HB1.out.size _).alloc (by have := HB1.out.size; simp; omega) _)⟩

end Go.Proofs.YteffjmglllpcaaaDoor
