/-
  More words of this seat's walks: a slice of bytes that is made.
-/
import Derived.Test.YteffjmglllpcaaaDoorW
import Derived.Deep.OwnRows
set_option linter.unusedVariables false
set_option linter.unusedSimpArgs false
namespace Go.Proofs.YteffjmglllpcaaaDoor
open Go.RowKit

/-- make([]byte, n). -/
theorem make_b (n : Nat) (hn : n ≤ 140737488355328) (W : World) : (Instr.makeSlice 22 (.int .i64 (n : Int)) (.int .i64 (n : Int))).run Tryd.prog W = .ok (.slice (some ⟨W.heap.size, 0, none⟩) n n) (W.alloc (.cells (madeCells #[.int .u8 0] n) 5)) :=
  run_make_row' 22 5 (.int .u8 0) 1 Tryd.underlying22 Tryd.infoB rfl .i64 .i64 n (by omega) (by omega) W
theorem OwB.made (w : World) (base n : Nat) (hb : base ≤ w.heap.size) (hn : n ≤ 9223372036854775807) :
    OwB (w.alloc (.cells (madeCells #[.int .u8 0] n) 5)) base (.slice (some ⟨w.heap.size, 0, none⟩) n n) (List.replicate n 0) := by
  have h := OwB.lit (base := base) w (List.replicate n 0) (by simpa using hn) hb
  have e : (madeCells #[Value.int .u8 0] n) = (bs (List.replicate n 0)).toArray := by
    apply Array.ext
    · simp [bs, madeCells]
    · intro i h1 h2
      simp [bs, madeCells, Nat.mod_one]
  rw [e]
  simpa using h

end Go.Proofs.YteffjmglllpcaaaDoor
