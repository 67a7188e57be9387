/-
  No cell of these rows narrows 'for every input' (looked for: loops, veiled, ifaces, maps, wideKeys, modest, calm, conditions, laid).
  DERIVED. THE GIVEN ROWS OF THIS SEAT. 7 by the template 'for every input the law returns true; each argument reads behind the call as it read before'; 0 by the template 'total and deterministic' (their statements: YtkhjgmcndieecaaTotals.lean).
  GIVEN WITH THE SEED: the statements are not yours to turn. If you find one false, say at which input.
  Laid BY PROGRAM, IN A SANDBOX (cutbox-rows.mjs): the forced cells as the released guide's own fill.sh prints them over the translation 4f2ade318cac674b… (all of the seat's roots in one cut). By AI agents, Wed Nov 11 2026. No macro, syntax, notation, axiom, sorry.
-/
import Derived.Test.YtkhjgmcndieecaaChecked
import GoSem.Claim
import GoSem.ClaimJoined
import GoSem.ClaimMapViews
import Derived.JoinedTies
import Derived.KernelRfl
namespace Go.Proofs.Ytkhjgmcndieecaa
/- THE CELL 'sum', in the pinned program and in every row, IS THE sha256 OF THE DUMP (.gsa) THAT YtkhjgmcndieecaaProg.lean LOADS. Nothing in Lean hashes anything: it is a label: what it is worth is what the hold of that sum in a sandbox is worth. -/
noncomputable def Try.pinned : Pinned := { name := "ytkhjgmcndieecaa", sum := "4f2ade318cac674b95e18e78b6779de9899e3801bf977e7aa3f30f80a5e02822", checked := Try.checked }
namespace Rows
def none {H : Type} : Left H := { results := [], args := [] }

/-- 'clerestorylaw01.CursorOthers': WHATEVER THE INPUT: true; the input reads as it did. -/
def cursorOthersSpec : ChangeSpec := { name := "cursorOthers", fn := fun _ => fun
  | [d1, d2] => { results := [.lit (.bool true)], args := [d1, d2] }
  | _ => none }
def cursorOthersRow : OpenClaim := { program := "ytkhjgmcndieecaa", sum := "4f2ade318cac674b95e18e78b6779de9899e3801bf977e7aa3f30f80a5e02822", func := "clerestory/clerestorylaw01.CursorOthers", spec := "cursorOthers", unfollowed := true, recurses := true, apart := false }
def CursorOthersSaid : Prop := cursorOthersRow.holds Try.pinned (OpenSpec.ofChange cursorOthersSpec)

/-- ITS FALSE NEIGHBOUR: 'it returns false'. Refute it at one input. -/
def cursorOthersWrong : ChangeSpec := { name := "cursorOthers", fn := fun _ => fun
  | [d1, d2] => { results := [.lit (.bool false)], args := [d1, d2] }
  | _ => none }
def CursorOthersWrongFalsely : Prop := cursorOthersRow.holds Try.pinned (OpenSpec.ofChange cursorOthersWrong)

/-- 'clerestorylaw01.CursorPuts': WHATEVER THE INPUT: true; the input reads as it did. -/
def cursorPutsSpec : ChangeSpec := { name := "cursorPuts", fn := fun _ => fun
  | [d1, d2, d3, d4] => { results := [.lit (.bool true)], args := [d1, d2, d3, d4] }
  | _ => none }
def cursorPutsRow : OpenClaim := { program := "ytkhjgmcndieecaa", sum := "4f2ade318cac674b95e18e78b6779de9899e3801bf977e7aa3f30f80a5e02822", func := "clerestory/clerestorylaw01.CursorPuts", spec := "cursorPuts", unfollowed := true, recurses := true, apart := false }
def CursorPutsSaid : Prop := cursorPutsRow.holds Try.pinned (OpenSpec.ofChange cursorPutsSpec)

/-- ITS FALSE NEIGHBOUR: 'it returns false'. Refute it at one input. -/
def cursorPutsWrong : ChangeSpec := { name := "cursorPuts", fn := fun _ => fun
  | [d1, d2, d3, d4] => { results := [.lit (.bool false)], args := [d1, d2, d3, d4] }
  | _ => none }
def CursorPutsWrongFalsely : Prop := cursorPutsRow.holds Try.pinned (OpenSpec.ofChange cursorPutsWrong)

/-- 'clerestorylaw01.CursorBack': WHATEVER THE INPUT: true; the input reads as it did. -/
def cursorBackSpec : ChangeSpec := { name := "cursorBack", fn := fun _ => fun
  | [d1, d2, d3, d4] => { results := [.lit (.bool true)], args := [d1, d2, d3, d4] }
  | _ => none }
def cursorBackRow : OpenClaim := { program := "ytkhjgmcndieecaa", sum := "4f2ade318cac674b95e18e78b6779de9899e3801bf977e7aa3f30f80a5e02822", func := "clerestory/clerestorylaw01.CursorBack", spec := "cursorBack", unfollowed := true, recurses := true, apart := false }
def CursorBackSaid : Prop := cursorBackRow.holds Try.pinned (OpenSpec.ofChange cursorBackSpec)

/-- ITS FALSE NEIGHBOUR: 'it returns false'. Refute it at one input. -/
def cursorBackWrong : ChangeSpec := { name := "cursorBack", fn := fun _ => fun
  | [d1, d2, d3, d4] => { results := [.lit (.bool false)], args := [d1, d2, d3, d4] }
  | _ => none }
def CursorBackWrongFalsely : Prop := cursorBackRow.holds Try.pinned (OpenSpec.ofChange cursorBackWrong)

/-- 'clerestorylaw01.CursorRows': WHATEVER THE INPUT: true; the input reads as it did. -/
def cursorRowsSpec : ChangeSpec := { name := "cursorRows", fn := fun _ => fun
  | [d1, d2, d3] => { results := [.lit (.bool true)], args := [d1, d2, d3] }
  | _ => none }
def cursorRowsRow : OpenClaim := { program := "ytkhjgmcndieecaa", sum := "4f2ade318cac674b95e18e78b6779de9899e3801bf977e7aa3f30f80a5e02822", func := "clerestory/clerestorylaw01.CursorRows", spec := "cursorRows", unfollowed := true, recurses := true, apart := false }
def CursorRowsSaid : Prop := cursorRowsRow.holds Try.pinned (OpenSpec.ofChange cursorRowsSpec)

/-- ITS FALSE NEIGHBOUR: 'it returns false'. Refute it at one input. -/
def cursorRowsWrong : ChangeSpec := { name := "cursorRows", fn := fun _ => fun
  | [d1, d2, d3] => { results := [.lit (.bool false)], args := [d1, d2, d3] }
  | _ => none }
def CursorRowsWrongFalsely : Prop := cursorRowsRow.holds Try.pinned (OpenSpec.ofChange cursorRowsWrong)

/-- 'clerestorylaw01.CursorSkips': WHATEVER THE INPUT: true; the input reads as it did. -/
def cursorSkipsSpec : ChangeSpec := { name := "cursorSkips", fn := fun _ => fun
  | [d1, d2] => { results := [.lit (.bool true)], args := [d1, d2] }
  | _ => none }
def cursorSkipsRow : OpenClaim := { program := "ytkhjgmcndieecaa", sum := "4f2ade318cac674b95e18e78b6779de9899e3801bf977e7aa3f30f80a5e02822", func := "clerestory/clerestorylaw01.CursorSkips", spec := "cursorSkips", unfollowed := true, recurses := true, apart := false }
def CursorSkipsSaid : Prop := cursorSkipsRow.holds Try.pinned (OpenSpec.ofChange cursorSkipsSpec)

/-- ITS FALSE NEIGHBOUR: 'it returns false'. Refute it at one input. -/
def cursorSkipsWrong : ChangeSpec := { name := "cursorSkips", fn := fun _ => fun
  | [d1, d2] => { results := [.lit (.bool false)], args := [d1, d2] }
  | _ => none }
def CursorSkipsWrongFalsely : Prop := cursorSkipsRow.holds Try.pinned (OpenSpec.ofChange cursorSkipsWrong)

/-- 'clerestorylaw01.CursorReads': WHATEVER THE INPUT: true; the input reads as it did. -/
def cursorReadsSpec : ChangeSpec := { name := "cursorReads", fn := fun _ => fun
  | [d1, d2, d3] => { results := [.lit (.bool true)], args := [d1, d2, d3] }
  | _ => none }
def cursorReadsRow : OpenClaim := { program := "ytkhjgmcndieecaa", sum := "4f2ade318cac674b95e18e78b6779de9899e3801bf977e7aa3f30f80a5e02822", func := "clerestory/clerestorylaw01.CursorReads", spec := "cursorReads", unfollowed := true, recurses := true, apart := false }
def CursorReadsSaid : Prop := cursorReadsRow.holds Try.pinned (OpenSpec.ofChange cursorReadsSpec)

/-- ITS FALSE NEIGHBOUR: 'it returns false'. Refute it at one input. -/
def cursorReadsWrong : ChangeSpec := { name := "cursorReads", fn := fun _ => fun
  | [d1, d2, d3] => { results := [.lit (.bool false)], args := [d1, d2, d3] }
  | _ => none }
def CursorReadsWrongFalsely : Prop := cursorReadsRow.holds Try.pinned (OpenSpec.ofChange cursorReadsWrong)

/-- 'clerestorylaw01.CursorOver': WHATEVER THE INPUT: true; the input reads as it did. -/
def cursorOverSpec : ChangeSpec := { name := "cursorOver", fn := fun _ => fun
  | [d1, d2, d3, d4] => { results := [.lit (.bool true)], args := [d1, d2, d3, d4] }
  | _ => none }
def cursorOverRow : OpenClaim := { program := "ytkhjgmcndieecaa", sum := "4f2ade318cac674b95e18e78b6779de9899e3801bf977e7aa3f30f80a5e02822", func := "clerestory/clerestorylaw01.CursorOver", spec := "cursorOver", unfollowed := true, recurses := true, apart := false }
def CursorOverSaid : Prop := cursorOverRow.holds Try.pinned (OpenSpec.ofChange cursorOverSpec)

/-- ITS FALSE NEIGHBOUR: 'it returns false'. Refute it at one input. -/
def cursorOverWrong : ChangeSpec := { name := "cursorOver", fn := fun _ => fun
  | [d1, d2, d3, d4] => { results := [.lit (.bool false)], args := [d1, d2, d3, d4] }
  | _ => none }
def CursorOverWrongFalsely : Prop := cursorOverRow.holds Try.pinned (OpenSpec.ofChange cursorOverWrong)

/- THE SECOND FORM. 'bulk': how many values and letters a reading holds, each counted each time it is reached (what is shared counts as often as it is met; a slice's spare places count too). A statement '..UptoSaid' is the law's where the arguments, and the package variables that the reading takes, are together of bulk at most 1048576: NARROWER than '..Said'. Prove '..Said' where nothing that the law and all that it calls make is longer than what came in: it says more and counts as full. Else prove '..UptoSaid'. A law counts once. -/
mutual
def uptoBulk {H : Type} : DataW H → Nat
  | .lit (.string bytes) => bytes.length + 1
  | .lit _ => 1
  | .nil => 1
  | .ptr d => uptoBulk d + 1
  | .slice elems spare => uptoBulkAll elems + uptoBulkAll spare + 1
  | .agg parts => uptoBulkAll parts + 1
  | .iface _ d => uptoBulk d + 1
  | .map entries => uptoBulkEntries entries + 1
  | .held _ => 1
def uptoBulkAll {H : Type} : List (DataW H) → Nat
  | [] => 0
  | d :: r => uptoBulk d + uptoBulkAll r
def uptoBulkEntries {H : Type} : List (Lit × DataW H) → Nat
  | [] => 0
  | x :: r => uptoBulkEntry x + uptoBulkEntries r
def uptoBulkEntry {H : Type} : Lit × DataW H → Nat
  | (.string bytes, d) => bytes.length + uptoBulk d + 1
  | (_, d) => uptoBulk d + 1
 end
def uptoSmall : (H : Type) → List (DataW H) → Bool := fun _ ds => decide (uptoBulkAll ds ≤ 1048576)
def OpenSpec.upto (s : _root_.Go.ChangeSpec) : _root_.Go.OpenSpec := { _root_.Go.OpenSpec.ofChange s with cond := some uptoSmall }

/-- 'clerestorylaw01.CursorOthers', WHERE WHAT IT READS IS OF BULK AT MOST 1048576: true; the input reads as it did. -/
def cursorOthersUptoRow : OpenClaim := { program := "ytkhjgmcndieecaa", sum := "4f2ade318cac674b95e18e78b6779de9899e3801bf977e7aa3f30f80a5e02822", func := "clerestory/clerestorylaw01.CursorOthers", spec := "cursorOthers", unfollowed := true, recurses := true, apart := false, narrowed := true }
def CursorOthersUptoSaid : Prop := cursorOthersUptoRow.holds Try.pinned (OpenSpec.upto cursorOthersSpec)

/-- 'clerestorylaw01.CursorPuts', WHERE WHAT IT READS IS OF BULK AT MOST 1048576: true; the input reads as it did. -/
def cursorPutsUptoRow : OpenClaim := { program := "ytkhjgmcndieecaa", sum := "4f2ade318cac674b95e18e78b6779de9899e3801bf977e7aa3f30f80a5e02822", func := "clerestory/clerestorylaw01.CursorPuts", spec := "cursorPuts", unfollowed := true, recurses := true, apart := false, narrowed := true }
def CursorPutsUptoSaid : Prop := cursorPutsUptoRow.holds Try.pinned (OpenSpec.upto cursorPutsSpec)

/-- 'clerestorylaw01.CursorBack', WHERE WHAT IT READS IS OF BULK AT MOST 1048576: true; the input reads as it did. -/
def cursorBackUptoRow : OpenClaim := { program := "ytkhjgmcndieecaa", sum := "4f2ade318cac674b95e18e78b6779de9899e3801bf977e7aa3f30f80a5e02822", func := "clerestory/clerestorylaw01.CursorBack", spec := "cursorBack", unfollowed := true, recurses := true, apart := false, narrowed := true }
def CursorBackUptoSaid : Prop := cursorBackUptoRow.holds Try.pinned (OpenSpec.upto cursorBackSpec)

/-- 'clerestorylaw01.CursorRows', WHERE WHAT IT READS IS OF BULK AT MOST 1048576: true; the input reads as it did. -/
def cursorRowsUptoRow : OpenClaim := { program := "ytkhjgmcndieecaa", sum := "4f2ade318cac674b95e18e78b6779de9899e3801bf977e7aa3f30f80a5e02822", func := "clerestory/clerestorylaw01.CursorRows", spec := "cursorRows", unfollowed := true, recurses := true, apart := false, narrowed := true }
def CursorRowsUptoSaid : Prop := cursorRowsUptoRow.holds Try.pinned (OpenSpec.upto cursorRowsSpec)

/-- 'clerestorylaw01.CursorSkips', WHERE WHAT IT READS IS OF BULK AT MOST 1048576: true; the input reads as it did. -/
def cursorSkipsUptoRow : OpenClaim := { program := "ytkhjgmcndieecaa", sum := "4f2ade318cac674b95e18e78b6779de9899e3801bf977e7aa3f30f80a5e02822", func := "clerestory/clerestorylaw01.CursorSkips", spec := "cursorSkips", unfollowed := true, recurses := true, apart := false, narrowed := true }
def CursorSkipsUptoSaid : Prop := cursorSkipsUptoRow.holds Try.pinned (OpenSpec.upto cursorSkipsSpec)

/-- 'clerestorylaw01.CursorReads', WHERE WHAT IT READS IS OF BULK AT MOST 1048576: true; the input reads as it did. -/
def cursorReadsUptoRow : OpenClaim := { program := "ytkhjgmcndieecaa", sum := "4f2ade318cac674b95e18e78b6779de9899e3801bf977e7aa3f30f80a5e02822", func := "clerestory/clerestorylaw01.CursorReads", spec := "cursorReads", unfollowed := true, recurses := true, apart := false, narrowed := true }
def CursorReadsUptoSaid : Prop := cursorReadsUptoRow.holds Try.pinned (OpenSpec.upto cursorReadsSpec)

/-- 'clerestorylaw01.CursorOver', WHERE WHAT IT READS IS OF BULK AT MOST 1048576: true; the input reads as it did. -/
def cursorOverUptoRow : OpenClaim := { program := "ytkhjgmcndieecaa", sum := "4f2ade318cac674b95e18e78b6779de9899e3801bf977e7aa3f30f80a5e02822", func := "clerestory/clerestorylaw01.CursorOver", spec := "cursorOver", unfollowed := true, recurses := true, apart := false, narrowed := true }
def CursorOverUptoSaid : Prop := cursorOverUptoRow.holds Try.pinned (OpenSpec.upto cursorOverSpec)

end Rows
end Go.Proofs.Ytkhjgmcndieecaa
