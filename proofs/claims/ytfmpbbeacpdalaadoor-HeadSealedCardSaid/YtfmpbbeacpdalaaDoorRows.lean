/-
  NARROWER THAN 'FOR EVERY INPUT', by the rows' own cells (each row's printed sentence says how): HeadPuts: laid · HeadGets: laid · HeadSealed: laid · HeadBack: laid · HeadApart: laid · HeadFiles: laid · HeadNexts: laid · HeadNewer: laid.
  DERIVED. THE GIVEN ROWS OF THIS SEAT. 8 by the template 'for every input the law returns true; each argument reads behind the call as it read before'; 0 by the template 'total and deterministic' (their statements: YtfmpbbeacpdalaaDoorTotals.lean).
  GIVEN WITH THE SEED: the statements are not yours to turn. If you find one false, say at which input.
  Laid BY PROGRAM, IN A SANDBOX (cutbox-rows.mjs): the forced cells as the released guide's own fill.sh prints them over the translation c09b406131fa91bd… (all of the seat's roots in one cut). By AI agents, Wed Nov 11 2026. No macro, syntax, notation, axiom, sorry.
-/
import Derived.Test.YtfmpbbeacpdalaaDoorChecked
import GoSem.Claim
import GoSem.ClaimJoined
import GoSem.ClaimMapViews
import Derived.JoinedTies
import Derived.KernelRfl
namespace Go.Proofs.YtfmpbbeacpdalaaDoor
/- THE CELL 'sum', in the pinned program and in every row, IS THE sha256 OF THE DUMP (.gsa) THAT YtfmpbbeacpdalaaDoorProg.lean LOADS. Nothing in Lean hashes anything: it is a label: what it is worth is what the hold of that sum in a sandbox is worth. -/
noncomputable def Tryd.pinned : Pinned := { name := "ytfmpbbeacpdalaadoor", sum := "c09b406131fa91bd4f26a70e578793c8ea118bb1e22886801c2e82376a314a97", checked := Tryd.checked }
namespace Rows
def none {H : Type} : Left H := { results := [], args := [] }

/- WHAT THE LISTED PACKAGE-LEVEL VARIABLES READ AS WHEN THE CALL BEGINS. Each datum BY PROGRAM (the guide's laid-datum.mjs) off the statement by which the dump's own 'gosem.cut.vars' lays the variable. In a bare row this is a premise. The card (YtfmpbbeacpdalaaDoorCards.lean) ties it to the program's text. -/
def laid_clerestory_crc_nibbles {H : Type} : DataW H := .agg [.lit (.int .u32 0), .lit (.int .u32 498536548), .lit (.int .u32 997073096), .lit (.int .u32 651767980), .lit (.int .u32 1994146192), .lit (.int .u32 1802195444), .lit (.int .u32 1303535960), .lit (.int .u32 1342533948), .lit (.int .u32 3988292384), .lit (.int .u32 4027552580), .lit (.int .u32 3604390888), .lit (.int .u32 3412177804), .lit (.int .u32 2607071920), .lit (.int .u32 2262029012), .lit (.int .u32 2685067896), .lit (.int .u32 3183342108)]

/-- 'clerestorylaw18.HeadPuts': WHATEVER THE INPUT: true; the input reads as it did. -/
def headPutsSpec : ChangeSpec := { name := "headPuts", fn := fun _ => fun
  | [d] => { results := [.lit (.bool true)], args := [d] }
  | _ => none }
def headPutsRow : OpenClaim := { program := "ytfmpbbeacpdalaadoor", sum := "c09b406131fa91bd4f26a70e578793c8ea118bb1e22886801c2e82376a314a97", func := "clerestory/clerestorylaw18.HeadPuts", spec := "headPuts", unfollowed := true, recurses := true, named := ["clerestory/crc.nibbles"], apart := false, laid := [("clerestory/crc.nibbles", laid_clerestory_crc_nibbles)] }
def HeadPutsSaid : Prop := headPutsRow.holds Tryd.pinned (OpenSpec.ofChange headPutsSpec)

/-- ITS FALSE NEIGHBOUR: 'it returns false'. Refute it at one input. -/
def headPutsWrong : ChangeSpec := { name := "headPuts", fn := fun _ => fun
  | [d] => { results := [.lit (.bool false)], args := [d] }
  | _ => none }
def HeadPutsWrongFalsely : Prop := headPutsRow.holds Tryd.pinned (OpenSpec.ofChange headPutsWrong)

/-- 'clerestorylaw18.HeadGets': WHATEVER THE INPUT: true; the input reads as it did. -/
def headGetsSpec : ChangeSpec := { name := "headGets", fn := fun _ => fun
  | [d] => { results := [.lit (.bool true)], args := [d] }
  | _ => none }
def headGetsRow : OpenClaim := { program := "ytfmpbbeacpdalaadoor", sum := "c09b406131fa91bd4f26a70e578793c8ea118bb1e22886801c2e82376a314a97", func := "clerestory/clerestorylaw18.HeadGets", spec := "headGets", unfollowed := true, recurses := true, named := ["clerestory/crc.nibbles"], apart := false, laid := [("clerestory/crc.nibbles", laid_clerestory_crc_nibbles)] }
def HeadGetsSaid : Prop := headGetsRow.holds Tryd.pinned (OpenSpec.ofChange headGetsSpec)

/-- ITS FALSE NEIGHBOUR: 'it returns false'. Refute it at one input. -/
def headGetsWrong : ChangeSpec := { name := "headGets", fn := fun _ => fun
  | [d] => { results := [.lit (.bool false)], args := [d] }
  | _ => none }
def HeadGetsWrongFalsely : Prop := headGetsRow.holds Tryd.pinned (OpenSpec.ofChange headGetsWrong)

/-- 'clerestorylaw18.HeadSealed': WHATEVER THE INPUT: true; the input reads as it did. -/
def headSealedSpec : ChangeSpec := { name := "headSealed", fn := fun _ => fun
  | [d] => { results := [.lit (.bool true)], args := [d] }
  | _ => none }
def headSealedRow : OpenClaim := { program := "ytfmpbbeacpdalaadoor", sum := "c09b406131fa91bd4f26a70e578793c8ea118bb1e22886801c2e82376a314a97", func := "clerestory/clerestorylaw18.HeadSealed", spec := "headSealed", unfollowed := true, recurses := true, named := ["clerestory/crc.nibbles"], apart := false, laid := [("clerestory/crc.nibbles", laid_clerestory_crc_nibbles)] }
def HeadSealedSaid : Prop := headSealedRow.holds Tryd.pinned (OpenSpec.ofChange headSealedSpec)

/-- ITS FALSE NEIGHBOUR: 'it returns false'. Refute it at one input. -/
def headSealedWrong : ChangeSpec := { name := "headSealed", fn := fun _ => fun
  | [d] => { results := [.lit (.bool false)], args := [d] }
  | _ => none }
def HeadSealedWrongFalsely : Prop := headSealedRow.holds Tryd.pinned (OpenSpec.ofChange headSealedWrong)

/-- 'clerestorylaw18.HeadBack': WHATEVER THE INPUT: true; the input reads as it did. -/
def headBackSpec : ChangeSpec := { name := "headBack", fn := fun _ => fun
  | [d1, d2, d3] => { results := [.lit (.bool true)], args := [d1, d2, d3] }
  | _ => none }
def headBackRow : OpenClaim := { program := "ytfmpbbeacpdalaadoor", sum := "c09b406131fa91bd4f26a70e578793c8ea118bb1e22886801c2e82376a314a97", func := "clerestory/clerestorylaw18.HeadBack", spec := "headBack", unfollowed := true, recurses := true, named := ["clerestory/crc.nibbles"], apart := false, laid := [("clerestory/crc.nibbles", laid_clerestory_crc_nibbles)] }
def HeadBackSaid : Prop := headBackRow.holds Tryd.pinned (OpenSpec.ofChange headBackSpec)

/-- ITS FALSE NEIGHBOUR: 'it returns false'. Refute it at one input. -/
def headBackWrong : ChangeSpec := { name := "headBack", fn := fun _ => fun
  | [d1, d2, d3] => { results := [.lit (.bool false)], args := [d1, d2, d3] }
  | _ => none }
def HeadBackWrongFalsely : Prop := headBackRow.holds Tryd.pinned (OpenSpec.ofChange headBackWrong)

/-- 'clerestorylaw18.HeadApart': WHATEVER THE INPUT: true; the input reads as it did. -/
def headApartSpec : ChangeSpec := { name := "headApart", fn := fun _ => fun
  | [d1, d2] => { results := [.lit (.bool true)], args := [d1, d2] }
  | _ => none }
def headApartRow : OpenClaim := { program := "ytfmpbbeacpdalaadoor", sum := "c09b406131fa91bd4f26a70e578793c8ea118bb1e22886801c2e82376a314a97", func := "clerestory/clerestorylaw18.HeadApart", spec := "headApart", unfollowed := true, recurses := true, named := ["clerestory/crc.nibbles"], apart := false, laid := [("clerestory/crc.nibbles", laid_clerestory_crc_nibbles)] }
def HeadApartSaid : Prop := headApartRow.holds Tryd.pinned (OpenSpec.ofChange headApartSpec)

/-- ITS FALSE NEIGHBOUR: 'it returns false'. Refute it at one input. -/
def headApartWrong : ChangeSpec := { name := "headApart", fn := fun _ => fun
  | [d1, d2] => { results := [.lit (.bool false)], args := [d1, d2] }
  | _ => none }
def HeadApartWrongFalsely : Prop := headApartRow.holds Tryd.pinned (OpenSpec.ofChange headApartWrong)

/-- 'clerestorylaw18.HeadFiles': WHATEVER THE INPUT: true; the input reads as it did. -/
def headFilesSpec : ChangeSpec := { name := "headFiles", fn := fun _ => fun
  | [d] => { results := [.lit (.bool true)], args := [d] }
  | _ => none }
def headFilesRow : OpenClaim := { program := "ytfmpbbeacpdalaadoor", sum := "c09b406131fa91bd4f26a70e578793c8ea118bb1e22886801c2e82376a314a97", func := "clerestory/clerestorylaw18.HeadFiles", spec := "headFiles", unfollowed := true, recurses := true, named := ["clerestory/crc.nibbles"], apart := false, laid := [("clerestory/crc.nibbles", laid_clerestory_crc_nibbles)] }
def HeadFilesSaid : Prop := headFilesRow.holds Tryd.pinned (OpenSpec.ofChange headFilesSpec)

/-- ITS FALSE NEIGHBOUR: 'it returns false'. Refute it at one input. -/
def headFilesWrong : ChangeSpec := { name := "headFiles", fn := fun _ => fun
  | [d] => { results := [.lit (.bool false)], args := [d] }
  | _ => none }
def HeadFilesWrongFalsely : Prop := headFilesRow.holds Tryd.pinned (OpenSpec.ofChange headFilesWrong)

/-- 'clerestorylaw18.HeadNexts': WHATEVER THE INPUT: true; the input reads as it did. -/
def headNextsSpec : ChangeSpec := { name := "headNexts", fn := fun _ => fun
  | [d1, d2, d3] => { results := [.lit (.bool true)], args := [d1, d2, d3] }
  | _ => none }
def headNextsRow : OpenClaim := { program := "ytfmpbbeacpdalaadoor", sum := "c09b406131fa91bd4f26a70e578793c8ea118bb1e22886801c2e82376a314a97", func := "clerestory/clerestorylaw18.HeadNexts", spec := "headNexts", unfollowed := true, recurses := true, named := ["clerestory/crc.nibbles"], apart := false, laid := [("clerestory/crc.nibbles", laid_clerestory_crc_nibbles)] }
def HeadNextsSaid : Prop := headNextsRow.holds Tryd.pinned (OpenSpec.ofChange headNextsSpec)

/-- ITS FALSE NEIGHBOUR: 'it returns false'. Refute it at one input. -/
def headNextsWrong : ChangeSpec := { name := "headNexts", fn := fun _ => fun
  | [d1, d2, d3] => { results := [.lit (.bool false)], args := [d1, d2, d3] }
  | _ => none }
def HeadNextsWrongFalsely : Prop := headNextsRow.holds Tryd.pinned (OpenSpec.ofChange headNextsWrong)

/-- 'clerestorylaw18.HeadNewer': WHATEVER THE INPUT: true; the input reads as it did. -/
def headNewerSpec : ChangeSpec := { name := "headNewer", fn := fun _ => fun
  | [d1, d2, d3] => { results := [.lit (.bool true)], args := [d1, d2, d3] }
  | _ => none }
def headNewerRow : OpenClaim := { program := "ytfmpbbeacpdalaadoor", sum := "c09b406131fa91bd4f26a70e578793c8ea118bb1e22886801c2e82376a314a97", func := "clerestory/clerestorylaw18.HeadNewer", spec := "headNewer", unfollowed := true, recurses := true, named := ["clerestory/crc.nibbles"], apart := false, laid := [("clerestory/crc.nibbles", laid_clerestory_crc_nibbles)] }
def HeadNewerSaid : Prop := headNewerRow.holds Tryd.pinned (OpenSpec.ofChange headNewerSpec)

/-- ITS FALSE NEIGHBOUR: 'it returns false'. Refute it at one input. -/
def headNewerWrong : ChangeSpec := { name := "headNewer", fn := fun _ => fun
  | [d1, d2, d3] => { results := [.lit (.bool false)], args := [d1, d2, d3] }
  | _ => none }
def HeadNewerWrongFalsely : Prop := headNewerRow.holds Tryd.pinned (OpenSpec.ofChange headNewerWrong)

/- THE SECOND FORM. 'bulk': how many values and letters a reading holds, each counted each time it is reached (what is shared counts as often as it is met; a slice's spare places count too). A statement '..UptoSaid' is the law's where the arguments, and the package variables that the reading takes, are together of bulk at most 1048576: NARROWER than '..Said'. Prove '..Said' where nothing that the law and all that it calls make is longer than what came in: it says more and counts as full. Else prove '..UptoSaid'. A law counts once. -/
mutual
def uptoBulk {H : Type} : DataW H → Nat
  | .lit (.string bytes) => bytes.length + 1
  | .lit _ => 1
  | .nil => 1
  | .ptr d => uptoBulk d + 1
  | .slice elems spare => uptoBulkAll elems + uptoBulkAll spare + 1
  | .agg parts => uptoBulkAll parts + 1
  | .iface _ d => uptoBulk d + 1
  | .map entries => uptoBulkEntries entries + 1
  | .held _ => 1
def uptoBulkAll {H : Type} : List (DataW H) → Nat
  | [] => 0
  | d :: r => uptoBulk d + uptoBulkAll r
def uptoBulkEntries {H : Type} : List (Lit × DataW H) → Nat
  | [] => 0
  | x :: r => uptoBulkEntry x + uptoBulkEntries r
def uptoBulkEntry {H : Type} : Lit × DataW H → Nat
  | (.string bytes, d) => bytes.length + uptoBulk d + 1
  | (_, d) => uptoBulk d + 1
 end
def uptoSmall : (H : Type) → List (DataW H) → Bool := fun _ ds => decide (uptoBulkAll ds ≤ 1048576)
def OpenSpec.upto (s : _root_.Go.ChangeSpec) : _root_.Go.OpenSpec := { _root_.Go.OpenSpec.ofChange s with cond := some uptoSmall }

/-- 'clerestorylaw18.HeadPuts', WHERE WHAT IT READS IS OF BULK AT MOST 1048576: true; the input reads as it did. -/
def headPutsUptoRow : OpenClaim := { program := "ytfmpbbeacpdalaadoor", sum := "c09b406131fa91bd4f26a70e578793c8ea118bb1e22886801c2e82376a314a97", func := "clerestory/clerestorylaw18.HeadPuts", spec := "headPuts", unfollowed := true, recurses := true, named := ["clerestory/crc.nibbles"], apart := false, laid := [("clerestory/crc.nibbles", laid_clerestory_crc_nibbles)], narrowed := true }
def HeadPutsUptoSaid : Prop := headPutsUptoRow.holds Tryd.pinned (OpenSpec.upto headPutsSpec)

/-- 'clerestorylaw18.HeadGets', WHERE WHAT IT READS IS OF BULK AT MOST 1048576: true; the input reads as it did. -/
def headGetsUptoRow : OpenClaim := { program := "ytfmpbbeacpdalaadoor", sum := "c09b406131fa91bd4f26a70e578793c8ea118bb1e22886801c2e82376a314a97", func := "clerestory/clerestorylaw18.HeadGets", spec := "headGets", unfollowed := true, recurses := true, named := ["clerestory/crc.nibbles"], apart := false, laid := [("clerestory/crc.nibbles", laid_clerestory_crc_nibbles)], narrowed := true }
def HeadGetsUptoSaid : Prop := headGetsUptoRow.holds Tryd.pinned (OpenSpec.upto headGetsSpec)

/-- 'clerestorylaw18.HeadSealed', WHERE WHAT IT READS IS OF BULK AT MOST 1048576: true; the input reads as it did. -/
def headSealedUptoRow : OpenClaim := { program := "ytfmpbbeacpdalaadoor", sum := "c09b406131fa91bd4f26a70e578793c8ea118bb1e22886801c2e82376a314a97", func := "clerestory/clerestorylaw18.HeadSealed", spec := "headSealed", unfollowed := true, recurses := true, named := ["clerestory/crc.nibbles"], apart := false, laid := [("clerestory/crc.nibbles", laid_clerestory_crc_nibbles)], narrowed := true }
def HeadSealedUptoSaid : Prop := headSealedUptoRow.holds Tryd.pinned (OpenSpec.upto headSealedSpec)

/-- 'clerestorylaw18.HeadBack', WHERE WHAT IT READS IS OF BULK AT MOST 1048576: true; the input reads as it did. -/
def headBackUptoRow : OpenClaim := { program := "ytfmpbbeacpdalaadoor", sum := "c09b406131fa91bd4f26a70e578793c8ea118bb1e22886801c2e82376a314a97", func := "clerestory/clerestorylaw18.HeadBack", spec := "headBack", unfollowed := true, recurses := true, named := ["clerestory/crc.nibbles"], apart := false, laid := [("clerestory/crc.nibbles", laid_clerestory_crc_nibbles)], narrowed := true }
def HeadBackUptoSaid : Prop := headBackUptoRow.holds Tryd.pinned (OpenSpec.upto headBackSpec)

/-- 'clerestorylaw18.HeadApart', WHERE WHAT IT READS IS OF BULK AT MOST 1048576: true; the input reads as it did. -/
def headApartUptoRow : OpenClaim := { program := "ytfmpbbeacpdalaadoor", sum := "c09b406131fa91bd4f26a70e578793c8ea118bb1e22886801c2e82376a314a97", func := "clerestory/clerestorylaw18.HeadApart", spec := "headApart", unfollowed := true, recurses := true, named := ["clerestory/crc.nibbles"], apart := false, laid := [("clerestory/crc.nibbles", laid_clerestory_crc_nibbles)], narrowed := true }
def HeadApartUptoSaid : Prop := headApartUptoRow.holds Tryd.pinned (OpenSpec.upto headApartSpec)

/-- 'clerestorylaw18.HeadFiles', WHERE WHAT IT READS IS OF BULK AT MOST 1048576: true; the input reads as it did. -/
def headFilesUptoRow : OpenClaim := { program := "ytfmpbbeacpdalaadoor", sum := "c09b406131fa91bd4f26a70e578793c8ea118bb1e22886801c2e82376a314a97", func := "clerestory/clerestorylaw18.HeadFiles", spec := "headFiles", unfollowed := true, recurses := true, named := ["clerestory/crc.nibbles"], apart := false, laid := [("clerestory/crc.nibbles", laid_clerestory_crc_nibbles)], narrowed := true }
def HeadFilesUptoSaid : Prop := headFilesUptoRow.holds Tryd.pinned (OpenSpec.upto headFilesSpec)

/-- 'clerestorylaw18.HeadNexts', WHERE WHAT IT READS IS OF BULK AT MOST 1048576: true; the input reads as it did. -/
def headNextsUptoRow : OpenClaim := { program := "ytfmpbbeacpdalaadoor", sum := "c09b406131fa91bd4f26a70e578793c8ea118bb1e22886801c2e82376a314a97", func := "clerestory/clerestorylaw18.HeadNexts", spec := "headNexts", unfollowed := true, recurses := true, named := ["clerestory/crc.nibbles"], apart := false, laid := [("clerestory/crc.nibbles", laid_clerestory_crc_nibbles)], narrowed := true }
def HeadNextsUptoSaid : Prop := headNextsUptoRow.holds Tryd.pinned (OpenSpec.upto headNextsSpec)

/-- 'clerestorylaw18.HeadNewer', WHERE WHAT IT READS IS OF BULK AT MOST 1048576: true; the input reads as it did. -/
def headNewerUptoRow : OpenClaim := { program := "ytfmpbbeacpdalaadoor", sum := "c09b406131fa91bd4f26a70e578793c8ea118bb1e22886801c2e82376a314a97", func := "clerestory/clerestorylaw18.HeadNewer", spec := "headNewer", unfollowed := true, recurses := true, named := ["clerestory/crc.nibbles"], apart := false, laid := [("clerestory/crc.nibbles", laid_clerestory_crc_nibbles)], narrowed := true }
def HeadNewerUptoSaid : Prop := headNewerUptoRow.holds Tryd.pinned (OpenSpec.upto headNewerSpec)

end Rows
end Go.Proofs.YtfmpbbeacpdalaaDoor
