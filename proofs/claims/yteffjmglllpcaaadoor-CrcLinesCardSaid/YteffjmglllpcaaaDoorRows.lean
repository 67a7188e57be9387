/-
  NARROWER THAN 'FOR EVERY INPUT', by the rows' own cells (each row's printed sentence says how): CrcSums: laid · CrcSeals: laid · CrcTells: laid · CrcBack: laid · CrcParts: laid · CrcLines: laid.
  DERIVED. THE GIVEN ROWS OF THIS SEAT. 6 by the template 'for every input the law returns true; each argument reads behind the call as it read before'; 0 by the template 'total and deterministic' (their statements: YteffjmglllpcaaaDoorTotals.lean).
  GIVEN WITH THE SEED: the statements are not yours to turn. If you find one false, say at which input.
  Laid BY PROGRAM, IN A SANDBOX (cutbox-rows.mjs): the forced cells as the released guide's own fill.sh prints them over the translation f9c9ebf768053441… (all of the seat's roots in one cut). By AI agents, Wed Nov 11 2026. No macro, syntax, notation, axiom, sorry.
-/
import Derived.Test.YteffjmglllpcaaaDoorChecked
import GoSem.Claim
import GoSem.ClaimJoined
import GoSem.ClaimMapViews
import Derived.JoinedTies
import Derived.KernelRfl
namespace Go.Proofs.YteffjmglllpcaaaDoor
/- THE CELL 'sum', in the pinned program and in every row, IS THE sha256 OF THE DUMP (.gsa) THAT YteffjmglllpcaaaDoorProg.lean LOADS. Nothing in Lean hashes anything: it is a label: what it is worth is what the hold of that sum in a sandbox is worth. -/
noncomputable def Tryd.pinned : Pinned := { name := "yteffjmglllpcaaadoor", sum := "f9c9ebf76805344155a8f132ee6dd03b0e4e043bf0f7300b7167a752be0a682d", checked := Tryd.checked }
namespace Rows
def none {H : Type} : Left H := { results := [], args := [] }

/- WHAT THE LISTED PACKAGE-LEVEL VARIABLES READ AS WHEN THE CALL BEGINS. Each datum BY PROGRAM (the guide's laid-datum.mjs) off the statement by which the dump's own 'gosem.cut.vars' lays the variable. In a bare row this is a premise. The card (YteffjmglllpcaaaDoorCards.lean) ties it to the program's text. -/
def laid_clerestory_crc_nibbles {H : Type} : DataW H := .agg [.lit (.int .u32 0), .lit (.int .u32 498536548), .lit (.int .u32 997073096), .lit (.int .u32 651767980), .lit (.int .u32 1994146192), .lit (.int .u32 1802195444), .lit (.int .u32 1303535960), .lit (.int .u32 1342533948), .lit (.int .u32 3988292384), .lit (.int .u32 4027552580), .lit (.int .u32 3604390888), .lit (.int .u32 3412177804), .lit (.int .u32 2607071920), .lit (.int .u32 2262029012), .lit (.int .u32 2685067896), .lit (.int .u32 3183342108)]

/-- 'clerestorylaw02.CrcSums': WHATEVER THE INPUT: true; the input reads as it did. -/
def crcSumsSpec : ChangeSpec := { name := "crcSums", fn := fun _ => fun
  | [d1, d2] => { results := [.lit (.bool true)], args := [d1, d2] }
  | _ => none }
def crcSumsRow : OpenClaim := { program := "yteffjmglllpcaaadoor", sum := "f9c9ebf76805344155a8f132ee6dd03b0e4e043bf0f7300b7167a752be0a682d", func := "clerestory/clerestorylaw02.CrcSums", spec := "crcSums", named := ["clerestory/crc.nibbles"], apart := false, laid := [("clerestory/crc.nibbles", laid_clerestory_crc_nibbles)] }
def CrcSumsSaid : Prop := crcSumsRow.holds Tryd.pinned (OpenSpec.ofChange crcSumsSpec)

/-- ITS FALSE NEIGHBOUR: 'it returns false'. Refute it at one input. -/
def crcSumsWrong : ChangeSpec := { name := "crcSums", fn := fun _ => fun
  | [d1, d2] => { results := [.lit (.bool false)], args := [d1, d2] }
  | _ => none }
def CrcSumsWrongFalsely : Prop := crcSumsRow.holds Tryd.pinned (OpenSpec.ofChange crcSumsWrong)

/-- 'clerestorylaw02.CrcSeals': WHATEVER THE INPUT: true; the input reads as it did. -/
def crcSealsSpec : ChangeSpec := { name := "crcSeals", fn := fun _ => fun
  | [d] => { results := [.lit (.bool true)], args := [d] }
  | _ => none }
def crcSealsRow : OpenClaim := { program := "yteffjmglllpcaaadoor", sum := "f9c9ebf76805344155a8f132ee6dd03b0e4e043bf0f7300b7167a752be0a682d", func := "clerestory/clerestorylaw02.CrcSeals", spec := "crcSeals", named := ["clerestory/crc.nibbles"], apart := false, laid := [("clerestory/crc.nibbles", laid_clerestory_crc_nibbles)] }
def CrcSealsSaid : Prop := crcSealsRow.holds Tryd.pinned (OpenSpec.ofChange crcSealsSpec)

/-- ITS FALSE NEIGHBOUR: 'it returns false'. Refute it at one input. -/
def crcSealsWrong : ChangeSpec := { name := "crcSeals", fn := fun _ => fun
  | [d] => { results := [.lit (.bool false)], args := [d] }
  | _ => none }
def CrcSealsWrongFalsely : Prop := crcSealsRow.holds Tryd.pinned (OpenSpec.ofChange crcSealsWrong)

/-- 'clerestorylaw02.CrcTells': WHATEVER THE INPUT: true; the input reads as it did. -/
def crcTellsSpec : ChangeSpec := { name := "crcTells", fn := fun _ => fun
  | [d1, d2, d3] => { results := [.lit (.bool true)], args := [d1, d2, d3] }
  | _ => none }
def crcTellsRow : OpenClaim := { program := "yteffjmglllpcaaadoor", sum := "f9c9ebf76805344155a8f132ee6dd03b0e4e043bf0f7300b7167a752be0a682d", func := "clerestory/clerestorylaw02.CrcTells", spec := "crcTells", named := ["clerestory/crc.nibbles"], apart := false, laid := [("clerestory/crc.nibbles", laid_clerestory_crc_nibbles)] }
def CrcTellsSaid : Prop := crcTellsRow.holds Tryd.pinned (OpenSpec.ofChange crcTellsSpec)

/-- ITS FALSE NEIGHBOUR: 'it returns false'. Refute it at one input. -/
def crcTellsWrong : ChangeSpec := { name := "crcTells", fn := fun _ => fun
  | [d1, d2, d3] => { results := [.lit (.bool false)], args := [d1, d2, d3] }
  | _ => none }
def CrcTellsWrongFalsely : Prop := crcTellsRow.holds Tryd.pinned (OpenSpec.ofChange crcTellsWrong)

/-- 'clerestorylaw02.CrcBack': WHATEVER THE INPUT: true; the input reads as it did. -/
def crcBackSpec : ChangeSpec := { name := "crcBack", fn := fun _ => fun
  | [d1, d2, d3] => { results := [.lit (.bool true)], args := [d1, d2, d3] }
  | _ => none }
def crcBackRow : OpenClaim := { program := "yteffjmglllpcaaadoor", sum := "f9c9ebf76805344155a8f132ee6dd03b0e4e043bf0f7300b7167a752be0a682d", func := "clerestory/clerestorylaw02.CrcBack", spec := "crcBack", named := ["clerestory/crc.nibbles"], apart := false, laid := [("clerestory/crc.nibbles", laid_clerestory_crc_nibbles)] }
def CrcBackSaid : Prop := crcBackRow.holds Tryd.pinned (OpenSpec.ofChange crcBackSpec)

/-- ITS FALSE NEIGHBOUR: 'it returns false'. Refute it at one input. -/
def crcBackWrong : ChangeSpec := { name := "crcBack", fn := fun _ => fun
  | [d1, d2, d3] => { results := [.lit (.bool false)], args := [d1, d2, d3] }
  | _ => none }
def CrcBackWrongFalsely : Prop := crcBackRow.holds Tryd.pinned (OpenSpec.ofChange crcBackWrong)

/-- 'clerestorylaw02.CrcParts': WHATEVER THE INPUT: true; the input reads as it did. -/
def crcPartsSpec : ChangeSpec := { name := "crcParts", fn := fun _ => fun
  | [d1, d2, d3] => { results := [.lit (.bool true)], args := [d1, d2, d3] }
  | _ => none }
def crcPartsRow : OpenClaim := { program := "yteffjmglllpcaaadoor", sum := "f9c9ebf76805344155a8f132ee6dd03b0e4e043bf0f7300b7167a752be0a682d", func := "clerestory/clerestorylaw02.CrcParts", spec := "crcParts", named := ["clerestory/crc.nibbles"], apart := false, laid := [("clerestory/crc.nibbles", laid_clerestory_crc_nibbles)] }
def CrcPartsSaid : Prop := crcPartsRow.holds Tryd.pinned (OpenSpec.ofChange crcPartsSpec)

/-- ITS FALSE NEIGHBOUR: 'it returns false'. Refute it at one input. -/
def crcPartsWrong : ChangeSpec := { name := "crcParts", fn := fun _ => fun
  | [d1, d2, d3] => { results := [.lit (.bool false)], args := [d1, d2, d3] }
  | _ => none }
def CrcPartsWrongFalsely : Prop := crcPartsRow.holds Tryd.pinned (OpenSpec.ofChange crcPartsWrong)

/-- 'clerestorylaw02.CrcLines': WHATEVER THE INPUT: true; the input reads as it did. -/
def crcLinesSpec : ChangeSpec := { name := "crcLines", fn := fun _ => fun
  | [d1, d2, d3] => { results := [.lit (.bool true)], args := [d1, d2, d3] }
  | _ => none }
def crcLinesRow : OpenClaim := { program := "yteffjmglllpcaaadoor", sum := "f9c9ebf76805344155a8f132ee6dd03b0e4e043bf0f7300b7167a752be0a682d", func := "clerestory/clerestorylaw02.CrcLines", spec := "crcLines", named := ["clerestory/crc.nibbles"], apart := false, laid := [("clerestory/crc.nibbles", laid_clerestory_crc_nibbles)] }
def CrcLinesSaid : Prop := crcLinesRow.holds Tryd.pinned (OpenSpec.ofChange crcLinesSpec)

/-- ITS FALSE NEIGHBOUR: 'it returns false'. Refute it at one input. -/
def crcLinesWrong : ChangeSpec := { name := "crcLines", fn := fun _ => fun
  | [d1, d2, d3] => { results := [.lit (.bool false)], args := [d1, d2, d3] }
  | _ => none }
def CrcLinesWrongFalsely : Prop := crcLinesRow.holds Tryd.pinned (OpenSpec.ofChange crcLinesWrong)

/- THE SECOND FORM. 'bulk': how many values and letters a reading holds, each counted each time it is reached (what is shared counts as often as it is met; a slice's spare places count too). A statement '..UptoSaid' is the law's where the arguments, and the package variables that the reading takes, are together of bulk at most 1048576: NARROWER than '..Said'. Prove '..Said' where nothing that the law and all that it calls make is longer than what came in: it says more and counts as full. Else prove '..UptoSaid'. A law counts once. -/
mutual
def uptoBulk {H : Type} : DataW H → Nat
  | .lit (.string bytes) => bytes.length + 1
  | .lit _ => 1
  | .nil => 1
  | .ptr d => uptoBulk d + 1
  | .slice elems spare => uptoBulkAll elems + uptoBulkAll spare + 1
  | .agg parts => uptoBulkAll parts + 1
  | .iface _ d => uptoBulk d + 1
  | .map entries => uptoBulkEntries entries + 1
  | .held _ => 1
def uptoBulkAll {H : Type} : List (DataW H) → Nat
  | [] => 0
  | d :: r => uptoBulk d + uptoBulkAll r
def uptoBulkEntries {H : Type} : List (Lit × DataW H) → Nat
  | [] => 0
  | x :: r => uptoBulkEntry x + uptoBulkEntries r
def uptoBulkEntry {H : Type} : Lit × DataW H → Nat
  | (.string bytes, d) => bytes.length + uptoBulk d + 1
  | (_, d) => uptoBulk d + 1
 end
def uptoSmall : (H : Type) → List (DataW H) → Bool := fun _ ds => decide (uptoBulkAll ds ≤ 1048576)
def OpenSpec.upto (s : _root_.Go.ChangeSpec) : _root_.Go.OpenSpec := { _root_.Go.OpenSpec.ofChange s with cond := some uptoSmall }

/-- 'clerestorylaw02.CrcSums', WHERE WHAT IT READS IS OF BULK AT MOST 1048576: true; the input reads as it did. -/
def crcSumsUptoRow : OpenClaim := { program := "yteffjmglllpcaaadoor", sum := "f9c9ebf76805344155a8f132ee6dd03b0e4e043bf0f7300b7167a752be0a682d", func := "clerestory/clerestorylaw02.CrcSums", spec := "crcSums", named := ["clerestory/crc.nibbles"], apart := false, laid := [("clerestory/crc.nibbles", laid_clerestory_crc_nibbles)], narrowed := true }
def CrcSumsUptoSaid : Prop := crcSumsUptoRow.holds Tryd.pinned (OpenSpec.upto crcSumsSpec)

/-- 'clerestorylaw02.CrcSeals', WHERE WHAT IT READS IS OF BULK AT MOST 1048576: true; the input reads as it did. -/
def crcSealsUptoRow : OpenClaim := { program := "yteffjmglllpcaaadoor", sum := "f9c9ebf76805344155a8f132ee6dd03b0e4e043bf0f7300b7167a752be0a682d", func := "clerestory/clerestorylaw02.CrcSeals", spec := "crcSeals", named := ["clerestory/crc.nibbles"], apart := false, laid := [("clerestory/crc.nibbles", laid_clerestory_crc_nibbles)], narrowed := true }
def CrcSealsUptoSaid : Prop := crcSealsUptoRow.holds Tryd.pinned (OpenSpec.upto crcSealsSpec)

/-- 'clerestorylaw02.CrcTells', WHERE WHAT IT READS IS OF BULK AT MOST 1048576: true; the input reads as it did. -/
def crcTellsUptoRow : OpenClaim := { program := "yteffjmglllpcaaadoor", sum := "f9c9ebf76805344155a8f132ee6dd03b0e4e043bf0f7300b7167a752be0a682d", func := "clerestory/clerestorylaw02.CrcTells", spec := "crcTells", named := ["clerestory/crc.nibbles"], apart := false, laid := [("clerestory/crc.nibbles", laid_clerestory_crc_nibbles)], narrowed := true }
def CrcTellsUptoSaid : Prop := crcTellsUptoRow.holds Tryd.pinned (OpenSpec.upto crcTellsSpec)

/-- 'clerestorylaw02.CrcBack', WHERE WHAT IT READS IS OF BULK AT MOST 1048576: true; the input reads as it did. -/
def crcBackUptoRow : OpenClaim := { program := "yteffjmglllpcaaadoor", sum := "f9c9ebf76805344155a8f132ee6dd03b0e4e043bf0f7300b7167a752be0a682d", func := "clerestory/clerestorylaw02.CrcBack", spec := "crcBack", named := ["clerestory/crc.nibbles"], apart := false, laid := [("clerestory/crc.nibbles", laid_clerestory_crc_nibbles)], narrowed := true }
def CrcBackUptoSaid : Prop := crcBackUptoRow.holds Tryd.pinned (OpenSpec.upto crcBackSpec)

/-- 'clerestorylaw02.CrcParts', WHERE WHAT IT READS IS OF BULK AT MOST 1048576: true; the input reads as it did. -/
def crcPartsUptoRow : OpenClaim := { program := "yteffjmglllpcaaadoor", sum := "f9c9ebf76805344155a8f132ee6dd03b0e4e043bf0f7300b7167a752be0a682d", func := "clerestory/clerestorylaw02.CrcParts", spec := "crcParts", named := ["clerestory/crc.nibbles"], apart := false, laid := [("clerestory/crc.nibbles", laid_clerestory_crc_nibbles)], narrowed := true }
def CrcPartsUptoSaid : Prop := crcPartsUptoRow.holds Tryd.pinned (OpenSpec.upto crcPartsSpec)

/-- 'clerestorylaw02.CrcLines', WHERE WHAT IT READS IS OF BULK AT MOST 1048576: true; the input reads as it did. -/
def crcLinesUptoRow : OpenClaim := { program := "yteffjmglllpcaaadoor", sum := "f9c9ebf76805344155a8f132ee6dd03b0e4e043bf0f7300b7167a752be0a682d", func := "clerestory/clerestorylaw02.CrcLines", spec := "crcLines", named := ["clerestory/crc.nibbles"], apart := false, laid := [("clerestory/crc.nibbles", laid_clerestory_crc_nibbles)], narrowed := true }
def CrcLinesUptoSaid : Prop := crcLinesUptoRow.holds Tryd.pinned (OpenSpec.upto crcLinesSpec)

end Rows
end Go.Proofs.YteffjmglllpcaaaDoor
