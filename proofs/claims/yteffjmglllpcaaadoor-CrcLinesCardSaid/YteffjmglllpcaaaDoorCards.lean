/-
  DERIVED. GIVEN WITH THE SEED: THE CARDS: each row of YteffjmglllpcaaaDoorRows.lean that lists a variable, with what it lists TIED to the program's text (the seventh form; the later family's looks); each row that meets fmt, with fmt's text TOLD by the authors' own Lean function (tested against real Go, not proved from fmt's source: count such statements apart). THE CARD IS WHAT COUNTS. Prove the row's statement (the work); the ties are given (YteffjmglllpcaaaDoorTie.lean); close each card by the builder's one call (the guide's Derived/Test/ToyasCard.lean, 'card_holds'). Laid BY PROGRAM, IN A SANDBOX (cutbox-door.mjs). By AI agents, Wed Nov 11 2026. No macro, syntax, notation, axiom, sorry.
-/
import Derived.Test.YteffjmglllpcaaaDoorRows
import GoSem.ClaimSeven
namespace Go.Proofs.YteffjmglllpcaaaDoor
namespace Rows

/-- THE TIED CARD OF 'clerestorylaw02.CrcSums'. -/
def crcSumsCard : Claim7 := { stood := { row := crcSumsRow, standIns := [], harness := (true, "8b971f7e3dbfd65762dda57aa31540a1dc4e288b595e4ba3b532d23a2996fb18"), looks := false }, kinds := [], alts := [], laidByText := true, laidKinds := [.data], laidTests := true, laidLooks := .later }
def CrcSumsCardSaid : Prop := Claim7.holds Tryd.pinned (.plain (OpenSpec.ofChange crcSumsSpec)) crcSumsCard

/-- THE TIED CARD OF 'clerestorylaw02.CrcSeals'. -/
def crcSealsCard : Claim7 := { stood := { row := crcSealsRow, standIns := [], harness := (true, "8b971f7e3dbfd65762dda57aa31540a1dc4e288b595e4ba3b532d23a2996fb18"), looks := false }, kinds := [], alts := [], laidByText := true, laidKinds := [.data], laidTests := true, laidLooks := .later }
def CrcSealsCardSaid : Prop := Claim7.holds Tryd.pinned (.plain (OpenSpec.ofChange crcSealsSpec)) crcSealsCard

/-- THE TIED CARD OF 'clerestorylaw02.CrcTells'. -/
def crcTellsCard : Claim7 := { stood := { row := crcTellsRow, standIns := [], harness := (true, "8b971f7e3dbfd65762dda57aa31540a1dc4e288b595e4ba3b532d23a2996fb18"), looks := false }, kinds := [], alts := [], laidByText := true, laidKinds := [.data], laidTests := true, laidLooks := .later }
def CrcTellsCardSaid : Prop := Claim7.holds Tryd.pinned (.plain (OpenSpec.ofChange crcTellsSpec)) crcTellsCard

/-- THE TIED CARD OF 'clerestorylaw02.CrcBack'. -/
def crcBackCard : Claim7 := { stood := { row := crcBackRow, standIns := [], harness := (true, "8b971f7e3dbfd65762dda57aa31540a1dc4e288b595e4ba3b532d23a2996fb18"), looks := false }, kinds := [], alts := [], laidByText := true, laidKinds := [.data], laidTests := true, laidLooks := .later }
def CrcBackCardSaid : Prop := Claim7.holds Tryd.pinned (.plain (OpenSpec.ofChange crcBackSpec)) crcBackCard

/-- THE TIED CARD OF 'clerestorylaw02.CrcParts'. -/
def crcPartsCard : Claim7 := { stood := { row := crcPartsRow, standIns := [], harness := (true, "8b971f7e3dbfd65762dda57aa31540a1dc4e288b595e4ba3b532d23a2996fb18"), looks := false }, kinds := [], alts := [], laidByText := true, laidKinds := [.data], laidTests := true, laidLooks := .later }
def CrcPartsCardSaid : Prop := Claim7.holds Tryd.pinned (.plain (OpenSpec.ofChange crcPartsSpec)) crcPartsCard

/-- THE TIED CARD OF 'clerestorylaw02.CrcLines'. -/
def crcLinesCard : Claim7 := { stood := { row := crcLinesRow, standIns := [], harness := (true, "8b971f7e3dbfd65762dda57aa31540a1dc4e288b595e4ba3b532d23a2996fb18"), looks := false }, kinds := [], alts := [], laidByText := true, laidKinds := [.data], laidTests := true, laidLooks := .later }
def CrcLinesCardSaid : Prop := Claim7.holds Tryd.pinned (.plain (OpenSpec.ofChange crcLinesSpec)) crcLinesCard

/-- THE SECOND FORM's CARD OF 'clerestorylaw02.CrcSums'. -/
def crcSumsUptoCard : Claim7 := { stood := { row := crcSumsUptoRow, standIns := [], harness := (true, "8b971f7e3dbfd65762dda57aa31540a1dc4e288b595e4ba3b532d23a2996fb18"), looks := false }, kinds := [], alts := [], laidByText := true, laidKinds := [.data], laidTests := true, laidLooks := .later }
def CrcSumsUptoCardSaid : Prop := Claim7.holds Tryd.pinned (.plain (OpenSpec.upto crcSumsSpec)) crcSumsUptoCard

/-- THE SECOND FORM's CARD OF 'clerestorylaw02.CrcSeals'. -/
def crcSealsUptoCard : Claim7 := { stood := { row := crcSealsUptoRow, standIns := [], harness := (true, "8b971f7e3dbfd65762dda57aa31540a1dc4e288b595e4ba3b532d23a2996fb18"), looks := false }, kinds := [], alts := [], laidByText := true, laidKinds := [.data], laidTests := true, laidLooks := .later }
def CrcSealsUptoCardSaid : Prop := Claim7.holds Tryd.pinned (.plain (OpenSpec.upto crcSealsSpec)) crcSealsUptoCard

/-- THE SECOND FORM's CARD OF 'clerestorylaw02.CrcTells'. -/
def crcTellsUptoCard : Claim7 := { stood := { row := crcTellsUptoRow, standIns := [], harness := (true, "8b971f7e3dbfd65762dda57aa31540a1dc4e288b595e4ba3b532d23a2996fb18"), looks := false }, kinds := [], alts := [], laidByText := true, laidKinds := [.data], laidTests := true, laidLooks := .later }
def CrcTellsUptoCardSaid : Prop := Claim7.holds Tryd.pinned (.plain (OpenSpec.upto crcTellsSpec)) crcTellsUptoCard

/-- THE SECOND FORM's CARD OF 'clerestorylaw02.CrcBack'. -/
def crcBackUptoCard : Claim7 := { stood := { row := crcBackUptoRow, standIns := [], harness := (true, "8b971f7e3dbfd65762dda57aa31540a1dc4e288b595e4ba3b532d23a2996fb18"), looks := false }, kinds := [], alts := [], laidByText := true, laidKinds := [.data], laidTests := true, laidLooks := .later }
def CrcBackUptoCardSaid : Prop := Claim7.holds Tryd.pinned (.plain (OpenSpec.upto crcBackSpec)) crcBackUptoCard

/-- THE SECOND FORM's CARD OF 'clerestorylaw02.CrcParts'. -/
def crcPartsUptoCard : Claim7 := { stood := { row := crcPartsUptoRow, standIns := [], harness := (true, "8b971f7e3dbfd65762dda57aa31540a1dc4e288b595e4ba3b532d23a2996fb18"), looks := false }, kinds := [], alts := [], laidByText := true, laidKinds := [.data], laidTests := true, laidLooks := .later }
def CrcPartsUptoCardSaid : Prop := Claim7.holds Tryd.pinned (.plain (OpenSpec.upto crcPartsSpec)) crcPartsUptoCard

/-- THE SECOND FORM's CARD OF 'clerestorylaw02.CrcLines'. -/
def crcLinesUptoCard : Claim7 := { stood := { row := crcLinesUptoRow, standIns := [], harness := (true, "8b971f7e3dbfd65762dda57aa31540a1dc4e288b595e4ba3b532d23a2996fb18"), looks := false }, kinds := [], alts := [], laidByText := true, laidKinds := [.data], laidTests := true, laidLooks := .later }
def CrcLinesUptoCardSaid : Prop := Claim7.holds Tryd.pinned (.plain (OpenSpec.upto crcLinesSpec)) crcLinesUptoCard
end Rows
end Go.Proofs.YteffjmglllpcaaaDoor
