/-
  DERIVED. GIVEN WITH THE SEED: THE CARDS: each row of YtfmpbbeacpdalaaDoorRows.lean that lists a variable, with what it lists TIED to the program's text (the seventh form; the later family's looks); each row that meets fmt, with fmt's text TOLD by the authors' own Lean function (tested against real Go, not proved from fmt's source: count such statements apart). THE CARD IS WHAT COUNTS. Prove the row's statement (the work); the ties are given (YtfmpbbeacpdalaaDoorTie.lean); close each card by the builder's one call (the guide's Derived/Test/ToyasCard.lean, 'card_holds'). Laid BY PROGRAM, IN A SANDBOX (cutbox-door.mjs). By AI agents, Wed Nov 11 2026. No macro, syntax, notation, axiom, sorry.
-/
import Derived.Test.YtfmpbbeacpdalaaDoorRows
import GoSem.ClaimSeven
namespace Go.Proofs.YtfmpbbeacpdalaaDoor
namespace Rows

/-- THE TIED CARD OF 'clerestorylaw18.HeadPuts'. -/
def headPutsCard : Claim7 := { stood := { row := headPutsRow, standIns := [], harness := (true, "976d2e8af796c9ec7fc0dcd3c4997d69615c4127c8959b773abc55b2f2c9d8ae"), looks := true }, kinds := [], alts := [], laidByText := true, laidKinds := [.data], laidTests := true, laidLooks := .later }
def HeadPutsCardSaid : Prop := Claim7.holds Tryd.pinned (.plain (OpenSpec.ofChange headPutsSpec)) headPutsCard

/-- THE TIED CARD OF 'clerestorylaw18.HeadGets'. -/
def headGetsCard : Claim7 := { stood := { row := headGetsRow, standIns := [], harness := (true, "976d2e8af796c9ec7fc0dcd3c4997d69615c4127c8959b773abc55b2f2c9d8ae"), looks := true }, kinds := [], alts := [], laidByText := true, laidKinds := [.data], laidTests := true, laidLooks := .later }
def HeadGetsCardSaid : Prop := Claim7.holds Tryd.pinned (.plain (OpenSpec.ofChange headGetsSpec)) headGetsCard

/-- THE TIED CARD OF 'clerestorylaw18.HeadSealed'. -/
def headSealedCard : Claim7 := { stood := { row := headSealedRow, standIns := [], harness := (true, "976d2e8af796c9ec7fc0dcd3c4997d69615c4127c8959b773abc55b2f2c9d8ae"), looks := true }, kinds := [], alts := [], laidByText := true, laidKinds := [.data], laidTests := true, laidLooks := .later }
def HeadSealedCardSaid : Prop := Claim7.holds Tryd.pinned (.plain (OpenSpec.ofChange headSealedSpec)) headSealedCard

/-- THE TIED CARD OF 'clerestorylaw18.HeadBack'. -/
def headBackCard : Claim7 := { stood := { row := headBackRow, standIns := [], harness := (true, "976d2e8af796c9ec7fc0dcd3c4997d69615c4127c8959b773abc55b2f2c9d8ae"), looks := true }, kinds := [], alts := [], laidByText := true, laidKinds := [.data], laidTests := true, laidLooks := .later }
def HeadBackCardSaid : Prop := Claim7.holds Tryd.pinned (.plain (OpenSpec.ofChange headBackSpec)) headBackCard

/-- THE TIED CARD OF 'clerestorylaw18.HeadApart'. -/
def headApartCard : Claim7 := { stood := { row := headApartRow, standIns := [], harness := (true, "976d2e8af796c9ec7fc0dcd3c4997d69615c4127c8959b773abc55b2f2c9d8ae"), looks := true }, kinds := [], alts := [], laidByText := true, laidKinds := [.data], laidTests := true, laidLooks := .later }
def HeadApartCardSaid : Prop := Claim7.holds Tryd.pinned (.plain (OpenSpec.ofChange headApartSpec)) headApartCard

/-- THE TIED CARD OF 'clerestorylaw18.HeadFiles'. -/
def headFilesCard : Claim7 := { stood := { row := headFilesRow, standIns := [], harness := (true, "976d2e8af796c9ec7fc0dcd3c4997d69615c4127c8959b773abc55b2f2c9d8ae"), looks := true }, kinds := [], alts := [], laidByText := true, laidKinds := [.data], laidTests := true, laidLooks := .later }
def HeadFilesCardSaid : Prop := Claim7.holds Tryd.pinned (.plain (OpenSpec.ofChange headFilesSpec)) headFilesCard

/-- THE TIED CARD OF 'clerestorylaw18.HeadNexts'. -/
def headNextsCard : Claim7 := { stood := { row := headNextsRow, standIns := [], harness := (true, "976d2e8af796c9ec7fc0dcd3c4997d69615c4127c8959b773abc55b2f2c9d8ae"), looks := true }, kinds := [], alts := [], laidByText := true, laidKinds := [.data], laidTests := true, laidLooks := .later }
def HeadNextsCardSaid : Prop := Claim7.holds Tryd.pinned (.plain (OpenSpec.ofChange headNextsSpec)) headNextsCard

/-- THE TIED CARD OF 'clerestorylaw18.HeadNewer'. -/
def headNewerCard : Claim7 := { stood := { row := headNewerRow, standIns := [], harness := (true, "976d2e8af796c9ec7fc0dcd3c4997d69615c4127c8959b773abc55b2f2c9d8ae"), looks := true }, kinds := [], alts := [], laidByText := true, laidKinds := [.data], laidTests := true, laidLooks := .later }
def HeadNewerCardSaid : Prop := Claim7.holds Tryd.pinned (.plain (OpenSpec.ofChange headNewerSpec)) headNewerCard

/-- THE SECOND FORM's CARD OF 'clerestorylaw18.HeadPuts'. -/
def headPutsUptoCard : Claim7 := { stood := { row := headPutsUptoRow, standIns := [], harness := (true, "976d2e8af796c9ec7fc0dcd3c4997d69615c4127c8959b773abc55b2f2c9d8ae"), looks := true }, kinds := [], alts := [], laidByText := true, laidKinds := [.data], laidTests := true, laidLooks := .later }
def HeadPutsUptoCardSaid : Prop := Claim7.holds Tryd.pinned (.plain (OpenSpec.upto headPutsSpec)) headPutsUptoCard

/-- THE SECOND FORM's CARD OF 'clerestorylaw18.HeadGets'. -/
def headGetsUptoCard : Claim7 := { stood := { row := headGetsUptoRow, standIns := [], harness := (true, "976d2e8af796c9ec7fc0dcd3c4997d69615c4127c8959b773abc55b2f2c9d8ae"), looks := true }, kinds := [], alts := [], laidByText := true, laidKinds := [.data], laidTests := true, laidLooks := .later }
def HeadGetsUptoCardSaid : Prop := Claim7.holds Tryd.pinned (.plain (OpenSpec.upto headGetsSpec)) headGetsUptoCard

/-- THE SECOND FORM's CARD OF 'clerestorylaw18.HeadSealed'. -/
def headSealedUptoCard : Claim7 := { stood := { row := headSealedUptoRow, standIns := [], harness := (true, "976d2e8af796c9ec7fc0dcd3c4997d69615c4127c8959b773abc55b2f2c9d8ae"), looks := true }, kinds := [], alts := [], laidByText := true, laidKinds := [.data], laidTests := true, laidLooks := .later }
def HeadSealedUptoCardSaid : Prop := Claim7.holds Tryd.pinned (.plain (OpenSpec.upto headSealedSpec)) headSealedUptoCard

/-- THE SECOND FORM's CARD OF 'clerestorylaw18.HeadBack'. -/
def headBackUptoCard : Claim7 := { stood := { row := headBackUptoRow, standIns := [], harness := (true, "976d2e8af796c9ec7fc0dcd3c4997d69615c4127c8959b773abc55b2f2c9d8ae"), looks := true }, kinds := [], alts := [], laidByText := true, laidKinds := [.data], laidTests := true, laidLooks := .later }
def HeadBackUptoCardSaid : Prop := Claim7.holds Tryd.pinned (.plain (OpenSpec.upto headBackSpec)) headBackUptoCard

/-- THE SECOND FORM's CARD OF 'clerestorylaw18.HeadApart'. -/
def headApartUptoCard : Claim7 := { stood := { row := headApartUptoRow, standIns := [], harness := (true, "976d2e8af796c9ec7fc0dcd3c4997d69615c4127c8959b773abc55b2f2c9d8ae"), looks := true }, kinds := [], alts := [], laidByText := true, laidKinds := [.data], laidTests := true, laidLooks := .later }
def HeadApartUptoCardSaid : Prop := Claim7.holds Tryd.pinned (.plain (OpenSpec.upto headApartSpec)) headApartUptoCard

/-- THE SECOND FORM's CARD OF 'clerestorylaw18.HeadFiles'. -/
def headFilesUptoCard : Claim7 := { stood := { row := headFilesUptoRow, standIns := [], harness := (true, "976d2e8af796c9ec7fc0dcd3c4997d69615c4127c8959b773abc55b2f2c9d8ae"), looks := true }, kinds := [], alts := [], laidByText := true, laidKinds := [.data], laidTests := true, laidLooks := .later }
def HeadFilesUptoCardSaid : Prop := Claim7.holds Tryd.pinned (.plain (OpenSpec.upto headFilesSpec)) headFilesUptoCard

/-- THE SECOND FORM's CARD OF 'clerestorylaw18.HeadNexts'. -/
def headNextsUptoCard : Claim7 := { stood := { row := headNextsUptoRow, standIns := [], harness := (true, "976d2e8af796c9ec7fc0dcd3c4997d69615c4127c8959b773abc55b2f2c9d8ae"), looks := true }, kinds := [], alts := [], laidByText := true, laidKinds := [.data], laidTests := true, laidLooks := .later }
def HeadNextsUptoCardSaid : Prop := Claim7.holds Tryd.pinned (.plain (OpenSpec.upto headNextsSpec)) headNextsUptoCard

/-- THE SECOND FORM's CARD OF 'clerestorylaw18.HeadNewer'. -/
def headNewerUptoCard : Claim7 := { stood := { row := headNewerUptoRow, standIns := [], harness := (true, "976d2e8af796c9ec7fc0dcd3c4997d69615c4127c8959b773abc55b2f2c9d8ae"), looks := true }, kinds := [], alts := [], laidByText := true, laidKinds := [.data], laidTests := true, laidLooks := .later }
def HeadNewerUptoCardSaid : Prop := Claim7.holds Tryd.pinned (.plain (OpenSpec.upto headNewerSpec)) headNewerUptoCard
end Rows
end Go.Proofs.YtfmpbbeacpdalaaDoor
