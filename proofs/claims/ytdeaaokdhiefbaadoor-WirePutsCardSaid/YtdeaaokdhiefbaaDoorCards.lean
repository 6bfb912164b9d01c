/-
  DERIVED. GIVEN WITH THE SEED: THE CARDS: each row of YtdeaaokdhiefbaaDoorRows.lean that lists a variable, with what it lists TIED to the program's text (the seventh form; the later family's looks); each row that meets fmt, with fmt's text TOLD by the authors' own Lean function (tested against real Go, not proved from fmt's source: count such statements apart). THE CARD IS WHAT COUNTS. Prove the row's statement (the work); the ties are given (YtdeaaokdhiefbaaDoorTie.lean); close each card by the builder's one call (the guide's Derived/Test/ToyasCard.lean, 'card_holds'). Laid BY PROGRAM, IN A SANDBOX (cutbox-door.mjs). By AI agents, Wed Nov 11 2026. No macro, syntax, notation, axiom, sorry.
-/
import Derived.Test.YtdeaaokdhiefbaaDoorRows
import GoSem.ClaimSeven
namespace Go.Proofs.YtdeaaokdhiefbaaDoor
namespace Rows

/-- THE TIED CARD OF 'turnkeylaw1.WirePuts'. -/
def wirePutsCard : Claim7 := { stood := { row := wirePutsRow, standIns := [], harness := (true, "2da6b519fc29d935a192cc021f4bd011a5adb477bdc455b1b58991904c402c8f"), looks := true }, kinds := [], alts := [], laidByText := true, laidKinds := [.sentinel, .sentinel, .sentinel], laidTests := true, laidLooks := .later }
def WirePutsCardSaid : Prop := Claim7.holds Tryd.pinned (.plain (OpenSpec.ofChange wirePutsSpec)) wirePutsCard

/-- THE TIED CARD OF 'turnkeylaw1.WireForms'. -/
def wireFormsCard : Claim7 := { stood := { row := wireFormsRow, standIns := [], harness := (true, "2da6b519fc29d935a192cc021f4bd011a5adb477bdc455b1b58991904c402c8f"), looks := true }, kinds := [], alts := [], laidByText := true, laidKinds := [.sentinel, .sentinel, .sentinel, .sentinel, .sentinel, .sentinel, .sentinel, .sentinel, .sentinel, .sentinel, .sentinel, .sentinel], laidTests := true, laidLooks := .later }
def WireFormsCardSaid : Prop := Claim7.holds Tryd.pinned (.plain (OpenSpec.ofChange wireFormsSpec)) wireFormsCard

/-- THE TIED CARD OF 'turnkeylaw1.WireCuts'. -/
def wireCutsCard : Claim7 := { stood := { row := wireCutsRow, standIns := [], harness := (true, "2da6b519fc29d935a192cc021f4bd011a5adb477bdc455b1b58991904c402c8f"), looks := true }, kinds := [], alts := [], laidByText := true, laidKinds := [.sentinel, .sentinel, .sentinel, .sentinel, .sentinel, .sentinel, .sentinel, .sentinel, .sentinel, .sentinel, .sentinel, .sentinel], laidTests := true, laidLooks := .later }
def WireCutsCardSaid : Prop := Claim7.holds Tryd.pinned (.plain (OpenSpec.ofChange wireCutsSpec)) wireCutsCard

/-- THE TIED CARD OF 'turnkeylaw1.WireRanges'. -/
def wireRangesCard : Claim7 := { stood := { row := wireRangesRow, standIns := [], harness := (true, "2da6b519fc29d935a192cc021f4bd011a5adb477bdc455b1b58991904c402c8f"), looks := true }, kinds := [], alts := [], laidByText := true, laidKinds := [.sentinel, .sentinel, .sentinel, .sentinel, .sentinel, .sentinel, .sentinel, .sentinel, .sentinel, .sentinel, .sentinel, .sentinel], laidTests := true, laidLooks := .later }
def WireRangesCardSaid : Prop := Claim7.holds Tryd.pinned (.plain (OpenSpec.ofChange wireRangesSpec)) wireRangesCard

/-- THE TIED CARD OF 'turnkeylaw4.ArenaPlays'. -/
def arenaPlaysCard : Claim7 := { stood := { row := arenaPlaysRow, standIns := [], harness := (true, "2da6b519fc29d935a192cc021f4bd011a5adb477bdc455b1b58991904c402c8f"), looks := true }, kinds := [], alts := [], laidByText := true, laidKinds := [.sentinel, .sentinel, .sentinel, .sentinel, .sentinel, .sentinel, .sentinel, .sentinel, .sentinel, .sentinel, .sentinel, .sentinel], laidTests := true, laidLooks := .later }
def ArenaPlaysCardSaid : Prop := Claim7.holds Tryd.pinned (.plain (OpenSpec.ofChange arenaPlaysSpec)) arenaPlaysCard

/-- THE TIED CARD OF 'turnkeylaw5.PageApart'. -/
def pageApartCard : Claim7 := { stood := { row := pageApartRow, standIns := [], harness := (true, "2da6b519fc29d935a192cc021f4bd011a5adb477bdc455b1b58991904c402c8f"), looks := true }, kinds := [], alts := [], laidByText := true, laidKinds := [.sentinel, .sentinel, .sentinel], laidTests := true, laidLooks := .later }
def PageApartCardSaid : Prop := Claim7.holds Tryd.pinned (.plain (OpenSpec.ofChange pageApartSpec)) pageApartCard

/-- THE TIED CARD OF 'turnkeylaw5.PageFresh'. -/
def pageFreshCard : Claim7 := { stood := { row := pageFreshRow, standIns := [], harness := (true, "2da6b519fc29d935a192cc021f4bd011a5adb477bdc455b1b58991904c402c8f"), looks := true }, kinds := [], alts := [], laidByText := true, laidKinds := [.sentinel, .sentinel, .sentinel, .sentinel, .sentinel, .sentinel, .sentinel, .sentinel, .sentinel, .sentinel, .sentinel, .sentinel], laidTests := true, laidLooks := .later }
def PageFreshCardSaid : Prop := Claim7.holds Tryd.pinned (.plain (OpenSpec.ofChange pageFreshSpec)) pageFreshCard

/-- THE TIED CARD OF 'turnkeylaw5.PagePlays'. -/
def pagePlaysCard : Claim7 := { stood := { row := pagePlaysRow, standIns := [], harness := (true, "2da6b519fc29d935a192cc021f4bd011a5adb477bdc455b1b58991904c402c8f"), looks := true }, kinds := [], alts := [], laidByText := true, laidKinds := [.sentinel, .sentinel, .sentinel, .sentinel, .sentinel, .sentinel, .sentinel, .sentinel, .sentinel, .sentinel, .sentinel, .sentinel], laidTests := true, laidLooks := .later }
def PagePlaysCardSaid : Prop := Claim7.holds Tryd.pinned (.plain (OpenSpec.ofChange pagePlaysSpec)) pagePlaysCard

/-- THE TIED CARD OF 'turnkeylaw12.MeterCharges'. -/
def meterChargesCard : Claim7 := { stood := { row := meterChargesRow, standIns := [], harness := (true, "2da6b519fc29d935a192cc021f4bd011a5adb477bdc455b1b58991904c402c8f"), looks := true }, kinds := [], alts := [], laidByText := true, laidKinds := [.sentinel, .sentinel, .sentinel, .sentinel], laidTests := true, laidLooks := .later }
def MeterChargesCardSaid : Prop := Claim7.holds Tryd.pinned (.plain (OpenSpec.ofChange meterChargesSpec)) meterChargesCard

/-- THE TIED CARD OF 'turnkeylaw12.MeterEnds'. -/
def meterEndsCard : Claim7 := { stood := { row := meterEndsRow, standIns := [], harness := (true, "2da6b519fc29d935a192cc021f4bd011a5adb477bdc455b1b58991904c402c8f"), looks := true }, kinds := [], alts := [], laidByText := true, laidKinds := [.sentinel, .sentinel, .sentinel, .sentinel, .sentinel, .sentinel, .sentinel, .sentinel, .sentinel, .sentinel, .sentinel, .sentinel], laidTests := true, laidLooks := .later }
def MeterEndsCardSaid : Prop := Claim7.holds Tryd.pinned (.plain (OpenSpec.ofChange meterEndsSpec)) meterEndsCard

/-- THE SECOND FORM's CARD OF 'turnkeylaw1.WirePuts'. -/
def wirePutsUptoCard : Claim7 := { stood := { row := wirePutsUptoRow, standIns := [], harness := (true, "2da6b519fc29d935a192cc021f4bd011a5adb477bdc455b1b58991904c402c8f"), looks := true }, kinds := [], alts := [], laidByText := true, laidKinds := [.sentinel, .sentinel, .sentinel], laidTests := true, laidLooks := .later }
def WirePutsUptoCardSaid : Prop := Claim7.holds Tryd.pinned (.plain (OpenSpec.upto wirePutsSpec)) wirePutsUptoCard

/-- THE SECOND FORM's CARD OF 'turnkeylaw1.WireForms'. -/
def wireFormsUptoCard : Claim7 := { stood := { row := wireFormsUptoRow, standIns := [], harness := (true, "2da6b519fc29d935a192cc021f4bd011a5adb477bdc455b1b58991904c402c8f"), looks := true }, kinds := [], alts := [], laidByText := true, laidKinds := [.sentinel, .sentinel, .sentinel, .sentinel, .sentinel, .sentinel, .sentinel, .sentinel, .sentinel, .sentinel, .sentinel, .sentinel], laidTests := true, laidLooks := .later }
def WireFormsUptoCardSaid : Prop := Claim7.holds Tryd.pinned (.plain (OpenSpec.upto wireFormsSpec)) wireFormsUptoCard

/-- THE SECOND FORM's CARD OF 'turnkeylaw1.WireCuts'. -/
def wireCutsUptoCard : Claim7 := { stood := { row := wireCutsUptoRow, standIns := [], harness := (true, "2da6b519fc29d935a192cc021f4bd011a5adb477bdc455b1b58991904c402c8f"), looks := true }, kinds := [], alts := [], laidByText := true, laidKinds := [.sentinel, .sentinel, .sentinel, .sentinel, .sentinel, .sentinel, .sentinel, .sentinel, .sentinel, .sentinel, .sentinel, .sentinel], laidTests := true, laidLooks := .later }
def WireCutsUptoCardSaid : Prop := Claim7.holds Tryd.pinned (.plain (OpenSpec.upto wireCutsSpec)) wireCutsUptoCard

/-- THE SECOND FORM's CARD OF 'turnkeylaw1.WireRanges'. -/
def wireRangesUptoCard : Claim7 := { stood := { row := wireRangesUptoRow, standIns := [], harness := (true, "2da6b519fc29d935a192cc021f4bd011a5adb477bdc455b1b58991904c402c8f"), looks := true }, kinds := [], alts := [], laidByText := true, laidKinds := [.sentinel, .sentinel, .sentinel, .sentinel, .sentinel, .sentinel, .sentinel, .sentinel, .sentinel, .sentinel, .sentinel, .sentinel], laidTests := true, laidLooks := .later }
def WireRangesUptoCardSaid : Prop := Claim7.holds Tryd.pinned (.plain (OpenSpec.upto wireRangesSpec)) wireRangesUptoCard

/-- THE SECOND FORM's CARD OF 'turnkeylaw4.ArenaPlays'. -/
def arenaPlaysUptoCard : Claim7 := { stood := { row := arenaPlaysUptoRow, standIns := [], harness := (true, "2da6b519fc29d935a192cc021f4bd011a5adb477bdc455b1b58991904c402c8f"), looks := true }, kinds := [], alts := [], laidByText := true, laidKinds := [.sentinel, .sentinel, .sentinel, .sentinel, .sentinel, .sentinel, .sentinel, .sentinel, .sentinel, .sentinel, .sentinel, .sentinel], laidTests := true, laidLooks := .later }
def ArenaPlaysUptoCardSaid : Prop := Claim7.holds Tryd.pinned (.plain (OpenSpec.upto arenaPlaysSpec)) arenaPlaysUptoCard

/-- THE SECOND FORM's CARD OF 'turnkeylaw5.PageApart'. -/
def pageApartUptoCard : Claim7 := { stood := { row := pageApartUptoRow, standIns := [], harness := (true, "2da6b519fc29d935a192cc021f4bd011a5adb477bdc455b1b58991904c402c8f"), looks := true }, kinds := [], alts := [], laidByText := true, laidKinds := [.sentinel, .sentinel, .sentinel], laidTests := true, laidLooks := .later }
def PageApartUptoCardSaid : Prop := Claim7.holds Tryd.pinned (.plain (OpenSpec.upto pageApartSpec)) pageApartUptoCard

/-- THE SECOND FORM's CARD OF 'turnkeylaw5.PageFresh'. -/
def pageFreshUptoCard : Claim7 := { stood := { row := pageFreshUptoRow, standIns := [], harness := (true, "2da6b519fc29d935a192cc021f4bd011a5adb477bdc455b1b58991904c402c8f"), looks := true }, kinds := [], alts := [], laidByText := true, laidKinds := [.sentinel, .sentinel, .sentinel, .sentinel, .sentinel, .sentinel, .sentinel, .sentinel, .sentinel, .sentinel, .sentinel, .sentinel], laidTests := true, laidLooks := .later }
def PageFreshUptoCardSaid : Prop := Claim7.holds Tryd.pinned (.plain (OpenSpec.upto pageFreshSpec)) pageFreshUptoCard

/-- THE SECOND FORM's CARD OF 'turnkeylaw5.PagePlays'. -/
def pagePlaysUptoCard : Claim7 := { stood := { row := pagePlaysUptoRow, standIns := [], harness := (true, "2da6b519fc29d935a192cc021f4bd011a5adb477bdc455b1b58991904c402c8f"), looks := true }, kinds := [], alts := [], laidByText := true, laidKinds := [.sentinel, .sentinel, .sentinel, .sentinel, .sentinel, .sentinel, .sentinel, .sentinel, .sentinel, .sentinel, .sentinel, .sentinel], laidTests := true, laidLooks := .later }
def PagePlaysUptoCardSaid : Prop := Claim7.holds Tryd.pinned (.plain (OpenSpec.upto pagePlaysSpec)) pagePlaysUptoCard

/-- THE SECOND FORM's CARD OF 'turnkeylaw12.MeterCharges'. -/
def meterChargesUptoCard : Claim7 := { stood := { row := meterChargesUptoRow, standIns := [], harness := (true, "2da6b519fc29d935a192cc021f4bd011a5adb477bdc455b1b58991904c402c8f"), looks := true }, kinds := [], alts := [], laidByText := true, laidKinds := [.sentinel, .sentinel, .sentinel, .sentinel], laidTests := true, laidLooks := .later }
def MeterChargesUptoCardSaid : Prop := Claim7.holds Tryd.pinned (.plain (OpenSpec.upto meterChargesSpec)) meterChargesUptoCard

/-- THE SECOND FORM's CARD OF 'turnkeylaw12.MeterEnds'. -/
def meterEndsUptoCard : Claim7 := { stood := { row := meterEndsUptoRow, standIns := [], harness := (true, "2da6b519fc29d935a192cc021f4bd011a5adb477bdc455b1b58991904c402c8f"), looks := true }, kinds := [], alts := [], laidByText := true, laidKinds := [.sentinel, .sentinel, .sentinel, .sentinel, .sentinel, .sentinel, .sentinel, .sentinel, .sentinel, .sentinel, .sentinel, .sentinel], laidTests := true, laidLooks := .later }
def MeterEndsUptoCardSaid : Prop := Claim7.holds Tryd.pinned (.plain (OpenSpec.upto meterEndsSpec)) meterEndsUptoCard
end Rows
end Go.Proofs.YtdeaaokdhiefbaaDoor
