/-
  DERIVED. GIVEN WITH THE SEED: THE CARDS: each row of YtlanjomoednfaaaDoorRows.lean that lists a variable, with what it lists TIED to the program's text (the seventh form; the later family's looks); each row that meets fmt, with fmt's text TOLD by the authors' own Lean function (tested against real Go, not proved from fmt's source: count such statements apart). THE CARD IS WHAT COUNTS. Prove the row's statement (the work); the ties are given (YtlanjomoednfaaaDoorTie.lean); close each card by the builder's one call (the guide's Derived/Test/ToyasCard.lean, 'card_holds'). Laid BY PROGRAM, IN A SANDBOX (cutbox-door.mjs). By AI agents, Wed Nov 11 2026. No macro, syntax, notation, axiom, sorry.
-/
import Derived.Test.YtlanjomoednfaaaDoorRows
import GoSem.ClaimSeven
namespace Go.Proofs.YtlanjomoednfaaaDoor
namespace Rows

/-- THE TIED CARD OF 'turnkeylaw6.NodeBounds'. -/
def nodeBoundsCard : Claim7 := { stood := { row := nodeBoundsRow, standIns := [], harness := (true, "a77b0d2c2fbe1306d77339a5d83047d8a5a64acb592630b4285981e36be6fc43"), looks := true }, kinds := [], alts := [], laidByText := true, laidKinds := [.sentinel, .sentinel, .sentinel, .sentinel, .sentinel, .sentinel, .sentinel, .sentinel, .sentinel, .sentinel, .sentinel, .sentinel], laidTests := true, laidLooks := .later }
def NodeBoundsCardSaid : Prop := Claim7.holds Tryd.pinned (.plain (OpenSpec.ofChange nodeBoundsSpec)) nodeBoundsCard

/-- THE TIED CARD OF 'turnkeylaw6.NodeApart'. -/
def nodeApartCard : Claim7 := { stood := { row := nodeApartRow, standIns := [], harness := (true, "a77b0d2c2fbe1306d77339a5d83047d8a5a64acb592630b4285981e36be6fc43"), looks := true }, kinds := [], alts := [], laidByText := true, laidKinds := [.sentinel, .sentinel, .sentinel, .sentinel, .sentinel], laidTests := true, laidLooks := .later }
def NodeApartCardSaid : Prop := Claim7.holds Tryd.pinned (.plain (OpenSpec.ofChange nodeApartSpec)) nodeApartCard

/-- THE TIED CARD OF 'turnkeylaw6.NodePlays'. -/
def nodePlaysCard : Claim7 := { stood := { row := nodePlaysRow, standIns := [], harness := (true, "a77b0d2c2fbe1306d77339a5d83047d8a5a64acb592630b4285981e36be6fc43"), looks := true }, kinds := [], alts := [], laidByText := true, laidKinds := [.sentinel, .sentinel, .sentinel, .sentinel, .sentinel, .sentinel, .sentinel, .sentinel, .sentinel, .sentinel, .sentinel, .sentinel], laidTests := true, laidLooks := .later }
def NodePlaysCardSaid : Prop := Claim7.holds Tryd.pinned (.plain (OpenSpec.ofChange nodePlaysSpec)) nodePlaysCard

/-- THE TIED CARD OF 'turnkeylaw3.KeyRows'. -/
def keyRowsCard : Claim7 := { stood := { row := keyRowsRow, standIns := [], harness := (true, "a77b0d2c2fbe1306d77339a5d83047d8a5a64acb592630b4285981e36be6fc43"), looks := true }, kinds := [], alts := [], laidByText := true, laidKinds := [.data, .data, .data], laidTests := true, laidLooks := .later }
def KeyRowsCardSaid : Prop := Claim7.holds Tryd.pinned (.plain (OpenSpec.ofChange keyRowsSpec)) keyRowsCard

/-- THE TIED CARD OF 'turnkeylaw3.KeyBounds'. -/
def keyBoundsCard : Claim7 := { stood := { row := keyBoundsRow, standIns := [], harness := (true, "a77b0d2c2fbe1306d77339a5d83047d8a5a64acb592630b4285981e36be6fc43"), looks := true }, kinds := [], alts := [], laidByText := true, laidKinds := [.data, .data, .data, .sentinel, .sentinel], laidTests := true, laidLooks := .later }
def KeyBoundsCardSaid : Prop := Claim7.holds Tryd.pinned (.plain (OpenSpec.ofChange keyBoundsSpec)) keyBoundsCard

/-- THE TIED CARD OF 'turnkeylaw3.KeyUnlike'. -/
def keyUnlikeCard : Claim7 := { stood := { row := keyUnlikeRow, standIns := [], harness := (true, "a77b0d2c2fbe1306d77339a5d83047d8a5a64acb592630b4285981e36be6fc43"), looks := true }, kinds := [], alts := [], laidByText := true, laidKinds := [.data, .data, .data, .sentinel, .sentinel], laidTests := true, laidLooks := .later }
def KeyUnlikeCardSaid : Prop := Claim7.holds Tryd.pinned (.plain (OpenSpec.ofChange keyUnlikeSpec)) keyUnlikeCard

/-- THE TIED CARD OF 'turnkeylaw3.KeySays'. -/
def keySaysCard : Claim7 := { stood := { row := keySaysRow, standIns := [], harness := (true, "a77b0d2c2fbe1306d77339a5d83047d8a5a64acb592630b4285981e36be6fc43"), looks := true }, kinds := [], alts := [], laidByText := true, laidKinds := [.data, .data, .data, .sentinel, .sentinel, .sentinel, .sentinel, .sentinel, .sentinel, .sentinel, .sentinel, .sentinel, .sentinel, .sentinel, .sentinel], laidTests := true, laidLooks := .later }
def KeySaysCardSaid : Prop := Claim7.holds Tryd.pinned (.plain (OpenSpec.ofChange keySaysSpec)) keySaysCard

/-- THE TIED CARD OF 'turnkeylaw3.KeyBack'. -/
def keyBackCard : Claim7 := { stood := { row := keyBackRow, standIns := [], harness := (true, "a77b0d2c2fbe1306d77339a5d83047d8a5a64acb592630b4285981e36be6fc43"), looks := true }, kinds := [], alts := [], laidByText := true, laidKinds := [.data, .data, .data, .sentinel, .sentinel], laidTests := true, laidLooks := .later }
def KeyBackCardSaid : Prop := Claim7.holds Tryd.pinned (.plain (OpenSpec.ofChange keyBackSpec)) keyBackCard

/-- THE TIED CARD OF 'turnkeylaw8.StoreSwaps'. -/
def storeSwapsCard : Claim7 := { stood := { row := storeSwapsRow, standIns := [], harness := (true, "a77b0d2c2fbe1306d77339a5d83047d8a5a64acb592630b4285981e36be6fc43"), looks := true }, kinds := [], alts := [], laidByText := true, laidKinds := [.sentinel, .sentinel, .sentinel, .sentinel, .sentinel, .sentinel, .sentinel, .sentinel, .sentinel, .sentinel, .sentinel, .sentinel], laidTests := true, laidLooks := .later }
def StoreSwapsCardSaid : Prop := Claim7.holds Tryd.pinned (.plain (OpenSpec.ofChange storeSwapsSpec)) storeSwapsCard

/-- THE TIED CARD OF 'turnkeylaw8.StoreGone'. -/
def storeGoneCard : Claim7 := { stood := { row := storeGoneRow, standIns := [], harness := (true, "a77b0d2c2fbe1306d77339a5d83047d8a5a64acb592630b4285981e36be6fc43"), looks := true }, kinds := [], alts := [], laidByText := true, laidKinds := [.sentinel, .sentinel, .sentinel, .sentinel, .sentinel, .sentinel, .sentinel, .sentinel, .sentinel, .sentinel, .sentinel, .sentinel], laidTests := true, laidLooks := .later }
def StoreGoneCardSaid : Prop := Claim7.holds Tryd.pinned (.plain (OpenSpec.ofChange storeGoneSpec)) storeGoneCard

/-- THE TIED CARD OF 'turnkeylaw8.StorePlays'. -/
def storePlaysCard : Claim7 := { stood := { row := storePlaysRow, standIns := [], harness := (true, "a77b0d2c2fbe1306d77339a5d83047d8a5a64acb592630b4285981e36be6fc43"), looks := true }, kinds := [], alts := [], laidByText := true, laidKinds := [.sentinel, .sentinel, .sentinel, .sentinel, .sentinel, .sentinel, .sentinel, .sentinel, .sentinel, .sentinel, .sentinel, .sentinel], laidTests := true, laidLooks := .later }
def StorePlaysCardSaid : Prop := Claim7.holds Tryd.pinned (.plain (OpenSpec.ofChange storePlaysSpec)) storePlaysCard

/-- THE SECOND FORM's CARD OF 'turnkeylaw6.NodeBounds'. -/
def nodeBoundsUptoCard : Claim7 := { stood := { row := nodeBoundsUptoRow, standIns := [], harness := (true, "a77b0d2c2fbe1306d77339a5d83047d8a5a64acb592630b4285981e36be6fc43"), looks := true }, kinds := [], alts := [], laidByText := true, laidKinds := [.sentinel, .sentinel, .sentinel, .sentinel, .sentinel, .sentinel, .sentinel, .sentinel, .sentinel, .sentinel, .sentinel, .sentinel], laidTests := true, laidLooks := .later }
def NodeBoundsUptoCardSaid : Prop := Claim7.holds Tryd.pinned (.plain (OpenSpec.upto nodeBoundsSpec)) nodeBoundsUptoCard

/-- THE SECOND FORM's CARD OF 'turnkeylaw6.NodeApart'. -/
def nodeApartUptoCard : Claim7 := { stood := { row := nodeApartUptoRow, standIns := [], harness := (true, "a77b0d2c2fbe1306d77339a5d83047d8a5a64acb592630b4285981e36be6fc43"), looks := true }, kinds := [], alts := [], laidByText := true, laidKinds := [.sentinel, .sentinel, .sentinel, .sentinel, .sentinel], laidTests := true, laidLooks := .later }
def NodeApartUptoCardSaid : Prop := Claim7.holds Tryd.pinned (.plain (OpenSpec.upto nodeApartSpec)) nodeApartUptoCard

/-- THE SECOND FORM's CARD OF 'turnkeylaw6.NodePlays'. -/
def nodePlaysUptoCard : Claim7 := { stood := { row := nodePlaysUptoRow, standIns := [], harness := (true, "a77b0d2c2fbe1306d77339a5d83047d8a5a64acb592630b4285981e36be6fc43"), looks := true }, kinds := [], alts := [], laidByText := true, laidKinds := [.sentinel, .sentinel, .sentinel, .sentinel, .sentinel, .sentinel, .sentinel, .sentinel, .sentinel, .sentinel, .sentinel, .sentinel], laidTests := true, laidLooks := .later }
def NodePlaysUptoCardSaid : Prop := Claim7.holds Tryd.pinned (.plain (OpenSpec.upto nodePlaysSpec)) nodePlaysUptoCard

/-- THE SECOND FORM's CARD OF 'turnkeylaw3.KeyRows'. -/
def keyRowsUptoCard : Claim7 := { stood := { row := keyRowsUptoRow, standIns := [], harness := (true, "a77b0d2c2fbe1306d77339a5d83047d8a5a64acb592630b4285981e36be6fc43"), looks := true }, kinds := [], alts := [], laidByText := true, laidKinds := [.data, .data, .data], laidTests := true, laidLooks := .later }
def KeyRowsUptoCardSaid : Prop := Claim7.holds Tryd.pinned (.plain (OpenSpec.upto keyRowsSpec)) keyRowsUptoCard

/-- THE SECOND FORM's CARD OF 'turnkeylaw3.KeyBounds'. -/
def keyBoundsUptoCard : Claim7 := { stood := { row := keyBoundsUptoRow, standIns := [], harness := (true, "a77b0d2c2fbe1306d77339a5d83047d8a5a64acb592630b4285981e36be6fc43"), looks := true }, kinds := [], alts := [], laidByText := true, laidKinds := [.data, .data, .data, .sentinel, .sentinel], laidTests := true, laidLooks := .later }
def KeyBoundsUptoCardSaid : Prop := Claim7.holds Tryd.pinned (.plain (OpenSpec.upto keyBoundsSpec)) keyBoundsUptoCard

/-- THE SECOND FORM's CARD OF 'turnkeylaw3.KeyUnlike'. -/
def keyUnlikeUptoCard : Claim7 := { stood := { row := keyUnlikeUptoRow, standIns := [], harness := (true, "a77b0d2c2fbe1306d77339a5d83047d8a5a64acb592630b4285981e36be6fc43"), looks := true }, kinds := [], alts := [], laidByText := true, laidKinds := [.data, .data, .data, .sentinel, .sentinel], laidTests := true, laidLooks := .later }
def KeyUnlikeUptoCardSaid : Prop := Claim7.holds Tryd.pinned (.plain (OpenSpec.upto keyUnlikeSpec)) keyUnlikeUptoCard

/-- THE SECOND FORM's CARD OF 'turnkeylaw3.KeySays'. -/
def keySaysUptoCard : Claim7 := { stood := { row := keySaysUptoRow, standIns := [], harness := (true, "a77b0d2c2fbe1306d77339a5d83047d8a5a64acb592630b4285981e36be6fc43"), looks := true }, kinds := [], alts := [], laidByText := true, laidKinds := [.data, .data, .data, .sentinel, .sentinel, .sentinel, .sentinel, .sentinel, .sentinel, .sentinel, .sentinel, .sentinel, .sentinel, .sentinel, .sentinel], laidTests := true, laidLooks := .later }
def KeySaysUptoCardSaid : Prop := Claim7.holds Tryd.pinned (.plain (OpenSpec.upto keySaysSpec)) keySaysUptoCard

/-- THE SECOND FORM's CARD OF 'turnkeylaw3.KeyBack'. -/
def keyBackUptoCard : Claim7 := { stood := { row := keyBackUptoRow, standIns := [], harness := (true, "a77b0d2c2fbe1306d77339a5d83047d8a5a64acb592630b4285981e36be6fc43"), looks := true }, kinds := [], alts := [], laidByText := true, laidKinds := [.data, .data, .data, .sentinel, .sentinel], laidTests := true, laidLooks := .later }
def KeyBackUptoCardSaid : Prop := Claim7.holds Tryd.pinned (.plain (OpenSpec.upto keyBackSpec)) keyBackUptoCard

/-- THE SECOND FORM's CARD OF 'turnkeylaw8.StoreSwaps'. -/
def storeSwapsUptoCard : Claim7 := { stood := { row := storeSwapsUptoRow, standIns := [], harness := (true, "a77b0d2c2fbe1306d77339a5d83047d8a5a64acb592630b4285981e36be6fc43"), looks := true }, kinds := [], alts := [], laidByText := true, laidKinds := [.sentinel, .sentinel, .sentinel, .sentinel, .sentinel, .sentinel, .sentinel, .sentinel, .sentinel, .sentinel, .sentinel, .sentinel], laidTests := true, laidLooks := .later }
def StoreSwapsUptoCardSaid : Prop := Claim7.holds Tryd.pinned (.plain (OpenSpec.upto storeSwapsSpec)) storeSwapsUptoCard

/-- THE SECOND FORM's CARD OF 'turnkeylaw8.StoreGone'. -/
def storeGoneUptoCard : Claim7 := { stood := { row := storeGoneUptoRow, standIns := [], harness := (true, "a77b0d2c2fbe1306d77339a5d83047d8a5a64acb592630b4285981e36be6fc43"), looks := true }, kinds := [], alts := [], laidByText := true, laidKinds := [.sentinel, .sentinel, .sentinel, .sentinel, .sentinel, .sentinel, .sentinel, .sentinel, .sentinel, .sentinel, .sentinel, .sentinel], laidTests := true, laidLooks := .later }
def StoreGoneUptoCardSaid : Prop := Claim7.holds Tryd.pinned (.plain (OpenSpec.upto storeGoneSpec)) storeGoneUptoCard

/-- THE SECOND FORM's CARD OF 'turnkeylaw8.StorePlays'. -/
def storePlaysUptoCard : Claim7 := { stood := { row := storePlaysUptoRow, standIns := [], harness := (true, "a77b0d2c2fbe1306d77339a5d83047d8a5a64acb592630b4285981e36be6fc43"), looks := true }, kinds := [], alts := [], laidByText := true, laidKinds := [.sentinel, .sentinel, .sentinel, .sentinel, .sentinel, .sentinel, .sentinel, .sentinel, .sentinel, .sentinel, .sentinel, .sentinel], laidTests := true, laidLooks := .later }
def StorePlaysUptoCardSaid : Prop := Claim7.holds Tryd.pinned (.plain (OpenSpec.upto storePlaysSpec)) storePlaysUptoCard
end Rows
end Go.Proofs.YtlanjomoednfaaaDoor
