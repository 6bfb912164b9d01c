/-
  DERIVED. GIVEN WITH THE SEED: THE CARDS: each row of YtbmfpkpcljihgaaDoorRows.lean that lists a variable, with what it lists TIED to the program's text (the seventh form; the later family's looks); each row that meets fmt, with fmt's text TOLD by the authors' own Lean function (tested against real Go, not proved from fmt's source: count such statements apart). THE CARD IS WHAT COUNTS. Prove the row's statement (the work); the ties are given (YtbmfpkpcljihgaaDoorTie.lean); close each card by the builder's one call (the guide's Derived/Test/ToyasCard.lean, 'card_holds'). Laid BY PROGRAM, IN A SANDBOX (cutbox-door.mjs). By AI agents, Wed Nov 11 2026. No macro, syntax, notation, axiom, sorry.
-/
import Derived.Test.YtbmfpkpcljihgaaDoorRows
import GoSem.ClaimSeven
namespace Go.Proofs.YtbmfpkpcljihgaaDoor
namespace Rows

/-- THE TIED CARD OF 'turnkeylaw16.DomStalls'. -/
def domStallsCard : Claim7 := { stood := { row := domStallsRow, standIns := [], harness := (true, "8bdd53d79ffafaab47ba51fd20a08cc4f8b4841aa389d99f6707fe0ab6650243"), looks := true }, kinds := [], alts := [], laidByText := true, laidKinds := [.sentinel, .sentinel], laidTests := true, laidLooks := .later }
def DomStallsCardSaid : Prop := Claim7.holds Tryd.pinned (.plain (OpenSpec.ofChange domStallsSpec)) domStallsCard

/-- THE TIED CARD OF 'turnkeylaw16.DomResumes'. -/
def domResumesCard : Claim7 := { stood := { row := domResumesRow, standIns := [], harness := (true, "8bdd53d79ffafaab47ba51fd20a08cc4f8b4841aa389d99f6707fe0ab6650243"), looks := true }, kinds := [], alts := [], laidByText := true, laidKinds := [.sentinel, .sentinel, .sentinel, .sentinel], laidTests := true, laidLooks := .later }
def DomResumesCardSaid : Prop := Claim7.holds Tryd.pinned (.plain (OpenSpec.ofChange domResumesSpec)) domResumesCard

/-- THE TIED CARD OF 'turnkeylaw16.DomPlays'. -/
def domPlaysCard : Claim7 := { stood := { row := domPlaysRow, standIns := [], harness := (true, "8bdd53d79ffafaab47ba51fd20a08cc4f8b4841aa389d99f6707fe0ab6650243"), looks := true }, kinds := [], alts := [], laidByText := true, laidKinds := [.sentinel, .sentinel, .sentinel, .sentinel, .sentinel, .sentinel, .sentinel, .sentinel, .sentinel, .sentinel, .sentinel, .sentinel], laidTests := true, laidLooks := .later }
def DomPlaysCardSaid : Prop := Claim7.holds Tryd.pinned (.plain (OpenSpec.ofChange domPlaysSpec)) domPlaysCard

/-- THE TIED CARD OF 'turnkeylaw20.MakerSeals'. -/
def makerSealsCard : Claim7 := { stood := { row := makerSealsRow, standIns := [], harness := (true, "8bdd53d79ffafaab47ba51fd20a08cc4f8b4841aa389d99f6707fe0ab6650243"), looks := true }, kinds := [], alts := [], laidByText := true, laidKinds := [.sentinel, .sentinel, .sentinel, .sentinel, .sentinel, .sentinel, .sentinel, .sentinel, .sentinel, .sentinel, .sentinel, .sentinel], laidTests := true, laidLooks := .later }
def MakerSealsCardSaid : Prop := Claim7.holds Tryd.pinned (.plain (OpenSpec.ofChange makerSealsSpec)) makerSealsCard

/-- THE TIED CARD OF 'turnkeylaw20.MakerTrust'. -/
def makerTrustCard : Claim7 := { stood := { row := makerTrustRow, standIns := [], harness := (true, "8bdd53d79ffafaab47ba51fd20a08cc4f8b4841aa389d99f6707fe0ab6650243"), looks := true }, kinds := [], alts := [], laidByText := true, laidKinds := [.sentinel, .sentinel, .sentinel, .sentinel, .sentinel], laidTests := true, laidLooks := .later }
def MakerTrustCardSaid : Prop := Claim7.holds Tryd.pinned (.plain (OpenSpec.ofChange makerTrustSpec)) makerTrustCard

/-- THE TIED CARD OF 'turnkeylaw20.MakerMany'. -/
def makerManyCard : Claim7 := { stood := { row := makerManyRow, standIns := [], harness := (true, "8bdd53d79ffafaab47ba51fd20a08cc4f8b4841aa389d99f6707fe0ab6650243"), looks := true }, kinds := [], alts := [], laidByText := true, laidKinds := [.sentinel, .sentinel, .sentinel, .sentinel, .sentinel, .sentinel, .sentinel, .sentinel, .sentinel, .sentinel, .sentinel, .sentinel], laidTests := true, laidLooks := .later }
def MakerManyCardSaid : Prop := Claim7.holds Tryd.pinned (.plain (OpenSpec.ofChange makerManySpec)) makerManyCard

/-- THE TIED CARD OF 'turnkeylaw20.MakerPlays'. -/
def makerPlaysCard : Claim7 := { stood := { row := makerPlaysRow, standIns := [], harness := (true, "8bdd53d79ffafaab47ba51fd20a08cc4f8b4841aa389d99f6707fe0ab6650243"), looks := true }, kinds := [], alts := [], laidByText := true, laidKinds := [.sentinel, .sentinel, .sentinel, .sentinel, .sentinel, .sentinel, .sentinel, .sentinel, .sentinel, .sentinel, .sentinel, .sentinel], laidTests := true, laidLooks := .later }
def MakerPlaysCardSaid : Prop := Claim7.holds Tryd.pinned (.plain (OpenSpec.ofChange makerPlaysSpec)) makerPlaysCard

/-- THE SECOND FORM's CARD OF 'turnkeylaw16.DomStalls'. -/
def domStallsUptoCard : Claim7 := { stood := { row := domStallsUptoRow, standIns := [], harness := (true, "8bdd53d79ffafaab47ba51fd20a08cc4f8b4841aa389d99f6707fe0ab6650243"), looks := true }, kinds := [], alts := [], laidByText := true, laidKinds := [.sentinel, .sentinel], laidTests := true, laidLooks := .later }
def DomStallsUptoCardSaid : Prop := Claim7.holds Tryd.pinned (.plain (OpenSpec.upto domStallsSpec)) domStallsUptoCard

/-- THE SECOND FORM's CARD OF 'turnkeylaw16.DomResumes'. -/
def domResumesUptoCard : Claim7 := { stood := { row := domResumesUptoRow, standIns := [], harness := (true, "8bdd53d79ffafaab47ba51fd20a08cc4f8b4841aa389d99f6707fe0ab6650243"), looks := true }, kinds := [], alts := [], laidByText := true, laidKinds := [.sentinel, .sentinel, .sentinel, .sentinel], laidTests := true, laidLooks := .later }
def DomResumesUptoCardSaid : Prop := Claim7.holds Tryd.pinned (.plain (OpenSpec.upto domResumesSpec)) domResumesUptoCard

/-- THE SECOND FORM's CARD OF 'turnkeylaw16.DomPlays'. -/
def domPlaysUptoCard : Claim7 := { stood := { row := domPlaysUptoRow, standIns := [], harness := (true, "8bdd53d79ffafaab47ba51fd20a08cc4f8b4841aa389d99f6707fe0ab6650243"), looks := true }, kinds := [], alts := [], laidByText := true, laidKinds := [.sentinel, .sentinel, .sentinel, .sentinel, .sentinel, .sentinel, .sentinel, .sentinel, .sentinel, .sentinel, .sentinel, .sentinel], laidTests := true, laidLooks := .later }
def DomPlaysUptoCardSaid : Prop := Claim7.holds Tryd.pinned (.plain (OpenSpec.upto domPlaysSpec)) domPlaysUptoCard

/-- THE SECOND FORM's CARD OF 'turnkeylaw20.MakerSeals'. -/
def makerSealsUptoCard : Claim7 := { stood := { row := makerSealsUptoRow, standIns := [], harness := (true, "8bdd53d79ffafaab47ba51fd20a08cc4f8b4841aa389d99f6707fe0ab6650243"), looks := true }, kinds := [], alts := [], laidByText := true, laidKinds := [.sentinel, .sentinel, .sentinel, .sentinel, .sentinel, .sentinel, .sentinel, .sentinel, .sentinel, .sentinel, .sentinel, .sentinel], laidTests := true, laidLooks := .later }
def MakerSealsUptoCardSaid : Prop := Claim7.holds Tryd.pinned (.plain (OpenSpec.upto makerSealsSpec)) makerSealsUptoCard

/-- THE SECOND FORM's CARD OF 'turnkeylaw20.MakerTrust'. -/
def makerTrustUptoCard : Claim7 := { stood := { row := makerTrustUptoRow, standIns := [], harness := (true, "8bdd53d79ffafaab47ba51fd20a08cc4f8b4841aa389d99f6707fe0ab6650243"), looks := true }, kinds := [], alts := [], laidByText := true, laidKinds := [.sentinel, .sentinel, .sentinel, .sentinel, .sentinel], laidTests := true, laidLooks := .later }
def MakerTrustUptoCardSaid : Prop := Claim7.holds Tryd.pinned (.plain (OpenSpec.upto makerTrustSpec)) makerTrustUptoCard

/-- THE SECOND FORM's CARD OF 'turnkeylaw20.MakerMany'. -/
def makerManyUptoCard : Claim7 := { stood := { row := makerManyUptoRow, standIns := [], harness := (true, "8bdd53d79ffafaab47ba51fd20a08cc4f8b4841aa389d99f6707fe0ab6650243"), looks := true }, kinds := [], alts := [], laidByText := true, laidKinds := [.sentinel, .sentinel, .sentinel, .sentinel, .sentinel, .sentinel, .sentinel, .sentinel, .sentinel, .sentinel, .sentinel, .sentinel], laidTests := true, laidLooks := .later }
def MakerManyUptoCardSaid : Prop := Claim7.holds Tryd.pinned (.plain (OpenSpec.upto makerManySpec)) makerManyUptoCard

/-- THE SECOND FORM's CARD OF 'turnkeylaw20.MakerPlays'. -/
def makerPlaysUptoCard : Claim7 := { stood := { row := makerPlaysUptoRow, standIns := [], harness := (true, "8bdd53d79ffafaab47ba51fd20a08cc4f8b4841aa389d99f6707fe0ab6650243"), looks := true }, kinds := [], alts := [], laidByText := true, laidKinds := [.sentinel, .sentinel, .sentinel, .sentinel, .sentinel, .sentinel, .sentinel, .sentinel, .sentinel, .sentinel, .sentinel, .sentinel], laidTests := true, laidLooks := .later }
def MakerPlaysUptoCardSaid : Prop := Claim7.holds Tryd.pinned (.plain (OpenSpec.upto makerPlaysSpec)) makerPlaysUptoCard
end Rows
end Go.Proofs.YtbmfpkpcljihgaaDoor
