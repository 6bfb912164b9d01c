/-
  DERIVED. GIVEN WITH THE SEED: THE CARDS: each row of YtgaabaohkpjllaaDoorRows.lean that lists a variable, with what it lists TIED to the program's text (the seventh form; the later family's looks); each row that meets fmt, with fmt's text TOLD by the authors' own Lean function (tested against real Go, not proved from fmt's source: count such statements apart). THE CARD IS WHAT COUNTS. Prove the row's statement (the work); the ties are given (YtgaabaohkpjllaaDoorTie.lean); close each card by the builder's one call (the guide's Derived/Test/ToyasCard.lean, 'card_holds'). Laid BY PROGRAM, IN A SANDBOX (cutbox-door.mjs). By AI agents, Wed Nov 11 2026. No macro, syntax, notation, axiom, sorry.
-/
import Derived.Test.YtgaabaohkpjllaaDoorRows
import GoSem.ClaimSeven
namespace Go.Proofs.YtgaabaohkpjllaaDoor
namespace Rows

/-- THE TIED CARD OF 'turnkeylaw9.PathRights'. -/
def pathRightsCard : Claim7 := { stood := { row := pathRightsRow, standIns := [], harness := (true, "019a99224d97a0ee10e24bb4f01517644a4c654c627f4d998bf482386b93b177"), looks := true }, kinds := [], alts := [], laidByText := true, laidKinds := [.sentinel, .sentinel, .sentinel, .sentinel, .sentinel], laidTests := true, laidLooks := .later }
def PathRightsCardSaid : Prop := Claim7.holds Tryd.pinned (.plain (OpenSpec.ofChange pathRightsSpec)) pathRightsCard

/-- THE TIED CARD OF 'turnkeylaw9.PathLoops'. -/
def pathLoopsCard : Claim7 := { stood := { row := pathLoopsRow, standIns := [], harness := (true, "019a99224d97a0ee10e24bb4f01517644a4c654c627f4d998bf482386b93b177"), looks := true }, kinds := [], alts := [], laidByText := true, laidKinds := [.sentinel, .sentinel, .sentinel, .sentinel, .sentinel], laidTests := true, laidLooks := .later }
def PathLoopsCardSaid : Prop := Claim7.holds Tryd.pinned (.plain (OpenSpec.ofChange pathLoopsSpec)) pathLoopsCard

/-- THE TIED CARD OF 'turnkeylaw9.PathFaults'. -/
def pathFaultsCard : Claim7 := { stood := { row := pathFaultsRow, standIns := [], harness := (true, "019a99224d97a0ee10e24bb4f01517644a4c654c627f4d998bf482386b93b177"), looks := true }, kinds := [], alts := [], laidByText := true, laidKinds := [.sentinel, .sentinel, .sentinel, .sentinel, .sentinel], laidTests := true, laidLooks := .later }
def PathFaultsCardSaid : Prop := Claim7.holds Tryd.pinned (.plain (OpenSpec.ofChange pathFaultsSpec)) pathFaultsCard

/-- THE TIED CARD OF 'turnkeylaw9.PathFills'. -/
def pathFillsCard : Claim7 := { stood := { row := pathFillsRow, standIns := [], harness := (true, "019a99224d97a0ee10e24bb4f01517644a4c654c627f4d998bf482386b93b177"), looks := true }, kinds := [], alts := [], laidByText := true, laidKinds := [.sentinel, .sentinel, .sentinel, .sentinel, .sentinel], laidTests := true, laidLooks := .later }
def PathFillsCardSaid : Prop := Claim7.holds Tryd.pinned (.plain (OpenSpec.ofChange pathFillsSpec)) pathFillsCard

/-- THE TIED CARD OF 'turnkeylaw9.PathLow'. -/
def pathLowCard : Claim7 := { stood := { row := pathLowRow, standIns := [], harness := (true, "019a99224d97a0ee10e24bb4f01517644a4c654c627f4d998bf482386b93b177"), looks := true }, kinds := [], alts := [], laidByText := true, laidKinds := [.sentinel, .sentinel, .sentinel, .sentinel, .sentinel], laidTests := true, laidLooks := .later }
def PathLowCardSaid : Prop := Claim7.holds Tryd.pinned (.plain (OpenSpec.ofChange pathLowSpec)) pathLowCard

/-- THE TIED CARD OF 'turnkeylaw10.CacheRoots'. -/
def cacheRootsCard : Claim7 := { stood := { row := cacheRootsRow, standIns := [], harness := (true, "019a99224d97a0ee10e24bb4f01517644a4c654c627f4d998bf482386b93b177"), looks := true }, kinds := [], alts := [], laidByText := true, laidKinds := [.sentinel, .sentinel, .sentinel, .sentinel, .sentinel], laidTests := true, laidLooks := .later }
def CacheRootsCardSaid : Prop := Claim7.holds Tryd.pinned (.plain (OpenSpec.ofChange cacheRootsSpec)) cacheRootsCard

/-- THE TIED CARD OF 'turnkeylaw10.CacheEldest'. -/
def cacheEldestCard : Claim7 := { stood := { row := cacheEldestRow, standIns := [], harness := (true, "019a99224d97a0ee10e24bb4f01517644a4c654c627f4d998bf482386b93b177"), looks := true }, kinds := [], alts := [], laidByText := true, laidKinds := [.sentinel, .sentinel, .sentinel, .sentinel, .sentinel, .sentinel, .sentinel, .sentinel, .sentinel, .sentinel, .sentinel, .sentinel], laidTests := true, laidLooks := .later }
def CacheEldestCardSaid : Prop := Claim7.holds Tryd.pinned (.plain (OpenSpec.ofChange cacheEldestSpec)) cacheEldestCard

/-- THE TIED CARD OF 'turnkeylaw10.CacheGone'. -/
def cacheGoneCard : Claim7 := { stood := { row := cacheGoneRow, standIns := [], harness := (true, "019a99224d97a0ee10e24bb4f01517644a4c654c627f4d998bf482386b93b177"), looks := true }, kinds := [], alts := [], laidByText := true, laidKinds := [.sentinel, .sentinel, .sentinel, .sentinel, .sentinel], laidTests := true, laidLooks := .later }
def CacheGoneCardSaid : Prop := Claim7.holds Tryd.pinned (.plain (OpenSpec.ofChange cacheGoneSpec)) cacheGoneCard

/-- THE TIED CARD OF 'turnkeylaw10.CacheFinds'. -/
def cacheFindsCard : Claim7 := { stood := { row := cacheFindsRow, standIns := [], harness := (true, "019a99224d97a0ee10e24bb4f01517644a4c654c627f4d998bf482386b93b177"), looks := true }, kinds := [], alts := [], laidByText := true, laidKinds := [.sentinel, .sentinel, .sentinel, .sentinel, .sentinel], laidTests := true, laidLooks := .later }
def CacheFindsCardSaid : Prop := Claim7.holds Tryd.pinned (.plain (OpenSpec.ofChange cacheFindsSpec)) cacheFindsCard

/-- THE TIED CARD OF 'turnkeylaw10.CacheHits'. -/
def cacheHitsCard : Claim7 := { stood := { row := cacheHitsRow, standIns := [], harness := (true, "019a99224d97a0ee10e24bb4f01517644a4c654c627f4d998bf482386b93b177"), looks := true }, kinds := [], alts := [], laidByText := true, laidKinds := [.sentinel, .sentinel, .sentinel, .sentinel, .sentinel], laidTests := true, laidLooks := .later }
def CacheHitsCardSaid : Prop := Claim7.holds Tryd.pinned (.plain (OpenSpec.ofChange cacheHitsSpec)) cacheHitsCard

/-- THE SECOND FORM's CARD OF 'turnkeylaw9.PathRights'. -/
def pathRightsUptoCard : Claim7 := { stood := { row := pathRightsUptoRow, standIns := [], harness := (true, "019a99224d97a0ee10e24bb4f01517644a4c654c627f4d998bf482386b93b177"), looks := true }, kinds := [], alts := [], laidByText := true, laidKinds := [.sentinel, .sentinel, .sentinel, .sentinel, .sentinel], laidTests := true, laidLooks := .later }
def PathRightsUptoCardSaid : Prop := Claim7.holds Tryd.pinned (.plain (OpenSpec.upto pathRightsSpec)) pathRightsUptoCard

/-- THE SECOND FORM's CARD OF 'turnkeylaw9.PathLoops'. -/
def pathLoopsUptoCard : Claim7 := { stood := { row := pathLoopsUptoRow, standIns := [], harness := (true, "019a99224d97a0ee10e24bb4f01517644a4c654c627f4d998bf482386b93b177"), looks := true }, kinds := [], alts := [], laidByText := true, laidKinds := [.sentinel, .sentinel, .sentinel, .sentinel, .sentinel], laidTests := true, laidLooks := .later }
def PathLoopsUptoCardSaid : Prop := Claim7.holds Tryd.pinned (.plain (OpenSpec.upto pathLoopsSpec)) pathLoopsUptoCard

/-- THE SECOND FORM's CARD OF 'turnkeylaw9.PathFaults'. -/
def pathFaultsUptoCard : Claim7 := { stood := { row := pathFaultsUptoRow, standIns := [], harness := (true, "019a99224d97a0ee10e24bb4f01517644a4c654c627f4d998bf482386b93b177"), looks := true }, kinds := [], alts := [], laidByText := true, laidKinds := [.sentinel, .sentinel, .sentinel, .sentinel, .sentinel], laidTests := true, laidLooks := .later }
def PathFaultsUptoCardSaid : Prop := Claim7.holds Tryd.pinned (.plain (OpenSpec.upto pathFaultsSpec)) pathFaultsUptoCard

/-- THE SECOND FORM's CARD OF 'turnkeylaw9.PathFills'. -/
def pathFillsUptoCard : Claim7 := { stood := { row := pathFillsUptoRow, standIns := [], harness := (true, "019a99224d97a0ee10e24bb4f01517644a4c654c627f4d998bf482386b93b177"), looks := true }, kinds := [], alts := [], laidByText := true, laidKinds := [.sentinel, .sentinel, .sentinel, .sentinel, .sentinel], laidTests := true, laidLooks := .later }
def PathFillsUptoCardSaid : Prop := Claim7.holds Tryd.pinned (.plain (OpenSpec.upto pathFillsSpec)) pathFillsUptoCard

/-- THE SECOND FORM's CARD OF 'turnkeylaw9.PathLow'. -/
def pathLowUptoCard : Claim7 := { stood := { row := pathLowUptoRow, standIns := [], harness := (true, "019a99224d97a0ee10e24bb4f01517644a4c654c627f4d998bf482386b93b177"), looks := true }, kinds := [], alts := [], laidByText := true, laidKinds := [.sentinel, .sentinel, .sentinel, .sentinel, .sentinel], laidTests := true, laidLooks := .later }
def PathLowUptoCardSaid : Prop := Claim7.holds Tryd.pinned (.plain (OpenSpec.upto pathLowSpec)) pathLowUptoCard

/-- THE SECOND FORM's CARD OF 'turnkeylaw10.CacheRoots'. -/
def cacheRootsUptoCard : Claim7 := { stood := { row := cacheRootsUptoRow, standIns := [], harness := (true, "019a99224d97a0ee10e24bb4f01517644a4c654c627f4d998bf482386b93b177"), looks := true }, kinds := [], alts := [], laidByText := true, laidKinds := [.sentinel, .sentinel, .sentinel, .sentinel, .sentinel], laidTests := true, laidLooks := .later }
def CacheRootsUptoCardSaid : Prop := Claim7.holds Tryd.pinned (.plain (OpenSpec.upto cacheRootsSpec)) cacheRootsUptoCard

/-- THE SECOND FORM's CARD OF 'turnkeylaw10.CacheEldest'. -/
def cacheEldestUptoCard : Claim7 := { stood := { row := cacheEldestUptoRow, standIns := [], harness := (true, "019a99224d97a0ee10e24bb4f01517644a4c654c627f4d998bf482386b93b177"), looks := true }, kinds := [], alts := [], laidByText := true, laidKinds := [.sentinel, .sentinel, .sentinel, .sentinel, .sentinel, .sentinel, .sentinel, .sentinel, .sentinel, .sentinel, .sentinel, .sentinel], laidTests := true, laidLooks := .later }
def CacheEldestUptoCardSaid : Prop := Claim7.holds Tryd.pinned (.plain (OpenSpec.upto cacheEldestSpec)) cacheEldestUptoCard

/-- THE SECOND FORM's CARD OF 'turnkeylaw10.CacheGone'. -/
def cacheGoneUptoCard : Claim7 := { stood := { row := cacheGoneUptoRow, standIns := [], harness := (true, "019a99224d97a0ee10e24bb4f01517644a4c654c627f4d998bf482386b93b177"), looks := true }, kinds := [], alts := [], laidByText := true, laidKinds := [.sentinel, .sentinel, .sentinel, .sentinel, .sentinel], laidTests := true, laidLooks := .later }
def CacheGoneUptoCardSaid : Prop := Claim7.holds Tryd.pinned (.plain (OpenSpec.upto cacheGoneSpec)) cacheGoneUptoCard

/-- THE SECOND FORM's CARD OF 'turnkeylaw10.CacheFinds'. -/
def cacheFindsUptoCard : Claim7 := { stood := { row := cacheFindsUptoRow, standIns := [], harness := (true, "019a99224d97a0ee10e24bb4f01517644a4c654c627f4d998bf482386b93b177"), looks := true }, kinds := [], alts := [], laidByText := true, laidKinds := [.sentinel, .sentinel, .sentinel, .sentinel, .sentinel], laidTests := true, laidLooks := .later }
def CacheFindsUptoCardSaid : Prop := Claim7.holds Tryd.pinned (.plain (OpenSpec.upto cacheFindsSpec)) cacheFindsUptoCard

/-- THE SECOND FORM's CARD OF 'turnkeylaw10.CacheHits'. -/
def cacheHitsUptoCard : Claim7 := { stood := { row := cacheHitsUptoRow, standIns := [], harness := (true, "019a99224d97a0ee10e24bb4f01517644a4c654c627f4d998bf482386b93b177"), looks := true }, kinds := [], alts := [], laidByText := true, laidKinds := [.sentinel, .sentinel, .sentinel, .sentinel, .sentinel], laidTests := true, laidLooks := .later }
def CacheHitsUptoCardSaid : Prop := Claim7.holds Tryd.pinned (.plain (OpenSpec.upto cacheHitsSpec)) cacheHitsUptoCard
end Rows
end Go.Proofs.YtgaabaohkpjllaaDoor
