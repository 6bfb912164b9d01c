/-
  DERIVED. GIVEN WITH THE SEED: THE CARDS: each row of YtcbogififkanjaaDoorRows.lean that lists a variable, with what it lists TIED to the program's text (the seventh form; the later family's looks); each row that meets fmt, with fmt's text TOLD by the authors' own Lean function (tested against real Go, not proved from fmt's source: count such statements apart). THE CARD IS WHAT COUNTS. Prove the row's statement (the work); the ties are given (YtcbogififkanjaaDoorTie.lean); close each card by the builder's one call (the guide's Derived/Test/ToyasCard.lean, 'card_holds'). Laid BY PROGRAM, IN A SANDBOX (cutbox-door.mjs). By AI agents, Wed Nov 11 2026. No macro, syntax, notation, axiom, sorry.
-/
import Derived.Test.YtcbogififkanjaaDoorRows
import GoSem.ClaimSeven
namespace Go.Proofs.YtcbogififkanjaaDoor
namespace Rows

/-- THE TIED CARD OF 'turnkeylaw4.ArenaLeast'. -/
def arenaLeastCard : Claim7 := { stood := { row := arenaLeastRow, standIns := [], harness := (true, "d3ed84d570511727e778cacb817d731556e4da96af5d792a9284ddee01a714da"), looks := false }, kinds := [], alts := [], laidByText := true, laidKinds := [.sentinel, .sentinel, .sentinel], laidTests := true, laidLooks := .later }
def ArenaLeastCardSaid : Prop := Claim7.holds Tryd.pinned (.plain (OpenSpec.ofChange arenaLeastSpec)) arenaLeastCard

/-- THE TIED CARD OF 'turnkeylaw4.ArenaVersions'. -/
def arenaVersionsCard : Claim7 := { stood := { row := arenaVersionsRow, standIns := [], harness := (true, "d3ed84d570511727e778cacb817d731556e4da96af5d792a9284ddee01a714da"), looks := false }, kinds := [], alts := [], laidByText := true, laidKinds := [.sentinel, .sentinel, .sentinel], laidTests := true, laidLooks := .later }
def ArenaVersionsCardSaid : Prop := Claim7.holds Tryd.pinned (.plain (OpenSpec.ofChange arenaVersionsSpec)) arenaVersionsCard

/-- THE SECOND FORM's CARD OF 'turnkeylaw4.ArenaLeast'. -/
def arenaLeastUptoCard : Claim7 := { stood := { row := arenaLeastUptoRow, standIns := [], harness := (true, "d3ed84d570511727e778cacb817d731556e4da96af5d792a9284ddee01a714da"), looks := false }, kinds := [], alts := [], laidByText := true, laidKinds := [.sentinel, .sentinel, .sentinel], laidTests := true, laidLooks := .later }
def ArenaLeastUptoCardSaid : Prop := Claim7.holds Tryd.pinned (.plain (OpenSpec.upto arenaLeastSpec)) arenaLeastUptoCard

/-- THE SECOND FORM's CARD OF 'turnkeylaw4.ArenaVersions'. -/
def arenaVersionsUptoCard : Claim7 := { stood := { row := arenaVersionsUptoRow, standIns := [], harness := (true, "d3ed84d570511727e778cacb817d731556e4da96af5d792a9284ddee01a714da"), looks := false }, kinds := [], alts := [], laidByText := true, laidKinds := [.sentinel, .sentinel, .sentinel], laidTests := true, laidLooks := .later }
def ArenaVersionsUptoCardSaid : Prop := Claim7.holds Tryd.pinned (.plain (OpenSpec.upto arenaVersionsSpec)) arenaVersionsUptoCard
end Rows
end Go.Proofs.YtcbogififkanjaaDoor
