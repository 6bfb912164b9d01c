/-
  DERIVED. GIVEN WITH THE SEED: THE CARDS: each row of YtnfefbhjdncccaaDoorRows.lean that lists a variable, with what it lists TIED to the program's text (the seventh form; the later family's looks); each row that meets fmt, with fmt's text TOLD by the authors' own Lean function (tested against real Go, not proved from fmt's source: count such statements apart). THE CARD IS WHAT COUNTS. Prove the row's statement (the work); the ties are given (YtnfefbhjdncccaaDoorTie.lean); close each card by the builder's one call (the guide's Derived/Test/ToyasCard.lean, 'card_holds'). Laid BY PROGRAM, IN A SANDBOX (cutbox-door.mjs). By AI agents, Wed Nov 11 2026. No macro, syntax, notation, axiom, sorry.
-/
import Derived.Test.YtnfefbhjdncccaaDoorRows
import GoSem.ClaimSeven
namespace Go.Proofs.YtnfefbhjdncccaaDoor
namespace Rows

/-- THE TIED CARD OF 'turnkeylaw11.MemWords'. -/
def memWordsCard : Claim7 := { stood := { row := memWordsRow, standIns := [], harness := (true, "e79c842cd0eff89232ea7fcffb86496da4c5177d3145343c68c425349bf8bed8"), looks := true }, kinds := [], alts := [], laidByText := true, laidKinds := [.sentinel, .sentinel, .sentinel, .sentinel, .sentinel], laidTests := true, laidLooks := .later }
def MemWordsCardSaid : Prop := Claim7.holds Tryd.pinned (.plain (OpenSpec.ofChange memWordsSpec)) memWordsCard

/-- THE TIED CARD OF 'turnkeylaw11.MemReadOnly'. -/
def memReadOnlyCard : Claim7 := { stood := { row := memReadOnlyRow, standIns := [], harness := (true, "e79c842cd0eff89232ea7fcffb86496da4c5177d3145343c68c425349bf8bed8"), looks := true }, kinds := [], alts := [], laidByText := true, laidKinds := [.sentinel, .sentinel, .sentinel, .sentinel, .sentinel], laidTests := true, laidLooks := .later }
def MemReadOnlyCardSaid : Prop := Claim7.holds Tryd.pinned (.plain (OpenSpec.ofChange memReadOnlySpec)) memReadOnlyCard

/-- THE TIED CARD OF 'turnkeylaw11.MemStale'. -/
def memStaleCard : Claim7 := { stood := { row := memStaleRow, standIns := [], harness := (true, "e79c842cd0eff89232ea7fcffb86496da4c5177d3145343c68c425349bf8bed8"), looks := true }, kinds := [], alts := [], laidByText := true, laidKinds := [.sentinel, .sentinel, .sentinel, .sentinel, .sentinel], laidTests := true, laidLooks := .later }
def MemStaleCardSaid : Prop := Claim7.holds Tryd.pinned (.plain (OpenSpec.ofChange memStaleSpec)) memStaleCard

/-- THE TIED CARD OF 'turnkeylaw11.MemSets'. -/
def memSetsCard : Claim7 := { stood := { row := memSetsRow, standIns := [], harness := (true, "e79c842cd0eff89232ea7fcffb86496da4c5177d3145343c68c425349bf8bed8"), looks := true }, kinds := [], alts := [], laidByText := true, laidKinds := [.sentinel, .sentinel, .sentinel, .sentinel, .sentinel, .sentinel], laidTests := true, laidLooks := .later }
def MemSetsCardSaid : Prop := Claim7.holds Tryd.pinned (.plain (OpenSpec.ofChange memSetsSpec)) memSetsCard

/-- THE TIED CARD OF 'turnkeylaw17.CpuFaults'. -/
def cpuFaultsCard : Claim7 := { stood := { row := cpuFaultsRow, standIns := [], harness := (true, "e79c842cd0eff89232ea7fcffb86496da4c5177d3145343c68c425349bf8bed8"), looks := true }, kinds := [], alts := [], laidByText := true, laidKinds := [.sentinel, .sentinel, .sentinel, .sentinel, .sentinel], laidTests := true, laidLooks := .later }
def CpuFaultsCardSaid : Prop := Claim7.holds Tryd.pinned (.plain (OpenSpec.ofChange cpuFaultsSpec)) cpuFaultsCard

/-- THE TIED CARD OF 'turnkeylaw17.CpuInvokes'. -/
def cpuInvokesCard : Claim7 := { stood := { row := cpuInvokesRow, standIns := [], harness := (true, "e79c842cd0eff89232ea7fcffb86496da4c5177d3145343c68c425349bf8bed8"), looks := true }, kinds := [], alts := [], laidByText := true, laidKinds := [.sentinel, .sentinel, .sentinel, .sentinel, .sentinel], laidTests := true, laidLooks := .later }
def CpuInvokesCardSaid : Prop := Claim7.holds Tryd.pinned (.plain (OpenSpec.ofChange cpuInvokesSpec)) cpuInvokesCard

/-- THE TIED CARD OF 'turnkeylaw17.CpuJumps'. -/
def cpuJumpsCard : Claim7 := { stood := { row := cpuJumpsRow, standIns := [], harness := (true, "e79c842cd0eff89232ea7fcffb86496da4c5177d3145343c68c425349bf8bed8"), looks := true }, kinds := [], alts := [], laidByText := true, laidKinds := [.sentinel, .sentinel, .sentinel, .sentinel, .sentinel], laidTests := true, laidLooks := .later }
def CpuJumpsCardSaid : Prop := Claim7.holds Tryd.pinned (.plain (OpenSpec.ofChange cpuJumpsSpec)) cpuJumpsCard

/-- THE TIED CARD OF 'turnkeylaw17.CpuTakes'. -/
def cpuTakesCard : Claim7 := { stood := { row := cpuTakesRow, standIns := [], harness := (true, "e79c842cd0eff89232ea7fcffb86496da4c5177d3145343c68c425349bf8bed8"), looks := true }, kinds := [], alts := [], laidByText := true, laidKinds := [.sentinel, .sentinel, .sentinel, .sentinel, .sentinel], laidTests := true, laidLooks := .later }
def CpuTakesCardSaid : Prop := Claim7.holds Tryd.pinned (.plain (OpenSpec.ofChange cpuTakesSpec)) cpuTakesCard

/-- THE TIED CARD OF 'turnkeylaw17.CpuSteps'. -/
def cpuStepsCard : Claim7 := { stood := { row := cpuStepsRow, standIns := [], harness := (true, "e79c842cd0eff89232ea7fcffb86496da4c5177d3145343c68c425349bf8bed8"), looks := true }, kinds := [], alts := [], laidByText := true, laidKinds := [.sentinel, .sentinel, .sentinel, .sentinel, .sentinel], laidTests := true, laidLooks := .later }
def CpuStepsCardSaid : Prop := Claim7.holds Tryd.pinned (.plain (OpenSpec.ofChange cpuStepsSpec)) cpuStepsCard

/-- THE TIED CARD OF 'turnkeylaw17.CpuSums'. -/
def cpuSumsCard : Claim7 := { stood := { row := cpuSumsRow, standIns := [], harness := (true, "e79c842cd0eff89232ea7fcffb86496da4c5177d3145343c68c425349bf8bed8"), looks := true }, kinds := [], alts := [], laidByText := true, laidKinds := [.sentinel, .sentinel, .sentinel, .sentinel, .sentinel, .sentinel, .sentinel, .sentinel, .sentinel, .sentinel, .sentinel, .sentinel], laidTests := true, laidLooks := .later }
def CpuSumsCardSaid : Prop := Claim7.holds Tryd.pinned (.plain (OpenSpec.ofChange cpuSumsSpec)) cpuSumsCard

/-- THE TIED CARD OF 'turnkeylaw17.CpuStores'. -/
def cpuStoresCard : Claim7 := { stood := { row := cpuStoresRow, standIns := [], harness := (true, "e79c842cd0eff89232ea7fcffb86496da4c5177d3145343c68c425349bf8bed8"), looks := true }, kinds := [], alts := [], laidByText := true, laidKinds := [.sentinel, .sentinel, .sentinel, .sentinel, .sentinel], laidTests := true, laidLooks := .later }
def CpuStoresCardSaid : Prop := Claim7.holds Tryd.pinned (.plain (OpenSpec.ofChange cpuStoresSpec)) cpuStoresCard

/-- THE TIED CARD OF 'turnkeylaw17.CpuKeys'. -/
def cpuKeysCard : Claim7 := { stood := { row := cpuKeysRow, standIns := [], harness := (true, "e79c842cd0eff89232ea7fcffb86496da4c5177d3145343c68c425349bf8bed8"), looks := true }, kinds := [], alts := [], laidByText := true, laidKinds := [.sentinel, .sentinel, .sentinel, .sentinel, .sentinel], laidTests := true, laidLooks := .later }
def CpuKeysCardSaid : Prop := Claim7.holds Tryd.pinned (.plain (OpenSpec.ofChange cpuKeysSpec)) cpuKeysCard

/-- THE SECOND FORM's CARD OF 'turnkeylaw11.MemWords'. -/
def memWordsUptoCard : Claim7 := { stood := { row := memWordsUptoRow, standIns := [], harness := (true, "e79c842cd0eff89232ea7fcffb86496da4c5177d3145343c68c425349bf8bed8"), looks := true }, kinds := [], alts := [], laidByText := true, laidKinds := [.sentinel, .sentinel, .sentinel, .sentinel, .sentinel], laidTests := true, laidLooks := .later }
def MemWordsUptoCardSaid : Prop := Claim7.holds Tryd.pinned (.plain (OpenSpec.upto memWordsSpec)) memWordsUptoCard

/-- THE SECOND FORM's CARD OF 'turnkeylaw11.MemReadOnly'. -/
def memReadOnlyUptoCard : Claim7 := { stood := { row := memReadOnlyUptoRow, standIns := [], harness := (true, "e79c842cd0eff89232ea7fcffb86496da4c5177d3145343c68c425349bf8bed8"), looks := true }, kinds := [], alts := [], laidByText := true, laidKinds := [.sentinel, .sentinel, .sentinel, .sentinel, .sentinel], laidTests := true, laidLooks := .later }
def MemReadOnlyUptoCardSaid : Prop := Claim7.holds Tryd.pinned (.plain (OpenSpec.upto memReadOnlySpec)) memReadOnlyUptoCard

/-- THE SECOND FORM's CARD OF 'turnkeylaw11.MemStale'. -/
def memStaleUptoCard : Claim7 := { stood := { row := memStaleUptoRow, standIns := [], harness := (true, "e79c842cd0eff89232ea7fcffb86496da4c5177d3145343c68c425349bf8bed8"), looks := true }, kinds := [], alts := [], laidByText := true, laidKinds := [.sentinel, .sentinel, .sentinel, .sentinel, .sentinel], laidTests := true, laidLooks := .later }
def MemStaleUptoCardSaid : Prop := Claim7.holds Tryd.pinned (.plain (OpenSpec.upto memStaleSpec)) memStaleUptoCard

/-- THE SECOND FORM's CARD OF 'turnkeylaw11.MemSets'. -/
def memSetsUptoCard : Claim7 := { stood := { row := memSetsUptoRow, standIns := [], harness := (true, "e79c842cd0eff89232ea7fcffb86496da4c5177d3145343c68c425349bf8bed8"), looks := true }, kinds := [], alts := [], laidByText := true, laidKinds := [.sentinel, .sentinel, .sentinel, .sentinel, .sentinel, .sentinel], laidTests := true, laidLooks := .later }
def MemSetsUptoCardSaid : Prop := Claim7.holds Tryd.pinned (.plain (OpenSpec.upto memSetsSpec)) memSetsUptoCard

/-- THE SECOND FORM's CARD OF 'turnkeylaw17.CpuFaults'. -/
def cpuFaultsUptoCard : Claim7 := { stood := { row := cpuFaultsUptoRow, standIns := [], harness := (true, "e79c842cd0eff89232ea7fcffb86496da4c5177d3145343c68c425349bf8bed8"), looks := true }, kinds := [], alts := [], laidByText := true, laidKinds := [.sentinel, .sentinel, .sentinel, .sentinel, .sentinel], laidTests := true, laidLooks := .later }
def CpuFaultsUptoCardSaid : Prop := Claim7.holds Tryd.pinned (.plain (OpenSpec.upto cpuFaultsSpec)) cpuFaultsUptoCard

/-- THE SECOND FORM's CARD OF 'turnkeylaw17.CpuInvokes'. -/
def cpuInvokesUptoCard : Claim7 := { stood := { row := cpuInvokesUptoRow, standIns := [], harness := (true, "e79c842cd0eff89232ea7fcffb86496da4c5177d3145343c68c425349bf8bed8"), looks := true }, kinds := [], alts := [], laidByText := true, laidKinds := [.sentinel, .sentinel, .sentinel, .sentinel, .sentinel], laidTests := true, laidLooks := .later }
def CpuInvokesUptoCardSaid : Prop := Claim7.holds Tryd.pinned (.plain (OpenSpec.upto cpuInvokesSpec)) cpuInvokesUptoCard

/-- THE SECOND FORM's CARD OF 'turnkeylaw17.CpuJumps'. -/
def cpuJumpsUptoCard : Claim7 := { stood := { row := cpuJumpsUptoRow, standIns := [], harness := (true, "e79c842cd0eff89232ea7fcffb86496da4c5177d3145343c68c425349bf8bed8"), looks := true }, kinds := [], alts := [], laidByText := true, laidKinds := [.sentinel, .sentinel, .sentinel, .sentinel, .sentinel], laidTests := true, laidLooks := .later }
def CpuJumpsUptoCardSaid : Prop := Claim7.holds Tryd.pinned (.plain (OpenSpec.upto cpuJumpsSpec)) cpuJumpsUptoCard

/-- THE SECOND FORM's CARD OF 'turnkeylaw17.CpuTakes'. -/
def cpuTakesUptoCard : Claim7 := { stood := { row := cpuTakesUptoRow, standIns := [], harness := (true, "e79c842cd0eff89232ea7fcffb86496da4c5177d3145343c68c425349bf8bed8"), looks := true }, kinds := [], alts := [], laidByText := true, laidKinds := [.sentinel, .sentinel, .sentinel, .sentinel, .sentinel], laidTests := true, laidLooks := .later }
def CpuTakesUptoCardSaid : Prop := Claim7.holds Tryd.pinned (.plain (OpenSpec.upto cpuTakesSpec)) cpuTakesUptoCard

/-- THE SECOND FORM's CARD OF 'turnkeylaw17.CpuSteps'. -/
def cpuStepsUptoCard : Claim7 := { stood := { row := cpuStepsUptoRow, standIns := [], harness := (true, "e79c842cd0eff89232ea7fcffb86496da4c5177d3145343c68c425349bf8bed8"), looks := true }, kinds := [], alts := [], laidByText := true, laidKinds := [.sentinel, .sentinel, .sentinel, .sentinel, .sentinel], laidTests := true, laidLooks := .later }
def CpuStepsUptoCardSaid : Prop := Claim7.holds Tryd.pinned (.plain (OpenSpec.upto cpuStepsSpec)) cpuStepsUptoCard

/-- THE SECOND FORM's CARD OF 'turnkeylaw17.CpuSums'. -/
def cpuSumsUptoCard : Claim7 := { stood := { row := cpuSumsUptoRow, standIns := [], harness := (true, "e79c842cd0eff89232ea7fcffb86496da4c5177d3145343c68c425349bf8bed8"), looks := true }, kinds := [], alts := [], laidByText := true, laidKinds := [.sentinel, .sentinel, .sentinel, .sentinel, .sentinel, .sentinel, .sentinel, .sentinel, .sentinel, .sentinel, .sentinel, .sentinel], laidTests := true, laidLooks := .later }
def CpuSumsUptoCardSaid : Prop := Claim7.holds Tryd.pinned (.plain (OpenSpec.upto cpuSumsSpec)) cpuSumsUptoCard

/-- THE SECOND FORM's CARD OF 'turnkeylaw17.CpuStores'. -/
def cpuStoresUptoCard : Claim7 := { stood := { row := cpuStoresUptoRow, standIns := [], harness := (true, "e79c842cd0eff89232ea7fcffb86496da4c5177d3145343c68c425349bf8bed8"), looks := true }, kinds := [], alts := [], laidByText := true, laidKinds := [.sentinel, .sentinel, .sentinel, .sentinel, .sentinel], laidTests := true, laidLooks := .later }
def CpuStoresUptoCardSaid : Prop := Claim7.holds Tryd.pinned (.plain (OpenSpec.upto cpuStoresSpec)) cpuStoresUptoCard

/-- THE SECOND FORM's CARD OF 'turnkeylaw17.CpuKeys'. -/
def cpuKeysUptoCard : Claim7 := { stood := { row := cpuKeysUptoRow, standIns := [], harness := (true, "e79c842cd0eff89232ea7fcffb86496da4c5177d3145343c68c425349bf8bed8"), looks := true }, kinds := [], alts := [], laidByText := true, laidKinds := [.sentinel, .sentinel, .sentinel, .sentinel, .sentinel], laidTests := true, laidLooks := .later }
def CpuKeysUptoCardSaid : Prop := Claim7.holds Tryd.pinned (.plain (OpenSpec.upto cpuKeysSpec)) cpuKeysUptoCard
end Rows
end Go.Proofs.YtnfefbhjdncccaaDoor
