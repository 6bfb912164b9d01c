/-
  NARROWER THAN 'FOR EVERY INPUT', by the rows' own cells (each row's printed sentence says how): MemWords: laid · MemReadOnly: laid · MemStale: laid · MemSets: laid · CpuFaults: laid · CpuInvokes: laid · CpuJumps: laid · CpuTakes: laid · CpuSteps: laid · CpuSums: laid · CpuStores: laid · CpuKeys: laid.
  DERIVED. THE GIVEN ROWS OF THIS SEAT. 12 by the template 'for every input the law returns true; each argument reads behind the call as it read before'; 0 by the template 'total and deterministic' (their statements: YtnfefbhjdncccaaDoorTotals.lean).
  GIVEN WITH THE SEED: the statements are not yours to turn. If you find one false, say at which input.
  Laid BY PROGRAM, IN A SANDBOX (cutbox-rows.mjs): the forced cells as the released guide's own fill.sh prints them over the translation a57f0d2eb6ce94b9… (all of the seat's roots in one cut). By AI agents, Wed Nov 11 2026. No macro, syntax, notation, axiom, sorry.
-/
import Derived.Test.YtnfefbhjdncccaaDoorChecked
import GoSem.Claim
import GoSem.ClaimJoined
import GoSem.ClaimMapViews
import Derived.JoinedTies
import Derived.KernelRfl
namespace Go.Proofs.YtnfefbhjdncccaaDoor
/- THE CELL 'sum', in the pinned program and in every row, IS THE sha256 OF THE DUMP (.gsa) THAT YtnfefbhjdncccaaDoorProg.lean LOADS. Nothing in Lean hashes anything: it is a label: what it is worth is what the hold of that sum in a sandbox is worth. -/
noncomputable def Tryd.pinned : Pinned := { name := "ytnfefbhjdncccaadoor", sum := "a57f0d2eb6ce94b919706fe733b11cd49336afdfaaf58c1347cf7150e991a86d", checked := Tryd.checked }
namespace Rows
def none {H : Type} : Left H := { results := [], args := [] }

/- WHAT THE LISTED PACKAGE-LEVEL VARIABLES READ AS WHEN THE CALL BEGINS. Each datum BY PROGRAM (the guide's laid-datum.mjs) off the statement by which the dump's own 'gosem.cut.vars' lays the variable. In a bare row this is a premise. The card (YtnfefbhjdncccaaDoorCards.lean) ties it to the program's text. -/
def laid_turnkey_api_ErrShape {H : Type} : DataW H := .iface "*errors.errorString" (.ptr (.agg [.lit (.string [110, 111, 116, 32, 97, 115, 32, 105, 116, 32, 104, 97, 115, 32, 116, 111, 32, 98, 101])]))
def laid_turnkey_api_ErrRange {H : Type} : DataW H := .iface "*errors.errorString" (.ptr (.agg [.lit (.string [97, 32, 110, 117, 109, 98, 101, 114, 32, 111, 117, 116, 32, 111, 102, 32, 105, 116, 115, 32, 114, 97, 110, 103, 101])]))
def laid_turnkey_api_ErrMany {H : Type} : DataW H := .iface "*errors.errorString" (.ptr (.agg [.lit (.string [116, 111, 111, 32, 109, 97, 110, 121])]))
def laid_turnkey_api_ErrNone {H : Type} : DataW H := .iface "*errors.errorString" (.ptr (.agg [.lit (.string [116, 104, 101, 114, 101, 32, 105, 115, 32, 110, 111, 110, 101])]))
def laid_turnkey_api_ErrFull {H : Type} : DataW H := .iface "*errors.errorString" (.ptr (.agg [.lit (.string [116, 104, 101, 114, 101, 32, 105, 115, 32, 110, 111, 32, 114, 111, 111, 109])]))
def laid_turnkey_api_ErrRight {H : Type} : DataW H := .iface "*errors.errorString" (.ptr (.agg [.lit (.string [105, 116, 32, 108, 97, 99, 107, 115, 32, 116, 104, 101, 32, 114, 105, 103, 104, 116])]))
def laid_turnkey_api_ErrWord {H : Type} : DataW H := .iface "*errors.errorString" (.ptr (.agg [.lit (.string [110, 111, 32, 115, 117, 99, 104, 32, 119, 111, 114, 100])]))
def laid_turnkey_api_ErrEnd {H : Type} : DataW H := .iface "*errors.errorString" (.ptr (.agg [.lit (.string [105, 116, 32, 101, 110, 100, 115, 32, 116, 111, 111, 32, 101, 97, 114, 108, 121])]))
def laid_turnkey_api_ErrLimit {H : Type} : DataW H := .iface "*errors.errorString" (.ptr (.agg [.lit (.string [97, 116, 32, 105, 116, 115, 32, 108, 105, 109, 105, 116])]))
def laid_turnkey_api_ErrOwn {H : Type} : DataW H := .iface "*errors.errorString" (.ptr (.agg [.lit (.string [110, 111, 116, 32, 111, 110, 101, 32, 111, 102, 32, 105, 116, 115, 32, 111, 119, 110])]))
def laid_turnkey_api_ErrState {H : Type} : DataW H := .iface "*errors.errorString" (.ptr (.agg [.lit (.string [110, 111, 116, 32, 105, 110, 32, 116, 104, 105, 115, 32, 115, 116, 97, 116, 101])]))
def laid_turnkey_api_ErrNumber {H : Type} : DataW H := .iface "*errors.errorString" (.ptr (.agg [.lit (.string [110, 111, 32, 115, 117, 99, 104, 32, 110, 117, 109, 98, 101, 114])]))

/-- 'turnkeylaw11.MemWords': WHATEVER THE INPUT: true; the input reads as it did. -/
def memWordsSpec : ChangeSpec := { name := "memWords", fn := fun _ => fun
  | [d1, d2] => { results := [.lit (.bool true)], args := [d1, d2] }
  | _ => none }
def memWordsRow : OpenClaim := { program := "ytnfefbhjdncccaadoor", sum := "a57f0d2eb6ce94b919706fe733b11cd49336afdfaaf58c1347cf7150e991a86d", func := "turnkey/turnkeylaw11.MemWords", spec := "memWords", unfollowed := true, recurses := true, named := ["turnkey/api.ErrRange", "turnkey/api.ErrMany", "turnkey/api.ErrFull", "turnkey/api.ErrShape", "turnkey/api.ErrNone"], apart := false, laid := [("turnkey/api.ErrShape", laid_turnkey_api_ErrShape), ("turnkey/api.ErrRange", laid_turnkey_api_ErrRange), ("turnkey/api.ErrMany", laid_turnkey_api_ErrMany), ("turnkey/api.ErrNone", laid_turnkey_api_ErrNone), ("turnkey/api.ErrFull", laid_turnkey_api_ErrFull)] }
def MemWordsSaid : Prop := memWordsRow.holds Tryd.pinned (OpenSpec.ofChange memWordsSpec)

/-- ITS FALSE NEIGHBOUR: 'it returns false'. Refute it at one input. -/
def memWordsWrong : ChangeSpec := { name := "memWords", fn := fun _ => fun
  | [d1, d2] => { results := [.lit (.bool false)], args := [d1, d2] }
  | _ => none }
def MemWordsWrongFalsely : Prop := memWordsRow.holds Tryd.pinned (OpenSpec.ofChange memWordsWrong)

/-- 'turnkeylaw11.MemReadOnly': WHATEVER THE INPUT: true; the input reads as it did. -/
def memReadOnlySpec : ChangeSpec := { name := "memReadOnly", fn := fun _ => fun
  | [d1, d2, d3, d4] => { results := [.lit (.bool true)], args := [d1, d2, d3, d4] }
  | _ => none }
def memReadOnlyRow : OpenClaim := { program := "ytnfefbhjdncccaadoor", sum := "a57f0d2eb6ce94b919706fe733b11cd49336afdfaaf58c1347cf7150e991a86d", func := "turnkey/turnkeylaw11.MemReadOnly", spec := "memReadOnly", unfollowed := true, recurses := true, named := ["turnkey/api.ErrRange", "turnkey/api.ErrMany", "turnkey/api.ErrFull", "turnkey/api.ErrShape", "turnkey/api.ErrNone"], apart := false, laid := [("turnkey/api.ErrShape", laid_turnkey_api_ErrShape), ("turnkey/api.ErrRange", laid_turnkey_api_ErrRange), ("turnkey/api.ErrMany", laid_turnkey_api_ErrMany), ("turnkey/api.ErrNone", laid_turnkey_api_ErrNone), ("turnkey/api.ErrFull", laid_turnkey_api_ErrFull)] }
def MemReadOnlySaid : Prop := memReadOnlyRow.holds Tryd.pinned (OpenSpec.ofChange memReadOnlySpec)

/-- ITS FALSE NEIGHBOUR: 'it returns false'. Refute it at one input. -/
def memReadOnlyWrong : ChangeSpec := { name := "memReadOnly", fn := fun _ => fun
  | [d1, d2, d3, d4] => { results := [.lit (.bool false)], args := [d1, d2, d3, d4] }
  | _ => none }
def MemReadOnlyWrongFalsely : Prop := memReadOnlyRow.holds Tryd.pinned (OpenSpec.ofChange memReadOnlyWrong)

/-- 'turnkeylaw11.MemStale': WHATEVER THE INPUT: true; the input reads as it did. -/
def memStaleSpec : ChangeSpec := { name := "memStale", fn := fun _ => fun
  | [d1, d2, d3] => { results := [.lit (.bool true)], args := [d1, d2, d3] }
  | _ => none }
def memStaleRow : OpenClaim := { program := "ytnfefbhjdncccaadoor", sum := "a57f0d2eb6ce94b919706fe733b11cd49336afdfaaf58c1347cf7150e991a86d", func := "turnkey/turnkeylaw11.MemStale", spec := "memStale", unfollowed := true, recurses := true, named := ["turnkey/api.ErrRange", "turnkey/api.ErrMany", "turnkey/api.ErrFull", "turnkey/api.ErrShape", "turnkey/api.ErrNone"], apart := false, laid := [("turnkey/api.ErrShape", laid_turnkey_api_ErrShape), ("turnkey/api.ErrRange", laid_turnkey_api_ErrRange), ("turnkey/api.ErrMany", laid_turnkey_api_ErrMany), ("turnkey/api.ErrNone", laid_turnkey_api_ErrNone), ("turnkey/api.ErrFull", laid_turnkey_api_ErrFull)] }
def MemStaleSaid : Prop := memStaleRow.holds Tryd.pinned (OpenSpec.ofChange memStaleSpec)

/-- ITS FALSE NEIGHBOUR: 'it returns false'. Refute it at one input. -/
def memStaleWrong : ChangeSpec := { name := "memStale", fn := fun _ => fun
  | [d1, d2, d3] => { results := [.lit (.bool false)], args := [d1, d2, d3] }
  | _ => none }
def MemStaleWrongFalsely : Prop := memStaleRow.holds Tryd.pinned (OpenSpec.ofChange memStaleWrong)

/-- 'turnkeylaw11.MemSets': WHATEVER THE INPUT: true; the input reads as it did. -/
def memSetsSpec : ChangeSpec := { name := "memSets", fn := fun _ => fun
  | [d1, d2] => { results := [.lit (.bool true)], args := [d1, d2] }
  | _ => none }
def memSetsRow : OpenClaim := { program := "ytnfefbhjdncccaadoor", sum := "a57f0d2eb6ce94b919706fe733b11cd49336afdfaaf58c1347cf7150e991a86d", func := "turnkey/turnkeylaw11.MemSets", spec := "memSets", unfollowed := true, recurses := true, named := ["turnkey/api.ErrRange", "turnkey/api.ErrMany", "turnkey/api.ErrFull", "turnkey/api.ErrShape", "turnkey/api.ErrNone", "turnkey/api.ErrRight"], apart := false, laid := [("turnkey/api.ErrShape", laid_turnkey_api_ErrShape), ("turnkey/api.ErrRange", laid_turnkey_api_ErrRange), ("turnkey/api.ErrMany", laid_turnkey_api_ErrMany), ("turnkey/api.ErrNone", laid_turnkey_api_ErrNone), ("turnkey/api.ErrFull", laid_turnkey_api_ErrFull), ("turnkey/api.ErrRight", laid_turnkey_api_ErrRight)] }
def MemSetsSaid : Prop := memSetsRow.holds Tryd.pinned (OpenSpec.ofChange memSetsSpec)

/-- ITS FALSE NEIGHBOUR: 'it returns false'. Refute it at one input. -/
def memSetsWrong : ChangeSpec := { name := "memSets", fn := fun _ => fun
  | [d1, d2] => { results := [.lit (.bool false)], args := [d1, d2] }
  | _ => none }
def MemSetsWrongFalsely : Prop := memSetsRow.holds Tryd.pinned (OpenSpec.ofChange memSetsWrong)

/-- 'turnkeylaw17.CpuFaults': WHATEVER THE INPUT: true; the input reads as it did. -/
def cpuFaultsSpec : ChangeSpec := { name := "cpuFaults", fn := fun _ => fun
  | [d1, d2, d3] => { results := [.lit (.bool true)], args := [d1, d2, d3] }
  | _ => none }
def cpuFaultsRow : OpenClaim := { program := "ytnfefbhjdncccaadoor", sum := "a57f0d2eb6ce94b919706fe733b11cd49336afdfaaf58c1347cf7150e991a86d", func := "turnkey/turnkeylaw17.CpuFaults", spec := "cpuFaults", unfollowed := true, recurses := true, named := ["turnkey/api.ErrRange", "turnkey/api.ErrMany", "turnkey/api.ErrFull", "turnkey/api.ErrShape", "turnkey/api.ErrWord"], apart := false, laid := [("turnkey/api.ErrShape", laid_turnkey_api_ErrShape), ("turnkey/api.ErrRange", laid_turnkey_api_ErrRange), ("turnkey/api.ErrMany", laid_turnkey_api_ErrMany), ("turnkey/api.ErrFull", laid_turnkey_api_ErrFull), ("turnkey/api.ErrWord", laid_turnkey_api_ErrWord)] }
def CpuFaultsSaid : Prop := cpuFaultsRow.holds Tryd.pinned (OpenSpec.ofChange cpuFaultsSpec)

/-- ITS FALSE NEIGHBOUR: 'it returns false'. Refute it at one input. -/
def cpuFaultsWrong : ChangeSpec := { name := "cpuFaults", fn := fun _ => fun
  | [d1, d2, d3] => { results := [.lit (.bool false)], args := [d1, d2, d3] }
  | _ => none }
def CpuFaultsWrongFalsely : Prop := cpuFaultsRow.holds Tryd.pinned (OpenSpec.ofChange cpuFaultsWrong)

/-- 'turnkeylaw17.CpuInvokes': WHATEVER THE INPUT: true; the input reads as it did. -/
def cpuInvokesSpec : ChangeSpec := { name := "cpuInvokes", fn := fun _ => fun
  | [d1, d2, d3, d4] => { results := [.lit (.bool true)], args := [d1, d2, d3, d4] }
  | _ => none }
def cpuInvokesRow : OpenClaim := { program := "ytnfefbhjdncccaadoor", sum := "a57f0d2eb6ce94b919706fe733b11cd49336afdfaaf58c1347cf7150e991a86d", func := "turnkey/turnkeylaw17.CpuInvokes", spec := "cpuInvokes", unfollowed := true, recurses := true, named := ["turnkey/api.ErrRange", "turnkey/api.ErrMany", "turnkey/api.ErrFull", "turnkey/api.ErrShape", "turnkey/api.ErrWord"], apart := false, laid := [("turnkey/api.ErrShape", laid_turnkey_api_ErrShape), ("turnkey/api.ErrRange", laid_turnkey_api_ErrRange), ("turnkey/api.ErrMany", laid_turnkey_api_ErrMany), ("turnkey/api.ErrFull", laid_turnkey_api_ErrFull), ("turnkey/api.ErrWord", laid_turnkey_api_ErrWord)] }
def CpuInvokesSaid : Prop := cpuInvokesRow.holds Tryd.pinned (OpenSpec.ofChange cpuInvokesSpec)

/-- ITS FALSE NEIGHBOUR: 'it returns false'. Refute it at one input. -/
def cpuInvokesWrong : ChangeSpec := { name := "cpuInvokes", fn := fun _ => fun
  | [d1, d2, d3, d4] => { results := [.lit (.bool false)], args := [d1, d2, d3, d4] }
  | _ => none }
def CpuInvokesWrongFalsely : Prop := cpuInvokesRow.holds Tryd.pinned (OpenSpec.ofChange cpuInvokesWrong)

/-- 'turnkeylaw17.CpuJumps': WHATEVER THE INPUT: true; the input reads as it did. -/
def cpuJumpsSpec : ChangeSpec := { name := "cpuJumps", fn := fun _ => fun
  | [d1, d2, d3] => { results := [.lit (.bool true)], args := [d1, d2, d3] }
  | _ => none }
def cpuJumpsRow : OpenClaim := { program := "ytnfefbhjdncccaadoor", sum := "a57f0d2eb6ce94b919706fe733b11cd49336afdfaaf58c1347cf7150e991a86d", func := "turnkey/turnkeylaw17.CpuJumps", spec := "cpuJumps", unfollowed := true, recurses := true, named := ["turnkey/api.ErrRange", "turnkey/api.ErrMany", "turnkey/api.ErrFull", "turnkey/api.ErrShape", "turnkey/api.ErrWord"], apart := false, laid := [("turnkey/api.ErrShape", laid_turnkey_api_ErrShape), ("turnkey/api.ErrRange", laid_turnkey_api_ErrRange), ("turnkey/api.ErrMany", laid_turnkey_api_ErrMany), ("turnkey/api.ErrFull", laid_turnkey_api_ErrFull), ("turnkey/api.ErrWord", laid_turnkey_api_ErrWord)] }
def CpuJumpsSaid : Prop := cpuJumpsRow.holds Tryd.pinned (OpenSpec.ofChange cpuJumpsSpec)

/-- ITS FALSE NEIGHBOUR: 'it returns false'. Refute it at one input. -/
def cpuJumpsWrong : ChangeSpec := { name := "cpuJumps", fn := fun _ => fun
  | [d1, d2, d3] => { results := [.lit (.bool false)], args := [d1, d2, d3] }
  | _ => none }
def CpuJumpsWrongFalsely : Prop := cpuJumpsRow.holds Tryd.pinned (OpenSpec.ofChange cpuJumpsWrong)

/-- 'turnkeylaw17.CpuTakes': WHATEVER THE INPUT: true; the input reads as it did. -/
def cpuTakesSpec : ChangeSpec := { name := "cpuTakes", fn := fun _ => fun
  | [d1, d2, d3, d4, d5] => { results := [.lit (.bool true)], args := [d1, d2, d3, d4, d5] }
  | _ => none }
def cpuTakesRow : OpenClaim := { program := "ytnfefbhjdncccaadoor", sum := "a57f0d2eb6ce94b919706fe733b11cd49336afdfaaf58c1347cf7150e991a86d", func := "turnkey/turnkeylaw17.CpuTakes", spec := "cpuTakes", unfollowed := true, recurses := true, named := ["turnkey/api.ErrRange", "turnkey/api.ErrMany", "turnkey/api.ErrFull", "turnkey/api.ErrShape", "turnkey/api.ErrWord"], apart := false, laid := [("turnkey/api.ErrShape", laid_turnkey_api_ErrShape), ("turnkey/api.ErrRange", laid_turnkey_api_ErrRange), ("turnkey/api.ErrMany", laid_turnkey_api_ErrMany), ("turnkey/api.ErrFull", laid_turnkey_api_ErrFull), ("turnkey/api.ErrWord", laid_turnkey_api_ErrWord)] }
def CpuTakesSaid : Prop := cpuTakesRow.holds Tryd.pinned (OpenSpec.ofChange cpuTakesSpec)

/-- ITS FALSE NEIGHBOUR: 'it returns false'. Refute it at one input. -/
def cpuTakesWrong : ChangeSpec := { name := "cpuTakes", fn := fun _ => fun
  | [d1, d2, d3, d4, d5] => { results := [.lit (.bool false)], args := [d1, d2, d3, d4, d5] }
  | _ => none }
def CpuTakesWrongFalsely : Prop := cpuTakesRow.holds Tryd.pinned (OpenSpec.ofChange cpuTakesWrong)

/-- 'turnkeylaw17.CpuSteps': WHATEVER THE INPUT: true; the input reads as it did. -/
def cpuStepsSpec : ChangeSpec := { name := "cpuSteps", fn := fun _ => fun
  | [d1, d2, d3, d4] => { results := [.lit (.bool true)], args := [d1, d2, d3, d4] }
  | _ => none }
def cpuStepsRow : OpenClaim := { program := "ytnfefbhjdncccaadoor", sum := "a57f0d2eb6ce94b919706fe733b11cd49336afdfaaf58c1347cf7150e991a86d", func := "turnkey/turnkeylaw17.CpuSteps", spec := "cpuSteps", unfollowed := true, recurses := true, named := ["turnkey/api.ErrRange", "turnkey/api.ErrMany", "turnkey/api.ErrFull", "turnkey/api.ErrShape", "turnkey/api.ErrWord"], apart := false, laid := [("turnkey/api.ErrShape", laid_turnkey_api_ErrShape), ("turnkey/api.ErrRange", laid_turnkey_api_ErrRange), ("turnkey/api.ErrMany", laid_turnkey_api_ErrMany), ("turnkey/api.ErrFull", laid_turnkey_api_ErrFull), ("turnkey/api.ErrWord", laid_turnkey_api_ErrWord)] }
def CpuStepsSaid : Prop := cpuStepsRow.holds Tryd.pinned (OpenSpec.ofChange cpuStepsSpec)

/-- ITS FALSE NEIGHBOUR: 'it returns false'. Refute it at one input. -/
def cpuStepsWrong : ChangeSpec := { name := "cpuSteps", fn := fun _ => fun
  | [d1, d2, d3, d4] => { results := [.lit (.bool false)], args := [d1, d2, d3, d4] }
  | _ => none }
def CpuStepsWrongFalsely : Prop := cpuStepsRow.holds Tryd.pinned (OpenSpec.ofChange cpuStepsWrong)

/-- 'turnkeylaw17.CpuSums': WHATEVER THE INPUT: true; the input reads as it did. -/
def cpuSumsSpec : ChangeSpec := { name := "cpuSums", fn := fun _ => fun
  | [d] => { results := [.lit (.bool true)], args := [d] }
  | _ => none }
def cpuSumsRow : OpenClaim := { program := "ytnfefbhjdncccaadoor", sum := "a57f0d2eb6ce94b919706fe733b11cd49336afdfaaf58c1347cf7150e991a86d", func := "turnkey/turnkeylaw17.CpuSums", spec := "cpuSums", unfollowed := true, recurses := true, named := ["turnkey/api.ErrRange", "turnkey/api.ErrMany", "turnkey/api.ErrFull", "turnkey/api.ErrShape", "turnkey/api.ErrWord", "turnkey/api.ErrEnd", "turnkey/api.ErrNone", "turnkey/api.ErrLimit", "turnkey/api.ErrOwn", "turnkey/api.ErrState", "turnkey/api.ErrRight", "turnkey/api.ErrNumber"], apart := false, laid := [("turnkey/api.ErrEnd", laid_turnkey_api_ErrEnd), ("turnkey/api.ErrShape", laid_turnkey_api_ErrShape), ("turnkey/api.ErrRange", laid_turnkey_api_ErrRange), ("turnkey/api.ErrMany", laid_turnkey_api_ErrMany), ("turnkey/api.ErrNone", laid_turnkey_api_ErrNone), ("turnkey/api.ErrFull", laid_turnkey_api_ErrFull), ("turnkey/api.ErrLimit", laid_turnkey_api_ErrLimit), ("turnkey/api.ErrOwn", laid_turnkey_api_ErrOwn), ("turnkey/api.ErrState", laid_turnkey_api_ErrState), ("turnkey/api.ErrRight", laid_turnkey_api_ErrRight), ("turnkey/api.ErrWord", laid_turnkey_api_ErrWord), ("turnkey/api.ErrNumber", laid_turnkey_api_ErrNumber)] }
def CpuSumsSaid : Prop := cpuSumsRow.holds Tryd.pinned (OpenSpec.ofChange cpuSumsSpec)

/-- ITS FALSE NEIGHBOUR: 'it returns false'. Refute it at one input. -/
def cpuSumsWrong : ChangeSpec := { name := "cpuSums", fn := fun _ => fun
  | [d] => { results := [.lit (.bool false)], args := [d] }
  | _ => none }
def CpuSumsWrongFalsely : Prop := cpuSumsRow.holds Tryd.pinned (OpenSpec.ofChange cpuSumsWrong)

/-- 'turnkeylaw17.CpuStores': WHATEVER THE INPUT: true; the input reads as it did. -/
def cpuStoresSpec : ChangeSpec := { name := "cpuStores", fn := fun _ => fun
  | [d1, d2, d3] => { results := [.lit (.bool true)], args := [d1, d2, d3] }
  | _ => none }
def cpuStoresRow : OpenClaim := { program := "ytnfefbhjdncccaadoor", sum := "a57f0d2eb6ce94b919706fe733b11cd49336afdfaaf58c1347cf7150e991a86d", func := "turnkey/turnkeylaw17.CpuStores", spec := "cpuStores", unfollowed := true, recurses := true, named := ["turnkey/api.ErrRange", "turnkey/api.ErrMany", "turnkey/api.ErrFull", "turnkey/api.ErrShape", "turnkey/api.ErrWord"], apart := false, laid := [("turnkey/api.ErrShape", laid_turnkey_api_ErrShape), ("turnkey/api.ErrRange", laid_turnkey_api_ErrRange), ("turnkey/api.ErrMany", laid_turnkey_api_ErrMany), ("turnkey/api.ErrFull", laid_turnkey_api_ErrFull), ("turnkey/api.ErrWord", laid_turnkey_api_ErrWord)] }
def CpuStoresSaid : Prop := cpuStoresRow.holds Tryd.pinned (OpenSpec.ofChange cpuStoresSpec)

/-- ITS FALSE NEIGHBOUR: 'it returns false'. Refute it at one input. -/
def cpuStoresWrong : ChangeSpec := { name := "cpuStores", fn := fun _ => fun
  | [d1, d2, d3] => { results := [.lit (.bool false)], args := [d1, d2, d3] }
  | _ => none }
def CpuStoresWrongFalsely : Prop := cpuStoresRow.holds Tryd.pinned (OpenSpec.ofChange cpuStoresWrong)

/-- 'turnkeylaw17.CpuKeys': WHATEVER THE INPUT: true; the input reads as it did. -/
def cpuKeysSpec : ChangeSpec := { name := "cpuKeys", fn := fun _ => fun
  | [d1, d2, d3, d4] => { results := [.lit (.bool true)], args := [d1, d2, d3, d4] }
  | _ => none }
def cpuKeysRow : OpenClaim := { program := "ytnfefbhjdncccaadoor", sum := "a57f0d2eb6ce94b919706fe733b11cd49336afdfaaf58c1347cf7150e991a86d", func := "turnkey/turnkeylaw17.CpuKeys", spec := "cpuKeys", unfollowed := true, recurses := true, named := ["turnkey/api.ErrRange", "turnkey/api.ErrMany", "turnkey/api.ErrFull", "turnkey/api.ErrShape", "turnkey/api.ErrWord"], apart := false, laid := [("turnkey/api.ErrShape", laid_turnkey_api_ErrShape), ("turnkey/api.ErrRange", laid_turnkey_api_ErrRange), ("turnkey/api.ErrMany", laid_turnkey_api_ErrMany), ("turnkey/api.ErrFull", laid_turnkey_api_ErrFull), ("turnkey/api.ErrWord", laid_turnkey_api_ErrWord)] }
def CpuKeysSaid : Prop := cpuKeysRow.holds Tryd.pinned (OpenSpec.ofChange cpuKeysSpec)

/-- ITS FALSE NEIGHBOUR: 'it returns false'. Refute it at one input. -/
def cpuKeysWrong : ChangeSpec := { name := "cpuKeys", fn := fun _ => fun
  | [d1, d2, d3, d4] => { results := [.lit (.bool false)], args := [d1, d2, d3, d4] }
  | _ => none }
def CpuKeysWrongFalsely : Prop := cpuKeysRow.holds Tryd.pinned (OpenSpec.ofChange cpuKeysWrong)

/- THE SECOND FORM. 'bulk': how many values and letters a reading holds, each counted each time it is reached (what is shared counts as often as it is met; a slice's spare places count too). A statement '..UptoSaid' is the law's where the arguments, and the package variables that the reading takes, are together of bulk at most 1048576: NARROWER than '..Said'. Prove '..Said' where nothing that the law and all that it calls make is longer than what came in: it says more and counts as full. Else prove '..UptoSaid'. A law counts once. -/
mutual
def uptoBulk {H : Type} : DataW H → Nat
  | .lit (.string bytes) => bytes.length + 1
  | .lit _ => 1
  | .nil => 1
  | .ptr d => uptoBulk d + 1
  | .slice elems spare => uptoBulkAll elems + uptoBulkAll spare + 1
  | .agg parts => uptoBulkAll parts + 1
  | .iface _ d => uptoBulk d + 1
  | .map entries => uptoBulkEntries entries + 1
  | .held _ => 1
def uptoBulkAll {H : Type} : List (DataW H) → Nat
  | [] => 0
  | d :: r => uptoBulk d + uptoBulkAll r
def uptoBulkEntries {H : Type} : List (Lit × DataW H) → Nat
  | [] => 0
  | x :: r => uptoBulkEntry x + uptoBulkEntries r
def uptoBulkEntry {H : Type} : Lit × DataW H → Nat
  | (.string bytes, d) => bytes.length + uptoBulk d + 1
  | (_, d) => uptoBulk d + 1
 end
def uptoSmall : (H : Type) → List (DataW H) → Bool := fun _ ds => decide (uptoBulkAll ds ≤ 1048576)
def OpenSpec.upto (s : _root_.Go.ChangeSpec) : _root_.Go.OpenSpec := { _root_.Go.OpenSpec.ofChange s with cond := some uptoSmall }

/-- 'turnkeylaw11.MemWords', WHERE WHAT IT READS IS OF BULK AT MOST 1048576: true; the input reads as it did. -/
def memWordsUptoRow : OpenClaim := { program := "ytnfefbhjdncccaadoor", sum := "a57f0d2eb6ce94b919706fe733b11cd49336afdfaaf58c1347cf7150e991a86d", func := "turnkey/turnkeylaw11.MemWords", spec := "memWords", unfollowed := true, recurses := true, named := ["turnkey/api.ErrRange", "turnkey/api.ErrMany", "turnkey/api.ErrFull", "turnkey/api.ErrShape", "turnkey/api.ErrNone"], apart := false, laid := [("turnkey/api.ErrShape", laid_turnkey_api_ErrShape), ("turnkey/api.ErrRange", laid_turnkey_api_ErrRange), ("turnkey/api.ErrMany", laid_turnkey_api_ErrMany), ("turnkey/api.ErrNone", laid_turnkey_api_ErrNone), ("turnkey/api.ErrFull", laid_turnkey_api_ErrFull)], narrowed := true }
def MemWordsUptoSaid : Prop := memWordsUptoRow.holds Tryd.pinned (OpenSpec.upto memWordsSpec)

/-- 'turnkeylaw11.MemReadOnly', WHERE WHAT IT READS IS OF BULK AT MOST 1048576: true; the input reads as it did. -/
def memReadOnlyUptoRow : OpenClaim := { program := "ytnfefbhjdncccaadoor", sum := "a57f0d2eb6ce94b919706fe733b11cd49336afdfaaf58c1347cf7150e991a86d", func := "turnkey/turnkeylaw11.MemReadOnly", spec := "memReadOnly", unfollowed := true, recurses := true, named := ["turnkey/api.ErrRange", "turnkey/api.ErrMany", "turnkey/api.ErrFull", "turnkey/api.ErrShape", "turnkey/api.ErrNone"], apart := false, laid := [("turnkey/api.ErrShape", laid_turnkey_api_ErrShape), ("turnkey/api.ErrRange", laid_turnkey_api_ErrRange), ("turnkey/api.ErrMany", laid_turnkey_api_ErrMany), ("turnkey/api.ErrNone", laid_turnkey_api_ErrNone), ("turnkey/api.ErrFull", laid_turnkey_api_ErrFull)], narrowed := true }
def MemReadOnlyUptoSaid : Prop := memReadOnlyUptoRow.holds Tryd.pinned (OpenSpec.upto memReadOnlySpec)

/-- 'turnkeylaw11.MemStale', WHERE WHAT IT READS IS OF BULK AT MOST 1048576: true; the input reads as it did. -/
def memStaleUptoRow : OpenClaim := { program := "ytnfefbhjdncccaadoor", sum := "a57f0d2eb6ce94b919706fe733b11cd49336afdfaaf58c1347cf7150e991a86d", func := "turnkey/turnkeylaw11.MemStale", spec := "memStale", unfollowed := true, recurses := true, named := ["turnkey/api.ErrRange", "turnkey/api.ErrMany", "turnkey/api.ErrFull", "turnkey/api.ErrShape", "turnkey/api.ErrNone"], apart := false, laid := [("turnkey/api.ErrShape", laid_turnkey_api_ErrShape), ("turnkey/api.ErrRange", laid_turnkey_api_ErrRange), ("turnkey/api.ErrMany", laid_turnkey_api_ErrMany), ("turnkey/api.ErrNone", laid_turnkey_api_ErrNone), ("turnkey/api.ErrFull", laid_turnkey_api_ErrFull)], narrowed := true }
def MemStaleUptoSaid : Prop := memStaleUptoRow.holds Tryd.pinned (OpenSpec.upto memStaleSpec)

/-- 'turnkeylaw11.MemSets', WHERE WHAT IT READS IS OF BULK AT MOST 1048576: true; the input reads as it did. -/
def memSetsUptoRow : OpenClaim := { program := "ytnfefbhjdncccaadoor", sum := "a57f0d2eb6ce94b919706fe733b11cd49336afdfaaf58c1347cf7150e991a86d", func := "turnkey/turnkeylaw11.MemSets", spec := "memSets", unfollowed := true, recurses := true, named := ["turnkey/api.ErrRange", "turnkey/api.ErrMany", "turnkey/api.ErrFull", "turnkey/api.ErrShape", "turnkey/api.ErrNone", "turnkey/api.ErrRight"], apart := false, laid := [("turnkey/api.ErrShape", laid_turnkey_api_ErrShape), ("turnkey/api.ErrRange", laid_turnkey_api_ErrRange), ("turnkey/api.ErrMany", laid_turnkey_api_ErrMany), ("turnkey/api.ErrNone", laid_turnkey_api_ErrNone), ("turnkey/api.ErrFull", laid_turnkey_api_ErrFull), ("turnkey/api.ErrRight", laid_turnkey_api_ErrRight)], narrowed := true }
def MemSetsUptoSaid : Prop := memSetsUptoRow.holds Tryd.pinned (OpenSpec.upto memSetsSpec)

/-- 'turnkeylaw17.CpuFaults', WHERE WHAT IT READS IS OF BULK AT MOST 1048576: true; the input reads as it did. -/
def cpuFaultsUptoRow : OpenClaim := { program := "ytnfefbhjdncccaadoor", sum := "a57f0d2eb6ce94b919706fe733b11cd49336afdfaaf58c1347cf7150e991a86d", func := "turnkey/turnkeylaw17.CpuFaults", spec := "cpuFaults", unfollowed := true, recurses := true, named := ["turnkey/api.ErrRange", "turnkey/api.ErrMany", "turnkey/api.ErrFull", "turnkey/api.ErrShape", "turnkey/api.ErrWord"], apart := false, laid := [("turnkey/api.ErrShape", laid_turnkey_api_ErrShape), ("turnkey/api.ErrRange", laid_turnkey_api_ErrRange), ("turnkey/api.ErrMany", laid_turnkey_api_ErrMany), ("turnkey/api.ErrFull", laid_turnkey_api_ErrFull), ("turnkey/api.ErrWord", laid_turnkey_api_ErrWord)], narrowed := true }
def CpuFaultsUptoSaid : Prop := cpuFaultsUptoRow.holds Tryd.pinned (OpenSpec.upto cpuFaultsSpec)

/-- 'turnkeylaw17.CpuInvokes', WHERE WHAT IT READS IS OF BULK AT MOST 1048576: true; the input reads as it did. -/
def cpuInvokesUptoRow : OpenClaim := { program := "ytnfefbhjdncccaadoor", sum := "a57f0d2eb6ce94b919706fe733b11cd49336afdfaaf58c1347cf7150e991a86d", func := "turnkey/turnkeylaw17.CpuInvokes", spec := "cpuInvokes", unfollowed := true, recurses := true, named := ["turnkey/api.ErrRange", "turnkey/api.ErrMany", "turnkey/api.ErrFull", "turnkey/api.ErrShape", "turnkey/api.ErrWord"], apart := false, laid := [("turnkey/api.ErrShape", laid_turnkey_api_ErrShape), ("turnkey/api.ErrRange", laid_turnkey_api_ErrRange), ("turnkey/api.ErrMany", laid_turnkey_api_ErrMany), ("turnkey/api.ErrFull", laid_turnkey_api_ErrFull), ("turnkey/api.ErrWord", laid_turnkey_api_ErrWord)], narrowed := true }
def CpuInvokesUptoSaid : Prop := cpuInvokesUptoRow.holds Tryd.pinned (OpenSpec.upto cpuInvokesSpec)

/-- 'turnkeylaw17.CpuJumps', WHERE WHAT IT READS IS OF BULK AT MOST 1048576: true; the input reads as it did. -/
def cpuJumpsUptoRow : OpenClaim := { program := "ytnfefbhjdncccaadoor", sum := "a57f0d2eb6ce94b919706fe733b11cd49336afdfaaf58c1347cf7150e991a86d", func := "turnkey/turnkeylaw17.CpuJumps", spec := "cpuJumps", unfollowed := true, recurses := true, named := ["turnkey/api.ErrRange", "turnkey/api.ErrMany", "turnkey/api.ErrFull", "turnkey/api.ErrShape", "turnkey/api.ErrWord"], apart := false, laid := [("turnkey/api.ErrShape", laid_turnkey_api_ErrShape), ("turnkey/api.ErrRange", laid_turnkey_api_ErrRange), ("turnkey/api.ErrMany", laid_turnkey_api_ErrMany), ("turnkey/api.ErrFull", laid_turnkey_api_ErrFull), ("turnkey/api.ErrWord", laid_turnkey_api_ErrWord)], narrowed := true }
def CpuJumpsUptoSaid : Prop := cpuJumpsUptoRow.holds Tryd.pinned (OpenSpec.upto cpuJumpsSpec)

/-- 'turnkeylaw17.CpuTakes', WHERE WHAT IT READS IS OF BULK AT MOST 1048576: true; the input reads as it did. -/
def cpuTakesUptoRow : OpenClaim := { program := "ytnfefbhjdncccaadoor", sum := "a57f0d2eb6ce94b919706fe733b11cd49336afdfaaf58c1347cf7150e991a86d", func := "turnkey/turnkeylaw17.CpuTakes", spec := "cpuTakes", unfollowed := true, recurses := true, named := ["turnkey/api.ErrRange", "turnkey/api.ErrMany", "turnkey/api.ErrFull", "turnkey/api.ErrShape", "turnkey/api.ErrWord"], apart := false, laid := [("turnkey/api.ErrShape", laid_turnkey_api_ErrShape), ("turnkey/api.ErrRange", laid_turnkey_api_ErrRange), ("turnkey/api.ErrMany", laid_turnkey_api_ErrMany), ("turnkey/api.ErrFull", laid_turnkey_api_ErrFull), ("turnkey/api.ErrWord", laid_turnkey_api_ErrWord)], narrowed := true }
def CpuTakesUptoSaid : Prop := cpuTakesUptoRow.holds Tryd.pinned (OpenSpec.upto cpuTakesSpec)

/-- 'turnkeylaw17.CpuSteps', WHERE WHAT IT READS IS OF BULK AT MOST 1048576: true; the input reads as it did. -/
def cpuStepsUptoRow : OpenClaim := { program := "ytnfefbhjdncccaadoor", sum := "a57f0d2eb6ce94b919706fe733b11cd49336afdfaaf58c1347cf7150e991a86d", func := "turnkey/turnkeylaw17.CpuSteps", spec := "cpuSteps", unfollowed := true, recurses := true, named := ["turnkey/api.ErrRange", "turnkey/api.ErrMany", "turnkey/api.ErrFull", "turnkey/api.ErrShape", "turnkey/api.ErrWord"], apart := false, laid := [("turnkey/api.ErrShape", laid_turnkey_api_ErrShape), ("turnkey/api.ErrRange", laid_turnkey_api_ErrRange), ("turnkey/api.ErrMany", laid_turnkey_api_ErrMany), ("turnkey/api.ErrFull", laid_turnkey_api_ErrFull), ("turnkey/api.ErrWord", laid_turnkey_api_ErrWord)], narrowed := true }
def CpuStepsUptoSaid : Prop := cpuStepsUptoRow.holds Tryd.pinned (OpenSpec.upto cpuStepsSpec)

/-- 'turnkeylaw17.CpuSums', WHERE WHAT IT READS IS OF BULK AT MOST 1048576: true; the input reads as it did. -/
def cpuSumsUptoRow : OpenClaim := { program := "ytnfefbhjdncccaadoor", sum := "a57f0d2eb6ce94b919706fe733b11cd49336afdfaaf58c1347cf7150e991a86d", func := "turnkey/turnkeylaw17.CpuSums", spec := "cpuSums", unfollowed := true, recurses := true, named := ["turnkey/api.ErrRange", "turnkey/api.ErrMany", "turnkey/api.ErrFull", "turnkey/api.ErrShape", "turnkey/api.ErrWord", "turnkey/api.ErrEnd", "turnkey/api.ErrNone", "turnkey/api.ErrLimit", "turnkey/api.ErrOwn", "turnkey/api.ErrState", "turnkey/api.ErrRight", "turnkey/api.ErrNumber"], apart := false, laid := [("turnkey/api.ErrEnd", laid_turnkey_api_ErrEnd), ("turnkey/api.ErrShape", laid_turnkey_api_ErrShape), ("turnkey/api.ErrRange", laid_turnkey_api_ErrRange), ("turnkey/api.ErrMany", laid_turnkey_api_ErrMany), ("turnkey/api.ErrNone", laid_turnkey_api_ErrNone), ("turnkey/api.ErrFull", laid_turnkey_api_ErrFull), ("turnkey/api.ErrLimit", laid_turnkey_api_ErrLimit), ("turnkey/api.ErrOwn", laid_turnkey_api_ErrOwn), ("turnkey/api.ErrState", laid_turnkey_api_ErrState), ("turnkey/api.ErrRight", laid_turnkey_api_ErrRight), ("turnkey/api.ErrWord", laid_turnkey_api_ErrWord), ("turnkey/api.ErrNumber", laid_turnkey_api_ErrNumber)], narrowed := true }
def CpuSumsUptoSaid : Prop := cpuSumsUptoRow.holds Tryd.pinned (OpenSpec.upto cpuSumsSpec)

/-- 'turnkeylaw17.CpuStores', WHERE WHAT IT READS IS OF BULK AT MOST 1048576: true; the input reads as it did. -/
def cpuStoresUptoRow : OpenClaim := { program := "ytnfefbhjdncccaadoor", sum := "a57f0d2eb6ce94b919706fe733b11cd49336afdfaaf58c1347cf7150e991a86d", func := "turnkey/turnkeylaw17.CpuStores", spec := "cpuStores", unfollowed := true, recurses := true, named := ["turnkey/api.ErrRange", "turnkey/api.ErrMany", "turnkey/api.ErrFull", "turnkey/api.ErrShape", "turnkey/api.ErrWord"], apart := false, laid := [("turnkey/api.ErrShape", laid_turnkey_api_ErrShape), ("turnkey/api.ErrRange", laid_turnkey_api_ErrRange), ("turnkey/api.ErrMany", laid_turnkey_api_ErrMany), ("turnkey/api.ErrFull", laid_turnkey_api_ErrFull), ("turnkey/api.ErrWord", laid_turnkey_api_ErrWord)], narrowed := true }
def CpuStoresUptoSaid : Prop := cpuStoresUptoRow.holds Tryd.pinned (OpenSpec.upto cpuStoresSpec)

/-- 'turnkeylaw17.CpuKeys', WHERE WHAT IT READS IS OF BULK AT MOST 1048576: true; the input reads as it did. -/
def cpuKeysUptoRow : OpenClaim := { program := "ytnfefbhjdncccaadoor", sum := "a57f0d2eb6ce94b919706fe733b11cd49336afdfaaf58c1347cf7150e991a86d", func := "turnkey/turnkeylaw17.CpuKeys", spec := "cpuKeys", unfollowed := true, recurses := true, named := ["turnkey/api.ErrRange", "turnkey/api.ErrMany", "turnkey/api.ErrFull", "turnkey/api.ErrShape", "turnkey/api.ErrWord"], apart := false, laid := [("turnkey/api.ErrShape", laid_turnkey_api_ErrShape), ("turnkey/api.ErrRange", laid_turnkey_api_ErrRange), ("turnkey/api.ErrMany", laid_turnkey_api_ErrMany), ("turnkey/api.ErrFull", laid_turnkey_api_ErrFull), ("turnkey/api.ErrWord", laid_turnkey_api_ErrWord)], narrowed := true }
def CpuKeysUptoSaid : Prop := cpuKeysUptoRow.holds Tryd.pinned (OpenSpec.upto cpuKeysSpec)

end Rows
end Go.Proofs.YtnfefbhjdncccaaDoor
