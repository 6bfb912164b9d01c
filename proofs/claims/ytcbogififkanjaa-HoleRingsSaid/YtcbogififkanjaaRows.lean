/-
  No cell of these rows narrows 'for every input' (looked for: loops, veiled, ifaces, maps, wideKeys, modest, calm, conditions, laid).
  DERIVED. THE GIVEN ROWS OF THIS SEAT. 16 by the template 'for every input the law returns true; each argument reads behind the call as it read before'; 0 by the template 'total and deterministic' (their statements: YtcbogififkanjaaTotals.lean).
  GIVEN WITH THE SEED: the statements are not yours to turn. If you find one false, say at which input.
  Laid BY PROGRAM, IN A SANDBOX (cutbox-rows.mjs): the forced cells as the released guide's own fill.sh prints them over the translation 81a6874873f316ab… (all of the seat's roots in one cut). By AI agents, Wed Nov 11 2026. No macro, syntax, notation, axiom, sorry.
-/
import Derived.Test.YtcbogififkanjaaChecked
import GoSem.Claim
import GoSem.ClaimJoined
import GoSem.ClaimMapViews
import Derived.JoinedTies
import Derived.KernelRfl
namespace Go.Proofs.Ytcbogififkanjaa
/- THE CELL 'sum', in the pinned program and in every row, IS THE sha256 OF THE DUMP (.gsa) THAT YtcbogififkanjaaProg.lean LOADS. Nothing in Lean hashes anything: it is a label: what it is worth is what the hold of that sum in a sandbox is worth. -/
noncomputable def Try.pinned : Pinned := { name := "ytcbogififkanjaa", sum := "81a6874873f316ab9d4fa1ad299fa8d56b6288c27d4b6aefd3377422fbf370c0", checked := Try.checked }
namespace Rows
def none {H : Type} : Left H := { results := [], args := [] }

/-- 'turnkeylaw7.RightLess': WHATEVER THE INPUT: true; the input reads as it did. -/
def rightLessSpec : ChangeSpec := { name := "rightLess", fn := fun _ => fun
  | [d1, d2] => { results := [.lit (.bool true)], args := [d1, d2] }
  | _ => none }
def rightLessRow : OpenClaim := { program := "ytcbogififkanjaa", sum := "81a6874873f316ab9d4fa1ad299fa8d56b6288c27d4b6aefd3377422fbf370c0", func := "turnkey/turnkeylaw7.RightLess", spec := "rightLess", apart := false }
def RightLessSaid : Prop := rightLessRow.holds Try.pinned (OpenSpec.ofChange rightLessSpec)

/-- ITS FALSE NEIGHBOUR: 'it returns false'. Refute it at one input. -/
def rightLessWrong : ChangeSpec := { name := "rightLess", fn := fun _ => fun
  | [d1, d2] => { results := [.lit (.bool false)], args := [d1, d2] }
  | _ => none }
def RightLessWrongFalsely : Prop := rightLessRow.holds Try.pinned (OpenSpec.ofChange rightLessWrong)

/-- 'turnkeylaw7.RightWeakens': WHATEVER THE INPUT: true; the input reads as it did. -/
def rightWeakensSpec : ChangeSpec := { name := "rightWeakens", fn := fun _ => fun
  | [d] => { results := [.lit (.bool true)], args := [d] }
  | _ => none }
def rightWeakensRow : OpenClaim := { program := "ytcbogififkanjaa", sum := "81a6874873f316ab9d4fa1ad299fa8d56b6288c27d4b6aefd3377422fbf370c0", func := "turnkey/turnkeylaw7.RightWeakens", spec := "rightWeakens", apart := false }
def RightWeakensSaid : Prop := rightWeakensRow.holds Try.pinned (OpenSpec.ofChange rightWeakensSpec)

/-- ITS FALSE NEIGHBOUR: 'it returns false'. Refute it at one input. -/
def rightWeakensWrong : ChangeSpec := { name := "rightWeakens", fn := fun _ => fun
  | [d] => { results := [.lit (.bool false)], args := [d] }
  | _ => none }
def RightWeakensWrongFalsely : Prop := rightWeakensRow.holds Try.pinned (OpenSpec.ofChange rightWeakensWrong)

/-- 'turnkeylaw7.RightOrders': WHATEVER THE INPUT: true; the input reads as it did. -/
def rightOrdersSpec : ChangeSpec := { name := "rightOrders", fn := fun _ => fun
  | [d1, d2, d3, d4] => { results := [.lit (.bool true)], args := [d1, d2, d3, d4] }
  | _ => none }
def rightOrdersRow : OpenClaim := { program := "ytcbogififkanjaa", sum := "81a6874873f316ab9d4fa1ad299fa8d56b6288c27d4b6aefd3377422fbf370c0", func := "turnkey/turnkeylaw7.RightOrders", spec := "rightOrders", apart := false }
def RightOrdersSaid : Prop := rightOrdersRow.holds Try.pinned (OpenSpec.ofChange rightOrdersSpec)

/-- ITS FALSE NEIGHBOUR: 'it returns false'. Refute it at one input. -/
def rightOrdersWrong : ChangeSpec := { name := "rightOrders", fn := fun _ => fun
  | [d1, d2, d3, d4] => { results := [.lit (.bool false)], args := [d1, d2, d3, d4] }
  | _ => none }
def RightOrdersWrongFalsely : Prop := rightOrdersRow.holds Try.pinned (OpenSpec.ofChange rightOrdersWrong)

/-- 'turnkeylaw7.RightSays': WHATEVER THE INPUT: true; the input reads as it did. -/
def rightSaysSpec : ChangeSpec := { name := "rightSays", fn := fun _ => fun
  | [d1, d2, d3, d4] => { results := [.lit (.bool true)], args := [d1, d2, d3, d4] }
  | _ => none }
def rightSaysRow : OpenClaim := { program := "ytcbogififkanjaa", sum := "81a6874873f316ab9d4fa1ad299fa8d56b6288c27d4b6aefd3377422fbf370c0", func := "turnkey/turnkeylaw7.RightSays", spec := "rightSays", apart := false }
def RightSaysSaid : Prop := rightSaysRow.holds Try.pinned (OpenSpec.ofChange rightSaysSpec)

/-- ITS FALSE NEIGHBOUR: 'it returns false'. Refute it at one input. -/
def rightSaysWrong : ChangeSpec := { name := "rightSays", fn := fun _ => fun
  | [d1, d2, d3, d4] => { results := [.lit (.bool false)], args := [d1, d2, d3, d4] }
  | _ => none }
def RightSaysWrongFalsely : Prop := rightSaysRow.holds Try.pinned (OpenSpec.ofChange rightSaysWrong)

/-- 'turnkeylaw2.WordRules': WHATEVER THE INPUT: true; the input reads as it did. -/
def wordRulesSpec : ChangeSpec := { name := "wordRules", fn := fun _ => fun
  | [d1, d2] => { results := [.lit (.bool true)], args := [d1, d2] }
  | _ => none }
def wordRulesRow : OpenClaim := { program := "ytcbogififkanjaa", sum := "81a6874873f316ab9d4fa1ad299fa8d56b6288c27d4b6aefd3377422fbf370c0", func := "turnkey/turnkeylaw2.WordRules", spec := "wordRules", apart := false }
def WordRulesSaid : Prop := wordRulesRow.holds Try.pinned (OpenSpec.ofChange wordRulesSpec)

/-- ITS FALSE NEIGHBOUR: 'it returns false'. Refute it at one input. -/
def wordRulesWrong : ChangeSpec := { name := "wordRules", fn := fun _ => fun
  | [d1, d2] => { results := [.lit (.bool false)], args := [d1, d2] }
  | _ => none }
def WordRulesWrongFalsely : Prop := wordRulesRow.holds Try.pinned (OpenSpec.ofChange wordRulesWrong)

/-- 'turnkeylaw2.WordShifts': WHATEVER THE INPUT: true; the input reads as it did. -/
def wordShiftsSpec : ChangeSpec := { name := "wordShifts", fn := fun _ => fun
  | [d1, d2] => { results := [.lit (.bool true)], args := [d1, d2] }
  | _ => none }
def wordShiftsRow : OpenClaim := { program := "ytcbogififkanjaa", sum := "81a6874873f316ab9d4fa1ad299fa8d56b6288c27d4b6aefd3377422fbf370c0", func := "turnkey/turnkeylaw2.WordShifts", spec := "wordShifts", apart := false }
def WordShiftsSaid : Prop := wordShiftsRow.holds Try.pinned (OpenSpec.ofChange wordShiftsSpec)

/-- ITS FALSE NEIGHBOUR: 'it returns false'. Refute it at one input. -/
def wordShiftsWrong : ChangeSpec := { name := "wordShifts", fn := fun _ => fun
  | [d1, d2] => { results := [.lit (.bool false)], args := [d1, d2] }
  | _ => none }
def WordShiftsWrongFalsely : Prop := wordShiftsRow.holds Try.pinned (OpenSpec.ofChange wordShiftsWrong)

/-- 'turnkeylaw2.WordDoes': WHATEVER THE INPUT: true; the input reads as it did. -/
def wordDoesSpec : ChangeSpec := { name := "wordDoes", fn := fun _ => fun
  | [d1, d2, d3] => { results := [.lit (.bool true)], args := [d1, d2, d3] }
  | _ => none }
def wordDoesRow : OpenClaim := { program := "ytcbogififkanjaa", sum := "81a6874873f316ab9d4fa1ad299fa8d56b6288c27d4b6aefd3377422fbf370c0", func := "turnkey/turnkeylaw2.WordDoes", spec := "wordDoes", apart := false }
def WordDoesSaid : Prop := wordDoesRow.holds Try.pinned (OpenSpec.ofChange wordDoesSpec)

/-- ITS FALSE NEIGHBOUR: 'it returns false'. Refute it at one input. -/
def wordDoesWrong : ChangeSpec := { name := "wordDoes", fn := fun _ => fun
  | [d1, d2, d3] => { results := [.lit (.bool false)], args := [d1, d2, d3] }
  | _ => none }
def WordDoesWrongFalsely : Prop := wordDoesRow.holds Try.pinned (OpenSpec.ofChange wordDoesWrong)

/-- 'turnkeylaw2.WordSums': WHATEVER THE INPUT: true; the input reads as it did. -/
def wordSumsSpec : ChangeSpec := { name := "wordSums", fn := fun _ => fun
  | [d1, d2] => { results := [.lit (.bool true)], args := [d1, d2] }
  | _ => none }
def wordSumsRow : OpenClaim := { program := "ytcbogififkanjaa", sum := "81a6874873f316ab9d4fa1ad299fa8d56b6288c27d4b6aefd3377422fbf370c0", func := "turnkey/turnkeylaw2.WordSums", spec := "wordSums", apart := false }
def WordSumsSaid : Prop := wordSumsRow.holds Try.pinned (OpenSpec.ofChange wordSumsSpec)

/-- ITS FALSE NEIGHBOUR: 'it returns false'. Refute it at one input. -/
def wordSumsWrong : ChangeSpec := { name := "wordSums", fn := fun _ => fun
  | [d1, d2] => { results := [.lit (.bool false)], args := [d1, d2] }
  | _ => none }
def WordSumsWrongFalsely : Prop := wordSumsRow.holds Try.pinned (OpenSpec.ofChange wordSumsWrong)

/-- 'turnkeylaw2.WordNames': WHATEVER THE INPUT: true; the input reads as it did. -/
def wordNamesSpec : ChangeSpec := { name := "wordNames", fn := fun _ => fun
  | [d1, d2] => { results := [.lit (.bool true)], args := [d1, d2] }
  | _ => none }
def wordNamesRow : OpenClaim := { program := "ytcbogififkanjaa", sum := "81a6874873f316ab9d4fa1ad299fa8d56b6288c27d4b6aefd3377422fbf370c0", func := "turnkey/turnkeylaw2.WordNames", spec := "wordNames", apart := false }
def WordNamesSaid : Prop := wordNamesRow.holds Try.pinned (OpenSpec.ofChange wordNamesSpec)

/-- ITS FALSE NEIGHBOUR: 'it returns false'. Refute it at one input. -/
def wordNamesWrong : ChangeSpec := { name := "wordNames", fn := fun _ => fun
  | [d1, d2] => { results := [.lit (.bool false)], args := [d1, d2] }
  | _ => none }
def WordNamesWrongFalsely : Prop := wordNamesRow.holds Try.pinned (OpenSpec.ofChange wordNamesWrong)

/-- 'turnkeylaw13.QueueTurns': WHATEVER THE INPUT: true; the input reads as it did. -/
def queueTurnsSpec : ChangeSpec := { name := "queueTurns", fn := fun _ => fun
  | [d1, d2] => { results := [.lit (.bool true)], args := [d1, d2] }
  | _ => none }
def queueTurnsRow : OpenClaim := { program := "ytcbogififkanjaa", sum := "81a6874873f316ab9d4fa1ad299fa8d56b6288c27d4b6aefd3377422fbf370c0", func := "turnkey/turnkeylaw13.QueueTurns", spec := "queueTurns", apart := false }
def QueueTurnsSaid : Prop := queueTurnsRow.holds Try.pinned (OpenSpec.ofChange queueTurnsSpec)

/-- ITS FALSE NEIGHBOUR: 'it returns false'. Refute it at one input. -/
def queueTurnsWrong : ChangeSpec := { name := "queueTurns", fn := fun _ => fun
  | [d1, d2] => { results := [.lit (.bool false)], args := [d1, d2] }
  | _ => none }
def QueueTurnsWrongFalsely : Prop := queueTurnsRow.holds Try.pinned (OpenSpec.ofChange queueTurnsWrong)

/-- 'turnkeylaw13.QueueAll': WHATEVER THE INPUT: true; the input reads as it did. -/
def queueAllSpec : ChangeSpec := { name := "queueAll", fn := fun _ => fun
  | [d1, d2] => { results := [.lit (.bool true)], args := [d1, d2] }
  | _ => none }
def queueAllRow : OpenClaim := { program := "ytcbogififkanjaa", sum := "81a6874873f316ab9d4fa1ad299fa8d56b6288c27d4b6aefd3377422fbf370c0", func := "turnkey/turnkeylaw13.QueueAll", spec := "queueAll", apart := false }
def QueueAllSaid : Prop := queueAllRow.holds Try.pinned (OpenSpec.ofChange queueAllSpec)

/-- ITS FALSE NEIGHBOUR: 'it returns false'. Refute it at one input. -/
def queueAllWrong : ChangeSpec := { name := "queueAll", fn := fun _ => fun
  | [d1, d2] => { results := [.lit (.bool false)], args := [d1, d2] }
  | _ => none }
def QueueAllWrongFalsely : Prop := queueAllRow.holds Try.pinned (OpenSpec.ofChange queueAllWrong)

/-- 'turnkeylaw19.HoleSensory': WHATEVER THE INPUT: true; the input reads as it did. -/
def holeSensorySpec : ChangeSpec := { name := "holeSensory", fn := fun _ => fun
  | [d] => { results := [.lit (.bool true)], args := [d] }
  | _ => none }
def holeSensoryRow : OpenClaim := { program := "ytcbogififkanjaa", sum := "81a6874873f316ab9d4fa1ad299fa8d56b6288c27d4b6aefd3377422fbf370c0", func := "turnkey/turnkeylaw19.HoleSensory", spec := "holeSensory", unfollowed := true, recurses := true, apart := false }
def HoleSensorySaid : Prop := holeSensoryRow.holds Try.pinned (OpenSpec.ofChange holeSensorySpec)

/-- ITS FALSE NEIGHBOUR: 'it returns false'. Refute it at one input. -/
def holeSensoryWrong : ChangeSpec := { name := "holeSensory", fn := fun _ => fun
  | [d] => { results := [.lit (.bool false)], args := [d] }
  | _ => none }
def HoleSensoryWrongFalsely : Prop := holeSensoryRow.holds Try.pinned (OpenSpec.ofChange holeSensoryWrong)

/-- 'turnkeylaw19.HoleChains': WHATEVER THE INPUT: true; the input reads as it did. -/
def holeChainsSpec : ChangeSpec := { name := "holeChains", fn := fun _ => fun
  | [d1, d2, d3] => { results := [.lit (.bool true)], args := [d1, d2, d3] }
  | _ => none }
def holeChainsRow : OpenClaim := { program := "ytcbogififkanjaa", sum := "81a6874873f316ab9d4fa1ad299fa8d56b6288c27d4b6aefd3377422fbf370c0", func := "turnkey/turnkeylaw19.HoleChains", spec := "holeChains", unfollowed := true, recurses := true, apart := false }
def HoleChainsSaid : Prop := holeChainsRow.holds Try.pinned (OpenSpec.ofChange holeChainsSpec)

/-- ITS FALSE NEIGHBOUR: 'it returns false'. Refute it at one input. -/
def holeChainsWrong : ChangeSpec := { name := "holeChains", fn := fun _ => fun
  | [d1, d2, d3] => { results := [.lit (.bool false)], args := [d1, d2, d3] }
  | _ => none }
def HoleChainsWrongFalsely : Prop := holeChainsRow.holds Try.pinned (OpenSpec.ofChange holeChainsWrong)

/-- 'turnkeylaw19.HoleSays': WHATEVER THE INPUT: true; the input reads as it did. -/
def holeSaysSpec : ChangeSpec := { name := "holeSays", fn := fun _ => fun
  | [d1, d2, d3] => { results := [.lit (.bool true)], args := [d1, d2, d3] }
  | _ => none }
def holeSaysRow : OpenClaim := { program := "ytcbogififkanjaa", sum := "81a6874873f316ab9d4fa1ad299fa8d56b6288c27d4b6aefd3377422fbf370c0", func := "turnkey/turnkeylaw19.HoleSays", spec := "holeSays", unfollowed := true, recurses := true, apart := false }
def HoleSaysSaid : Prop := holeSaysRow.holds Try.pinned (OpenSpec.ofChange holeSaysSpec)

/-- ITS FALSE NEIGHBOUR: 'it returns false'. Refute it at one input. -/
def holeSaysWrong : ChangeSpec := { name := "holeSays", fn := fun _ => fun
  | [d1, d2, d3] => { results := [.lit (.bool false)], args := [d1, d2, d3] }
  | _ => none }
def HoleSaysWrongFalsely : Prop := holeSaysRow.holds Try.pinned (OpenSpec.ofChange holeSaysWrong)

/-- 'turnkeylaw19.HoleRings': WHATEVER THE INPUT: true; the input reads as it did. -/
def holeRingsSpec : ChangeSpec := { name := "holeRings", fn := fun _ => fun
  | [d1, d2, d3] => { results := [.lit (.bool true)], args := [d1, d2, d3] }
  | _ => none }
def holeRingsRow : OpenClaim := { program := "ytcbogififkanjaa", sum := "81a6874873f316ab9d4fa1ad299fa8d56b6288c27d4b6aefd3377422fbf370c0", func := "turnkey/turnkeylaw19.HoleRings", spec := "holeRings", unfollowed := true, recurses := true, apart := false }
def HoleRingsSaid : Prop := holeRingsRow.holds Try.pinned (OpenSpec.ofChange holeRingsSpec)

/-- ITS FALSE NEIGHBOUR: 'it returns false'. Refute it at one input. -/
def holeRingsWrong : ChangeSpec := { name := "holeRings", fn := fun _ => fun
  | [d1, d2, d3] => { results := [.lit (.bool false)], args := [d1, d2, d3] }
  | _ => none }
def HoleRingsWrongFalsely : Prop := holeRingsRow.holds Try.pinned (OpenSpec.ofChange holeRingsWrong)

/-- 'turnkeylaw13.QueuePlays': WHATEVER THE INPUT: true; the input reads as it did. -/
def queuePlaysSpec : ChangeSpec := { name := "queuePlays", fn := fun _ => fun
  | [d1, d2] => { results := [.lit (.bool true)], args := [d1, d2] }
  | _ => none }
def queuePlaysRow : OpenClaim := { program := "ytcbogififkanjaa", sum := "81a6874873f316ab9d4fa1ad299fa8d56b6288c27d4b6aefd3377422fbf370c0", func := "turnkey/turnkeylaw13.QueuePlays", spec := "queuePlays", apart := false }
def QueuePlaysSaid : Prop := queuePlaysRow.holds Try.pinned (OpenSpec.ofChange queuePlaysSpec)

/-- ITS FALSE NEIGHBOUR: 'it returns false'. Refute it at one input. -/
def queuePlaysWrong : ChangeSpec := { name := "queuePlays", fn := fun _ => fun
  | [d1, d2] => { results := [.lit (.bool false)], args := [d1, d2] }
  | _ => none }
def QueuePlaysWrongFalsely : Prop := queuePlaysRow.holds Try.pinned (OpenSpec.ofChange queuePlaysWrong)

/- THE SECOND FORM. 'bulk': how many values and letters a reading holds, each counted each time it is reached (what is shared counts as often as it is met; a slice's spare places count too). A statement '..UptoSaid' is the law's where the arguments, and the package variables that the reading takes, are together of bulk at most 1048576: NARROWER than '..Said'. Prove '..Said' where nothing that the law and all that it calls make is longer than what came in: it says more and counts as full. Else prove '..UptoSaid'. A law counts once. -/
mutual
def uptoBulk {H : Type} : DataW H → Nat
  | .lit (.string bytes) => bytes.length + 1
  | .lit _ => 1
  | .nil => 1
  | .ptr d => uptoBulk d + 1
  | .slice elems spare => uptoBulkAll elems + uptoBulkAll spare + 1
  | .agg parts => uptoBulkAll parts + 1
  | .iface _ d => uptoBulk d + 1
  | .map entries => uptoBulkEntries entries + 1
  | .held _ => 1
def uptoBulkAll {H : Type} : List (DataW H) → Nat
  | [] => 0
  | d :: r => uptoBulk d + uptoBulkAll r
def uptoBulkEntries {H : Type} : List (Lit × DataW H) → Nat
  | [] => 0
  | x :: r => uptoBulkEntry x + uptoBulkEntries r
def uptoBulkEntry {H : Type} : Lit × DataW H → Nat
  | (.string bytes, d) => bytes.length + uptoBulk d + 1
  | (_, d) => uptoBulk d + 1
 end
def uptoSmall : (H : Type) → List (DataW H) → Bool := fun _ ds => decide (uptoBulkAll ds ≤ 1048576)
def OpenSpec.upto (s : _root_.Go.ChangeSpec) : _root_.Go.OpenSpec := { _root_.Go.OpenSpec.ofChange s with cond := some uptoSmall }

/-- 'turnkeylaw7.RightLess', WHERE WHAT IT READS IS OF BULK AT MOST 1048576: true; the input reads as it did. -/
def rightLessUptoRow : OpenClaim := { program := "ytcbogififkanjaa", sum := "81a6874873f316ab9d4fa1ad299fa8d56b6288c27d4b6aefd3377422fbf370c0", func := "turnkey/turnkeylaw7.RightLess", spec := "rightLess", apart := false, narrowed := true }
def RightLessUptoSaid : Prop := rightLessUptoRow.holds Try.pinned (OpenSpec.upto rightLessSpec)

/-- 'turnkeylaw7.RightWeakens', WHERE WHAT IT READS IS OF BULK AT MOST 1048576: true; the input reads as it did. -/
def rightWeakensUptoRow : OpenClaim := { program := "ytcbogififkanjaa", sum := "81a6874873f316ab9d4fa1ad299fa8d56b6288c27d4b6aefd3377422fbf370c0", func := "turnkey/turnkeylaw7.RightWeakens", spec := "rightWeakens", apart := false, narrowed := true }
def RightWeakensUptoSaid : Prop := rightWeakensUptoRow.holds Try.pinned (OpenSpec.upto rightWeakensSpec)

/-- 'turnkeylaw7.RightOrders', WHERE WHAT IT READS IS OF BULK AT MOST 1048576: true; the input reads as it did. -/
def rightOrdersUptoRow : OpenClaim := { program := "ytcbogififkanjaa", sum := "81a6874873f316ab9d4fa1ad299fa8d56b6288c27d4b6aefd3377422fbf370c0", func := "turnkey/turnkeylaw7.RightOrders", spec := "rightOrders", apart := false, narrowed := true }
def RightOrdersUptoSaid : Prop := rightOrdersUptoRow.holds Try.pinned (OpenSpec.upto rightOrdersSpec)

/-- 'turnkeylaw7.RightSays', WHERE WHAT IT READS IS OF BULK AT MOST 1048576: true; the input reads as it did. -/
def rightSaysUptoRow : OpenClaim := { program := "ytcbogififkanjaa", sum := "81a6874873f316ab9d4fa1ad299fa8d56b6288c27d4b6aefd3377422fbf370c0", func := "turnkey/turnkeylaw7.RightSays", spec := "rightSays", apart := false, narrowed := true }
def RightSaysUptoSaid : Prop := rightSaysUptoRow.holds Try.pinned (OpenSpec.upto rightSaysSpec)

/-- 'turnkeylaw2.WordRules', WHERE WHAT IT READS IS OF BULK AT MOST 1048576: true; the input reads as it did. -/
def wordRulesUptoRow : OpenClaim := { program := "ytcbogififkanjaa", sum := "81a6874873f316ab9d4fa1ad299fa8d56b6288c27d4b6aefd3377422fbf370c0", func := "turnkey/turnkeylaw2.WordRules", spec := "wordRules", apart := false, narrowed := true }
def WordRulesUptoSaid : Prop := wordRulesUptoRow.holds Try.pinned (OpenSpec.upto wordRulesSpec)

/-- 'turnkeylaw2.WordShifts', WHERE WHAT IT READS IS OF BULK AT MOST 1048576: true; the input reads as it did. -/
def wordShiftsUptoRow : OpenClaim := { program := "ytcbogififkanjaa", sum := "81a6874873f316ab9d4fa1ad299fa8d56b6288c27d4b6aefd3377422fbf370c0", func := "turnkey/turnkeylaw2.WordShifts", spec := "wordShifts", apart := false, narrowed := true }
def WordShiftsUptoSaid : Prop := wordShiftsUptoRow.holds Try.pinned (OpenSpec.upto wordShiftsSpec)

/-- 'turnkeylaw2.WordDoes', WHERE WHAT IT READS IS OF BULK AT MOST 1048576: true; the input reads as it did. -/
def wordDoesUptoRow : OpenClaim := { program := "ytcbogififkanjaa", sum := "81a6874873f316ab9d4fa1ad299fa8d56b6288c27d4b6aefd3377422fbf370c0", func := "turnkey/turnkeylaw2.WordDoes", spec := "wordDoes", apart := false, narrowed := true }
def WordDoesUptoSaid : Prop := wordDoesUptoRow.holds Try.pinned (OpenSpec.upto wordDoesSpec)

/-- 'turnkeylaw2.WordSums', WHERE WHAT IT READS IS OF BULK AT MOST 1048576: true; the input reads as it did. -/
def wordSumsUptoRow : OpenClaim := { program := "ytcbogififkanjaa", sum := "81a6874873f316ab9d4fa1ad299fa8d56b6288c27d4b6aefd3377422fbf370c0", func := "turnkey/turnkeylaw2.WordSums", spec := "wordSums", apart := false, narrowed := true }
def WordSumsUptoSaid : Prop := wordSumsUptoRow.holds Try.pinned (OpenSpec.upto wordSumsSpec)

/-- 'turnkeylaw2.WordNames', WHERE WHAT IT READS IS OF BULK AT MOST 1048576: true; the input reads as it did. -/
def wordNamesUptoRow : OpenClaim := { program := "ytcbogififkanjaa", sum := "81a6874873f316ab9d4fa1ad299fa8d56b6288c27d4b6aefd3377422fbf370c0", func := "turnkey/turnkeylaw2.WordNames", spec := "wordNames", apart := false, narrowed := true }
def WordNamesUptoSaid : Prop := wordNamesUptoRow.holds Try.pinned (OpenSpec.upto wordNamesSpec)

/-- 'turnkeylaw13.QueueTurns', WHERE WHAT IT READS IS OF BULK AT MOST 1048576: true; the input reads as it did. -/
def queueTurnsUptoRow : OpenClaim := { program := "ytcbogififkanjaa", sum := "81a6874873f316ab9d4fa1ad299fa8d56b6288c27d4b6aefd3377422fbf370c0", func := "turnkey/turnkeylaw13.QueueTurns", spec := "queueTurns", apart := false, narrowed := true }
def QueueTurnsUptoSaid : Prop := queueTurnsUptoRow.holds Try.pinned (OpenSpec.upto queueTurnsSpec)

/-- 'turnkeylaw13.QueueAll', WHERE WHAT IT READS IS OF BULK AT MOST 1048576: true; the input reads as it did. -/
def queueAllUptoRow : OpenClaim := { program := "ytcbogififkanjaa", sum := "81a6874873f316ab9d4fa1ad299fa8d56b6288c27d4b6aefd3377422fbf370c0", func := "turnkey/turnkeylaw13.QueueAll", spec := "queueAll", apart := false, narrowed := true }
def QueueAllUptoSaid : Prop := queueAllUptoRow.holds Try.pinned (OpenSpec.upto queueAllSpec)

/-- 'turnkeylaw19.HoleSensory', WHERE WHAT IT READS IS OF BULK AT MOST 1048576: true; the input reads as it did. -/
def holeSensoryUptoRow : OpenClaim := { program := "ytcbogififkanjaa", sum := "81a6874873f316ab9d4fa1ad299fa8d56b6288c27d4b6aefd3377422fbf370c0", func := "turnkey/turnkeylaw19.HoleSensory", spec := "holeSensory", unfollowed := true, recurses := true, apart := false, narrowed := true }
def HoleSensoryUptoSaid : Prop := holeSensoryUptoRow.holds Try.pinned (OpenSpec.upto holeSensorySpec)

/-- 'turnkeylaw19.HoleChains', WHERE WHAT IT READS IS OF BULK AT MOST 1048576: true; the input reads as it did. -/
def holeChainsUptoRow : OpenClaim := { program := "ytcbogififkanjaa", sum := "81a6874873f316ab9d4fa1ad299fa8d56b6288c27d4b6aefd3377422fbf370c0", func := "turnkey/turnkeylaw19.HoleChains", spec := "holeChains", unfollowed := true, recurses := true, apart := false, narrowed := true }
def HoleChainsUptoSaid : Prop := holeChainsUptoRow.holds Try.pinned (OpenSpec.upto holeChainsSpec)

/-- 'turnkeylaw19.HoleSays', WHERE WHAT IT READS IS OF BULK AT MOST 1048576: true; the input reads as it did. -/
def holeSaysUptoRow : OpenClaim := { program := "ytcbogififkanjaa", sum := "81a6874873f316ab9d4fa1ad299fa8d56b6288c27d4b6aefd3377422fbf370c0", func := "turnkey/turnkeylaw19.HoleSays", spec := "holeSays", unfollowed := true, recurses := true, apart := false, narrowed := true }
def HoleSaysUptoSaid : Prop := holeSaysUptoRow.holds Try.pinned (OpenSpec.upto holeSaysSpec)

/-- 'turnkeylaw19.HoleRings', WHERE WHAT IT READS IS OF BULK AT MOST 1048576: true; the input reads as it did. -/
def holeRingsUptoRow : OpenClaim := { program := "ytcbogififkanjaa", sum := "81a6874873f316ab9d4fa1ad299fa8d56b6288c27d4b6aefd3377422fbf370c0", func := "turnkey/turnkeylaw19.HoleRings", spec := "holeRings", unfollowed := true, recurses := true, apart := false, narrowed := true }
def HoleRingsUptoSaid : Prop := holeRingsUptoRow.holds Try.pinned (OpenSpec.upto holeRingsSpec)

/-- 'turnkeylaw13.QueuePlays', WHERE WHAT IT READS IS OF BULK AT MOST 1048576: true; the input reads as it did. -/
def queuePlaysUptoRow : OpenClaim := { program := "ytcbogififkanjaa", sum := "81a6874873f316ab9d4fa1ad299fa8d56b6288c27d4b6aefd3377422fbf370c0", func := "turnkey/turnkeylaw13.QueuePlays", spec := "queuePlays", apart := false, narrowed := true }
def QueuePlaysUptoSaid : Prop := queuePlaysUptoRow.holds Try.pinned (OpenSpec.upto queuePlaysSpec)

end Rows
end Go.Proofs.Ytcbogififkanjaa
